/- Walks: kcode.ranges; no condition. -/
import Derived.Test.YtgnekniabedomaaKk
namespace Go.Proofs.Ytgnekniabedomaa
set_option linter.unusedVariables false
set_option linter.unusedSimpArgs false
open Go.RowKit
theorem within1_any (n a b : Int) (g : Nat) (w : World) (h0 : w.cell? ⟨g, 0, none⟩ = some (.int .i64 a)) (h1 : w.cell? ⟨g, 1, none⟩ = some (.int .i64 b)) :
    Calls Try.prog 36 #[.int .i64 n, .slice (some ⟨g, 0, none⟩) 1 1] w fun e w' => e = .returned (.bool (K.inAny n [(a, b)])) ∧ Bel w w' :=
  within_any n g 0 1 [(a, b)] (by simp) w (fun j hj => by obtain rfl : j = 0 := by simpa using hj
                                                          exact h0) (fun j hj => by obtain rfl : j = 0 := by simpa using hj
                                                                                    exact h1)
def K.most (op : Int) : Int := if op = 129 then 3 else if op = 130 then 4 else 7
/-- The fields are in their ranges. -/
def K.rng (i : K.Ins) : Bool := K.inAny i.d [(0, 7)] && (K.inAny i.s [(0, K.most i.op)] && (K.inAny i.ix [(-1, 7)] && K.inAny i.sc [(0, 3)]))
set_option maxHeartbeats 4000000 in
theorem ranges_1_3 (i : K.Ins) (ho : (i.op == 129) = true) (h0 : K.inAny i.d [(0, 7)] = false) (w : World) :
    Calls Try.prog 33 #[.agg #[.int .i64 i.op, .int .i64 i.d, .int .i64 i.s, .int .i64 i.ix, .int .i64 i.sc, .int .u32 i.imm, .int .i64 i.sz]] w fun e w' => e = .returned (.bool false) ∧ Bel w w' := by
  go_enter Try.func33, Try.ntmps33
  go_wp2_with (first
    | (go_at_call 36; with_reducible refine (within1_any i.d 0 7 _ _ ?_ ?_).mono ?_; go_simp; go_simp; rintro e w2 ⟨rfl, hb2⟩; have hs2 := hb2.size; simp at hs2; have y2 := Bel.at hb2 (ad := ⟨w.heap.size, 2, none⟩) (v := .int .i64 i.s) (by first | assumption | (go_simp)); have y3 := Bel.at hb2 (ad := ⟨w.heap.size, 3, none⟩) (v := .int .i64 i.ix) (by first | assumption | (go_simp)); have y4 := Bel.at hb2 (ad := ⟨w.heap.size, 4, none⟩) (v := .int .i64 i.sc) (by first | assumption | (go_simp)); have hl2 : w.heap.size < w2.heap.size := by omega)
    | (go_at_call 36; with_reducible refine (within1_any i.s 0 3 _ _ ?_ ?_).mono ?_; go_simp; go_simp; rintro e w3 ⟨rfl, hb3⟩; have hs3 := hb3.size; simp at hs3; have z3 := Bel.at hb3 (ad := ⟨w.heap.size, 3, none⟩) (v := .int .i64 i.ix) (by first | assumption | (go_simp)); have z4 := Bel.at hb3 (ad := ⟨w.heap.size, 4, none⟩) (v := .int .i64 i.sc) (by first | assumption | (go_simp)); have hl3 : w.heap.size < w3.heap.size := by omega)
    | (go_at_call 36; with_reducible refine (within1_any i.ix (-1) 7 _ _ ?_ ?_).mono ?_; go_simp; go_simp; rintro e w4 ⟨rfl, hb4⟩; have hs4 := hb4.size; simp at hs4; have x4 := Bel.at hb4 (ad := ⟨w.heap.size, 4, none⟩) (v := .int .i64 i.sc) (by first | assumption | (go_simp)); have hl4 : w.heap.size < w4.heap.size := by omega)
    | (go_at_call 36; with_reducible refine (within1_any i.sc 0 3 _ _ ?_ ?_).mono ?_; go_simp; go_simp; rintro e w5 ⟨rfl, hb5⟩))
  go_ret
  exact ⟨rfl, (by repeat (first | assumption | exact Bel.refl _ | refine Bel.drew ?_ | refine Bel.drewN ?_ _ | refine Bel.alloc ?_ _ | (refine Bel.trans ?_ (by assumption)) | (refine Bel.then ?_ (by assumption) (by intro x hx; first | (subst hx; simp; done) | (simp at *; omega)))))⟩
set_option maxHeartbeats 4000000 in
theorem ranges_1_4 (i : K.Ins) (ho : (i.op == 129) = false) (ho2 : (i.op == 130) = true) (h0 : K.inAny i.d [(0, 7)] = false) (w : World) :
    Calls Try.prog 33 #[.agg #[.int .i64 i.op, .int .i64 i.d, .int .i64 i.s, .int .i64 i.ix, .int .i64 i.sc, .int .u32 i.imm, .int .i64 i.sz]] w fun e w' => e = .returned (.bool false) ∧ Bel w w' := by
  go_enter Try.func33, Try.ntmps33
  go_wp2_with (first
    | (go_at_call 36; with_reducible refine (within1_any i.d 0 7 _ _ ?_ ?_).mono ?_; go_simp; go_simp; rintro e w2 ⟨rfl, hb2⟩; have hs2 := hb2.size; simp at hs2; have y2 := Bel.at hb2 (ad := ⟨w.heap.size, 2, none⟩) (v := .int .i64 i.s) (by first | assumption | (go_simp)); have y3 := Bel.at hb2 (ad := ⟨w.heap.size, 3, none⟩) (v := .int .i64 i.ix) (by first | assumption | (go_simp)); have y4 := Bel.at hb2 (ad := ⟨w.heap.size, 4, none⟩) (v := .int .i64 i.sc) (by first | assumption | (go_simp)); have hl2 : w.heap.size < w2.heap.size := by omega)
    | (go_at_call 36; with_reducible refine (within1_any i.s 0 4 _ _ ?_ ?_).mono ?_; go_simp; go_simp; rintro e w3 ⟨rfl, hb3⟩; have hs3 := hb3.size; simp at hs3; have z3 := Bel.at hb3 (ad := ⟨w.heap.size, 3, none⟩) (v := .int .i64 i.ix) (by first | assumption | (go_simp)); have z4 := Bel.at hb3 (ad := ⟨w.heap.size, 4, none⟩) (v := .int .i64 i.sc) (by first | assumption | (go_simp)); have hl3 : w.heap.size < w3.heap.size := by omega)
    | (go_at_call 36; with_reducible refine (within1_any i.ix (-1) 7 _ _ ?_ ?_).mono ?_; go_simp; go_simp; rintro e w4 ⟨rfl, hb4⟩; have hs4 := hb4.size; simp at hs4; have x4 := Bel.at hb4 (ad := ⟨w.heap.size, 4, none⟩) (v := .int .i64 i.sc) (by first | assumption | (go_simp)); have hl4 : w.heap.size < w4.heap.size := by omega)
    | (go_at_call 36; with_reducible refine (within1_any i.sc 0 3 _ _ ?_ ?_).mono ?_; go_simp; go_simp; rintro e w5 ⟨rfl, hb5⟩))
  go_ret
  exact ⟨rfl, (by repeat (first | assumption | exact Bel.refl _ | refine Bel.drew ?_ | refine Bel.drewN ?_ _ | refine Bel.alloc ?_ _ | (refine Bel.trans ?_ (by assumption)) | (refine Bel.then ?_ (by assumption) (by intro x hx; first | (subst hx; simp; done) | (simp at *; omega)))))⟩
set_option maxHeartbeats 4000000 in
theorem ranges_1_7 (i : K.Ins) (ho : (i.op == 129) = false) (ho2 : (i.op == 130) = false) (h0 : K.inAny i.d [(0, 7)] = false) (w : World) :
    Calls Try.prog 33 #[.agg #[.int .i64 i.op, .int .i64 i.d, .int .i64 i.s, .int .i64 i.ix, .int .i64 i.sc, .int .u32 i.imm, .int .i64 i.sz]] w fun e w' => e = .returned (.bool false) ∧ Bel w w' := by
  go_enter Try.func33, Try.ntmps33
  go_wp2_with (first
    | (go_at_call 36; with_reducible refine (within1_any i.d 0 7 _ _ ?_ ?_).mono ?_; go_simp; go_simp; rintro e w2 ⟨rfl, hb2⟩; have hs2 := hb2.size; simp at hs2; have y2 := Bel.at hb2 (ad := ⟨w.heap.size, 2, none⟩) (v := .int .i64 i.s) (by first | assumption | (go_simp)); have y3 := Bel.at hb2 (ad := ⟨w.heap.size, 3, none⟩) (v := .int .i64 i.ix) (by first | assumption | (go_simp)); have y4 := Bel.at hb2 (ad := ⟨w.heap.size, 4, none⟩) (v := .int .i64 i.sc) (by first | assumption | (go_simp)); have hl2 : w.heap.size < w2.heap.size := by omega)
    | (go_at_call 36; with_reducible refine (within1_any i.s 0 7 _ _ ?_ ?_).mono ?_; go_simp; go_simp; rintro e w3 ⟨rfl, hb3⟩; have hs3 := hb3.size; simp at hs3; have z3 := Bel.at hb3 (ad := ⟨w.heap.size, 3, none⟩) (v := .int .i64 i.ix) (by first | assumption | (go_simp)); have z4 := Bel.at hb3 (ad := ⟨w.heap.size, 4, none⟩) (v := .int .i64 i.sc) (by first | assumption | (go_simp)); have hl3 : w.heap.size < w3.heap.size := by omega)
    | (go_at_call 36; with_reducible refine (within1_any i.ix (-1) 7 _ _ ?_ ?_).mono ?_; go_simp; go_simp; rintro e w4 ⟨rfl, hb4⟩; have hs4 := hb4.size; simp at hs4; have x4 := Bel.at hb4 (ad := ⟨w.heap.size, 4, none⟩) (v := .int .i64 i.sc) (by first | assumption | (go_simp)); have hl4 : w.heap.size < w4.heap.size := by omega)
    | (go_at_call 36; with_reducible refine (within1_any i.sc 0 3 _ _ ?_ ?_).mono ?_; go_simp; go_simp; rintro e w5 ⟨rfl, hb5⟩))
  go_ret
  exact ⟨rfl, (by repeat (first | assumption | exact Bel.refl _ | refine Bel.drew ?_ | refine Bel.drewN ?_ _ | refine Bel.alloc ?_ _ | (refine Bel.trans ?_ (by assumption)) | (refine Bel.then ?_ (by assumption) (by intro x hx; first | (subst hx; simp; done) | (simp at *; omega)))))⟩
set_option maxHeartbeats 4000000 in
theorem ranges_2_3 (i : K.Ins) (ho : (i.op == 129) = true) (h0 : K.inAny i.d [(0, 7)] = true) (h1 : K.inAny i.s [(0, 3)] = false) (w : World) :
    Calls Try.prog 33 #[.agg #[.int .i64 i.op, .int .i64 i.d, .int .i64 i.s, .int .i64 i.ix, .int .i64 i.sc, .int .u32 i.imm, .int .i64 i.sz]] w fun e w' => e = .returned (.bool false) ∧ Bel w w' := by
  go_enter Try.func33, Try.ntmps33
  go_wp2_with (first
    | (go_at_call 36; with_reducible refine (within1_any i.d 0 7 _ _ ?_ ?_).mono ?_; go_simp; go_simp; rintro e w2 ⟨rfl, hb2⟩; have hs2 := hb2.size; simp at hs2; have y2 := Bel.at hb2 (ad := ⟨w.heap.size, 2, none⟩) (v := .int .i64 i.s) (by first | assumption | (go_simp)); have y3 := Bel.at hb2 (ad := ⟨w.heap.size, 3, none⟩) (v := .int .i64 i.ix) (by first | assumption | (go_simp)); have y4 := Bel.at hb2 (ad := ⟨w.heap.size, 4, none⟩) (v := .int .i64 i.sc) (by first | assumption | (go_simp)); have hl2 : w.heap.size < w2.heap.size := by omega)
    | (go_at_call 36; with_reducible refine (within1_any i.s 0 3 _ _ ?_ ?_).mono ?_; go_simp; go_simp; rintro e w3 ⟨rfl, hb3⟩; have hs3 := hb3.size; simp at hs3; have z3 := Bel.at hb3 (ad := ⟨w.heap.size, 3, none⟩) (v := .int .i64 i.ix) (by first | assumption | (go_simp)); have z4 := Bel.at hb3 (ad := ⟨w.heap.size, 4, none⟩) (v := .int .i64 i.sc) (by first | assumption | (go_simp)); have hl3 : w.heap.size < w3.heap.size := by omega)
    | (go_at_call 36; with_reducible refine (within1_any i.ix (-1) 7 _ _ ?_ ?_).mono ?_; go_simp; go_simp; rintro e w4 ⟨rfl, hb4⟩; have hs4 := hb4.size; simp at hs4; have x4 := Bel.at hb4 (ad := ⟨w.heap.size, 4, none⟩) (v := .int .i64 i.sc) (by first | assumption | (go_simp)); have hl4 : w.heap.size < w4.heap.size := by omega)
    | (go_at_call 36; with_reducible refine (within1_any i.sc 0 3 _ _ ?_ ?_).mono ?_; go_simp; go_simp; rintro e w5 ⟨rfl, hb5⟩))
  go_ret
  exact ⟨rfl, (by repeat (first | assumption | exact Bel.refl _ | refine Bel.drew ?_ | refine Bel.drewN ?_ _ | refine Bel.alloc ?_ _ | (refine Bel.trans ?_ (by assumption)) | (refine Bel.then ?_ (by assumption) (by intro x hx; first | (subst hx; simp; done) | (simp at *; omega)))))⟩
set_option maxHeartbeats 4000000 in
theorem ranges_2_4 (i : K.Ins) (ho : (i.op == 129) = false) (ho2 : (i.op == 130) = true) (h0 : K.inAny i.d [(0, 7)] = true) (h1 : K.inAny i.s [(0, 4)] = false) (w : World) :
    Calls Try.prog 33 #[.agg #[.int .i64 i.op, .int .i64 i.d, .int .i64 i.s, .int .i64 i.ix, .int .i64 i.sc, .int .u32 i.imm, .int .i64 i.sz]] w fun e w' => e = .returned (.bool false) ∧ Bel w w' := by
  go_enter Try.func33, Try.ntmps33
  go_wp2_with (first
    | (go_at_call 36; with_reducible refine (within1_any i.d 0 7 _ _ ?_ ?_).mono ?_; go_simp; go_simp; rintro e w2 ⟨rfl, hb2⟩; have hs2 := hb2.size; simp at hs2; have y2 := Bel.at hb2 (ad := ⟨w.heap.size, 2, none⟩) (v := .int .i64 i.s) (by first | assumption | (go_simp)); have y3 := Bel.at hb2 (ad := ⟨w.heap.size, 3, none⟩) (v := .int .i64 i.ix) (by first | assumption | (go_simp)); have y4 := Bel.at hb2 (ad := ⟨w.heap.size, 4, none⟩) (v := .int .i64 i.sc) (by first | assumption | (go_simp)); have hl2 : w.heap.size < w2.heap.size := by omega)
    | (go_at_call 36; with_reducible refine (within1_any i.s 0 4 _ _ ?_ ?_).mono ?_; go_simp; go_simp; rintro e w3 ⟨rfl, hb3⟩; have hs3 := hb3.size; simp at hs3; have z3 := Bel.at hb3 (ad := ⟨w.heap.size, 3, none⟩) (v := .int .i64 i.ix) (by first | assumption | (go_simp)); have z4 := Bel.at hb3 (ad := ⟨w.heap.size, 4, none⟩) (v := .int .i64 i.sc) (by first | assumption | (go_simp)); have hl3 : w.heap.size < w3.heap.size := by omega)
    | (go_at_call 36; with_reducible refine (within1_any i.ix (-1) 7 _ _ ?_ ?_).mono ?_; go_simp; go_simp; rintro e w4 ⟨rfl, hb4⟩; have hs4 := hb4.size; simp at hs4; have x4 := Bel.at hb4 (ad := ⟨w.heap.size, 4, none⟩) (v := .int .i64 i.sc) (by first | assumption | (go_simp)); have hl4 : w.heap.size < w4.heap.size := by omega)
    | (go_at_call 36; with_reducible refine (within1_any i.sc 0 3 _ _ ?_ ?_).mono ?_; go_simp; go_simp; rintro e w5 ⟨rfl, hb5⟩))
  go_ret
  exact ⟨rfl, (by repeat (first | assumption | exact Bel.refl _ | refine Bel.drew ?_ | refine Bel.drewN ?_ _ | refine Bel.alloc ?_ _ | (refine Bel.trans ?_ (by assumption)) | (refine Bel.then ?_ (by assumption) (by intro x hx; first | (subst hx; simp; done) | (simp at *; omega)))))⟩
set_option maxHeartbeats 4000000 in
theorem ranges_2_7 (i : K.Ins) (ho : (i.op == 129) = false) (ho2 : (i.op == 130) = false) (h0 : K.inAny i.d [(0, 7)] = true) (h1 : K.inAny i.s [(0, 7)] = false) (w : World) :
    Calls Try.prog 33 #[.agg #[.int .i64 i.op, .int .i64 i.d, .int .i64 i.s, .int .i64 i.ix, .int .i64 i.sc, .int .u32 i.imm, .int .i64 i.sz]] w fun e w' => e = .returned (.bool false) ∧ Bel w w' := by
  go_enter Try.func33, Try.ntmps33
  go_wp2_with (first
    | (go_at_call 36; with_reducible refine (within1_any i.d 0 7 _ _ ?_ ?_).mono ?_; go_simp; go_simp; rintro e w2 ⟨rfl, hb2⟩; have hs2 := hb2.size; simp at hs2; have y2 := Bel.at hb2 (ad := ⟨w.heap.size, 2, none⟩) (v := .int .i64 i.s) (by first | assumption | (go_simp)); have y3 := Bel.at hb2 (ad := ⟨w.heap.size, 3, none⟩) (v := .int .i64 i.ix) (by first | assumption | (go_simp)); have y4 := Bel.at hb2 (ad := ⟨w.heap.size, 4, none⟩) (v := .int .i64 i.sc) (by first | assumption | (go_simp)); have hl2 : w.heap.size < w2.heap.size := by omega)
    | (go_at_call 36; with_reducible refine (within1_any i.s 0 7 _ _ ?_ ?_).mono ?_; go_simp; go_simp; rintro e w3 ⟨rfl, hb3⟩; have hs3 := hb3.size; simp at hs3; have z3 := Bel.at hb3 (ad := ⟨w.heap.size, 3, none⟩) (v := .int .i64 i.ix) (by first | assumption | (go_simp)); have z4 := Bel.at hb3 (ad := ⟨w.heap.size, 4, none⟩) (v := .int .i64 i.sc) (by first | assumption | (go_simp)); have hl3 : w.heap.size < w3.heap.size := by omega)
    | (go_at_call 36; with_reducible refine (within1_any i.ix (-1) 7 _ _ ?_ ?_).mono ?_; go_simp; go_simp; rintro e w4 ⟨rfl, hb4⟩; have hs4 := hb4.size; simp at hs4; have x4 := Bel.at hb4 (ad := ⟨w.heap.size, 4, none⟩) (v := .int .i64 i.sc) (by first | assumption | (go_simp)); have hl4 : w.heap.size < w4.heap.size := by omega)
    | (go_at_call 36; with_reducible refine (within1_any i.sc 0 3 _ _ ?_ ?_).mono ?_; go_simp; go_simp; rintro e w5 ⟨rfl, hb5⟩))
  go_ret
  exact ⟨rfl, (by repeat (first | assumption | exact Bel.refl _ | refine Bel.drew ?_ | refine Bel.drewN ?_ _ | refine Bel.alloc ?_ _ | (refine Bel.trans ?_ (by assumption)) | (refine Bel.then ?_ (by assumption) (by intro x hx; first | (subst hx; simp; done) | (simp at *; omega)))))⟩
set_option maxHeartbeats 4000000 in
theorem ranges_3_3 (i : K.Ins) (ho : (i.op == 129) = true) (h0 : K.inAny i.d [(0, 7)] = true) (h1 : K.inAny i.s [(0, 3)] = true) (h2 : K.inAny i.ix [(-1, 7)] = false) (w : World) :
    Calls Try.prog 33 #[.agg #[.int .i64 i.op, .int .i64 i.d, .int .i64 i.s, .int .i64 i.ix, .int .i64 i.sc, .int .u32 i.imm, .int .i64 i.sz]] w fun e w' => e = .returned (.bool false) ∧ Bel w w' := by
  go_enter Try.func33, Try.ntmps33
  go_wp2_with (first
    | (go_at_call 36; with_reducible refine (within1_any i.d 0 7 _ _ ?_ ?_).mono ?_; go_simp; go_simp; rintro e w2 ⟨rfl, hb2⟩; have hs2 := hb2.size; simp at hs2; have y2 := Bel.at hb2 (ad := ⟨w.heap.size, 2, none⟩) (v := .int .i64 i.s) (by first | assumption | (go_simp)); have y3 := Bel.at hb2 (ad := ⟨w.heap.size, 3, none⟩) (v := .int .i64 i.ix) (by first | assumption | (go_simp)); have y4 := Bel.at hb2 (ad := ⟨w.heap.size, 4, none⟩) (v := .int .i64 i.sc) (by first | assumption | (go_simp)); have hl2 : w.heap.size < w2.heap.size := by omega)
    | (go_at_call 36; with_reducible refine (within1_any i.s 0 3 _ _ ?_ ?_).mono ?_; go_simp; go_simp; rintro e w3 ⟨rfl, hb3⟩; have hs3 := hb3.size; simp at hs3; have z3 := Bel.at hb3 (ad := ⟨w.heap.size, 3, none⟩) (v := .int .i64 i.ix) (by first | assumption | (go_simp)); have z4 := Bel.at hb3 (ad := ⟨w.heap.size, 4, none⟩) (v := .int .i64 i.sc) (by first | assumption | (go_simp)); have hl3 : w.heap.size < w3.heap.size := by omega)
    | (go_at_call 36; with_reducible refine (within1_any i.ix (-1) 7 _ _ ?_ ?_).mono ?_; go_simp; go_simp; rintro e w4 ⟨rfl, hb4⟩; have hs4 := hb4.size; simp at hs4; have x4 := Bel.at hb4 (ad := ⟨w.heap.size, 4, none⟩) (v := .int .i64 i.sc) (by first | assumption | (go_simp)); have hl4 : w.heap.size < w4.heap.size := by omega)
    | (go_at_call 36; with_reducible refine (within1_any i.sc 0 3 _ _ ?_ ?_).mono ?_; go_simp; go_simp; rintro e w5 ⟨rfl, hb5⟩))
  go_ret
  exact ⟨rfl, (by repeat (first | assumption | exact Bel.refl _ | refine Bel.drew ?_ | refine Bel.drewN ?_ _ | refine Bel.alloc ?_ _ | (refine Bel.trans ?_ (by assumption)) | (refine Bel.then ?_ (by assumption) (by intro x hx; first | (subst hx; simp; done) | (simp at *; omega)))))⟩
set_option maxHeartbeats 4000000 in
theorem ranges_3_4 (i : K.Ins) (ho : (i.op == 129) = false) (ho2 : (i.op == 130) = true) (h0 : K.inAny i.d [(0, 7)] = true) (h1 : K.inAny i.s [(0, 4)] = true) (h2 : K.inAny i.ix [(-1, 7)] = false) (w : World) :
    Calls Try.prog 33 #[.agg #[.int .i64 i.op, .int .i64 i.d, .int .i64 i.s, .int .i64 i.ix, .int .i64 i.sc, .int .u32 i.imm, .int .i64 i.sz]] w fun e w' => e = .returned (.bool false) ∧ Bel w w' := by
  go_enter Try.func33, Try.ntmps33
  go_wp2_with (first
    | (go_at_call 36; with_reducible refine (within1_any i.d 0 7 _ _ ?_ ?_).mono ?_; go_simp; go_simp; rintro e w2 ⟨rfl, hb2⟩; have hs2 := hb2.size; simp at hs2; have y2 := Bel.at hb2 (ad := ⟨w.heap.size, 2, none⟩) (v := .int .i64 i.s) (by first | assumption | (go_simp)); have y3 := Bel.at hb2 (ad := ⟨w.heap.size, 3, none⟩) (v := .int .i64 i.ix) (by first | assumption | (go_simp)); have y4 := Bel.at hb2 (ad := ⟨w.heap.size, 4, none⟩) (v := .int .i64 i.sc) (by first | assumption | (go_simp)); have hl2 : w.heap.size < w2.heap.size := by omega)
    | (go_at_call 36; with_reducible refine (within1_any i.s 0 4 _ _ ?_ ?_).mono ?_; go_simp; go_simp; rintro e w3 ⟨rfl, hb3⟩; have hs3 := hb3.size; simp at hs3; have z3 := Bel.at hb3 (ad := ⟨w.heap.size, 3, none⟩) (v := .int .i64 i.ix) (by first | assumption | (go_simp)); have z4 := Bel.at hb3 (ad := ⟨w.heap.size, 4, none⟩) (v := .int .i64 i.sc) (by first | assumption | (go_simp)); have hl3 : w.heap.size < w3.heap.size := by omega)
    | (go_at_call 36; with_reducible refine (within1_any i.ix (-1) 7 _ _ ?_ ?_).mono ?_; go_simp; go_simp; rintro e w4 ⟨rfl, hb4⟩; have hs4 := hb4.size; simp at hs4; have x4 := Bel.at hb4 (ad := ⟨w.heap.size, 4, none⟩) (v := .int .i64 i.sc) (by first | assumption | (go_simp)); have hl4 : w.heap.size < w4.heap.size := by omega)
    | (go_at_call 36; with_reducible refine (within1_any i.sc 0 3 _ _ ?_ ?_).mono ?_; go_simp; go_simp; rintro e w5 ⟨rfl, hb5⟩))
  go_ret
  exact ⟨rfl, (by repeat (first | assumption | exact Bel.refl _ | refine Bel.drew ?_ | refine Bel.drewN ?_ _ | refine Bel.alloc ?_ _ | (refine Bel.trans ?_ (by assumption)) | (refine Bel.then ?_ (by assumption) (by intro x hx; first | (subst hx; simp; done) | (simp at *; omega)))))⟩
set_option maxHeartbeats 4000000 in
theorem ranges_3_7 (i : K.Ins) (ho : (i.op == 129) = false) (ho2 : (i.op == 130) = false) (h0 : K.inAny i.d [(0, 7)] = true) (h1 : K.inAny i.s [(0, 7)] = true) (h2 : K.inAny i.ix [(-1, 7)] = false) (w : World) :
    Calls Try.prog 33 #[.agg #[.int .i64 i.op, .int .i64 i.d, .int .i64 i.s, .int .i64 i.ix, .int .i64 i.sc, .int .u32 i.imm, .int .i64 i.sz]] w fun e w' => e = .returned (.bool false) ∧ Bel w w' := by
  go_enter Try.func33, Try.ntmps33
  go_wp2_with (first
    | (go_at_call 36; with_reducible refine (within1_any i.d 0 7 _ _ ?_ ?_).mono ?_; go_simp; go_simp; rintro e w2 ⟨rfl, hb2⟩; have hs2 := hb2.size; simp at hs2; have y2 := Bel.at hb2 (ad := ⟨w.heap.size, 2, none⟩) (v := .int .i64 i.s) (by first | assumption | (go_simp)); have y3 := Bel.at hb2 (ad := ⟨w.heap.size, 3, none⟩) (v := .int .i64 i.ix) (by first | assumption | (go_simp)); have y4 := Bel.at hb2 (ad := ⟨w.heap.size, 4, none⟩) (v := .int .i64 i.sc) (by first | assumption | (go_simp)); have hl2 : w.heap.size < w2.heap.size := by omega)
    | (go_at_call 36; with_reducible refine (within1_any i.s 0 7 _ _ ?_ ?_).mono ?_; go_simp; go_simp; rintro e w3 ⟨rfl, hb3⟩; have hs3 := hb3.size; simp at hs3; have z3 := Bel.at hb3 (ad := ⟨w.heap.size, 3, none⟩) (v := .int .i64 i.ix) (by first | assumption | (go_simp)); have z4 := Bel.at hb3 (ad := ⟨w.heap.size, 4, none⟩) (v := .int .i64 i.sc) (by first | assumption | (go_simp)); have hl3 : w.heap.size < w3.heap.size := by omega)
    | (go_at_call 36; with_reducible refine (within1_any i.ix (-1) 7 _ _ ?_ ?_).mono ?_; go_simp; go_simp; rintro e w4 ⟨rfl, hb4⟩; have hs4 := hb4.size; simp at hs4; have x4 := Bel.at hb4 (ad := ⟨w.heap.size, 4, none⟩) (v := .int .i64 i.sc) (by first | assumption | (go_simp)); have hl4 : w.heap.size < w4.heap.size := by omega)
    | (go_at_call 36; with_reducible refine (within1_any i.sc 0 3 _ _ ?_ ?_).mono ?_; go_simp; go_simp; rintro e w5 ⟨rfl, hb5⟩))
  go_ret
  exact ⟨rfl, (by repeat (first | assumption | exact Bel.refl _ | refine Bel.drew ?_ | refine Bel.drewN ?_ _ | refine Bel.alloc ?_ _ | (refine Bel.trans ?_ (by assumption)) | (refine Bel.then ?_ (by assumption) (by intro x hx; first | (subst hx; simp; done) | (simp at *; omega)))))⟩
set_option maxHeartbeats 4000000 in
theorem ranges_4_3 (i : K.Ins) (ho : (i.op == 129) = true) (h0 : K.inAny i.d [(0, 7)] = true) (h1 : K.inAny i.s [(0, 3)] = true) (h2 : K.inAny i.ix [(-1, 7)] = true) (h3 : K.inAny i.sc [(0, 3)] = false) (w : World) :
    Calls Try.prog 33 #[.agg #[.int .i64 i.op, .int .i64 i.d, .int .i64 i.s, .int .i64 i.ix, .int .i64 i.sc, .int .u32 i.imm, .int .i64 i.sz]] w fun e w' => e = .returned (.bool false) ∧ Bel w w' := by
  go_enter Try.func33, Try.ntmps33
  go_wp2_with (first
    | (go_at_call 36; with_reducible refine (within1_any i.d 0 7 _ _ ?_ ?_).mono ?_; go_simp; go_simp; rintro e w2 ⟨rfl, hb2⟩; have hs2 := hb2.size; simp at hs2; have y2 := Bel.at hb2 (ad := ⟨w.heap.size, 2, none⟩) (v := .int .i64 i.s) (by first | assumption | (go_simp)); have y3 := Bel.at hb2 (ad := ⟨w.heap.size, 3, none⟩) (v := .int .i64 i.ix) (by first | assumption | (go_simp)); have y4 := Bel.at hb2 (ad := ⟨w.heap.size, 4, none⟩) (v := .int .i64 i.sc) (by first | assumption | (go_simp)); have hl2 : w.heap.size < w2.heap.size := by omega)
    | (go_at_call 36; with_reducible refine (within1_any i.s 0 3 _ _ ?_ ?_).mono ?_; go_simp; go_simp; rintro e w3 ⟨rfl, hb3⟩; have hs3 := hb3.size; simp at hs3; have z3 := Bel.at hb3 (ad := ⟨w.heap.size, 3, none⟩) (v := .int .i64 i.ix) (by first | assumption | (go_simp)); have z4 := Bel.at hb3 (ad := ⟨w.heap.size, 4, none⟩) (v := .int .i64 i.sc) (by first | assumption | (go_simp)); have hl3 : w.heap.size < w3.heap.size := by omega)
    | (go_at_call 36; with_reducible refine (within1_any i.ix (-1) 7 _ _ ?_ ?_).mono ?_; go_simp; go_simp; rintro e w4 ⟨rfl, hb4⟩; have hs4 := hb4.size; simp at hs4; have x4 := Bel.at hb4 (ad := ⟨w.heap.size, 4, none⟩) (v := .int .i64 i.sc) (by first | assumption | (go_simp)); have hl4 : w.heap.size < w4.heap.size := by omega)
    | (go_at_call 36; with_reducible refine (within1_any i.sc 0 3 _ _ ?_ ?_).mono ?_; go_simp; go_simp; rintro e w5 ⟨rfl, hb5⟩))
  go_ret
  exact ⟨rfl, (by repeat (first | assumption | exact Bel.refl _ | refine Bel.drew ?_ | refine Bel.drewN ?_ _ | refine Bel.alloc ?_ _ | (refine Bel.trans ?_ (by assumption)) | (refine Bel.then ?_ (by assumption) (by intro x hx; first | (subst hx; simp; done) | (simp at *; omega)))))⟩
set_option maxHeartbeats 4000000 in
theorem ranges_4_4 (i : K.Ins) (ho : (i.op == 129) = false) (ho2 : (i.op == 130) = true) (h0 : K.inAny i.d [(0, 7)] = true) (h1 : K.inAny i.s [(0, 4)] = true) (h2 : K.inAny i.ix [(-1, 7)] = true) (h3 : K.inAny i.sc [(0, 3)] = false) (w : World) :
    Calls Try.prog 33 #[.agg #[.int .i64 i.op, .int .i64 i.d, .int .i64 i.s, .int .i64 i.ix, .int .i64 i.sc, .int .u32 i.imm, .int .i64 i.sz]] w fun e w' => e = .returned (.bool false) ∧ Bel w w' := by
  go_enter Try.func33, Try.ntmps33
  go_wp2_with (first
    | (go_at_call 36; with_reducible refine (within1_any i.d 0 7 _ _ ?_ ?_).mono ?_; go_simp; go_simp; rintro e w2 ⟨rfl, hb2⟩; have hs2 := hb2.size; simp at hs2; have y2 := Bel.at hb2 (ad := ⟨w.heap.size, 2, none⟩) (v := .int .i64 i.s) (by first | assumption | (go_simp)); have y3 := Bel.at hb2 (ad := ⟨w.heap.size, 3, none⟩) (v := .int .i64 i.ix) (by first | assumption | (go_simp)); have y4 := Bel.at hb2 (ad := ⟨w.heap.size, 4, none⟩) (v := .int .i64 i.sc) (by first | assumption | (go_simp)); have hl2 : w.heap.size < w2.heap.size := by omega)
    | (go_at_call 36; with_reducible refine (within1_any i.s 0 4 _ _ ?_ ?_).mono ?_; go_simp; go_simp; rintro e w3 ⟨rfl, hb3⟩; have hs3 := hb3.size; simp at hs3; have z3 := Bel.at hb3 (ad := ⟨w.heap.size, 3, none⟩) (v := .int .i64 i.ix) (by first | assumption | (go_simp)); have z4 := Bel.at hb3 (ad := ⟨w.heap.size, 4, none⟩) (v := .int .i64 i.sc) (by first | assumption | (go_simp)); have hl3 : w.heap.size < w3.heap.size := by omega)
    | (go_at_call 36; with_reducible refine (within1_any i.ix (-1) 7 _ _ ?_ ?_).mono ?_; go_simp; go_simp; rintro e w4 ⟨rfl, hb4⟩; have hs4 := hb4.size; simp at hs4; have x4 := Bel.at hb4 (ad := ⟨w.heap.size, 4, none⟩) (v := .int .i64 i.sc) (by first | assumption | (go_simp)); have hl4 : w.heap.size < w4.heap.size := by omega)
    | (go_at_call 36; with_reducible refine (within1_any i.sc 0 3 _ _ ?_ ?_).mono ?_; go_simp; go_simp; rintro e w5 ⟨rfl, hb5⟩))
  go_ret
  exact ⟨rfl, (by repeat (first | assumption | exact Bel.refl _ | refine Bel.drew ?_ | refine Bel.drewN ?_ _ | refine Bel.alloc ?_ _ | (refine Bel.trans ?_ (by assumption)) | (refine Bel.then ?_ (by assumption) (by intro x hx; first | (subst hx; simp; done) | (simp at *; omega)))))⟩
set_option maxHeartbeats 4000000 in
theorem ranges_4_7 (i : K.Ins) (ho : (i.op == 129) = false) (ho2 : (i.op == 130) = false) (h0 : K.inAny i.d [(0, 7)] = true) (h1 : K.inAny i.s [(0, 7)] = true) (h2 : K.inAny i.ix [(-1, 7)] = true) (h3 : K.inAny i.sc [(0, 3)] = false) (w : World) :
    Calls Try.prog 33 #[.agg #[.int .i64 i.op, .int .i64 i.d, .int .i64 i.s, .int .i64 i.ix, .int .i64 i.sc, .int .u32 i.imm, .int .i64 i.sz]] w fun e w' => e = .returned (.bool false) ∧ Bel w w' := by
  go_enter Try.func33, Try.ntmps33
  go_wp2_with (first
    | (go_at_call 36; with_reducible refine (within1_any i.d 0 7 _ _ ?_ ?_).mono ?_; go_simp; go_simp; rintro e w2 ⟨rfl, hb2⟩; have hs2 := hb2.size; simp at hs2; have y2 := Bel.at hb2 (ad := ⟨w.heap.size, 2, none⟩) (v := .int .i64 i.s) (by first | assumption | (go_simp)); have y3 := Bel.at hb2 (ad := ⟨w.heap.size, 3, none⟩) (v := .int .i64 i.ix) (by first | assumption | (go_simp)); have y4 := Bel.at hb2 (ad := ⟨w.heap.size, 4, none⟩) (v := .int .i64 i.sc) (by first | assumption | (go_simp)); have hl2 : w.heap.size < w2.heap.size := by omega)
    | (go_at_call 36; with_reducible refine (within1_any i.s 0 7 _ _ ?_ ?_).mono ?_; go_simp; go_simp; rintro e w3 ⟨rfl, hb3⟩; have hs3 := hb3.size; simp at hs3; have z3 := Bel.at hb3 (ad := ⟨w.heap.size, 3, none⟩) (v := .int .i64 i.ix) (by first | assumption | (go_simp)); have z4 := Bel.at hb3 (ad := ⟨w.heap.size, 4, none⟩) (v := .int .i64 i.sc) (by first | assumption | (go_simp)); have hl3 : w.heap.size < w3.heap.size := by omega)
    | (go_at_call 36; with_reducible refine (within1_any i.ix (-1) 7 _ _ ?_ ?_).mono ?_; go_simp; go_simp; rintro e w4 ⟨rfl, hb4⟩; have hs4 := hb4.size; simp at hs4; have x4 := Bel.at hb4 (ad := ⟨w.heap.size, 4, none⟩) (v := .int .i64 i.sc) (by first | assumption | (go_simp)); have hl4 : w.heap.size < w4.heap.size := by omega)
    | (go_at_call 36; with_reducible refine (within1_any i.sc 0 3 _ _ ?_ ?_).mono ?_; go_simp; go_simp; rintro e w5 ⟨rfl, hb5⟩))
  go_ret
  exact ⟨rfl, (by repeat (first | assumption | exact Bel.refl _ | refine Bel.drew ?_ | refine Bel.drewN ?_ _ | refine Bel.alloc ?_ _ | (refine Bel.trans ?_ (by assumption)) | (refine Bel.then ?_ (by assumption) (by intro x hx; first | (subst hx; simp; done) | (simp at *; omega)))))⟩
set_option maxHeartbeats 4000000 in
theorem ranges_5_3 (i : K.Ins) (ho : (i.op == 129) = true) (h0 : K.inAny i.d [(0, 7)] = true) (h1 : K.inAny i.s [(0, 3)] = true) (h2 : K.inAny i.ix [(-1, 7)] = true) (h3 : K.inAny i.sc [(0, 3)] = true) (w : World) :
    Calls Try.prog 33 #[.agg #[.int .i64 i.op, .int .i64 i.d, .int .i64 i.s, .int .i64 i.ix, .int .i64 i.sc, .int .u32 i.imm, .int .i64 i.sz]] w fun e w' => e = .returned (.bool true) ∧ Bel w w' := by
  go_enter Try.func33, Try.ntmps33
  go_wp2_with (first
    | (go_at_call 36; with_reducible refine (within1_any i.d 0 7 _ _ ?_ ?_).mono ?_; go_simp; go_simp; rintro e w2 ⟨rfl, hb2⟩; have hs2 := hb2.size; simp at hs2; have y2 := Bel.at hb2 (ad := ⟨w.heap.size, 2, none⟩) (v := .int .i64 i.s) (by first | assumption | (go_simp)); have y3 := Bel.at hb2 (ad := ⟨w.heap.size, 3, none⟩) (v := .int .i64 i.ix) (by first | assumption | (go_simp)); have y4 := Bel.at hb2 (ad := ⟨w.heap.size, 4, none⟩) (v := .int .i64 i.sc) (by first | assumption | (go_simp)); have hl2 : w.heap.size < w2.heap.size := by omega)
    | (go_at_call 36; with_reducible refine (within1_any i.s 0 3 _ _ ?_ ?_).mono ?_; go_simp; go_simp; rintro e w3 ⟨rfl, hb3⟩; have hs3 := hb3.size; simp at hs3; have z3 := Bel.at hb3 (ad := ⟨w.heap.size, 3, none⟩) (v := .int .i64 i.ix) (by first | assumption | (go_simp)); have z4 := Bel.at hb3 (ad := ⟨w.heap.size, 4, none⟩) (v := .int .i64 i.sc) (by first | assumption | (go_simp)); have hl3 : w.heap.size < w3.heap.size := by omega)
    | (go_at_call 36; with_reducible refine (within1_any i.ix (-1) 7 _ _ ?_ ?_).mono ?_; go_simp; go_simp; rintro e w4 ⟨rfl, hb4⟩; have hs4 := hb4.size; simp at hs4; have x4 := Bel.at hb4 (ad := ⟨w.heap.size, 4, none⟩) (v := .int .i64 i.sc) (by first | assumption | (go_simp)); have hl4 : w.heap.size < w4.heap.size := by omega)
    | (go_at_call 36; with_reducible refine (within1_any i.sc 0 3 _ _ ?_ ?_).mono ?_; go_simp; go_simp; rintro e w5 ⟨rfl, hb5⟩))
  go_ret
  exact ⟨rfl, (by repeat (first | assumption | exact Bel.refl _ | refine Bel.drew ?_ | refine Bel.drewN ?_ _ | refine Bel.alloc ?_ _ | (refine Bel.trans ?_ (by assumption)) | (refine Bel.then ?_ (by assumption) (by intro x hx; first | (subst hx; simp; done) | (simp at *; omega)))))⟩
set_option maxHeartbeats 4000000 in
theorem ranges_5_4 (i : K.Ins) (ho : (i.op == 129) = false) (ho2 : (i.op == 130) = true) (h0 : K.inAny i.d [(0, 7)] = true) (h1 : K.inAny i.s [(0, 4)] = true) (h2 : K.inAny i.ix [(-1, 7)] = true) (h3 : K.inAny i.sc [(0, 3)] = true) (w : World) :
    Calls Try.prog 33 #[.agg #[.int .i64 i.op, .int .i64 i.d, .int .i64 i.s, .int .i64 i.ix, .int .i64 i.sc, .int .u32 i.imm, .int .i64 i.sz]] w fun e w' => e = .returned (.bool true) ∧ Bel w w' := by
  go_enter Try.func33, Try.ntmps33
  go_wp2_with (first
    | (go_at_call 36; with_reducible refine (within1_any i.d 0 7 _ _ ?_ ?_).mono ?_; go_simp; go_simp; rintro e w2 ⟨rfl, hb2⟩; have hs2 := hb2.size; simp at hs2; have y2 := Bel.at hb2 (ad := ⟨w.heap.size, 2, none⟩) (v := .int .i64 i.s) (by first | assumption | (go_simp)); have y3 := Bel.at hb2 (ad := ⟨w.heap.size, 3, none⟩) (v := .int .i64 i.ix) (by first | assumption | (go_simp)); have y4 := Bel.at hb2 (ad := ⟨w.heap.size, 4, none⟩) (v := .int .i64 i.sc) (by first | assumption | (go_simp)); have hl2 : w.heap.size < w2.heap.size := by omega)
    | (go_at_call 36; with_reducible refine (within1_any i.s 0 4 _ _ ?_ ?_).mono ?_; go_simp; go_simp; rintro e w3 ⟨rfl, hb3⟩; have hs3 := hb3.size; simp at hs3; have z3 := Bel.at hb3 (ad := ⟨w.heap.size, 3, none⟩) (v := .int .i64 i.ix) (by first | assumption | (go_simp)); have z4 := Bel.at hb3 (ad := ⟨w.heap.size, 4, none⟩) (v := .int .i64 i.sc) (by first | assumption | (go_simp)); have hl3 : w.heap.size < w3.heap.size := by omega)
    | (go_at_call 36; with_reducible refine (within1_any i.ix (-1) 7 _ _ ?_ ?_).mono ?_; go_simp; go_simp; rintro e w4 ⟨rfl, hb4⟩; have hs4 := hb4.size; simp at hs4; have x4 := Bel.at hb4 (ad := ⟨w.heap.size, 4, none⟩) (v := .int .i64 i.sc) (by first | assumption | (go_simp)); have hl4 : w.heap.size < w4.heap.size := by omega)
    | (go_at_call 36; with_reducible refine (within1_any i.sc 0 3 _ _ ?_ ?_).mono ?_; go_simp; go_simp; rintro e w5 ⟨rfl, hb5⟩))
  go_ret
  exact ⟨rfl, (by repeat (first | assumption | exact Bel.refl _ | refine Bel.drew ?_ | refine Bel.drewN ?_ _ | refine Bel.alloc ?_ _ | (refine Bel.trans ?_ (by assumption)) | (refine Bel.then ?_ (by assumption) (by intro x hx; first | (subst hx; simp; done) | (simp at *; omega)))))⟩
set_option maxHeartbeats 4000000 in
theorem ranges_5_7 (i : K.Ins) (ho : (i.op == 129) = false) (ho2 : (i.op == 130) = false) (h0 : K.inAny i.d [(0, 7)] = true) (h1 : K.inAny i.s [(0, 7)] = true) (h2 : K.inAny i.ix [(-1, 7)] = true) (h3 : K.inAny i.sc [(0, 3)] = true) (w : World) :
    Calls Try.prog 33 #[.agg #[.int .i64 i.op, .int .i64 i.d, .int .i64 i.s, .int .i64 i.ix, .int .i64 i.sc, .int .u32 i.imm, .int .i64 i.sz]] w fun e w' => e = .returned (.bool true) ∧ Bel w w' := by
  go_enter Try.func33, Try.ntmps33
  go_wp2_with (first
    | (go_at_call 36; with_reducible refine (within1_any i.d 0 7 _ _ ?_ ?_).mono ?_; go_simp; go_simp; rintro e w2 ⟨rfl, hb2⟩; have hs2 := hb2.size; simp at hs2; have y2 := Bel.at hb2 (ad := ⟨w.heap.size, 2, none⟩) (v := .int .i64 i.s) (by first | assumption | (go_simp)); have y3 := Bel.at hb2 (ad := ⟨w.heap.size, 3, none⟩) (v := .int .i64 i.ix) (by first | assumption | (go_simp)); have y4 := Bel.at hb2 (ad := ⟨w.heap.size, 4, none⟩) (v := .int .i64 i.sc) (by first | assumption | (go_simp)); have hl2 : w.heap.size < w2.heap.size := by omega)
    | (go_at_call 36; with_reducible refine (within1_any i.s 0 7 _ _ ?_ ?_).mono ?_; go_simp; go_simp; rintro e w3 ⟨rfl, hb3⟩; have hs3 := hb3.size; simp at hs3; have z3 := Bel.at hb3 (ad := ⟨w.heap.size, 3, none⟩) (v := .int .i64 i.ix) (by first | assumption | (go_simp)); have z4 := Bel.at hb3 (ad := ⟨w.heap.size, 4, none⟩) (v := .int .i64 i.sc) (by first | assumption | (go_simp)); have hl3 : w.heap.size < w3.heap.size := by omega)
    | (go_at_call 36; with_reducible refine (within1_any i.ix (-1) 7 _ _ ?_ ?_).mono ?_; go_simp; go_simp; rintro e w4 ⟨rfl, hb4⟩; have hs4 := hb4.size; simp at hs4; have x4 := Bel.at hb4 (ad := ⟨w.heap.size, 4, none⟩) (v := .int .i64 i.sc) (by first | assumption | (go_simp)); have hl4 : w.heap.size < w4.heap.size := by omega)
    | (go_at_call 36; with_reducible refine (within1_any i.sc 0 3 _ _ ?_ ?_).mono ?_; go_simp; go_simp; rintro e w5 ⟨rfl, hb5⟩))
  go_ret
  exact ⟨rfl, (by repeat (first | assumption | exact Bel.refl _ | refine Bel.drew ?_ | refine Bel.drewN ?_ _ | refine Bel.alloc ?_ _ | (refine Bel.trans ?_ (by assumption)) | (refine Bel.then ?_ (by assumption) (by intro x hx; first | (subst hx; simp; done) | (simp at *; omega)))))⟩
theorem ranges_m (i : K.Ins) (m : Int) (hm : (i.op == 129) = true ∧ m = 3 ∨ (i.op == 129) = false ∧ (i.op == 130) = true ∧ m = 4 ∨ (i.op == 129) = false ∧ (i.op == 130) = false ∧ m = 7) (w : World) :
    Calls Try.prog 33 #[.agg #[.int .i64 i.op, .int .i64 i.d, .int .i64 i.s, .int .i64 i.ix, .int .i64 i.sc, .int .u32 i.imm, .int .i64 i.sz]] w fun e w' => e = .returned (.bool (K.inAny i.d [(0, 7)] && (K.inAny i.s [(0, m)] && (K.inAny i.ix [(-1, 7)] && K.inAny i.sc [(0, 3)])))) ∧ Bel w w' := by
  cases h0 : K.inAny i.d [(0, 7)]
  · rcases hm with ⟨ho, rfl⟩ | ⟨ho, ho2, rfl⟩ | ⟨ho, ho2, rfl⟩
    · exact ranges_1_3 i ho h0 w
    · exact ranges_1_4 i ho ho2 h0 w
    · exact ranges_1_7 i ho ho2 h0 w
  · cases h1 : K.inAny i.s [(0, m)]
    · rcases hm with ⟨ho, rfl⟩ | ⟨ho, ho2, rfl⟩ | ⟨ho, ho2, rfl⟩
      · exact ranges_2_3 i ho h0 h1 w
      · exact ranges_2_4 i ho ho2 h0 h1 w
      · exact ranges_2_7 i ho ho2 h0 h1 w
    · cases h2 : K.inAny i.ix [(-1, 7)]
      · rcases hm with ⟨ho, rfl⟩ | ⟨ho, ho2, rfl⟩ | ⟨ho, ho2, rfl⟩
        · exact ranges_3_3 i ho h0 h1 h2 w
        · exact ranges_3_4 i ho ho2 h0 h1 h2 w
        · exact ranges_3_7 i ho ho2 h0 h1 h2 w
      · cases h3 : K.inAny i.sc [(0, 3)]
        · rcases hm with ⟨ho, rfl⟩ | ⟨ho, ho2, rfl⟩ | ⟨ho, ho2, rfl⟩
          · exact ranges_4_3 i ho h0 h1 h2 h3 w
          · exact ranges_4_4 i ho ho2 h0 h1 h2 h3 w
          · exact ranges_4_7 i ho ho2 h0 h1 h2 h3 w
        · rcases hm with ⟨ho, rfl⟩ | ⟨ho, ho2, rfl⟩ | ⟨ho, ho2, rfl⟩
          · exact ranges_5_3 i ho h0 h1 h2 h3 w
          · exact ranges_5_4 i ho ho2 h0 h1 h2 h3 w
          · exact ranges_5_7 i ho ho2 h0 h1 h2 h3 w
theorem ranges_any (i : K.Ins) (w : World) : Calls Try.prog 33 #[.agg #[.int .i64 i.op, .int .i64 i.d, .int .i64 i.s, .int .i64 i.ix, .int .i64 i.sc, .int .u32 i.imm, .int .i64 i.sz]] w fun e w' => e = .returned (.bool (K.rng i)) ∧ Bel w w' := by
  unfold K.rng K.most
  by_cases h1 : i.op = 129
  · rw [if_pos h1]; exact ranges_m i 3 (.inl ⟨by simp [h1], rfl⟩) w
  · rw [if_neg h1]
    by_cases h2 : i.op = 130
    · rw [if_pos h2]; exact ranges_m i 4 (.inr (.inl ⟨by simp [h1], by simp [h2], rfl⟩)) w
    · rw [if_neg h2]; exact ranges_m i 7 (.inr (.inr ⟨by simp [h1], by simp [h2], rfl⟩)) w
end Go.Proofs.Ytgnekniabedomaa
