/- Walks: kcode.find, from what kcode.formats returns. -/
import Derived.Test.YtgnekniabedomaaKf
import Derived.Laws.EntriesVeiled
namespace Go.Proofs.Ytgnekniabedomaa
set_option linter.unusedVariables false
set_option linter.unusedSimpArgs false
open Go.RowKit
def K.fmtF (op : Int) : Nat → Nat → Option Nat
  | 0, _ => none
  | m + 1, k => if K.lo k ≤ op ∧ op ≤ K.hi k then some k else K.fmtF op m (k + 1)
/-- The format of a first byte. -/
def K.fmt (op : Int) : Option Nat := K.fmtF op 11 0
/-- What kcode.formats returns. -/
def K.FmtsOK : Prop := ∀ w : World, Calls Try.prog 37 #[] w fun e w' => ∃ g ts ps, e = .returned (.slice (some ⟨g, 0, none⟩) 11 11) ∧ K.Fms g ts ps w' ∧ Bel w w'
theorem K.in_one (n a b : Int) : K.inAny n [(a, b)] = (decide (a ≤ n) && decide (n ≤ b)) := by simp [K.inAny]
theorem K.Fm.isf {k : Nat} {t p : Value} {w : World} (h : K.Fm k t p w) : (∃ F cs, t = .func (.func F) #[] cs) ∧ (∃ F cs, p = .func (.func F) #[] cs) := by
  unfold K.Fm K.Cl at h
  split at h <;> first | (obtain ⟨⟨_, _, _, h1, _, _⟩, ⟨_, _, _, h2, _, _⟩⟩ := h; exact ⟨⟨_, _, h1⟩, ⟨_, _, h2⟩⟩) | exact ⟨⟨_, _, h.1⟩, ⟨_, _, h.2⟩⟩ | exact h.elim
theorem Ch.put {g : Nat} {a b : World} (h : Ch (fun x => x = g) a b) (j : Nat) (v : Value) : Ch (fun x => x = g) a (b.setCell ⟨g, j, none⟩ v) := h.setCell (p := ⟨g, j, none⟩) (fun _ => rfl) v
theorem K.Cl.ch {S : Nat → Prop} {F : FuncId} {fs : List FuncId} {v : Value} {w w' : World} (h : K.Cl F fs v w) (k : Ch S w w') (hs : ∀ x, S x → ∃ n, w.cell? ⟨x, 0, none⟩ = some (.int .i64 n)) (hl : 0 < fs.length) : K.Cl F fs v w' := by
  obtain ⟨c, b, cap, e, h1, h2⟩ := h
  refine ⟨c, b, cap, e, (k.cell c 0 (lt_of_cell h1) fun q => ?_).trans h1, fun j hj => (k.cell b j (lt_of_cell (h2 j hj)) fun q => ?_).trans (h2 j hj)⟩
  · obtain ⟨n, hn⟩ := hs _ q; rw [h1] at hn; cases hn
  · obtain ⟨n, hn⟩ := hs _ q; rw [h2 0 hl] at hn; cases hn
theorem K.Fm.ch {S : Nat → Prop} {k : Nat} {t p : Value} {w w' : World} (h : K.Fm k t p w) (b : Ch S w w') (hs : ∀ x, S x → ∃ n, w.cell? ⟨x, 0, none⟩ = some (.int .i64 n)) : K.Fm k t p w' := by
  unfold K.Fm at *
  split at h <;> first | exact h | exact ⟨h.1.ch b hs (by simp), h.2.ch b hs (by simp)⟩
set_option maxHeartbeats 2000000 in
theorem find_of (HF : K.FmtsOK) (op : Int) (w : World) :
    Calls Try.prog 27 #[.int .i64 op] w fun e w' => (∃ k t p, k < 11 ∧ K.fmt op = some k ∧ e = .returned (.tuple #[.agg #[.int .i64 (K.lo k), .int .i64 (K.hi k), .int .i64 (K.len k), t, p], .bool true]) ∧ K.Fm k t p w' ∧ Bel w w') ∨
      (K.fmt op = none ∧ e = .returned (.tuple #[.agg #[.int .i64 0, .int .i64 0, .int .i64 0, .nilFunc, .nilFunc], .bool false]) ∧ Bel w w') := by
  have HI := hid (show K.fmt op = K.fmtF op 11 0 from rfl)
  go_enter Try.func27, Try.ntmps27
  go_wp2_with (go_at_call 37; refine (HF _).mono ?_; rintro e w1 ⟨g, ts, ps, rfl, hf, hb⟩)
  have hb0 : Bel w w1 := Bel.trans (Bel.alloc (Bel.refl _) _) hb
  go_loopw [8] (fun i wr => ∃ j : Nat, j ≤ 11 ∧ i = .int .i64 j ∧ Hid (K.fmt op = K.fmtF op (11 - j) j) ∧ Bel w1 wr) (fun i _ => 11 - (intOf i).toNat)
  case atStart => exact ⟨0, by omega, rfl, HI, Bel.refl _⟩
  case round =>
    clear HI
    obtain ⟨j, hj, rfl, HI, hbr⟩ := hrel
    have hbb := hb.trans hbr
    have z0 := Bel.at hbb (ad := ⟨w.heap.size, 0, none⟩) (v := .int .i64 0) (by go_simp)
    have z1 := Bel.at hbb (ad := ⟨w.heap.size, 1, none⟩) (v := .int .i64 0) (by go_simp)
    have z2 := Bel.at hbb (ad := ⟨w.heap.size, 2, none⟩) (v := .int .i64 0) (by go_simp)
    have z3 := Bel.at hbb (ad := ⟨w.heap.size, 3, none⟩) (v := .nilFunc) (by go_simp)
    have z4 := Bel.at hbb (ad := ⟨w.heap.size, 4, none⟩) (v := .nilFunc) (by go_simp)
    have zf : ∀ j, wr.frozen? ⟨w.heap.size, j, none⟩ = false := fun j => by rw [hbb.frozen _ _ (by simp)]; go_simp
    have hlt : w.heap.size < wr.heap.size := by have := hbb.size; simp at this; omega
    by_cases c1 : j < 11
    · obtain ⟨a0, a1, a2, a3, a4, a5⟩ := hf j c1
      have e0 := Bel.at hbr a0
      have e1 := Bel.at hbr a1
      have e2 := Bel.at hbr a2
      have e3 := Bel.at hbr a3
      have e4 := Bel.at hbr a4
      have HS : Hid (K.fmtF op (11 - j) j = if K.lo j ≤ op ∧ op ≤ K.hi j then some j else K.fmtF op (11 - (j + 1)) (j + 1)) := hid (by rw [show 11 - j = 11 - (j + 1) + 1 by omega]; rfl)
      obtain ⟨⟨F1, cs1, ht⟩, ⟨F2, cs2, hp⟩⟩ := a5.isf
      rw [ht] at e3; rw [hp] at e4; rw [ht, hp] at a5
      have HFm := hid (a5.bel hbr)
      clear ht hp a0 a1 a2 a3 a4 a5 hf
      cases hin : K.inAny op [(K.lo j, K.hi j)]
      · have HR : Hid (K.fmt op = K.fmtF op (11 - (j + 1)) (j + 1)) := hid (by
          rw [K.in_one] at hin
          rw [HI.out, HS.out, if_neg (by simp at hin; omega)])
        generalize K.lo j = lo at *
        generalize K.hi j = hi at *
        generalize K.len j = ln at *
        go_wp2_with (go_at_call 36; refine (within_any op _ 0 1 [(lo, hi)] (by simp) _ (fun i hi => ?_) (fun i hi => ?_)).mono ?_; (obtain rfl : i = 0 := by simpa using hi); go_simp; (obtain rfl : i = 0 := by simpa using hi); go_simp; rintro e w2 ⟨rfl, hb2⟩)
        go_roundw
        case rel => exact ⟨j + 1, by omega, by go_num, HR, (by repeat (first | assumption | exact Bel.refl _ | refine Bel.drew ?_ | refine Bel.drewN ?_ _ | refine Bel.alloc ?_ _ | (refine Bel.trans ?_ (by assumption)) | (refine Bel.then ?_ (by assumption) (by intro x hx; first | (subst hx; simp; done) | (simp at *; omega)))))⟩
        case measure => simp [intOf]; omega
      · have HR : Hid (K.fmt op = some j) := hid (by
          rw [K.in_one] at hin
          rw [HI.out, HS.out, if_pos (by simpa using hin)])
        have HL : Hid (∀ x, Ending.returned x = Ending.returned x) := hid fun _ => rfl
        generalize hlo : K.lo j = lo at *
        generalize hhi : K.hi j = hi at *
        generalize hln : K.len j = ln at *
        have HLO := hid hlo; have HHI := hid hhi; have HLN := hid hln
        clear hlo hhi hln
        go_wp2_with (go_at_call 36; refine (within_any op _ 0 1 [(lo, hi)] (by simp) _ (fun i hi => ?_) (fun i hi => ?_)).mono ?_; (obtain rfl : i = 0 := by simpa using hi); go_simp; (obtain rfl : i = 0 := by simpa using hi); go_simp; rintro e w2 ⟨rfl, hb2⟩; have y0 := Bel.at hb2 (ad := ⟨wr.heap.size, 0, none⟩) (v := .int .i64 lo) (by first | assumption | (go_simp)); have y1 := Bel.at hb2 (ad := ⟨wr.heap.size, 1, none⟩) (v := .int .i64 hi) (by first | assumption | (go_simp)); have y2 := Bel.at hb2 (ad := ⟨wr.heap.size, 2, none⟩) (v := .int .i64 ln) (by first | assumption | (go_simp)); have y3 := Bel.at hb2 (ad := ⟨wr.heap.size, 3, none⟩) (v := .func (.func F1) #[] cs1) (by first | assumption | (go_simp)); have y4 := Bel.at hb2 (ad := ⟨wr.heap.size, 4, none⟩) (v := .func (.func F2) #[] cs2) (by first | assumption | (go_simp)); have x0 := Bel.at hb2 (ad := ⟨w.heap.size, 0, none⟩) (v := .int .i64 0) (by first | assumption | (go_simp)); have x1 := Bel.at hb2 (ad := ⟨w.heap.size, 1, none⟩) (v := .int .i64 0) (by first | assumption | (go_simp)); have x2 := Bel.at hb2 (ad := ⟨w.heap.size, 2, none⟩) (v := .int .i64 0) (by first | assumption | (go_simp)); have x3 := Bel.at hb2 (ad := ⟨w.heap.size, 3, none⟩) (v := .nilFunc) (by first | assumption | (go_simp)); have x4 := Bel.at hb2 (ad := ⟨w.heap.size, 4, none⟩) (v := .nilFunc) (by first | assumption | (go_simp)); have xf : ∀ j, w2.frozen? ⟨w.heap.size, j, none⟩ = false := fun j => by rw [hb2.frozen _ _ (by simp; omega)]; go_simp)
        have HFm2 := HFm.out.bel (show Bel wr w2 from (by repeat (first | assumption | exact Bel.refl _ | refine Bel.drew ?_ | refine Bel.drewN ?_ _ | refine Bel.alloc ?_ _ | (refine Bel.trans ?_ (by assumption)) | (refine Bel.then ?_ (by assumption) (by intro x hx; first | (subst hx; simp; done) | (simp at *; omega))))))
        have hbw : Bel w w2 := (by repeat (first | assumption | exact Bel.refl _ | refine Bel.drew ?_ | refine Bel.drewN ?_ _ | refine Bel.alloc ?_ _ | (refine Bel.trans ?_ (by assumption)) | (refine Bel.then ?_ (by assumption) (by intro x hx; first | (subst hx; simp; done) | (simp at *; omega)))))
        refine bodyPost_ret (v := .tuple #[.agg #[.int .i64 lo, .int .i64 hi, .int .i64 ln, .func (.func F1) #[] cs1, .func (.func F2) #[] cs2], .bool true]) (by simp [results, Try.results27, go_sem, x0, x1, x2, x3, x4]) rfl (.inl ⟨j, _, _, c1, HR.out, by rw [HLO.out, HHI.out, HLN.out], ?_, ?_⟩)
        · refine HFm2.ch (S := fun x => x = w.heap.size) (by repeat (first | refine Ch.put ?_ _ _ | exact Ch.refl _ _)) (by rintro x rfl; exact ⟨_, x0⟩)
        · repeat (first | refine Bel.setCell ?_ (Nat.le_refl _) _ | exact hbw)
    · have HR : Hid (K.fmt op = none) := hid (by rw [HI.out, show 11 - j = 0 by omega]; rfl)
      clear hf
      go_wp2
      refine bodyPost_ret (v := .tuple #[.agg #[.int .i64 0, .int .i64 0, .int .i64 0, .nilFunc, .nilFunc], .bool false]) (by simp [results, Try.results27, go_sem, z0, z1, z2, z3, z4]) rfl (.inr ⟨HR.out, rfl, ?_⟩)
      repeat (first | refine Bel.setCell ?_ (Nat.le_refl _) _ | exact hb0.trans hbr)
end Go.Proofs.Ytgnekniabedomaa
