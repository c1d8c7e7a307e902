/- Walks: the laws WordFlags, WordOps, WordConds return true; no condition but that the arguments are of their kinds. -/
import Derived.Test.YtnjpmmdjaenomaaProg
import Derived.Test.YtnjpmmdjaenomaaWa
import Derived.Test.YtnjpmmdjaenomaaWb
import Derived.Test.YtnjpmmdjaenomaaWe
import Derived.Test.YtnjpmmdjaenomaaWf
import Derived.Test.YtnjpmmdjaenomaaWk
import Derived.Test.YtnjpmmdjaenomaaWm
namespace Go.Proofs.Ytnjpmmdjaenomaa
set_option linter.unusedVariables false
open Go.RowKit
def I64 (n : Int) : Prop := -9223372036854775808 ≤ n ∧ n ≤ 9223372036854775807
def U32 (n : Int) : Prop := 0 ≤ n ∧ n < 4294967296
def U64 (n : Int) : Prop := 0 ≤ n ∧ n < 18446744073709551616

theorem WordFlags_walk (k a b n0 n1 : Int) (hk : I64 k) (ha : U32 a) (hb : U32 b) (hn0 : I64 n0) (hn1 : I64 n1) (w : World) :
    Calls Try.prog 3 #[.int .i64 k, .agg #[.int .u32 a, .int .u32 b], .agg #[.int .i64 n0, .int .i64 n1]] w fun e w' => e = .returned (.bool true) ∧ Bel w w' := by
  obtain ⟨hk0, hk1⟩ := hk; obtain ⟨ha0, ha1⟩ := ha; obtain ⟨hb0, hb1⟩ := hb; obtain ⟨p0, p1⟩ := hn0; obtain ⟨q0, q1⟩ := hn1
  go_enter Try.func3, Try.ntmps3
  go_wp2_with (first
    | (go_at_call 13; refine (sanity_any _).mono ?_; rintro e w' ⟨rfl, hb⟩; have c0 := Bel.at hb (ad := ⟨w.heap.size, 0, none⟩) (v := .int .u32 a) (by first | assumption | (go_simp)); have c1 := Bel.at hb (ad := ⟨w.heap.size, 1, none⟩) (v := .int .u32 b) (by first | assumption | (go_simp)); have c2 := Bel.at hb (ad := ⟨w.heap.size + 1, 0, none⟩) (v := .int .i64 n0) (by first | assumption | (go_simp)); have c3 := Bel.at hb (ad := ⟨w.heap.size + 1, 1, none⟩) (v := .int .i64 n1) (by first | assumption | (go_simp)))
    | (go_at_call 14; refine (near_any _ (by assumption) (by assumption) _).mono ?_; rintro e w' ⟨x, hx0, hx1, rfl, hb⟩; have c0 := Bel.at hb (ad := ⟨w.heap.size, 0, none⟩) (v := .int .u32 a) (by first | assumption | (go_simp)); have c1 := Bel.at hb (ad := ⟨w.heap.size, 1, none⟩) (v := .int .u32 b) (by first | assumption | (go_simp)); have c2 := Bel.at hb (ad := ⟨w.heap.size + 1, 0, none⟩) (v := .int .i64 n0) (by first | assumption | (go_simp)); have c3 := Bel.at hb (ad := ⟨w.heap.size + 1, 1, none⟩) (v := .int .i64 n1) (by first | assumption | (go_simp))))
  have d0 := cell_more c0
  have d1 := cell_more c1
  (refine wp_region_more (by kernel_rfl) (by kernel_rfl) ?_)
  repeat (go_big_quiet_step ((first
    | (go_at_call 15; exact Calls.more_of (Flags_any _ _ _ (by assumption) (by assumption) (by assumption) (by assumption) _))
    | (go_at_call 16; exact Calls.more_of (rFlags_any _ _ _ (by assumption) (by assumption) (by assumption) (by assumption) _)))))
  (refine wpQuiet_nil ?_; intro wq hq)
  go_wp2
  go_ret
  exact ⟨rfl, (by repeat (first | assumption | exact Bel.refl _ | refine Bel.drew ?_ | refine Bel.drewN ?_ _ | refine Bel.alloc ?_ _ | (refine Bel.trans ?_ (by assumption)) | (refine Bel.then ?_ (by assumption) (by intro x hx; first | (subst hx; simp; done) | (simp at *; omega)))))⟩
theorem WordOps_walk (k a b n0 n1 : Int) (hk : I64 k) (ha : U32 a) (hb : U32 b) (hn0 : I64 n0) (hn1 : I64 n1) (w : World) :
    Calls Try.prog 10 #[.int .i64 k, .agg #[.int .u32 a, .int .u32 b], .agg #[.int .i64 n0, .int .i64 n1]] w fun e w' => e = .returned (.bool true) ∧ Bel w w' := by
  obtain ⟨hk0, hk1⟩ := hk; obtain ⟨ha0, ha1⟩ := ha; obtain ⟨hb0, hb1⟩ := hb; obtain ⟨p0, p1⟩ := hn0; obtain ⟨q0, q1⟩ := hn1
  go_enter Try.func10, Try.ntmps10
  go_wp2_with (first
    | (go_at_call 13; refine (sanity_any _).mono ?_; rintro e w' ⟨rfl, hb⟩; have c0 := Bel.at hb (ad := ⟨w.heap.size, 0, none⟩) (v := .int .u32 a) (by first | assumption | (go_simp)); have c1 := Bel.at hb (ad := ⟨w.heap.size, 1, none⟩) (v := .int .u32 b) (by first | assumption | (go_simp)); have c2 := Bel.at hb (ad := ⟨w.heap.size + 1, 0, none⟩) (v := .int .i64 n0) (by first | assumption | (go_simp)); have c3 := Bel.at hb (ad := ⟨w.heap.size + 1, 1, none⟩) (v := .int .i64 n1) (by first | assumption | (go_simp)))
    | (go_at_call 14; refine (near_any _ (by assumption) (by assumption) _).mono ?_; rintro e w' ⟨x, hx0, hx1, rfl, hb⟩; have c0 := Bel.at hb (ad := ⟨w.heap.size, 0, none⟩) (v := .int .u32 a) (by first | assumption | (go_simp)); have c1 := Bel.at hb (ad := ⟨w.heap.size, 1, none⟩) (v := .int .u32 b) (by first | assumption | (go_simp)); have c2 := Bel.at hb (ad := ⟨w.heap.size + 1, 0, none⟩) (v := .int .i64 n0) (by first | assumption | (go_simp)); have c3 := Bel.at hb (ad := ⟨w.heap.size + 1, 1, none⟩) (v := .int .i64 n1) (by first | assumption | (go_simp))))
  have d0 := cell_more c0
  have d1 := cell_more c1
  (refine wp_region_more (by kernel_rfl) (by kernel_rfl) ?_)
  repeat (go_big_quiet_step ((first
    | (go_at_call 33; exact Calls.more_of (Op_any _ _ _ (by assumption) (by assumption) (by assumption) (by assumption) _))
    | (go_at_call 34; exact Calls.more_of (rOp_any _ _ _ (by assumption) (by assumption) (by assumption) (by assumption) _)))))
  (refine wpQuiet_nil ?_; intro wq hq)
  go_wp2
  go_ret
  exact ⟨rfl, (by repeat (first | assumption | exact Bel.refl _ | refine Bel.drew ?_ | refine Bel.drewN ?_ _ | refine Bel.alloc ?_ _ | (refine Bel.trans ?_ (by assumption)) | (refine Bel.then ?_ (by assumption) (by intro x hx; first | (subst hx; simp; done) | (simp at *; omega)))))⟩
end Go.Proofs.Ytnjpmmdjaenomaa
