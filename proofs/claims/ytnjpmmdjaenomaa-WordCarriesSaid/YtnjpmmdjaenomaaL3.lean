/- Walks: the laws WordChains, WordCarries return true; no condition but that the arguments are of their kinds. -/
import Derived.Test.YtnjpmmdjaenomaaL1
import Derived.Test.YtnjpmmdjaenomaaW9
namespace Go.Proofs.Ytnjpmmdjaenomaa
set_option linter.unusedVariables false
open Go.RowKit
theorem WordChains_walk (n0 n1 : Int) (hn0 : I64 n0) (hn1 : I64 n1) (w : World) :
    Calls Try.prog 5 #[.agg #[.int .i64 n0, .int .i64 n1]] w fun e w' => e = .returned (.bool true) ∧ Bel w w' := by
  obtain ⟨p0, p1⟩ := hn0; obtain ⟨q0, q1⟩ := hn1
  go_enter Try.func5, Try.ntmps5
  go_wp2_with (first
    | (go_at_call 13; refine (sanity_any _).mono ?_; rintro e w' ⟨rfl, hb⟩; have c2 := Bel.at hb (ad := ⟨w.heap.size, 0, none⟩) (v := .int .i64 n0) (by first | assumption | (go_simp)); have c3 := Bel.at hb (ad := ⟨w.heap.size, 1, none⟩) (v := .int .i64 n1) (by first | assumption | (go_simp)))
    | (go_at_call 14; (with_reducible refine (near_any n0 p0 p1 _).mono ?_); rintro e w' ⟨x, hx0, hx1, rfl, hb⟩; have c2 := Bel.at hb (ad := ⟨w.heap.size, 0, none⟩) (v := .int .i64 n0) (by first | assumption | (go_simp)); have c3 := Bel.at hb (ad := ⟨w.heap.size, 1, none⟩) (v := .int .i64 n1) (by first | assumption | (go_simp)))
    | (go_at_call 14; (with_reducible refine (near_any n1 q0 q1 _).mono ?_); rintro e w' ⟨y, hy0, hy1, rfl, hb⟩; have FA := W.chain_add x y hx0 hx1 hy0 hy1; have FS := W.chain_sub x y hx0 hx1 hy0 hy1; have SA := W.same_add x y y; have SS := W.same_sub x y 0)
    | (go_at_call 15; refine (Flags_any _ _ _ (by omega) (by omega) (by omega) (by omega) _).mono ?_; rintro e w' ⟨rfl, hb⟩))
  go_ret
  exact ⟨rfl, (by repeat (first | assumption | exact Bel.refl _ | refine Bel.drew ?_ | refine Bel.drewN ?_ _ | refine Bel.alloc ?_ _ | (refine Bel.trans ?_ (by assumption)) | (refine Bel.then ?_ (by assumption) (by intro x hx; first | (subst hx; simp; done) | (simp at *; omega)))))⟩
theorem WordCarries_walk (a b : Int) (ha : U64 a) (hb : U64 b) (w : World) :
    Calls Try.prog 11 #[.int .u64 a, .int .u64 b] w fun e w' => e = .returned (.bool true) ∧ Bel w w' := by
  obtain ⟨ha0, ha1⟩ := ha; obtain ⟨hb0, hb1⟩ := hb
  have CA := W.carry_add (a % 4294967296) (b % 4294967296)
  have CS := W.carry_sub (a % 4294967296) (b % 4294967296)
  have b1 := W.b01_bd (decide (4294967296 ≤ a % 4294967296 + b % 4294967296))
  have b2 := W.b01_bd (decide (b % 4294967296 ≤ a % 4294967296))
  have o1 := W.op_3
  have o2 := W.op_4
  have E1 := W.whole_add a b ha0 ha1 hb0 hb1
  have E2 := W.whole_sub a b ha0 ha1 hb0 hb1
  go_enter Try.func11, Try.ntmps11
  go_wp2_with (first
    | (go_at_call 13; refine (sanity_any _).mono ?_; rintro e w' ⟨rfl, hb⟩)
    | (go_at_call 15; refine (Flags_any _ _ _ (by omega) (by omega) (by omega) (by omega) _).mono ?_; rintro e w' ⟨rfl, hb⟩)
    | (go_at_call 33; refine (Op_any _ _ _ (by omega) (by omega) (by omega) (by omega) _).mono ?_; rintro e w' ⟨rfl, hb⟩))
  go_ret
  exact ⟨rfl, (by repeat (first | assumption | exact Bel.refl _ | refine Bel.drew ?_ | refine Bel.drewN ?_ _ | refine Bel.alloc ?_ _ | (refine Bel.trans ?_ (by assumption)) | (refine Bel.then ?_ (by assumption) (by intro x hx; first | (subst hx; simp; done) | (simp at *; omega)))))⟩
end Go.Proofs.Ytnjpmmdjaenomaa
