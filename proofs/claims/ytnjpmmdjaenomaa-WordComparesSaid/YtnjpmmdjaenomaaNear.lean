/- Walk: babelref01.Near returns W.near; no condition but that the number is an int. -/
import Derived.Test.YtnjpmmdjaenomaaProg
import Derived.Test.YtnjpmmdjaenomaaBase
import Derived.Test.YtnjpmmdjaenomaaW1
namespace Go.Proofs.Ytnjpmmdjaenomaa
set_option linter.unusedVariables false
open Go.RowKit
/-- A special word. -/
def W.near (n : Int) : Int := if n % 4 = 0 then (n.tdiv 4).tmod 9 % 4294967296 else if n % 4 = 1 then ((2 ^ (n.tdiv 4 % 32).toNat + n.tdiv 4 / 32 % 4) % 4294967296 - 1) % 4294967296
  else if n % 4 = 2 then -((n.tdiv 4).tmod 9 % 4294967296) % 4294967296 else n.tdiv 4 % 4294967296 * 2654435761 % 4294967296
theorem W.near_bd (n : Int) : 0 ≤ W.near n ∧ W.near n < 4294967296 := by
  unfold W.near
  (repeat' split) <;> exact ⟨Int.emod_nonneg _ (by decide), Int.emod_lt_of_pos _ (by decide)⟩
theorem near_is (n : Int) (h0 : -9223372036854775808 ≤ n) (h1 : n ≤ 9223372036854775807) (w : World) :
    Calls Try.prog 14 #[.int .i64 n] w fun e w' => e = .returned (.int .u32 (W.near n)) ∧ Bel w w' := by
  have e3 : ∀ n : Int, bits .and .i64 n 3 = n % 4 := W.i64_and3
  have e31 : ∀ n : Int, bits .and .i64 n 31 = n % 32 := W.i64_and31
  rcases (by omega : n % 4 = 0 ∨ n % 4 = 1 ∨ n % 4 = 2 ∨ n % 4 = 3) with h | h | h | h
  · have HN := hid (show W.near n = (n.tdiv 4).tmod 9 % 4294967296 by unfold W.near; rw [if_pos h])
    go_enter Try.func14, Try.ntmps14
    go_wp2
    go_ret
    exact ⟨ret_int (by rw [HN.out]; try omega), (by repeat (first | assumption | exact Bel.refl _ | refine Bel.drew ?_ | refine Bel.drewN ?_ _ | refine Bel.alloc ?_ _ | (refine Bel.trans ?_ (by assumption)) | (refine Bel.then ?_ (by assumption) (by intro x hx; first | (subst hx; simp; done) | (simp at *; omega)))))⟩
  · have HN := hid (show W.near n = ((2 ^ (n.tdiv 4 % 32).toNat + n.tdiv 4 / 32 % 4) % 4294967296 - 1) % 4294967296 by unfold W.near; rw [if_neg (by omega), if_pos h])
    go_enter Try.func14, Try.ntmps14
    go_wp2
    go_ret
    exact ⟨ret_int (by rw [HN.out]; try omega), (by repeat (first | assumption | exact Bel.refl _ | refine Bel.drew ?_ | refine Bel.drewN ?_ _ | refine Bel.alloc ?_ _ | (refine Bel.trans ?_ (by assumption)) | (refine Bel.then ?_ (by assumption) (by intro x hx; first | (subst hx; simp; done) | (simp at *; omega)))))⟩
  · have HN := hid (show W.near n = -((n.tdiv 4).tmod 9 % 4294967296) % 4294967296 by unfold W.near; rw [if_neg (by omega), if_neg (by omega), if_pos h])
    go_enter Try.func14, Try.ntmps14
    go_wp2
    go_ret
    exact ⟨ret_int (by rw [HN.out]; try omega), (by repeat (first | assumption | exact Bel.refl _ | refine Bel.drew ?_ | refine Bel.drewN ?_ _ | refine Bel.alloc ?_ _ | (refine Bel.trans ?_ (by assumption)) | (refine Bel.then ?_ (by assumption) (by intro x hx; first | (subst hx; simp; done) | (simp at *; omega)))))⟩
  · have HN := hid (show W.near n = n.tdiv 4 % 4294967296 * 2654435761 % 4294967296 by unfold W.near; rw [if_neg (by omega), if_neg (by omega), if_neg (by omega)])
    go_enter Try.func14, Try.ntmps14
    go_wp2
    go_ret
    exact ⟨ret_int (by rw [HN.out]; try omega), (by repeat (first | assumption | exact Bel.refl _ | refine Bel.drew ?_ | refine Bel.drewN ?_ _ | refine Bel.alloc ?_ _ | (refine Bel.trans ?_ (by assumption)) | (refine Bel.then ?_ (by assumption) (by intro x hx; first | (subst hx; simp; done) | (simp at *; omega)))))⟩
end Go.Proofs.Ytnjpmmdjaenomaa
