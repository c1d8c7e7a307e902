/- Walks: word.Sign, Fits, babelref01.Sign, Fits return W.sign; no condition but that the words are words. -/
import Derived.Test.YtnjpmmdjaenomaaProg
import Derived.Test.YtnjpmmdjaenomaaBase
import Derived.Test.YtnjpmmdjaenomaaW2
namespace Go.Proofs.Ytnjpmmdjaenomaa
set_option linter.unusedVariables false
open Go.RowKit

theorem Sign_any (n k : Int) (h0 : 0 ≤ n) (h1 : n < 4294967296) (k0 : -9223372036854775808 ≤ k) (k1 : k ≤ 9223372036854775807) (w : World) :
    Calls Try.prog 19 #[.int .u32 n, .int .i64 k] w fun e w' => e = .returned (.int .u32 (W.sign n k)) ∧ Bel w w' := by
  by_cases a : k < 1
  · have HS := hid (W.sign_lo n k a)
    go_enter Try.func19, Try.ntmps19
    go_wp2
    go_ret
    exact ⟨ret_int (by rw [HS.out]), (by repeat (first | assumption | exact Bel.refl _ | refine Bel.drew ?_ | refine Bel.drewN ?_ _ | refine Bel.alloc ?_ _ | (refine Bel.trans ?_ (by assumption)) | (refine Bel.then ?_ (by assumption) (by intro x hx; first | (subst hx; simp; done) | (simp at *; omega)))))⟩
  by_cases b : 32 ≤ k
  · have HS := hid (W.sign_hi n k b)
    go_enter Try.func19, Try.ntmps19
    go_wp2
    go_ret
    exact ⟨ret_int (by rw [HS.out]), (by repeat (first | assumption | exact Bel.refl _ | refine Bel.drew ?_ | refine Bel.drewN ?_ _ | refine Bel.alloc ?_ _ | (refine Bel.trans ?_ (by assumption)) | (refine Bel.then ?_ (by assumption) (by intro x hx; first | (subst hx; simp; done) | (simp at *; omega)))))⟩
  · have HS := hid (W.sign_shift n k h0 h1 (by omega) (by omega))
    go_enter Try.func19, Try.ntmps19
    go_wp2
    go_ret
    exact ⟨ret_int (by rw [HS.out]), (by repeat (first | assumption | exact Bel.refl _ | refine Bel.drew ?_ | refine Bel.drewN ?_ _ | refine Bel.alloc ?_ _ | (refine Bel.trans ?_ (by assumption)) | (refine Bel.then ?_ (by assumption) (by intro x hx; first | (subst hx; simp; done) | (simp at *; omega)))))⟩
theorem rSign_any (n k : Int) (h0 : 0 ≤ n) (h1 : n < 4294967296) (k0 : -9223372036854775808 ≤ k) (k1 : k ≤ 9223372036854775807) (w : World) :
    Calls Try.prog 20 #[.int .u32 n, .int .i64 k] w fun e w' => e = .returned (.int .u32 (W.sign n k)) ∧ Bel w w' := by
  by_cases a : k < 1
  · have HS := hid (W.sign_lo n k a)
    go_enter Try.func20, Try.ntmps20
    go_wp2
    go_ret
    exact ⟨ret_int (by rw [HS.out]), (by repeat (first | assumption | exact Bel.refl _ | refine Bel.drew ?_ | refine Bel.drewN ?_ _ | refine Bel.alloc ?_ _ | (refine Bel.trans ?_ (by assumption)) | (refine Bel.then ?_ (by assumption) (by intro x hx; first | (subst hx; simp; done) | (simp at *; omega)))))⟩
  by_cases b : 32 ≤ k
  · have HS := hid (W.sign_hi n k b)
    go_enter Try.func20, Try.ntmps20
    go_wp2
    go_ret
    exact ⟨ret_int (by rw [HS.out]), (by repeat (first | assumption | exact Bel.refl _ | refine Bel.drew ?_ | refine Bel.drewN ?_ _ | refine Bel.alloc ?_ _ | (refine Bel.trans ?_ (by assumption)) | (refine Bel.then ?_ (by assumption) (by intro x hx; first | (subst hx; simp; done) | (simp at *; omega)))))⟩
  · obtain ⟨z, s1, s2⟩ := W.sign_mod n k h0 h1 (by omega) (by omega)
    have S1 := hid s1
    have S2 := hid s2
    clear s1 s2
    go_enter Try.func20, Try.ntmps20
    go_wp2
    · go_ret
      exact ⟨ret_int (by have := S1.out (by assumption); omega), (by repeat (first | assumption | exact Bel.refl _ | refine Bel.drew ?_ | refine Bel.drewN ?_ _ | refine Bel.alloc ?_ _ | (refine Bel.trans ?_ (by assumption)) | (refine Bel.then ?_ (by assumption) (by intro x hx; first | (subst hx; simp; done) | (simp at *; omega)))))⟩
    · go_ret
      exact ⟨ret_int (by rw [S2.out (by assumption)]), (by repeat (first | assumption | exact Bel.refl _ | refine Bel.drew ?_ | refine Bel.drewN ?_ _ | refine Bel.alloc ?_ _ | (refine Bel.trans ?_ (by assumption)) | (refine Bel.then ?_ (by assumption) (by intro x hx; first | (subst hx; simp; done) | (simp at *; omega)))))⟩
theorem Fits_any (n k : Int) (h0 : 0 ≤ n) (h1 : n < 4294967296) (k0 : -9223372036854775808 ≤ k) (k1 : k ≤ 9223372036854775807) (w : World) :
    Calls Try.prog 21 #[.int .u32 n, .int .i64 k] w fun e w' => e = .returned (.bool (W.sign n k == n)) ∧ Bel w w' := by
  go_enter Try.func21, Try.ntmps21
  go_wp2_with (go_at_call 19; refine (Sign_any _ _ h0 h1 k0 k1 _).mono ?_; rintro e w' ⟨rfl, hb⟩)
  go_ret
  exact ⟨rfl, (by repeat (first | assumption | exact Bel.refl _ | refine Bel.drew ?_ | refine Bel.drewN ?_ _ | refine Bel.alloc ?_ _ | (refine Bel.trans ?_ (by assumption)) | (refine Bel.then ?_ (by assumption) (by intro x hx; first | (subst hx; simp; done) | (simp at *; omega)))))⟩
theorem rFits_any (n k : Int) (h0 : 0 ≤ n) (h1 : n < 4294967296) (k0 : -9223372036854775808 ≤ k) (k1 : k ≤ 9223372036854775807) (w : World) :
    Calls Try.prog 22 #[.int .u32 n, .int .i64 k] w fun e w' => e = .returned (.bool (W.sign n k == n)) ∧ Bel w w' := by
  go_enter Try.func22, Try.ntmps22
  go_wp2_with (go_at_call 20; refine (rSign_any _ _ h0 h1 k0 k1 _).mono ?_; rintro e w' ⟨rfl, hb⟩)
  go_ret
  exact ⟨rfl, (by repeat (first | assumption | exact Bel.refl _ | refine Bel.drew ?_ | refine Bel.drewN ?_ _ | refine Bel.alloc ?_ _ | (refine Bel.trans ?_ (by assumption)) | (refine Bel.then ?_ (by assumption) (by intro x hx; first | (subst hx; simp; done) | (simp at *; omega)))))⟩
end Go.Proofs.Ytnjpmmdjaenomaa
