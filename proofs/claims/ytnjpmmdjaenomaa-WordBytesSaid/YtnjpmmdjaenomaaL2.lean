/- Walks: the laws WordConds, WordNames, WordSigns, WordBytes return true; no condition but that the arguments are of their kinds. -/
import Derived.Test.YtnjpmmdjaenomaaL1
import Derived.Test.YtnjpmmdjaenomaaW7
namespace Go.Proofs.Ytnjpmmdjaenomaa
set_option linter.unusedVariables false
open Go.RowKit
theorem WordConds_walk (cc f : Int) (hk : I64 cc) (w : World) :
    Calls Try.prog 8 #[.int .i64 cc, .int .u32 f] w fun e w' => e = .returned (.bool true) ∧ Bel w w' := by
  obtain ⟨hk0, hk1⟩ := hk
  obtain ⟨m, hm0, hm1, em⟩ := W.posmod cc 7 (by decide) (by decide)
  have ec := W.cond_compl m f hm0 hm1
  have hd := W.tmod_bd cc 7 (by decide)
  rw [IntWalk.wrap64_in _ (by omega)] at em
  go_enter Try.func8, Try.ntmps8
  go_wp2_with (first
    | (go_at_call 13; refine (sanity_any _).mono ?_; rintro e w' ⟨rfl, hb⟩)
    | (go_at_call 27; refine (Cond_any _ _ _).mono ?_; rintro e w' ⟨rfl, hb⟩)
    | (go_at_call 28; refine (rCond_any _ _ _).mono ?_; rintro e w' ⟨rfl, hb⟩))
  go_ret
  exact ⟨rfl, (by repeat (first | assumption | exact Bel.refl _ | refine Bel.drew ?_ | refine Bel.drewN ?_ _ | refine Bel.alloc ?_ _ | (refine Bel.trans ?_ (by assumption)) | (refine Bel.then ?_ (by assumption) (by intro x hx; first | (subst hx; simp; done) | (simp at *; omega)))))⟩
theorem WordNames_walk (cc : Int) (name : ByteArray) (w : World) :
    Calls Try.prog 9 #[.int .i64 cc, .string name] w fun e w' => e = .returned (.bool true) ∧ Bel w w' := by
  obtain ⟨m, hm0, hm1, em⟩ := W.posmod cc 14 (by decide) (by decide)
  have hd := W.tmod_bd cc 14 (by decide)
  rw [IntWalk.wrap64_in _ (by omega)] at em
  have ei := W.idx_name m hm0 hm1
  have e0 : max m 0 = m := by omega
  go_enter Try.func9, Try.ntmps9
  go_wp2_with (first
    | (go_at_call 13; refine (sanity_any _).mono ?_; rintro e w' ⟨rfl, hb⟩)
    | (go_at_call 29; refine (CondOf_any _ _).mono ?_; rintro e w' ⟨rfl, hb⟩)
    | (go_at_call 31; refine (rCondOf_any _ _).mono ?_; rintro e w' ⟨rfl, hb⟩)
    | (go_at_call 30; refine (CondName_any _ _).mono ?_; rintro e w' ⟨rfl, hb⟩)
    | (go_at_call 32; refine (rCondName_any _ _).mono ?_; rintro e w' ⟨rfl, hb⟩))
  all_goals
    go_ret
    exact ⟨rfl, (by repeat (first | assumption | exact Bel.refl _ | refine Bel.drew ?_ | refine Bel.drewN ?_ _ | refine Bel.alloc ?_ _ | (refine Bel.trans ?_ (by assumption)) | (refine Bel.then ?_ (by assumption) (by intro x hx; first | (subst hx; simp; done) | (simp at *; omega)))))⟩
theorem WordSigns_walk (n bits : Int) (hn : U32 n) (hb : I64 bits) (w : World) :
    Calls Try.prog 6 #[.int .u32 n, .int .i64 bits] w fun e w' => e = .returned (.bool true) ∧ Bel w w' := by
  obtain ⟨hn0, hn1⟩ := hn; obtain ⟨hb0, hb1⟩ := hb
  obtain ⟨m, hm0, hm1, em⟩ := W.posmod bits 35 (by decide) (by decide)
  have hd := W.tmod_bd bits 35 (by decide)
  rw [IntWalk.wrap64_in _ (by omega)] at em
  have hs := W.sign_bd n m hn0 hn1
  by_cases h1 : m < 1
  · skip
    go_enter Try.func6, Try.ntmps6
    go_wp2_with (first
      | (go_at_call 13; refine (sanity_any _).mono ?_; rintro e w' ⟨rfl, hb⟩)
      | (go_at_call 19; refine (Sign_any _ _ (by omega) (by omega) (by omega) (by omega) _).mono ?_; rintro e w' ⟨rfl, hb⟩)
      | (go_at_call 20; refine (rSign_any _ _ (by omega) (by omega) (by omega) (by omega) _).mono ?_; rintro e w' ⟨rfl, hb⟩)
      | (go_at_call 21; refine (Fits_any _ _ (by omega) (by omega) (by omega) (by omega) _).mono ?_; rintro e w' ⟨rfl, hb⟩)
      | (go_at_call 22; refine (rFits_any _ _ (by omega) (by omega) (by omega) (by omega) _).mono ?_; rintro e w' ⟨rfl, hb⟩))
    go_ret
    exact ⟨rfl, (by repeat (first | assumption | exact Bel.refl _ | refine Bel.drew ?_ | refine Bel.drewN ?_ _ | refine Bel.alloc ?_ _ | (refine Bel.trans ?_ (by assumption)) | (refine Bel.then ?_ (by assumption) (by intro x hx; first | (subst hx; simp; done) | (simp at *; omega)))))⟩
  by_cases h2 : 32 ≤ m
  · have es := W.sign_hi n m h2
    go_enter Try.func6, Try.ntmps6
    go_wp2_with (first
      | (go_at_call 13; refine (sanity_any _).mono ?_; rintro e w' ⟨rfl, hb⟩)
      | (go_at_call 19; refine (Sign_any _ _ (by omega) (by omega) (by omega) (by omega) _).mono ?_; rintro e w' ⟨rfl, hb⟩)
      | (go_at_call 20; refine (rSign_any _ _ (by omega) (by omega) (by omega) (by omega) _).mono ?_; rintro e w' ⟨rfl, hb⟩)
      | (go_at_call 21; refine (Fits_any _ _ (by omega) (by omega) (by omega) (by omega) _).mono ?_; rintro e w' ⟨rfl, hb⟩)
      | (go_at_call 22; refine (rFits_any _ _ (by omega) (by omega) (by omega) (by omega) _).mono ?_; rintro e w' ⟨rfl, hb⟩))
    go_ret
    exact ⟨rfl, (by repeat (first | assumption | exact Bel.refl _ | refine Bel.drew ?_ | refine Bel.drewN ?_ _ | refine Bel.alloc ?_ _ | (refine Bel.trans ?_ (by assumption)) | (refine Bel.then ?_ (by assumption) (by intro x hx; first | (subst hx; simp; done) | (simp at *; omega)))))⟩
  · have es := W.sign_low n m hn0 hn1 (by omega) (by omega)
    have ei := (W.sign_low0 n m hn0 hn1 (by omega) (by omega)).2
    go_enter Try.func6, Try.ntmps6
    go_wp2_with (first
      | (go_at_call 13; refine (sanity_any _).mono ?_; rintro e w' ⟨rfl, hb⟩)
      | (go_at_call 19; refine (Sign_any _ _ (by omega) (by omega) (by omega) (by omega) _).mono ?_; rintro e w' ⟨rfl, hb⟩)
      | (go_at_call 20; refine (rSign_any _ _ (by omega) (by omega) (by omega) (by omega) _).mono ?_; rintro e w' ⟨rfl, hb⟩)
      | (go_at_call 21; refine (Fits_any _ _ (by omega) (by omega) (by omega) (by omega) _).mono ?_; rintro e w' ⟨rfl, hb⟩)
      | (go_at_call 22; refine (rFits_any _ _ (by omega) (by omega) (by omega) (by omega) _).mono ?_; rintro e w' ⟨rfl, hb⟩))
    go_ret
    exact ⟨rfl, (by repeat (first | assumption | exact Bel.refl _ | refine Bel.drew ?_ | refine Bel.drewN ?_ _ | refine Bel.alloc ?_ _ | (refine Bel.trans ?_ (by assumption)) | (refine Bel.then ?_ (by assumption) (by intro x hx; first | (subst hx; simp; done) | (simp at *; omega)))))⟩
theorem WordBytes_walk (n size : Int) (s : ByteArray) (hn : U32 n) (hk : I64 size) (hs : s.size ≤ maxLen) (w : World) :
    Calls Try.prog 7 #[.int .u32 n, .int .i64 size, .string s] w fun e w' => e = .returned (.bool true) ∧ Bel w w' := by
  unfold maxLen at hs
  obtain ⟨hn0, hn1⟩ := hn; obtain ⟨hb0, hb1⟩ := hk
  obtain ⟨m, hm0, hm1, em⟩ := W.posmod size 5 (by decide) (by decide)
  have hd := W.tmod_bd size 5 (by decide)
  rw [IntWalk.wrap64_in _ (by omega)] at em
  have ep := W.put_size n m hm0 (by omega)
  have eg := W.get_put n m hm0 (by omega) hn0 hn1
  by_cases h4 : m < 4
  · obtain ⟨p, hp, e1, e2⟩ : ∃ p : Int, 0 < p ∧ 256 ^ m.toNat = p ∧ 2 ^ (8 * m).toNat % 4294967296 = p := by
      rcases (by omega : m = 0 ∨ m = 1 ∨ m = 2 ∨ m = 3) with rfl | rfl | rfl | rfl <;> exact ⟨_, by decide, rfl, by decide⟩
    rw [e1] at eg
    clear e1
    go_enter Try.func7, Try.ntmps7
    go_wp2_with (first
      | (go_at_call 13; refine (sanity_any _).mono ?_; rintro e w' ⟨rfl, hb⟩)
      | (go_at_call 23; refine (Put_any _ _ (by omega) (by omega) (by omega) (by omega) _).mono ?_; rintro e w' ⟨rfl, hb⟩)
      | (go_at_call 24; refine (rPut_any _ _ (by omega) (by omega) (by omega) (by omega) _).mono ?_; rintro e w' ⟨rfl, hb⟩)
      | (go_at_call 25; refine (Get_any _ ?_ _).mono ?_; (unfold maxLen; simp; omega); rintro e w' ⟨rfl, hb⟩)
      | (go_at_call 26; refine (rGet_any _ ?_ _).mono ?_; (unfold maxLen; simp; omega); rintro e w' ⟨rfl, hb⟩))
    all_goals
      go_ret
      exact ⟨rfl, (by repeat (first | assumption | exact Bel.refl _ | refine Bel.drew ?_ | refine Bel.drewN ?_ _ | refine Bel.alloc ?_ _ | (refine Bel.trans ?_ (by assumption)) | (refine Bel.then ?_ (by assumption) (by intro x hx; first | (subst hx; simp; done) | (simp at *; omega)))))⟩
  · obtain rfl : m = 4 := by omega
    rw [show n % 256 ^ (4 : Int).toNat = n by rw [show (256 : Int) ^ (4 : Int).toNat = 4294967296 from rfl]; omega] at eg
    go_enter Try.func7, Try.ntmps7
    go_wp2_with (first
      | (go_at_call 13; refine (sanity_any _).mono ?_; rintro e w' ⟨rfl, hb⟩)
      | (go_at_call 23; refine (Put_any _ _ (by omega) (by omega) (by omega) (by omega) _).mono ?_; rintro e w' ⟨rfl, hb⟩)
      | (go_at_call 24; refine (rPut_any _ _ (by omega) (by omega) (by omega) (by omega) _).mono ?_; rintro e w' ⟨rfl, hb⟩)
      | (go_at_call 25; refine (Get_any _ ?_ _).mono ?_; (unfold maxLen; simp; omega); rintro e w' ⟨rfl, hb⟩)
      | (go_at_call 26; refine (rGet_any _ ?_ _).mono ?_; (unfold maxLen; simp; omega); rintro e w' ⟨rfl, hb⟩))
    all_goals
      go_ret
      exact ⟨rfl, (by repeat (first | assumption | exact Bel.refl _ | refine Bel.drew ?_ | refine Bel.drewN ?_ _ | refine Bel.alloc ?_ _ | (refine Bel.trans ?_ (by assumption)) | (refine Bel.then ?_ (by assumption) (by intro x hx; first | (subst hx; simp; done) | (simp at *; omega)))))⟩
end Go.Proofs.Ytnjpmmdjaenomaa
