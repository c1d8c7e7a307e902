/- Walks: babelref01.pack, out, signed, Flags return what the plain law W.flags says; no condition but that the words are words. -/
import Derived.Test.YtnjpmmdjaenomaaProg
import Derived.Test.YtnjpmmdjaenomaaBase
import Derived.Test.YtnjpmmdjaenomaaW1
namespace Go.Proofs.Ytnjpmmdjaenomaa
set_option linter.unusedVariables false
open Go.RowKit

theorem rsigned_any (a : Int) (h0 : 0 ≤ a) (h1 : a < 4294967296) (w : World) :
    Calls Try.prog 39 #[.int .u32 a] w fun e w' => e = .returned (.int .i64 (W.sg a)) ∧ Bel w w' := by
  by_cases h : 2147483648 ≤ a
  · have HS := hid (show W.sg a = a - 4294967296 by simp [W.sg, h])
    go_enter Try.func39, Try.ntmps39
    go_wp2
    go_ret
    exact ⟨ret_int (by rw [HS.out]), (by repeat (first | assumption | exact Bel.refl _ | refine Bel.drew ?_ | refine Bel.drewN ?_ _ | refine Bel.alloc ?_ _ | (refine Bel.trans ?_ (by assumption)) | (refine Bel.then ?_ (by assumption) (by intro x hx; first | (subst hx; simp; done) | (simp at *; omega)))))⟩
  · have HS := hid (show W.sg a = a by simp [W.sg, h])
    go_enter Try.func39, Try.ntmps39
    go_wp2
    go_ret
    exact ⟨ret_int (by rw [HS.out]), (by repeat (first | assumption | exact Bel.refl _ | refine Bel.drew ?_ | refine Bel.drewN ?_ _ | refine Bel.alloc ?_ _ | (refine Bel.trans ?_ (by assumption)) | (refine Bel.then ?_ (by assumption) (by intro x hx; first | (subst hx; simp; done) | (simp at *; omega)))))⟩

theorem rout_any (n : Int) (w : World) :
    Calls Try.prog 38 #[.int .i64 n] w fun e w' => e = .returned (.bool (W.out n)) ∧ Bel w w' := by
  by_cases h : n < -2147483648
  · have HS := hid (show W.out n = true by simp [W.out, h])
    go_enter Try.func38, Try.ntmps38
    go_wp2
    go_ret
    exact ⟨ret_bool (by rw [HS.out]), (by repeat (first | assumption | exact Bel.refl _ | refine Bel.drew ?_ | refine Bel.drewN ?_ _ | refine Bel.alloc ?_ _ | (refine Bel.trans ?_ (by assumption)) | (refine Bel.then ?_ (by assumption) (by intro x hx; first | (subst hx; simp; done) | (simp at *; omega)))))⟩
  · have HS := hid (show W.out n = decide (2147483648 ≤ n) by simp [W.out, h])
    go_enter Try.func38, Try.ntmps38
    go_wp2
    go_ret
    exact ⟨ret_bool (by rw [HS.out]), (by repeat (first | assumption | exact Bel.refl _ | refine Bel.drew ?_ | refine Bel.drewN ?_ _ | refine Bel.alloc ?_ _ | (refine Bel.trans ?_ (by assumption)) | (refine Bel.then ?_ (by assumption) (by intro x hx; first | (subst hx; simp; done) | (simp at *; omega)))))⟩

theorem rpack_any (r : Int) (c v : Bool) (h0 : 0 ≤ r) (h1 : r < 4294967296) (w : World) :
    Calls Try.prog 37 #[.int .u32 r, .bool c, .bool v] w fun e w' => e = .returned (.int .u32 (W.pack r c v)) ∧ Bel w w' := by
  have HP := hid (show W.pack r c v = (if 2147483648 ≤ r then 8 else 0) + (if r = 0 then 4 else 0) + (if c then 2 else 0) + (if v then 1 else 0) from rfl)
  go_enter Try.func37, Try.ntmps37
  go_wp2
  all_goals
    go_ret
    refine ⟨ret_int ?_, (by repeat (first | assumption | exact Bel.refl _ | refine Bel.drew ?_ | refine Bel.drewN ?_ _ | refine Bel.alloc ?_ _ | (refine Bel.trans ?_ (by assumption)) | (refine Bel.then ?_ (by assumption) (by intro x hx; first | (subst hx; simp; done) | (simp at *; omega)))))⟩
    rw [HP.out]
    simp_all
    try omega
theorem rFlags_0 (a b : Int) (ha : 0 ≤ a) (ha' : a < 4294967296) (hb : 0 ≤ b) (hb' : b < 4294967296) (w : World) :
    Calls Try.prog 16 #[.int .i64 0, .int .u32 a, .int .u32 b] w fun e w' => e = .returned (.int .u32 (W.flags 0 a b)) ∧ Bel w w' := by
  have hsa := W.sg_bd a ha ha'
  have hsb := W.sg_bd b hb hb'
  have e := W.and15 a ha ha'
  go_enter Try.func16, Try.ntmps16
  go_wp2_with (first
    | (go_at_call 39; refine (rsigned_any _ (by omega) (by omega) _).mono ?_; rintro e w' ⟨rfl, hb⟩)
    | (go_at_call 38; refine (rout_any _ _).mono ?_; rintro e w' ⟨rfl, hb⟩)
    | (go_at_call 37; refine (rpack_any _ _ _ (by omega) (by omega) _).mono ?_; rintro e w' ⟨rfl, hb⟩))
  go_ret
  exact ⟨ret_int (by rw [W.flags_0]), (by repeat (first | assumption | exact Bel.refl _ | refine Bel.drew ?_ | refine Bel.drewN ?_ _ | refine Bel.alloc ?_ _ | (refine Bel.trans ?_ (by assumption)) | (refine Bel.then ?_ (by assumption) (by intro x hx; first | (subst hx; simp; done) | (simp at *; omega)))))⟩
theorem rFlags_1 (a b : Int) (ha : 0 ≤ a) (ha' : a < 4294967296) (hb : 0 ≤ b) (hb' : b < 4294967296) (w : World) :
    Calls Try.prog 16 #[.int .i64 1, .int .u32 a, .int .u32 b] w fun e w' => e = .returned (.int .u32 (W.flags 1 a b)) ∧ Bel w w' := by
  have hsa := W.sg_bd a ha ha'
  have hsb := W.sg_bd b hb hb'
  have e := W.and15 a ha ha'
  go_enter Try.func16, Try.ntmps16
  go_wp2_with (first
    | (go_at_call 39; refine (rsigned_any _ (by omega) (by omega) _).mono ?_; rintro e w' ⟨rfl, hb⟩)
    | (go_at_call 38; refine (rout_any _ _).mono ?_; rintro e w' ⟨rfl, hb⟩)
    | (go_at_call 37; refine (rpack_any _ _ _ (by omega) (by omega) _).mono ?_; rintro e w' ⟨rfl, hb⟩))
  go_ret
  exact ⟨ret_int (by rw [W.flags_1]), (by repeat (first | assumption | exact Bel.refl _ | refine Bel.drew ?_ | refine Bel.drewN ?_ _ | refine Bel.alloc ?_ _ | (refine Bel.trans ?_ (by assumption)) | (refine Bel.then ?_ (by assumption) (by intro x hx; first | (subst hx; simp; done) | (simp at *; omega)))))⟩
theorem rFlags_2 (a b : Int) (ha : 0 ≤ a) (ha' : a < 4294967296) (hb : 0 ≤ b) (hb' : b < 4294967296) (w : World) :
    Calls Try.prog 16 #[.int .i64 2, .int .u32 a, .int .u32 b] w fun e w' => e = .returned (.int .u32 (W.flags 2 a b)) ∧ Bel w w' := by
  have hsa := W.sg_bd a ha ha'
  have hsb := W.sg_bd b hb hb'
  have e := W.and15 a ha ha'
  go_enter Try.func16, Try.ntmps16
  go_wp2_with (first
    | (go_at_call 39; refine (rsigned_any _ (by omega) (by omega) _).mono ?_; rintro e w' ⟨rfl, hb⟩)
    | (go_at_call 38; refine (rout_any _ _).mono ?_; rintro e w' ⟨rfl, hb⟩)
    | (go_at_call 37; refine (rpack_any _ _ _ (by omega) (by omega) _).mono ?_; rintro e w' ⟨rfl, hb⟩))
  go_ret
  exact ⟨ret_int (by rw [W.flags_2]), (by repeat (first | assumption | exact Bel.refl _ | refine Bel.drew ?_ | refine Bel.drewN ?_ _ | refine Bel.alloc ?_ _ | (refine Bel.trans ?_ (by assumption)) | (refine Bel.then ?_ (by assumption) (by intro x hx; first | (subst hx; simp; done) | (simp at *; omega)))))⟩
theorem rFlags_3 (a b : Int) (ha : 0 ≤ a) (ha' : a < 4294967296) (hb : 0 ≤ b) (hb' : b < 4294967296) (w : World) :
    Calls Try.prog 16 #[.int .i64 3, .int .u32 a, .int .u32 b] w fun e w' => e = .returned (.int .u32 (W.flags 3 a b)) ∧ Bel w w' := by
  have hsa := W.sg_bd a ha ha'
  have hsb := W.sg_bd b hb hb'
  have e := W.and15 a ha ha'
  go_enter Try.func16, Try.ntmps16
  go_wp2_with (first
    | (go_at_call 39; refine (rsigned_any _ (by omega) (by omega) _).mono ?_; rintro e w' ⟨rfl, hb⟩)
    | (go_at_call 38; refine (rout_any _ _).mono ?_; rintro e w' ⟨rfl, hb⟩)
    | (go_at_call 37; refine (rpack_any _ _ _ (by omega) (by omega) _).mono ?_; rintro e w' ⟨rfl, hb⟩))
  go_ret
  exact ⟨ret_int (by rw [W.flags_3]), (by repeat (first | assumption | exact Bel.refl _ | refine Bel.drew ?_ | refine Bel.drewN ?_ _ | refine Bel.alloc ?_ _ | (refine Bel.trans ?_ (by assumption)) | (refine Bel.then ?_ (by assumption) (by intro x hx; first | (subst hx; simp; done) | (simp at *; omega)))))⟩
theorem rFlags_4 (a b : Int) (ha : 0 ≤ a) (ha' : a < 4294967296) (hb : 0 ≤ b) (hb' : b < 4294967296) (w : World) :
    Calls Try.prog 16 #[.int .i64 4, .int .u32 a, .int .u32 b] w fun e w' => e = .returned (.int .u32 (W.flags 4 a b)) ∧ Bel w w' := by
  have hsa := W.sg_bd a ha ha'
  have hsb := W.sg_bd b hb hb'
  have e := W.and15 a ha ha'
  go_enter Try.func16, Try.ntmps16
  go_wp2_with (first
    | (go_at_call 39; refine (rsigned_any _ (by omega) (by omega) _).mono ?_; rintro e w' ⟨rfl, hb⟩)
    | (go_at_call 38; refine (rout_any _ _).mono ?_; rintro e w' ⟨rfl, hb⟩)
    | (go_at_call 37; refine (rpack_any _ _ _ (by omega) (by omega) _).mono ?_; rintro e w' ⟨rfl, hb⟩))
  go_ret
  exact ⟨ret_int (by rw [W.flags_4]), (by repeat (first | assumption | exact Bel.refl _ | refine Bel.drew ?_ | refine Bel.drewN ?_ _ | refine Bel.alloc ?_ _ | (refine Bel.trans ?_ (by assumption)) | (refine Bel.then ?_ (by assumption) (by intro x hx; first | (subst hx; simp; done) | (simp at *; omega)))))⟩
theorem rFlags_5 (a b : Int) (ha : 0 ≤ a) (ha' : a < 4294967296) (hb : 0 ≤ b) (hb' : b < 4294967296) (w : World) :
    Calls Try.prog 16 #[.int .i64 5, .int .u32 a, .int .u32 b] w fun e w' => e = .returned (.int .u32 (W.flags 5 a b)) ∧ Bel w w' := by
  have hsa := W.sg_bd a ha ha'
  have hsb := W.sg_bd b hb hb'
  have e := W.and15 a ha ha'
  go_enter Try.func16, Try.ntmps16
  go_wp2_with (first
    | (go_at_call 39; refine (rsigned_any _ (by omega) (by omega) _).mono ?_; rintro e w' ⟨rfl, hb⟩)
    | (go_at_call 38; refine (rout_any _ _).mono ?_; rintro e w' ⟨rfl, hb⟩)
    | (go_at_call 37; refine (rpack_any _ _ _ (by omega) (by omega) _).mono ?_; rintro e w' ⟨rfl, hb⟩))
  go_ret
  exact ⟨ret_int (by rw [W.flags_5]), (by repeat (first | assumption | exact Bel.refl _ | refine Bel.drew ?_ | refine Bel.drewN ?_ _ | refine Bel.alloc ?_ _ | (refine Bel.trans ?_ (by assumption)) | (refine Bel.then ?_ (by assumption) (by intro x hx; first | (subst hx; simp; done) | (simp at *; omega)))))⟩
theorem rFlags_n (k a b : Int) (hk : k < 0 ∨ 5 < k) (w : World) :
    Calls Try.prog 16 #[.int .i64 k, .int .u32 a, .int .u32 b] w fun e w' => e = .returned (.int .u32 (W.flags k a b)) ∧ Bel w w' := by
  have HF := hid (W.flags_n k a b hk)
  have h0 : (k == 0) = false := by simp; omega
  have h1 : (k == 1) = false := by simp; omega
  have h2 : (k == 2) = false := by simp; omega
  have h3 : (k == 3) = false := by simp; omega
  have h4 : (k == 4) = false := by simp; omega
  have h5 : (k == 5) = false := by simp; omega
  go_enter Try.func16, Try.ntmps16
  go_wp2_with fail
  go_ret
  exact ⟨ret_int (by rw [HF.out]), (by repeat (first | assumption | exact Bel.refl _ | refine Bel.drew ?_ | refine Bel.drewN ?_ _ | refine Bel.alloc ?_ _ | (refine Bel.trans ?_ (by assumption)) | (refine Bel.then ?_ (by assumption) (by intro x hx; first | (subst hx; simp; done) | (simp at *; omega)))))⟩
theorem rFlags_any (k a b : Int) (ha : 0 ≤ a) (ha' : a < 4294967296) (hb : 0 ≤ b) (hb' : b < 4294967296) (w : World) :
    Calls Try.prog 16 #[.int .i64 k, .int .u32 a, .int .u32 b] w fun e w' => e = .returned (.int .u32 (W.flags k a b)) ∧ Bel w w' := by
  rcases (by omega : k = 0 ∨ k = 1 ∨ k = 2 ∨ k = 3 ∨ k = 4 ∨ k = 5 ∨ (k < 0 ∨ 5 < k)) with rfl | rfl | rfl | rfl | rfl | rfl | h
  · exact rFlags_0 a b ha ha' hb hb' w
  · exact rFlags_1 a b ha ha' hb hb' w
  · exact rFlags_2 a b ha ha' hb hb' w
  · exact rFlags_3 a b ha ha' hb hb' w
  · exact rFlags_4 a b ha ha' hb hb' w
  · exact rFlags_5 a b ha ha' hb hb' w
  · exact rFlags_n k a b h w
end Go.Proofs.Ytnjpmmdjaenomaa
