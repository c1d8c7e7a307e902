/- Walks: babelref01.Op returns W.op; no condition but that the words are words. -/
import Derived.Test.YtnjpmmdjaenomaaWj
namespace Go.Proofs.Ytnjpmmdjaenomaa
set_option linter.unusedVariables false
open Go.RowKit
theorem rOp_3 (a b : Int) (ha : 0 ≤ a) (ha' : a < 4294967296) (hb : 0 ≤ b) (hb' : b < 4294967296) (w : World) :
    Calls Try.prog 34 #[.int .i64 3, .int .u32 a, .int .u32 b] w fun e w' => e = .returned (.int .u32 (W.op 3 a b)) ∧ Bel w w' := by
  go_enter Try.func34, Try.ntmps34
  go_wp2_with (first | (go_at_call 44; refine (rbit_any _ _).mono ?_; rintro e w' ⟨rfl, hb⟩) | (go_at_call 39; refine (rsigned_any _ (by assumption) (by assumption) _).mono ?_; rintro e w' ⟨rfl, hb⟩))
  go_ret
  exact ⟨ret_int (by rw [W.op_3]), (by repeat (first | assumption | exact Bel.refl _ | refine Bel.drew ?_ | refine Bel.drewN ?_ _ | refine Bel.alloc ?_ _ | (refine Bel.trans ?_ (by assumption)) | (refine Bel.then ?_ (by assumption) (by intro x hx; first | (subst hx; simp; done) | (simp at *; omega)))))⟩
theorem rOp_4 (a b : Int) (ha : 0 ≤ a) (ha' : a < 4294967296) (hb : 0 ≤ b) (hb' : b < 4294967296) (w : World) :
    Calls Try.prog 34 #[.int .i64 4, .int .u32 a, .int .u32 b] w fun e w' => e = .returned (.int .u32 (W.op 4 a b)) ∧ Bel w w' := by
  go_enter Try.func34, Try.ntmps34
  go_wp2_with (first | (go_at_call 44; refine (rbit_any _ _).mono ?_; rintro e w' ⟨rfl, hb⟩) | (go_at_call 39; refine (rsigned_any _ (by assumption) (by assumption) _).mono ?_; rintro e w' ⟨rfl, hb⟩))
  go_ret
  exact ⟨ret_int (by rw [W.op_4]), (by repeat (first | assumption | exact Bel.refl _ | refine Bel.drew ?_ | refine Bel.drewN ?_ _ | refine Bel.alloc ?_ _ | (refine Bel.trans ?_ (by assumption)) | (refine Bel.then ?_ (by assumption) (by intro x hx; first | (subst hx; simp; done) | (simp at *; omega)))))⟩
theorem rOp_5 (a b : Int) (ha : 0 ≤ a) (ha' : a < 4294967296) (hb : 0 ≤ b) (hb' : b < 4294967296) (w : World) :
    Calls Try.prog 34 #[.int .i64 5, .int .u32 a, .int .u32 b] w fun e w' => e = .returned (.int .u32 (W.op 5 a b)) ∧ Bel w w' := by
  go_enter Try.func34, Try.ntmps34
  go_wp2_with (first | (go_at_call 44; refine (rbit_any _ _).mono ?_; rintro e w' ⟨rfl, hb⟩) | (go_at_call 39; refine (rsigned_any _ (by assumption) (by assumption) _).mono ?_; rintro e w' ⟨rfl, hb⟩))
  go_ret
  exact ⟨ret_int (by rw [W.op_5]), (by repeat (first | assumption | exact Bel.refl _ | refine Bel.drew ?_ | refine Bel.drewN ?_ _ | refine Bel.alloc ?_ _ | (refine Bel.trans ?_ (by assumption)) | (refine Bel.then ?_ (by assumption) (by intro x hx; first | (subst hx; simp; done) | (simp at *; omega)))))⟩
theorem rOp_6 (a b : Int) (ha : 0 ≤ a) (ha' : a < 4294967296) (hb : 0 ≤ b) (hb' : b < 4294967296) (w : World) :
    Calls Try.prog 34 #[.int .i64 6, .int .u32 a, .int .u32 b] w fun e w' => e = .returned (.int .u32 (W.op 6 a b)) ∧ Bel w w' := by
  go_enter Try.func34, Try.ntmps34
  go_wp2_with (first | (go_at_call 44; refine (rbit_any _ _).mono ?_; rintro e w' ⟨rfl, hb⟩) | (go_at_call 39; refine (rsigned_any _ (by assumption) (by assumption) _).mono ?_; rintro e w' ⟨rfl, hb⟩))
  go_ret
  exact ⟨ret_int (by rw [W.op_6]), (by repeat (first | assumption | exact Bel.refl _ | refine Bel.drew ?_ | refine Bel.drewN ?_ _ | refine Bel.alloc ?_ _ | (refine Bel.trans ?_ (by assumption)) | (refine Bel.then ?_ (by assumption) (by intro x hx; first | (subst hx; simp; done) | (simp at *; omega)))))⟩
theorem rOp_7 (a b : Int) (ha : 0 ≤ a) (ha' : a < 4294967296) (hb : 0 ≤ b) (hb' : b < 4294967296) (w : World) :
    Calls Try.prog 34 #[.int .i64 7, .int .u32 a, .int .u32 b] w fun e w' => e = .returned (.int .u32 (W.op 7 a b)) ∧ Bel w w' := by
  go_enter Try.func34, Try.ntmps34
  go_wp2_with (first | (go_at_call 44; refine (rbit_any _ _).mono ?_; rintro e w' ⟨rfl, hb⟩) | (go_at_call 39; refine (rsigned_any _ (by assumption) (by assumption) _).mono ?_; rintro e w' ⟨rfl, hb⟩))
  go_ret
  exact ⟨ret_int (by rw [W.op_7]), (by repeat (first | assumption | exact Bel.refl _ | refine Bel.drew ?_ | refine Bel.drewN ?_ _ | refine Bel.alloc ?_ _ | (refine Bel.trans ?_ (by assumption)) | (refine Bel.then ?_ (by assumption) (by intro x hx; first | (subst hx; simp; done) | (simp at *; omega)))))⟩
theorem rOp_8 (a b : Int) (ha : 0 ≤ a) (ha' : a < 4294967296) (hb : 0 ≤ b) (hb' : b < 4294967296) (w : World) :
    Calls Try.prog 34 #[.int .i64 8, .int .u32 a, .int .u32 b] w fun e w' => e = .returned (.int .u32 (W.op 8 a b)) ∧ Bel w w' := by
  have hd : 0 ≤ b % 32 ∧ b % 32 < 32 := by omega
  go_enter Try.func34, Try.ntmps34
  go_wp2_with (first | (go_at_call 44; refine (rbit_any _ _).mono ?_; rintro e w' ⟨rfl, hb⟩) | (go_at_call 39; refine (rsigned_any _ (by assumption) (by assumption) _).mono ?_; rintro e w' ⟨rfl, hb⟩))
  go_ret
  exact ⟨ret_int (by rw [W.op_8]), (by repeat (first | assumption | exact Bel.refl _ | refine Bel.drew ?_ | refine Bel.drewN ?_ _ | refine Bel.alloc ?_ _ | (refine Bel.trans ?_ (by assumption)) | (refine Bel.then ?_ (by assumption) (by intro x hx; first | (subst hx; simp; done) | (simp at *; omega)))))⟩
theorem rOp_9 (a b : Int) (ha : 0 ≤ a) (ha' : a < 4294967296) (hb : 0 ≤ b) (hb' : b < 4294967296) (w : World) :
    Calls Try.prog 34 #[.int .i64 9, .int .u32 a, .int .u32 b] w fun e w' => e = .returned (.int .u32 (W.op 9 a b)) ∧ Bel w w' := by
  have hd : 0 ≤ b % 32 ∧ b % 32 < 32 := by omega
  go_enter Try.func34, Try.ntmps34
  go_wp2_with (first | (go_at_call 44; refine (rbit_any _ _).mono ?_; rintro e w' ⟨rfl, hb⟩) | (go_at_call 39; refine (rsigned_any _ (by assumption) (by assumption) _).mono ?_; rintro e w' ⟨rfl, hb⟩))
  go_ret
  exact ⟨ret_int (by rw [W.op_9]), (by repeat (first | assumption | exact Bel.refl _ | refine Bel.drew ?_ | refine Bel.drewN ?_ _ | refine Bel.alloc ?_ _ | (refine Bel.trans ?_ (by assumption)) | (refine Bel.then ?_ (by assumption) (by intro x hx; first | (subst hx; simp; done) | (simp at *; omega)))))⟩
theorem rOp_10 (a b : Int) (ha : 0 ≤ a) (ha' : a < 4294967296) (hb : 0 ≤ b) (hb' : b < 4294967296) (w : World) :
    Calls Try.prog 34 #[.int .i64 10, .int .u32 a, .int .u32 b] w fun e w' => e = .returned (.int .u32 (W.op 10 a b)) ∧ Bel w w' := by
  have hd : 0 ≤ b % 32 ∧ b % 32 < 32 := by omega
  have hs := W.sg_bd a ha ha'
  have hs' := W.sg_bd b hb hb'
  go_enter Try.func34, Try.ntmps34
  go_wp2_with (first | (go_at_call 44; refine (rbit_any _ _).mono ?_; rintro e w' ⟨rfl, hb⟩) | (go_at_call 39; refine (rsigned_any _ (by assumption) (by assumption) _).mono ?_; rintro e w' ⟨rfl, hb⟩))
  go_ret
  exact ⟨ret_int (by rw [W.op_10]), (by repeat (first | assumption | exact Bel.refl _ | refine Bel.drew ?_ | refine Bel.drewN ?_ _ | refine Bel.alloc ?_ _ | (refine Bel.trans ?_ (by assumption)) | (refine Bel.then ?_ (by assumption) (by intro x hx; first | (subst hx; simp; done) | (simp at *; omega)))))⟩
theorem rOp_11 (a b : Int) (ha : 0 ≤ a) (ha' : a < 4294967296) (hb : 0 ≤ b) (hb' : b < 4294967296) (w : World) :
    Calls Try.prog 34 #[.int .i64 11, .int .u32 a, .int .u32 b] w fun e w' => e = .returned (.int .u32 (W.op 11 a b)) ∧ Bel w w' := by
  go_enter Try.func34, Try.ntmps34
  go_wp2_with (first | (go_at_call 44; refine (rbit_any _ _).mono ?_; rintro e w' ⟨rfl, hb⟩) | (go_at_call 39; refine (rsigned_any _ (by assumption) (by assumption) _).mono ?_; rintro e w' ⟨rfl, hb⟩))
  go_ret
  exact ⟨ret_int (by rw [W.op_11]), (by repeat (first | assumption | exact Bel.refl _ | refine Bel.drew ?_ | refine Bel.drewN ?_ _ | refine Bel.alloc ?_ _ | (refine Bel.trans ?_ (by assumption)) | (refine Bel.then ?_ (by assumption) (by intro x hx; first | (subst hx; simp; done) | (simp at *; omega)))))⟩
theorem rOp_12 (a b : Int) (ha : 0 ≤ a) (ha' : a < 4294967296) (hb : 0 ≤ b) (hb' : b < 4294967296) (w : World) :
    Calls Try.prog 34 #[.int .i64 12, .int .u32 a, .int .u32 b] w fun e w' => e = .returned (.int .u32 (W.op 12 a b)) ∧ Bel w w' := by
  by_cases h : b = 0
  · subst h
    go_enter Try.func34, Try.ntmps34
    go_wp2_with (first | (go_at_call 44; refine (rbit_any _ _).mono ?_; rintro e w' ⟨rfl, hb⟩) | (go_at_call 39; refine (rsigned_any _ (by assumption) (by assumption) _).mono ?_; rintro e w' ⟨rfl, hb⟩))
    go_ret
    exact ⟨ret_int (by rw [W.op_12]; simp), (by repeat (first | assumption | exact Bel.refl _ | refine Bel.drew ?_ | refine Bel.drewN ?_ _ | refine Bel.alloc ?_ _ | (refine Bel.trans ?_ (by assumption)) | (refine Bel.then ?_ (by assumption) (by intro x hx; first | (subst hx; simp; done) | (simp at *; omega)))))⟩
  · have h0 : (b == 0) = false := by simp [h]
    go_enter Try.func34, Try.ntmps34
    go_wp2_with (first | (go_at_call 44; refine (rbit_any _ _).mono ?_; rintro e w' ⟨rfl, hb⟩) | (go_at_call 39; refine (rsigned_any _ (by assumption) (by assumption) _).mono ?_; rintro e w' ⟨rfl, hb⟩))
    go_ret
    exact ⟨ret_int (by rw [W.op_12]), (by repeat (first | assumption | exact Bel.refl _ | refine Bel.drew ?_ | refine Bel.drewN ?_ _ | refine Bel.alloc ?_ _ | (refine Bel.trans ?_ (by assumption)) | (refine Bel.then ?_ (by assumption) (by intro x hx; first | (subst hx; simp; done) | (simp at *; omega)))))⟩
theorem rOp_13 (a b : Int) (ha : 0 ≤ a) (ha' : a < 4294967296) (hb : 0 ≤ b) (hb' : b < 4294967296) (w : World) :
    Calls Try.prog 34 #[.int .i64 13, .int .u32 a, .int .u32 b] w fun e w' => e = .returned (.int .u32 (W.op 13 a b)) ∧ Bel w w' := by
  go_enter Try.func34, Try.ntmps34
  go_wp2_with (first | (go_at_call 44; refine (rbit_any _ _).mono ?_; rintro e w' ⟨rfl, hb⟩) | (go_at_call 39; refine (rsigned_any _ (by assumption) (by assumption) _).mono ?_; rintro e w' ⟨rfl, hb⟩))
  go_ret
  exact ⟨ret_int (by rw [W.op_13]), (by repeat (first | assumption | exact Bel.refl _ | refine Bel.drew ?_ | refine Bel.drewN ?_ _ | refine Bel.alloc ?_ _ | (refine Bel.trans ?_ (by assumption)) | (refine Bel.then ?_ (by assumption) (by intro x hx; first | (subst hx; simp; done) | (simp at *; omega)))))⟩
theorem rOp_14 (a b : Int) (ha : 0 ≤ a) (ha' : a < 4294967296) (hb : 0 ≤ b) (hb' : b < 4294967296) (w : World) :
    Calls Try.prog 34 #[.int .i64 14, .int .u32 a, .int .u32 b] w fun e w' => e = .returned (.int .u32 (W.op 14 a b)) ∧ Bel w w' := by
  go_enter Try.func34, Try.ntmps34
  go_wp2_with (first | (go_at_call 44; refine (rbit_any _ _).mono ?_; rintro e w' ⟨rfl, hb⟩) | (go_at_call 39; refine (rsigned_any _ (by assumption) (by assumption) _).mono ?_; rintro e w' ⟨rfl, hb⟩))
  go_ret
  exact ⟨ret_int (by rw [W.op_14]), (by repeat (first | assumption | exact Bel.refl _ | refine Bel.drew ?_ | refine Bel.drewN ?_ _ | refine Bel.alloc ?_ _ | (refine Bel.trans ?_ (by assumption)) | (refine Bel.then ?_ (by assumption) (by intro x hx; first | (subst hx; simp; done) | (simp at *; omega)))))⟩
theorem rOp_15 (a b : Int) (ha : 0 ≤ a) (ha' : a < 4294967296) (hb : 0 ≤ b) (hb' : b < 4294967296) (w : World) :
    Calls Try.prog 34 #[.int .i64 15, .int .u32 a, .int .u32 b] w fun e w' => e = .returned (.int .u32 (W.op 15 a b)) ∧ Bel w w' := by
  have hs := W.sg_bd a ha ha'
  have hs' := W.sg_bd b hb hb'
  go_enter Try.func34, Try.ntmps34
  go_wp2_with (first | (go_at_call 44; refine (rbit_any _ _).mono ?_; rintro e w' ⟨rfl, hb⟩) | (go_at_call 39; refine (rsigned_any _ (by assumption) (by assumption) _).mono ?_; rintro e w' ⟨rfl, hb⟩))
  go_ret
  exact ⟨ret_int (by rw [W.op_15]), (by repeat (first | assumption | exact Bel.refl _ | refine Bel.drew ?_ | refine Bel.drewN ?_ _ | refine Bel.alloc ?_ _ | (refine Bel.trans ?_ (by assumption)) | (refine Bel.then ?_ (by assumption) (by intro x hx; first | (subst hx; simp; done) | (simp at *; omega)))))⟩
theorem rOp_n (c a b : Int) (hc : c < 3 ∨ 15 < c) (w : World) :
    Calls Try.prog 34 #[.int .i64 c, .int .u32 a, .int .u32 b] w fun e w' => e = .returned (.int .u32 (W.op c a b)) ∧ Bel w w' := by
  have HN := hid (W.op_n c a b hc)
  have h3 : (c == 3) = false := by simp; omega
  have h4 : (c == 4) = false := by simp; omega
  have h5 : (c == 5) = false := by simp; omega
  have h6 : (c == 6) = false := by simp; omega
  have h7 : (c == 7) = false := by simp; omega
  have h8 : (c == 8) = false := by simp; omega
  have h9 : (c == 9) = false := by simp; omega
  have h10 : (c == 10) = false := by simp; omega
  have h11 : (c == 11) = false := by simp; omega
  have h12 : (c == 12) = false := by simp; omega
  have h13 : (c == 13) = false := by simp; omega
  have h14 : (c == 14) = false := by simp; omega
  have h15 : (c == 15) = false := by simp; omega
  go_enter Try.func34, Try.ntmps34
  go_wp2_with fail
  go_ret
  exact ⟨ret_int (by rw [HN.out]), (by repeat (first | assumption | exact Bel.refl _ | refine Bel.drew ?_ | refine Bel.drewN ?_ _ | refine Bel.alloc ?_ _ | (refine Bel.trans ?_ (by assumption)) | (refine Bel.then ?_ (by assumption) (by intro x hx; first | (subst hx; simp; done) | (simp at *; omega)))))⟩
theorem rOp_any (c a b : Int) (ha : 0 ≤ a) (ha' : a < 4294967296) (hb : 0 ≤ b) (hb' : b < 4294967296) (w : World) :
    Calls Try.prog 34 #[.int .i64 c, .int .u32 a, .int .u32 b] w fun e w' => e = .returned (.int .u32 (W.op c a b)) ∧ Bel w w' := by
  rcases (by omega : c = 3 ∨ c = 4 ∨ c = 5 ∨ c = 6 ∨ c = 7 ∨ c = 8 ∨ c = 9 ∨ c = 10 ∨ c = 11 ∨ c = 12 ∨ c = 13 ∨ c = 14 ∨ c = 15 ∨ (c < 3 ∨ 15 < c)) with rfl | rfl | rfl | rfl | rfl | rfl | rfl | rfl | rfl | rfl | rfl | rfl | rfl | h
  · exact rOp_3 a b ha ha' hb hb' w
  · exact rOp_4 a b ha ha' hb hb' w
  · exact rOp_5 a b ha ha' hb hb' w
  · exact rOp_6 a b ha ha' hb hb' w
  · exact rOp_7 a b ha ha' hb hb' w
  · exact rOp_8 a b ha ha' hb hb' w
  · exact rOp_9 a b ha ha' hb hb' w
  · exact rOp_10 a b ha ha' hb hb' w
  · exact rOp_11 a b ha ha' hb hb' w
  · exact rOp_12 a b ha ha' hb hb' w
  · exact rOp_13 a b ha ha' hb hb' w
  · exact rOp_14 a b ha ha' hb hb' w
  · exact rOp_15 a b ha ha' hb hb' w
  · exact rOp_n c a b h w
end Go.Proofs.Ytnjpmmdjaenomaa
