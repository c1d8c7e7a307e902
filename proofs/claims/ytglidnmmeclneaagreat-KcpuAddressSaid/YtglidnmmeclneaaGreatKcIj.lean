/- Plain laws of kcpu: states that SetState keeps, single instructions. No program in sight. -/
import Derived.Test.YtglidnmmeclneaaGreatKc6
namespace Go.Proofs.YtglidnmmeclneaaGreat
set_option linter.unusedVariables false
set_option linter.unusedSimpArgs false
open Go.RowKit
theorem K.norm_id {s : Q.S} (hr : ∀ k, 8 ≤ k → k < 16 → s.r k = 0) (hf : 0 ≤ s.f ∧ s.f < 16) (h1 : 0 ≤ s.st) (h2 : 0 ≤ s.du) : K.norm s = s := by
  obtain ⟨pc, r, f, c, st, du⟩ := s
  have hr : ∀ k, 8 ≤ k → k < 16 → r k = 0 := hr
  have hf : 0 ≤ f ∧ f < 16 := hf
  have h1 : 0 ≤ st := h1
  have h2 : 0 ≤ du := h2
  have er : (Q.up (Q.up (Q.up (Q.up (Q.up (Q.up (Q.up (Q.up r 8 0) 9 0) 10 0) 11 0) 12 0) 13 0) 14 0) 15 0) = r := funext fun k => by
    unfold Q.up
    by_cases h : 8 ≤ k ∧ k < 16
    · rw [hr k h.1 h.2]; simp
    · simp only [if_neg (by omega : ¬ k = 8), if_neg (by omega : ¬ k = 9), if_neg (by omega : ¬ k = 10), if_neg (by omega : ¬ k = 11), if_neg (by omega : ¬ k = 12), if_neg (by omega : ¬ k = 13), if_neg (by omega : ¬ k = 14), if_neg (by omega : ¬ k = 15)]
  have ef : bits .and .u32 f 15 = f := by rw [show bits .and .u32 f 15 = f % 16 from W.and15 f hf.1 (by omega)]; omega
  show (⟨pc, (Q.up (Q.up (Q.up (Q.up (Q.up (Q.up (Q.up (Q.up r 8 0) 9 0) 10 0) 11 0) 12 0) 13 0) 14 0) 15 0), (bits .and .u32 f 15), c, (if 0 > st then 0 else st), (if 0 > du then 0 else du)⟩ : Q.S) = _
  rw [er, ef, if_neg (by omega), if_neg (by omega)]
/-- Registers 8 to 15 of a list of sixteen that ends so. -/
theorem K.tail8 {a b c d e f g h : Int} (k : Nat) (h1 : 8 ≤ k) (h2 : k < 16) : ([a, b, c, d, e, f, g, h, 0, 0, 0, 0, 0, 0, 0, 0] : List Int).getD k 0 = 0 := by
  rcases (by omega : k = 8 ∨ k = 9 ∨ k = 10 ∨ k = 11 ∨ k = 12 ∨ k = 13 ∨ k = 14 ∨ k = 15) with rfl | rfl | rfl | rfl | rfl | rfl | rfl | rfl <;> rfl
theorem K.row_bd {a b c d e f g h : Int} (ha : 0 ≤ a ∧ a < 4294967296) (hb : 0 ≤ b ∧ b < 4294967296) (hc : 0 ≤ c ∧ c < 4294967296) (hd : 0 ≤ d ∧ d < 4294967296) (he : 0 ≤ e ∧ e < 4294967296) (hf : 0 ≤ f ∧ f < 4294967296) (hg : 0 ≤ g ∧ g < 4294967296) (hh : 0 ≤ h ∧ h < 4294967296) (k : Nat) : 0 ≤ ([a, b, c, d, e, f, g, h, 0, 0, 0, 0, 0, 0, 0, 0] : List Int).getD k 0 ∧ ([a, b, c, d, e, f, g, h, 0, 0, 0, 0, 0, 0, 0, 0] : List Int).getD k 0 < 4294967296 := by
  refine K.lst_bd _ (fun x hx => ?_) k
  simp only [List.mem_cons, List.not_mem_nil, or_false] at hx
  rcases hx with rfl | rfl | rfl | rfl | rfl | rfl | rfl | rfl | rfl | rfl | rfl | rfl | rfl | rfl | rfl | rfl <;> first | assumption | decide
theorem K.z32 : (0 : Int) ≤ 0 ∧ (0 : Int) < 4294967296 := by decide
/-- One instruction that does not trap, within a run of one. -/
theorem K.one_run {S S' : Q.S} {V V' : M.V} {i : K.Ins} {t : Int} (h : K.nd S) (hf : K.fetch V S.pc = (i, 0, 0)) (hs : K.stepI i 0 0 S V = (S', 0, t, V')) (h2 : K.nd S') : K.runs 1 S V = (S', 1, 0, V') := K.runs_1 h ((K.step_at hf).trans hs) h2
/-- Code of one instruction at the page's address a. -/
theorem K.fetch_one {i : K.Ins} {x0 x1 x2 x3 z a : Int} (h : K.Good i) (ha : 0 ≤ a ∧ a + 7 ≤ 1024) (hx : ∀ j, (j = a.toNat / 256 ∨ j = (a.toNat + 6) / 256) → (bits .and .i64 (K.br x0 x1 x2 x3 j) 4 == 0) = false) : K.fetch (K.bV x0 x1 x2 x3 z a (K.bytes i)) a = (i, 0, 0) := by
  obtain ⟨z1, z2, z3⟩ := K.good_size h
  refine K.code_fetch h (K.bV_mem x0 x1 x2 x3 z a (K.bytes i) (by omega)) (by omega) 0 ha.1 (by omega) (by omega) (fun j => ?_) (by omega) (fun j hj => by rw [Nat.zero_add])
  by_cases hj : j < 7
  · refine .inl (hx _ ?_)
    omega
  · exact .inr (by omega)
theorem K.cat_cat (a b c : ByteArray) : (a ++ b) ++ c = a ++ (b ++ c) := K.str_inj (by simp [ByteArray.data_append])
theorem K.nil_cat (a : ByteArray) : (⟨#[]⟩ : ByteArray) ++ a = a := K.str_inj (by simp [ByteArray.data_append])
/-- An instruction that lies between other code. -/
theorem K.fetch_cat {i : K.Ins} {x0 x1 x2 x3 z a p : Int} {code pre post : ByteArray} (h : K.Good i) (hc : code = (pre ++ (R2.Encode i).1) ++ post) (hs : code.size ≤ 400) (ha : 0 ≤ a ∧ p + 7 ≤ 1024) (hp : p = a + ((pre.size : Nat) : Int)) (hx : ∀ j, (j = p.toNat / 256 ∨ j = (p.toNat + 6) / 256) → (bits .and .i64 (K.br x0 x1 x2 x3 j) 4 == 0) = false) : K.fetch (K.bV x0 x1 x2 x3 z a code) p = (i, 0, 0) := by
  obtain ⟨z1, z2, z3⟩ := K.good_size h
  have hz : code.size = pre.size + (K.bytes i).size + post.size := by subst hc; rw [ByteArray.size_append, ByteArray.size_append]; rfl
  refine K.code_fetch h (K.bV_mem x0 x1 x2 x3 z a code (by omega)) hs pre.size ha.1 hp ha.2 (fun j => ?_) (by omega) (fun j hj => ?_)
  · by_cases hj : j < 7
    · refine .inl (hx _ ?_)
      omega
    · exact .inr (by omega)
  · subst hc
    rw [K.byt_app _ _ _ (by rw [ByteArray.size_append]; show pre.size + j < pre.size + (K.bytes i).size; omega), K.byt_mid _ _ _ (by omega), show pre.size + j - pre.size = j by omega]; rfl
end Go.Proofs.YtglidnmmeclneaaGreat
