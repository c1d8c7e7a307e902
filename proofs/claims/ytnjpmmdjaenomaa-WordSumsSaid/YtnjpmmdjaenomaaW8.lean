/- Plain: changing up to 32 consecutive bits changes the checksum. No Go in sight; no condition. -/
import Derived.Test.YtnjpmmdjaenomaaW7
namespace Go.Proofs.Ytnjpmmdjaenomaa.W
set_option linter.unusedVariables false
open Go.RowKit
theorem crc1_xor (x z : B32) (h : z.getLsbD 0 = false) : crc1 (x ^^^ z) = crc1 x ^^^ (z >>> 1) := by
  unfold crc1
  rw [BitVec.getLsbD_xor, h, Bool.xor_false, BitVec.ushiftRight_xor_distrib]
  ac_rfl
theorem crcN_xor (n : Nat) (x z : B32) (h : ∀ i, i < n → z.getLsbD i = false) : crcN n (x ^^^ z) = crcN n x ^^^ (z >>> n) := by
  induction n with
  | zero => simp [crcN]
  | succ n ih =>
    show crc1 (crcN n (x ^^^ z)) = crc1 (crcN n x) ^^^ _
    rw [ih (fun i hi => h i (by omega)), crc1_xor _ _ (by rw [BitVec.getLsbD_ushiftRight]; exact h _ (by omega)), BitVec.shiftRight_add]
theorem crcN_add (m n : Nat) (x : B32) : crcN m (crcN n x) = crcN (m + n) x := by
  induction m with
  | zero => rw [Nat.zero_add]; rfl
  | succ m ih => rw [Nat.add_right_comm]; show crc1 _ = crc1 _; rw [ih]
/-- A byte as a word. -/
def bw (b : UInt8) : B32 := BitVec.ofNat 32 b.toNat
theorem bw_hi (b : UInt8) (i : Nat) (h : 8 ≤ i) : (bw b).getLsbD i = false := by
  unfold bw
  rw [BitVec.getLsbD_ofNat]
  have hb := b.toNat_lt
  have : b.toNat.testBit i = false := Nat.testBit_lt_two_pow (Nat.lt_of_lt_of_le hb (Nat.pow_le_pow_right (by decide : 0 < 2) h))
  rw [this, Bool.and_false]
/-- A byte handed in n bits later. -/
theorem late (n : Nat) (hn : n ≤ 24) (x : B32) (b : UInt8) : crcN n x ^^^ bw b = crcN n (x ^^^ (bw b <<< n)) := by
  rw [crcN_xor n x _ (fun i hi => by rw [BitVec.getLsbD_shiftLeft]; simp; omega)]
  congr 1
  apply BitVec.eq_of_getLsbD_eq
  intro i hi
  rw [BitVec.getLsbD_ushiftRight, BitVec.getLsbD_shiftLeft]
  by_cases h8 : 8 ≤ i
  · rw [bw_hi b i h8, show n + i - n = i by omega, bw_hi b i h8]; simp
  · simp only [show n + i < 32 by omega, decide_true, Bool.true_and, show ¬ (n + i < n) by omega, decide_false, Bool.not_false, show n + i - n = i by omega]
def word4 (b0 b1 b2 b3 : UInt8) : B32 := bw b0 ^^^ (bw b1 <<< 8) ^^^ (bw b2 <<< 16) ^^^ (bw b3 <<< 24)
theorem crc4 (s : B32) (b0 b1 b2 b3 : UInt8) : crcB (crcB (crcB (crcB s b0) b1) b2) b3 = crcN 32 (s ^^^ word4 b0 b1 b2 b3) := by
  show crcN 8 (crcN 8 (crcN 8 (crcN 8 (s ^^^ bw b0) ^^^ bw b1) ^^^ bw b2) ^^^ bw b3) = _
  rw [late 8 (by decide) (s ^^^ bw b0) b1, crcN_add, late (8 + 8) (by decide) (s ^^^ bw b0 ^^^ bw b1 <<< 8) b2, crcN_add, late (8 + (8 + 8)) (by decide) (s ^^^ bw b0 ^^^ bw b1 <<< 8 ^^^ bw b2 <<< (8 + 8)) b3, crcN_add]
  unfold word4
  simp only [Nat.reduceAdd, BitVec.xor_assoc]
theorem bw_xor (a b : UInt8) : bw (a ^^^ b) = bw a ^^^ bw b := by
  unfold bw
  apply BitVec.eq_of_toNat_eq
  have ha := a.toNat_lt; have hb := b.toNat_lt
  have hx : a.toNat ^^^ b.toNat < 2 ^ 8 := Nat.xor_lt_two_pow ha hb
  rw [BitVec.toNat_xor, BitVec.toNat_ofNat, BitVec.toNat_ofNat, BitVec.toNat_ofNat, UInt8.toNat_xor, Nat.mod_eq_of_lt (by omega), Nat.mod_eq_of_lt (by omega), Nat.mod_eq_of_lt (by omega)]
theorem word4_xor (a0 a1 a2 a3 b0 b1 b2 b3 : UInt8) : word4 (a0 ^^^ b0) (a1 ^^^ b1) (a2 ^^^ b2) (a3 ^^^ b3) = word4 a0 a1 a2 a3 ^^^ word4 b0 b1 b2 b3 := by
  unfold word4
  rw [bw_xor, bw_xor, bw_xor, bw_xor, BitVec.shiftLeft_xor_distrib, BitVec.shiftLeft_xor_distrib, BitVec.shiftLeft_xor_distrib]
  generalize bw a0 = A; generalize bw a1 <<< 8 = B; generalize bw a2 <<< 16 = C; generalize bw a3 <<< 24 = D
  generalize bw b0 = E; generalize bw b1 <<< 8 = F; generalize bw b2 <<< 16 = G; generalize bw b3 <<< 24 = H
  ac_rfl
/-- Byte j of a change. -/
def chB (c j : Nat) : UInt8 := UInt8.ofNat (c / 256 ^ j % 256)
theorem bw_chB (c j i : Nat) (hi : i < 8) : (bw (chB c j)).getLsbD i = c.testBit (8 * j + i) := by
  unfold bw chB
  have e : (UInt8.ofNat (c / 256 ^ j % 256)).toNat = c / 2 ^ (8 * j) % 2 ^ 8 := by
    rw [UInt8.toNat_ofNat', Nat.pow_mul]
    exact Nat.mod_eq_of_lt (Nat.mod_lt _ (by decide))
  rw [e, BitVec.getLsbD_ofNat, Nat.testBit_mod_two_pow, Nat.testBit_div_two_pow]
  simp [hi, show i < 32 by omega, Nat.add_comm]
theorem word4_ch (c : Nat) (hc : c < 4294967296) : word4 (chB c 0) (chB c 1) (chB c 2) (chB c 3) = BitVec.ofNat 32 c := by
  apply BitVec.eq_of_getLsbD_eq
  intro i hi
  unfold word4
  rw [BitVec.getLsbD_ofNat]
  simp only [BitVec.getLsbD_xor, BitVec.getLsbD_shiftLeft, hi, decide_true, Bool.true_and]
  by_cases h0 : i < 8
  · rw [bw_chB c 0 i h0]; simp [h0, show i < 16 by omega, show i < 24 by omega]
  · by_cases h1 : i < 16
    · rw [bw_hi _ i (by omega), bw_chB c 1 (i - 8) (by omega), show 8 * 1 + (i - 8) = i by omega]; simp [h0, h1, show i < 24 by omega]
    · by_cases h2 : i < 24
      · rw [bw_hi _ i (by omega), bw_hi _ (i - 8) (by omega), bw_chB c 2 (i - 16) (by omega), show 8 * 2 + (i - 16) = i by omega]; simp [h1, h2]
      · rw [bw_hi _ i (by omega), bw_hi _ (i - 8) (by omega), bw_hi _ (i - 16) (by omega), bw_chB c 3 (i - 24) (by omega), show 8 * 3 + (i - 24) = i by omega]; simp [h2]
/-- The bytes with a change from k on. -/
def chg (l : List UInt8) (k c : Nat) (j : Nat) : UInt8 := if k ≤ j ∧ j < k + 4 then l.getD j 0 ^^^ chB c (j - k) else l.getD j 0
theorem sum_change (l : List UInt8) (k c : Nat) (hk : k + 4 ≤ l.length) (h0 : 0 < c) (h1 : c < 4294967296) : sum ((List.range l.length).map (chg l k c)) ≠ sum l := by
  intro h
  have hcr : crcL ((List.range l.length).map (chg l k c)) 4294967295#32 = crcL l 4294967295#32 := by
    have := tn_inj h
    exact BitVec.not_inj.1 this
  have e1 : l = l.take k ++ ([l.getD k 0, l.getD (k + 1) 0, l.getD (k + 2) 0, l.getD (k + 3) 0] ++ l.drop (k + 4)) := by
    apply List.ext_getElem
    · simp; omega
    · intro i hi hi'
      simp only [List.getElem_append, List.length_take, List.getElem_take, List.length_cons, List.length_nil]
      split
      · rfl
      · split
        · have : i - min k l.length = 0 ∨ i - min k l.length = 1 ∨ i - min k l.length = 2 ∨ i - min k l.length = 3 := by omega
          rcases this with q | q | q | q <;> simp only [q, List.getElem_cons_zero, List.getElem_cons_succ] <;> rw [getD_lt _ _ _ (by omega)] <;> congr 1 <;> omega
        · rw [List.getElem_drop]; congr 1; omega
  have e2 : (List.range l.length).map (chg l k c) = l.take k ++ ([l.getD k 0 ^^^ chB c 0, l.getD (k + 1) 0 ^^^ chB c 1, l.getD (k + 2) 0 ^^^ chB c 2, l.getD (k + 3) 0 ^^^ chB c 3] ++ l.drop (k + 4)) := by
    apply List.ext_getElem
    · simp; omega
    · intro i hi hi'
      simp only [List.length_map, List.length_range] at hi
      simp only [List.getElem_map, List.getElem_range, List.getElem_append, List.length_take, List.getElem_take, List.length_cons, List.length_nil]
      unfold chg
      split
      · rename_i q1
        rw [dif_neg (by omega)]
        rw [dif_pos (by omega)]
        obtain ⟨d, rfl⟩ : ∃ d, i = k + d := ⟨i - k, by omega⟩
        have hd : k + d - min k l.length = d := by omega
        simp only [hd, Nat.add_sub_cancel_left]
        have : d = 0 ∨ d = 1 ∨ d = 2 ∨ d = 3 := by omega
        rcases this with rfl | rfl | rfl | rfl <;> rfl
      · split
        · rw [getD_lt _ _ _ hi]
        · rw [dif_neg (by omega), List.getElem_drop, getD_lt _ _ _ hi]; congr 1; omega
  rw [e2] at hcr
  have hcr2 : crcL (l.take k ++ ([l.getD k 0 ^^^ chB c 0, l.getD (k + 1) 0 ^^^ chB c 1, l.getD (k + 2) 0 ^^^ chB c 2, l.getD (k + 3) 0 ^^^ chB c 3] ++ l.drop (k + 4))) 4294967295#32 =
      crcL (l.take k ++ ([l.getD k 0, l.getD (k + 1) 0, l.getD (k + 2) 0, l.getD (k + 3) 0] ++ l.drop (k + 4))) 4294967295#32 := by rw [← e1]; exact hcr
  unfold crcL at hcr2
  rw [List.foldl_append, List.foldl_append, List.foldl_append, List.foldl_append] at hcr2
  have h4 := crcL_inj _ hcr2
  simp only [List.foldl_cons, List.foldl_nil] at h4
  rw [crc4, crc4] at h4
  have h5 := (BitVec.xor_right_inj _).1 (crcN_inj 32 h4)
  rw [word4_xor, word4_ch c h1] at h5
  have h6 : BitVec.ofNat 32 c = 0#32 := by
    have h7 := congrArg (fun r => word4 (l.getD k 0) (l.getD (k + 1) 0) (l.getD (k + 2) 0) (l.getD (k + 3) 0) ^^^ r) h5
    simpa [← BitVec.xor_assoc] using h7
  have h8 := congrArg BitVec.toNat h6
  rw [BitVec.toNat_ofNat, Nat.mod_eq_of_lt (by omega)] at h8
  simp at h8
  omega
end Go.Proofs.Ytnjpmmdjaenomaa.W
