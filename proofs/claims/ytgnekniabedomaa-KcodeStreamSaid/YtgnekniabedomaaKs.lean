/- Plain laws of kcode: Decode is the reference's. No program in sight. -/
import Derived.Test.YtgnekniabedomaaKr
namespace Go.Proofs.Ytgnekniabedomaa
set_option linter.unusedVariables false
set_option linter.unusedSimpArgs false
open Go.RowKit
theorem R2.byt_from (s : ByteArray) (m j : Nat) (hm : m ≤ s.size) : W.byt (s.extract m s.size).data.toList j = W.byt s.data.toList (m + j) := by
  unfold W.byt
  congr 2
  have e : (s.extract m s.size).data.toList = s.data.toList.drop m := by
    rw [ByteArray.data_extract, Array.toList_extract]
    have : s.size = s.data.toList.length := by rw [Array.length_toList]; rfl
    rw [this, List.extract_eq_take_drop]
    rw [List.take_of_length_le (by simp)]
  rw [e]; simp [List.getD, List.getElem?_drop]
theorem R2.extend_eq (x : Int) (h0 : 0 ≤ x) (h1 : x < 256) : R2.extend x = W.sign x 8 := by
  rw [K.sign8 x h0 h1]
  unfold R2.extend
  simp only [K.wu32, Bool.cond_eq_ite, decide_eq_true_eq]
  split <;> split <;> omega
theorem R2.long_eq (s : ByteArray) (m : Nat) (hm : m + 4 ≤ s.size) : R2.long (s.extract m s.size) = K.four s.data.toList m := by
  unfold R2.long K.four
  have b0 := W.byt_bd s.data.toList m
  have b1 := W.byt_bd s.data.toList (m + 1)
  have b2 := W.byt_bd s.data.toList (m + 2)
  have b3 := W.byt_bd s.data.toList (m + 3)
  simp only [R2.byt_from s m _ (by omega : m ≤ s.size), K.wu32, Nat.add_zero]
  omega
theorem K.wb (l : List UInt8) (n : Nat) : IntKind.wrap .i64 (W.byt l n) = W.byt l n := K.w64 _ (by have := W.byt_bd l n; omega) (by have := W.byt_bd l n; omega)
theorem K.wb2 (l : List UInt8) (n : Nat) : IntKind.wrap .i64 (W.byt l n / 16) = W.byt l n / 16 := K.w64 _ (by have := W.byt_bd l n; omega) (by have := W.byt_bd l n; omega)
theorem K.tdb (l : List UInt8) (n : Nat) : Int.tdiv (W.byt l n) 16 = W.byt l n / 16 := Int.tdiv_eq_ediv_of_nonneg (W.byt_bd l n).1
theorem K.tmb (l : List UInt8) (n : Nat) : Int.tmod (W.byt l n) 16 = W.byt l n % 16 := Int.tmod_eq_emod_of_nonneg (W.byt_bd l n).1
theorem K.exb (l : List UInt8) (n : Nat) : R2.extend (W.byt l n) = W.sign (W.byt l n) 8 := R2.extend_eq _ (W.byt_bd l n).1 (W.byt_bd l n).2
theorem K.read_1 (s : ByteArray) (hs : s.size = 1) (hf : R2.Format (W.byt s.data.toList 0) = 1) : R2.read s = K.rd 0 s.data.toList 1 := by
  have hd : decide (((s.size : Nat) : Int) > 1) = false := by simp; omega
  unfold R2.read
  simp only [K.wb, K.wb2, K.tdb, K.tmb, K.exb, hf, hd]
  rw [show ((s.size : Nat) : Int) = 1 by omega]
  have hb : W.byt s.data.toList 1 % 4294967296 = W.byt s.data.toList 1 := by have := W.byt_bd s.data.toList 1; omega
  simp [K.rd, K.t_none, K.t_reg, K.t_pair, K.t_small, K.t_full, K.t_plain, K.i0, K.wu32, hb]
theorem K.read_2 (s : ByteArray) (hs : s.size = 2) (hf : R2.Format (W.byt s.data.toList 0) = 2) : R2.read s = K.rd 1 s.data.toList 2 := by
  have hd : decide (((s.size : Nat) : Int) > 1) = true := by simp; omega
  unfold R2.read
  simp only [K.wb, K.wb2, K.tdb, K.tmb, K.exb, hf, hd]
  rw [show ((s.size : Nat) : Int) = 2 by omega]
  have hb : W.byt s.data.toList 1 % 4294967296 = W.byt s.data.toList 1 := by have := W.byt_bd s.data.toList 1; omega
  simp [K.rd, K.t_none, K.t_reg, K.t_pair, K.t_small, K.t_full, K.t_plain, K.i0, K.wu32, hb]
theorem K.read_3 (s : ByteArray) (hs : s.size = 2) (hf : R2.Format (W.byt s.data.toList 0) = 3) : R2.read s = K.rd 2 s.data.toList 2 := by
  have hd : decide (((s.size : Nat) : Int) > 1) = true := by simp; omega
  unfold R2.read
  simp only [K.wb, K.wb2, K.tdb, K.tmb, K.exb, hf, hd]
  rw [show ((s.size : Nat) : Int) = 2 by omega]
  have hb : W.byt s.data.toList 1 % 4294967296 = W.byt s.data.toList 1 := by have := W.byt_bd s.data.toList 1; omega
  simp [K.rd, K.t_none, K.t_reg, K.t_pair, K.t_small, K.t_full, K.t_plain, K.i0, K.wu32, hb]
theorem K.read_4 (s : ByteArray) (hs : s.size = 3) (hf : R2.Format (W.byt s.data.toList 0) = 4) : R2.read s = K.rd 3 s.data.toList 3 := by
  have hd : decide (((s.size : Nat) : Int) > 1) = true := by simp; omega
  unfold R2.read
  simp only [K.wb, K.wb2, K.tdb, K.tmb, K.exb, hf, hd]
  rw [show ((s.size : Nat) : Int) = 3 by omega]
  have hb : W.byt s.data.toList 1 % 4294967296 = W.byt s.data.toList 1 := by have := W.byt_bd s.data.toList 1; omega
  simp [K.rd, K.t_none, K.t_reg, K.t_pair, K.t_small, K.t_full, K.t_plain, K.i0, K.wu32, hb]
theorem K.read_5 (s : ByteArray) (hs : s.size = 6) (hf : R2.Format (W.byt s.data.toList 0) = 5) : R2.read s = K.rd 4 s.data.toList 6 := by
  have hd : decide (((s.size : Nat) : Int) > 1) = true := by simp; omega
  unfold R2.read
  simp only [K.wb, K.wb2, K.tdb, K.tmb, K.exb, hf, hd, R2.long_eq s 2 (by omega)]
  rw [show ((s.size : Nat) : Int) = 6 by omega]
  have hb : W.byt s.data.toList 1 % 4294967296 = W.byt s.data.toList 1 := by have := W.byt_bd s.data.toList 1; omega
  simp [K.rd, K.t_none, K.t_reg, K.t_pair, K.t_small, K.t_full, K.t_plain, K.i0, K.wu32, hb]
theorem K.read_6 (s : ByteArray) (hs : s.size = 3) (hf : R2.Format (W.byt s.data.toList 0) = 6) : R2.read s = K.rd 5 s.data.toList 3 := by
  have hd : decide (((s.size : Nat) : Int) > 1) = true := by simp; omega
  unfold R2.read
  simp only [K.wb, K.wb2, K.tdb, K.tmb, K.exb, hf, hd]
  rw [show ((s.size : Nat) : Int) = 3 by omega]
  have hb : W.byt s.data.toList 1 % 4294967296 = W.byt s.data.toList 1 := by have := W.byt_bd s.data.toList 1; omega
  simp [K.rd, K.t_none, K.t_reg, K.t_pair, K.t_small, K.t_full, K.t_plain, K.i0, K.wu32, hb]
theorem K.read_7 (s : ByteArray) (hs : s.size = 7) (hf : R2.Format (W.byt s.data.toList 0) = 7) : R2.read s = K.rd 6 s.data.toList 7 := by
  have hd : decide (((s.size : Nat) : Int) > 1) = true := by simp; omega
  unfold R2.read
  simp only [K.wb, K.wb2, K.tdb, K.tmb, K.exb, hf, hd, R2.long_eq s 3 (by omega)]
  rw [show ((s.size : Nat) : Int) = 7 by omega]
  cases h8 : (W.byt s.data.toList 2 != 8) with
  | true =>
    have h8' : ¬ W.byt s.data.toList 2 = 8 := by simpa using h8
    simp [K.rd, K.t_full, K.t_index, K.t_pair, K.i0, h8']
  | false =>
    have h8' : W.byt s.data.toList 2 = 8 := by simpa using h8
    simp [K.rd, K.t_full, K.t_index, K.t_pair, K.i0, h8']
theorem K.read_8 (s : ByteArray) (hs : s.size = 2) (hf : R2.Format (W.byt s.data.toList 0) = 8) : R2.read s = K.rd 7 s.data.toList 2 := by
  have hd : decide (((s.size : Nat) : Int) > 1) = true := by simp; omega
  unfold R2.read
  simp only [K.wb, K.wb2, K.tdb, K.tmb, K.exb, hf, hd]
  rw [show ((s.size : Nat) : Int) = 2 by omega]
  have hb : W.byt s.data.toList 1 % 4294967296 = W.byt s.data.toList 1 := by have := W.byt_bd s.data.toList 1; omega
  simp [K.rd, K.t_none, K.t_reg, K.t_pair, K.t_small, K.t_full, K.t_plain, K.i0, K.wu32, hb]
theorem K.read_9 (s : ByteArray) (hs : s.size = 5) (hf : R2.Format (W.byt s.data.toList 0) = 9) : R2.read s = K.rd 8 s.data.toList 5 := by
  have hd : decide (((s.size : Nat) : Int) > 1) = true := by simp; omega
  unfold R2.read
  simp only [K.wb, K.wb2, K.tdb, K.tmb, K.exb, hf, hd, R2.long_eq s 1 (by omega)]
  rw [show ((s.size : Nat) : Int) = 5 by omega]
  have hb : W.byt s.data.toList 1 % 4294967296 = W.byt s.data.toList 1 := by have := W.byt_bd s.data.toList 1; omega
  simp [K.rd, K.t_none, K.t_reg, K.t_pair, K.t_small, K.t_full, K.t_plain, K.i0, K.wu32, hb]
theorem K.read_10 (s : ByteArray) (hs : s.size = 2) (hf : R2.Format (W.byt s.data.toList 0) = 10) : R2.read s = K.rd 9 s.data.toList 2 := by
  have hd : decide (((s.size : Nat) : Int) > 1) = true := by simp; omega
  unfold R2.read
  simp only [K.wb, K.wb2, K.tdb, K.tmb, K.exb, hf, hd]
  rw [show ((s.size : Nat) : Int) = 2 by omega]
  have hb : W.byt s.data.toList 1 % 4294967296 = W.byt s.data.toList 1 := by have := W.byt_bd s.data.toList 1; omega
  simp [K.rd, K.t_none, K.t_reg, K.t_pair, K.t_small, K.t_full, K.t_plain, K.i0, K.wu32, hb]
theorem K.read_11 (s : ByteArray) (hs : s.size = 2) (hf : R2.Format (W.byt s.data.toList 0) = 11) : R2.read s = K.rd 10 s.data.toList 2 := by
  have hd : decide (((s.size : Nat) : Int) > 1) = true := by simp; omega
  unfold R2.read
  simp only [K.wb, K.wb2, K.tdb, K.tmb, K.exb, hf, hd]
  rw [show ((s.size : Nat) : Int) = 2 by omega]
  have hb : W.byt s.data.toList 1 % 4294967296 = W.byt s.data.toList 1 := by have := W.byt_bd s.data.toList 1; omega
  simp [K.rd, K.t_none, K.t_reg, K.t_pair, K.t_small, K.t_full, K.t_plain, K.i0, K.wu32, hb]
theorem K.read_12 (s : ByteArray) (hs : s.size = 2) (hf : R2.Format (W.byt s.data.toList 0) = 12) : R2.read s = K.rd 10 s.data.toList 2 := by
  have hd : decide (((s.size : Nat) : Int) > 1) = true := by simp; omega
  unfold R2.read
  simp only [K.wb, K.wb2, K.tdb, K.tmb, K.exb, hf, hd]
  rw [show ((s.size : Nat) : Int) = 2 by omega]
  have hb : W.byt s.data.toList 1 % 4294967296 = W.byt s.data.toList 1 := by have := W.byt_bd s.data.toList 1; omega
  simp [K.rd, K.t_none, K.t_reg, K.t_pair, K.t_small, K.t_full, K.t_plain, K.i0, K.wu32, hb]
set_option maxHeartbeats 2000000 in
theorem K.decode_eq (s : ByteArray) (hs : s.size ≤ maxLen) : K.decode s = R2.Decode s := by
  have hb0 := W.byt_bd s.data.toList 0
  have hw := K.wb s.data.toList 0
  unfold K.decode R2.Decode
  rw [hw]
  rcases K.fmt_cases (W.byt s.data.toList 0) with ⟨hk, hf⟩ | ⟨hk, hf, h1, h2⟩ | ⟨hk, hf, h1, h2⟩ | ⟨hk, hf, h1, h2⟩ | ⟨hk, hf, h1, h2⟩ | ⟨hk, hf, h1, h2⟩ | ⟨hk, hf, h1, h2⟩ | ⟨hk, hf, h1, h2⟩ | ⟨hk, hf, h1, h2⟩ | ⟨hk, hf, h1, h2⟩ | ⟨hk, hf, h1⟩ | ⟨hk, hf, h1⟩ | ⟨hk, hf, h1⟩
  · have hz : R2.Size (W.byt s.data.toList 0) = 0 := by unfold R2.Size; rw [hw, hf]; rfl
    rw [hk, hz]
    show K.decode0 s = _
    unfold K.decode0; rfl
  · have hz : R2.Size (W.byt s.data.toList 0) = 1 := by unfold R2.Size; rw [hw, hf]; rfl
    have hl : K.len 0 = 1 := rfl
    rw [hk, hz]
    show K.decode1 0 s = _
    unfold K.decode1
    rw [hl]
    cases h1 : (s.toList == (⟨#[]⟩ : ByteArray).toList) with
    | true => rfl
    | false =>
      rw [cond_false, cond_false, show ((1 : Int) == 0) = false from rfl, cond_false]
      cases h2 : decide (((s.size : Nat) : Int) < 1) with
      | true => rfl
      | false =>
        have h3 : 1 ≤ s.size := by simp at h2; omega
        have e : ((1 : Int).toNat) = 1 := rfl
        have ez : (s.extract 0 1).size = 1 := by rw [ByteArray.size_extract]; omega
        have er := K.read_1 (s.extract 0 1) ez (by rw [R2.byt_extract s 1 0 (by omega) h3]; exact hf)
        rw [cond_false, cond_false, e, er, K.valid_eq _ (K.rd_imm 0 (by decide) _ _)]
  · have hz : R2.Size (W.byt s.data.toList 0) = 2 := by unfold R2.Size; rw [hw, hf]; rfl
    have hl : K.len 1 = 2 := rfl
    rw [hk, hz]
    show K.decode1 1 s = _
    unfold K.decode1
    rw [hl]
    cases h1 : (s.toList == (⟨#[]⟩ : ByteArray).toList) with
    | true => rfl
    | false =>
      rw [cond_false, cond_false, show ((2 : Int) == 0) = false from rfl, cond_false]
      cases h2 : decide (((s.size : Nat) : Int) < 2) with
      | true => rfl
      | false =>
        have h3 : 2 ≤ s.size := by simp at h2; omega
        have e : ((2 : Int).toNat) = 2 := rfl
        have ez : (s.extract 0 2).size = 2 := by rw [ByteArray.size_extract]; omega
        have er := K.read_2 (s.extract 0 2) ez (by rw [R2.byt_extract s 2 0 (by omega) h3]; exact hf)
        rw [cond_false, cond_false, e, er, K.valid_eq _ (K.rd_imm 1 (by decide) _ _)]
  · have hz : R2.Size (W.byt s.data.toList 0) = 2 := by unfold R2.Size; rw [hw, hf]; rfl
    have hl : K.len 2 = 2 := rfl
    rw [hk, hz]
    show K.decode1 2 s = _
    unfold K.decode1
    rw [hl]
    cases h1 : (s.toList == (⟨#[]⟩ : ByteArray).toList) with
    | true => rfl
    | false =>
      rw [cond_false, cond_false, show ((2 : Int) == 0) = false from rfl, cond_false]
      cases h2 : decide (((s.size : Nat) : Int) < 2) with
      | true => rfl
      | false =>
        have h3 : 2 ≤ s.size := by simp at h2; omega
        have e : ((2 : Int).toNat) = 2 := rfl
        have ez : (s.extract 0 2).size = 2 := by rw [ByteArray.size_extract]; omega
        have er := K.read_3 (s.extract 0 2) ez (by rw [R2.byt_extract s 2 0 (by omega) h3]; exact hf)
        rw [cond_false, cond_false, e, er, K.valid_eq _ (K.rd_imm 2 (by decide) _ _)]
  · have hz : R2.Size (W.byt s.data.toList 0) = 3 := by unfold R2.Size; rw [hw, hf]; rfl
    have hl : K.len 3 = 3 := rfl
    rw [hk, hz]
    show K.decode1 3 s = _
    unfold K.decode1
    rw [hl]
    cases h1 : (s.toList == (⟨#[]⟩ : ByteArray).toList) with
    | true => rfl
    | false =>
      rw [cond_false, cond_false, show ((3 : Int) == 0) = false from rfl, cond_false]
      cases h2 : decide (((s.size : Nat) : Int) < 3) with
      | true => rfl
      | false =>
        have h3 : 3 ≤ s.size := by simp at h2; omega
        have e : ((3 : Int).toNat) = 3 := rfl
        have ez : (s.extract 0 3).size = 3 := by rw [ByteArray.size_extract]; omega
        have er := K.read_4 (s.extract 0 3) ez (by rw [R2.byt_extract s 3 0 (by omega) h3]; exact hf)
        rw [cond_false, cond_false, e, er, K.valid_eq _ (K.rd_imm 3 (by decide) _ _)]
  · have hz : R2.Size (W.byt s.data.toList 0) = 6 := by unfold R2.Size; rw [hw, hf]; rfl
    have hl : K.len 4 = 6 := rfl
    rw [hk, hz]
    show K.decode1 4 s = _
    unfold K.decode1
    rw [hl]
    cases h1 : (s.toList == (⟨#[]⟩ : ByteArray).toList) with
    | true => rfl
    | false =>
      rw [cond_false, cond_false, show ((6 : Int) == 0) = false from rfl, cond_false]
      cases h2 : decide (((s.size : Nat) : Int) < 6) with
      | true => rfl
      | false =>
        have h3 : 6 ≤ s.size := by simp at h2; omega
        have e : ((6 : Int).toNat) = 6 := rfl
        have ez : (s.extract 0 6).size = 6 := by rw [ByteArray.size_extract]; omega
        have er := K.read_5 (s.extract 0 6) ez (by rw [R2.byt_extract s 6 0 (by omega) h3]; exact hf)
        rw [cond_false, cond_false, e, er, K.valid_eq _ (K.rd_imm 4 (by decide) _ _)]
  · have hz : R2.Size (W.byt s.data.toList 0) = 3 := by unfold R2.Size; rw [hw, hf]; rfl
    have hl : K.len 5 = 3 := rfl
    rw [hk, hz]
    show K.decode1 5 s = _
    unfold K.decode1
    rw [hl]
    cases h1 : (s.toList == (⟨#[]⟩ : ByteArray).toList) with
    | true => rfl
    | false =>
      rw [cond_false, cond_false, show ((3 : Int) == 0) = false from rfl, cond_false]
      cases h2 : decide (((s.size : Nat) : Int) < 3) with
      | true => rfl
      | false =>
        have h3 : 3 ≤ s.size := by simp at h2; omega
        have e : ((3 : Int).toNat) = 3 := rfl
        have ez : (s.extract 0 3).size = 3 := by rw [ByteArray.size_extract]; omega
        have er := K.read_6 (s.extract 0 3) ez (by rw [R2.byt_extract s 3 0 (by omega) h3]; exact hf)
        rw [cond_false, cond_false, e, er, K.valid_eq _ (K.rd_imm 5 (by decide) _ _)]
  · have hz : R2.Size (W.byt s.data.toList 0) = 7 := by unfold R2.Size; rw [hw, hf]; rfl
    have hl : K.len 6 = 7 := rfl
    rw [hk, hz]
    show K.decode1 6 s = _
    unfold K.decode1
    rw [hl]
    cases h1 : (s.toList == (⟨#[]⟩ : ByteArray).toList) with
    | true => rfl
    | false =>
      rw [cond_false, cond_false, show ((7 : Int) == 0) = false from rfl, cond_false]
      cases h2 : decide (((s.size : Nat) : Int) < 7) with
      | true => rfl
      | false =>
        have h3 : 7 ≤ s.size := by simp at h2; omega
        have e : ((7 : Int).toNat) = 7 := rfl
        have ez : (s.extract 0 7).size = 7 := by rw [ByteArray.size_extract]; omega
        have er := K.read_7 (s.extract 0 7) ez (by rw [R2.byt_extract s 7 0 (by omega) h3]; exact hf)
        rw [cond_false, cond_false, e, er, K.valid_eq _ (K.rd_imm 6 (by decide) _ _)]
  · have hz : R2.Size (W.byt s.data.toList 0) = 2 := by unfold R2.Size; rw [hw, hf]; rfl
    have hl : K.len 7 = 2 := rfl
    rw [hk, hz]
    show K.decode1 7 s = _
    unfold K.decode1
    rw [hl]
    cases h1 : (s.toList == (⟨#[]⟩ : ByteArray).toList) with
    | true => rfl
    | false =>
      rw [cond_false, cond_false, show ((2 : Int) == 0) = false from rfl, cond_false]
      cases h2 : decide (((s.size : Nat) : Int) < 2) with
      | true => rfl
      | false =>
        have h3 : 2 ≤ s.size := by simp at h2; omega
        have e : ((2 : Int).toNat) = 2 := rfl
        have ez : (s.extract 0 2).size = 2 := by rw [ByteArray.size_extract]; omega
        have er := K.read_8 (s.extract 0 2) ez (by rw [R2.byt_extract s 2 0 (by omega) h3]; exact hf)
        rw [cond_false, cond_false, e, er, K.valid_eq _ (K.rd_imm 7 (by decide) _ _)]
  · have hz : R2.Size (W.byt s.data.toList 0) = 5 := by unfold R2.Size; rw [hw, hf]; rfl
    have hl : K.len 8 = 5 := rfl
    rw [hk, hz]
    show K.decode1 8 s = _
    unfold K.decode1
    rw [hl]
    cases h1 : (s.toList == (⟨#[]⟩ : ByteArray).toList) with
    | true => rfl
    | false =>
      rw [cond_false, cond_false, show ((5 : Int) == 0) = false from rfl, cond_false]
      cases h2 : decide (((s.size : Nat) : Int) < 5) with
      | true => rfl
      | false =>
        have h3 : 5 ≤ s.size := by simp at h2; omega
        have e : ((5 : Int).toNat) = 5 := rfl
        have ez : (s.extract 0 5).size = 5 := by rw [ByteArray.size_extract]; omega
        have er := K.read_9 (s.extract 0 5) ez (by rw [R2.byt_extract s 5 0 (by omega) h3]; exact hf)
        rw [cond_false, cond_false, e, er, K.valid_eq _ (K.rd_imm 8 (by decide) _ _)]
  · have hz : R2.Size (W.byt s.data.toList 0) = 2 := by unfold R2.Size; rw [hw, hf]; rfl
    have hl : K.len 9 = 2 := rfl
    rw [hk, hz]
    show K.decode1 9 s = _
    unfold K.decode1
    rw [hl]
    cases h1 : (s.toList == (⟨#[]⟩ : ByteArray).toList) with
    | true => rfl
    | false =>
      rw [cond_false, cond_false, show ((2 : Int) == 0) = false from rfl, cond_false]
      cases h2 : decide (((s.size : Nat) : Int) < 2) with
      | true => rfl
      | false =>
        have h3 : 2 ≤ s.size := by simp at h2; omega
        have e : ((2 : Int).toNat) = 2 := rfl
        have ez : (s.extract 0 2).size = 2 := by rw [ByteArray.size_extract]; omega
        have er := K.read_10 (s.extract 0 2) ez (by rw [R2.byt_extract s 2 0 (by omega) h3]; exact hf)
        rw [cond_false, cond_false, e, er, K.valid_eq _ (K.rd_imm 9 (by decide) _ _)]
  · have hz : R2.Size (W.byt s.data.toList 0) = 2 := by unfold R2.Size; rw [hw, hf]; rfl
    have hl : K.len 10 = 2 := rfl
    rw [hk, hz]
    show K.decode1 10 s = _
    unfold K.decode1
    rw [hl]
    cases h1 : (s.toList == (⟨#[]⟩ : ByteArray).toList) with
    | true => rfl
    | false =>
      rw [cond_false, cond_false, show ((2 : Int) == 0) = false from rfl, cond_false]
      cases h2 : decide (((s.size : Nat) : Int) < 2) with
      | true => rfl
      | false =>
        have h3 : 2 ≤ s.size := by simp at h2; omega
        have e : ((2 : Int).toNat) = 2 := rfl
        have ez : (s.extract 0 2).size = 2 := by rw [ByteArray.size_extract]; omega
        have er := K.read_11 (s.extract 0 2) ez (by rw [R2.byt_extract s 2 0 (by omega) h3]; exact hf)
        rw [cond_false, cond_false, e, er, K.valid_eq _ (K.rd_imm 10 (by decide) _ _)]
  · have hz : R2.Size (W.byt s.data.toList 0) = 2 := by unfold R2.Size; rw [hw, hf]; rfl
    have hl : K.len 10 = 2 := rfl
    rw [hk, hz]
    show K.decode1 10 s = _
    unfold K.decode1
    rw [hl]
    cases h1 : (s.toList == (⟨#[]⟩ : ByteArray).toList) with
    | true => rfl
    | false =>
      rw [cond_false, cond_false, show ((2 : Int) == 0) = false from rfl, cond_false]
      cases h2 : decide (((s.size : Nat) : Int) < 2) with
      | true => rfl
      | false =>
        have h3 : 2 ≤ s.size := by simp at h2; omega
        have e : ((2 : Int).toNat) = 2 := rfl
        have ez : (s.extract 0 2).size = 2 := by rw [ByteArray.size_extract]; omega
        have er := K.read_12 (s.extract 0 2) ez (by rw [R2.byt_extract s 2 0 (by omega) h3]; exact hf)
        rw [cond_false, cond_false, e, er, K.valid_eq _ (K.rd_imm 10 (by decide) _ _)]
end Go.Proofs.Ytgnekniabedomaa
