/- Plain laws of kcode: encodings and their decoding. No program in sight. -/
import Derived.Test.YtgnekniabedomaaKt
namespace Go.Proofs.Ytgnekniabedomaa
set_option linter.unusedVariables false
set_option linter.unusedSimpArgs false
open Go.RowKit
/-- A valid instruction. -/
structure K.Good (i : K.Ins) : Prop where
  val : R2.Valid i = true
  i0 : 0 ≤ i.imm
  i1 : i.imm < 4294967296
def K.bytes (i : K.Ins) : ByteArray := (R2.Encode i).1
theorem K.made_good (a b c x y : Int) : K.Good (R2.Made a b c x y) := ⟨(R2.Made_ok a b c x y).1, (R2.Made_ok a b c x y).2.1, (R2.Made_ok a b c x y).2.2⟩
structure K.Enc (i : K.Ins) (k : Nat) : Prop where
  fmt : K.fmt i.op = some k
  lt : k < 11
  inn : K.In i
  sz : i.sz = K.len k
  enc : R2.Encode i = (strOfNums (K.ser k i), 0)
  v1 : K.valid1 k i = true
theorem K.good_enc {i : K.Ins} (h : K.Good i) : ∃ k, K.Enc i k := by
  have hm := And.intro h.i0 h.i1
  have hv := K.valid_eq i hm
  rw [h.val] at hv
  have he := K.encode_eq i hm
  unfold K.valid at hv
  unfold K.encode at he
  cases hk : K.fmt i.op with
  | none => rw [hk] at hv; cases hv
  | some k =>
    rw [hk] at hv he
    have hv : K.valid1 k i = true := hv
    have he : K.encode1 k i = R2.Encode i := he
    have hin := K.in_valid (k := k) hm (by rw [hv]; rfl)
    refine ⟨k, hk, K.fmt_lt hk, hin, ?_, ?_, hv⟩
    · unfold K.valid1 at hv
      cases hq : ((i.sz != (K.len k)) || (!(K.rng i))) with
      | true => rw [hq] at hv; simp at hv
      | false => simp at hq; exact hq.1
    · rw [← he]; unfold K.encode1; rw [hv]; simp only [Bool.not_true, cond_false, K.ser_str]
theorem K.ser_len (k : Nat) (hk : k < 11) (i : K.Ins) : ((K.ser k i).length : Int) = K.len k := by
  unfold K.ser; rw [List.length_cons]; have := K.wr_len k hk i; push_cast; omega
theorem K.bytes_eq {i : K.Ins} {k : Nat} (h : K.Enc i k) : K.bytes i = strOfNums (K.ser k i) := by unfold K.bytes; rw [h.enc]
theorem K.bytes_size {i : K.Ins} {k : Nat} (h : K.Enc i k) : ((K.bytes i).size : Int) = K.len k := by rw [K.bytes_eq h, strOfNums_size, K.ser_len k h.lt]
theorem K.good_size {i : K.Ins} (h : K.Good i) : ((K.bytes i).size : Int) = i.sz ∧ 1 ≤ i.sz ∧ i.sz ≤ 7 := by
  obtain ⟨k, hk⟩ := K.good_enc h
  have := K.len_bd k hk.lt
  rw [K.bytes_size hk, hk.sz]; exact ⟨rfl, this.1, this.2⟩
theorem K.rt {i : K.Ins} {k : Nat} (h : K.Enc i k) : K.rd k (strOfNums (K.ser k i)).data.toList (K.len k) = i := by
  have hv := h.v1
  unfold K.valid1 at hv
  cases hq : ((i.sz != (K.len k)) || (!(K.rng i))) with
  | true => rw [hq] at hv; cases hv
  | false =>
    rw [hq, cond_false, K.ser_str] at hv
    generalize K.rd k (strOfNums (K.ser k i)).data.toList (K.len k) = r at *
    simp only [Bool.and_eq_true, beq_iff_eq] at hv
    obtain ⟨⟨⟨⟨⟨⟨a, b⟩, c⟩, d⟩, e⟩, f⟩, g⟩ := hv
    cases r; cases i; simp_all
theorem K.rd_congr (k : Nat) (hk : k < 11) (l1 l2 : List UInt8) (sz : Int) (h : ∀ j : Nat, (j : Int) < K.len k → W.byt l1 j = W.byt l2 j) : K.rd k l1 sz = K.rd k l2 sz := by
  rcases (by omega : k = 0 ∨ k = 1 ∨ k = 2 ∨ k = 3 ∨ k = 4 ∨ k = 5 ∨ k = 6 ∨ k = 7 ∨ k = 8 ∨ k = 9 ∨ k = 10) with rfl | rfl | rfl | rfl | rfl | rfl | rfl | rfl | rfl | rfl | rfl
  · have h0 := h 0 (by decide); simp [K.rd, K.i0, K.t_none, h0]
  · have h0 := h 0 (by decide); have h1 := h 1 (by decide); simp [K.rd, K.i0, K.t_reg, h0, h1]
  · have h0 := h 0 (by decide); have h1 := h 1 (by decide); simp [K.rd, K.i0, K.t_pair, h0, h1]
  · have h0 := h 0 (by decide); have h1 := h 1 (by decide); have h2 := h 2 (by decide); simp [K.rd, K.i0, K.t_reg, K.t_small, h0, h1, h2]
  · have h0 := h 0 (by decide); have h1 := h 1 (by decide); have h2 := h 2 (by decide); have h3 := h 3 (by decide); have h4 := h 4 (by decide); have h5 := h 5 (by decide); simp [K.rd, K.i0, K.t_reg, K.t_full, K.four, h0, h1, h2, h3, h4, h5]
  · have h0 := h 0 (by decide); have h1 := h 1 (by decide); have h2 := h 2 (by decide); simp [K.rd, K.i0, K.t_pair, K.t_small, h0, h1, h2]
  · have h0 := h 0 (by decide); have h1 := h 1 (by decide); have h2 := h 2 (by decide); have h3 := h 3 (by decide); have h4 := h 4 (by decide); have h5 := h 5 (by decide); have h6 := h 6 (by decide); simp [K.rd, K.i0, K.t_pair, K.t_index, K.t_full, K.four, h0, h1, h2, h3, h4, h5, h6]
  · have h0 := h 0 (by decide); have h1 := h 1 (by decide); simp [K.rd, K.i0, K.t_small, h0, h1]
  · have h0 := h 0 (by decide); have h1 := h 1 (by decide); have h2 := h 2 (by decide); have h3 := h 3 (by decide); have h4 := h 4 (by decide); simp [K.rd, K.i0, K.t_full, K.four, h0, h1, h2, h3, h4]
  · have h0 := h 0 (by decide); have h1 := h 1 (by decide); simp [K.rd, K.i0, K.t_plain, h0, h1]
  · have h0 := h 0 (by decide); have h1 := h 1 (by decide); simp [K.rd, K.i0, K.t_pair, h0, h1]
theorem K.not_empty {s : ByteArray} (h : 0 < s.size) : (s.toList == (⟨#[]⟩ : ByteArray).toList) = false := by
  cases hq : (s.toList == (⟨#[]⟩ : ByteArray).toList) with
  | false => rfl
  | true =>
    exfalso
    have e : s = ⟨#[]⟩ := by
      have h1 : s.toList = (⟨#[]⟩ : ByteArray).toList := by simpa using hq
      rw [ByteArray.toList_eq, ByteArray.toList_eq] at h1
      exact ByteArray.ext (Array.toList_inj.1 h1)
    rw [e] at h; exact absurd h (by decide)
/-- What Decode comes to where a format is known. -/
theorem K.dec_of (s : ByteArray) (k : Nat) (hk : K.fmt (W.byt s.data.toList 0) = some k) (h0 : 0 < s.size) (hs : s.size ≤ maxLen) :
    R2.Decode s = bif decide ((s.size : Int) < K.len k) then (⟨0, 0, 0, 0, 0, 0, 0⟩, 10) else bif !(R2.Valid (K.rd k s.data.toList (K.len k))) then (⟨0, 0, 0, 0, 0, 0, 0⟩, 12) else (K.rd k s.data.toList (K.len k), 0) := by
  rw [← K.decode_eq s hs]
  unfold K.decode
  rw [K.wb, hk]
  show K.decode1 k s = _
  unfold K.decode1
  rw [K.not_empty h0, cond_false]
  cases h2 : decide (((s.size : Nat) : Int) < K.len k) with
  | true => rfl
  | false =>
    have h3 : K.len k ≤ s.size := by simp at h2; omega
    have hl := K.len_bd k (K.fmt_lt hk)
    rw [K.rd_congr k (K.fmt_lt hk) (s.extract 0 (K.len k).toNat).data.toList s.data.toList (K.len k) (fun j hj => R2.byt_extract s _ j (by omega) (by omega))]
    rw [K.valid_eq _ (K.rd_imm k (K.fmt_lt hk) _ _)]
theorem K.byt_app (a b : ByteArray) (j : Nat) (h : j < a.size) : W.byt (a ++ b).data.toList j = W.byt a.data.toList j := by
  unfold W.byt
  congr 2
  have e : (a ++ b).data.toList = a.data.toList ++ b.data.toList := by simp [ByteArray.data_append]
  have : j < a.data.toList.length := by rw [Array.length_toList]; exact h
  rw [e]; simp only [List.getD, List.getElem?_append_left this]
theorem K.op_wrap {i : K.Ins} {k : Nat} (h : K.Enc i k) : IntKind.wrap .u8 i.op = i.op := by
  have hk := h.fmt
  rcases K.fmt_cases i.op with ⟨hk', _⟩ | ⟨_, _, a, b⟩ | ⟨_, _, a, b⟩ | ⟨_, _, a, b⟩ | ⟨_, _, a, b⟩ | ⟨_, _, a, b⟩ | ⟨_, _, a, b⟩ | ⟨_, _, a, b⟩ | ⟨_, _, a, b⟩ | ⟨_, _, a, b⟩ | ⟨_, _, a⟩ | ⟨_, _, a⟩ | ⟨_, _, a⟩ <;> first | (rw [hk] at hk'; cases hk') | exact K.w8 _ (by omega) (by omega)
theorem K.byt_bytes {i : K.Ins} {k : Nat} (h : K.Enc i k) (j : Nat) : W.byt (K.bytes i).data.toList j = (K.ser k i).getD j 0 := by rw [K.bytes_eq h]; exact K.byt_ser k h.lt i h.inn j
theorem K.byt_0 {i : K.Ins} {k : Nat} (h : K.Enc i k) : W.byt (K.bytes i).data.toList 0 = i.op := by
  rw [K.byt_bytes h]; show IntKind.wrap .u8 i.op = _; exact K.op_wrap h
/-- Decode inverts Encode, whatever follows. -/
theorem K.dec_app {i : K.Ins} (h : K.Good i) (more : ByteArray) (hs : (K.bytes i ++ more).size ≤ maxLen) : R2.Decode (K.bytes i ++ more) = (i, 0) := by
  obtain ⟨k, hk⟩ := K.good_enc h
  have hl := K.len_bd k hk.lt
  have hz := K.bytes_size hk
  have ha : (K.bytes i ++ more).size = (K.bytes i).size + more.size := ByteArray.size_append
  have e0 : W.byt (K.bytes i ++ more).data.toList 0 = i.op := by rw [K.byt_app _ _ 0 (by omega), K.byt_0 hk]
  have er : K.rd k (K.bytes i ++ more).data.toList (K.len k) = i := by
    rw [K.rd_congr k hk.lt _ (K.bytes i).data.toList _ (fun j hj => K.byt_app _ _ j (by omega)), K.bytes_eq hk, K.rt hk]
  rw [K.dec_of _ k (by rw [e0]; exact hk.fmt) (by omega) hs, er, h.val, show decide (((K.bytes i ++ more).size : Int) < K.len k) = false by simp; omega]
  rfl
theorem K.append_empty (a : ByteArray) : a ++ (⟨#[]⟩ : ByteArray) = a := by
  apply ByteArray.ext; simp [ByteArray.data_append]
theorem K.dec_bytes {i : K.Ins} (h : K.Good i) : R2.Decode (K.bytes i) = (i, 0) := by
  have := K.dec_app h ⟨#[]⟩ (by rw [K.append_empty]; have := K.good_size h; unfold maxLen; omega)
  rwa [K.append_empty] at this
/-- A proper prefix is too short. -/
theorem K.dec_prefix {i : K.Ins} (h : K.Good i) (n : Nat) (hn : n < (K.bytes i).size) : R2.Decode ((K.bytes i).extract 0 n) = (⟨0, 0, 0, 0, 0, 0, 0⟩, 10) := by
  obtain ⟨k, hk⟩ := K.good_enc h
  have hl := K.len_bd k hk.lt
  have hz := K.bytes_size hk
  have ez : ((K.bytes i).extract 0 n).size = n := by rw [ByteArray.size_extract]; omega
  rcases Nat.eq_zero_or_pos n with rfl | hp
  · have e : (K.bytes i).extract 0 0 = ⟨#[]⟩ := by
      apply ByteArray.ext; exact Array.eq_empty_of_size_eq_zero ez
    rw [e]; unfold R2.Decode; simp
  · rw [K.dec_of _ k (by rw [R2.byt_extract _ n 0 hp (by omega), K.byt_0 hk]; exact hk.fmt) (by omega) (by unfold maxLen; omega), show decide ((((K.bytes i).extract 0 n).size : Int) < K.len k) = true by simp; omega]
    rfl
theorem K.str_inj {a b : ByteArray} (h : a.data.toList = b.data.toList) : a = b := ByteArray.ext (Array.toList_inj.1 h)
theorem K.byt_ext {a b : ByteArray} (hs : a.size = b.size) (h : ∀ j, j < a.size → W.byt a.data.toList j = W.byt b.data.toList j) : a = b := by
  apply K.str_inj
  apply List.ext_getElem
  · rw [Array.length_toList, Array.length_toList]; exact hs
  · intro j h1 h2
    have hj : j < a.size := by rw [Array.length_toList] at h1; exact h1
    have := h j hj
    unfold W.byt at this
    rw [show a.data.toList.getD j 0 = a.data.toList[j] by rw [List.getD, List.getElem?_eq_getElem h1]; rfl, show b.data.toList.getD j 0 = b.data.toList[j] by rw [List.getD, List.getElem?_eq_getElem h2]; rfl] at this
    exact UInt8.toNat_inj.1 (by omega)
/-- What is read is written again. -/
theorem K.ser_rd (k : Nat) (hk : k < 11) (l : List UInt8) (sz : Int) (j : Nat) (hj : (j : Int) < K.len k) : (K.ser k (K.rd k l sz)).getD j 0 = W.byt l j := by
  have hb := fun n => W.byt_bd l n
  have h0 : IntKind.wrap .u8 (W.byt l 0) = W.byt l 0 := K.w8 _ (hb 0).1 (hb 0).2
  have hs : ∀ n, W.sign (W.byt l n) 8 % 256 = W.byt l n := fun n => by
    have := hb n
    rw [K.sign8 _ this.1 this.2]; split <;> omega
  have f0 : ∀ n, K.four l n % 256 = W.byt l n := fun n => by unfold K.four; have := hb n; omega
  have f1 : ∀ n, K.four l n / 256 % 256 = W.byt l (n + 1) := fun n => by unfold K.four; have := hb n; have := hb (n + 1); omega
  have f2 : ∀ n, K.four l n / 65536 % 256 = W.byt l (n + 2) := fun n => by unfold K.four; have := hb n; have := hb (n + 1); have := hb (n + 2); omega
  have f3 : ∀ n, K.four l n / 16777216 % 256 = W.byt l (n + 3) := fun n => by unfold K.four; have := hb n; have := hb (n + 1); have := hb (n + 2); have := hb (n + 3); omega
  rcases (by omega : k = 0 ∨ k = 1 ∨ k = 2 ∨ k = 3 ∨ k = 4 ∨ k = 5 ∨ k = 6 ∨ k = 7 ∨ k = 8 ∨ k = 9 ∨ k = 10) with rfl | rfl | rfl | rfl | rfl | rfl | rfl | rfl | rfl | rfl | rfl
  · have hj : (j : Int) < 1 := hj
    obtain rfl : j = 0 := by omega
    exact h0
  · have hj : (j : Int) < 2 := hj
    rcases (by omega : j = 0 ∨ j = 1) with rfl | rfl
    · exact h0
    · rfl
  · have hj : (j : Int) < 2 := hj
    rcases (by omega : j = 0 ∨ j = 1) with rfl | rfl
    · exact h0
    · show W.byt l 1 / 16 * 16 + W.byt l 1 % 16 = _; omega
  · have hj : (j : Int) < 3 := hj
    rcases (by omega : j = 0 ∨ j = 1 ∨ j = 2) with rfl | rfl | rfl
    · exact h0
    · rfl
    · exact hs 2
  · have hj : (j : Int) < 6 := hj
    rcases (by omega : j = 0 ∨ j = 1 ∨ j = 2 ∨ j = 3 ∨ j = 4 ∨ j = 5) with rfl | rfl | rfl | rfl | rfl | rfl
    · exact h0
    · rfl
    · exact f0 2
    · exact f1 2
    · exact f2 2
    · exact f3 2
  · have hj : (j : Int) < 3 := hj
    rcases (by omega : j = 0 ∨ j = 1 ∨ j = 2) with rfl | rfl | rfl
    · exact h0
    · show W.byt l 1 / 16 * 16 + W.byt l 1 % 16 = _; omega
    · exact hs 2
  · have hj : (j : Int) < 7 := hj
    have e : K.rd 6 l sz = { K.t_index l (1 + 1) (K.t_pair l (1 + 0) (K.i0 l sz)) with imm := K.four l 3 } := rfl
    by_cases h8 : W.byt l 2 = 8
    · have e2 : K.rd 6 l sz = ⟨W.byt l 0, W.byt l 1 / 16, W.byt l 1 % 16, -1, 0, K.four l 3, sz⟩ := by rw [e]; simp [K.t_index, K.t_pair, K.i0, h8]
      rw [e2]
      rcases (by omega : j = 0 ∨ j = 1 ∨ j = 2 ∨ j = 3 ∨ j = 4 ∨ j = 5 ∨ j = 6) with rfl | rfl | rfl | rfl | rfl | rfl | rfl
      · exact h0
      · show W.byt l 1 / 16 * 16 + W.byt l 1 % 16 = _; omega
      · rw [h8]; rfl
      · exact f0 3
      · exact f1 3
      · exact f2 3
      · exact f3 3
    · have e2 : K.rd 6 l sz = ⟨W.byt l 0, W.byt l 1 / 16, W.byt l 1 % 16, W.byt l 2 % 16, W.byt l 2 / 16, K.four l 3, sz⟩ := by rw [e]; simp [K.t_index, K.t_pair, K.i0, h8]
      rw [e2]
      rcases (by omega : j = 0 ∨ j = 1 ∨ j = 2 ∨ j = 3 ∨ j = 4 ∨ j = 5 ∨ j = 6) with rfl | rfl | rfl | rfl | rfl | rfl | rfl
      · exact h0
      · show W.byt l 1 / 16 * 16 + W.byt l 1 % 16 = _; omega
      · show (if W.byt l 2 % 16 < 0 then 8 else W.byt l 2 / 16 * 16 + W.byt l 2 % 16) = _; rw [if_neg (by omega)]; omega
      · exact f0 3
      · exact f1 3
      · exact f2 3
      · exact f3 3
  · have hj : (j : Int) < 2 := hj
    rcases (by omega : j = 0 ∨ j = 1) with rfl | rfl
    · exact h0
    · exact hs 1
  · have hj : (j : Int) < 5 := hj
    rcases (by omega : j = 0 ∨ j = 1 ∨ j = 2 ∨ j = 3 ∨ j = 4) with rfl | rfl | rfl | rfl | rfl
    · exact h0
    · exact f0 1
    · exact f1 1
    · exact f2 1
    · exact f3 1
  · have hj : (j : Int) < 2 := hj
    rcases (by omega : j = 0 ∨ j = 1) with rfl | rfl
    · exact h0
    · show W.byt l 1 % 256 = _; have := hb 1; omega
  · have hj : (j : Int) < 2 := hj
    rcases (by omega : j = 0 ∨ j = 1) with rfl | rfl
    · exact h0
    · show W.byt l 1 / 16 * 16 + W.byt l 1 % 16 = _; omega
/-- Whatever is accepted begins with the encoding of what it stands for. -/
theorem K.dec_unique (t : ByteArray) (hs : t.size ≤ maxLen) :
    ((R2.Decode t).2 = 0 ∧ K.Good (R2.Decode t).1 ∧ (K.bytes (R2.Decode t).1).size ≤ t.size ∧ t.extract 0 (K.bytes (R2.Decode t).1).size = K.bytes (R2.Decode t).1) ∨
      ((R2.Decode t).2 ≠ 0 ∧ (R2.Decode t).1 = ⟨0, 0, 0, 0, 0, 0, 0⟩) := by
  rcases Nat.eq_zero_or_pos t.size with h0 | h0
  · have e : t = ⟨#[]⟩ := by apply ByteArray.ext; exact Array.eq_empty_of_size_eq_zero h0
    subst e
    exact .inr ⟨by unfold R2.Decode; simp, by unfold R2.Decode; simp⟩
  · cases hk : K.fmt (W.byt t.data.toList 0) with
    | none =>
      have hd : R2.Decode t = (⟨0, 0, 0, 0, 0, 0, 0⟩, 12) := by
        rw [← K.decode_eq t hs]; unfold K.decode; rw [K.wb, hk]
        show K.decode0 t = _
        unfold K.decode0; rw [K.not_empty h0]; rfl
      rw [hd]; exact .inr ⟨by decide, rfl⟩
    | some k =>
      have hlt := K.fmt_lt hk
      have hl := K.len_bd k hlt
      rw [K.dec_of t k hk h0 hs]
      cases h2 : decide (((t.size : Nat) : Int) < K.len k) with
      | true => exact .inr ⟨by simp, rfl⟩
      | false =>
        have h3 : K.len k ≤ t.size := by simp at h2; omega
        cases hv : (!(R2.Valid (K.rd k t.data.toList (K.len k)))) with
        | true => exact .inr ⟨by simp, rfl⟩
        | false =>
          have hi := K.rd_imm k hlt t.data.toList (K.len k)
          have hg : K.Good (K.rd k t.data.toList (K.len k)) := ⟨by simpa using hv, hi.1, hi.2⟩
          obtain ⟨k', hk'⟩ := K.good_enc hg
          have hop : (K.rd k t.data.toList (K.len k)).op = W.byt t.data.toList 0 := by
            rcases (by omega : k = 0 ∨ k = 1 ∨ k = 2 ∨ k = 3 ∨ k = 4 ∨ k = 5 ∨ k = 6 ∨ k = 7 ∨ k = 8 ∨ k = 9 ∨ k = 10) with rfl | rfl | rfl | rfl | rfl | rfl | rfl | rfl | rfl | rfl | rfl <;> first | rfl | (show (K.t_index _ _ _).op = _; unfold K.t_index; split <;> rfl)
          obtain rfl : k' = k := by have := hk'.fmt; rw [hop, hk] at this; exact (Option.some.inj this).symm
          have hz := K.bytes_size hk'
          refine .inl ⟨rfl, hg, ?_, ?_⟩
          · show (K.bytes (K.rd k' t.data.toList (K.len k'))).size ≤ _; omega
          · show t.extract 0 (K.bytes (K.rd k' t.data.toList (K.len k'))).size = K.bytes (K.rd k' t.data.toList (K.len k'))
            refine K.byt_ext (by rw [ByteArray.size_extract]; omega) (fun j hj => ?_)
            rw [ByteArray.size_extract] at hj
            rw [K.byt_bytes hk', K.ser_rd k' hlt _ _ j (by omega), R2.byt_extract t _ j (by omega) (by omega)]
end Go.Proofs.Ytgnekniabedomaa
