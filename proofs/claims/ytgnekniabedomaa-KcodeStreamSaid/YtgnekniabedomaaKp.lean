/- Plain laws of kcode: Valid is the reference's. No program in sight. -/
import Derived.Test.YtgnekniabedomaaKo
namespace Go.Proofs.Ytgnekniabedomaa
set_option linter.unusedVariables false
set_option linter.unusedSimpArgs false
open Go.RowKit
def K.ser (k : Nat) (i : K.Ins) : List Int := IntKind.wrap .u8 i.op :: K.wr k i
theorem K.ser_str (k : Nat) (i : K.Ins) : strOfNums [IntKind.wrap .u8 i.op] ++ strOfNums (K.wr k i) = strOfNums (K.ser k i) := K.app _ _
theorem K.u8_bd (n : Int) : 0 ≤ IntKind.wrap .u8 n ∧ IntKind.wrap .u8 n < 256 := by
  have e : IntKind.wrap .u8 n = n % 256 := rfl
  rw [e]; omega
theorem K.wr_bd (k : Nat) (hk : k < 11) (i : K.Ins) (hi : K.In i) : ∀ x ∈ K.wr k i, 0 ≤ x ∧ x < 256 := by
  obtain ⟨d0, d1, s0, s1, x0, x1, c0, c1, i0, i1⟩ := hi
  have hR : ∀ x ∈ K.p_Reg i, 0 ≤ x ∧ x < 256 := by intro x hx; simp [K.p_Reg] at hx; omega
  have hB : ∀ x ∈ K.p_Byte i, 0 ≤ x ∧ x < 256 := by intro x hx; simp [K.p_Byte] at hx; omega
  have hP : ∀ x ∈ K.p_Pair i, 0 ≤ x ∧ x < 256 := by intro x hx; simp [K.p_Pair] at hx; omega
  have hF : ∀ x ∈ K.p_Full i, 0 ≤ x ∧ x < 256 := by intro x hx; simp [K.p_Full] at hx; omega
  have hX : ∀ x ∈ K.p_Index i, 0 ≤ x ∧ x < 256 := by
    intro x hx; simp [K.p_Index] at hx; split at hx <;> omega
  have hA : ∀ {a b : List Int}, (∀ x ∈ a, 0 ≤ x ∧ x < 256) → (∀ x ∈ b, 0 ≤ x ∧ x < 256) → ∀ x ∈ a ++ b, 0 ≤ x ∧ x < 256 := fun ha hb x hx => (List.mem_append.1 hx).elim (ha x) (hb x)
  rcases (by omega : k = 0 ∨ k = 1 ∨ k = 2 ∨ k = 3 ∨ k = 4 ∨ k = 5 ∨ k = 6 ∨ k = 7 ∨ k = 8 ∨ k = 9 ∨ k = 10) with rfl | rfl | rfl | rfl | rfl | rfl | rfl | rfl | rfl | rfl | rfl
  · intro x hx; exact absurd hx (by show x ∉ ([] : List Int); simp)
  · exact hR
  · exact hP
  · exact hA hR hB
  · exact hA hR hF
  · exact hA hP hB
  · exact hA (hA hP hX) hF
  · exact hB
  · exact hF
  · exact hB
  · exact hP
theorem K.ser_bd (k : Nat) (hk : k < 11) (i : K.Ins) (hi : K.In i) : ∀ x ∈ K.ser k i, 0 ≤ x ∧ x < 256 := fun x hx => (List.mem_cons.1 hx).elim (fun e => e ▸ K.u8_bd _) (K.wr_bd k hk i hi x)
theorem K.byt_ser (k : Nat) (hk : k < 11) (i : K.Ins) (hi : K.In i) (j : Nat) : W.byt (strOfNums (K.ser k i)).data.toList j = (K.ser k i).getD j 0 := W.byt_nums _ j (K.ser_bd k hk i hi)
theorem K.v1_0 (i : K.Ins) (hop : 0 ≤ i.op ∧ i.op < 256) (hm : 0 ≤ i.imm ∧ i.imm < 4294967296) : K.valid1 0 i = true ↔ (i.sz = 1 ∧ K.rng i = true ∧ i.d = 0 ∧ i.s = 0 ∧ i.ix = -1 ∧ i.sc = 0 ∧ i.imm = 0) := by
  unfold K.valid1
  have hl : K.len 0 = 1 := rfl
  have hw : IntKind.wrap .u8 i.op = i.op := by show i.op % 256 = i.op; omega
  cases hq : ((i.sz != (K.len 0)) || (!(K.rng i))) with
  | true =>
    rw [hl] at hq
    simp at hq ⊢
    intro h1 h2; rcases hq with hq | hq
    · exact absurd h1 hq
    · rw [h2] at hq; cases hq
  | false =>
    have hi := K.in_of hm hq
    rw [hl] at hq
    simp at hq
    rw [cond_false, K.ser_str]
    have hb := K.byt_ser 0 (by decide) i hi
    have e : K.ser 0 i = [i.op] := by unfold K.ser; rw [hw]; rfl
    rw [e] at hb
    obtain ⟨d0, d1, s0, s1, x0, x1, c0, c1, i0, i1⟩ := hi
    rw [e]
    generalize (strOfNums _).data.toList = l at *
    have hb0 := hb 0
    have hb1 := hb 1
    have hb2 := hb 2
    have hb3 := hb 3
    have hb4 := hb 4
    have hb5 := hb 5
    have hb6 := hb 6
    simp at hb0 hb1 hb2 hb3 hb4 hb5 hb6
    simp [K.rd, K.i0, K.t_none, K.t_reg, K.t_pair, K.t_small, K.t_full, K.t_plain, K.t_index, K.four, hl, hb0, hb1, hb2, hb3, hb4, hb5, hb6, hq]
    omega
theorem K.v1_1 (i : K.Ins) (hop : 0 ≤ i.op ∧ i.op < 256) (hm : 0 ≤ i.imm ∧ i.imm < 4294967296) : K.valid1 1 i = true ↔ (i.sz = 2 ∧ K.rng i = true ∧ i.s = 0 ∧ i.ix = -1 ∧ i.sc = 0 ∧ i.imm = 0) := by
  unfold K.valid1
  have hl : K.len 1 = 2 := rfl
  have hw : IntKind.wrap .u8 i.op = i.op := by show i.op % 256 = i.op; omega
  cases hq : ((i.sz != (K.len 1)) || (!(K.rng i))) with
  | true =>
    rw [hl] at hq
    simp at hq ⊢
    intro h1 h2; rcases hq with hq | hq
    · exact absurd h1 hq
    · rw [h2] at hq; cases hq
  | false =>
    have hi := K.in_of hm hq
    rw [hl] at hq
    simp at hq
    rw [cond_false, K.ser_str]
    have hb := K.byt_ser 1 (by decide) i hi
    have e : K.ser 1 i = [i.op, i.d] := by unfold K.ser; rw [hw]; rfl
    rw [e] at hb
    obtain ⟨d0, d1, s0, s1, x0, x1, c0, c1, i0, i1⟩ := hi
    rw [e]
    generalize (strOfNums _).data.toList = l at *
    have hb0 := hb 0
    have hb1 := hb 1
    have hb2 := hb 2
    have hb3 := hb 3
    have hb4 := hb 4
    have hb5 := hb 5
    have hb6 := hb 6
    simp at hb0 hb1 hb2 hb3 hb4 hb5 hb6
    simp [K.rd, K.i0, K.t_none, K.t_reg, K.t_pair, K.t_small, K.t_full, K.t_plain, K.t_index, K.four, hl, hb0, hb1, hb2, hb3, hb4, hb5, hb6, hq]
    omega
theorem K.v1_2 (i : K.Ins) (hop : 0 ≤ i.op ∧ i.op < 256) (hm : 0 ≤ i.imm ∧ i.imm < 4294967296) : K.valid1 2 i = true ↔ (i.sz = 2 ∧ K.rng i = true ∧ i.ix = -1 ∧ i.sc = 0 ∧ i.imm = 0) := by
  unfold K.valid1
  have hl : K.len 2 = 2 := rfl
  have hw : IntKind.wrap .u8 i.op = i.op := by show i.op % 256 = i.op; omega
  cases hq : ((i.sz != (K.len 2)) || (!(K.rng i))) with
  | true =>
    rw [hl] at hq
    simp at hq ⊢
    intro h1 h2; rcases hq with hq | hq
    · exact absurd h1 hq
    · rw [h2] at hq; cases hq
  | false =>
    have hi := K.in_of hm hq
    rw [hl] at hq
    simp at hq
    rw [cond_false, K.ser_str]
    have hb := K.byt_ser 2 (by decide) i hi
    have e : K.ser 2 i = [i.op, i.d * 16 + i.s] := by unfold K.ser; rw [hw]; rfl
    rw [e] at hb
    obtain ⟨d0, d1, s0, s1, x0, x1, c0, c1, i0, i1⟩ := hi
    rw [e]
    generalize (strOfNums _).data.toList = l at *
    have hb0 := hb 0
    have hb1 := hb 1
    have hb2 := hb 2
    have hb3 := hb 3
    have hb4 := hb 4
    have hb5 := hb 5
    have hb6 := hb 6
    simp at hb0 hb1 hb2 hb3 hb4 hb5 hb6
    simp [K.rd, K.i0, K.t_none, K.t_reg, K.t_pair, K.t_small, K.t_full, K.t_plain, K.t_index, K.four, hl, hb0, hb1, hb2, hb3, hb4, hb5, hb6, hq]
    omega
theorem K.v1_3 (i : K.Ins) (hop : 0 ≤ i.op ∧ i.op < 256) (hm : 0 ≤ i.imm ∧ i.imm < 4294967296) : K.valid1 3 i = true ↔ (i.sz = 3 ∧ K.rng i = true ∧ i.s = 0 ∧ i.ix = -1 ∧ i.sc = 0 ∧ W.sign (i.imm % 256) 8 = i.imm) := by
  unfold K.valid1
  have hl : K.len 3 = 3 := rfl
  have hw : IntKind.wrap .u8 i.op = i.op := by show i.op % 256 = i.op; omega
  cases hq : ((i.sz != (K.len 3)) || (!(K.rng i))) with
  | true =>
    rw [hl] at hq
    simp at hq ⊢
    intro h1 h2; rcases hq with hq | hq
    · exact absurd h1 hq
    · rw [h2] at hq; cases hq
  | false =>
    have hi := K.in_of hm hq
    rw [hl] at hq
    simp at hq
    rw [cond_false, K.ser_str]
    have hb := K.byt_ser 3 (by decide) i hi
    have e : K.ser 3 i = [i.op, i.d, i.imm % 256] := by unfold K.ser; rw [hw]; rfl
    rw [e] at hb
    obtain ⟨d0, d1, s0, s1, x0, x1, c0, c1, i0, i1⟩ := hi
    rw [e]
    generalize (strOfNums _).data.toList = l at *
    have hb0 := hb 0
    have hb1 := hb 1
    have hb2 := hb 2
    have hb3 := hb 3
    have hb4 := hb 4
    have hb5 := hb 5
    have hb6 := hb 6
    simp at hb0 hb1 hb2 hb3 hb4 hb5 hb6
    simp [K.rd, K.i0, K.t_none, K.t_reg, K.t_pair, K.t_small, K.t_full, K.t_plain, K.t_index, K.four, hl, hb0, hb1, hb2, hb3, hb4, hb5, hb6, hq]
    omega
theorem K.v1_4 (i : K.Ins) (hop : 0 ≤ i.op ∧ i.op < 256) (hm : 0 ≤ i.imm ∧ i.imm < 4294967296) : K.valid1 4 i = true ↔ (i.sz = 6 ∧ K.rng i = true ∧ i.s = 0 ∧ i.ix = -1 ∧ i.sc = 0) := by
  unfold K.valid1
  have hl : K.len 4 = 6 := rfl
  have hw : IntKind.wrap .u8 i.op = i.op := by show i.op % 256 = i.op; omega
  cases hq : ((i.sz != (K.len 4)) || (!(K.rng i))) with
  | true =>
    rw [hl] at hq
    simp at hq ⊢
    intro h1 h2; rcases hq with hq | hq
    · exact absurd h1 hq
    · rw [h2] at hq; cases hq
  | false =>
    have hi := K.in_of hm hq
    rw [hl] at hq
    simp at hq
    rw [cond_false, K.ser_str]
    have hb := K.byt_ser 4 (by decide) i hi
    have e : K.ser 4 i = [i.op, i.d, i.imm % 256, i.imm / 256 % 256, i.imm / 65536 % 256, i.imm / 16777216 % 256] := by unfold K.ser; rw [hw]; rfl
    rw [e] at hb
    obtain ⟨d0, d1, s0, s1, x0, x1, c0, c1, i0, i1⟩ := hi
    rw [e]
    generalize (strOfNums _).data.toList = l at *
    have hb0 := hb 0
    have hb1 := hb 1
    have hb2 := hb 2
    have hb3 := hb 3
    have hb4 := hb 4
    have hb5 := hb 5
    have hb6 := hb 6
    simp at hb0 hb1 hb2 hb3 hb4 hb5 hb6
    simp [K.rd, K.i0, K.t_none, K.t_reg, K.t_pair, K.t_small, K.t_full, K.t_plain, K.t_index, K.four, hl, hb0, hb1, hb2, hb3, hb4, hb5, hb6, hq]
    omega
theorem K.v1_5 (i : K.Ins) (hop : 0 ≤ i.op ∧ i.op < 256) (hm : 0 ≤ i.imm ∧ i.imm < 4294967296) : K.valid1 5 i = true ↔ (i.sz = 3 ∧ K.rng i = true ∧ i.ix = -1 ∧ i.sc = 0 ∧ W.sign (i.imm % 256) 8 = i.imm) := by
  unfold K.valid1
  have hl : K.len 5 = 3 := rfl
  have hw : IntKind.wrap .u8 i.op = i.op := by show i.op % 256 = i.op; omega
  cases hq : ((i.sz != (K.len 5)) || (!(K.rng i))) with
  | true =>
    rw [hl] at hq
    simp at hq ⊢
    intro h1 h2; rcases hq with hq | hq
    · exact absurd h1 hq
    · rw [h2] at hq; cases hq
  | false =>
    have hi := K.in_of hm hq
    rw [hl] at hq
    simp at hq
    rw [cond_false, K.ser_str]
    have hb := K.byt_ser 5 (by decide) i hi
    have e : K.ser 5 i = [i.op, i.d * 16 + i.s, i.imm % 256] := by unfold K.ser; rw [hw]; rfl
    rw [e] at hb
    obtain ⟨d0, d1, s0, s1, x0, x1, c0, c1, i0, i1⟩ := hi
    rw [e]
    generalize (strOfNums _).data.toList = l at *
    have hb0 := hb 0
    have hb1 := hb 1
    have hb2 := hb 2
    have hb3 := hb 3
    have hb4 := hb 4
    have hb5 := hb 5
    have hb6 := hb 6
    simp at hb0 hb1 hb2 hb3 hb4 hb5 hb6
    simp [K.rd, K.i0, K.t_none, K.t_reg, K.t_pair, K.t_small, K.t_full, K.t_plain, K.t_index, K.four, hl, hb0, hb1, hb2, hb3, hb4, hb5, hb6, hq]
    omega
theorem K.v1_6 (i : K.Ins) (hop : 0 ≤ i.op ∧ i.op < 256) (hm : 0 ≤ i.imm ∧ i.imm < 4294967296) : K.valid1 6 i = true ↔ (i.sz = 7 ∧ K.rng i = true ∧ (i.ix = -1 → i.sc = 0)) := by
  unfold K.valid1
  have hl : K.len 6 = 7 := rfl
  have hw : IntKind.wrap .u8 i.op = i.op := by show i.op % 256 = i.op; omega
  cases hq : ((i.sz != (K.len 6)) || (!(K.rng i))) with
  | true =>
    rw [hl] at hq
    simp at hq ⊢
    intro h1 h2; rcases hq with hq | hq
    · exact absurd h1 hq
    · rw [h2] at hq; cases hq
  | false =>
    have hi := K.in_of hm hq
    rw [hl] at hq
    simp at hq
    rw [cond_false, K.ser_str]
    have hb := K.byt_ser 6 (by decide) i hi
    have e : K.ser 6 i = [i.op, i.d * 16 + i.s, if i.ix < 0 then 8 else i.sc * 16 + i.ix, i.imm % 256, i.imm / 256 % 256, i.imm / 65536 % 256, i.imm / 16777216 % 256] := by unfold K.ser; rw [hw]; rfl
    rw [e] at hb
    obtain ⟨d0, d1, s0, s1, x0, x1, c0, c1, i0, i1⟩ := hi
    rw [e]
    generalize (strOfNums _).data.toList = l at *
    have hb0 := hb 0
    have hb1 := hb 1
    have hb2 := hb 2
    have hb3 := hb 3
    have hb4 := hb 4
    have hb5 := hb 5
    have hb6 := hb 6
    simp at hb0 hb1 hb2 hb3 hb4 hb5 hb6
    by_cases hx : i.ix < 0
    · rw [if_pos hx] at hb2
      have hx' : i.ix = -1 := by omega
      simp [K.rd, K.i0, K.t_none, K.t_reg, K.t_pair, K.t_small, K.t_full, K.t_plain, K.t_index, K.four, hl, hb0, hb1, hb2, hb3, hb4, hb5, hb6, hq]
      omega
    · rw [if_neg hx] at hb2
      have h8 : ¬ (i.sc * 16 + i.ix = 8) := by omega
      simp [K.rd, K.i0, K.t_none, K.t_reg, K.t_pair, K.t_small, K.t_full, K.t_plain, K.t_index, K.four, hl, hb0, hb1, hb2, hb3, hb4, hb5, hb6, hq, h8]
      omega
theorem K.v1_7 (i : K.Ins) (hop : 0 ≤ i.op ∧ i.op < 256) (hm : 0 ≤ i.imm ∧ i.imm < 4294967296) : K.valid1 7 i = true ↔ (i.sz = 2 ∧ K.rng i = true ∧ i.d = 0 ∧ i.s = 0 ∧ i.ix = -1 ∧ i.sc = 0 ∧ W.sign (i.imm % 256) 8 = i.imm) := by
  unfold K.valid1
  have hl : K.len 7 = 2 := rfl
  have hw : IntKind.wrap .u8 i.op = i.op := by show i.op % 256 = i.op; omega
  cases hq : ((i.sz != (K.len 7)) || (!(K.rng i))) with
  | true =>
    rw [hl] at hq
    simp at hq ⊢
    intro h1 h2; rcases hq with hq | hq
    · exact absurd h1 hq
    · rw [h2] at hq; cases hq
  | false =>
    have hi := K.in_of hm hq
    rw [hl] at hq
    simp at hq
    rw [cond_false, K.ser_str]
    have hb := K.byt_ser 7 (by decide) i hi
    have e : K.ser 7 i = [i.op, i.imm % 256] := by unfold K.ser; rw [hw]; rfl
    rw [e] at hb
    obtain ⟨d0, d1, s0, s1, x0, x1, c0, c1, i0, i1⟩ := hi
    rw [e]
    generalize (strOfNums _).data.toList = l at *
    have hb0 := hb 0
    have hb1 := hb 1
    have hb2 := hb 2
    have hb3 := hb 3
    have hb4 := hb 4
    have hb5 := hb 5
    have hb6 := hb 6
    simp at hb0 hb1 hb2 hb3 hb4 hb5 hb6
    simp [K.rd, K.i0, K.t_none, K.t_reg, K.t_pair, K.t_small, K.t_full, K.t_plain, K.t_index, K.four, hl, hb0, hb1, hb2, hb3, hb4, hb5, hb6, hq]
    omega
theorem K.v1_8 (i : K.Ins) (hop : 0 ≤ i.op ∧ i.op < 256) (hm : 0 ≤ i.imm ∧ i.imm < 4294967296) : K.valid1 8 i = true ↔ (i.sz = 5 ∧ K.rng i = true ∧ i.d = 0 ∧ i.s = 0 ∧ i.ix = -1 ∧ i.sc = 0) := by
  unfold K.valid1
  have hl : K.len 8 = 5 := rfl
  have hw : IntKind.wrap .u8 i.op = i.op := by show i.op % 256 = i.op; omega
  cases hq : ((i.sz != (K.len 8)) || (!(K.rng i))) with
  | true =>
    rw [hl] at hq
    simp at hq ⊢
    intro h1 h2; rcases hq with hq | hq
    · exact absurd h1 hq
    · rw [h2] at hq; cases hq
  | false =>
    have hi := K.in_of hm hq
    rw [hl] at hq
    simp at hq
    rw [cond_false, K.ser_str]
    have hb := K.byt_ser 8 (by decide) i hi
    have e : K.ser 8 i = [i.op, i.imm % 256, i.imm / 256 % 256, i.imm / 65536 % 256, i.imm / 16777216 % 256] := by unfold K.ser; rw [hw]; rfl
    rw [e] at hb
    obtain ⟨d0, d1, s0, s1, x0, x1, c0, c1, i0, i1⟩ := hi
    rw [e]
    generalize (strOfNums _).data.toList = l at *
    have hb0 := hb 0
    have hb1 := hb 1
    have hb2 := hb 2
    have hb3 := hb 3
    have hb4 := hb 4
    have hb5 := hb 5
    have hb6 := hb 6
    simp at hb0 hb1 hb2 hb3 hb4 hb5 hb6
    simp [K.rd, K.i0, K.t_none, K.t_reg, K.t_pair, K.t_small, K.t_full, K.t_plain, K.t_index, K.four, hl, hb0, hb1, hb2, hb3, hb4, hb5, hb6, hq]
    omega
theorem K.v1_9 (i : K.Ins) (hop : 0 ≤ i.op ∧ i.op < 256) (hm : 0 ≤ i.imm ∧ i.imm < 4294967296) : K.valid1 9 i = true ↔ (i.sz = 2 ∧ K.rng i = true ∧ i.d = 0 ∧ i.s = 0 ∧ i.ix = -1 ∧ i.sc = 0 ∧ i.imm < 256) := by
  unfold K.valid1
  have hl : K.len 9 = 2 := rfl
  have hw : IntKind.wrap .u8 i.op = i.op := by show i.op % 256 = i.op; omega
  cases hq : ((i.sz != (K.len 9)) || (!(K.rng i))) with
  | true =>
    rw [hl] at hq
    simp at hq ⊢
    intro h1 h2; rcases hq with hq | hq
    · exact absurd h1 hq
    · rw [h2] at hq; cases hq
  | false =>
    have hi := K.in_of hm hq
    rw [hl] at hq
    simp at hq
    rw [cond_false, K.ser_str]
    have hb := K.byt_ser 9 (by decide) i hi
    have e : K.ser 9 i = [i.op, i.imm % 256] := by unfold K.ser; rw [hw]; rfl
    rw [e] at hb
    obtain ⟨d0, d1, s0, s1, x0, x1, c0, c1, i0, i1⟩ := hi
    rw [e]
    generalize (strOfNums _).data.toList = l at *
    have hb0 := hb 0
    have hb1 := hb 1
    have hb2 := hb 2
    have hb3 := hb 3
    have hb4 := hb 4
    have hb5 := hb 5
    have hb6 := hb 6
    simp at hb0 hb1 hb2 hb3 hb4 hb5 hb6
    simp [K.rd, K.i0, K.t_none, K.t_reg, K.t_pair, K.t_small, K.t_full, K.t_plain, K.t_index, K.four, hl, hb0, hb1, hb2, hb3, hb4, hb5, hb6, hq]
    omega
theorem K.v1_10 (i : K.Ins) (hop : 0 ≤ i.op ∧ i.op < 256) (hm : 0 ≤ i.imm ∧ i.imm < 4294967296) : K.valid1 10 i = true ↔ (i.sz = 2 ∧ K.rng i = true ∧ i.ix = -1 ∧ i.sc = 0 ∧ i.imm = 0) := by
  unfold K.valid1
  have hl : K.len 10 = 2 := rfl
  have hw : IntKind.wrap .u8 i.op = i.op := by show i.op % 256 = i.op; omega
  cases hq : ((i.sz != (K.len 10)) || (!(K.rng i))) with
  | true =>
    rw [hl] at hq
    simp at hq ⊢
    intro h1 h2; rcases hq with hq | hq
    · exact absurd h1 hq
    · rw [h2] at hq; cases hq
  | false =>
    have hi := K.in_of hm hq
    rw [hl] at hq
    simp at hq
    rw [cond_false, K.ser_str]
    have hb := K.byt_ser 10 (by decide) i hi
    have e : K.ser 10 i = [i.op, i.d * 16 + i.s] := by unfold K.ser; rw [hw]; rfl
    rw [e] at hb
    obtain ⟨d0, d1, s0, s1, x0, x1, c0, c1, i0, i1⟩ := hi
    rw [e]
    generalize (strOfNums _).data.toList = l at *
    have hb0 := hb 0
    have hb1 := hb 1
    have hb2 := hb 2
    have hb3 := hb 3
    have hb4 := hb 4
    have hb5 := hb 5
    have hb6 := hb 6
    simp at hb0 hb1 hb2 hb3 hb4 hb5 hb6
    simp [K.rd, K.i0, K.t_none, K.t_reg, K.t_pair, K.t_small, K.t_full, K.t_plain, K.t_index, K.four, hl, hb0, hb1, hb2, hb3, hb4, hb5, hb6, hq]
    omega
end Go.Proofs.Ytgnekniabedomaa
