/- Plain laws of kcode: it is the reference. No program in sight. -/
import Derived.Test.YtgnekniabedomaaKp
namespace Go.Proofs.Ytgnekniabedomaa
set_option linter.unusedVariables false
set_option linter.unusedSimpArgs false
open Go.RowKit
theorem K.sign8F : ∀ n : Fin 256, W.sign (n.val : Int) 8 = if n.val < 128 then (n.val : Int) else n.val + 4294967040 := by decide +kernel
theorem K.sign8 (b : Int) (h0 : 0 ≤ b) (h1 : b < 256) : W.sign b 8 = if b < 128 then b else b + 4294967040 := by
  obtain ⟨n, rfl⟩ := Int.eq_ofNat_of_zero_le h0
  have := K.sign8F ⟨n, by omega⟩
  simp only at this
  rw [this]
  by_cases h : n < 128
  · rw [if_pos h, if_pos (by omega)]
  · rw [if_neg h, if_neg (by omega)]
theorem K.sign_iff (n : Int) (h0 : 0 ≤ n) (h1 : n < 4294967296) : W.sign (n % 256) 8 = n ↔ R2.signed n = true := by
  rw [K.sign8 _ (by omega) (by omega)]
  unfold R2.signed
  simp only [Bool.or_eq_true, decide_eq_true_eq]
  split <;> omega
theorem K.w8 (n : Int) (h0 : 0 ≤ n) (h1 : n < 256) : IntKind.wrap .u8 n = n := by show n % 256 = n; omega
theorem K.w64 (n : Int) (h0 : -9223372036854775808 ≤ n) (h1 : n < 9223372036854775808) : IntKind.wrap .i64 n = n := IntWalk.i64_in n (by omega)
theorem K.valid_eq (i : K.Ins) (hm : 0 ≤ i.imm ∧ i.imm < 4294967296) : K.valid i = R2.Valid i := by
  rw [Bool.eq_iff_iff]
  have hsg := K.sign_iff i.imm hm.1 hm.2
  unfold K.valid
  rcases K.fmt_cases i.op with ⟨hk, hf⟩ | ⟨hk, hf, h1, h2⟩ | ⟨hk, hf, h1, h2⟩ | ⟨hk, hf, h1, h2⟩ | ⟨hk, hf, h1, h2⟩ | ⟨hk, hf, h1, h2⟩ | ⟨hk, hf, h1, h2⟩ | ⟨hk, hf, h1, h2⟩ | ⟨hk, hf, h1, h2⟩ | ⟨hk, hf, h1, h2⟩ | ⟨hk, hf, h1⟩ | ⟨hk, hf, h1⟩ | ⟨hk, hf, h1⟩
  · rw [hk]; unfold R2.Valid; rw [hf]; simp
  · rw [hk]
    have e1 := K.w8 i.op (by omega) (by omega)
    have e2 := K.w64 i.op (by omega) (by omega)
    have hz : R2.Size (IntKind.wrap .u8 i.op) = 1 := by unfold R2.Size; rw [e1, e2, hf]; rfl
    have hmo : K.most i.op = 7 := by unfold K.most; rw [if_neg (by omega), if_neg (by omega)]
    show K.valid1 0 i = true ↔ _
    rw [K.v1_0 i ⟨by omega, by omega⟩ hm]
    unfold K.rng R2.Valid R2.reg
    rw [hf, hz, hmo]
    simp only [K.in_one, hsg]
    cases R2.signed i.imm <;> simp <;> omega
  · rw [hk]
    have e1 := K.w8 i.op (by omega) (by omega)
    have e2 := K.w64 i.op (by omega) (by omega)
    have hz : R2.Size (IntKind.wrap .u8 i.op) = 2 := by unfold R2.Size; rw [e1, e2, hf]; rfl
    have hmo : K.most i.op = 7 := by unfold K.most; rw [if_neg (by omega), if_neg (by omega)]
    show K.valid1 1 i = true ↔ _
    rw [K.v1_1 i ⟨by omega, by omega⟩ hm]
    unfold K.rng R2.Valid R2.reg
    rw [hf, hz, hmo]
    simp only [K.in_one, hsg]
    cases R2.signed i.imm <;> simp <;> omega
  · rw [hk]
    have e1 := K.w8 i.op (by omega) (by omega)
    have e2 := K.w64 i.op (by omega) (by omega)
    have hz : R2.Size (IntKind.wrap .u8 i.op) = 2 := by unfold R2.Size; rw [e1, e2, hf]; rfl
    have hmo : K.most i.op = 7 := by unfold K.most; rw [if_neg (by omega), if_neg (by omega)]
    show K.valid1 2 i = true ↔ _
    rw [K.v1_2 i ⟨by omega, by omega⟩ hm]
    unfold K.rng R2.Valid R2.reg
    rw [hf, hz, hmo]
    simp only [K.in_one, hsg]
    cases R2.signed i.imm <;> simp <;> omega
  · rw [hk]
    have e1 := K.w8 i.op (by omega) (by omega)
    have e2 := K.w64 i.op (by omega) (by omega)
    have hz : R2.Size (IntKind.wrap .u8 i.op) = 3 := by unfold R2.Size; rw [e1, e2, hf]; rfl
    have hmo : K.most i.op = 7 := by unfold K.most; rw [if_neg (by omega), if_neg (by omega)]
    show K.valid1 3 i = true ↔ _
    rw [K.v1_3 i ⟨by omega, by omega⟩ hm]
    unfold K.rng R2.Valid R2.reg
    rw [hf, hz, hmo]
    simp only [K.in_one, hsg]
    cases R2.signed i.imm <;> simp <;> omega
  · rw [hk]
    have e1 := K.w8 i.op (by omega) (by omega)
    have e2 := K.w64 i.op (by omega) (by omega)
    have hz : R2.Size (IntKind.wrap .u8 i.op) = 6 := by unfold R2.Size; rw [e1, e2, hf]; rfl
    have hmo : K.most i.op = 7 := by unfold K.most; rw [if_neg (by omega), if_neg (by omega)]
    show K.valid1 4 i = true ↔ _
    rw [K.v1_4 i ⟨by omega, by omega⟩ hm]
    unfold K.rng R2.Valid R2.reg
    rw [hf, hz, hmo]
    simp only [K.in_one, hsg]
    cases R2.signed i.imm <;> simp <;> omega
  · rw [hk]
    have e1 := K.w8 i.op (by omega) (by omega)
    have e2 := K.w64 i.op (by omega) (by omega)
    have hz : R2.Size (IntKind.wrap .u8 i.op) = 3 := by unfold R2.Size; rw [e1, e2, hf]; rfl
    have hmo : K.most i.op = 7 := by unfold K.most; rw [if_neg (by omega), if_neg (by omega)]
    show K.valid1 5 i = true ↔ _
    rw [K.v1_5 i ⟨by omega, by omega⟩ hm]
    unfold K.rng R2.Valid R2.reg
    rw [hf, hz, hmo]
    simp only [K.in_one, hsg]
    cases R2.signed i.imm <;> simp <;> omega
  · rw [hk]
    have e1 := K.w8 i.op (by omega) (by omega)
    have e2 := K.w64 i.op (by omega) (by omega)
    have hz : R2.Size (IntKind.wrap .u8 i.op) = 7 := by unfold R2.Size; rw [e1, e2, hf]; rfl
    have hmo : K.most i.op = 7 := by unfold K.most; rw [if_neg (by omega), if_neg (by omega)]
    show K.valid1 6 i = true ↔ _
    rw [K.v1_6 i ⟨by omega, by omega⟩ hm]
    unfold K.rng R2.Valid R2.reg
    rw [hf, hz, hmo]
    simp only [K.in_one, hsg]
    by_cases hx : i.ix = -1
    · simp [hx]; omega
    · simp [hx]; omega
  · rw [hk]
    have e1 := K.w8 i.op (by omega) (by omega)
    have e2 := K.w64 i.op (by omega) (by omega)
    have hz : R2.Size (IntKind.wrap .u8 i.op) = 2 := by unfold R2.Size; rw [e1, e2, hf]; rfl
    have hmo : K.most i.op = 7 := by unfold K.most; rw [if_neg (by omega), if_neg (by omega)]
    show K.valid1 7 i = true ↔ _
    rw [K.v1_7 i ⟨by omega, by omega⟩ hm]
    unfold K.rng R2.Valid R2.reg
    rw [hf, hz, hmo]
    simp only [K.in_one, hsg]
    cases R2.signed i.imm <;> simp <;> omega
  · rw [hk]
    have e1 := K.w8 i.op (by omega) (by omega)
    have e2 := K.w64 i.op (by omega) (by omega)
    have hz : R2.Size (IntKind.wrap .u8 i.op) = 5 := by unfold R2.Size; rw [e1, e2, hf]; rfl
    have hmo : K.most i.op = 7 := by unfold K.most; rw [if_neg (by omega), if_neg (by omega)]
    show K.valid1 8 i = true ↔ _
    rw [K.v1_8 i ⟨by omega, by omega⟩ hm]
    unfold K.rng R2.Valid R2.reg
    rw [hf, hz, hmo]
    simp only [K.in_one, hsg]
    cases R2.signed i.imm <;> simp <;> omega
  · rw [hk]
    have e1 := K.w8 i.op (by omega) (by omega)
    have e2 := K.w64 i.op (by omega) (by omega)
    have hz : R2.Size (IntKind.wrap .u8 i.op) = 2 := by unfold R2.Size; rw [e1, e2, hf]; rfl
    have hmo : K.most i.op = 7 := by unfold K.most; rw [if_neg (by omega), if_neg (by omega)]
    show K.valid1 9 i = true ↔ _
    rw [K.v1_9 i ⟨by omega, by omega⟩ hm]
    unfold K.rng R2.Valid R2.reg
    rw [hf, hz, hmo]
    simp only [K.in_one, hsg]
    cases R2.signed i.imm <;> simp <;> omega
  · rw [hk]
    have e1 := K.w8 i.op (by omega) (by omega)
    have e2 := K.w64 i.op (by omega) (by omega)
    have hz : R2.Size (IntKind.wrap .u8 i.op) = 2 := by unfold R2.Size; rw [e1, e2, hf]; rfl
    have hmo : K.most i.op = 3 := by unfold K.most; rw [if_pos h1]
    show K.valid1 10 i = true ↔ _
    rw [K.v1_10 i ⟨by omega, by omega⟩ hm]
    unfold K.rng R2.Valid R2.reg
    rw [hf, hz, hmo]
    simp only [K.in_one, hsg]
    cases R2.signed i.imm <;> simp <;> omega
  · rw [hk]
    have e1 := K.w8 i.op (by omega) (by omega)
    have e2 := K.w64 i.op (by omega) (by omega)
    have hz : R2.Size (IntKind.wrap .u8 i.op) = 2 := by unfold R2.Size; rw [e1, e2, hf]; rfl
    have hmo : K.most i.op = 4 := by unfold K.most; rw [if_neg (by omega), if_pos h1]
    show K.valid1 10 i = true ↔ _
    rw [K.v1_10 i ⟨by omega, by omega⟩ hm]
    unfold K.rng R2.Valid R2.reg
    rw [hf, hz, hmo]
    simp only [K.in_one, hsg]
    cases R2.signed i.imm <;> simp <;> omega
end Go.Proofs.Ytgnekniabedomaa
