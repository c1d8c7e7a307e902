/- Plain laws of kcode: what Made makes is valid. No program in sight. -/
import Derived.Test.YtgnekniabedomaaKs
namespace Go.Proofs.Ytgnekniabedomaa
set_option linter.unusedVariables false
set_option linter.unusedSimpArgs false
open Go.RowKit
theorem R2.ops_ok : ∀ n : Fin 79, R2.Format (R2.ops.getD (0 + n.val * 1) 0) ≠ 0 := by decide +kernel
theorem R2.opAt_ok (a : Int) : R2.Format (R2.opAt (R2.ix a)) ≠ 0 := by
  have hm : 0 ≤ R2.ix a ∧ R2.ix a < 79 := R2.tm_bd a 79 (by decide) (by decide)
  exact R2.ops_ok ⟨(R2.ix a).toNat, by omega⟩
theorem R2.ext_bd (z : Int) (h0 : 0 ≤ z) (h1 : z < 256) : 0 ≤ R2.extend z ∧ R2.extend z < 4294967296 ∧ R2.signed (R2.extend z) = true := by
  rw [R2.extend_eq z h0 h1, K.sign8 z h0 h1]
  unfold R2.signed
  simp only [Bool.or_eq_true, decide_eq_true_eq]
  split <;> omega
theorem R2.f8 : ∀ n : Fin 14, R2.Format (96 + (n.val : Int)) = 8 := by decide +kernel
theorem R2.Made_ok (a b c x y : Int) : R2.Valid (R2.Made a b c x y) = true ∧ 0 ≤ (R2.Made a b c x y).imm ∧ (R2.Made a b c x y).imm < 4294967296 := by
  have hop := R2.opAt_ok a
  have b7 : bits .and .i64 b 7 = b % 8 := W.i64_and_mask 3 (by decide) b
  have c7 : bits .and .i64 c 7 = c % 8 := W.i64_and_mask 3 (by decide) c
  have c3 : bits .and .i64 c 3 = c % 4 := W.i64_and_mask 2 (by decide) c
  have y1 : bits .and .i64 y 1 = y % 2 := W.i64_and_mask 1 (by decide) y
  have y7 : ∀ z, bits .and .i64 z 7 = z % 8 := fun z => W.i64_and_mask 3 (by decide) z
  have y3 : ∀ z, bits .and .i64 z 3 = z % 4 := fun z => W.i64_and_mask 2 (by decide) z
  have yf : bits .and .i64 y 65535 = y % 65536 := W.i64_and_mask 16 (by decide) y
  have xf : bits .and .u32 (IntKind.wrap .u32 x) 255 = x % 256 := by
    rw [K.wu32, show (255 : Int) = ((2 ^ 8 - 1 : Nat) : Int) from rfl, W.and_mask 8 (by decide) _ (by omega) (by omega)]
    show x % 4294967296 % 256 = _
    omega
  have x8 : IntKind.wrap .u8 (IntKind.wrap .u32 x) = x % 256 := by rw [K.wu8, K.wu32]; omega
  have xb : 0 ≤ IntKind.wrap .u32 x ∧ IntKind.wrap .u32 x < 4294967296 := by rw [K.wu32]; omega
  have t5 : Int.tmod (c % 8) 5 = c % 8 % 5 := Int.tmod_eq_emod_of_nonneg (by omega)
  have t14 : Int.tmod (y % 65536) 14 = y % 65536 % 14 := Int.tmod_eq_emod_of_nonneg (by omega)
  have e14 : IntKind.wrap .i64 (96 + y % 65536 % 14) = 96 + y % 65536 % 14 := K.w64 _ (by omega) (by omega)
  obtain ⟨z0, z1, z2⟩ := R2.ext_bd (x % 256) (by omega) (by omega)
  unfold R2.Made
  generalize R2.opAt (R2.ix a) = op at *
  rcases K.fmt_cases op with ⟨hk, hf⟩ | ⟨hk, hf, h1, h2⟩ | ⟨hk, hf, h1, h2⟩ | ⟨hk, hf, h1, h2⟩ | ⟨hk, hf, h1, h2⟩ | ⟨hk, hf, h1, h2⟩ | ⟨hk, hf, h1, h2⟩ | ⟨hk, hf, h1, h2⟩ | ⟨hk, hf, h1, h2⟩ | ⟨hk, hf, h1, h2⟩ | ⟨hk, hf, h1⟩ | ⟨hk, hf, h1⟩ | ⟨hk, hf, h1⟩
  · exact absurd hf hop
  · have e1 := K.w8 op (by omega) (by omega)
    have e2 := K.w64 op (by omega) (by omega)
    have hz : R2.Size (IntKind.wrap .u8 op) = 1 := by unfold R2.Size; rw [e1, e2, hf]; rfl
    unfold R2.Valid R2.reg
    simp only [hf, hz, b7, c7, c3, y1, y7, y3, x8, xf, t5]
    generalize IntKind.wrap .u32 x = X at *
    simp [hf, hz, z0, z1, z2]
  · have e1 := K.w8 op (by omega) (by omega)
    have e2 := K.w64 op (by omega) (by omega)
    have hz : R2.Size (IntKind.wrap .u8 op) = 2 := by unfold R2.Size; rw [e1, e2, hf]; rfl
    unfold R2.Valid R2.reg
    simp only [hf, hz, b7, c7, c3, y1, y7, y3, x8, xf, t5]
    generalize IntKind.wrap .u32 x = X at *
    simp [hf, hz, z0, z1, z2]
    try omega
  · have e1 := K.w8 op (by omega) (by omega)
    have e2 := K.w64 op (by omega) (by omega)
    have hz : R2.Size (IntKind.wrap .u8 op) = 2 := by unfold R2.Size; rw [e1, e2, hf]; rfl
    unfold R2.Valid R2.reg
    simp only [hf, hz, b7, c7, c3, y1, y7, y3, x8, xf, t5]
    generalize IntKind.wrap .u32 x = X at *
    simp [hf, hz, z0, z1, z2]
    try omega
  · have e1 := K.w8 op (by omega) (by omega)
    have e2 := K.w64 op (by omega) (by omega)
    have hz : R2.Size (IntKind.wrap .u8 op) = 3 := by unfold R2.Size; rw [e1, e2, hf]; rfl
    unfold R2.Valid R2.reg
    simp only [hf, hz, b7, c7, c3, y1, y7, y3, x8, xf, t5]
    generalize IntKind.wrap .u32 x = X at *
    simp [hf, hz, z0, z1, z2]
    try omega
  · have e1 := K.w8 op (by omega) (by omega)
    have e2 := K.w64 op (by omega) (by omega)
    have hz : R2.Size (IntKind.wrap .u8 op) = 6 := by unfold R2.Size; rw [e1, e2, hf]; rfl
    unfold R2.Valid R2.reg
    simp only [hf, hz, b7, c7, c3, y1, y7, y3, x8, xf, t5]
    generalize IntKind.wrap .u32 x = X at *
    simp [hf, hz, z0, z1, z2]
    try omega
  · have e1 := K.w8 op (by omega) (by omega)
    have e2 := K.w64 op (by omega) (by omega)
    have hz : R2.Size (IntKind.wrap .u8 op) = 3 := by unfold R2.Size; rw [e1, e2, hf]; rfl
    unfold R2.Valid R2.reg
    simp only [hf, hz, b7, c7, c3, y1, y7, y3, x8, xf, t5]
    generalize IntKind.wrap .u32 x = X at *
    simp [hf, hz, z0, z1, z2]
    try omega
  · have e1 := K.w8 op (by omega) (by omega)
    have e2 := K.w64 op (by omega) (by omega)
    have hz : R2.Size (IntKind.wrap .u8 op) = 7 := by unfold R2.Size; rw [e1, e2, hf]; rfl
    unfold R2.Valid R2.reg
    simp only [hf, hz, b7, c7, c3, y1, y7, y3, x8, xf, t5]
    generalize IntKind.wrap .u32 x = X at *
    by_cases hy : y % 2 = 1
    · simp [hf, hz, hy]
      generalize y.fdiv 2 = p
      generalize y.fdiv 16 = q
      rw [if_neg (by omega)]; omega
    · have hy2 : (y % 2 == 1) = false := by simpa using hy
      simp [hf, hz, hy2]; omega
  · have e1 := K.w8 op (by omega) (by omega)
    have e2 := K.w64 op (by omega) (by omega)
    have hz : R2.Size (IntKind.wrap .u8 op) = 2 := by unfold R2.Size; rw [e1, e2, hf]; rfl
    have g0 : 96 ≤ 96 + y % 65536 % 14 ∧ 96 + y % 65536 % 14 ≤ 109 := by omega
    rw [b7, c7, c3, y1, yf, t14, e14] at *
    generalize 96 + y % 65536 % 14 = op2 at *
    have hf2 : R2.Format op2 = 8 := by
      obtain ⟨n, hn⟩ := Int.eq_ofNat_of_zero_le (by omega : 0 ≤ op2 - 96)
      have := R2.f8 ⟨n, by omega⟩
      rw [show op2 = 96 + (n : Int) by omega]; exact this
    have e3 := K.w8 op2 (by omega) (by omega)
    have e4 := K.w64 op2 (by omega) (by omega)
    have hz2 : R2.Size (IntKind.wrap .u8 op2) = 2 := by unfold R2.Size; rw [e3, e4, hf2]; rfl
    unfold R2.Valid R2.reg
    simp [hf, hz, hf2, hz2, x8, z0, z1, z2]
  · have e1 := K.w8 op (by omega) (by omega)
    have e2 := K.w64 op (by omega) (by omega)
    have hz : R2.Size (IntKind.wrap .u8 op) = 5 := by unfold R2.Size; rw [e1, e2, hf]; rfl
    unfold R2.Valid R2.reg
    simp only [hf, hz, b7, c7, c3, y1, y7, y3, x8, xf, t5]
    generalize IntKind.wrap .u32 x = X at *
    simp [hf, hz, z0, z1, z2]
    try omega
  · have e1 := K.w8 op (by omega) (by omega)
    have e2 := K.w64 op (by omega) (by omega)
    have hz : R2.Size (IntKind.wrap .u8 op) = 2 := by unfold R2.Size; rw [e1, e2, hf]; rfl
    unfold R2.Valid R2.reg
    simp only [hf, hz, b7, c7, c3, y1, y7, y3, x8, xf, t5]
    generalize IntKind.wrap .u32 x = X at *
    simp [hf, hz, z0, z1, z2]
    try omega
  · have e1 := K.w8 op (by omega) (by omega)
    have e2 := K.w64 op (by omega) (by omega)
    have hz : R2.Size (IntKind.wrap .u8 op) = 2 := by unfold R2.Size; rw [e1, e2, hf]; rfl
    unfold R2.Valid R2.reg
    simp only [hf, hz, b7, c7, c3, y1, y7, y3, x8, xf, t5]
    generalize IntKind.wrap .u32 x = X at *
    simp [hf, hz, z0, z1, z2]
    try omega
  · have e1 := K.w8 op (by omega) (by omega)
    have e2 := K.w64 op (by omega) (by omega)
    have hz : R2.Size (IntKind.wrap .u8 op) = 2 := by unfold R2.Size; rw [e1, e2, hf]; rfl
    unfold R2.Valid R2.reg
    simp only [hf, hz, b7, c7, c3, y1, y7, y3, x8, xf, t5]
    generalize IntKind.wrap .u32 x = X at *
    simp [hf, hz, z0, z1, z2]
    try omega
end Go.Proofs.Ytgnekniabedomaa
