/- Plain laws of babellaw02: KcodeForms, KcodeJumps. No program in sight but the last theorems. -/
import Derived.Test.YtgnekniabedomaaKw
import Derived.Test.YtgnekniabedomaaKz
namespace Go.Proofs.Ytgnekniabedomaa
set_option linter.unusedVariables false
set_option linter.unusedSimpArgs false
open Go.RowKit
theorem R2.F3 : ∀ n : Fin 15, R2.Format (32 + (n.val : Int)) = 3 := by decide +kernel
theorem R2.F4 : ∀ n : Fin 15, R2.Format (48 + (n.val : Int)) = 4 := by decide +kernel
theorem R2.F5 : ∀ n : Fin 15, R2.Format (64 + (n.val : Int)) = 5 := by decide +kernel
theorem K.fin {p : Int → Prop} {m : Nat} (h : ∀ n : Fin m, p (n.val : Int)) (k : Int) (h0 : 0 ≤ k) (h1 : k < m) : p k := by
  obtain ⟨n, rfl⟩ := Int.eq_ofNat_of_zero_le h0
  exact h ⟨n, by omega⟩
theorem K.valid_two (k d s n : Int) (hk : 0 ≤ k ∧ k < 15) (hd : 0 ≤ d ∧ d < 8) (hs : 0 ≤ s ∧ s < 8) : R2.Valid ⟨32 + k, d, s, -1, 0, n, 2⟩ = (n == 0) := by
  have hf : R2.Format (32 + k) = 3 := K.fin (p := fun k => R2.Format (32 + k) = 3) R2.F3 k hk.1 (by omega)
  have hz : R2.Size (IntKind.wrap .u8 (32 + k)) = 2 := by unfold R2.Size; rw [K.w8 _ (by omega) (by omega), K.w64 _ (by omega) (by omega), hf]; rfl
  unfold R2.Valid R2.reg
  simp only [hf, hz]
  simp; omega
theorem K.valid_three (k d n : Int) (hk : 0 ≤ k ∧ k < 15) (hd : 0 ≤ d ∧ d < 8) : R2.Valid ⟨48 + k, d, 0, -1, 0, n, 3⟩ = R2.signed n := by
  have hf : R2.Format (48 + k) = 4 := K.fin (p := fun k => R2.Format (48 + k) = 4) R2.F4 k hk.1 (by omega)
  have hz : R2.Size (IntKind.wrap .u8 (48 + k)) = 3 := by unfold R2.Size; rw [K.w8 _ (by omega) (by omega), K.w64 _ (by omega) (by omega), hf]; rfl
  unfold R2.Valid R2.reg
  simp only [hf, hz]
  simp; omega
theorem K.valid_six (k d n : Int) (hk : 0 ≤ k ∧ k < 15) (hd : 0 ≤ d ∧ d < 8) : R2.Valid ⟨64 + k, d, 0, -1, 0, n, 6⟩ = true := by
  have hf : R2.Format (64 + k) = 5 := K.fin (p := fun k => R2.Format (64 + k) = 5) R2.F5 k hk.1 (by omega)
  have hz : R2.Size (IntKind.wrap .u8 (64 + k)) = 6 := by unfold R2.Size; rw [K.w8 _ (by omega) (by omega), K.w64 _ (by omega) (by omega), hf]; rfl
  unfold R2.Valid R2.reg
  simp only [hf, hz]
  simp; omega
theorem K.lawForms_true (o r q n : Int) (ho : 0 ≤ o ∧ o < 256) (hr : 0 ≤ r ∧ r < 256) (hq : 0 ≤ q ∧ q < 256) (hn : 0 ≤ n ∧ n < 4294967296) : K.lawForms o r q n = true := by
  have e1 : Int.tmod o 15 = o % 15 := Int.tmod_eq_emod_of_nonneg ho.1
  have e2 : Int.tmod r 8 = r % 8 := Int.tmod_eq_emod_of_nonneg hr.1
  have e3 : Int.tmod q 8 = q % 8 := Int.tmod_eq_emod_of_nonneg hq.1
  unfold K.lawForms
  rw [e1, e2, e3, K.w64 (o % 15) (by omega) (by omega), K.w64 (r % 8) (by omega) (by omega), K.w64 (q % 8) (by omega) (by omega)]
  have hk : 0 ≤ o % 15 ∧ o % 15 < 15 := by omega
  have hd : 0 ≤ r % 8 ∧ r % 8 < 8 := by omega
  have hs : 0 ≤ q % 8 ∧ q % 8 < 8 := by omega
  generalize o % 15 = k at *
  generalize r % 8 = d at *
  generalize q % 8 = s at *
  rw [K.w64 (32 + k) (by omega) (by omega), K.w64 (32 + k + 16) (by omega) (by omega), K.w64 (32 + k + 32) (by omega) (by omega), show 32 + k + 16 = 48 + k by omega, show 32 + k + 32 = 64 + k by omega]
  have hg : K.Good ⟨64 + k, d, 0, -1, 0, n, 6⟩ := ⟨K.valid_six k d n hk hd, hn.1, hn.2⟩
  obtain ⟨m, hm⟩ := K.good_enc hg
  have hz := (K.good_size hg).1
  have e5 : (R2.Encode ⟨64 + k, d, 0, -1, 0, n, 6⟩).2 = 0 := by rw [hm.enc]
  have e6 : (((R2.Encode ⟨64 + k, d, 0, -1, 0, n, 6⟩).1.size : Nat) : Int) = 6 := hz
  rw [K.valid_two k d s 0 hk hd hs, K.valid_two k d s n hk hd hs, K.valid_three k d n hk hd, K.valid_six k d n hk hd, e5, e6]
  have e7 : R2.signed n = decide (IntKind.wrap .u32 (n + 128) < 256) := by
    unfold R2.signed
    rw [K.wu32, Bool.eq_iff_iff]; simp; omega
  rw [e7]; simp
theorem K.valid_jmp (op n : Int) (h : op = 112 ∨ op = 113) : R2.Valid ⟨op, 0, 0, -1, 0, n, 5⟩ = true := by
  rcases h with rfl | rfl <;> (unfold R2.Valid; simp [show R2.Format 112 = 9 from rfl, show R2.Format 113 = 9 from rfl, show R2.Size (IntKind.wrap .u8 112) = 5 from rfl, show R2.Size (IntKind.wrap .u8 113) = 5 from rfl])
theorem K.target_jmp (op a t : Int) (h : op = 112 ∨ op = 113) (ht : 0 ≤ t ∧ t < 4294967296) : R2.Target ⟨op, 0, 0, -1, 0, IntKind.wrap .u32 (IntKind.wrap .u32 (t - a) - 5), 5⟩ a = (t, true) := by
  unfold R2.Target
  rw [K.valid_jmp op _ h]
  have hf : R2.Format op = 9 := by rcases h with rfl | rfl <;> rfl
  simp only [hf, K.wu32]
  simp; omega
theorem K.target_cond (k a t : Int) (hk : 0 ≤ k ∧ k < 14) (ht : 0 ≤ t ∧ t < 4294967296) : R2.Target ⟨96 + k, 0, 0, -1, 0, IntKind.wrap .u32 (IntKind.wrap .u32 (t - a) - 2), 2⟩ a = bif decide (IntKind.wrap .u32 (IntKind.wrap .u32 (IntKind.wrap .u32 (t - a) - 2) + 128) < 256) then (t, true) else (0, false) := by
  have hf : R2.Format (96 + k) = 8 := K.fin (p := fun k => R2.Format (96 + k) = 8) R2.f8 k hk.1 (by omega)
  have hz : R2.Size (IntKind.wrap .u8 (96 + k)) = 2 := by unfold R2.Size; rw [K.w8 _ (by omega) (by omega), K.w64 _ (by omega) (by omega), hf]; rfl
  have hv : R2.Valid ⟨96 + k, 0, 0, -1, 0, IntKind.wrap .u32 (IntKind.wrap .u32 (t - a) - 2), 2⟩ = decide (IntKind.wrap .u32 (IntKind.wrap .u32 (IntKind.wrap .u32 (t - a) - 2) + 128) < 256) := by
    unfold R2.Valid R2.signed
    simp only [hf, hz, K.wu32]
    rw [Bool.eq_iff_iff]; simp; omega
  unfold R2.Target
  rw [hv]
  cases hc : decide (IntKind.wrap .u32 (IntKind.wrap .u32 (IntKind.wrap .u32 (t - a) - 2) + 128) < 256) with
  | false => rfl
  | true =>
    simp only [hf, K.wu32]
    simp; omega
theorem K.lawJumps_true (a t c : Int) (ht : 0 ≤ t ∧ t < 4294967296) (hc : 0 ≤ c ∧ c < 256) : K.lawJumps a t c = true := by
  have e1 : Int.tmod c 14 = c % 14 := Int.tmod_eq_emod_of_nonneg hc.1
  unfold K.lawJumps
  rw [e1, K.w64 (c % 14) (by omega) (by omega), K.w64 (96 + c % 14) (by omega) (by omega)]
  rw [K.target_jmp 112 a t (by decide) ht, K.target_jmp 113 a t (by decide) ht, K.target_cond (c % 14) a t (by omega) ht]
  have h1 : ∀ n, R2.Ends ⟨112, 0, 0, -1, 0, n, 5⟩ = true := fun n => by unfold R2.Ends; simp
  have h2 : ∀ n, R2.Ends ⟨113, 0, 0, -1, 0, n, 5⟩ = true := fun n => by unfold R2.Ends; simp
  have h3 : ∀ n, R2.Ends ⟨96 + c % 14, 0, 0, -1, 0, n, 2⟩ = true := fun n => by
    unfold R2.Ends
    have : decide (96 + c % 14 ≥ 96) = true := by simp; omega
    have : decide (96 + c % 14 ≤ 109) = true := by simp; omega
    simp [*]
  rw [h1, h2, h3]
  cases decide (IntKind.wrap .u32 (IntKind.wrap .u32 (IntKind.wrap .u32 (t - a) - 2) + 128) < 256) <;> simp
theorem KcodeForms_law (o r q n : Int) (ho : 0 ≤ o ∧ o < 256) (hr : 0 ≤ r ∧ r < 256) (hq : 0 ≤ q ∧ q < 256) (hn : 0 ≤ n ∧ n < 4294967296) (w : World) : Calls Try.prog 9 #[.int .u8 o, .agg #[.int .u8 r, .int .u8 q], .int .u32 n] w fun e w' => e = .returned (.bool true) ∧ Bel w w' := by
  have h := KcodeForms_any o r q n hn w
  rwa [K.lawForms_true o r q n ho hr hq hn] at h
theorem KcodeJumps_law (a t c : Int) (ht : 0 ≤ t ∧ t < 4294967296) (hc : 0 ≤ c ∧ c < 256) (w : World) : Calls Try.prog 11 #[.int .u32 a, .int .u32 t, .int .u8 c] w fun e w' => e = .returned (.bool true) ∧ Bel w w' := by
  have h := KcodeJumps_any a t c w
  rwa [K.lawJumps_true a t c ht hc] at h
end Go.Proofs.Ytgnekniabedomaa
