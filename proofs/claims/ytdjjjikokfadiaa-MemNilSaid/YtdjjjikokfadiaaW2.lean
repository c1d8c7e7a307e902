/- Plain arithmetic of words: sign extension. No Go in sight; no condition. -/
import Derived.Test.YtdjjjikokfadiaaW1
namespace Go.Proofs.Ytdjjjikokfadiaa.W
set_option linter.unusedVariables false
set_option linter.unusedSimpArgs false
open Go.RowKit

/-- Sign extension of the lowest k bits. -/
def sign (n k : Int) : Int := if k < 1 then 0 else if 32 ≤ k then n else
  if 2 ^ (k - 1).toNat ≤ n % 2 ^ k.toNat then n % 2 ^ k.toNat - 2 ^ k.toNat + 4294967296 else n % 2 ^ k.toNat
theorem sign_shift (n k : Int) (h0 : 0 ≤ n) (h1 : n < 4294967296) (k0 : 1 ≤ k) (k1 : k < 32) :
    wrap32 (n * 2 ^ (32 - k).toNat % 4294967296) / 2 ^ (32 - k).toNat % 4294967296 = sign n k := by
  rcases (by omega : k = 1 ∨ k = 2 ∨ k = 3 ∨ k = 4 ∨ k = 5 ∨ k = 6 ∨ k = 7 ∨ k = 8 ∨ k = 9 ∨ k = 10 ∨ k = 11 ∨ k = 12 ∨ k = 13 ∨ k = 14 ∨ k = 15 ∨ k = 16 ∨ k = 17 ∨ k = 18 ∨ k = 19 ∨ k = 20 ∨ k = 21 ∨ k = 22 ∨ k = 23 ∨ k = 24 ∨ k = 25 ∨ k = 26 ∨ k = 27 ∨ k = 28 ∨ k = 29 ∨ k = 30 ∨ k = 31) with rfl | rfl | rfl | rfl | rfl | rfl | rfl | rfl | rfl | rfl | rfl | rfl | rfl | rfl | rfl | rfl | rfl | rfl | rfl | rfl | rfl | rfl | rfl | rfl | rfl | rfl | rfl | rfl | rfl | rfl | rfl <;>
    (simp only [sign, wrap32, Int.reduceSub, Int.reduceToNat, Int.reducePow, Int.reduceLT, Int.reduceLE, ↓reduceIte]; split <;> omega)
theorem sign_mod (n k : Int) (h0 : 0 ≤ n) (h1 : n < 4294967296) (k0 : 1 ≤ k) (k1 : k < 32) :
    (2 ^ k.toNat % 4294967296 : Int) ≠ 0 ∧ (2 ^ (k.toNat - 1) % 4294967296 ≤ n % (2 ^ k.toNat % 4294967296) → (n % (2 ^ k.toNat % 4294967296) - 2 ^ k.toNat % 4294967296) % 4294967296 = sign n k) ∧
      (n % (2 ^ k.toNat % 4294967296) < 2 ^ (k.toNat - 1) % 4294967296 → n % (2 ^ k.toNat % 4294967296) = sign n k) := by
  rcases (by omega : k = 1 ∨ k = 2 ∨ k = 3 ∨ k = 4 ∨ k = 5 ∨ k = 6 ∨ k = 7 ∨ k = 8 ∨ k = 9 ∨ k = 10 ∨ k = 11 ∨ k = 12 ∨ k = 13 ∨ k = 14 ∨ k = 15 ∨ k = 16 ∨ k = 17 ∨ k = 18 ∨ k = 19 ∨ k = 20 ∨ k = 21 ∨ k = 22 ∨ k = 23 ∨ k = 24 ∨ k = 25 ∨ k = 26 ∨ k = 27 ∨ k = 28 ∨ k = 29 ∨ k = 30 ∨ k = 31) with rfl | rfl | rfl | rfl | rfl | rfl | rfl | rfl | rfl | rfl | rfl | rfl | rfl | rfl | rfl | rfl | rfl | rfl | rfl | rfl | rfl | rfl | rfl | rfl | rfl | rfl | rfl | rfl | rfl | rfl | rfl <;>
    (simp only [sign, Int.reduceSub, Int.reduceToNat, Nat.reduceSub, Int.reducePow, Int.reduceMod, Int.reduceLT, Int.reduceLE, ↓reduceIte]; refine ⟨by decide, fun h => ?_, fun h => ?_⟩ <;> split <;> omega)
theorem sign_bd (n k : Int) (h0 : 0 ≤ n) (h1 : n < 4294967296) : 0 ≤ sign n k ∧ sign n k < 4294967296 := by
  by_cases a : k < 1
  · simp [sign, a]
  · by_cases b : 32 ≤ k
    · simp [sign, a, b]; omega
    · rw [← sign_shift n k h0 h1 (by omega) (by omega)]
      exact ⟨Int.emod_nonneg _ (by decide), Int.emod_lt_of_pos _ (by decide)⟩
theorem sign_lo (n k : Int) (h : k < 1) : sign n k = 0 := by simp [sign, h]
theorem sign_hi (n k : Int) (h : 32 ≤ k) : sign n k = n := by simp [sign, h, show ¬ k < 1 by omega]
end Go.Proofs.Ytdjjjikokfadiaa.W
