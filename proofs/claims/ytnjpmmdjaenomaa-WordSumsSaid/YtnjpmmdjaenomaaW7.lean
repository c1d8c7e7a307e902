/- Plain: remainders as Go reckons them, made positive; complementary conditions; the checksum law. No Go in sight; no condition. -/
import Derived.Test.YtnjpmmdjaenomaaW6
import Derived.Test.YtnjpmmdjaenomaaW5
namespace Go.Proofs.Ytnjpmmdjaenomaa.W
set_option linter.unusedVariables false
open Go.RowKit
theorem tmod_bd (c n : Int) (hn : 0 < n) : -n < c.tmod n ∧ c.tmod n < n := by
  refine ⟨?_, Int.tmod_lt_of_pos c hn⟩
  have h := Int.tmod_lt_of_pos (-c) hn
  rw [Int.neg_tmod] at h
  omega
/-- (c % n + n) % n, as Go reckons it. -/
theorem posmod (c n : Int) (hn : 0 < n) (hn' : n ≤ 1000000000000) : ∃ m, 0 ≤ m ∧ m < n ∧ (wrap64 (c.tmod n + n)).tmod n = m := by
  have h := tmod_bd c n hn
  rw [IntWalk.wrap64_in _ (by omega)]
  exact ⟨_, Int.tmod_nonneg _ (by omega), Int.tmod_lt_of_pos _ hn, rfl⟩
theorem cond_compl (m f : Int) (h0 : 0 ≤ m) (h1 : m < 7) : (!cond (2 * m) f == cond (2 * m + 1) f) = true := by
  unfold cond
  generalize fN f = a; generalize fZ f = b; generalize fC f = c; generalize fV f = d
  rcases (by omega : m = 0 ∨ m = 1 ∨ m = 2 ∨ m = 3 ∨ m = 4 ∨ m = 5 ∨ m = 6) with rfl | rfl | rfl | rfl | rfl | rfl | rfl <;>
    cases a <;> cases b <;> cases c <;> cases d <;> decide
theorem sign_low0 (n k : Int) (h0 : 0 ≤ n) (h1 : n < 4294967296) (k0 : 1 ≤ k) (k1 : k < 32) : sign n k % 2 ^ k.toNat = n % 2 ^ k.toNat ∧ sign (sign n k) k = sign n k := by
  rcases (by omega : k = 1 ∨ k = 2 ∨ k = 3 ∨ k = 4 ∨ k = 5 ∨ k = 6 ∨ k = 7 ∨ k = 8 ∨ k = 9 ∨ k = 10 ∨ k = 11 ∨ k = 12 ∨ k = 13 ∨ k = 14 ∨ k = 15 ∨ k = 16 ∨ k = 17 ∨ k = 18 ∨ k = 19 ∨ k = 20 ∨ k = 21 ∨ k = 22 ∨ k = 23 ∨ k = 24 ∨ k = 25 ∨ k = 26 ∨ k = 27 ∨ k = 28 ∨ k = 29 ∨ k = 30 ∨ k = 31) with rfl | rfl | rfl | rfl | rfl | rfl | rfl | rfl | rfl | rfl | rfl | rfl | rfl | rfl | rfl | rfl | rfl | rfl | rfl | rfl | rfl | rfl | rfl | rfl | rfl | rfl | rfl | rfl | rfl | rfl | rfl <;>
    (simp only [sign, Int.reduceSub, Int.reduceToNat, Int.reducePow, Int.reduceLT, Int.reduceLE, ↓reduceIte]; refine ⟨?_, ?_⟩ <;> (repeat' split) <;> omega)
theorem sign_low (n k : Int) (h0 : 0 ≤ n) (h1 : n < 4294967296) (k0 : 1 ≤ k) (k1 : k < 32) : bits .xor .u32 (sign n k) n * 2 ^ (32 - k).toNat % 4294967296 = 0 := by
  have hb := sign_bd n k h0 h1
  have hm := (sign_low0 n k h0 h1 k0 k1).1
  obtain ⟨S, hS⟩ := Int.eq_ofNat_of_zero_le hb.1
  rw [hS] at hm hb ⊢
  obtain ⟨N, rfl⟩ := Int.eq_ofNat_of_zero_le h0
  obtain ⟨K, rfl⟩ := Int.eq_ofNat_of_zero_le (show 0 ≤ k by omega)
  rw [u32_xor_nat _ _ (by omega) (by omega)]
  rw [Int.toNat_natCast] at hm
  have hm' : S % 2 ^ K = N % 2 ^ K := by
    have e : ∀ A : Nat, ((A : Int) % 2 ^ K) = ((A % 2 ^ K : Nat) : Int) := fun A => by simp
    rw [e, e] at hm; omega
  have hx : (S ^^^ N) % 2 ^ K = 0 := by rw [Nat.xor_mod_two_pow, hm', Nat.xor_self]
  obtain ⟨q, hq⟩ := Nat.dvd_of_mod_eq_zero hx
  rw [hq, show (32 - (K : Int)).toNat = 32 - K by omega]
  have e : (((2 ^ K * q : Nat) : Int) * 2 ^ (32 - K)) = ((q * 2 ^ 32 : Nat) : Int) := by
    have : 2 ^ K * q * 2 ^ (32 - K) = q * 2 ^ 32 := by
      rw [Nat.mul_comm (2 ^ K) q, Nat.mul_assoc, ← Nat.pow_add, show K + (32 - K) = 32 by omega]
    rw [← this]; simp
  rw [e]; omega
/-! The checksum: a change of up to 32 consecutive bits. -/
theorem crc1_inj {x y : B32} (h : crc1 x = crc1 y) : x = y := by
  have hl : x.getLsbD 0 = y.getLsbD 0 := by
    have h31 := congrArg (fun r : B32 => r.getLsbD 31) h
    simp only [crc1, BitVec.getLsbD_xor, BitVec.getLsbD_ushiftRight] at h31
    rw [BitVec.getLsbD_of_ge x _ (by decide), BitVec.getLsbD_of_ge y _ (by decide)] at h31
    cases hx : x.getLsbD 0 <;> cases hy : y.getLsbD 0 <;> rw [hx, hy] at h31 <;> first | rfl | (exfalso; revert h31; decide)
  have hs : x >>> 1 = y >>> 1 := by
    unfold crc1 at h
    rw [hl] at h
    exact (BitVec.xor_left_inj _).1 h
  apply BitVec.eq_of_getLsbD_eq
  intro i hi
  cases i with
  | zero => exact hl
  | succ i =>
    have := congrArg (fun r : B32 => r.getLsbD i) hs
    simp only [BitVec.getLsbD_ushiftRight] at this
    rw [Nat.add_comm] at this
    exact this
theorem crcN_inj : ∀ (n : Nat) {x y : B32}, crcN n x = crcN n y → x = y
  | 0, _, _, h => h
  | n + 1, _, _, h => crcN_inj n (crc1_inj h)
theorem crcB_inj {x y : B32} {b : UInt8} (h : crcB x b = crcB y b) : x = y := (BitVec.xor_left_inj _).1 (crcN_inj 8 h)
theorem crcL_inj : ∀ (l : List UInt8) {x y : B32}, crcL l x = crcL l y → x = y
  | [], _, _, h => h
  | b :: l, _, _, h => crcB_inj (crcL_inj l h)
end Go.Proofs.Ytnjpmmdjaenomaa.W
