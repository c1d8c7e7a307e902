/- Plain: the bytes of a string while a change is laid over them. No Go in sight; no condition. -/
import Derived.Test.YtnjpmmdjaenomaaW8
namespace Go.Proofs.Ytnjpmmdjaenomaa.W
set_option linter.unusedVariables false
open Go.RowKit
/-- Byte j when m bytes of a change from k on have been laid. -/
def mixV (l : List UInt8) (k : Nat) (c : Int) (m j : Nat) : Int := if k ≤ j ∧ j < k + m then bits .xor .u8 (byt l j) (c / 2 ^ (8 * (j - k)) % 256) else byt l j
theorem mixV_0 (l : List UInt8) (k : Nat) (c : Int) (j : Nat) : mixV l k c 0 j = byt l j := by unfold mixV; rw [if_neg (by omega)]
theorem mixV_next (l : List UInt8) (k : Nat) (c : Int) (m : Nat) : mixV l k c m (k + m) = byt l (k + m) := by unfold mixV; rw [if_neg (by omega)]
theorem mixV_here (l : List UInt8) (k : Nat) (c : Int) (m : Nat) : mixV l k c (m + 1) (k + m) = bits .xor .u8 (byt l (k + m)) (c / 2 ^ (8 * m) % 256) := by
  unfold mixV; rw [if_pos (by omega), Nat.add_sub_cancel_left]
theorem mixV_else (l : List UInt8) (k : Nat) (c : Int) (m j : Nat) (h : j ≠ k + m) : mixV l k c (m + 1) j = mixV l k c m j := by
  unfold mixV
  by_cases h1 : k ≤ j ∧ j < k + m
  · rw [if_pos h1, if_pos (by omega)]
  · rw [if_neg h1, if_neg (by omega)]
theorem mix_chg (l : List UInt8) (k C j : Nat) : UInt8.ofNat (mixV l k (C : Int) 4 j).toNat = chg l k C j := by
  unfold mixV chg
  by_cases h1 : k ≤ j ∧ j < k + 4
  · rw [if_pos h1, if_pos h1]
    have e : ((C : Int) / 2 ^ (8 * (j - k)) % 256) = ((C / 256 ^ (j - k) % 256 : Nat) : Int) := by
      rw [show (2 : Int) ^ (8 * (j - k)) = ((256 ^ (j - k) : Nat) : Int) by rw [Int.pow_mul]; simp]
      simp
    unfold byt
    have ha := (l.getD j 0).toNat_lt
    rw [e, u8_xor_nat _ _ ha (Nat.mod_lt _ (by decide)), Int.toNat_natCast]
    unfold chB
    apply UInt8.toNat_inj.1
    rw [UInt8.toNat_xor, UInt8.toNat_ofNat', UInt8.toNat_ofNat', Nat.mod_eq_of_lt (Nat.mod_lt _ (by decide))]
    exact Nat.mod_eq_of_lt (Nat.xor_lt_two_pow ha (Nat.mod_lt _ (by decide)))
  · rw [if_neg h1, if_neg h1]
    unfold byt
    rw [Int.toNat_natCast]
    simp
/-- The checksum of the changed string is another one. -/
theorem sum_mix (l : List UInt8) (k : Nat) (c : Int) (hk : k + 4 ≤ l.length) (h0 : 0 < c) (h1 : c < 4294967296) :
    (sum (strOfNums ((List.range l.length).map (mixV l k c 4))).data.toList == sum l) = false := by
  obtain ⟨C, rfl⟩ := Int.eq_ofNat_of_zero_le (show 0 ≤ c by omega)
  rw [strOfNums_data, List.map_map, beq_eq_false_iff_ne]
  have e : ((fun n : Int => UInt8.ofNat n.toNat) ∘ mixV l k (C : Int) 4) = chg l k C := by
    funext j; exact mix_chg l k C j
  rw [e]
  exact sum_change l k C hk (by omega) (by omega)
end Go.Proofs.Ytnjpmmdjaenomaa.W
