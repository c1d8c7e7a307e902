/- Plain: carries. No Go in sight; no condition. -/
import Derived.Test.YtnjpmmdjaenomaaW7
namespace Go.Proofs.Ytnjpmmdjaenomaa.W
set_option linter.unusedVariables false
open Go.RowKit
theorem and2_pack (r : Int) (c v : Bool) : bits .and .u32 (pack r c v) 2 = if c then 2 else 0 := by
  unfold pack; by_cases a1 : 2147483648 ≤ r <;> by_cases a2 : r = 0 <;> cases c <;> cases v <;> first | omega | (simp only [a1, a2, if_true, if_false]; decide)
theorem and12_pack (r : Int) (c v : Bool) : bits .and .u32 (pack r c v) 12 = (if 2147483648 ≤ r then 8 else 0) + (if r = 0 then 4 else 0) := by
  unfold pack; by_cases a1 : 2147483648 ≤ r <;> by_cases a2 : r = 0 <;> cases c <;> cases v <;> first | omega | (simp only [a1, a2, if_true, if_false]; decide)
theorem and1_pack (r : Int) (c v : Bool) : bits .and .u32 (pack r c v / 2) 1 = b01 c := by
  unfold pack; by_cases a1 : 2147483648 ≤ r <;> by_cases a2 : r = 0 <;> cases c <;> cases v <;> first | omega | (simp only [a1, a2, if_true, if_false]; decide)
theorem and_op (o : BinOp) (ho : o = .xor ∨ o = .or ∨ o = .and) (x y : Int) (hx : 0 ≤ x ∧ x < 16) (hy : 0 ≤ y ∧ y < 16) : bits .and .u32 (bits o .u32 x y) 2 = bits o .u32 (bits .and .u32 x 2) (bits .and .u32 y 2) := by
  obtain ⟨X, rfl⟩ := Int.eq_ofNat_of_zero_le hx.1
  obtain ⟨Y, rfl⟩ := Int.eq_ofNat_of_zero_le hy.1
  have h1 : X < 16 := by omega
  have h2 : Y < 16 := by omega
  clear hx hy
  have key : ∀ X : Fin 16, ∀ Y : Fin 16, ∀ o ∈ [BinOp.xor, .or, .and], bits .and .u32 (bits o .u32 (X.val : Int) (Y.val : Int)) 2 = bits o .u32 (bits .and .u32 (X.val : Int) 2) (bits .and .u32 (Y.val : Int) 2) := by decide +kernel
  exact key ⟨X, h1⟩ ⟨Y, h2⟩ o (by rcases ho with rfl | rfl | rfl <;> simp)
/-- The carry of an addition with carry. -/
theorem chain_add (a b : Int) (ha : 0 ≤ a) (ha' : a < 4294967296) (hb : 0 ≤ b) (hb' : b < 4294967296) :
    bits .and .u32 (bits .xor .u32 (flags 2 a b) (bits .or .u32 (flags 1 a b) (flags 1 ((a + b) % 4294967296) 1))) 2 = 0 := by
  have f1 := flags_bd 1 a b; have f2 := flags_bd 2 a b; have f3 := flags_bd 1 ((a + b) % 4294967296) 1
  have ho : 0 ≤ bits .or .u32 (flags 1 a b) (flags 1 ((a + b) % 4294967296) 1) ∧ bits .or .u32 (flags 1 a b) (flags 1 ((a + b) % 4294967296) 1) < 16 := by
    obtain ⟨X, hX⟩ := Int.eq_ofNat_of_zero_le f1.1
    obtain ⟨Y, hY⟩ := Int.eq_ofNat_of_zero_le f3.1
    rw [hX] at f1 ⊢; rw [hY] at f3 ⊢
    have : X ||| Y < 2 ^ 4 := Nat.or_lt_two_pow (by omega) (by omega)
    rw [u32_or_nat _ _ (by omega) (by omega)]; omega
  rw [and_op _ (Or.inl rfl) _ _ f2 ho, and_op _ (Or.inr (Or.inl rfl)) _ _ f1 f3, flags_2, flags_1, flags_1, and2_pack, and2_pack, and2_pack]
  by_cases c1 : 4294967296 ≤ a + b + 1 <;> by_cases c2 : 4294967296 ≤ a + b <;> by_cases c3 : 4294967296 ≤ (a + b) % 4294967296 + 1 <;>
    first | (exfalso; omega) | (simp only [c1, c2, c3, decide_true, decide_false, if_true]; decide)
theorem chain_sub (a b : Int) (ha : 0 ≤ a) (ha' : a < 4294967296) (hb : 0 ≤ b) (hb' : b < 4294967296) :
    bits .and .u32 (bits .xor .u32 (flags 4 a b) (bits .and .u32 (flags 3 a b) (flags 3 ((a - b) % 4294967296) 1))) 2 = 0 := by
  have f1 := flags_bd 3 a b; have f2 := flags_bd 4 a b; have f3 := flags_bd 3 ((a - b) % 4294967296) 1
  have ho : 0 ≤ bits .and .u32 (flags 3 a b) (flags 3 ((a - b) % 4294967296) 1) ∧ bits .and .u32 (flags 3 a b) (flags 3 ((a - b) % 4294967296) 1) < 16 := by
    obtain ⟨X, hX⟩ := Int.eq_ofNat_of_zero_le f1.1
    obtain ⟨Y, hY⟩ := Int.eq_ofNat_of_zero_le f3.1
    rw [hX] at f1 ⊢; rw [hY] at f3 ⊢
    have : X &&& Y < 2 ^ 4 := Nat.and_lt_two_pow _ (by omega)
    rw [u32_and_nat _ _ (by omega) (by omega)]; omega
  rw [and_op _ (Or.inl rfl) _ _ f2 ho, and_op _ (Or.inr (Or.inr rfl)) _ _ f1 f3, flags_4, flags_3, flags_3, and2_pack, and2_pack, and2_pack]
  by_cases c1 : b + 1 ≤ a <;> by_cases c2 : b ≤ a <;> by_cases c3 : 1 ≤ (a - b) % 4294967296 <;>
    first | (exfalso; omega) | (simp only [c1, c2, c3, decide_true, decide_false, if_true]; decide)
theorem same_add (a b x : Int) : bits .and .u32 (flags 5 ((a + b + 1) % 4294967296) x) 12 = bits .and .u32 (flags 2 a b) 12 := by
  rw [flags_5, flags_2, and12_pack, and12_pack]
theorem same_sub (a b x : Int) : bits .and .u32 (flags 5 ((a - b - 1) % 4294967296) x) 12 = bits .and .u32 (flags 4 a b) 12 := by
  rw [flags_5, flags_4, and12_pack, and12_pack]
theorem carry_add (x y : Int) : bits .and .u32 (flags 1 x y / 2) 1 = b01 (decide (4294967296 ≤ x + y)) := by rw [flags_1, and1_pack]
theorem carry_sub (x y : Int) : bits .and .u32 (flags 3 x y / 2) 1 = b01 (decide (y ≤ x)) := by rw [flags_3, and1_pack]
theorem whole_add (a b : Int) (ha : 0 ≤ a) (ha' : a < 18446744073709551616) (hb : 0 ≤ b) (hb' : b < 18446744073709551616) :
    (a / 4294967296 + b / 4294967296 + b01 (decide (4294967296 ≤ a % 4294967296 + b % 4294967296))) % 4294967296 * 4294967296 + (a + b) % 4294967296 = IntKind.u64.wrap (a + b) := by
  rw [IntKind.wrap_u64]
  by_cases h : 4294967296 ≤ a % 4294967296 + b % 4294967296
  · rw [decide_eq_true h, show b01 true = 1 from rfl]; omega
  · rw [decide_eq_false h, show b01 false = 0 from rfl]; omega
theorem whole_sub (a b : Int) (ha : 0 ≤ a) (ha' : a < 18446744073709551616) (hb : 0 ≤ b) (hb' : b < 18446744073709551616) :
    (a / 4294967296 - b / 4294967296 - (1 - b01 (decide (b % 4294967296 ≤ a % 4294967296)))) % 4294967296 * 4294967296 + (a - b) % 4294967296 = IntKind.u64.wrap (a - b) := by
  rw [IntKind.wrap_u64]
  by_cases h : b % 4294967296 ≤ a % 4294967296
  · rw [decide_eq_true h, show b01 true = 1 from rfl]; omega
  · rw [decide_eq_false h, show b01 false = 0 from rfl]; omega
end Go.Proofs.Ytnjpmmdjaenomaa.W
