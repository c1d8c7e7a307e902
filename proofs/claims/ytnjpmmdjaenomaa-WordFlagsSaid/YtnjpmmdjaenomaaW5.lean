/- Plain arithmetic of words: the operations. No Go in sight; no condition. -/
import Derived.Test.YtnjpmmdjaenomaaW2
namespace Go.Proofs.Ytnjpmmdjaenomaa.W
set_option linter.unusedVariables false
open Go.RowKit
def b01 (b : Bool) : Int := if b = true then 1 else 0
theorem b01_bd (b : Bool) : 0 ≤ b01 b ∧ b01 b ≤ 1 := by cases b <;> simp [b01]
/-- What an operation yields. -/
def op (c a b : Int) : Int :=
  if c = 3 then (a + b) % 4294967296 else if c = 4 then (a - b) % 4294967296 else if c = 5 then bits .and .u32 a b else if c = 6 then bits .or .u32 a b
  else if c = 7 then bits .xor .u32 a b else if c = 8 then a * 2 ^ (b % 32).toNat % 4294967296 else if c = 9 then a / 2 ^ (b % 32).toNat
  else if c = 10 then sg a / 2 ^ (b % 32).toNat % 4294967296 else if c = 11 then a * b % 4294967296 else if c = 12 then a / b
  else if c = 13 then b01 (a == b) else if c = 14 then b01 (decide (a < b)) else if c = 15 then b01 (decide (sg a < sg b)) else 0
theorem op_n (c a b : Int) (h : c < 3 ∨ 15 < c) : op c a b = 0 := by
  unfold op
  iterate 13 rw [if_neg (by omega)]
theorem sg_wrap (a : Int) (h0 : 0 ≤ a) (h1 : a < 4294967296) : wrap32 a = sg a := by unfold sg wrap32; split <;> omega
theorem op_3 (a b : Int) : op 3 a b = (a + b) % 4294967296 := by simp [op]
theorem op_4 (a b : Int) : op 4 a b = (a - b) % 4294967296 := by simp [op]
theorem op_5 (a b : Int) : op 5 a b = bits .and .u32 a b := by simp [op]
theorem op_6 (a b : Int) : op 6 a b = bits .or .u32 a b := by simp [op]
theorem op_7 (a b : Int) : op 7 a b = bits .xor .u32 a b := by simp [op]
theorem op_8 (a b : Int) : op 8 a b = a * 2 ^ (b % 32).toNat % 4294967296 := by simp [op]
theorem op_9 (a b : Int) : op 9 a b = a / 2 ^ (b % 32).toNat := by simp [op]
theorem op_10 (a b : Int) : op 10 a b = sg a / 2 ^ (b % 32).toNat % 4294967296 := by simp [op]
theorem op_11 (a b : Int) : op 11 a b = a * b % 4294967296 := by simp [op]
theorem op_12 (a b : Int) : op 12 a b = a / b := by simp [op]
theorem op_13 (a b : Int) : op 13 a b = b01 (a == b) := by simp [op]
theorem op_14 (a b : Int) : op 14 a b = b01 (decide (a < b)) := by simp [op]
theorem op_15 (a b : Int) : op 15 a b = b01 (decide (sg a < sg b)) := by simp [op]
theorem bits_bd (o : BinOp) (x y : Int) : 0 ≤ bits o .u32 x y ∧ bits o .u32 x y < 4294967296 := by
  unfold bits
  rw [IntKind.wrap_u32']
  exact ⟨Int.emod_nonneg _ (by decide), Int.emod_lt_of_pos _ (by decide)⟩
def InW (x : Int) : Prop := 0 ≤ x ∧ x < 4294967296
theorem InW.ite {c : Prop} [Decidable c] {a b : Int} (h : InW a) (k : InW b) : InW (if c then a else b) := by split <;> assumption
theorem op_bd (c a b : Int) (ha : 0 ≤ a) (ha' : a < 4294967296) (hb : 0 ≤ b) : 0 ≤ op c a b ∧ op c a b < 4294967296 := by
  show InW (op c a b)
  unfold op
  repeat' (refine InW.ite ?_ ?_)
  all_goals first
    | exact bits_bd _ _ _
    | exact ⟨Int.emod_nonneg _ (by decide), Int.emod_lt_of_pos _ (by decide)⟩
    | exact ⟨by decide, by decide⟩
    | exact ⟨(b01_bd _).1, by have := (b01_bd (a == b)).2; have := (b01_bd (decide (a < b))).2; have := (b01_bd (decide (sg a < sg b))).2; omega⟩
    | exact ⟨Int.ediv_nonneg ha hb, Int.lt_of_le_of_lt (Int.ediv_le_self _ ha) ha'⟩
    | exact ⟨Int.ediv_nonneg ha (Int.le_of_lt (Int.pow_pos (by decide))), Int.lt_of_le_of_lt (Int.ediv_le_self _ ha) ha'⟩
end Go.Proofs.Ytnjpmmdjaenomaa.W
