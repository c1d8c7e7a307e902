/- Plain: the conditions after a comparison. No Go in sight; no condition. -/
import Derived.Test.YtnjpmmdjaenomaaW9
namespace Go.Proofs.Ytnjpmmdjaenomaa.W
set_option linter.unusedVariables false
open Go.RowKit
theorem fl_pack (r : Int) (c v : Bool) : fN (pack r c v) = decide (2147483648 ≤ r) ∧ fZ (pack r c v) = decide (r = 0) ∧ fC (pack r c v) = c ∧ fV (pack r c v) = v := by
  unfold fN fZ fC fV pack
  by_cases a1 : 2147483648 ≤ r <;> by_cases a2 : r = 0 <;> cases c <;> cases v <;> first | omega | (simp only [a1, a2, if_true, if_false]; decide)
theorem cond_pack (cc r : Int) (c v : Bool) : cond cc (pack r c v) = condB cc (decide (2147483648 ≤ r)) (decide (r = 0)) c v := by
  obtain ⟨h1, h2, h3, h4⟩ := fl_pack r c v
  unfold cond; rw [h1, h2, h3, h4]
/-- What the law asks of one pair. -/
theorem compares (a b : Int) (ha : 0 ≤ a) (ha' : a < 4294967296) (hb : 0 ≤ b) (hb' : b < 4294967296) :
    cond 0 (flags 3 a b) = (a == b) ∧ cond 2 (flags 3 a b) = decide (b ≤ a) ∧ cond 8 (flags 3 a b) = decide (b < a) ∧ cond 11 (flags 3 a b) = (op 15 a b == 1) ∧
      cond 12 (flags 3 a b) = (!(op 15 a b == 1) && a != b) := by
  rw [flags_3, op_15]
  simp only [cond_pack]
  have e0 : ((a - b) % 4294967296 = 0) ↔ a = b := by omega
  have e1 : decide ((a - b) % 4294967296 = 0) = (a == b) := by rw [Bool.eq_iff_iff]; simp [e0]
  have e2 : (b01 (decide (sg a < sg b)) == 1) = decide (sg a < sg b) := by cases decide (sg a < sg b) <;> rfl
  have e3 : (decide (2147483648 ≤ (a - b) % 4294967296) != out (sg a - sg b)) = decide (sg a < sg b) := by
    have hout : out (sg a - sg b) = decide (sg a - sg b < -2147483648 ∨ 2147483648 ≤ sg a - sg b) := by unfold out; rw [Bool.eq_iff_iff]; simp
    rw [hout]
    unfold sg
    by_cases c1 : 2147483648 ≤ a <;> by_cases c2 : 2147483648 ≤ b <;> simp only [c1, c2, if_true, if_false] <;> rw [Bool.eq_iff_iff, bne_iff_ne, ne_eq, decide_eq_true_iff, decide_eq_decide] <;> omega
  have e4 : (decide (2147483648 ≤ (a - b) % 4294967296) == out (sg a - sg b)) = !decide (sg a < sg b) := by
    rw [← e3]; cases decide (2147483648 ≤ (a - b) % 4294967296) <;> cases out (sg a - sg b) <;> rfl
  refine ⟨?_, ?_, ?_, ?_, ?_⟩
  · show decide ((a - b) % 4294967296 = 0) = _
    rw [e1]
  · rfl
  · show (decide (b ≤ a) && !decide ((a - b) % 4294967296 = 0)) = _
    rw [e1, Bool.eq_iff_iff]; simp; omega
  · show (decide (2147483648 ≤ (a - b) % 4294967296) != out (sg a - sg b)) = _
    rw [e3, e2]
  · show (!decide ((a - b) % 4294967296 = 0) && (decide (2147483648 ≤ (a - b) % 4294967296) == out (sg a - sg b))) = _
    rw [e1, e4, e2, Bool.and_comm]; rfl
end Go.Proofs.Ytnjpmmdjaenomaa.W
