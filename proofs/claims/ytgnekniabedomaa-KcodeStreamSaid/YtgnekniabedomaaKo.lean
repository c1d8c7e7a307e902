/- Plain laws of kcode: its formats are those of the reference. No program in sight. -/
import Derived.Test.YtgnekniabedomaaKn
namespace Go.Proofs.Ytgnekniabedomaa
set_option linter.unusedVariables false
set_option linter.unusedSimpArgs false
open Go.RowKit
def K.fmtB (n : Nat) : Bool :=
  (K.fmt n == none && R2.Format n == 0) || (K.fmt n == some 0 && R2.Format n == 1 && decide (n ≤ 4)) || (K.fmt n == some 1 && R2.Format n == 2 && decide (16 ≤ n ∧ n ≤ 21)) || (K.fmt n == some 2 && R2.Format n == 3 && decide (32 ≤ n ∧ n ≤ 46)) ||
  (K.fmt n == some 3 && R2.Format n == 4 && decide (48 ≤ n ∧ n ≤ 62)) || (K.fmt n == some 4 && R2.Format n == 5 && decide (64 ≤ n ∧ n ≤ 78)) || (K.fmt n == some 5 && R2.Format n == 6 && decide (80 ≤ n ∧ n ≤ 86)) ||
  (K.fmt n == some 6 && R2.Format n == 7 && decide (88 ≤ n ∧ n ≤ 94)) || (K.fmt n == some 7 && R2.Format n == 8 && decide (96 ≤ n ∧ n ≤ 109)) || (K.fmt n == some 8 && R2.Format n == 9 && decide (112 ≤ n ∧ n ≤ 113)) ||
  (K.fmt n == some 9 && R2.Format n == 10 && decide (n = 128)) || (K.fmt n == some 10 && R2.Format n == 11 && decide (n = 129)) || (K.fmt n == some 10 && R2.Format n == 12 && decide (n = 130))
theorem K.fmtB_all : ∀ n : Fin 131, K.fmtB n.val = true := by decide +kernel
theorem K.fmtF_none (op : Int) (h : op < 0 ∨ 130 < op) : ∀ m k, k + m ≤ 11 → K.fmtF op m k = none
  | 0, _, _ => rfl
  | m + 1, k, hk => by
    have hb : 0 ≤ K.lo k ∧ K.hi k ≤ 130 := by
      rcases (by omega : k = 0 ∨ k = 1 ∨ k = 2 ∨ k = 3 ∨ k = 4 ∨ k = 5 ∨ k = 6 ∨ k = 7 ∨ k = 8 ∨ k = 9 ∨ k = 10) with rfl | rfl | rfl | rfl | rfl | rfl | rfl | rfl | rfl | rfl | rfl <;> decide
    unfold K.fmtF
    rw [if_neg (by omega)]
    exact K.fmtF_none op h m (k + 1) (by omega)
theorem R2.Format_none (op : Int) (h : op < 0 ∨ 130 < op) : R2.Format op = 0 := by
  have hd : ∀ a b : Int, 0 ≤ a → b ≤ 130 → (decide (op ≥ a) && decide (op ≤ b)) = false := fun a b ha hb => by simp; omega
  have he : ((op == 112) || (op == 113)) = false := by simp; omega
  unfold R2.Format
  rw [hd 0 4 (by decide) (by decide), hd 16 21 (by decide) (by decide), hd 32 46 (by decide) (by decide), hd 48 62 (by decide) (by decide), hd 64 78 (by decide) (by decide), hd 80 86 (by decide) (by decide), hd 88 94 (by decide) (by decide), hd 96 109 (by decide) (by decide), hd 128 130 (by decide) (by decide), he]
  rfl
/-- The format of a number, in the program's count and in the reference's. -/
theorem K.fmt_cases (op : Int) : (K.fmt op = none ∧ R2.Format op = 0) ∨ (K.fmt op = some 0 ∧ R2.Format op = 1 ∧ 0 ≤ op ∧ op ≤ 4) ∨ (K.fmt op = some 1 ∧ R2.Format op = 2 ∧ 16 ≤ op ∧ op ≤ 21) ∨ (K.fmt op = some 2 ∧ R2.Format op = 3 ∧ 32 ≤ op ∧ op ≤ 46) ∨
    (K.fmt op = some 3 ∧ R2.Format op = 4 ∧ 48 ≤ op ∧ op ≤ 62) ∨ (K.fmt op = some 4 ∧ R2.Format op = 5 ∧ 64 ≤ op ∧ op ≤ 78) ∨ (K.fmt op = some 5 ∧ R2.Format op = 6 ∧ 80 ≤ op ∧ op ≤ 86) ∨ (K.fmt op = some 6 ∧ R2.Format op = 7 ∧ 88 ≤ op ∧ op ≤ 94) ∨
    (K.fmt op = some 7 ∧ R2.Format op = 8 ∧ 96 ≤ op ∧ op ≤ 109) ∨ (K.fmt op = some 8 ∧ R2.Format op = 9 ∧ 112 ≤ op ∧ op ≤ 113) ∨ (K.fmt op = some 9 ∧ R2.Format op = 10 ∧ op = 128) ∨ (K.fmt op = some 10 ∧ R2.Format op = 11 ∧ op = 129) ∨ (K.fmt op = some 10 ∧ R2.Format op = 12 ∧ op = 130) := by
  by_cases h : op < 0 ∨ 130 < op
  · exact .inl ⟨K.fmtF_none op h 11 0 (by omega), R2.Format_none op h⟩
  · obtain ⟨n, rfl⟩ := Int.eq_ofNat_of_zero_le (by omega : 0 ≤ op)
    have := K.fmtB_all ⟨n, by omega⟩
    unfold K.fmtB at this
    simp only [Bool.or_eq_true, Bool.and_eq_true, beq_iff_eq, decide_eq_true_eq] at this
    rcases this with ((((((((((((h | h) | h) | h) | h) | h) | h) | h) | h) | h) | h) | h) | h)
    · exact .inl h
    all_goals
      obtain ⟨⟨a, b⟩, c⟩ := h
      simp only [a, b]
      simp
      omega
end Go.Proofs.Ytgnekniabedomaa
