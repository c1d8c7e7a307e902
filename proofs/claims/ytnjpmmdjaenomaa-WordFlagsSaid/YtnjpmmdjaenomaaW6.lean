/- Plain: the names of the conditions. No Go in sight; no condition. -/
import Derived.Test.YtnjpmmdjaenomaaW4
namespace Go.Proofs.Ytnjpmmdjaenomaa.W
set_option linter.unusedVariables false
/-- The name of condition j. -/
def nm (j : Nat) : ByteArray := ([⟨#[101, 113]⟩, ⟨#[110, 101]⟩, ⟨#[99, 115]⟩, ⟨#[99, 99]⟩, ⟨#[109, 105]⟩, ⟨#[112, 108]⟩, ⟨#[118, 115]⟩, ⟨#[118, 99]⟩, ⟨#[104, 105]⟩, ⟨#[108, 115]⟩, ⟨#[103, 101]⟩, ⟨#[108, 116]⟩, ⟨#[103, 116]⟩, ⟨#[108, 101]⟩] : List ByteArray).getD j ⟨#[]⟩
/-- The first condition from j on with a name, or -1. -/
def idxF (name : ByteArray) : Nat → Nat → Int
  | 0, _ => -1
  | f + 1, j => if (name.toList == (nm j).toList) = true then (j : Int) else idxF name f (j + 1)
def idx (name : ByteArray) : Int := idxF name 14 0
theorem idxF_bd (name : ByteArray) : ∀ f j, -1 ≤ idxF name f j ∧ idxF name f j < f + j
  | 0, j => by unfold idxF; omega
  | f + 1, j => by
    unfold idxF
    have := idxF_bd name f (j + 1)
    split <;> omega
theorem idx_bd (name : ByteArray) : -1 ≤ idx name ∧ idx name < 14 := by have := idxF_bd name 14 0; unfold idx; omega
theorem idxF_hit (name : ByteArray) (f j : Nat) (h : (name.toList == (nm j).toList) = true) : idxF name (f + 1) j = j := by
  unfold idxF; rw [if_pos h]
theorem idxF_miss (name : ByteArray) (f j : Nat) (h : (name.toList == (nm j).toList) = false) : idxF name (f + 1) j = idxF name f (j + 1) := by
  rw [idxF, h]; rfl
/-- The name of a condition, empty if there is none. -/
def name (cc : Int) : ByteArray := if cc < 0 then ⟨#[]⟩ else nm cc.toNat
theorem name_n (cc : Int) (h : cc < 0 ∨ 13 < cc) : name cc = ⟨#[]⟩ := by
  unfold name
  split
  · rfl
  · unfold nm; rw [getD_ge _ _ _ (by simp; omega)]
theorem idx_name (k : Int) (h0 : 0 ≤ k) (h1 : k < 14) : idx (name k) = k := by
  rcases (by omega : k = 0 ∨ k = 1 ∨ k = 2 ∨ k = 3 ∨ k = 4 ∨ k = 5 ∨ k = 6 ∨ k = 7 ∨ k = 8 ∨ k = 9 ∨ k = 10 ∨ k = 11 ∨ k = 12 ∨ k = 13) with rfl | rfl | rfl | rfl | rfl | rfl | rfl | rfl | rfl | rfl | rfl | rfl | rfl | rfl <;> decide +kernel
end Go.Proofs.Ytnjpmmdjaenomaa.W
