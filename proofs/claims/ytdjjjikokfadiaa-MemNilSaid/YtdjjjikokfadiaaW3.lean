/- Plain arithmetic of words: bytes of a word, the word of some bytes. No Go in sight; no condition. -/
import Derived.Test.YtdjjjikokfadiaaW2
import Derived.Laws.BytesArg
namespace Go.Proofs.Ytdjjjikokfadiaa.W
set_option linter.unusedVariables false
set_option linter.unusedSimpArgs false
open Go.RowKit

theorem getD_lt {α : Type} (l : List α) (d : α) (j : Nat) (h : j < l.length) : l.getD j d = l[j] := by simp [List.getD, h]
theorem getD_ge {α : Type} (l : List α) (d : α) (j : Nat) (h : l.length ≤ j) : l.getD j d = d := by simp [List.getD, h]
/-- Byte j of a list, 0 behind its end. -/
def byt (l : List UInt8) (j : Nat) : Int := ((l.getD j 0).toNat : Int)
theorem byt_bd (l : List UInt8) (j : Nat) : 0 ≤ byt l j ∧ byt l j < 256 := by
  unfold byt; have := (l.getD j 0).toNat_lt; omega
theorem byt_at (s : ByteArray) (j : Nat) (h : j < s.size) : ((s[j]'h).toNat : Int) = byt s.data.toList j := by
  unfold byt
  have : s.data.toList.getD j 0 = s[j] := by
    rw [getD_lt _ _ _ (by simpa using h)]; rfl
  rw [this]
theorem byt_off (l : List UInt8) (j : Nat) (h : l.length ≤ j) : byt l j = 0 := by
  unfold byt; rw [getD_ge _ _ _ h]; rfl
def getK (l : List UInt8) : Nat → Int
  | 0 => 0
  | k + 1 => getK l k + byt l k * 256 ^ k
/-- The word of up to four bytes. -/
def get (l : List UInt8) : Int := byt l 0 + 256 * byt l 1 + 65536 * byt l 2 + 16777216 * byt l 3
theorem getK_eq (l : List UInt8) (k : Nat) (hk : k ≤ 4) (h : k = 4 ∨ l.length ≤ k) : getK l k = get l := by
  have z : ∀ j, l.length ≤ j → byt l j = 0 := byt_off l
  unfold get
  rcases (by omega : k = 0 ∨ k = 1 ∨ k = 2 ∨ k = 3 ∨ k = 4) with rfl | rfl | rfl | rfl | rfl <;> simp only [getK] <;>
    first
    | omega
    | (have z0 := z 0 (by omega); have z1 := z 1 (by omega); have z2 := z 2 (by omega); have z3 := z 3 (by omega); omega)
    | (have z1 := z 1 (by omega); have z2 := z 2 (by omega); have z3 := z 3 (by omega); omega)
    | (have z2 := z 2 (by omega); have z3 := z 3 (by omega); omega)
    | (have z3 := z 3 (by omega); omega)
theorem getK_bd (l : List UInt8) (k : Nat) (hk : k ≤ 4) : 0 ≤ getK l k ∧ getK l k < 256 ^ k := by
  have b0 := byt_bd l 0; have b1 := byt_bd l 1; have b2 := byt_bd l 2; have b3 := byt_bd l 3
  rcases (by omega : k = 0 ∨ k = 1 ∨ k = 2 ∨ k = 3 ∨ k = 4) with rfl | rfl | rfl | rfl | rfl <;> simp only [getK] <;> omega
theorem get_bd (l : List UInt8) : 0 ≤ get l ∧ get l < 4294967296 := by
  have := getK_bd l 4 (by decide); rw [getK_eq l 4 (by decide) (Or.inl rfl)] at this; simpa using this
theorem or_add (x y : Int) (m : Nat) (hm : m ≤ 24) (h0 : 0 ≤ x) (h1 : x < 2 ^ m) (h2 : 0 ≤ y) (h3 : y < 256) : bits .or .u32 x (y * 2 ^ m % 4294967296) = x + y * 2 ^ m := by
  obtain ⟨X, rfl⟩ := Int.eq_ofNat_of_zero_le h0
  obtain ⟨Y, rfl⟩ := Int.eq_ofNat_of_zero_le h2
  have hp : (2 : Nat) ^ m ≤ 2 ^ 24 := Nat.pow_le_pow_right (by decide) hm
  have hX : X < 2 ^ m := by have : ((X : Nat) : Int) < ((2 ^ m : Nat) : Int) := by simpa using h1
                            omega
  have hY : Y ≤ 255 := by omega
  have hYm : Y * 2 ^ m ≤ 255 * 2 ^ 24 := Nat.mul_le_mul hY hp
  have e : ((Y : Int) * 2 ^ m) = ((Y * 2 ^ m : Nat) : Int) := by simp
  rw [e, Int.emod_eq_of_lt (by omega) (by omega), u32_or_nat _ _ (by omega) (by omega)]
  have e2 : X ||| Y * 2 ^ m = X + Y * 2 ^ m := by
    rw [Nat.or_comm, Nat.mul_comm, ← Nat.two_pow_add_eq_or_of_lt hX, Nat.add_comm]
  rw [e2]; omega
theorem getK_or (l : List UInt8) (k : Nat) (hk : k < 4) : bits .or .u32 (getK l k) (byt l k * 2 ^ (8 * k) % 4294967296) = getK l (k + 1) := by
  have hb := getK_bd l k (by omega)
  have hy := byt_bd l k
  have e : (2 : Int) ^ (8 * k) = 256 ^ k := by rw [Int.pow_mul]; rfl
  rw [or_add _ _ (8 * k) (by omega) hb.1 (by rw [e]; exact hb.2) hy.1 hy.2, e]; rfl
theorem getK_add (l : List UInt8) (k : Nat) (hk : k < 4) : (getK l k + byt l k * 2 ^ (8 * k) % 4294967296) % 4294967296 = getK l (k + 1) := by
  have hb := getK_bd l k (by omega)
  have hy := byt_bd l k
  have hc := getK_bd l (k + 1) (by omega)
  rcases (by omega : k = 0 ∨ k = 1 ∨ k = 2 ∨ k = 3) with rfl | rfl | rfl | rfl <;> simp only [getK] at * <;> omega

/-- The four bytes of a word. -/
def bytes4 (n : Int) : List Int := [n % 256, n / 256 % 256, n / 65536 % 256, n / 16777216 % 256]
/-- The lowest k bytes of a word. -/
def put (n k : Int) : ByteArray := strOfNums ((bytes4 n).take (max 0 (min k 4)).toNat)
theorem byt_nums (xs : List Int) (j : Nat) (h : ∀ x ∈ xs, 0 ≤ x ∧ x < 256) : byt (strOfNums xs).data.toList j = xs.getD j 0 := by
  unfold byt
  rw [strOfNums_data]
  by_cases hj : j < xs.length
  · rw [getD_lt _ _ _ (by simpa using hj), getD_lt _ _ _ hj, List.getElem_map]
    have := h _ (List.getElem_mem hj)
    simp [UInt8.toNat_ofNat']
    omega
  · rw [getD_ge _ _ _ (by simp; omega), getD_ge _ _ _ (by omega)]; rfl
theorem bytes4_bd (n : Int) (x : Int) (h : x ∈ bytes4 n) : 0 ≤ x ∧ x < 256 := by
  simp only [bytes4, List.mem_cons, List.not_mem_nil, or_false] at h
  rcases h with rfl | rfl | rfl | rfl <;> omega
theorem put_size (n k : Int) (h0 : 0 ≤ k) (h1 : k ≤ 4) : ((put n k).size : Int) = k := by
  unfold put; rw [strOfNums_size, List.length_take]
  have : (bytes4 n).length = 4 := rfl
  omega
theorem get_put (n k : Int) (h0 : 0 ≤ k) (h1 : k ≤ 4) (hn : 0 ≤ n) (hn' : n < 4294967296) : get (put n k).data.toList = n % 256 ^ k.toNat := by
  unfold get put
  have hb : ∀ m, ∀ x ∈ (bytes4 n).take m, 0 ≤ x ∧ x < 256 := fun m x hx => bytes4_bd n x (List.mem_of_mem_take hx)
  rw [byt_nums _ _ (hb _), byt_nums _ _ (hb _), byt_nums _ _ (hb _), byt_nums _ _ (hb _)]
  obtain ⟨K, rfl⟩ := Int.eq_ofNat_of_zero_le h0
  rw [show (max 0 (min (K : Int) 4)).toNat = K by omega, Int.toNat_natCast]
  rcases (by omega : K = 0 ∨ K = 1 ∨ K = 2 ∨ K = 3 ∨ K = 4) with rfl | rfl | rfl | rfl | rfl <;> simp [bytes4, List.getD] <;> omega
end Go.Proofs.Ytdjjjikokfadiaa.W
