/- Plain arithmetic of words: the checksum, bit by bit; changing 32 consecutive bits changes it. No Go in sight; no condition. -/
import Derived.Test.YtnjpmmdjaenomaaW3
namespace Go.Proofs.Ytnjpmmdjaenomaa.W
set_option linter.unusedVariables false
open Go.RowKit

abbrev B32 := BitVec 32
/-- One bit of the checksum. -/
def crc1 (r : B32) : B32 := (r >>> 1) ^^^ (if r.getLsbD 0 then 3988292384#32 else 0#32)
def crcN : Nat → B32 → B32
  | 0, r => r
  | n + 1, r => crc1 (crcN n r)
/-- One byte of the checksum. -/
def crcB (r : B32) (b : UInt8) : B32 := crcN 8 (r ^^^ BitVec.ofNat 32 b.toNat)
def crcL (l : List UInt8) (r : B32) : B32 := l.foldl crcB r
theorem bv_xor (a b : B32) : bits .xor .u32 (a.toNat : Int) (b.toNat : Int) = ((a ^^^ b).toNat : Int) := by
  rw [u32_xor_nat _ _ a.isLt b.isLt, BitVec.toNat_xor]
theorem bv_not (a : B32) : bits BinOp.xor IntKind.u32 IntKind.u32.max (a.toNat : Int) = ((~~~ a).toNat : Int) := by
  rw [not32 _ (by omega) (by have := a.isLt; omega), BitVec.toNat_not]; have := a.isLt; omega
theorem lsb_mod (r : B32) : r.getLsbD 0 = decide (r.toNat % 2 = 1) := by simp [BitVec.getLsbD, Nat.testBit_zero]
theorem shr1 (r : B32) : (r >>> 1).toNat = r.toNat / 2 := by simp [BitVec.toNat_ushiftRight, Nat.shiftRight_eq_div_pow]
theorem half (r : B32) : (r.toNat : Int) / (2 : Int) = ((r >>> 1).toNat : Int) := by rw [shr1]; omega
theorem and_1 (r : B32) : bits BinOp.and IntKind.u32 (r.toNat : Int) 1 = ((r.toNat % 2 : Nat) : Int) := by
  have := and_mask 1 (by decide) (r.toNat : Int) (by omega) (by have := r.isLt; omega)
  rw [show ((2 ^ 1 - 1 : Nat) : Int) = 1 from rfl] at this
  rw [this]; rfl
/-- The Go text of one bit: r>>1 ^ poly&-(r&1). -/
theorem crc1_go (r : B32) : bits .xor .u32 ((r.toNat : Int) / 2) (bits .and .u32 3988292384 (-(bits .and .u32 (r.toNat : Int) 1) % 4294967296)) = ((crc1 r).toNat : Int) := by
  rw [and_1]
  unfold crc1
  rw [lsb_mod, half]
  by_cases h : r.toNat % 2 = 1
  · rw [h, show (-((1 : Nat) : Int) % 4294967296) = ((4294967295 : Nat) : Int) from rfl, show (3988292384 : Int) = ((3988292384 : Nat) : Int) from rfl, u32_and_nat _ _ (by decide) (by decide)]
    rw [show 3988292384 &&& 4294967295 = (3988292384#32).toNat from by decide, bv_xor]
    simp
  · have h0 : r.toNat % 2 = 0 := by omega
    rw [h0, show (-((0 : Nat) : Int) % 4294967296) = ((0 : Nat) : Int) from rfl, show (3988292384 : Int) = ((3988292384 : Nat) : Int) from rfl, u32_and_nat _ _ (by decide) (by decide)]
    rw [show 3988292384 &&& 0 = (0#32).toNat from by decide, bv_xor]
    simp
theorem crc1_even (r : B32) (h : (bits .and .u32 (r.toNat : Int) 1 == 1) = false) : (r.toNat : Int) / 2 = ((crc1 r).toNat : Int) := by
  rw [and_1] at h
  have h0 : ¬ r.toNat % 2 = 1 := by intro e; rw [e] at h; exact absurd h (by decide)
  unfold crc1; rw [lsb_mod]; simp only [h0, decide_false]
  rw [if_neg (by decide), BitVec.xor_zero, half]
theorem crc1_odd (r : B32) (h : (bits .and .u32 (r.toNat : Int) 1 == 1) = true) : bits .xor .u32 ((r.toNat : Int) / 2) 3988292384 = ((crc1 r).toNat : Int) := by
  rw [and_1] at h
  have h0 : r.toNat % 2 = 1 := by have := beq_iff_eq.1 h; omega
  unfold crc1; rw [lsb_mod]; simp only [h0, decide_true, if_true]
  rw [← bv_xor, half]; rfl
theorem crcB_go (r : B32) (b : UInt8) : bits .xor .u32 (r.toNat : Int) (b.toNat : Int) = ((r ^^^ BitVec.ofNat 32 b.toNat).toNat : Int) := by
  rw [← bv_xor, BitVec.toNat_ofNat, Nat.mod_eq_of_lt (by have := b.toNat_lt; omega)]
/-- The number of a word, closed to simp. -/
def tn (r : B32) : Int := (r.toNat : Int)
theorem tn_bd (r : B32) : 0 ≤ tn r ∧ tn r < 4294967296 := by unfold tn; have := r.isLt; omega
theorem tn_inj {a b : B32} (h : tn a = tn b) : a = b := BitVec.eq_of_toNat_eq (by unfold tn at h; omega)
theorem tn_crc1 (r : B32) : bits .xor .u32 (tn r / 2) (bits .and .u32 3988292384 (-(bits .and .u32 (tn r) 1) % 4294967296)) = tn (crc1 r) := crc1_go r
theorem tn_even (r : B32) (h : (bits .and .u32 (tn r) 1 == 1) = false) : tn r / 2 = tn (crc1 r) := crc1_even r h
theorem tn_odd (r : B32) (h : (bits .and .u32 (tn r) 1 == 1) = true) : bits .xor .u32 (tn r / 2) 3988292384 = tn (crc1 r) := crc1_odd r h
theorem tn_byte (r : B32) (b : UInt8) : bits .xor .u32 (tn r) (b.toNat : Int) = tn (r ^^^ BitVec.ofNat 32 b.toNat) := crcB_go r b
theorem tn_not (a : B32) : bits BinOp.xor IntKind.u32 IntKind.u32.max (tn a) = tn (~~~ a) := bv_not a
/-- The checksum. -/
def sum (l : List UInt8) : Int := tn (~~~ crcL l 4294967295#32)
theorem crcL_snoc (l : List UInt8) (k : Nat) (h : k < l.length) (r : B32) : crcL (l.take (k + 1)) r = crcB (crcL (l.take k) r) (l.getD k 0) := by
  unfold crcL
  rw [List.take_succ_eq_append_getElem h, List.foldl_append, getD_lt _ _ _ h]; rfl
end Go.Proofs.Ytnjpmmdjaenomaa.W
