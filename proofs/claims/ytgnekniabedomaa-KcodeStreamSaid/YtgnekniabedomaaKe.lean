/- Walks: the closure of kcode.puts over each of the four lists of writers that the formats use, for fields in their ranges. -/
import Derived.Test.YtgnekniabedomaaKd
namespace Go.Proofs.Ytgnekniabedomaa
set_option linter.unusedVariables false
set_option linter.unusedSimpArgs false
open Go.RowKit
theorem K.app (a b : List Int) : strOfNums a ++ strOfNums b = strOfNums (a ++ b) := by
  apply ByteArray.ext; simp [strOfNums]
theorem K.nil : (⟨#[]⟩ : ByteArray) = strOfNums [] := rfl
def K.p_Reg (i : K.Ins) : List Int := [i.d]
theorem putReg_t : PutOK 43 K.p_Reg := putReg_ok
def K.p_Byte (i : K.Ins) : List Int := [i.imm % 256]
theorem putByte_t : PutOK 49 K.p_Byte := putByte_ok
def K.p_Pair (i : K.Ins) : List Int := [i.d * 16 + i.s]
theorem putPair_t : PutOK 45 K.p_Pair := putPair_ok
def K.p_Full (i : K.Ins) : List Int := [i.imm % 256, i.imm / 256 % 256, i.imm / 65536 % 256, i.imm / 16777216 % 256]
theorem putFull_t : PutOK 51 K.p_Full := putFull_ok
def K.p_Index (i : K.Ins) : List Int := [if i.ix < 0 then 8 else i.sc * 16 + i.ix]
theorem putIndex_t : PutOK 53 K.p_Index := putIndex_ok
theorem puts_Reg_Byte (c h cap : Nat) (i : K.Ins) (w : World) : K.In i → w.cell? ⟨c, 0, none⟩ = some (.slice (some ⟨h, 0, none⟩) 2 cap) → w.cell? ⟨h, 0, none⟩ = some (.func (.func 43) #[] #[]) → w.cell? ⟨h, 1, none⟩ = some (.func (.func 49) #[] #[]) →
    Calls Try.prog 57 #[.agg #[.int .i64 i.op, .int .i64 i.d, .int .i64 i.s, .int .i64 i.ix, .int .i64 i.sc, .int .u32 i.imm, .int .i64 i.sz], .pointer (some ⟨c, 0, none⟩)] w fun e w' => e = .returned (.string (strOfNums (([] ++ K.p_Reg i) ++ K.p_Byte i))) ∧ Bel w w' := by
  intro hi hc q0 q1
  have hw1 : Bel w (w.alloc (.cells #[.int .i64 i.op, .int .i64 i.d, .int .i64 i.s, .int .i64 i.ix, .int .i64 i.sc, .int .u32 i.imm, .int .i64 i.sz] 27)) := Bel.alloc (Bel.refl _) _
  have hc1 := Bel.at hw1 hc
  go_enter Try.func57, Try.ntmps57
  go_wp2
  go_loopw [4, 9] (fun r j wr => ∃ k : Nat, j = .int .i64 k ∧ Bel (w.alloc (.cells #[.int .i64 i.op, .int .i64 i.d, .int .i64 i.s, .int .i64 i.ix, .int .i64 i.sc, .int .u32 i.imm, .int .i64 i.sz] 27)) wr ∧ ((k = 0 ∧ r = .string (strOfNums [])) ∨ (k = 1 ∧ r = .string (strOfNums ([] ++ K.p_Reg i))) ∨ (k = 2 ∧ r = .string (strOfNums (([] ++ K.p_Reg i) ++ K.p_Byte i))))) (fun _ j _ => 2 - (intOf j).toNat)
  case atStart => exact ⟨0, rfl, Bel.refl _, .inl ⟨rfl, by rw [K.nil]⟩⟩
  case round =>
    obtain ⟨k, rfl, hch, hrel⟩ := hrel
    have z0 := Bel.at hch (ad := ⟨w.heap.size, 0, none⟩) (v := .int .i64 i.op) (by go_simp)
    have z1 := Bel.at hch (ad := ⟨w.heap.size, 1, none⟩) (v := .int .i64 i.d) (by go_simp)
    have z2 := Bel.at hch (ad := ⟨w.heap.size, 2, none⟩) (v := .int .i64 i.s) (by go_simp)
    have z3 := Bel.at hch (ad := ⟨w.heap.size, 3, none⟩) (v := .int .i64 i.ix) (by go_simp)
    have z4 := Bel.at hch (ad := ⟨w.heap.size, 4, none⟩) (v := .int .i64 i.sc) (by go_simp)
    have z5 := Bel.at hch (ad := ⟨w.heap.size, 5, none⟩) (v := .int .u32 i.imm) (by go_simp)
    have z6 := Bel.at hch (ad := ⟨w.heap.size, 6, none⟩) (v := .int .i64 i.sz) (by go_simp)
    rcases hrel with ⟨rfl, rfl⟩ | ⟨rfl, rfl⟩ | ⟨rfl, rfl⟩
    · have p := Bel.at hch (Bel.at hw1 q0)
      clear hc hc1 q0 q1
      go_wp2_with (go_at_call 43; refine (putReg_t i _ hi).mono ?_; rintro e w1 ⟨rfl, hb1⟩)
      go_roundw
      case rel => exact ⟨1, by go_num, hch.trans hb1, .inr (.inl ⟨rfl, (by first | (rw [K.app]; done) | (rw [K.app]; rfl) | rfl | simp)⟩)⟩
      case measure => simp [intOf]
    · have p := Bel.at hch (Bel.at hw1 q1)
      clear hc hc1 q0 q1
      go_wp2_with (go_at_call 49; refine (putByte_t i _ hi).mono ?_; rintro e w1 ⟨rfl, hb1⟩)
      go_roundw
      case rel => exact ⟨2, by go_num, hch.trans hb1, .inr (.inr (⟨rfl, (by first | (rw [K.app]; done) | (rw [K.app]; rfl) | rfl | simp)⟩))⟩
      case measure => simp [intOf]
    · clear hc hc1 q0 q1
      go_wp2
      go_ret
      exact ⟨rfl, hw1.trans hch⟩
theorem puts_Reg_Full (c h cap : Nat) (i : K.Ins) (w : World) : K.In i → w.cell? ⟨c, 0, none⟩ = some (.slice (some ⟨h, 0, none⟩) 2 cap) → w.cell? ⟨h, 0, none⟩ = some (.func (.func 43) #[] #[]) → w.cell? ⟨h, 1, none⟩ = some (.func (.func 51) #[] #[]) →
    Calls Try.prog 57 #[.agg #[.int .i64 i.op, .int .i64 i.d, .int .i64 i.s, .int .i64 i.ix, .int .i64 i.sc, .int .u32 i.imm, .int .i64 i.sz], .pointer (some ⟨c, 0, none⟩)] w fun e w' => e = .returned (.string (strOfNums (([] ++ K.p_Reg i) ++ K.p_Full i))) ∧ Bel w w' := by
  intro hi hc q0 q1
  have hw1 : Bel w (w.alloc (.cells #[.int .i64 i.op, .int .i64 i.d, .int .i64 i.s, .int .i64 i.ix, .int .i64 i.sc, .int .u32 i.imm, .int .i64 i.sz] 27)) := Bel.alloc (Bel.refl _) _
  have hc1 := Bel.at hw1 hc
  go_enter Try.func57, Try.ntmps57
  go_wp2
  go_loopw [4, 9] (fun r j wr => ∃ k : Nat, j = .int .i64 k ∧ Bel (w.alloc (.cells #[.int .i64 i.op, .int .i64 i.d, .int .i64 i.s, .int .i64 i.ix, .int .i64 i.sc, .int .u32 i.imm, .int .i64 i.sz] 27)) wr ∧ ((k = 0 ∧ r = .string (strOfNums [])) ∨ (k = 1 ∧ r = .string (strOfNums ([] ++ K.p_Reg i))) ∨ (k = 2 ∧ r = .string (strOfNums (([] ++ K.p_Reg i) ++ K.p_Full i))))) (fun _ j _ => 2 - (intOf j).toNat)
  case atStart => exact ⟨0, rfl, Bel.refl _, .inl ⟨rfl, by rw [K.nil]⟩⟩
  case round =>
    obtain ⟨k, rfl, hch, hrel⟩ := hrel
    have z0 := Bel.at hch (ad := ⟨w.heap.size, 0, none⟩) (v := .int .i64 i.op) (by go_simp)
    have z1 := Bel.at hch (ad := ⟨w.heap.size, 1, none⟩) (v := .int .i64 i.d) (by go_simp)
    have z2 := Bel.at hch (ad := ⟨w.heap.size, 2, none⟩) (v := .int .i64 i.s) (by go_simp)
    have z3 := Bel.at hch (ad := ⟨w.heap.size, 3, none⟩) (v := .int .i64 i.ix) (by go_simp)
    have z4 := Bel.at hch (ad := ⟨w.heap.size, 4, none⟩) (v := .int .i64 i.sc) (by go_simp)
    have z5 := Bel.at hch (ad := ⟨w.heap.size, 5, none⟩) (v := .int .u32 i.imm) (by go_simp)
    have z6 := Bel.at hch (ad := ⟨w.heap.size, 6, none⟩) (v := .int .i64 i.sz) (by go_simp)
    rcases hrel with ⟨rfl, rfl⟩ | ⟨rfl, rfl⟩ | ⟨rfl, rfl⟩
    · have p := Bel.at hch (Bel.at hw1 q0)
      clear hc hc1 q0 q1
      go_wp2_with (go_at_call 43; refine (putReg_t i _ hi).mono ?_; rintro e w1 ⟨rfl, hb1⟩)
      go_roundw
      case rel => exact ⟨1, by go_num, hch.trans hb1, .inr (.inl ⟨rfl, (by first | (rw [K.app]; done) | (rw [K.app]; rfl) | rfl | simp)⟩)⟩
      case measure => simp [intOf]
    · have p := Bel.at hch (Bel.at hw1 q1)
      clear hc hc1 q0 q1
      go_wp2_with (go_at_call 51; refine (putFull_t i _ hi).mono ?_; rintro e w1 ⟨rfl, hb1⟩)
      go_roundw
      case rel => exact ⟨2, by go_num, hch.trans hb1, .inr (.inr (⟨rfl, (by first | (rw [K.app]; done) | (rw [K.app]; rfl) | rfl | simp)⟩))⟩
      case measure => simp [intOf]
    · clear hc hc1 q0 q1
      go_wp2
      go_ret
      exact ⟨rfl, hw1.trans hch⟩
theorem puts_Pair_Byte (c h cap : Nat) (i : K.Ins) (w : World) : K.In i → w.cell? ⟨c, 0, none⟩ = some (.slice (some ⟨h, 0, none⟩) 2 cap) → w.cell? ⟨h, 0, none⟩ = some (.func (.func 45) #[] #[]) → w.cell? ⟨h, 1, none⟩ = some (.func (.func 49) #[] #[]) →
    Calls Try.prog 57 #[.agg #[.int .i64 i.op, .int .i64 i.d, .int .i64 i.s, .int .i64 i.ix, .int .i64 i.sc, .int .u32 i.imm, .int .i64 i.sz], .pointer (some ⟨c, 0, none⟩)] w fun e w' => e = .returned (.string (strOfNums (([] ++ K.p_Pair i) ++ K.p_Byte i))) ∧ Bel w w' := by
  intro hi hc q0 q1
  have hw1 : Bel w (w.alloc (.cells #[.int .i64 i.op, .int .i64 i.d, .int .i64 i.s, .int .i64 i.ix, .int .i64 i.sc, .int .u32 i.imm, .int .i64 i.sz] 27)) := Bel.alloc (Bel.refl _) _
  have hc1 := Bel.at hw1 hc
  go_enter Try.func57, Try.ntmps57
  go_wp2
  go_loopw [4, 9] (fun r j wr => ∃ k : Nat, j = .int .i64 k ∧ Bel (w.alloc (.cells #[.int .i64 i.op, .int .i64 i.d, .int .i64 i.s, .int .i64 i.ix, .int .i64 i.sc, .int .u32 i.imm, .int .i64 i.sz] 27)) wr ∧ ((k = 0 ∧ r = .string (strOfNums [])) ∨ (k = 1 ∧ r = .string (strOfNums ([] ++ K.p_Pair i))) ∨ (k = 2 ∧ r = .string (strOfNums (([] ++ K.p_Pair i) ++ K.p_Byte i))))) (fun _ j _ => 2 - (intOf j).toNat)
  case atStart => exact ⟨0, rfl, Bel.refl _, .inl ⟨rfl, by rw [K.nil]⟩⟩
  case round =>
    obtain ⟨k, rfl, hch, hrel⟩ := hrel
    have z0 := Bel.at hch (ad := ⟨w.heap.size, 0, none⟩) (v := .int .i64 i.op) (by go_simp)
    have z1 := Bel.at hch (ad := ⟨w.heap.size, 1, none⟩) (v := .int .i64 i.d) (by go_simp)
    have z2 := Bel.at hch (ad := ⟨w.heap.size, 2, none⟩) (v := .int .i64 i.s) (by go_simp)
    have z3 := Bel.at hch (ad := ⟨w.heap.size, 3, none⟩) (v := .int .i64 i.ix) (by go_simp)
    have z4 := Bel.at hch (ad := ⟨w.heap.size, 4, none⟩) (v := .int .i64 i.sc) (by go_simp)
    have z5 := Bel.at hch (ad := ⟨w.heap.size, 5, none⟩) (v := .int .u32 i.imm) (by go_simp)
    have z6 := Bel.at hch (ad := ⟨w.heap.size, 6, none⟩) (v := .int .i64 i.sz) (by go_simp)
    rcases hrel with ⟨rfl, rfl⟩ | ⟨rfl, rfl⟩ | ⟨rfl, rfl⟩
    · have p := Bel.at hch (Bel.at hw1 q0)
      clear hc hc1 q0 q1
      go_wp2_with (go_at_call 45; refine (putPair_t i _ hi).mono ?_; rintro e w1 ⟨rfl, hb1⟩)
      go_roundw
      case rel => exact ⟨1, by go_num, hch.trans hb1, .inr (.inl ⟨rfl, (by first | (rw [K.app]; done) | (rw [K.app]; rfl) | rfl | simp)⟩)⟩
      case measure => simp [intOf]
    · have p := Bel.at hch (Bel.at hw1 q1)
      clear hc hc1 q0 q1
      go_wp2_with (go_at_call 49; refine (putByte_t i _ hi).mono ?_; rintro e w1 ⟨rfl, hb1⟩)
      go_roundw
      case rel => exact ⟨2, by go_num, hch.trans hb1, .inr (.inr (⟨rfl, (by first | (rw [K.app]; done) | (rw [K.app]; rfl) | rfl | simp)⟩))⟩
      case measure => simp [intOf]
    · clear hc hc1 q0 q1
      go_wp2
      go_ret
      exact ⟨rfl, hw1.trans hch⟩
theorem puts_Pair_Index_Full (c h cap : Nat) (i : K.Ins) (w : World) : K.In i → w.cell? ⟨c, 0, none⟩ = some (.slice (some ⟨h, 0, none⟩) 3 cap) → w.cell? ⟨h, 0, none⟩ = some (.func (.func 45) #[] #[]) → w.cell? ⟨h, 1, none⟩ = some (.func (.func 53) #[] #[]) → w.cell? ⟨h, 2, none⟩ = some (.func (.func 51) #[] #[]) →
    Calls Try.prog 57 #[.agg #[.int .i64 i.op, .int .i64 i.d, .int .i64 i.s, .int .i64 i.ix, .int .i64 i.sc, .int .u32 i.imm, .int .i64 i.sz], .pointer (some ⟨c, 0, none⟩)] w fun e w' => e = .returned (.string (strOfNums ((([] ++ K.p_Pair i) ++ K.p_Index i) ++ K.p_Full i))) ∧ Bel w w' := by
  intro hi hc q0 q1 q2
  have hw1 : Bel w (w.alloc (.cells #[.int .i64 i.op, .int .i64 i.d, .int .i64 i.s, .int .i64 i.ix, .int .i64 i.sc, .int .u32 i.imm, .int .i64 i.sz] 27)) := Bel.alloc (Bel.refl _) _
  have hc1 := Bel.at hw1 hc
  go_enter Try.func57, Try.ntmps57
  go_wp2
  go_loopw [4, 9] (fun r j wr => ∃ k : Nat, j = .int .i64 k ∧ Bel (w.alloc (.cells #[.int .i64 i.op, .int .i64 i.d, .int .i64 i.s, .int .i64 i.ix, .int .i64 i.sc, .int .u32 i.imm, .int .i64 i.sz] 27)) wr ∧ ((k = 0 ∧ r = .string (strOfNums [])) ∨ (k = 1 ∧ r = .string (strOfNums ([] ++ K.p_Pair i))) ∨ (k = 2 ∧ r = .string (strOfNums (([] ++ K.p_Pair i) ++ K.p_Index i))) ∨ (k = 3 ∧ r = .string (strOfNums ((([] ++ K.p_Pair i) ++ K.p_Index i) ++ K.p_Full i))))) (fun _ j _ => 3 - (intOf j).toNat)
  case atStart => exact ⟨0, rfl, Bel.refl _, .inl ⟨rfl, by rw [K.nil]⟩⟩
  case round =>
    obtain ⟨k, rfl, hch, hrel⟩ := hrel
    have z0 := Bel.at hch (ad := ⟨w.heap.size, 0, none⟩) (v := .int .i64 i.op) (by go_simp)
    have z1 := Bel.at hch (ad := ⟨w.heap.size, 1, none⟩) (v := .int .i64 i.d) (by go_simp)
    have z2 := Bel.at hch (ad := ⟨w.heap.size, 2, none⟩) (v := .int .i64 i.s) (by go_simp)
    have z3 := Bel.at hch (ad := ⟨w.heap.size, 3, none⟩) (v := .int .i64 i.ix) (by go_simp)
    have z4 := Bel.at hch (ad := ⟨w.heap.size, 4, none⟩) (v := .int .i64 i.sc) (by go_simp)
    have z5 := Bel.at hch (ad := ⟨w.heap.size, 5, none⟩) (v := .int .u32 i.imm) (by go_simp)
    have z6 := Bel.at hch (ad := ⟨w.heap.size, 6, none⟩) (v := .int .i64 i.sz) (by go_simp)
    rcases hrel with ⟨rfl, rfl⟩ | ⟨rfl, rfl⟩ | ⟨rfl, rfl⟩ | ⟨rfl, rfl⟩
    · have p := Bel.at hch (Bel.at hw1 q0)
      clear hc hc1 q0 q1 q2
      go_wp2_with (go_at_call 45; refine (putPair_t i _ hi).mono ?_; rintro e w1 ⟨rfl, hb1⟩)
      go_roundw
      case rel => exact ⟨1, by go_num, hch.trans hb1, .inr (.inl ⟨rfl, (by first | (rw [K.app]; done) | (rw [K.app]; rfl) | rfl | simp)⟩)⟩
      case measure => simp [intOf]
    · have p := Bel.at hch (Bel.at hw1 q1)
      clear hc hc1 q0 q1 q2
      go_wp2_with (go_at_call 53; refine (putIndex_t i _ hi).mono ?_; rintro e w1 ⟨rfl, hb1⟩)
      go_roundw
      case rel => exact ⟨2, by go_num, hch.trans hb1, .inr (.inr (.inl ⟨rfl, (by first | (rw [K.app]; done) | (rw [K.app]; rfl) | rfl | simp)⟩))⟩
      case measure => simp [intOf]
    · have p := Bel.at hch (Bel.at hw1 q2)
      clear hc hc1 q0 q1 q2
      go_wp2_with (go_at_call 51; refine (putFull_t i _ hi).mono ?_; rintro e w1 ⟨rfl, hb1⟩)
      go_roundw
      case rel => exact ⟨3, by go_num, hch.trans hb1, .inr (.inr (.inr (⟨rfl, (by first | (rw [K.app]; done) | (rw [K.app]; rfl) | rfl | simp)⟩)))⟩
      case measure => simp [intOf]
    · clear hc hc1 q0 q1 q2
      go_wp2
      go_ret
      exact ⟨rfl, hw1.trans hch⟩
end Go.Proofs.Ytgnekniabedomaa
