/- Texts of the walk, merged (4): see the remark ahead of each. -/
import Derived.Test.YtglidnmmeclneaaGreatKi3
import Derived.Laws.EntriesVeiled
import Derived.Great.BuildSlice
import Derived.Deep.RegionWith
import Derived.Deep.CutRange
import Derived.Test.YtglidnmmeclneaaGreatProg
namespace Go.Proofs.YtglidnmmeclneaaGreat
set_option linter.unusedVariables false
set_option linter.unusedSimpArgs false
open Go.RowKit
theorem K.app (a b : List Int) : strOfNums a ++ strOfNums b = strOfNums (a ++ b) := by
  apply ByteArray.ext; simp [strOfNums]
theorem K.nil : (⟨#[]⟩ : ByteArray) = strOfNums [] := rfl
def K.p_Reg (i : K.Ins) : List Int := [i.d]
theorem putReg_t : PutOK 139 K.p_Reg := putReg_ok
def K.p_Byte (i : K.Ins) : List Int := [i.imm % 256]
theorem putByte_t : PutOK 145 K.p_Byte := putByte_ok
def K.p_Pair (i : K.Ins) : List Int := [i.d * 16 + i.s]
theorem putPair_t : PutOK 141 K.p_Pair := putPair_ok
def K.p_Full (i : K.Ins) : List Int := [i.imm % 256, i.imm / 256 % 256, i.imm / 65536 % 256, i.imm / 16777216 % 256]
theorem putFull_t : PutOK 147 K.p_Full := putFull_ok
def K.p_Index (i : K.Ins) : List Int := [if i.ix < 0 then 8 else i.sc * 16 + i.ix]
theorem putIndex_t : PutOK 149 K.p_Index := putIndex_ok
theorem puts_Reg_Byte (c h cap : Nat) (i : K.Ins) (w : World) : K.In i → w.cell? ⟨c, 0, none⟩ = some (.slice (some ⟨h, 0, none⟩) 2 cap) → w.cell? ⟨h, 0, none⟩ = some (.func (.func 139) #[] #[]) → w.cell? ⟨h, 1, none⟩ = some (.func (.func 145) #[] #[]) →
    Calls Tryz.prog 168 #[.agg #[.int .i64 i.op, .int .i64 i.d, .int .i64 i.s, .int .i64 i.ix, .int .i64 i.sc, .int .u32 i.imm, .int .i64 i.sz], .pointer (some ⟨c, 0, none⟩)] w fun e w' => e = .returned (.string (strOfNums (([] ++ K.p_Reg i) ++ K.p_Byte i))) ∧ Bel w w' := by
  intro hi hc q0 q1
  have hw1 : Bel w (w.alloc (.cells #[.int .i64 i.op, .int .i64 i.d, .int .i64 i.s, .int .i64 i.ix, .int .i64 i.sc, .int .u32 i.imm, .int .i64 i.sz] 66)) := Bel.alloc (Bel.refl _) _
  have hc1 := Bel.at hw1 hc
  go_enter Tryz.func168, Tryz.ntmps168
  go_wp2
  go_loopw [4, 9] (fun r j wr => ∃ k : Nat, j = .int .i64 k ∧ Bel (w.alloc (.cells #[.int .i64 i.op, .int .i64 i.d, .int .i64 i.s, .int .i64 i.ix, .int .i64 i.sc, .int .u32 i.imm, .int .i64 i.sz] 66)) wr ∧ ((k = 0 ∧ r = .string (strOfNums [])) ∨ (k = 1 ∧ r = .string (strOfNums ([] ++ K.p_Reg i))) ∨ (k = 2 ∧ r = .string (strOfNums (([] ++ K.p_Reg i) ++ K.p_Byte i))))) (fun _ j _ => 2 - (intOf j).toNat)
  case atStart => exact ⟨0, rfl, Bel.refl _, .inl ⟨rfl, by rw [K.nil]⟩⟩
  case round =>
    obtain ⟨k, rfl, hch, hrel⟩ := hrel
    have z0 := Bel.at hch (ad := ⟨w.heap.size, 0, none⟩) (v := .int .i64 i.op) (by go_simp)
    have z1 := Bel.at hch (ad := ⟨w.heap.size, 1, none⟩) (v := .int .i64 i.d) (by go_simp)
    have z2 := Bel.at hch (ad := ⟨w.heap.size, 2, none⟩) (v := .int .i64 i.s) (by go_simp)
    have z3 := Bel.at hch (ad := ⟨w.heap.size, 3, none⟩) (v := .int .i64 i.ix) (by go_simp)
    have z4 := Bel.at hch (ad := ⟨w.heap.size, 4, none⟩) (v := .int .i64 i.sc) (by go_simp)
    have z5 := Bel.at hch (ad := ⟨w.heap.size, 5, none⟩) (v := .int .u32 i.imm) (by go_simp)
    have z6 := Bel.at hch (ad := ⟨w.heap.size, 6, none⟩) (v := .int .i64 i.sz) (by go_simp)
    rcases hrel with ⟨rfl, rfl⟩ | ⟨rfl, rfl⟩ | ⟨rfl, rfl⟩
    · have p := Bel.at hch (Bel.at hw1 q0)
      clear hc hc1 q0 q1
      go_wp2_with (go_at_call 139; refine (putReg_t i _ hi).mono ?_; rintro e w1 ⟨rfl, hb1⟩)
      go_roundw
      case rel => exact ⟨1, by go_num, hch.trans hb1, .inr (.inl ⟨rfl, (by first | (rw [K.app]; done) | (rw [K.app]; rfl) | rfl | simp)⟩)⟩
      case measure => simp [intOf]
    · have p := Bel.at hch (Bel.at hw1 q1)
      clear hc hc1 q0 q1
      go_wp2_with (go_at_call 145; refine (putByte_t i _ hi).mono ?_; rintro e w1 ⟨rfl, hb1⟩)
      go_roundw
      case rel => exact ⟨2, by go_num, hch.trans hb1, .inr (.inr (⟨rfl, (by first | (rw [K.app]; done) | (rw [K.app]; rfl) | rfl | simp)⟩))⟩
      case measure => simp [intOf]
    · clear hc hc1 q0 q1
      go_wp2
      go_ret
      exact ⟨rfl, hw1.trans hch⟩
theorem puts_Reg_Full (c h cap : Nat) (i : K.Ins) (w : World) : K.In i → w.cell? ⟨c, 0, none⟩ = some (.slice (some ⟨h, 0, none⟩) 2 cap) → w.cell? ⟨h, 0, none⟩ = some (.func (.func 139) #[] #[]) → w.cell? ⟨h, 1, none⟩ = some (.func (.func 147) #[] #[]) →
    Calls Tryz.prog 168 #[.agg #[.int .i64 i.op, .int .i64 i.d, .int .i64 i.s, .int .i64 i.ix, .int .i64 i.sc, .int .u32 i.imm, .int .i64 i.sz], .pointer (some ⟨c, 0, none⟩)] w fun e w' => e = .returned (.string (strOfNums (([] ++ K.p_Reg i) ++ K.p_Full i))) ∧ Bel w w' := by
  intro hi hc q0 q1
  have hw1 : Bel w (w.alloc (.cells #[.int .i64 i.op, .int .i64 i.d, .int .i64 i.s, .int .i64 i.ix, .int .i64 i.sc, .int .u32 i.imm, .int .i64 i.sz] 66)) := Bel.alloc (Bel.refl _) _
  have hc1 := Bel.at hw1 hc
  go_enter Tryz.func168, Tryz.ntmps168
  go_wp2
  go_loopw [4, 9] (fun r j wr => ∃ k : Nat, j = .int .i64 k ∧ Bel (w.alloc (.cells #[.int .i64 i.op, .int .i64 i.d, .int .i64 i.s, .int .i64 i.ix, .int .i64 i.sc, .int .u32 i.imm, .int .i64 i.sz] 66)) wr ∧ ((k = 0 ∧ r = .string (strOfNums [])) ∨ (k = 1 ∧ r = .string (strOfNums ([] ++ K.p_Reg i))) ∨ (k = 2 ∧ r = .string (strOfNums (([] ++ K.p_Reg i) ++ K.p_Full i))))) (fun _ j _ => 2 - (intOf j).toNat)
  case atStart => exact ⟨0, rfl, Bel.refl _, .inl ⟨rfl, by rw [K.nil]⟩⟩
  case round =>
    obtain ⟨k, rfl, hch, hrel⟩ := hrel
    have z0 := Bel.at hch (ad := ⟨w.heap.size, 0, none⟩) (v := .int .i64 i.op) (by go_simp)
    have z1 := Bel.at hch (ad := ⟨w.heap.size, 1, none⟩) (v := .int .i64 i.d) (by go_simp)
    have z2 := Bel.at hch (ad := ⟨w.heap.size, 2, none⟩) (v := .int .i64 i.s) (by go_simp)
    have z3 := Bel.at hch (ad := ⟨w.heap.size, 3, none⟩) (v := .int .i64 i.ix) (by go_simp)
    have z4 := Bel.at hch (ad := ⟨w.heap.size, 4, none⟩) (v := .int .i64 i.sc) (by go_simp)
    have z5 := Bel.at hch (ad := ⟨w.heap.size, 5, none⟩) (v := .int .u32 i.imm) (by go_simp)
    have z6 := Bel.at hch (ad := ⟨w.heap.size, 6, none⟩) (v := .int .i64 i.sz) (by go_simp)
    rcases hrel with ⟨rfl, rfl⟩ | ⟨rfl, rfl⟩ | ⟨rfl, rfl⟩
    · have p := Bel.at hch (Bel.at hw1 q0)
      clear hc hc1 q0 q1
      go_wp2_with (go_at_call 139; refine (putReg_t i _ hi).mono ?_; rintro e w1 ⟨rfl, hb1⟩)
      go_roundw
      case rel => exact ⟨1, by go_num, hch.trans hb1, .inr (.inl ⟨rfl, (by first | (rw [K.app]; done) | (rw [K.app]; rfl) | rfl | simp)⟩)⟩
      case measure => simp [intOf]
    · have p := Bel.at hch (Bel.at hw1 q1)
      clear hc hc1 q0 q1
      go_wp2_with (go_at_call 147; refine (putFull_t i _ hi).mono ?_; rintro e w1 ⟨rfl, hb1⟩)
      go_roundw
      case rel => exact ⟨2, by go_num, hch.trans hb1, .inr (.inr (⟨rfl, (by first | (rw [K.app]; done) | (rw [K.app]; rfl) | rfl | simp)⟩))⟩
      case measure => simp [intOf]
    · clear hc hc1 q0 q1
      go_wp2
      go_ret
      exact ⟨rfl, hw1.trans hch⟩
theorem puts_Pair_Byte (c h cap : Nat) (i : K.Ins) (w : World) : K.In i → w.cell? ⟨c, 0, none⟩ = some (.slice (some ⟨h, 0, none⟩) 2 cap) → w.cell? ⟨h, 0, none⟩ = some (.func (.func 141) #[] #[]) → w.cell? ⟨h, 1, none⟩ = some (.func (.func 145) #[] #[]) →
    Calls Tryz.prog 168 #[.agg #[.int .i64 i.op, .int .i64 i.d, .int .i64 i.s, .int .i64 i.ix, .int .i64 i.sc, .int .u32 i.imm, .int .i64 i.sz], .pointer (some ⟨c, 0, none⟩)] w fun e w' => e = .returned (.string (strOfNums (([] ++ K.p_Pair i) ++ K.p_Byte i))) ∧ Bel w w' := by
  intro hi hc q0 q1
  have hw1 : Bel w (w.alloc (.cells #[.int .i64 i.op, .int .i64 i.d, .int .i64 i.s, .int .i64 i.ix, .int .i64 i.sc, .int .u32 i.imm, .int .i64 i.sz] 66)) := Bel.alloc (Bel.refl _) _
  have hc1 := Bel.at hw1 hc
  go_enter Tryz.func168, Tryz.ntmps168
  go_wp2
  go_loopw [4, 9] (fun r j wr => ∃ k : Nat, j = .int .i64 k ∧ Bel (w.alloc (.cells #[.int .i64 i.op, .int .i64 i.d, .int .i64 i.s, .int .i64 i.ix, .int .i64 i.sc, .int .u32 i.imm, .int .i64 i.sz] 66)) wr ∧ ((k = 0 ∧ r = .string (strOfNums [])) ∨ (k = 1 ∧ r = .string (strOfNums ([] ++ K.p_Pair i))) ∨ (k = 2 ∧ r = .string (strOfNums (([] ++ K.p_Pair i) ++ K.p_Byte i))))) (fun _ j _ => 2 - (intOf j).toNat)
  case atStart => exact ⟨0, rfl, Bel.refl _, .inl ⟨rfl, by rw [K.nil]⟩⟩
  case round =>
    obtain ⟨k, rfl, hch, hrel⟩ := hrel
    have z0 := Bel.at hch (ad := ⟨w.heap.size, 0, none⟩) (v := .int .i64 i.op) (by go_simp)
    have z1 := Bel.at hch (ad := ⟨w.heap.size, 1, none⟩) (v := .int .i64 i.d) (by go_simp)
    have z2 := Bel.at hch (ad := ⟨w.heap.size, 2, none⟩) (v := .int .i64 i.s) (by go_simp)
    have z3 := Bel.at hch (ad := ⟨w.heap.size, 3, none⟩) (v := .int .i64 i.ix) (by go_simp)
    have z4 := Bel.at hch (ad := ⟨w.heap.size, 4, none⟩) (v := .int .i64 i.sc) (by go_simp)
    have z5 := Bel.at hch (ad := ⟨w.heap.size, 5, none⟩) (v := .int .u32 i.imm) (by go_simp)
    have z6 := Bel.at hch (ad := ⟨w.heap.size, 6, none⟩) (v := .int .i64 i.sz) (by go_simp)
    rcases hrel with ⟨rfl, rfl⟩ | ⟨rfl, rfl⟩ | ⟨rfl, rfl⟩
    · have p := Bel.at hch (Bel.at hw1 q0)
      clear hc hc1 q0 q1
      go_wp2_with (go_at_call 141; refine (putPair_t i _ hi).mono ?_; rintro e w1 ⟨rfl, hb1⟩)
      go_roundw
      case rel => exact ⟨1, by go_num, hch.trans hb1, .inr (.inl ⟨rfl, (by first | (rw [K.app]; done) | (rw [K.app]; rfl) | rfl | simp)⟩)⟩
      case measure => simp [intOf]
    · have p := Bel.at hch (Bel.at hw1 q1)
      clear hc hc1 q0 q1
      go_wp2_with (go_at_call 145; refine (putByte_t i _ hi).mono ?_; rintro e w1 ⟨rfl, hb1⟩)
      go_roundw
      case rel => exact ⟨2, by go_num, hch.trans hb1, .inr (.inr (⟨rfl, (by first | (rw [K.app]; done) | (rw [K.app]; rfl) | rfl | simp)⟩))⟩
      case measure => simp [intOf]
    · clear hc hc1 q0 q1
      go_wp2
      go_ret
      exact ⟨rfl, hw1.trans hch⟩
theorem puts_Pair_Index_Full (c h cap : Nat) (i : K.Ins) (w : World) : K.In i → w.cell? ⟨c, 0, none⟩ = some (.slice (some ⟨h, 0, none⟩) 3 cap) → w.cell? ⟨h, 0, none⟩ = some (.func (.func 141) #[] #[]) → w.cell? ⟨h, 1, none⟩ = some (.func (.func 149) #[] #[]) → w.cell? ⟨h, 2, none⟩ = some (.func (.func 147) #[] #[]) →
    Calls Tryz.prog 168 #[.agg #[.int .i64 i.op, .int .i64 i.d, .int .i64 i.s, .int .i64 i.ix, .int .i64 i.sc, .int .u32 i.imm, .int .i64 i.sz], .pointer (some ⟨c, 0, none⟩)] w fun e w' => e = .returned (.string (strOfNums ((([] ++ K.p_Pair i) ++ K.p_Index i) ++ K.p_Full i))) ∧ Bel w w' := by
  intro hi hc q0 q1 q2
  have hw1 : Bel w (w.alloc (.cells #[.int .i64 i.op, .int .i64 i.d, .int .i64 i.s, .int .i64 i.ix, .int .i64 i.sc, .int .u32 i.imm, .int .i64 i.sz] 66)) := Bel.alloc (Bel.refl _) _
  have hc1 := Bel.at hw1 hc
  go_enter Tryz.func168, Tryz.ntmps168
  go_wp2
  go_loopw [4, 9] (fun r j wr => ∃ k : Nat, j = .int .i64 k ∧ Bel (w.alloc (.cells #[.int .i64 i.op, .int .i64 i.d, .int .i64 i.s, .int .i64 i.ix, .int .i64 i.sc, .int .u32 i.imm, .int .i64 i.sz] 66)) wr ∧ ((k = 0 ∧ r = .string (strOfNums [])) ∨ (k = 1 ∧ r = .string (strOfNums ([] ++ K.p_Pair i))) ∨ (k = 2 ∧ r = .string (strOfNums (([] ++ K.p_Pair i) ++ K.p_Index i))) ∨ (k = 3 ∧ r = .string (strOfNums ((([] ++ K.p_Pair i) ++ K.p_Index i) ++ K.p_Full i))))) (fun _ j _ => 3 - (intOf j).toNat)
  case atStart => exact ⟨0, rfl, Bel.refl _, .inl ⟨rfl, by rw [K.nil]⟩⟩
  case round =>
    obtain ⟨k, rfl, hch, hrel⟩ := hrel
    have z0 := Bel.at hch (ad := ⟨w.heap.size, 0, none⟩) (v := .int .i64 i.op) (by go_simp)
    have z1 := Bel.at hch (ad := ⟨w.heap.size, 1, none⟩) (v := .int .i64 i.d) (by go_simp)
    have z2 := Bel.at hch (ad := ⟨w.heap.size, 2, none⟩) (v := .int .i64 i.s) (by go_simp)
    have z3 := Bel.at hch (ad := ⟨w.heap.size, 3, none⟩) (v := .int .i64 i.ix) (by go_simp)
    have z4 := Bel.at hch (ad := ⟨w.heap.size, 4, none⟩) (v := .int .i64 i.sc) (by go_simp)
    have z5 := Bel.at hch (ad := ⟨w.heap.size, 5, none⟩) (v := .int .u32 i.imm) (by go_simp)
    have z6 := Bel.at hch (ad := ⟨w.heap.size, 6, none⟩) (v := .int .i64 i.sz) (by go_simp)
    rcases hrel with ⟨rfl, rfl⟩ | ⟨rfl, rfl⟩ | ⟨rfl, rfl⟩ | ⟨rfl, rfl⟩
    · have p := Bel.at hch (Bel.at hw1 q0)
      clear hc hc1 q0 q1 q2
      go_wp2_with (go_at_call 141; refine (putPair_t i _ hi).mono ?_; rintro e w1 ⟨rfl, hb1⟩)
      go_roundw
      case rel => exact ⟨1, by go_num, hch.trans hb1, .inr (.inl ⟨rfl, (by first | (rw [K.app]; done) | (rw [K.app]; rfl) | rfl | simp)⟩)⟩
      case measure => simp [intOf]
    · have p := Bel.at hch (Bel.at hw1 q1)
      clear hc hc1 q0 q1 q2
      go_wp2_with (go_at_call 149; refine (putIndex_t i _ hi).mono ?_; rintro e w1 ⟨rfl, hb1⟩)
      go_roundw
      case rel => exact ⟨2, by go_num, hch.trans hb1, .inr (.inr (.inl ⟨rfl, (by first | (rw [K.app]; done) | (rw [K.app]; rfl) | rfl | simp)⟩))⟩
      case measure => simp [intOf]
    · have p := Bel.at hch (Bel.at hw1 q2)
      clear hc hc1 q0 q1 q2
      go_wp2_with (go_at_call 147; refine (putFull_t i _ hi).mono ?_; rintro e w1 ⟨rfl, hb1⟩)
      go_roundw
      case rel => exact ⟨3, by go_num, hch.trans hb1, .inr (.inr (.inr (⟨rfl, (by first | (rw [K.app]; done) | (rw [K.app]; rfl) | rfl | simp)⟩)))⟩
      case measure => simp [intOf]
    · clear hc hc1 q0 q1 q2
      go_wp2
      go_ret
      exact ⟨rfl, hw1.trans hch⟩
/-- v is the closure F over a cell that holds a slice of the functions fs. -/
def K.Cl (F : FuncId) (fs : List FuncId) (v : Value) (w : World) : Prop := ∃ c h cap, v = .func (.func F) #[] #[.pointer (some ⟨c, 0, none⟩)] ∧ w.cell? ⟨c, 0, none⟩ = some (.slice (some ⟨h, 0, none⟩) fs.length cap) ∧ ∀ j, j < fs.length → w.cell? ⟨h, j, none⟩ = some (.func (.func (fs.getD j 0)) #[] #[])
theorem K.Cl.bel {F : FuncId} {fs : List FuncId} {v : Value} {w w' : World} (h : K.Cl F fs v w) (k : Bel w w') : K.Cl F fs v w' := by
  obtain ⟨c, b, cap, e, h1, h2⟩ := h
  exact ⟨c, b, cap, e, Bel.at k h1, fun j hj => Bel.at k (h2 j hj)⟩
theorem takes2_any (f1 f2 : FuncId) (w : World) (T : TypeId) :
    Calls Tryz.prog 142 #[.slice (some ⟨w.heap.size, 0, none⟩) 2 2] (w.alloc (.cells #[.func (.func f1) #[] #[], .func (.func f2) #[] #[]] T)) fun e w' => ∃ v, e = .returned v ∧ K.Cl 166 [f1, f2] v w' ∧ Bel w w' := by
  go_enter Tryz.func142, Tryz.ntmps142
  go_wp2
  go_ret
  refine ⟨_, rfl, ⟨w.heap.size + 1, w.heap.size, 2, rfl, by go_simp, ?_⟩, Nz.bel⟩
  intro j hj
  rcases (show j = 0 ∨ j = 1 by simp at hj; omega) with rfl | rfl <;> go_simp
theorem takes3_any (f1 f2 f3 : FuncId) (w : World) (T : TypeId) :
    Calls Tryz.prog 142 #[.slice (some ⟨w.heap.size, 0, none⟩) 3 3] (w.alloc (.cells #[.func (.func f1) #[] #[], .func (.func f2) #[] #[], .func (.func f3) #[] #[]] T)) fun e w' => ∃ v, e = .returned v ∧ K.Cl 166 [f1, f2, f3] v w' ∧ Bel w w' := by
  go_enter Tryz.func142, Tryz.ntmps142
  go_wp2
  go_ret
  refine ⟨_, rfl, ⟨w.heap.size + 1, w.heap.size, 3, rfl, by go_simp, ?_⟩, Nz.bel⟩
  intro j hj
  rcases (show j = 0 ∨ j = 1 ∨ j = 2 by simp at hj; omega) with rfl | rfl | rfl <;> go_simp
theorem puts2_any (f1 f2 : FuncId) (w : World) (T : TypeId) :
    Calls Tryz.prog 144 #[.slice (some ⟨w.heap.size, 0, none⟩) 2 2] (w.alloc (.cells #[.func (.func f1) #[] #[], .func (.func f2) #[] #[]] T)) fun e w' => ∃ v, e = .returned v ∧ K.Cl 168 [f1, f2] v w' ∧ Bel w w' := by
  go_enter Tryz.func144, Tryz.ntmps144
  go_wp2
  go_ret
  refine ⟨_, rfl, ⟨w.heap.size + 1, w.heap.size, 2, rfl, by go_simp, ?_⟩, Nz.bel⟩
  intro j hj
  rcases (show j = 0 ∨ j = 1 by simp at hj; omega) with rfl | rfl <;> go_simp
theorem puts3_any (f1 f2 f3 : FuncId) (w : World) (T : TypeId) :
    Calls Tryz.prog 144 #[.slice (some ⟨w.heap.size, 0, none⟩) 3 3] (w.alloc (.cells #[.func (.func f1) #[] #[], .func (.func f2) #[] #[], .func (.func f3) #[] #[]] T)) fun e w' => ∃ v, e = .returned v ∧ K.Cl 168 [f1, f2, f3] v w' ∧ Bel w w' := by
  go_enter Tryz.func144, Tryz.ntmps144
  go_wp2
  go_ret
  refine ⟨_, rfl, ⟨w.heap.size + 1, w.heap.size, 3, rfl, by go_simp, ?_⟩, Nz.bel⟩
  intro j hj
  rcases (show j = 0 ∨ j = 1 ∨ j = 2 by simp at hj; omega) with rfl | rfl | rfl <;> go_simp
def K.lo (k : Nat) : Int := [0, 16, 32, 48, 64, 80, 88, 96, 112, 128, 129].getD k 0
def K.hi (k : Nat) : Int := [4, 21, 46, 62, 78, 86, 94, 109, 113, 128, 130].getD k 0
def K.len (k : Nat) : Int := [1, 2, 2, 3, 6, 3, 7, 2, 5, 2, 2].getD k 0
/-- t and p are the reader and the writer of format k. -/
def K.Fm (k : Nat) (t p : Value) (w : World) : Prop := match k with
  | 0 => t = .func (.func 136) #[] #[] ∧ p = .func (.func 137) #[] #[]
  | 1 => t = .func (.func 138) #[] #[] ∧ p = .func (.func 139) #[] #[]
  | 2 => t = .func (.func 140) #[] #[] ∧ p = .func (.func 141) #[] #[]
  | 3 => K.Cl 166 [138, 143] t w ∧ K.Cl 168 [139, 145] p w
  | 4 => K.Cl 166 [138, 146] t w ∧ K.Cl 168 [139, 147] p w
  | 5 => K.Cl 166 [140, 143] t w ∧ K.Cl 168 [141, 145] p w
  | 6 => K.Cl 166 [140, 148, 146] t w ∧ K.Cl 168 [141, 149, 147] p w
  | 7 => t = .func (.func 143) #[] #[] ∧ p = .func (.func 145) #[] #[]
  | 8 => t = .func (.func 146) #[] #[] ∧ p = .func (.func 147) #[] #[]
  | 9 => t = .func (.func 150) #[] #[] ∧ p = .func (.func 145) #[] #[]
  | 10 => t = .func (.func 140) #[] #[] ∧ p = .func (.func 141) #[] #[]
  | _ => False
theorem K.Fm.bel {k : Nat} {t p : Value} {w w' : World} (h : K.Fm k t p w) (b : Bel w w') : K.Fm k t p w' := by
  unfold K.Fm at *
  split at h <;> first | exact h | exact ⟨h.1.bel b, h.2.bel b⟩
/-- The eleven formats lie at block g. -/
def K.Fms (g : Nat) (ts ps : Nat → Value) (w : World) : Prop := ∀ k, k < 11 → w.cell? ⟨g, k * 5, none⟩ = some (.int .i64 (K.lo k)) ∧ w.cell? ⟨g, k * 5 + 1, none⟩ = some (.int .i64 (K.hi k)) ∧ w.cell? ⟨g, k * 5 + 2, none⟩ = some (.int .i64 (K.len k)) ∧ w.cell? ⟨g, k * 5 + 3, none⟩ = some (ts k) ∧ w.cell? ⟨g, k * 5 + 4, none⟩ = some (ps k) ∧ K.Fm k (ts k) (ps k) w
def K.fmtF (op : Int) : Nat → Nat → Option Nat
  | 0, _ => none
  | m + 1, k => if K.lo k ≤ op ∧ op ≤ K.hi k then some k else K.fmtF op m (k + 1)
/-- The format of a first byte. -/
def K.fmt (op : Int) : Option Nat := K.fmtF op 11 0
/-- What kcode.formats returns. -/
def K.FmtsOK : Prop := ∀ w : World, Calls Tryz.prog 127 #[] w fun e w' => ∃ g ts ps, e = .returned (.slice (some ⟨g, 0, none⟩) 11 11) ∧ K.Fms g ts ps w' ∧ Bel w w'
theorem K.in_one (n a b : Int) : K.inAny n [(a, b)] = (decide (a ≤ n) && decide (n ≤ b)) := by simp [K.inAny]
theorem K.Fm.isf {k : Nat} {t p : Value} {w : World} (h : K.Fm k t p w) : (∃ F cs, t = .func (.func F) #[] cs) ∧ (∃ F cs, p = .func (.func F) #[] cs) := by
  unfold K.Fm K.Cl at h
  split at h <;> first | (obtain ⟨⟨_, _, _, h1, _, _⟩, ⟨_, _, _, h2, _, _⟩⟩ := h; exact ⟨⟨_, _, h1⟩, ⟨_, _, h2⟩⟩) | exact ⟨⟨_, _, h.1⟩, ⟨_, _, h.2⟩⟩ | exact h.elim
theorem Ch.put {g : Nat} {a b : World} (h : Ch (fun x => x = g) a b) (j : Nat) (v : Value) : Ch (fun x => x = g) a (b.setCell ⟨g, j, none⟩ v) := h.setCell (p := ⟨g, j, none⟩) (fun _ => rfl) v
theorem K.Cl.ch {S : Nat → Prop} {F : FuncId} {fs : List FuncId} {v : Value} {w w' : World} (h : K.Cl F fs v w) (k : Ch S w w') (hs : ∀ x, S x → ∃ n, w.cell? ⟨x, 0, none⟩ = some (.int .i64 n)) (hl : 0 < fs.length) : K.Cl F fs v w' := by
  obtain ⟨c, b, cap, e, h1, h2⟩ := h
  refine ⟨c, b, cap, e, (k.cell c 0 (lt_of_cell h1) fun q => ?_).trans h1, fun j hj => (k.cell b j (lt_of_cell (h2 j hj)) fun q => ?_).trans (h2 j hj)⟩
  · obtain ⟨n, hn⟩ := hs _ q; rw [h1] at hn; cases hn
  · obtain ⟨n, hn⟩ := hs _ q; rw [h2 0 hl] at hn; cases hn
theorem K.Fm.ch {S : Nat → Prop} {k : Nat} {t p : Value} {w w' : World} (h : K.Fm k t p w) (b : Ch S w w') (hs : ∀ x, S x → ∃ n, w.cell? ⟨x, 0, none⟩ = some (.int .i64 n)) : K.Fm k t p w' := by
  unfold K.Fm at *
  split at h <;> first | exact h | exact ⟨h.1.ch b hs (by simp), h.2.ch b hs (by simp)⟩
set_option maxHeartbeats 2000000 in
theorem find_of (HF : K.FmtsOK) (op : Int) (w : World) :
    Calls Tryz.prog 106 #[.int .i64 op] w fun e w' => (∃ k t p, k < 11 ∧ K.fmt op = some k ∧ e = .returned (.tuple #[.agg #[.int .i64 (K.lo k), .int .i64 (K.hi k), .int .i64 (K.len k), t, p], .bool true]) ∧ K.Fm k t p w' ∧ Bel w w') ∨
      (K.fmt op = none ∧ e = .returned (.tuple #[.agg #[.int .i64 0, .int .i64 0, .int .i64 0, .nilFunc, .nilFunc], .bool false]) ∧ Bel w w') := by
  have HI := hid (show K.fmt op = K.fmtF op 11 0 from rfl)
  go_enter Tryz.func106, Tryz.ntmps106
  go_wp2_with (go_at_call 127; refine (HF _).mono ?_; rintro e w1 ⟨g, ts, ps, rfl, hf, hb⟩)
  have hb0 : Bel w w1 := Bel.trans (Bel.alloc (Bel.refl _) _) hb
  go_loopw [8] (fun i wr => ∃ j : Nat, j ≤ 11 ∧ i = .int .i64 j ∧ Hid (K.fmt op = K.fmtF op (11 - j) j) ∧ Bel w1 wr) (fun i _ => 11 - (intOf i).toNat)
  case atStart => exact ⟨0, by omega, rfl, HI, Bel.refl _⟩
  case round =>
    clear HI
    obtain ⟨j, hj, rfl, HI, hbr⟩ := hrel
    have hbb := hb.trans hbr
    have z0 := Bel.at hbb (ad := ⟨w.heap.size, 0, none⟩) (v := .int .i64 0) (by go_simp)
    have z1 := Bel.at hbb (ad := ⟨w.heap.size, 1, none⟩) (v := .int .i64 0) (by go_simp)
    have z2 := Bel.at hbb (ad := ⟨w.heap.size, 2, none⟩) (v := .int .i64 0) (by go_simp)
    have z3 := Bel.at hbb (ad := ⟨w.heap.size, 3, none⟩) (v := .nilFunc) (by go_simp)
    have z4 := Bel.at hbb (ad := ⟨w.heap.size, 4, none⟩) (v := .nilFunc) (by go_simp)
    have zf : ∀ j, wr.frozen? ⟨w.heap.size, j, none⟩ = false := fun j => by rw [hbb.frozen _ _ (by simp)]; go_simp
    have hlt : w.heap.size < wr.heap.size := by have := hbb.size; simp at this; omega
    by_cases c1 : j < 11
    · obtain ⟨a0, a1, a2, a3, a4, a5⟩ := hf j c1
      have e0 := Bel.at hbr a0
      have e1 := Bel.at hbr a1
      have e2 := Bel.at hbr a2
      have e3 := Bel.at hbr a3
      have e4 := Bel.at hbr a4
      have HS : Hid (K.fmtF op (11 - j) j = if K.lo j ≤ op ∧ op ≤ K.hi j then some j else K.fmtF op (11 - (j + 1)) (j + 1)) := hid (by rw [show 11 - j = 11 - (j + 1) + 1 by omega]; rfl)
      obtain ⟨⟨F1, cs1, ht⟩, ⟨F2, cs2, hp⟩⟩ := a5.isf
      rw [ht] at e3; rw [hp] at e4; rw [ht, hp] at a5
      have HFm := hid (a5.bel hbr)
      clear ht hp a0 a1 a2 a3 a4 a5 hf
      cases hin : K.inAny op [(K.lo j, K.hi j)]
      · have HR : Hid (K.fmt op = K.fmtF op (11 - (j + 1)) (j + 1)) := hid (by
          rw [K.in_one] at hin
          rw [HI.out, HS.out, if_neg (by simp at hin; omega)])
        generalize K.lo j = lo at *
        generalize K.hi j = hi at *
        generalize K.len j = ln at *
        go_wp2_with (go_at_call 128; refine (within_any op _ 0 1 [(lo, hi)] (by simp) _ (fun i hi => ?_) (fun i hi => ?_)).mono ?_; (obtain rfl : i = 0 := by simpa using hi); go_simp; (obtain rfl : i = 0 := by simpa using hi); go_simp; rintro e w2 ⟨rfl, hb2⟩)
        go_roundw
        case rel => exact ⟨j + 1, by omega, by go_num, HR, Nz.bel⟩
        case measure => simp [intOf]; omega
      · have HR : Hid (K.fmt op = some j) := hid (by
          rw [K.in_one] at hin
          rw [HI.out, HS.out, if_pos (by simpa using hin)])
        have HL : Hid (∀ x, Ending.returned x = Ending.returned x) := hid fun _ => rfl
        generalize hlo : K.lo j = lo at *
        generalize hhi : K.hi j = hi at *
        generalize hln : K.len j = ln at *
        have HLO := hid hlo; have HHI := hid hhi; have HLN := hid hln
        clear hlo hhi hln
        go_wp2_with (go_at_call 128; refine (within_any op _ 0 1 [(lo, hi)] (by simp) _ (fun i hi => ?_) (fun i hi => ?_)).mono ?_; (obtain rfl : i = 0 := by simpa using hi); go_simp; (obtain rfl : i = 0 := by simpa using hi); go_simp; rintro e w2 ⟨rfl, hb2⟩; have y0 := Bel.at hb2 (ad := ⟨wr.heap.size, 0, none⟩) (v := .int .i64 lo) (by first | assumption | (go_simp)); have y1 := Bel.at hb2 (ad := ⟨wr.heap.size, 1, none⟩) (v := .int .i64 hi) (by first | assumption | (go_simp)); have y2 := Bel.at hb2 (ad := ⟨wr.heap.size, 2, none⟩) (v := .int .i64 ln) (by first | assumption | (go_simp)); have y3 := Bel.at hb2 (ad := ⟨wr.heap.size, 3, none⟩) (v := .func (.func F1) #[] cs1) (by first | assumption | (go_simp)); have y4 := Bel.at hb2 (ad := ⟨wr.heap.size, 4, none⟩) (v := .func (.func F2) #[] cs2) (by first | assumption | (go_simp)); have x0 := Bel.at hb2 (ad := ⟨w.heap.size, 0, none⟩) (v := .int .i64 0) (by first | assumption | (go_simp)); have x1 := Bel.at hb2 (ad := ⟨w.heap.size, 1, none⟩) (v := .int .i64 0) (by first | assumption | (go_simp)); have x2 := Bel.at hb2 (ad := ⟨w.heap.size, 2, none⟩) (v := .int .i64 0) (by first | assumption | (go_simp)); have x3 := Bel.at hb2 (ad := ⟨w.heap.size, 3, none⟩) (v := .nilFunc) (by first | assumption | (go_simp)); have x4 := Bel.at hb2 (ad := ⟨w.heap.size, 4, none⟩) (v := .nilFunc) (by first | assumption | (go_simp)); have xf : ∀ j, w2.frozen? ⟨w.heap.size, j, none⟩ = false := fun j => by rw [hb2.frozen _ _ (by simp; omega)]; go_simp)
        have HFm2 := HFm.out.bel (show Bel wr w2 from Nz.bel)
        have hbw : Bel w w2 := Nz.bel
        refine bodyPost_ret (v := .tuple #[.agg #[.int .i64 lo, .int .i64 hi, .int .i64 ln, .func (.func F1) #[] cs1, .func (.func F2) #[] cs2], .bool true]) (by simp [results, Tryz.results106, go_sem, x0, x1, x2, x3, x4]) rfl (.inl ⟨j, _, _, c1, HR.out, by rw [HLO.out, HHI.out, HLN.out], ?_, ?_⟩)
        · refine HFm2.ch (S := fun x => x = w.heap.size) (by repeat (first | refine Ch.put ?_ _ _ | exact Ch.refl _ _)) (by rintro x rfl; exact ⟨_, x0⟩)
        · repeat (first | refine Bel.setCell ?_ (Nat.le_refl _) _ | exact hbw)
    · have HR : Hid (K.fmt op = none) := hid (by rw [HI.out, show 11 - j = 0 by omega]; rfl)
      clear hf
      go_wp2
      refine bodyPost_ret (v := .tuple #[.agg #[.int .i64 0, .int .i64 0, .int .i64 0, .nilFunc, .nilFunc], .bool false]) (by simp [results, Tryz.results106, go_sem, z0, z1, z2, z3, z4]) rfl (.inr ⟨HR.out, rfl, ?_⟩)
      repeat (first | refine Bel.setCell ?_ (Nat.le_refl _) _ | exact hb0.trans hbr)
theorem takes2_c (f1 f2 : FuncId) (w : World) (T : TypeId) :
    Calls Tryz.prog 142 #[.slice (some ⟨w.heap.size, 0, none⟩) 2 2] (w.alloc (.cells #[.func (.func f1) #[] #[], .func (.func f2) #[] #[]] T)) fun e w' => ∃ c, e = .returned (.func (.func 166) #[] #[.pointer (some ⟨c, 0, none⟩)]) ∧ K.Cl 166 [f1, f2] (.func (.func 166) #[] #[.pointer (some ⟨c, 0, none⟩)]) w' ∧ Bel w w' :=
  (takes2_any f1 f2 w T).mono fun e w' ⟨v, he, ⟨c, h, cap, hv, h1, h2⟩, hb⟩ => ⟨c, by rw [he, hv], ⟨c, h, cap, rfl, h1, h2⟩, hb⟩
theorem puts2_c (f1 f2 : FuncId) (w : World) (T : TypeId) :
    Calls Tryz.prog 144 #[.slice (some ⟨w.heap.size, 0, none⟩) 2 2] (w.alloc (.cells #[.func (.func f1) #[] #[], .func (.func f2) #[] #[]] T)) fun e w' => ∃ c, e = .returned (.func (.func 168) #[] #[.pointer (some ⟨c, 0, none⟩)]) ∧ K.Cl 168 [f1, f2] (.func (.func 168) #[] #[.pointer (some ⟨c, 0, none⟩)]) w' ∧ Bel w w' :=
  (puts2_any f1 f2 w T).mono fun e w' ⟨v, he, ⟨c, h, cap, hv, h1, h2⟩, hb⟩ => ⟨c, by rw [he, hv], ⟨c, h, cap, rfl, h1, h2⟩, hb⟩
theorem takes3_c (f1 f2 f3 : FuncId) (w : World) (T : TypeId) :
    Calls Tryz.prog 142 #[.slice (some ⟨w.heap.size, 0, none⟩) 3 3] (w.alloc (.cells #[.func (.func f1) #[] #[], .func (.func f2) #[] #[], .func (.func f3) #[] #[]] T)) fun e w' => ∃ c, e = .returned (.func (.func 166) #[] #[.pointer (some ⟨c, 0, none⟩)]) ∧ K.Cl 166 [f1, f2, f3] (.func (.func 166) #[] #[.pointer (some ⟨c, 0, none⟩)]) w' ∧ Bel w w' :=
  (takes3_any f1 f2 f3 w T).mono fun e w' ⟨v, he, ⟨c, h, cap, hv, h1, h2⟩, hb⟩ => ⟨c, by rw [he, hv], ⟨c, h, cap, rfl, h1, h2⟩, hb⟩
theorem puts3_c (f1 f2 f3 : FuncId) (w : World) (T : TypeId) :
    Calls Tryz.prog 144 #[.slice (some ⟨w.heap.size, 0, none⟩) 3 3] (w.alloc (.cells #[.func (.func f1) #[] #[], .func (.func f2) #[] #[], .func (.func f3) #[] #[]] T)) fun e w' => ∃ c, e = .returned (.func (.func 168) #[] #[.pointer (some ⟨c, 0, none⟩)]) ∧ K.Cl 168 [f1, f2, f3] (.func (.func 168) #[] #[.pointer (some ⟨c, 0, none⟩)]) w' ∧ Bel w w' :=
  (puts3_any f1 f2 f3 w T).mono fun e w' ⟨v, he, ⟨c, h, cap, hv, h1, h2⟩, hb⟩ => ⟨c, by rw [he, hv], ⟨c, h, cap, rfl, h1, h2⟩, hb⟩
theorem cell_new (w : World) (cs : Array Value) (T : TypeId) (j : Nat) (v : Value) (h : cs[j]? = some v) : (w.alloc (.cells cs T)).cell? ⟨w.heap.size, j, none⟩ = some v := by
  rw [← h]; unfold World.cell? World.alloc; simp
set_option maxHeartbeats 2000000 in
theorem formats_any : K.FmtsOK := by
  intro w
  go_enter Tryz.func127, Tryz.ntmps127
  go_wp2_with fail
  refine (takes2_c _ _ _ _).mono ?_
  rintro e w1 ⟨c1, rfl, hv1, hb1⟩
  have H1 := hid hv1; have B1 := hid hb1; clear hv1 hb1
  go_wp2_with fail
  refine (puts2_c _ _ _ _).mono ?_
  rintro e w2 ⟨c2, rfl, hv2, hb2⟩
  have H2 := hid hv2; have B2 := hid hb2; clear hv2 hb2
  go_wp2_with fail
  refine (takes2_c _ _ _ _).mono ?_
  rintro e w3 ⟨c3, rfl, hv3, hb3⟩
  have H3 := hid hv3; have B3 := hid hb3; clear hv3 hb3
  go_wp2_with fail
  refine (puts2_c _ _ _ _).mono ?_
  rintro e w4 ⟨c4, rfl, hv4, hb4⟩
  have H4 := hid hv4; have B4 := hid hb4; clear hv4 hb4
  go_wp2_with fail
  refine (takes2_c _ _ _ _).mono ?_
  rintro e w5 ⟨c5, rfl, hv5, hb5⟩
  have H5 := hid hv5; have B5 := hid hb5; clear hv5 hb5
  go_wp2_with fail
  refine (puts2_c _ _ _ _).mono ?_
  rintro e w6 ⟨c6, rfl, hv6, hb6⟩
  have H6 := hid hv6; have B6 := hid hb6; clear hv6 hb6
  go_wp2_with fail
  refine (takes3_c _ _ _ _ _).mono ?_
  rintro e w7 ⟨c7, rfl, hv7, hb7⟩
  have H7 := hid hv7; have B7 := hid hb7; clear hv7 hb7
  go_wp2_with fail
  refine (puts3_c _ _ _ _ _).mono ?_
  rintro e w8 ⟨c8, rfl, hv8, hb8⟩
  have H8 := hid hv8; have B8 := hid hb8; clear hv8 hb8
  go_wp2_with fail
  go_ret
  refine ⟨w8.heap.size, fun k => [.func (.func 136) #[] #[], .func (.func 138) #[] #[], .func (.func 140) #[] #[], .func (.func 166) #[] #[.pointer (some ⟨c1, 0, none⟩)], .func (.func 166) #[] #[.pointer (some ⟨c3, 0, none⟩)], .func (.func 166) #[] #[.pointer (some ⟨c5, 0, none⟩)], .func (.func 166) #[] #[.pointer (some ⟨c7, 0, none⟩)], .func (.func 143) #[] #[], .func (.func 146) #[] #[], .func (.func 150) #[] #[], .func (.func 140) #[] #[]].getD k .nilFunc, fun k => [.func (.func 137) #[] #[], .func (.func 139) #[] #[], .func (.func 141) #[] #[], .func (.func 168) #[] #[.pointer (some ⟨c2, 0, none⟩)], .func (.func 168) #[] #[.pointer (some ⟨c4, 0, none⟩)], .func (.func 168) #[] #[.pointer (some ⟨c6, 0, none⟩)], .func (.func 168) #[] #[.pointer (some ⟨c8, 0, none⟩)], .func (.func 145) #[] #[], .func (.func 147) #[] #[], .func (.func 145) #[] #[], .func (.func 141) #[] #[]].getD k .nilFunc, rfl, ?_, ?_⟩
  · have b8 : ∀ o, Bel w8 (w8.alloc o) := fun o => Bel.alloc (Bel.refl _) o
    have b7 := fun o => B8.out.trans (b8 o)
    have b6 := fun o => B7.out.trans (b7 o)
    have b5 := fun o => B6.out.trans (b6 o)
    have b4 := fun o => B5.out.trans (b5 o)
    have b3 := fun o => B4.out.trans (b4 o)
    have b2 := fun o => B3.out.trans (b3 o)
    have b1 := fun o => B2.out.trans (b2 o)
    intro k hk
    rcases (by omega : k = 0 ∨ k = 1 ∨ k = 2 ∨ k = 3 ∨ k = 4 ∨ k = 5 ∨ k = 6 ∨ k = 7 ∨ k = 8 ∨ k = 9 ∨ k = 10) with rfl | rfl | rfl | rfl | rfl | rfl | rfl | rfl | rfl | rfl | rfl
    · exact ⟨cell_new _ _ _ _ _ rfl, cell_new _ _ _ _ _ rfl, cell_new _ _ _ _ _ rfl, cell_new _ _ _ _ _ rfl, cell_new _ _ _ _ _ rfl, ⟨rfl, rfl⟩⟩
    · exact ⟨cell_new _ _ _ _ _ rfl, cell_new _ _ _ _ _ rfl, cell_new _ _ _ _ _ rfl, cell_new _ _ _ _ _ rfl, cell_new _ _ _ _ _ rfl, ⟨rfl, rfl⟩⟩
    · exact ⟨cell_new _ _ _ _ _ rfl, cell_new _ _ _ _ _ rfl, cell_new _ _ _ _ _ rfl, cell_new _ _ _ _ _ rfl, cell_new _ _ _ _ _ rfl, ⟨rfl, rfl⟩⟩
    · exact ⟨cell_new _ _ _ _ _ rfl, cell_new _ _ _ _ _ rfl, cell_new _ _ _ _ _ rfl, cell_new _ _ _ _ _ rfl, cell_new _ _ _ _ _ rfl, ⟨H1.out.bel (b1 _), H2.out.bel (b2 _)⟩⟩
    · exact ⟨cell_new _ _ _ _ _ rfl, cell_new _ _ _ _ _ rfl, cell_new _ _ _ _ _ rfl, cell_new _ _ _ _ _ rfl, cell_new _ _ _ _ _ rfl, ⟨H3.out.bel (b3 _), H4.out.bel (b4 _)⟩⟩
    · exact ⟨cell_new _ _ _ _ _ rfl, cell_new _ _ _ _ _ rfl, cell_new _ _ _ _ _ rfl, cell_new _ _ _ _ _ rfl, cell_new _ _ _ _ _ rfl, ⟨H5.out.bel (b5 _), H6.out.bel (b6 _)⟩⟩
    · exact ⟨cell_new _ _ _ _ _ rfl, cell_new _ _ _ _ _ rfl, cell_new _ _ _ _ _ rfl, cell_new _ _ _ _ _ rfl, cell_new _ _ _ _ _ rfl, ⟨H7.out.bel (b7 _), H8.out.bel (b8 _)⟩⟩
    · exact ⟨cell_new _ _ _ _ _ rfl, cell_new _ _ _ _ _ rfl, cell_new _ _ _ _ _ rfl, cell_new _ _ _ _ _ rfl, cell_new _ _ _ _ _ rfl, ⟨rfl, rfl⟩⟩
    · exact ⟨cell_new _ _ _ _ _ rfl, cell_new _ _ _ _ _ rfl, cell_new _ _ _ _ _ rfl, cell_new _ _ _ _ _ rfl, cell_new _ _ _ _ _ rfl, ⟨rfl, rfl⟩⟩
    · exact ⟨cell_new _ _ _ _ _ rfl, cell_new _ _ _ _ _ rfl, cell_new _ _ _ _ _ rfl, cell_new _ _ _ _ _ rfl, cell_new _ _ _ _ _ rfl, ⟨rfl, rfl⟩⟩
    · exact ⟨cell_new _ _ _ _ _ rfl, cell_new _ _ _ _ _ rfl, cell_new _ _ _ _ _ rfl, cell_new _ _ _ _ _ rfl, cell_new _ _ _ _ _ rfl, ⟨rfl, rfl⟩⟩
  · exact (((((((B1.out.trans B2.out).trans B3.out).trans B4.out).trans B5.out).trans B6.out).trans B7.out).trans B8.out).alloc _
theorem Ch.kept1 {ga g j : Nat} {a b : World} {v : Value} (k : Ch (fun x => x = ga) a b) (h : g ≠ ga) (hc : a.cell? ⟨g, j, none⟩ = some v) : b.cell? ⟨g, j, none⟩ = some v := (k.cell g j (lt_of_cell hc) h).trans hc
theorem Ki.new (x : World) : Ki x.heap.size ⟨0, 0, 0, 0, 0, 0, 0⟩ (x.alloc (.cells #[.int .i64 0, .int .i64 0, .int .i64 0, .int .i64 0, .int .i64 0, .int .u32 0, .int .i64 0] 66)) := ⟨by go_simp, by go_simp, by go_simp, by go_simp, by go_simp, by go_simp, by go_simp, fun j => by go_simp⟩
theorem Ki.new7 (x : World) (i : K.Ins) : Ki x.heap.size i (x.alloc (.cells #[.int .i64 i.op, .int .i64 i.d, .int .i64 i.s, .int .i64 i.ix, .int .i64 i.sc, .int .u32 i.imm, .int .i64 i.sz] 66)) := ⟨by go_simp, by go_simp, by go_simp, by go_simp, by go_simp, by go_simp, by go_simp, fun j => by go_simp⟩
theorem Ki.put7 {g : Nat} {i : K.Ins} {w : World} (h : Ki g i w) (k : K.Ins) : Ki g k (((((((w.setCell ⟨g, 0, none⟩ (.int .i64 k.op)).setCell ⟨g, 1, none⟩ (.int .i64 k.d)).setCell ⟨g, 2, none⟩ (.int .i64 k.s)).setCell ⟨g, 3, none⟩ (.int .i64 k.ix)).setCell ⟨g, 4, none⟩ (.int .i64 k.sc)).setCell ⟨g, 5, none⟩ (.int .u32 k.imm)).setCell ⟨g, 6, none⟩ (.int .i64 k.sz)) := by
  obtain ⟨c0, c1, c2, c3, c4, c5, c6, fz⟩ := h
  have hh : ∀ {x : World} {j j' : Nat} {v : Value} {u : Value}, j ≠ j' → x.cell? ⟨g, j', none⟩ = some u → (x.setCell ⟨g, j, none⟩ v).cell? ⟨g, j', none⟩ = some u := fun hn hc => (other_cell _ _ (.inr hn)).trans hc
  have s0 := cell_set (v := .int .i64 k.op) c0
  have s1 := cell_set (v := .int .i64 k.d) (hh (v := .int .i64 k.op) (show 0 ≠ 1 by decide) c1)
  refine ⟨?_, ?_, ?_, ?_, ?_, ?_, ?_, fun j => by simp only [frozen_set]; exact fz j⟩
  · exact hh (by decide) (hh (by decide) (hh (by decide) (hh (by decide) (hh (by decide) (hh (by decide) (cell_set c0))))))
  · exact hh (by decide) (hh (by decide) (hh (by decide) (hh (by decide) (hh (by decide) (cell_set (hh (by decide) c1))))))
  · exact hh (by decide) (hh (by decide) (hh (by decide) (hh (by decide) (cell_set (hh (by decide) (hh (by decide) c2))))))
  · exact hh (by decide) (hh (by decide) (hh (by decide) (cell_set (hh (by decide) (hh (by decide) (hh (by decide) c3))))))
  · exact hh (by decide) (hh (by decide) (cell_set (hh (by decide) (hh (by decide) (hh (by decide) (hh (by decide) c4))))))
  · exact hh (by decide) (cell_set (hh (by decide) (hh (by decide) (hh (by decide) (hh (by decide) (hh (by decide) c5))))))
  · exact cell_set (hh (by decide) (hh (by decide) (hh (by decide) (hh (by decide) (hh (by decide) (hh (by decide) c6))))))
theorem Ch.undrew {S : Nat → Prop} {a b : World} (h : Ch S a.drew b) : Ch S a b := ⟨h.os, h.tape, h.output, h.size, h.block⟩
theorem Ch.unalloc {S : Nat → Prop} {a b : World} {o : Obj} (h : Ch S (a.alloc o) b) : Ch S a b := ((Bel.alloc (Bel.refl a) o).ch S).trans h
theorem Ch.at_new {ga g j : Nat} {a b : World} {v : Value} (h : Ch (fun x => x = ga) a b) (hg : a.heap.size ≤ g) : Ch (fun x => x = ga) a (b.setCell ⟨g, j, none⟩ v) := h.setCell (p := ⟨g, j, none⟩) (fun hl => absurd hl (Nat.not_lt.2 hg)) v
set_option maxHeartbeats 2000000 in
theorem read_of (lo hi sz : Int) (F G : FuncId) (cs ds : Array Value) (s : ByteArray) (j : K.Ins) (w : World) (hs : s.size ≤ maxLen) (h0 : 0 < s.size) (HE : ∀ (args : Array Value) (w : World), (callFunc F args).run Tryz.prog w = .ok (.enter F args) w)
    (HT : ∀ (ga gs gi : Nat) (wx : World), Rd ga gs s 1 wx → Ki gi ⟨W.byt s.data.toList 0, 0, 0, -1, 0, 0, sz⟩ wx → ga ≠ gi → gs ≠ gi → w.heap.size ≤ ga → w.heap.size ≤ gi → Bel w wx →
      Calls Tryz.prog F (#[.func (.func 129) #[] #[.pointer (some ⟨ga, 0, none⟩), .pointer (some ⟨gs, 0, none⟩)], .pointer (some ⟨gi, 0, none⟩)] ++ cs) wx fun e w' => e = .returned (.tuple #[]) ∧ Ki gi j w' ∧ Ch (fun x => x = ga ∨ x = gi) wx w') :
    Calls Tryz.prog 107 #[.agg #[.int .i64 lo, .int .i64 hi, .int .i64 sz, .func (.func F) #[] cs, .func (.func G) #[] ds], .string s] w fun e w' => e = .returned (.agg #[.int .i64 j.op, .int .i64 j.d, .int .i64 j.s, .int .i64 j.ix, .int .i64 j.sc, .int .u32 j.imm, .int .i64 j.sz]) ∧ Bel w w' := by
  go_enter Tryz.func107, Tryz.ntmps107
  go_upto_region 3 with fail
  obtain ⟨ga, hga⟩ : ∃ x, x = w.heap.size + 1 + 1 + 1 := ⟨_, rfl⟩
  obtain ⟨gs, hgs⟩ : ∃ x, x = w.heap.size + 1 := ⟨_, rfl⟩
  obtain ⟨gr, hgr⟩ : ∃ x, x = w.heap.size + 1 + 1 := ⟨_, rfl⟩
  have hi1 : w.heap.size ≠ ga := by omega
  have hi2 : gs ≠ ga := by omega
  have hi3 : gr ≠ ga := by omega
  have hi4 : gr ≠ gs := by omega
  have hi5 : w.heap.size ≤ ga := by omega
  have hi6 : w.heap.size ≤ gr := by omega
  have R0 : Rd (w.heap.size + 1 + 1 + 1) (w.heap.size + 1) s 0 ((((w.alloc (.cells #[.int .i64 lo, .int .i64 hi, .int .i64 sz, .func (.func F) #[] cs, .func (.func G) #[] ds] 174)).alloc (.cells #[.string s] 9)).alloc (.cells #[.int .i64 0, .int .i64 0, .int .i64 0, .int .i64 0, .int .i64 0, .int .u32 0, .int .i64 0] 66)).alloc (.cells #[.int .i64 0] 3)) := ⟨by go_simp, by go_simp, by go_simp, by omega⟩
  have Q0 : Ki (w.heap.size + 1 + 1) ⟨0, 0, 0, 0, 0, 0, 0⟩ ((((w.alloc (.cells #[.int .i64 lo, .int .i64 hi, .int .i64 sz, .func (.func F) #[] cs, .func (.func G) #[] ds] 174)).alloc (.cells #[.string s] 9)).alloc (.cells #[.int .i64 0, .int .i64 0, .int .i64 0, .int .i64 0, .int .i64 0, .int .u32 0, .int .i64 0] 66)).alloc (.cells #[.int .i64 0] 3)) := ⟨by go_simp, by go_simp, by go_simp, by go_simp, by go_simp, by go_simp, by go_simp, fun j => by go_simp⟩
  have B2 : ((((w.alloc (.cells #[.int .i64 lo, .int .i64 hi, .int .i64 sz, .func (.func F) #[] cs, .func (.func G) #[] ds] 174)).alloc (.cells #[.string s] 9)).alloc (.cells #[.int .i64 0, .int .i64 0, .int .i64 0, .int .i64 0, .int .i64 0, .int .u32 0, .int .i64 0] 66)).alloc (.cells #[.int .i64 0] 3)).cell? ⟨w.heap.size, 2, none⟩ = some (.int .i64 sz) := by go_simp
  have B3 : ((((w.alloc (.cells #[.int .i64 lo, .int .i64 hi, .int .i64 sz, .func (.func F) #[] cs, .func (.func G) #[] ds] 174)).alloc (.cells #[.string s] 9)).alloc (.cells #[.int .i64 0, .int .i64 0, .int .i64 0, .int .i64 0, .int .i64 0, .int .u32 0, .int .i64 0] 66)).alloc (.cells #[.int .i64 0] 3)).cell? ⟨w.heap.size, 3, none⟩ = some (.func (.func F) #[] cs) := by go_simp
  have hb : Bel w ((((w.alloc (.cells #[.int .i64 lo, .int .i64 hi, .int .i64 sz, .func (.func F) #[] cs, .func (.func G) #[] ds] 174)).alloc (.cells #[.string s] 9)).alloc (.cells #[.int .i64 0, .int .i64 0, .int .i64 0, .int .i64 0, .int .i64 0, .int .u32 0, .int .i64 0] 66)).alloc (.cells #[.int .i64 0] 3)) := Nz.bel
  generalize ((((w.alloc (.cells #[.int .i64 lo, .int .i64 hi, .int .i64 sz, .func (.func F) #[] cs, .func (.func G) #[] ds] 174)).alloc (.cells #[.string s] 9)).alloc (.cells #[.int .i64 0, .int .i64 0, .int .i64 0, .int .i64 0, .int .i64 0, .int .u32 0, .int .i64 0] 66)).alloc (.cells #[.int .i64 0] 3)) = wA at *
  rw [← hga, ← hgr, ← hgs] at *
  have hA : ga < wA.heap.size := lt_of_cell R0.at'
  have hS : gs < wA.heap.size := lt_of_cell R0.str
  have hR : gr < wA.heap.size := lt_of_cell Q0.c0
  have hF : w.heap.size < wA.heap.size := lt_of_cell B2
  have hwr : IntKind.i64.wrap (W.byt s.data.toList 0) = W.byt s.data.toList 0 := IntWalk.i64_in _ (by have := W.byt_bd s.data.toList 0; omega)
  have hgB : ga ≠ wA.heap.size := by omega
  have hgC : gs ≠ wA.heap.size := by omega
  have hgA : ¬ wA.heap.size = ga := by omega
  clear hga hgr hgs
  have B2d : ∀ o, (wA.drew.alloc o).cell? ⟨w.heap.size, 2, none⟩ = some (.int .i64 sz) := fun o => Bel.at (Bel.alloc (Bel.drew (Bel.refl _)) o) B2
  have B2e : wA.drew.cell? ⟨w.heap.size, 2, none⟩ = some (.int .i64 sz) := Bel.at (Bel.drew (Bel.refl _)) B2
  go_cut [7] from 9 to 14 (fun s7 wx => ∃ gi, s7 = .pointer (some ⟨gi, 0, none⟩) ∧ wA.heap.size ≤ gi ∧ Rd ga gs s 1 wx ∧ Ki gi ⟨W.byt s.data.toList 0, 0, 0, -1, 0, 0, sz⟩ wx ∧ Ch (fun x => x = ga) wA wx)
  case first =>
    go_region_with (go_at_call 129; refine (next_any _ _ _ 0 _ ?_ h0 hs).mono ?_; (first | exact R0 | exact R0.bel (Bel.alloc (Bel.drew (Bel.refl _)) _) | exact R0.bel (Bel.alloc (Bel.refl _) _) | exact R0.bel (Bel.drew (Bel.refl _))); rintro e w2 ⟨rfl, hr1, hch⟩; (first | (have B2' : w2.cell? ⟨w.heap.size, 2, none⟩ = some (.int .i64 sz) := Ch.kept1 hch hi1 B2) | (have B2' : w2.cell? ⟨w.heap.size, 2, none⟩ = some (.int .i64 sz) := Ch.kept1 hch hi1 (Bel.at (Bel.alloc (Bel.refl _) _) B2)) | (have B2' : w2.cell? ⟨w.heap.size, 2, none⟩ = some (.int .i64 sz) := Ch.kept1 hch hi1 (Bel.at (Bel.drew (Bel.refl _)) B2)) | (have B2' : w2.cell? ⟨w.heap.size, 2, none⟩ = some (.int .i64 sz) := Ch.kept1 hch hi1 (Bel.at (Bel.alloc (Bel.drew (Bel.refl _)) _) B2))); have B2'' : ∀ o, (w2.alloc o).cell? ⟨w.heap.size, 2, none⟩ = some (.int .i64 sz) := (fun o => Bel.at (Bel.alloc (Bel.refl _) o) B2'); try (obtain ⟨A0, A1, A2, A3, A4, A5, A6, AF⟩ := (show Ki wA.heap.size _ (wA.drew.alloc _) from Ki.new wA.drew).ch hch hgA))
    all_goals
      go_wp2_with fail
      go_meet
      first
        | exact ⟨w2.heap.size, rfl, hch.size, hr1.bel (Bel.alloc (Bel.refl _) _), Ki.new7 w2 ⟨W.byt s.data.toList 0, 0, 0, -1, 0, 0, sz⟩, hch.undrew.alloc _⟩
        | exact ⟨wA.heap.size, rfl, Nat.le_refl _, ((((((hr1.set hgB hgC).set hgB hgC).set hgB hgC).set hgB hgC).set hgB hgC).set hgB hgC).set hgB hgC, Ki.put7 (i := ⟨0, 0, 0, 0, 0, 0, 0⟩) ⟨A0, A1, A2, A3, A4, A5, A6, AF⟩ ⟨W.byt s.data.toList 0, 0, 0, -1, 0, 0, sz⟩, ((((((hch.unalloc.undrew.at_new (Nat.le_refl _)).at_new (Nat.le_refl _)).at_new (Nat.le_refl _)).at_new (Nat.le_refl _)).at_new (Nat.le_refl _)).at_new (Nat.le_refl _)).at_new (Nat.le_refl _)⟩
  case rest =>
    obtain ⟨gi, rfl, hgi, hr, hk, hch⟩ := hcut
    have b3 := Ch.kept1 hch hi1 B3
    have Q1 := Q0.ch hch hi3
    have hbc : Bel w wc := Bel.then hb hch (by rintro x rfl; exact hi5)
    have n1 : ga ≠ gi := by omega
    have n2 : gs ≠ gi := by omega
    have n3 : ¬ (gr = ga ∨ gr = gi) := by omega
    have n4 : w.heap.size ≤ gi := by omega
    clear B2 B3 B2d B2e R0 Q0 hgA hgB hgC hA hS hR hF hb hch
    go_wp2_with (refine (HT ga gs gi wc hr hk n1 n2 hi5 n4 hbc).mono ?_; rintro e w3 ⟨rfl, hk3, hch3⟩; obtain ⟨q0, q1, q2, q3, q4, q5, q6, qf⟩ := hk3; obtain ⟨r0, r1, r2, r3, r4, r5, r6, rf⟩ := Q1.ch hch3 n3)
    have hb3 : Bel w w3 := Bel.then hbc hch3 (fun x hx => hx.elim (fun e => e ▸ hi5) (fun e => e ▸ n4))
    refine bodyPost_ret (v := .agg #[.int .i64 j.op, .int .i64 j.d, .int .i64 j.s, .int .i64 j.ix, .int .i64 j.sc, .int .u32 j.imm, .int .i64 j.sz]) (by simp [results, Tryz.results107, go_sem, r0, r1, r2, r3, r4, r5, r6]) rfl ⟨rfl, ?_⟩
    repeat (first | refine Bel.setCell ?_ hi6 _ | exact hb3)
def K.t_plain (l : List UInt8) (n : Nat) (i : K.Ins) : K.Ins := { i with imm := W.byt l n }
theorem plain_t : TakeOK 150 1 K.t_plain := plain_ok
def K.t_none (l : List UInt8) (n : Nat) (i : K.Ins) : K.Ins := i
theorem none_t : TakeOK 136 0 K.t_none := none_ok
def K.i0 (l : List UInt8) (sz : Int) : K.Ins := ⟨W.byt l 0, 0, 0, -1, 0, 0, sz⟩
/-- The instruction that format k reads. -/
def K.rd (k : Nat) (l : List UInt8) (sz : Int) : K.Ins := match k with
  | 0 => K.t_none l 1 (K.i0 l sz)
  | 1 => K.t_reg l 1 (K.i0 l sz)
  | 2 => K.t_pair l 1 (K.i0 l sz)
  | 3 => (K.t_small l (1 + 1) (K.t_reg l (1 + 0) (K.i0 l sz)))
  | 4 => (K.t_full l (1 + 1) (K.t_reg l (1 + 0) (K.i0 l sz)))
  | 5 => (K.t_small l (1 + 1) (K.t_pair l (1 + 0) (K.i0 l sz)))
  | 6 => (K.t_full l (1 + 2) (K.t_index l (1 + 1) (K.t_pair l (1 + 0) (K.i0 l sz))))
  | 7 => K.t_small l 1 (K.i0 l sz)
  | 8 => K.t_full l 1 (K.i0 l sz)
  | 9 => K.t_plain l 1 (K.i0 l sz)
  | 10 => K.t_pair l 1 (K.i0 l sz)
  | _ => K.i0 l sz
theorem K.enter_full (args : Array Value) (w : World) : (callFunc 146 args).run Tryz.prog w = .ok (.enter 146 args) w := by go_simp
theorem K.enter_none (args : Array Value) (w : World) : (callFunc 136 args).run Tryz.prog w = .ok (.enter 136 args) w := by go_simp
theorem K.enter_pair (args : Array Value) (w : World) : (callFunc 140 args).run Tryz.prog w = .ok (.enter 140 args) w := by go_simp
theorem K.enter_plain (args : Array Value) (w : World) : (callFunc 150 args).run Tryz.prog w = .ok (.enter 150 args) w := by go_simp
theorem K.enter_reg (args : Array Value) (w : World) : (callFunc 138 args).run Tryz.prog w = .ok (.enter 138 args) w := by go_simp
theorem K.enter_small (args : Array Value) (w : World) : (callFunc 143 args).run Tryz.prog w = .ok (.enter 143 args) w := by go_simp
theorem K.enter_takes_1 (args : Array Value) (w : World) : (callFunc 166 args).run Tryz.prog w = .ok (.enter 166 args) w := by go_simp
theorem read_0 (t p : Value) (w : World) (h : K.Fm 0 t p w) (s : ByteArray) (hs : s.size ≤ maxLen) (hl : 1 ≤ s.size) :
    Calls Tryz.prog 107 #[.agg #[.int .i64 (K.lo 0), .int .i64 (K.hi 0), .int .i64 (K.len 0), t, p], .string s] w fun e w' => e = .returned (.agg #[.int .i64 (K.rd 0 s.data.toList (K.len 0)).op, .int .i64 (K.rd 0 s.data.toList (K.len 0)).d, .int .i64 (K.rd 0 s.data.toList (K.len 0)).s, .int .i64 (K.rd 0 s.data.toList (K.len 0)).ix, .int .i64 (K.rd 0 s.data.toList (K.len 0)).sc, .int .u32 (K.rd 0 s.data.toList (K.len 0)).imm, .int .i64 (K.rd 0 s.data.toList (K.len 0)).sz]) ∧ Bel w w' := by
  obtain ⟨rfl, rfl⟩ := h
  refine read_of _ _ _ _ _ #[] #[] s (K.rd 0 s.data.toList (K.len 0)) w hs (by omega) K.enter_none ?_
  intro ga gs gi wx hr hk n1 n2 h5 h4 hb
  rw [Array.append_empty]
  exact (none_t ga gs gi s 1 _ wx hr hk n1 n2 (by omega) hs).mono fun e w' ⟨a, _, b, c⟩ => ⟨a, b, c⟩
theorem read_1 (t p : Value) (w : World) (h : K.Fm 1 t p w) (s : ByteArray) (hs : s.size ≤ maxLen) (hl : 2 ≤ s.size) :
    Calls Tryz.prog 107 #[.agg #[.int .i64 (K.lo 1), .int .i64 (K.hi 1), .int .i64 (K.len 1), t, p], .string s] w fun e w' => e = .returned (.agg #[.int .i64 (K.rd 1 s.data.toList (K.len 1)).op, .int .i64 (K.rd 1 s.data.toList (K.len 1)).d, .int .i64 (K.rd 1 s.data.toList (K.len 1)).s, .int .i64 (K.rd 1 s.data.toList (K.len 1)).ix, .int .i64 (K.rd 1 s.data.toList (K.len 1)).sc, .int .u32 (K.rd 1 s.data.toList (K.len 1)).imm, .int .i64 (K.rd 1 s.data.toList (K.len 1)).sz]) ∧ Bel w w' := by
  obtain ⟨rfl, rfl⟩ := h
  refine read_of _ _ _ _ _ #[] #[] s (K.rd 1 s.data.toList (K.len 1)) w hs (by omega) K.enter_reg ?_
  intro ga gs gi wx hr hk n1 n2 h5 h4 hb
  rw [Array.append_empty]
  exact (reg_t ga gs gi s 1 _ wx hr hk n1 n2 (by omega) hs).mono fun e w' ⟨a, _, b, c⟩ => ⟨a, b, c⟩
theorem read_2 (t p : Value) (w : World) (h : K.Fm 2 t p w) (s : ByteArray) (hs : s.size ≤ maxLen) (hl : 2 ≤ s.size) :
    Calls Tryz.prog 107 #[.agg #[.int .i64 (K.lo 2), .int .i64 (K.hi 2), .int .i64 (K.len 2), t, p], .string s] w fun e w' => e = .returned (.agg #[.int .i64 (K.rd 2 s.data.toList (K.len 2)).op, .int .i64 (K.rd 2 s.data.toList (K.len 2)).d, .int .i64 (K.rd 2 s.data.toList (K.len 2)).s, .int .i64 (K.rd 2 s.data.toList (K.len 2)).ix, .int .i64 (K.rd 2 s.data.toList (K.len 2)).sc, .int .u32 (K.rd 2 s.data.toList (K.len 2)).imm, .int .i64 (K.rd 2 s.data.toList (K.len 2)).sz]) ∧ Bel w w' := by
  obtain ⟨rfl, rfl⟩ := h
  refine read_of _ _ _ _ _ #[] #[] s (K.rd 2 s.data.toList (K.len 2)) w hs (by omega) K.enter_pair ?_
  intro ga gs gi wx hr hk n1 n2 h5 h4 hb
  rw [Array.append_empty]
  exact (pair_t ga gs gi s 1 _ wx hr hk n1 n2 (by omega) hs).mono fun e w' ⟨a, _, b, c⟩ => ⟨a, b, c⟩
theorem read_3 (t p : Value) (w : World) (h : K.Fm 3 t p w) (s : ByteArray) (hs : s.size ≤ maxLen) (hl : 3 ≤ s.size) :
    Calls Tryz.prog 107 #[.agg #[.int .i64 (K.lo 3), .int .i64 (K.hi 3), .int .i64 (K.len 3), t, p], .string s] w fun e w' => e = .returned (.agg #[.int .i64 (K.rd 3 s.data.toList (K.len 3)).op, .int .i64 (K.rd 3 s.data.toList (K.len 3)).d, .int .i64 (K.rd 3 s.data.toList (K.len 3)).s, .int .i64 (K.rd 3 s.data.toList (K.len 3)).ix, .int .i64 (K.rd 3 s.data.toList (K.len 3)).sc, .int .u32 (K.rd 3 s.data.toList (K.len 3)).imm, .int .i64 (K.rd 3 s.data.toList (K.len 3)).sz]) ∧ Bel w w' := by
  obtain ⟨⟨c, b, cap, rfl, g1, g2⟩, ⟨c', b', cap', rfl, _, _⟩⟩ := h
  refine read_of _ _ _ _ _ #[.pointer (some ⟨c, 0, none⟩)] _ s (K.rd 3 s.data.toList (K.len 3)) w hs (by omega) K.enter_takes_1 ?_
  intro ga gs gi wx hr hk n1 n2 h5 h4 hb
  have hbl := lt_of_cell (g2 0 (by simp))
  have hq : ∀ j, j < 2 → wx.cell? ⟨b, j, none⟩ = _ := fun j hj => Bel.at hb (g2 j hj)
  have key := takes_reg_small ga gs gi c b cap s 1 _ wx hr hk n1 n2 (by omega) hs (Bel.at hb g1) (hq 0 (by decide)) (hq 1 (by decide)) (by simp at hbl; omega) (by simp at hbl; omega)
  exact key.mono fun e w' ⟨a, _, b, c⟩ => ⟨a, b, c⟩
theorem read_4 (t p : Value) (w : World) (h : K.Fm 4 t p w) (s : ByteArray) (hs : s.size ≤ maxLen) (hl : 6 ≤ s.size) :
    Calls Tryz.prog 107 #[.agg #[.int .i64 (K.lo 4), .int .i64 (K.hi 4), .int .i64 (K.len 4), t, p], .string s] w fun e w' => e = .returned (.agg #[.int .i64 (K.rd 4 s.data.toList (K.len 4)).op, .int .i64 (K.rd 4 s.data.toList (K.len 4)).d, .int .i64 (K.rd 4 s.data.toList (K.len 4)).s, .int .i64 (K.rd 4 s.data.toList (K.len 4)).ix, .int .i64 (K.rd 4 s.data.toList (K.len 4)).sc, .int .u32 (K.rd 4 s.data.toList (K.len 4)).imm, .int .i64 (K.rd 4 s.data.toList (K.len 4)).sz]) ∧ Bel w w' := by
  obtain ⟨⟨c, b, cap, rfl, g1, g2⟩, ⟨c', b', cap', rfl, _, _⟩⟩ := h
  refine read_of _ _ _ _ _ #[.pointer (some ⟨c, 0, none⟩)] _ s (K.rd 4 s.data.toList (K.len 4)) w hs (by omega) K.enter_takes_1 ?_
  intro ga gs gi wx hr hk n1 n2 h5 h4 hb
  have hbl := lt_of_cell (g2 0 (by simp))
  have hq : ∀ j, j < 2 → wx.cell? ⟨b, j, none⟩ = _ := fun j hj => Bel.at hb (g2 j hj)
  have key := takes_reg_full ga gs gi c b cap s 1 _ wx hr hk n1 n2 (by omega) hs (Bel.at hb g1) (hq 0 (by decide)) (hq 1 (by decide)) (by simp at hbl; omega) (by simp at hbl; omega)
  exact key.mono fun e w' ⟨a, _, b, c⟩ => ⟨a, b, c⟩
theorem read_5 (t p : Value) (w : World) (h : K.Fm 5 t p w) (s : ByteArray) (hs : s.size ≤ maxLen) (hl : 3 ≤ s.size) :
    Calls Tryz.prog 107 #[.agg #[.int .i64 (K.lo 5), .int .i64 (K.hi 5), .int .i64 (K.len 5), t, p], .string s] w fun e w' => e = .returned (.agg #[.int .i64 (K.rd 5 s.data.toList (K.len 5)).op, .int .i64 (K.rd 5 s.data.toList (K.len 5)).d, .int .i64 (K.rd 5 s.data.toList (K.len 5)).s, .int .i64 (K.rd 5 s.data.toList (K.len 5)).ix, .int .i64 (K.rd 5 s.data.toList (K.len 5)).sc, .int .u32 (K.rd 5 s.data.toList (K.len 5)).imm, .int .i64 (K.rd 5 s.data.toList (K.len 5)).sz]) ∧ Bel w w' := by
  obtain ⟨⟨c, b, cap, rfl, g1, g2⟩, ⟨c', b', cap', rfl, _, _⟩⟩ := h
  refine read_of _ _ _ _ _ #[.pointer (some ⟨c, 0, none⟩)] _ s (K.rd 5 s.data.toList (K.len 5)) w hs (by omega) K.enter_takes_1 ?_
  intro ga gs gi wx hr hk n1 n2 h5 h4 hb
  have hbl := lt_of_cell (g2 0 (by simp))
  have hq : ∀ j, j < 2 → wx.cell? ⟨b, j, none⟩ = _ := fun j hj => Bel.at hb (g2 j hj)
  have key := takes_pair_small ga gs gi c b cap s 1 _ wx hr hk n1 n2 (by omega) hs (Bel.at hb g1) (hq 0 (by decide)) (hq 1 (by decide)) (by simp at hbl; omega) (by simp at hbl; omega)
  exact key.mono fun e w' ⟨a, _, b, c⟩ => ⟨a, b, c⟩
theorem read_6 (t p : Value) (w : World) (h : K.Fm 6 t p w) (s : ByteArray) (hs : s.size ≤ maxLen) (hl : 7 ≤ s.size) :
    Calls Tryz.prog 107 #[.agg #[.int .i64 (K.lo 6), .int .i64 (K.hi 6), .int .i64 (K.len 6), t, p], .string s] w fun e w' => e = .returned (.agg #[.int .i64 (K.rd 6 s.data.toList (K.len 6)).op, .int .i64 (K.rd 6 s.data.toList (K.len 6)).d, .int .i64 (K.rd 6 s.data.toList (K.len 6)).s, .int .i64 (K.rd 6 s.data.toList (K.len 6)).ix, .int .i64 (K.rd 6 s.data.toList (K.len 6)).sc, .int .u32 (K.rd 6 s.data.toList (K.len 6)).imm, .int .i64 (K.rd 6 s.data.toList (K.len 6)).sz]) ∧ Bel w w' := by
  obtain ⟨⟨c, b, cap, rfl, g1, g2⟩, ⟨c', b', cap', rfl, _, _⟩⟩ := h
  refine read_of _ _ _ _ _ #[.pointer (some ⟨c, 0, none⟩)] _ s (K.rd 6 s.data.toList (K.len 6)) w hs (by omega) K.enter_takes_1 ?_
  intro ga gs gi wx hr hk n1 n2 h5 h4 hb
  have hbl := lt_of_cell (g2 0 (by simp))
  have hq : ∀ j, j < 3 → wx.cell? ⟨b, j, none⟩ = _ := fun j hj => Bel.at hb (g2 j hj)
  have key := takes_pair_index_full ga gs gi c b cap s 1 _ wx hr hk n1 n2 (by omega) hs (Bel.at hb g1) (hq 0 (by decide)) (hq 1 (by decide)) (hq 2 (by decide)) (by simp at hbl; omega) (by simp at hbl; omega)
  exact key.mono fun e w' ⟨a, _, b, c⟩ => ⟨a, b, c⟩
theorem read_7 (t p : Value) (w : World) (h : K.Fm 7 t p w) (s : ByteArray) (hs : s.size ≤ maxLen) (hl : 2 ≤ s.size) :
    Calls Tryz.prog 107 #[.agg #[.int .i64 (K.lo 7), .int .i64 (K.hi 7), .int .i64 (K.len 7), t, p], .string s] w fun e w' => e = .returned (.agg #[.int .i64 (K.rd 7 s.data.toList (K.len 7)).op, .int .i64 (K.rd 7 s.data.toList (K.len 7)).d, .int .i64 (K.rd 7 s.data.toList (K.len 7)).s, .int .i64 (K.rd 7 s.data.toList (K.len 7)).ix, .int .i64 (K.rd 7 s.data.toList (K.len 7)).sc, .int .u32 (K.rd 7 s.data.toList (K.len 7)).imm, .int .i64 (K.rd 7 s.data.toList (K.len 7)).sz]) ∧ Bel w w' := by
  obtain ⟨rfl, rfl⟩ := h
  refine read_of _ _ _ _ _ #[] #[] s (K.rd 7 s.data.toList (K.len 7)) w hs (by omega) K.enter_small ?_
  intro ga gs gi wx hr hk n1 n2 h5 h4 hb
  rw [Array.append_empty]
  exact (small_t ga gs gi s 1 _ wx hr hk n1 n2 (by omega) hs).mono fun e w' ⟨a, _, b, c⟩ => ⟨a, b, c⟩
theorem read_8 (t p : Value) (w : World) (h : K.Fm 8 t p w) (s : ByteArray) (hs : s.size ≤ maxLen) (hl : 5 ≤ s.size) :
    Calls Tryz.prog 107 #[.agg #[.int .i64 (K.lo 8), .int .i64 (K.hi 8), .int .i64 (K.len 8), t, p], .string s] w fun e w' => e = .returned (.agg #[.int .i64 (K.rd 8 s.data.toList (K.len 8)).op, .int .i64 (K.rd 8 s.data.toList (K.len 8)).d, .int .i64 (K.rd 8 s.data.toList (K.len 8)).s, .int .i64 (K.rd 8 s.data.toList (K.len 8)).ix, .int .i64 (K.rd 8 s.data.toList (K.len 8)).sc, .int .u32 (K.rd 8 s.data.toList (K.len 8)).imm, .int .i64 (K.rd 8 s.data.toList (K.len 8)).sz]) ∧ Bel w w' := by
  obtain ⟨rfl, rfl⟩ := h
  refine read_of _ _ _ _ _ #[] #[] s (K.rd 8 s.data.toList (K.len 8)) w hs (by omega) K.enter_full ?_
  intro ga gs gi wx hr hk n1 n2 h5 h4 hb
  rw [Array.append_empty]
  exact (full_t ga gs gi s 1 _ wx hr hk n1 n2 (by omega) hs).mono fun e w' ⟨a, _, b, c⟩ => ⟨a, b, c⟩
theorem read_9 (t p : Value) (w : World) (h : K.Fm 9 t p w) (s : ByteArray) (hs : s.size ≤ maxLen) (hl : 2 ≤ s.size) :
    Calls Tryz.prog 107 #[.agg #[.int .i64 (K.lo 9), .int .i64 (K.hi 9), .int .i64 (K.len 9), t, p], .string s] w fun e w' => e = .returned (.agg #[.int .i64 (K.rd 9 s.data.toList (K.len 9)).op, .int .i64 (K.rd 9 s.data.toList (K.len 9)).d, .int .i64 (K.rd 9 s.data.toList (K.len 9)).s, .int .i64 (K.rd 9 s.data.toList (K.len 9)).ix, .int .i64 (K.rd 9 s.data.toList (K.len 9)).sc, .int .u32 (K.rd 9 s.data.toList (K.len 9)).imm, .int .i64 (K.rd 9 s.data.toList (K.len 9)).sz]) ∧ Bel w w' := by
  obtain ⟨rfl, rfl⟩ := h
  refine read_of _ _ _ _ _ #[] #[] s (K.rd 9 s.data.toList (K.len 9)) w hs (by omega) K.enter_plain ?_
  intro ga gs gi wx hr hk n1 n2 h5 h4 hb
  rw [Array.append_empty]
  exact (plain_t ga gs gi s 1 _ wx hr hk n1 n2 (by omega) hs).mono fun e w' ⟨a, _, b, c⟩ => ⟨a, b, c⟩
theorem read_10 (t p : Value) (w : World) (h : K.Fm 10 t p w) (s : ByteArray) (hs : s.size ≤ maxLen) (hl : 2 ≤ s.size) :
    Calls Tryz.prog 107 #[.agg #[.int .i64 (K.lo 10), .int .i64 (K.hi 10), .int .i64 (K.len 10), t, p], .string s] w fun e w' => e = .returned (.agg #[.int .i64 (K.rd 10 s.data.toList (K.len 10)).op, .int .i64 (K.rd 10 s.data.toList (K.len 10)).d, .int .i64 (K.rd 10 s.data.toList (K.len 10)).s, .int .i64 (K.rd 10 s.data.toList (K.len 10)).ix, .int .i64 (K.rd 10 s.data.toList (K.len 10)).sc, .int .u32 (K.rd 10 s.data.toList (K.len 10)).imm, .int .i64 (K.rd 10 s.data.toList (K.len 10)).sz]) ∧ Bel w w' := by
  obtain ⟨rfl, rfl⟩ := h
  refine read_of _ _ _ _ _ #[] #[] s (K.rd 10 s.data.toList (K.len 10)) w hs (by omega) K.enter_pair ?_
  intro ga gs gi wx hr hk n1 n2 h5 h4 hb
  rw [Array.append_empty]
  exact (pair_t ga gs gi s 1 _ wx hr hk n1 n2 (by omega) hs).mono fun e w' ⟨a, _, b, c⟩ => ⟨a, b, c⟩
theorem read_any (k : Nat) (hk : k < 11) (t p : Value) (w : World) (h : K.Fm k t p w) (s : ByteArray) (hs : s.size ≤ maxLen) (hl : K.len k ≤ (s.size : Int)) :
    Calls Tryz.prog 107 #[.agg #[.int .i64 (K.lo k), .int .i64 (K.hi k), .int .i64 (K.len k), t, p], .string s] w fun e w' => e = .returned (.agg #[.int .i64 (K.rd k s.data.toList (K.len k)).op, .int .i64 (K.rd k s.data.toList (K.len k)).d, .int .i64 (K.rd k s.data.toList (K.len k)).s, .int .i64 (K.rd k s.data.toList (K.len k)).ix, .int .i64 (K.rd k s.data.toList (K.len k)).sc, .int .u32 (K.rd k s.data.toList (K.len k)).imm, .int .i64 (K.rd k s.data.toList (K.len k)).sz]) ∧ Bel w w' := by
  rcases (by omega : k = 0 ∨ k = 1 ∨ k = 2 ∨ k = 3 ∨ k = 4 ∨ k = 5 ∨ k = 6 ∨ k = 7 ∨ k = 8 ∨ k = 9 ∨ k = 10) with rfl | rfl | rfl | rfl | rfl | rfl | rfl | rfl | rfl | rfl | rfl
  · exact read_0 t p w h s hs (by have : K.len 0 = 1 := rfl; omega)
  · exact read_1 t p w h s hs (by have : K.len 1 = 2 := rfl; omega)
  · exact read_2 t p w h s hs (by have : K.len 2 = 2 := rfl; omega)
  · exact read_3 t p w h s hs (by have : K.len 3 = 3 := rfl; omega)
  · exact read_4 t p w h s hs (by have : K.len 4 = 6 := rfl; omega)
  · exact read_5 t p w h s hs (by have : K.len 5 = 3 := rfl; omega)
  · exact read_6 t p w h s hs (by have : K.len 6 = 7 := rfl; omega)
  · exact read_7 t p w h s hs (by have : K.len 7 = 2 := rfl; omega)
  · exact read_8 t p w h s hs (by have : K.len 8 = 5 := rfl; omega)
  · exact read_9 t p w h s hs (by have : K.len 9 = 2 := rfl; omega)
  · exact read_10 t p w h s hs (by have : K.len 10 = 2 := rfl; omega)
def K.p_None (i : K.Ins) : List Int := []
theorem putNone_t : PutOK 137 K.p_None := putNone_ok
/-- The bytes behind the first one that format k writes. -/
def K.wr (k : Nat) (i : K.Ins) : List Int := match k with
  | 0 => K.p_None i
  | 1 => K.p_Reg i
  | 2 => K.p_Pair i
  | 3 => (([] ++ K.p_Reg i) ++ K.p_Byte i)
  | 4 => (([] ++ K.p_Reg i) ++ K.p_Full i)
  | 5 => (([] ++ K.p_Pair i) ++ K.p_Byte i)
  | 6 => ((([] ++ K.p_Pair i) ++ K.p_Index i) ++ K.p_Full i)
  | 7 => K.p_Byte i
  | 8 => K.p_Full i
  | 9 => K.p_Byte i
  | 10 => K.p_Pair i
  | _ => []
theorem K.enter_putByte (args : Array Value) (w : World) : (callFunc 145 args).run Tryz.prog w = .ok (.enter 145 args) w := by go_simp
theorem K.enter_putFull (args : Array Value) (w : World) : (callFunc 147 args).run Tryz.prog w = .ok (.enter 147 args) w := by go_simp
theorem K.enter_putNone (args : Array Value) (w : World) : (callFunc 137 args).run Tryz.prog w = .ok (.enter 137 args) w := by go_simp
theorem K.enter_putPair (args : Array Value) (w : World) : (callFunc 141 args).run Tryz.prog w = .ok (.enter 141 args) w := by go_simp
theorem K.enter_putReg (args : Array Value) (w : World) : (callFunc 139 args).run Tryz.prog w = .ok (.enter 139 args) w := by go_simp
theorem K.enter_puts_1 (args : Array Value) (w : World) : (callFunc 168 args).run Tryz.prog w = .ok (.enter 168 args) w := by go_simp
theorem put_0 (t p : Value) (w0 : World) (h : K.Fm 0 t p w0) (i : K.Ins) (hi : K.In i) : ∃ G ds, p = .func (.func G) #[] ds ∧ (∀ (args : Array Value) (w : World), (callFunc G args).run Tryz.prog w = .ok (.enter G args) w) ∧
    ∀ w, Bel w0 w → Calls Tryz.prog G (#[.agg #[.int .i64 i.op, .int .i64 i.d, .int .i64 i.s, .int .i64 i.ix, .int .i64 i.sc, .int .u32 i.imm, .int .i64 i.sz]] ++ ds) w fun e w' => e = .returned (.string (strOfNums (K.wr 0 i))) ∧ Bel w w' := by
  obtain ⟨rfl, rfl⟩ := h
  refine ⟨_, #[], rfl, K.enter_putNone, fun w hb => ?_⟩
  rw [Array.append_empty]
  exact putNone_t i w hi
theorem put_1 (t p : Value) (w0 : World) (h : K.Fm 1 t p w0) (i : K.Ins) (hi : K.In i) : ∃ G ds, p = .func (.func G) #[] ds ∧ (∀ (args : Array Value) (w : World), (callFunc G args).run Tryz.prog w = .ok (.enter G args) w) ∧
    ∀ w, Bel w0 w → Calls Tryz.prog G (#[.agg #[.int .i64 i.op, .int .i64 i.d, .int .i64 i.s, .int .i64 i.ix, .int .i64 i.sc, .int .u32 i.imm, .int .i64 i.sz]] ++ ds) w fun e w' => e = .returned (.string (strOfNums (K.wr 1 i))) ∧ Bel w w' := by
  obtain ⟨rfl, rfl⟩ := h
  refine ⟨_, #[], rfl, K.enter_putReg, fun w hb => ?_⟩
  rw [Array.append_empty]
  exact putReg_t i w hi
theorem put_2 (t p : Value) (w0 : World) (h : K.Fm 2 t p w0) (i : K.Ins) (hi : K.In i) : ∃ G ds, p = .func (.func G) #[] ds ∧ (∀ (args : Array Value) (w : World), (callFunc G args).run Tryz.prog w = .ok (.enter G args) w) ∧
    ∀ w, Bel w0 w → Calls Tryz.prog G (#[.agg #[.int .i64 i.op, .int .i64 i.d, .int .i64 i.s, .int .i64 i.ix, .int .i64 i.sc, .int .u32 i.imm, .int .i64 i.sz]] ++ ds) w fun e w' => e = .returned (.string (strOfNums (K.wr 2 i))) ∧ Bel w w' := by
  obtain ⟨rfl, rfl⟩ := h
  refine ⟨_, #[], rfl, K.enter_putPair, fun w hb => ?_⟩
  rw [Array.append_empty]
  exact putPair_t i w hi
theorem put_3 (t p : Value) (w0 : World) (h : K.Fm 3 t p w0) (i : K.Ins) (hi : K.In i) : ∃ G ds, p = .func (.func G) #[] ds ∧ (∀ (args : Array Value) (w : World), (callFunc G args).run Tryz.prog w = .ok (.enter G args) w) ∧
    ∀ w, Bel w0 w → Calls Tryz.prog G (#[.agg #[.int .i64 i.op, .int .i64 i.d, .int .i64 i.s, .int .i64 i.ix, .int .i64 i.sc, .int .u32 i.imm, .int .i64 i.sz]] ++ ds) w fun e w' => e = .returned (.string (strOfNums (K.wr 3 i))) ∧ Bel w w' := by
  obtain ⟨⟨c', b', cap', rfl, _, _⟩, ⟨c, b, cap, rfl, g1, g2⟩⟩ := h
  refine ⟨_, #[.pointer (some ⟨c, 0, none⟩)], rfl, K.enter_puts_1, fun w hb => ?_⟩
  have hq : ∀ j, j < 2 → w.cell? ⟨b, j, none⟩ = _ := fun j hj => Bel.at hb (g2 j hj)
  exact puts_Reg_Byte c b cap i w hi (Bel.at hb g1) (hq 0 (by decide)) (hq 1 (by decide))
theorem put_4 (t p : Value) (w0 : World) (h : K.Fm 4 t p w0) (i : K.Ins) (hi : K.In i) : ∃ G ds, p = .func (.func G) #[] ds ∧ (∀ (args : Array Value) (w : World), (callFunc G args).run Tryz.prog w = .ok (.enter G args) w) ∧
    ∀ w, Bel w0 w → Calls Tryz.prog G (#[.agg #[.int .i64 i.op, .int .i64 i.d, .int .i64 i.s, .int .i64 i.ix, .int .i64 i.sc, .int .u32 i.imm, .int .i64 i.sz]] ++ ds) w fun e w' => e = .returned (.string (strOfNums (K.wr 4 i))) ∧ Bel w w' := by
  obtain ⟨⟨c', b', cap', rfl, _, _⟩, ⟨c, b, cap, rfl, g1, g2⟩⟩ := h
  refine ⟨_, #[.pointer (some ⟨c, 0, none⟩)], rfl, K.enter_puts_1, fun w hb => ?_⟩
  have hq : ∀ j, j < 2 → w.cell? ⟨b, j, none⟩ = _ := fun j hj => Bel.at hb (g2 j hj)
  exact puts_Reg_Full c b cap i w hi (Bel.at hb g1) (hq 0 (by decide)) (hq 1 (by decide))
theorem put_5 (t p : Value) (w0 : World) (h : K.Fm 5 t p w0) (i : K.Ins) (hi : K.In i) : ∃ G ds, p = .func (.func G) #[] ds ∧ (∀ (args : Array Value) (w : World), (callFunc G args).run Tryz.prog w = .ok (.enter G args) w) ∧
    ∀ w, Bel w0 w → Calls Tryz.prog G (#[.agg #[.int .i64 i.op, .int .i64 i.d, .int .i64 i.s, .int .i64 i.ix, .int .i64 i.sc, .int .u32 i.imm, .int .i64 i.sz]] ++ ds) w fun e w' => e = .returned (.string (strOfNums (K.wr 5 i))) ∧ Bel w w' := by
  obtain ⟨⟨c', b', cap', rfl, _, _⟩, ⟨c, b, cap, rfl, g1, g2⟩⟩ := h
  refine ⟨_, #[.pointer (some ⟨c, 0, none⟩)], rfl, K.enter_puts_1, fun w hb => ?_⟩
  have hq : ∀ j, j < 2 → w.cell? ⟨b, j, none⟩ = _ := fun j hj => Bel.at hb (g2 j hj)
  exact puts_Pair_Byte c b cap i w hi (Bel.at hb g1) (hq 0 (by decide)) (hq 1 (by decide))
theorem put_6 (t p : Value) (w0 : World) (h : K.Fm 6 t p w0) (i : K.Ins) (hi : K.In i) : ∃ G ds, p = .func (.func G) #[] ds ∧ (∀ (args : Array Value) (w : World), (callFunc G args).run Tryz.prog w = .ok (.enter G args) w) ∧
    ∀ w, Bel w0 w → Calls Tryz.prog G (#[.agg #[.int .i64 i.op, .int .i64 i.d, .int .i64 i.s, .int .i64 i.ix, .int .i64 i.sc, .int .u32 i.imm, .int .i64 i.sz]] ++ ds) w fun e w' => e = .returned (.string (strOfNums (K.wr 6 i))) ∧ Bel w w' := by
  obtain ⟨⟨c', b', cap', rfl, _, _⟩, ⟨c, b, cap, rfl, g1, g2⟩⟩ := h
  refine ⟨_, #[.pointer (some ⟨c, 0, none⟩)], rfl, K.enter_puts_1, fun w hb => ?_⟩
  have hq : ∀ j, j < 3 → w.cell? ⟨b, j, none⟩ = _ := fun j hj => Bel.at hb (g2 j hj)
  exact puts_Pair_Index_Full c b cap i w hi (Bel.at hb g1) (hq 0 (by decide)) (hq 1 (by decide)) (hq 2 (by decide))
theorem put_7 (t p : Value) (w0 : World) (h : K.Fm 7 t p w0) (i : K.Ins) (hi : K.In i) : ∃ G ds, p = .func (.func G) #[] ds ∧ (∀ (args : Array Value) (w : World), (callFunc G args).run Tryz.prog w = .ok (.enter G args) w) ∧
    ∀ w, Bel w0 w → Calls Tryz.prog G (#[.agg #[.int .i64 i.op, .int .i64 i.d, .int .i64 i.s, .int .i64 i.ix, .int .i64 i.sc, .int .u32 i.imm, .int .i64 i.sz]] ++ ds) w fun e w' => e = .returned (.string (strOfNums (K.wr 7 i))) ∧ Bel w w' := by
  obtain ⟨rfl, rfl⟩ := h
  refine ⟨_, #[], rfl, K.enter_putByte, fun w hb => ?_⟩
  rw [Array.append_empty]
  exact putByte_t i w hi
theorem put_8 (t p : Value) (w0 : World) (h : K.Fm 8 t p w0) (i : K.Ins) (hi : K.In i) : ∃ G ds, p = .func (.func G) #[] ds ∧ (∀ (args : Array Value) (w : World), (callFunc G args).run Tryz.prog w = .ok (.enter G args) w) ∧
    ∀ w, Bel w0 w → Calls Tryz.prog G (#[.agg #[.int .i64 i.op, .int .i64 i.d, .int .i64 i.s, .int .i64 i.ix, .int .i64 i.sc, .int .u32 i.imm, .int .i64 i.sz]] ++ ds) w fun e w' => e = .returned (.string (strOfNums (K.wr 8 i))) ∧ Bel w w' := by
  obtain ⟨rfl, rfl⟩ := h
  refine ⟨_, #[], rfl, K.enter_putFull, fun w hb => ?_⟩
  rw [Array.append_empty]
  exact putFull_t i w hi
theorem put_9 (t p : Value) (w0 : World) (h : K.Fm 9 t p w0) (i : K.Ins) (hi : K.In i) : ∃ G ds, p = .func (.func G) #[] ds ∧ (∀ (args : Array Value) (w : World), (callFunc G args).run Tryz.prog w = .ok (.enter G args) w) ∧
    ∀ w, Bel w0 w → Calls Tryz.prog G (#[.agg #[.int .i64 i.op, .int .i64 i.d, .int .i64 i.s, .int .i64 i.ix, .int .i64 i.sc, .int .u32 i.imm, .int .i64 i.sz]] ++ ds) w fun e w' => e = .returned (.string (strOfNums (K.wr 9 i))) ∧ Bel w w' := by
  obtain ⟨rfl, rfl⟩ := h
  refine ⟨_, #[], rfl, K.enter_putByte, fun w hb => ?_⟩
  rw [Array.append_empty]
  exact putByte_t i w hi
theorem put_10 (t p : Value) (w0 : World) (h : K.Fm 10 t p w0) (i : K.Ins) (hi : K.In i) : ∃ G ds, p = .func (.func G) #[] ds ∧ (∀ (args : Array Value) (w : World), (callFunc G args).run Tryz.prog w = .ok (.enter G args) w) ∧
    ∀ w, Bel w0 w → Calls Tryz.prog G (#[.agg #[.int .i64 i.op, .int .i64 i.d, .int .i64 i.s, .int .i64 i.ix, .int .i64 i.sc, .int .u32 i.imm, .int .i64 i.sz]] ++ ds) w fun e w' => e = .returned (.string (strOfNums (K.wr 10 i))) ∧ Bel w w' := by
  obtain ⟨rfl, rfl⟩ := h
  refine ⟨_, #[], rfl, K.enter_putPair, fun w hb => ?_⟩
  rw [Array.append_empty]
  exact putPair_t i w hi
theorem put_any (k : Nat) (hk : k < 11) (t p : Value) (w0 : World) (h : K.Fm k t p w0) (i : K.Ins) (hi : K.In i) : ∃ G ds, p = .func (.func G) #[] ds ∧ (∀ (args : Array Value) (w : World), (callFunc G args).run Tryz.prog w = .ok (.enter G args) w) ∧
    ∀ w, Bel w0 w → Calls Tryz.prog G (#[.agg #[.int .i64 i.op, .int .i64 i.d, .int .i64 i.s, .int .i64 i.ix, .int .i64 i.sc, .int .u32 i.imm, .int .i64 i.sz]] ++ ds) w fun e w' => e = .returned (.string (strOfNums (K.wr k i))) ∧ Bel w w' := by
  rcases (by omega : k = 0 ∨ k = 1 ∨ k = 2 ∨ k = 3 ∨ k = 4 ∨ k = 5 ∨ k = 6 ∨ k = 7 ∨ k = 8 ∨ k = 9 ∨ k = 10) with rfl | rfl | rfl | rfl | rfl | rfl | rfl | rfl | rfl | rfl | rfl
  · exact put_0 t p w0 h i hi
  · exact put_1 t p w0 h i hi
  · exact put_2 t p w0 h i hi
  · exact put_3 t p w0 h i hi
  · exact put_4 t p w0 h i hi
  · exact put_5 t p w0 h i hi
  · exact put_6 t p w0 h i hi
  · exact put_7 t p w0 h i hi
  · exact put_8 t p w0 h i hi
  · exact put_9 t p w0 h i hi
  · exact put_10 t p w0 h i hi
theorem within1_any (n a b : Int) (g : Nat) (w : World) (h0 : w.cell? ⟨g, 0, none⟩ = some (.int .i64 a)) (h1 : w.cell? ⟨g, 1, none⟩ = some (.int .i64 b)) :
    Calls Tryz.prog 128 #[.int .i64 n, .slice (some ⟨g, 0, none⟩) 1 1] w fun e w' => e = .returned (.bool (K.inAny n [(a, b)])) ∧ Bel w w' :=
  within_any n g 0 1 [(a, b)] (by simp) w (fun j hj => by obtain rfl : j = 0 := by simpa using hj
                                                          exact h0) (fun j hj => by obtain rfl : j = 0 := by simpa using hj
                                                                                    exact h1)
def K.most (op : Int) : Int := if op = 129 then 3 else if op = 130 then 4 else 7
/-- The fields are in their ranges. -/
def K.rng (i : K.Ins) : Bool := K.inAny i.d [(0, 7)] && (K.inAny i.s [(0, K.most i.op)] && (K.inAny i.ix [(-1, 7)] && K.inAny i.sc [(0, 3)]))
set_option maxHeartbeats 4000000 in
theorem ranges_1_3 (i : K.Ins) (ho : (i.op == 129) = true) (h0 : K.inAny i.d [(0, 7)] = false) (w : World) :
    Calls Tryz.prog 130 #[.agg #[.int .i64 i.op, .int .i64 i.d, .int .i64 i.s, .int .i64 i.ix, .int .i64 i.sc, .int .u32 i.imm, .int .i64 i.sz]] w fun e w' => e = .returned (.bool false) ∧ Bel w w' := by
  go_enter Tryz.func130, Tryz.ntmps130
  go_wp2_with (first
    | (go_at_call 128; with_reducible refine (within1_any i.d 0 7 _ _ ?_ ?_).mono ?_; go_simp; go_simp; rintro e w2 ⟨rfl, hb2⟩; have hs2 := hb2.size; simp at hs2; have y2 := Bel.at hb2 (ad := ⟨w.heap.size, 2, none⟩) (v := .int .i64 i.s) (by first | assumption | (go_simp)); have y3 := Bel.at hb2 (ad := ⟨w.heap.size, 3, none⟩) (v := .int .i64 i.ix) (by first | assumption | (go_simp)); have y4 := Bel.at hb2 (ad := ⟨w.heap.size, 4, none⟩) (v := .int .i64 i.sc) (by first | assumption | (go_simp)); have hl2 : w.heap.size < w2.heap.size := by omega)
    | (go_at_call 128; with_reducible refine (within1_any i.s 0 3 _ _ ?_ ?_).mono ?_; go_simp; go_simp; rintro e w3 ⟨rfl, hb3⟩; have hs3 := hb3.size; simp at hs3; have z3 := Bel.at hb3 (ad := ⟨w.heap.size, 3, none⟩) (v := .int .i64 i.ix) (by first | assumption | (go_simp)); have z4 := Bel.at hb3 (ad := ⟨w.heap.size, 4, none⟩) (v := .int .i64 i.sc) (by first | assumption | (go_simp)); have hl3 : w.heap.size < w3.heap.size := by omega)
    | (go_at_call 128; with_reducible refine (within1_any i.ix (-1) 7 _ _ ?_ ?_).mono ?_; go_simp; go_simp; rintro e w4 ⟨rfl, hb4⟩; have hs4 := hb4.size; simp at hs4; have x4 := Bel.at hb4 (ad := ⟨w.heap.size, 4, none⟩) (v := .int .i64 i.sc) (by first | assumption | (go_simp)); have hl4 : w.heap.size < w4.heap.size := by omega)
    | (go_at_call 128; with_reducible refine (within1_any i.sc 0 3 _ _ ?_ ?_).mono ?_; go_simp; go_simp; rintro e w5 ⟨rfl, hb5⟩))
  go_ret
  exact ⟨rfl, Nz.bel⟩
set_option maxHeartbeats 4000000 in
theorem ranges_1_4 (i : K.Ins) (ho : (i.op == 129) = false) (ho2 : (i.op == 130) = true) (h0 : K.inAny i.d [(0, 7)] = false) (w : World) :
    Calls Tryz.prog 130 #[.agg #[.int .i64 i.op, .int .i64 i.d, .int .i64 i.s, .int .i64 i.ix, .int .i64 i.sc, .int .u32 i.imm, .int .i64 i.sz]] w fun e w' => e = .returned (.bool false) ∧ Bel w w' := by
  go_enter Tryz.func130, Tryz.ntmps130
  go_wp2_with (first
    | (go_at_call 128; with_reducible refine (within1_any i.d 0 7 _ _ ?_ ?_).mono ?_; go_simp; go_simp; rintro e w2 ⟨rfl, hb2⟩; have hs2 := hb2.size; simp at hs2; have y2 := Bel.at hb2 (ad := ⟨w.heap.size, 2, none⟩) (v := .int .i64 i.s) (by first | assumption | (go_simp)); have y3 := Bel.at hb2 (ad := ⟨w.heap.size, 3, none⟩) (v := .int .i64 i.ix) (by first | assumption | (go_simp)); have y4 := Bel.at hb2 (ad := ⟨w.heap.size, 4, none⟩) (v := .int .i64 i.sc) (by first | assumption | (go_simp)); have hl2 : w.heap.size < w2.heap.size := by omega)
    | (go_at_call 128; with_reducible refine (within1_any i.s 0 4 _ _ ?_ ?_).mono ?_; go_simp; go_simp; rintro e w3 ⟨rfl, hb3⟩; have hs3 := hb3.size; simp at hs3; have z3 := Bel.at hb3 (ad := ⟨w.heap.size, 3, none⟩) (v := .int .i64 i.ix) (by first | assumption | (go_simp)); have z4 := Bel.at hb3 (ad := ⟨w.heap.size, 4, none⟩) (v := .int .i64 i.sc) (by first | assumption | (go_simp)); have hl3 : w.heap.size < w3.heap.size := by omega)
    | (go_at_call 128; with_reducible refine (within1_any i.ix (-1) 7 _ _ ?_ ?_).mono ?_; go_simp; go_simp; rintro e w4 ⟨rfl, hb4⟩; have hs4 := hb4.size; simp at hs4; have x4 := Bel.at hb4 (ad := ⟨w.heap.size, 4, none⟩) (v := .int .i64 i.sc) (by first | assumption | (go_simp)); have hl4 : w.heap.size < w4.heap.size := by omega)
    | (go_at_call 128; with_reducible refine (within1_any i.sc 0 3 _ _ ?_ ?_).mono ?_; go_simp; go_simp; rintro e w5 ⟨rfl, hb5⟩))
  go_ret
  exact ⟨rfl, Nz.bel⟩
set_option maxHeartbeats 4000000 in
theorem ranges_1_7 (i : K.Ins) (ho : (i.op == 129) = false) (ho2 : (i.op == 130) = false) (h0 : K.inAny i.d [(0, 7)] = false) (w : World) :
    Calls Tryz.prog 130 #[.agg #[.int .i64 i.op, .int .i64 i.d, .int .i64 i.s, .int .i64 i.ix, .int .i64 i.sc, .int .u32 i.imm, .int .i64 i.sz]] w fun e w' => e = .returned (.bool false) ∧ Bel w w' := by
  go_enter Tryz.func130, Tryz.ntmps130
  go_wp2_with (first
    | (go_at_call 128; with_reducible refine (within1_any i.d 0 7 _ _ ?_ ?_).mono ?_; go_simp; go_simp; rintro e w2 ⟨rfl, hb2⟩; have hs2 := hb2.size; simp at hs2; have y2 := Bel.at hb2 (ad := ⟨w.heap.size, 2, none⟩) (v := .int .i64 i.s) (by first | assumption | (go_simp)); have y3 := Bel.at hb2 (ad := ⟨w.heap.size, 3, none⟩) (v := .int .i64 i.ix) (by first | assumption | (go_simp)); have y4 := Bel.at hb2 (ad := ⟨w.heap.size, 4, none⟩) (v := .int .i64 i.sc) (by first | assumption | (go_simp)); have hl2 : w.heap.size < w2.heap.size := by omega)
    | (go_at_call 128; with_reducible refine (within1_any i.s 0 7 _ _ ?_ ?_).mono ?_; go_simp; go_simp; rintro e w3 ⟨rfl, hb3⟩; have hs3 := hb3.size; simp at hs3; have z3 := Bel.at hb3 (ad := ⟨w.heap.size, 3, none⟩) (v := .int .i64 i.ix) (by first | assumption | (go_simp)); have z4 := Bel.at hb3 (ad := ⟨w.heap.size, 4, none⟩) (v := .int .i64 i.sc) (by first | assumption | (go_simp)); have hl3 : w.heap.size < w3.heap.size := by omega)
    | (go_at_call 128; with_reducible refine (within1_any i.ix (-1) 7 _ _ ?_ ?_).mono ?_; go_simp; go_simp; rintro e w4 ⟨rfl, hb4⟩; have hs4 := hb4.size; simp at hs4; have x4 := Bel.at hb4 (ad := ⟨w.heap.size, 4, none⟩) (v := .int .i64 i.sc) (by first | assumption | (go_simp)); have hl4 : w.heap.size < w4.heap.size := by omega)
    | (go_at_call 128; with_reducible refine (within1_any i.sc 0 3 _ _ ?_ ?_).mono ?_; go_simp; go_simp; rintro e w5 ⟨rfl, hb5⟩))
  go_ret
  exact ⟨rfl, Nz.bel⟩
set_option maxHeartbeats 4000000 in
theorem ranges_2_3 (i : K.Ins) (ho : (i.op == 129) = true) (h0 : K.inAny i.d [(0, 7)] = true) (h1 : K.inAny i.s [(0, 3)] = false) (w : World) :
    Calls Tryz.prog 130 #[.agg #[.int .i64 i.op, .int .i64 i.d, .int .i64 i.s, .int .i64 i.ix, .int .i64 i.sc, .int .u32 i.imm, .int .i64 i.sz]] w fun e w' => e = .returned (.bool false) ∧ Bel w w' := by
  go_enter Tryz.func130, Tryz.ntmps130
  go_wp2_with (first
    | (go_at_call 128; with_reducible refine (within1_any i.d 0 7 _ _ ?_ ?_).mono ?_; go_simp; go_simp; rintro e w2 ⟨rfl, hb2⟩; have hs2 := hb2.size; simp at hs2; have y2 := Bel.at hb2 (ad := ⟨w.heap.size, 2, none⟩) (v := .int .i64 i.s) (by first | assumption | (go_simp)); have y3 := Bel.at hb2 (ad := ⟨w.heap.size, 3, none⟩) (v := .int .i64 i.ix) (by first | assumption | (go_simp)); have y4 := Bel.at hb2 (ad := ⟨w.heap.size, 4, none⟩) (v := .int .i64 i.sc) (by first | assumption | (go_simp)); have hl2 : w.heap.size < w2.heap.size := by omega)
    | (go_at_call 128; with_reducible refine (within1_any i.s 0 3 _ _ ?_ ?_).mono ?_; go_simp; go_simp; rintro e w3 ⟨rfl, hb3⟩; have hs3 := hb3.size; simp at hs3; have z3 := Bel.at hb3 (ad := ⟨w.heap.size, 3, none⟩) (v := .int .i64 i.ix) (by first | assumption | (go_simp)); have z4 := Bel.at hb3 (ad := ⟨w.heap.size, 4, none⟩) (v := .int .i64 i.sc) (by first | assumption | (go_simp)); have hl3 : w.heap.size < w3.heap.size := by omega)
    | (go_at_call 128; with_reducible refine (within1_any i.ix (-1) 7 _ _ ?_ ?_).mono ?_; go_simp; go_simp; rintro e w4 ⟨rfl, hb4⟩; have hs4 := hb4.size; simp at hs4; have x4 := Bel.at hb4 (ad := ⟨w.heap.size, 4, none⟩) (v := .int .i64 i.sc) (by first | assumption | (go_simp)); have hl4 : w.heap.size < w4.heap.size := by omega)
    | (go_at_call 128; with_reducible refine (within1_any i.sc 0 3 _ _ ?_ ?_).mono ?_; go_simp; go_simp; rintro e w5 ⟨rfl, hb5⟩))
  go_ret
  exact ⟨rfl, Nz.bel⟩
set_option maxHeartbeats 4000000 in
theorem ranges_2_4 (i : K.Ins) (ho : (i.op == 129) = false) (ho2 : (i.op == 130) = true) (h0 : K.inAny i.d [(0, 7)] = true) (h1 : K.inAny i.s [(0, 4)] = false) (w : World) :
    Calls Tryz.prog 130 #[.agg #[.int .i64 i.op, .int .i64 i.d, .int .i64 i.s, .int .i64 i.ix, .int .i64 i.sc, .int .u32 i.imm, .int .i64 i.sz]] w fun e w' => e = .returned (.bool false) ∧ Bel w w' := by
  go_enter Tryz.func130, Tryz.ntmps130
  go_wp2_with (first
    | (go_at_call 128; with_reducible refine (within1_any i.d 0 7 _ _ ?_ ?_).mono ?_; go_simp; go_simp; rintro e w2 ⟨rfl, hb2⟩; have hs2 := hb2.size; simp at hs2; have y2 := Bel.at hb2 (ad := ⟨w.heap.size, 2, none⟩) (v := .int .i64 i.s) (by first | assumption | (go_simp)); have y3 := Bel.at hb2 (ad := ⟨w.heap.size, 3, none⟩) (v := .int .i64 i.ix) (by first | assumption | (go_simp)); have y4 := Bel.at hb2 (ad := ⟨w.heap.size, 4, none⟩) (v := .int .i64 i.sc) (by first | assumption | (go_simp)); have hl2 : w.heap.size < w2.heap.size := by omega)
    | (go_at_call 128; with_reducible refine (within1_any i.s 0 4 _ _ ?_ ?_).mono ?_; go_simp; go_simp; rintro e w3 ⟨rfl, hb3⟩; have hs3 := hb3.size; simp at hs3; have z3 := Bel.at hb3 (ad := ⟨w.heap.size, 3, none⟩) (v := .int .i64 i.ix) (by first | assumption | (go_simp)); have z4 := Bel.at hb3 (ad := ⟨w.heap.size, 4, none⟩) (v := .int .i64 i.sc) (by first | assumption | (go_simp)); have hl3 : w.heap.size < w3.heap.size := by omega)
    | (go_at_call 128; with_reducible refine (within1_any i.ix (-1) 7 _ _ ?_ ?_).mono ?_; go_simp; go_simp; rintro e w4 ⟨rfl, hb4⟩; have hs4 := hb4.size; simp at hs4; have x4 := Bel.at hb4 (ad := ⟨w.heap.size, 4, none⟩) (v := .int .i64 i.sc) (by first | assumption | (go_simp)); have hl4 : w.heap.size < w4.heap.size := by omega)
    | (go_at_call 128; with_reducible refine (within1_any i.sc 0 3 _ _ ?_ ?_).mono ?_; go_simp; go_simp; rintro e w5 ⟨rfl, hb5⟩))
  go_ret
  exact ⟨rfl, Nz.bel⟩
set_option maxHeartbeats 4000000 in
theorem ranges_2_7 (i : K.Ins) (ho : (i.op == 129) = false) (ho2 : (i.op == 130) = false) (h0 : K.inAny i.d [(0, 7)] = true) (h1 : K.inAny i.s [(0, 7)] = false) (w : World) :
    Calls Tryz.prog 130 #[.agg #[.int .i64 i.op, .int .i64 i.d, .int .i64 i.s, .int .i64 i.ix, .int .i64 i.sc, .int .u32 i.imm, .int .i64 i.sz]] w fun e w' => e = .returned (.bool false) ∧ Bel w w' := by
  go_enter Tryz.func130, Tryz.ntmps130
  go_wp2_with (first
    | (go_at_call 128; with_reducible refine (within1_any i.d 0 7 _ _ ?_ ?_).mono ?_; go_simp; go_simp; rintro e w2 ⟨rfl, hb2⟩; have hs2 := hb2.size; simp at hs2; have y2 := Bel.at hb2 (ad := ⟨w.heap.size, 2, none⟩) (v := .int .i64 i.s) (by first | assumption | (go_simp)); have y3 := Bel.at hb2 (ad := ⟨w.heap.size, 3, none⟩) (v := .int .i64 i.ix) (by first | assumption | (go_simp)); have y4 := Bel.at hb2 (ad := ⟨w.heap.size, 4, none⟩) (v := .int .i64 i.sc) (by first | assumption | (go_simp)); have hl2 : w.heap.size < w2.heap.size := by omega)
    | (go_at_call 128; with_reducible refine (within1_any i.s 0 7 _ _ ?_ ?_).mono ?_; go_simp; go_simp; rintro e w3 ⟨rfl, hb3⟩; have hs3 := hb3.size; simp at hs3; have z3 := Bel.at hb3 (ad := ⟨w.heap.size, 3, none⟩) (v := .int .i64 i.ix) (by first | assumption | (go_simp)); have z4 := Bel.at hb3 (ad := ⟨w.heap.size, 4, none⟩) (v := .int .i64 i.sc) (by first | assumption | (go_simp)); have hl3 : w.heap.size < w3.heap.size := by omega)
    | (go_at_call 128; with_reducible refine (within1_any i.ix (-1) 7 _ _ ?_ ?_).mono ?_; go_simp; go_simp; rintro e w4 ⟨rfl, hb4⟩; have hs4 := hb4.size; simp at hs4; have x4 := Bel.at hb4 (ad := ⟨w.heap.size, 4, none⟩) (v := .int .i64 i.sc) (by first | assumption | (go_simp)); have hl4 : w.heap.size < w4.heap.size := by omega)
    | (go_at_call 128; with_reducible refine (within1_any i.sc 0 3 _ _ ?_ ?_).mono ?_; go_simp; go_simp; rintro e w5 ⟨rfl, hb5⟩))
  go_ret
  exact ⟨rfl, Nz.bel⟩
set_option maxHeartbeats 4000000 in
theorem ranges_3_3 (i : K.Ins) (ho : (i.op == 129) = true) (h0 : K.inAny i.d [(0, 7)] = true) (h1 : K.inAny i.s [(0, 3)] = true) (h2 : K.inAny i.ix [(-1, 7)] = false) (w : World) :
    Calls Tryz.prog 130 #[.agg #[.int .i64 i.op, .int .i64 i.d, .int .i64 i.s, .int .i64 i.ix, .int .i64 i.sc, .int .u32 i.imm, .int .i64 i.sz]] w fun e w' => e = .returned (.bool false) ∧ Bel w w' := by
  go_enter Tryz.func130, Tryz.ntmps130
  go_wp2_with (first
    | (go_at_call 128; with_reducible refine (within1_any i.d 0 7 _ _ ?_ ?_).mono ?_; go_simp; go_simp; rintro e w2 ⟨rfl, hb2⟩; have hs2 := hb2.size; simp at hs2; have y2 := Bel.at hb2 (ad := ⟨w.heap.size, 2, none⟩) (v := .int .i64 i.s) (by first | assumption | (go_simp)); have y3 := Bel.at hb2 (ad := ⟨w.heap.size, 3, none⟩) (v := .int .i64 i.ix) (by first | assumption | (go_simp)); have y4 := Bel.at hb2 (ad := ⟨w.heap.size, 4, none⟩) (v := .int .i64 i.sc) (by first | assumption | (go_simp)); have hl2 : w.heap.size < w2.heap.size := by omega)
    | (go_at_call 128; with_reducible refine (within1_any i.s 0 3 _ _ ?_ ?_).mono ?_; go_simp; go_simp; rintro e w3 ⟨rfl, hb3⟩; have hs3 := hb3.size; simp at hs3; have z3 := Bel.at hb3 (ad := ⟨w.heap.size, 3, none⟩) (v := .int .i64 i.ix) (by first | assumption | (go_simp)); have z4 := Bel.at hb3 (ad := ⟨w.heap.size, 4, none⟩) (v := .int .i64 i.sc) (by first | assumption | (go_simp)); have hl3 : w.heap.size < w3.heap.size := by omega)
    | (go_at_call 128; with_reducible refine (within1_any i.ix (-1) 7 _ _ ?_ ?_).mono ?_; go_simp; go_simp; rintro e w4 ⟨rfl, hb4⟩; have hs4 := hb4.size; simp at hs4; have x4 := Bel.at hb4 (ad := ⟨w.heap.size, 4, none⟩) (v := .int .i64 i.sc) (by first | assumption | (go_simp)); have hl4 : w.heap.size < w4.heap.size := by omega)
    | (go_at_call 128; with_reducible refine (within1_any i.sc 0 3 _ _ ?_ ?_).mono ?_; go_simp; go_simp; rintro e w5 ⟨rfl, hb5⟩))
  go_ret
  exact ⟨rfl, Nz.bel⟩
set_option maxHeartbeats 4000000 in
theorem ranges_3_4 (i : K.Ins) (ho : (i.op == 129) = false) (ho2 : (i.op == 130) = true) (h0 : K.inAny i.d [(0, 7)] = true) (h1 : K.inAny i.s [(0, 4)] = true) (h2 : K.inAny i.ix [(-1, 7)] = false) (w : World) :
    Calls Tryz.prog 130 #[.agg #[.int .i64 i.op, .int .i64 i.d, .int .i64 i.s, .int .i64 i.ix, .int .i64 i.sc, .int .u32 i.imm, .int .i64 i.sz]] w fun e w' => e = .returned (.bool false) ∧ Bel w w' := by
  go_enter Tryz.func130, Tryz.ntmps130
  go_wp2_with (first
    | (go_at_call 128; with_reducible refine (within1_any i.d 0 7 _ _ ?_ ?_).mono ?_; go_simp; go_simp; rintro e w2 ⟨rfl, hb2⟩; have hs2 := hb2.size; simp at hs2; have y2 := Bel.at hb2 (ad := ⟨w.heap.size, 2, none⟩) (v := .int .i64 i.s) (by first | assumption | (go_simp)); have y3 := Bel.at hb2 (ad := ⟨w.heap.size, 3, none⟩) (v := .int .i64 i.ix) (by first | assumption | (go_simp)); have y4 := Bel.at hb2 (ad := ⟨w.heap.size, 4, none⟩) (v := .int .i64 i.sc) (by first | assumption | (go_simp)); have hl2 : w.heap.size < w2.heap.size := by omega)
    | (go_at_call 128; with_reducible refine (within1_any i.s 0 4 _ _ ?_ ?_).mono ?_; go_simp; go_simp; rintro e w3 ⟨rfl, hb3⟩; have hs3 := hb3.size; simp at hs3; have z3 := Bel.at hb3 (ad := ⟨w.heap.size, 3, none⟩) (v := .int .i64 i.ix) (by first | assumption | (go_simp)); have z4 := Bel.at hb3 (ad := ⟨w.heap.size, 4, none⟩) (v := .int .i64 i.sc) (by first | assumption | (go_simp)); have hl3 : w.heap.size < w3.heap.size := by omega)
    | (go_at_call 128; with_reducible refine (within1_any i.ix (-1) 7 _ _ ?_ ?_).mono ?_; go_simp; go_simp; rintro e w4 ⟨rfl, hb4⟩; have hs4 := hb4.size; simp at hs4; have x4 := Bel.at hb4 (ad := ⟨w.heap.size, 4, none⟩) (v := .int .i64 i.sc) (by first | assumption | (go_simp)); have hl4 : w.heap.size < w4.heap.size := by omega)
    | (go_at_call 128; with_reducible refine (within1_any i.sc 0 3 _ _ ?_ ?_).mono ?_; go_simp; go_simp; rintro e w5 ⟨rfl, hb5⟩))
  go_ret
  exact ⟨rfl, Nz.bel⟩
set_option maxHeartbeats 4000000 in
theorem ranges_3_7 (i : K.Ins) (ho : (i.op == 129) = false) (ho2 : (i.op == 130) = false) (h0 : K.inAny i.d [(0, 7)] = true) (h1 : K.inAny i.s [(0, 7)] = true) (h2 : K.inAny i.ix [(-1, 7)] = false) (w : World) :
    Calls Tryz.prog 130 #[.agg #[.int .i64 i.op, .int .i64 i.d, .int .i64 i.s, .int .i64 i.ix, .int .i64 i.sc, .int .u32 i.imm, .int .i64 i.sz]] w fun e w' => e = .returned (.bool false) ∧ Bel w w' := by
  go_enter Tryz.func130, Tryz.ntmps130
  go_wp2_with (first
    | (go_at_call 128; with_reducible refine (within1_any i.d 0 7 _ _ ?_ ?_).mono ?_; go_simp; go_simp; rintro e w2 ⟨rfl, hb2⟩; have hs2 := hb2.size; simp at hs2; have y2 := Bel.at hb2 (ad := ⟨w.heap.size, 2, none⟩) (v := .int .i64 i.s) (by first | assumption | (go_simp)); have y3 := Bel.at hb2 (ad := ⟨w.heap.size, 3, none⟩) (v := .int .i64 i.ix) (by first | assumption | (go_simp)); have y4 := Bel.at hb2 (ad := ⟨w.heap.size, 4, none⟩) (v := .int .i64 i.sc) (by first | assumption | (go_simp)); have hl2 : w.heap.size < w2.heap.size := by omega)
    | (go_at_call 128; with_reducible refine (within1_any i.s 0 7 _ _ ?_ ?_).mono ?_; go_simp; go_simp; rintro e w3 ⟨rfl, hb3⟩; have hs3 := hb3.size; simp at hs3; have z3 := Bel.at hb3 (ad := ⟨w.heap.size, 3, none⟩) (v := .int .i64 i.ix) (by first | assumption | (go_simp)); have z4 := Bel.at hb3 (ad := ⟨w.heap.size, 4, none⟩) (v := .int .i64 i.sc) (by first | assumption | (go_simp)); have hl3 : w.heap.size < w3.heap.size := by omega)
    | (go_at_call 128; with_reducible refine (within1_any i.ix (-1) 7 _ _ ?_ ?_).mono ?_; go_simp; go_simp; rintro e w4 ⟨rfl, hb4⟩; have hs4 := hb4.size; simp at hs4; have x4 := Bel.at hb4 (ad := ⟨w.heap.size, 4, none⟩) (v := .int .i64 i.sc) (by first | assumption | (go_simp)); have hl4 : w.heap.size < w4.heap.size := by omega)
    | (go_at_call 128; with_reducible refine (within1_any i.sc 0 3 _ _ ?_ ?_).mono ?_; go_simp; go_simp; rintro e w5 ⟨rfl, hb5⟩))
  go_ret
  exact ⟨rfl, Nz.bel⟩
set_option maxHeartbeats 4000000 in
theorem ranges_4_3 (i : K.Ins) (ho : (i.op == 129) = true) (h0 : K.inAny i.d [(0, 7)] = true) (h1 : K.inAny i.s [(0, 3)] = true) (h2 : K.inAny i.ix [(-1, 7)] = true) (h3 : K.inAny i.sc [(0, 3)] = false) (w : World) :
    Calls Tryz.prog 130 #[.agg #[.int .i64 i.op, .int .i64 i.d, .int .i64 i.s, .int .i64 i.ix, .int .i64 i.sc, .int .u32 i.imm, .int .i64 i.sz]] w fun e w' => e = .returned (.bool false) ∧ Bel w w' := by
  go_enter Tryz.func130, Tryz.ntmps130
  go_wp2_with (first
    | (go_at_call 128; with_reducible refine (within1_any i.d 0 7 _ _ ?_ ?_).mono ?_; go_simp; go_simp; rintro e w2 ⟨rfl, hb2⟩; have hs2 := hb2.size; simp at hs2; have y2 := Bel.at hb2 (ad := ⟨w.heap.size, 2, none⟩) (v := .int .i64 i.s) (by first | assumption | (go_simp)); have y3 := Bel.at hb2 (ad := ⟨w.heap.size, 3, none⟩) (v := .int .i64 i.ix) (by first | assumption | (go_simp)); have y4 := Bel.at hb2 (ad := ⟨w.heap.size, 4, none⟩) (v := .int .i64 i.sc) (by first | assumption | (go_simp)); have hl2 : w.heap.size < w2.heap.size := by omega)
    | (go_at_call 128; with_reducible refine (within1_any i.s 0 3 _ _ ?_ ?_).mono ?_; go_simp; go_simp; rintro e w3 ⟨rfl, hb3⟩; have hs3 := hb3.size; simp at hs3; have z3 := Bel.at hb3 (ad := ⟨w.heap.size, 3, none⟩) (v := .int .i64 i.ix) (by first | assumption | (go_simp)); have z4 := Bel.at hb3 (ad := ⟨w.heap.size, 4, none⟩) (v := .int .i64 i.sc) (by first | assumption | (go_simp)); have hl3 : w.heap.size < w3.heap.size := by omega)
    | (go_at_call 128; with_reducible refine (within1_any i.ix (-1) 7 _ _ ?_ ?_).mono ?_; go_simp; go_simp; rintro e w4 ⟨rfl, hb4⟩; have hs4 := hb4.size; simp at hs4; have x4 := Bel.at hb4 (ad := ⟨w.heap.size, 4, none⟩) (v := .int .i64 i.sc) (by first | assumption | (go_simp)); have hl4 : w.heap.size < w4.heap.size := by omega)
    | (go_at_call 128; with_reducible refine (within1_any i.sc 0 3 _ _ ?_ ?_).mono ?_; go_simp; go_simp; rintro e w5 ⟨rfl, hb5⟩))
  go_ret
  exact ⟨rfl, Nz.bel⟩
set_option maxHeartbeats 4000000 in
theorem ranges_4_4 (i : K.Ins) (ho : (i.op == 129) = false) (ho2 : (i.op == 130) = true) (h0 : K.inAny i.d [(0, 7)] = true) (h1 : K.inAny i.s [(0, 4)] = true) (h2 : K.inAny i.ix [(-1, 7)] = true) (h3 : K.inAny i.sc [(0, 3)] = false) (w : World) :
    Calls Tryz.prog 130 #[.agg #[.int .i64 i.op, .int .i64 i.d, .int .i64 i.s, .int .i64 i.ix, .int .i64 i.sc, .int .u32 i.imm, .int .i64 i.sz]] w fun e w' => e = .returned (.bool false) ∧ Bel w w' := by
  go_enter Tryz.func130, Tryz.ntmps130
  go_wp2_with (first
    | (go_at_call 128; with_reducible refine (within1_any i.d 0 7 _ _ ?_ ?_).mono ?_; go_simp; go_simp; rintro e w2 ⟨rfl, hb2⟩; have hs2 := hb2.size; simp at hs2; have y2 := Bel.at hb2 (ad := ⟨w.heap.size, 2, none⟩) (v := .int .i64 i.s) (by first | assumption | (go_simp)); have y3 := Bel.at hb2 (ad := ⟨w.heap.size, 3, none⟩) (v := .int .i64 i.ix) (by first | assumption | (go_simp)); have y4 := Bel.at hb2 (ad := ⟨w.heap.size, 4, none⟩) (v := .int .i64 i.sc) (by first | assumption | (go_simp)); have hl2 : w.heap.size < w2.heap.size := by omega)
    | (go_at_call 128; with_reducible refine (within1_any i.s 0 4 _ _ ?_ ?_).mono ?_; go_simp; go_simp; rintro e w3 ⟨rfl, hb3⟩; have hs3 := hb3.size; simp at hs3; have z3 := Bel.at hb3 (ad := ⟨w.heap.size, 3, none⟩) (v := .int .i64 i.ix) (by first | assumption | (go_simp)); have z4 := Bel.at hb3 (ad := ⟨w.heap.size, 4, none⟩) (v := .int .i64 i.sc) (by first | assumption | (go_simp)); have hl3 : w.heap.size < w3.heap.size := by omega)
    | (go_at_call 128; with_reducible refine (within1_any i.ix (-1) 7 _ _ ?_ ?_).mono ?_; go_simp; go_simp; rintro e w4 ⟨rfl, hb4⟩; have hs4 := hb4.size; simp at hs4; have x4 := Bel.at hb4 (ad := ⟨w.heap.size, 4, none⟩) (v := .int .i64 i.sc) (by first | assumption | (go_simp)); have hl4 : w.heap.size < w4.heap.size := by omega)
    | (go_at_call 128; with_reducible refine (within1_any i.sc 0 3 _ _ ?_ ?_).mono ?_; go_simp; go_simp; rintro e w5 ⟨rfl, hb5⟩))
  go_ret
  exact ⟨rfl, Nz.bel⟩
set_option maxHeartbeats 4000000 in
theorem ranges_4_7 (i : K.Ins) (ho : (i.op == 129) = false) (ho2 : (i.op == 130) = false) (h0 : K.inAny i.d [(0, 7)] = true) (h1 : K.inAny i.s [(0, 7)] = true) (h2 : K.inAny i.ix [(-1, 7)] = true) (h3 : K.inAny i.sc [(0, 3)] = false) (w : World) :
    Calls Tryz.prog 130 #[.agg #[.int .i64 i.op, .int .i64 i.d, .int .i64 i.s, .int .i64 i.ix, .int .i64 i.sc, .int .u32 i.imm, .int .i64 i.sz]] w fun e w' => e = .returned (.bool false) ∧ Bel w w' := by
  go_enter Tryz.func130, Tryz.ntmps130
  go_wp2_with (first
    | (go_at_call 128; with_reducible refine (within1_any i.d 0 7 _ _ ?_ ?_).mono ?_; go_simp; go_simp; rintro e w2 ⟨rfl, hb2⟩; have hs2 := hb2.size; simp at hs2; have y2 := Bel.at hb2 (ad := ⟨w.heap.size, 2, none⟩) (v := .int .i64 i.s) (by first | assumption | (go_simp)); have y3 := Bel.at hb2 (ad := ⟨w.heap.size, 3, none⟩) (v := .int .i64 i.ix) (by first | assumption | (go_simp)); have y4 := Bel.at hb2 (ad := ⟨w.heap.size, 4, none⟩) (v := .int .i64 i.sc) (by first | assumption | (go_simp)); have hl2 : w.heap.size < w2.heap.size := by omega)
    | (go_at_call 128; with_reducible refine (within1_any i.s 0 7 _ _ ?_ ?_).mono ?_; go_simp; go_simp; rintro e w3 ⟨rfl, hb3⟩; have hs3 := hb3.size; simp at hs3; have z3 := Bel.at hb3 (ad := ⟨w.heap.size, 3, none⟩) (v := .int .i64 i.ix) (by first | assumption | (go_simp)); have z4 := Bel.at hb3 (ad := ⟨w.heap.size, 4, none⟩) (v := .int .i64 i.sc) (by first | assumption | (go_simp)); have hl3 : w.heap.size < w3.heap.size := by omega)
    | (go_at_call 128; with_reducible refine (within1_any i.ix (-1) 7 _ _ ?_ ?_).mono ?_; go_simp; go_simp; rintro e w4 ⟨rfl, hb4⟩; have hs4 := hb4.size; simp at hs4; have x4 := Bel.at hb4 (ad := ⟨w.heap.size, 4, none⟩) (v := .int .i64 i.sc) (by first | assumption | (go_simp)); have hl4 : w.heap.size < w4.heap.size := by omega)
    | (go_at_call 128; with_reducible refine (within1_any i.sc 0 3 _ _ ?_ ?_).mono ?_; go_simp; go_simp; rintro e w5 ⟨rfl, hb5⟩))
  go_ret
  exact ⟨rfl, Nz.bel⟩
set_option maxHeartbeats 4000000 in
theorem ranges_5_3 (i : K.Ins) (ho : (i.op == 129) = true) (h0 : K.inAny i.d [(0, 7)] = true) (h1 : K.inAny i.s [(0, 3)] = true) (h2 : K.inAny i.ix [(-1, 7)] = true) (h3 : K.inAny i.sc [(0, 3)] = true) (w : World) :
    Calls Tryz.prog 130 #[.agg #[.int .i64 i.op, .int .i64 i.d, .int .i64 i.s, .int .i64 i.ix, .int .i64 i.sc, .int .u32 i.imm, .int .i64 i.sz]] w fun e w' => e = .returned (.bool true) ∧ Bel w w' := by
  go_enter Tryz.func130, Tryz.ntmps130
  go_wp2_with (first
    | (go_at_call 128; with_reducible refine (within1_any i.d 0 7 _ _ ?_ ?_).mono ?_; go_simp; go_simp; rintro e w2 ⟨rfl, hb2⟩; have hs2 := hb2.size; simp at hs2; have y2 := Bel.at hb2 (ad := ⟨w.heap.size, 2, none⟩) (v := .int .i64 i.s) (by first | assumption | (go_simp)); have y3 := Bel.at hb2 (ad := ⟨w.heap.size, 3, none⟩) (v := .int .i64 i.ix) (by first | assumption | (go_simp)); have y4 := Bel.at hb2 (ad := ⟨w.heap.size, 4, none⟩) (v := .int .i64 i.sc) (by first | assumption | (go_simp)); have hl2 : w.heap.size < w2.heap.size := by omega)
    | (go_at_call 128; with_reducible refine (within1_any i.s 0 3 _ _ ?_ ?_).mono ?_; go_simp; go_simp; rintro e w3 ⟨rfl, hb3⟩; have hs3 := hb3.size; simp at hs3; have z3 := Bel.at hb3 (ad := ⟨w.heap.size, 3, none⟩) (v := .int .i64 i.ix) (by first | assumption | (go_simp)); have z4 := Bel.at hb3 (ad := ⟨w.heap.size, 4, none⟩) (v := .int .i64 i.sc) (by first | assumption | (go_simp)); have hl3 : w.heap.size < w3.heap.size := by omega)
    | (go_at_call 128; with_reducible refine (within1_any i.ix (-1) 7 _ _ ?_ ?_).mono ?_; go_simp; go_simp; rintro e w4 ⟨rfl, hb4⟩; have hs4 := hb4.size; simp at hs4; have x4 := Bel.at hb4 (ad := ⟨w.heap.size, 4, none⟩) (v := .int .i64 i.sc) (by first | assumption | (go_simp)); have hl4 : w.heap.size < w4.heap.size := by omega)
    | (go_at_call 128; with_reducible refine (within1_any i.sc 0 3 _ _ ?_ ?_).mono ?_; go_simp; go_simp; rintro e w5 ⟨rfl, hb5⟩))
  go_ret
  exact ⟨rfl, Nz.bel⟩
set_option maxHeartbeats 4000000 in
theorem ranges_5_4 (i : K.Ins) (ho : (i.op == 129) = false) (ho2 : (i.op == 130) = true) (h0 : K.inAny i.d [(0, 7)] = true) (h1 : K.inAny i.s [(0, 4)] = true) (h2 : K.inAny i.ix [(-1, 7)] = true) (h3 : K.inAny i.sc [(0, 3)] = true) (w : World) :
    Calls Tryz.prog 130 #[.agg #[.int .i64 i.op, .int .i64 i.d, .int .i64 i.s, .int .i64 i.ix, .int .i64 i.sc, .int .u32 i.imm, .int .i64 i.sz]] w fun e w' => e = .returned (.bool true) ∧ Bel w w' := by
  go_enter Tryz.func130, Tryz.ntmps130
  go_wp2_with (first
    | (go_at_call 128; with_reducible refine (within1_any i.d 0 7 _ _ ?_ ?_).mono ?_; go_simp; go_simp; rintro e w2 ⟨rfl, hb2⟩; have hs2 := hb2.size; simp at hs2; have y2 := Bel.at hb2 (ad := ⟨w.heap.size, 2, none⟩) (v := .int .i64 i.s) (by first | assumption | (go_simp)); have y3 := Bel.at hb2 (ad := ⟨w.heap.size, 3, none⟩) (v := .int .i64 i.ix) (by first | assumption | (go_simp)); have y4 := Bel.at hb2 (ad := ⟨w.heap.size, 4, none⟩) (v := .int .i64 i.sc) (by first | assumption | (go_simp)); have hl2 : w.heap.size < w2.heap.size := by omega)
    | (go_at_call 128; with_reducible refine (within1_any i.s 0 4 _ _ ?_ ?_).mono ?_; go_simp; go_simp; rintro e w3 ⟨rfl, hb3⟩; have hs3 := hb3.size; simp at hs3; have z3 := Bel.at hb3 (ad := ⟨w.heap.size, 3, none⟩) (v := .int .i64 i.ix) (by first | assumption | (go_simp)); have z4 := Bel.at hb3 (ad := ⟨w.heap.size, 4, none⟩) (v := .int .i64 i.sc) (by first | assumption | (go_simp)); have hl3 : w.heap.size < w3.heap.size := by omega)
    | (go_at_call 128; with_reducible refine (within1_any i.ix (-1) 7 _ _ ?_ ?_).mono ?_; go_simp; go_simp; rintro e w4 ⟨rfl, hb4⟩; have hs4 := hb4.size; simp at hs4; have x4 := Bel.at hb4 (ad := ⟨w.heap.size, 4, none⟩) (v := .int .i64 i.sc) (by first | assumption | (go_simp)); have hl4 : w.heap.size < w4.heap.size := by omega)
    | (go_at_call 128; with_reducible refine (within1_any i.sc 0 3 _ _ ?_ ?_).mono ?_; go_simp; go_simp; rintro e w5 ⟨rfl, hb5⟩))
  go_ret
  exact ⟨rfl, Nz.bel⟩
set_option maxHeartbeats 4000000 in
theorem ranges_5_7 (i : K.Ins) (ho : (i.op == 129) = false) (ho2 : (i.op == 130) = false) (h0 : K.inAny i.d [(0, 7)] = true) (h1 : K.inAny i.s [(0, 7)] = true) (h2 : K.inAny i.ix [(-1, 7)] = true) (h3 : K.inAny i.sc [(0, 3)] = true) (w : World) :
    Calls Tryz.prog 130 #[.agg #[.int .i64 i.op, .int .i64 i.d, .int .i64 i.s, .int .i64 i.ix, .int .i64 i.sc, .int .u32 i.imm, .int .i64 i.sz]] w fun e w' => e = .returned (.bool true) ∧ Bel w w' := by
  go_enter Tryz.func130, Tryz.ntmps130
  go_wp2_with (first
    | (go_at_call 128; with_reducible refine (within1_any i.d 0 7 _ _ ?_ ?_).mono ?_; go_simp; go_simp; rintro e w2 ⟨rfl, hb2⟩; have hs2 := hb2.size; simp at hs2; have y2 := Bel.at hb2 (ad := ⟨w.heap.size, 2, none⟩) (v := .int .i64 i.s) (by first | assumption | (go_simp)); have y3 := Bel.at hb2 (ad := ⟨w.heap.size, 3, none⟩) (v := .int .i64 i.ix) (by first | assumption | (go_simp)); have y4 := Bel.at hb2 (ad := ⟨w.heap.size, 4, none⟩) (v := .int .i64 i.sc) (by first | assumption | (go_simp)); have hl2 : w.heap.size < w2.heap.size := by omega)
    | (go_at_call 128; with_reducible refine (within1_any i.s 0 7 _ _ ?_ ?_).mono ?_; go_simp; go_simp; rintro e w3 ⟨rfl, hb3⟩; have hs3 := hb3.size; simp at hs3; have z3 := Bel.at hb3 (ad := ⟨w.heap.size, 3, none⟩) (v := .int .i64 i.ix) (by first | assumption | (go_simp)); have z4 := Bel.at hb3 (ad := ⟨w.heap.size, 4, none⟩) (v := .int .i64 i.sc) (by first | assumption | (go_simp)); have hl3 : w.heap.size < w3.heap.size := by omega)
    | (go_at_call 128; with_reducible refine (within1_any i.ix (-1) 7 _ _ ?_ ?_).mono ?_; go_simp; go_simp; rintro e w4 ⟨rfl, hb4⟩; have hs4 := hb4.size; simp at hs4; have x4 := Bel.at hb4 (ad := ⟨w.heap.size, 4, none⟩) (v := .int .i64 i.sc) (by first | assumption | (go_simp)); have hl4 : w.heap.size < w4.heap.size := by omega)
    | (go_at_call 128; with_reducible refine (within1_any i.sc 0 3 _ _ ?_ ?_).mono ?_; go_simp; go_simp; rintro e w5 ⟨rfl, hb5⟩))
  go_ret
  exact ⟨rfl, Nz.bel⟩
theorem ranges_m (i : K.Ins) (m : Int) (hm : (i.op == 129) = true ∧ m = 3 ∨ (i.op == 129) = false ∧ (i.op == 130) = true ∧ m = 4 ∨ (i.op == 129) = false ∧ (i.op == 130) = false ∧ m = 7) (w : World) :
    Calls Tryz.prog 130 #[.agg #[.int .i64 i.op, .int .i64 i.d, .int .i64 i.s, .int .i64 i.ix, .int .i64 i.sc, .int .u32 i.imm, .int .i64 i.sz]] w fun e w' => e = .returned (.bool (K.inAny i.d [(0, 7)] && (K.inAny i.s [(0, m)] && (K.inAny i.ix [(-1, 7)] && K.inAny i.sc [(0, 3)])))) ∧ Bel w w' := by
  cases h0 : K.inAny i.d [(0, 7)]
  · rcases hm with ⟨ho, rfl⟩ | ⟨ho, ho2, rfl⟩ | ⟨ho, ho2, rfl⟩
    · exact ranges_1_3 i ho h0 w
    · exact ranges_1_4 i ho ho2 h0 w
    · exact ranges_1_7 i ho ho2 h0 w
  · cases h1 : K.inAny i.s [(0, m)]
    · rcases hm with ⟨ho, rfl⟩ | ⟨ho, ho2, rfl⟩ | ⟨ho, ho2, rfl⟩
      · exact ranges_2_3 i ho h0 h1 w
      · exact ranges_2_4 i ho ho2 h0 h1 w
      · exact ranges_2_7 i ho ho2 h0 h1 w
    · cases h2 : K.inAny i.ix [(-1, 7)]
      · rcases hm with ⟨ho, rfl⟩ | ⟨ho, ho2, rfl⟩ | ⟨ho, ho2, rfl⟩
        · exact ranges_3_3 i ho h0 h1 h2 w
        · exact ranges_3_4 i ho ho2 h0 h1 h2 w
        · exact ranges_3_7 i ho ho2 h0 h1 h2 w
      · cases h3 : K.inAny i.sc [(0, 3)]
        · rcases hm with ⟨ho, rfl⟩ | ⟨ho, ho2, rfl⟩ | ⟨ho, ho2, rfl⟩
          · exact ranges_4_3 i ho h0 h1 h2 h3 w
          · exact ranges_4_4 i ho ho2 h0 h1 h2 h3 w
          · exact ranges_4_7 i ho ho2 h0 h1 h2 h3 w
        · rcases hm with ⟨ho, rfl⟩ | ⟨ho, ho2, rfl⟩ | ⟨ho, ho2, rfl⟩
          · exact ranges_5_3 i ho h0 h1 h2 h3 w
          · exact ranges_5_4 i ho ho2 h0 h1 h2 h3 w
          · exact ranges_5_7 i ho ho2 h0 h1 h2 h3 w
theorem ranges_any (i : K.Ins) (w : World) : Calls Tryz.prog 130 #[.agg #[.int .i64 i.op, .int .i64 i.d, .int .i64 i.s, .int .i64 i.ix, .int .i64 i.sc, .int .u32 i.imm, .int .i64 i.sz]] w fun e w' => e = .returned (.bool (K.rng i)) ∧ Bel w w' := by
  unfold K.rng K.most
  by_cases h1 : i.op = 129
  · rw [if_pos h1]; exact ranges_m i 3 (.inl ⟨by simp [h1], rfl⟩) w
  · rw [if_neg h1]
    by_cases h2 : i.op = 130
    · rw [if_pos h2]; exact ranges_m i 4 (.inr (.inl ⟨by simp [h1], by simp [h2], rfl⟩)) w
    · rw [if_neg h2]; exact ranges_m i 7 (.inr (.inr ⟨by simp [h1], by simp [h2], rfl⟩)) w
def R2.reg (x : Int) : Bool := ((decide (x ≥ 0)) && (decide (x < 8)))
theorem R2_reg (x : Int) (w : World) : Calls Tryz.prog 104 #[.int .i64 x] w fun e w' => e = .returned (.bool (R2.reg x)) ∧ Bel w w' := by
 refine E.enter (n := 9) (S := fun _ => False) Tryz.func104 rfl rfl Nz.k (E.Hp.start w) (E.sr (E.op (.bool false) (E.tr (E.op (E.i x) (E.op (.bool (decide (x ≥ 0))) (E.op (.bool (decide (x ≥ 0))) (E.G.cut 3 [(2, .bool false), (8, .bool ((decide (x ≥ 0)) && (decide (x < 8))))] (fun _ => True) [] ?_ ?_)))))))
 ·
  generalize hc1 : (decide (x ≥ 0)) = b2
  cases b2
  ·
   exact E.sk (E.sk (E.op (.bool false) (E.G.end_pst ⟨Nz.k, Nz.k⟩ Nz.sub (fun _ h => h))))
  exact E.op (E.i x) (E.op (.bool (decide (x < 8))) (E.op (.bool (decide (x < 8))) (E.G.end_pst ⟨Nz.k, Nz.k⟩ Nz.sub (fun _ h => h))))
 exact E.op (.bool ((decide (x ≥ 0)) && (decide (x < 8)))) (E.To.code (E.C.ret (E.bd Tryz.f104 [.bool ((decide (x ≥ 0)) && (decide (x < 8)))] (fun w h => ⟨rfl, h.ch.bel (fun _ h => h.elim)⟩))))

def R2.signed (x : Int) : Bool := ((decide (x < 128)) || (decide (x ≥ 4294967168)))
theorem R2_signed (x : Int) (w : World) : Calls Tryz.prog 105 #[.int .u32 x] w fun e w' => e = .returned (.bool (R2.signed x)) ∧ Bel w w' := by
 refine E.enter (n := 9) (S := fun _ => False) Tryz.func105 rfl rfl Nz.k (E.Hp.start w) (E.sr (E.op (.bool false) (E.tr (E.op (E.u x) (E.op (.bool (decide (x < 128))) (E.op (.bool (decide (x < 128))) (E.G.cut 3 [(2, .bool false), (8, .bool ((decide (x < 128)) || (decide (x ≥ 4294967168))))] (fun _ => True) [] ?_ ?_)))))))
 ·
  generalize hc1 : (decide (x < 128)) = b2
  cases b2
  ·
   exact E.op (E.u x) (E.op (.bool (decide (x ≥ 4294967168))) (E.op (.bool (decide (x ≥ 4294967168))) (E.G.end_pst ⟨Nz.k, Nz.k⟩ Nz.sub (fun _ h => h))))
  exact E.sk (E.sk (E.op (.bool true) (E.G.end_pst ⟨Nz.k, Nz.k⟩ Nz.sub (fun _ h => h))))
 exact E.op (.bool ((decide (x < 128)) || (decide (x ≥ 4294967168)))) (E.To.code (E.C.ret (E.bd Tryz.f105 [.bool ((decide (x < 128)) || (decide (x ≥ 4294967168)))] (fun w h => ⟨rfl, h.ch.bel (fun _ h => h.elim)⟩))))

def R2.Format (x : Int) : Int := (bif ((decide (x ≥ 0)) && (decide (x ≤ 4))) then 1 else (bif ((decide (x ≥ 16)) && (decide (x ≤ 21))) then 2 else (bif ((decide (x ≥ 32)) && (decide (x ≤ 46))) then 3 else (bif ((decide (x ≥ 48)) && (decide (x ≤ 62))) then 4 else (bif ((decide (x ≥ 64)) && (decide (x ≤ 78))) then 5 else (bif ((decide (x ≥ 80)) && (decide (x ≤ 86))) then 6 else (bif ((decide (x ≥ 88)) && (decide (x ≤ 94))) then 7 else (bif ((decide (x ≥ 96)) && (decide (x ≤ 109))) then 8 else (bif ((x == 112) || (x == 113)) then 9 else (bif ((decide (x ≥ 128)) && (decide (x ≤ 130))) then (IntKind.wrap .i64 ((IntKind.wrap .i64 (x - 128)) + 10)) else 0))))))))))
abbrev Zizga (x : Int) := IntKind.wrap .i64 ((IntKind.wrap .i64 (x - 128)) + 10)
set_option maxHeartbeats 1000000 in
theorem R2_Format (x : Int) (w : World) : Calls Tryz.prog 59 #[.int .i64 x] w fun e w' => e = .returned (.int .i64 (R2.Format x)) ∧ Bel w w' := by
 refine E.enter (n := 66) (S := fun _ => False) Tryz.func59 rfl rfl Nz.k (E.Hp.start w) (E.sr (E.op (E.i 0) (E.To.code (E.C.seq (E.sr (E.op (E.i x) (E.op (.bool (decide (x ≥ 0))) (E.op (.bool (decide (x ≥ 0))) (E.G.cut 3 [(0, E.i x), (2, E.i 0), (8, .bool ((decide (x ≥ 0)) && (decide (x ≤ 4))))] (fun _ => True) [] ?_ ?_)))))))))
 ·
  generalize hc1 : (decide (x ≥ 0)) = b2
  cases b2
  ·
   exact E.sk (E.sk (E.op (.bool false) E.ep))
  exact E.op (E.i x) (E.op (.bool (decide (x ≤ 4))) (E.op (.bool (decide (x ≤ 4))) E.ep))
 refine E.To.code (E.cd ((decide (x ≥ 0)) && (decide (x ≤ 4))) (fun hc3 => ?_) (fun hc3 => ?_))
 ·
  exact E.sr (E.op (E.i 1) (E.To.code (E.C.ret (E.P.rt (E.bd Tryz.f59 [E.i 1] (fun w h => ⟨by unfold R2.Format; rw [hc3, N1] <;> rfl, h.ch.bel (fun _ h => h.elim)⟩))))))
 refine E.C.skip (E.To.code (E.C.seq (E.sr (E.op (E.i x) (E.op (.bool (decide (x ≥ 16))) (E.op (.bool (decide (x ≥ 16))) (E.G.cut 3 [(0, E.i x), (2, E.i 0), (14, .bool ((decide (x ≥ 16)) && (decide (x ≤ 21))))] (fun _ => True) [] ?_ ?_)))))))
 ·
  generalize hc4 : (decide (x ≥ 16)) = b5
  cases b5
  ·
   exact E.sk (E.sk (E.op (.bool false) E.ep))
  exact E.op (E.i x) (E.op (.bool (decide (x ≤ 21))) (E.op (.bool (decide (x ≤ 21))) E.ep))
 refine E.To.code (E.cd ((decide (x ≥ 16)) && (decide (x ≤ 21))) (fun hc6 => ?_) (fun hc6 => ?_))
 ·
  exact E.sr (E.op (E.i 2) (E.To.code (E.C.ret (E.P.rt (E.bd Tryz.f59 [E.i 2] (fun w h => ⟨by unfold R2.Format; rw [hc3, N0, hc6, N1] <;> rfl, h.ch.bel (fun _ h => h.elim)⟩))))))
 refine E.C.skip (E.To.code (E.C.seq (E.sr (E.op (E.i x) (E.op (.bool (decide (x ≥ 32))) (E.op (.bool (decide (x ≥ 32))) (E.G.cut 3 [(0, E.i x), (2, E.i 0), (20, .bool ((decide (x ≥ 32)) && (decide (x ≤ 46))))] (fun _ => True) [] ?_ ?_)))))))
 ·
  generalize hc7 : (decide (x ≥ 32)) = b8
  cases b8
  ·
   exact E.sk (E.sk (E.op (.bool false) E.ep))
  exact E.op (E.i x) (E.op (.bool (decide (x ≤ 46))) (E.op (.bool (decide (x ≤ 46))) E.ep))
 refine E.To.code (E.cd ((decide (x ≥ 32)) && (decide (x ≤ 46))) (fun hc9 => ?_) (fun hc9 => ?_))
 ·
  exact E.sr (E.op (E.i 3) (E.To.code (E.C.ret (E.P.rt (E.bd Tryz.f59 [E.i 3] (fun w h => ⟨by unfold R2.Format; rw [hc3, N0, hc6, N0, hc9, N1] <;> rfl, h.ch.bel (fun _ h => h.elim)⟩))))))
 refine E.C.skip (E.To.code (E.C.seq (E.sr (E.op (E.i x) (E.op (.bool (decide (x ≥ 48))) (E.op (.bool (decide (x ≥ 48))) (E.G.cut 3 [(0, E.i x), (2, E.i 0), (26, .bool ((decide (x ≥ 48)) && (decide (x ≤ 62))))] (fun _ => True) [] ?_ ?_)))))))
 ·
  generalize hc10 : (decide (x ≥ 48)) = b11
  cases b11
  ·
   exact E.sk (E.sk (E.op (.bool false) E.ep))
  exact E.op (E.i x) (E.op (.bool (decide (x ≤ 62))) (E.op (.bool (decide (x ≤ 62))) E.ep))
 refine E.To.code (E.cd ((decide (x ≥ 48)) && (decide (x ≤ 62))) (fun hc12 => ?_) (fun hc12 => ?_))
 ·
  exact E.sr (E.op (E.i 4) (E.To.code (E.C.ret (E.P.rt (E.bd Tryz.f59 [E.i 4] (fun w h => ⟨by unfold R2.Format; rw [hc3, N0, hc6, N0, hc9, N0, hc12, N1] <;> rfl, h.ch.bel (fun _ h => h.elim)⟩))))))
 refine E.C.skip (E.To.code (E.C.seq (E.sr (E.op (E.i x) (E.op (.bool (decide (x ≥ 64))) (E.op (.bool (decide (x ≥ 64))) (E.G.cut 3 [(0, E.i x), (2, E.i 0), (32, .bool ((decide (x ≥ 64)) && (decide (x ≤ 78))))] (fun _ => True) [] ?_ ?_)))))))
 ·
  generalize hc13 : (decide (x ≥ 64)) = b14
  cases b14
  ·
   exact E.sk (E.sk (E.op (.bool false) E.ep))
  exact E.op (E.i x) (E.op (.bool (decide (x ≤ 78))) (E.op (.bool (decide (x ≤ 78))) E.ep))
 refine E.To.code (E.cd ((decide (x ≥ 64)) && (decide (x ≤ 78))) (fun hc15 => ?_) (fun hc15 => ?_))
 ·
  exact E.sr (E.op (E.i 5) (E.To.code (E.C.ret (E.P.rt (E.bd Tryz.f59 [E.i 5] (fun w h => ⟨by unfold R2.Format; rw [hc3, N0, hc6, N0, hc9, N0, hc12, N0, hc15, N1] <;> rfl, h.ch.bel (fun _ h => h.elim)⟩))))))
 refine E.C.skip (E.To.code (E.C.seq (E.sr (E.op (E.i x) (E.op (.bool (decide (x ≥ 80))) (E.op (.bool (decide (x ≥ 80))) (E.G.cut 3 [(0, E.i x), (2, E.i 0), (38, .bool ((decide (x ≥ 80)) && (decide (x ≤ 86))))] (fun _ => True) [] ?_ ?_)))))))
 ·
  generalize hc16 : (decide (x ≥ 80)) = b17
  cases b17
  ·
   exact E.sk (E.sk (E.op (.bool false) E.ep))
  exact E.op (E.i x) (E.op (.bool (decide (x ≤ 86))) (E.op (.bool (decide (x ≤ 86))) E.ep))
 refine E.To.code (E.cd ((decide (x ≥ 80)) && (decide (x ≤ 86))) (fun hc18 => ?_) (fun hc18 => ?_))
 ·
  exact E.sr (E.op (E.i 6) (E.To.code (E.C.ret (E.P.rt (E.bd Tryz.f59 [E.i 6] (fun w h => ⟨by unfold R2.Format; rw [hc3, N0, hc6, N0, hc9, N0, hc12, N0, hc15, N0, hc18, N1] <;> rfl, h.ch.bel (fun _ h => h.elim)⟩))))))
 refine E.C.skip (E.To.code (E.C.seq (E.sr (E.op (E.i x) (E.op (.bool (decide (x ≥ 88))) (E.op (.bool (decide (x ≥ 88))) (E.G.cut 3 [(0, E.i x), (2, E.i 0), (44, .bool ((decide (x ≥ 88)) && (decide (x ≤ 94))))] (fun _ => True) [] ?_ ?_)))))))
 ·
  generalize hc19 : (decide (x ≥ 88)) = b20
  cases b20
  ·
   exact E.sk (E.sk (E.op (.bool false) E.ep))
  exact E.op (E.i x) (E.op (.bool (decide (x ≤ 94))) (E.op (.bool (decide (x ≤ 94))) E.ep))
 refine E.To.code (E.cd ((decide (x ≥ 88)) && (decide (x ≤ 94))) (fun hc21 => ?_) (fun hc21 => ?_))
 ·
  exact E.sr (E.op (E.i 7) (E.To.code (E.C.ret (E.P.rt (E.bd Tryz.f59 [E.i 7] (fun w h => ⟨by unfold R2.Format; rw [hc3, N0, hc6, N0, hc9, N0, hc12, N0, hc15, N0, hc18, N0, hc21, N1] <;> rfl, h.ch.bel (fun _ h => h.elim)⟩))))))
 refine E.C.skip (E.To.code (E.C.seq (E.sr (E.op (E.i x) (E.op (.bool (decide (x ≥ 96))) (E.op (.bool (decide (x ≥ 96))) (E.G.cut 3 [(0, E.i x), (2, E.i 0), (50, .bool ((decide (x ≥ 96)) && (decide (x ≤ 109))))] (fun _ => True) [] ?_ ?_)))))))
 ·
  generalize hc22 : (decide (x ≥ 96)) = b23
  cases b23
  ·
   exact E.sk (E.sk (E.op (.bool false) E.ep))
  exact E.op (E.i x) (E.op (.bool (decide (x ≤ 109))) (E.op (.bool (decide (x ≤ 109))) E.ep))
 refine E.To.code (E.cd ((decide (x ≥ 96)) && (decide (x ≤ 109))) (fun hc24 => ?_) (fun hc24 => ?_))
 ·
  exact E.sr (E.op (E.i 8) (E.To.code (E.C.ret (E.P.rt (E.bd Tryz.f59 [E.i 8] (fun w h => ⟨by unfold R2.Format; rw [hc3, N0, hc6, N0, hc9, N0, hc12, N0, hc15, N0, hc18, N0, hc21, N0, hc24, N1] <;> rfl, h.ch.bel (fun _ h => h.elim)⟩))))))
 refine E.C.skip (E.To.code (E.C.seq (E.sr (E.op (E.i x) (E.op (.bool (x == 112)) (E.op (.bool (x == 112)) (E.G.cut 3 [(0, E.i x), (2, E.i 0), (56, .bool ((x == 112) || (x == 113)))] (fun _ => True) [] ?_ ?_)))))))
 ·
  generalize hc25 : (x == 112) = b26
  cases b26
  ·
   exact E.op (E.i x) (E.op (.bool (x == 113)) (E.op (.bool (x == 113)) E.ep))
  exact E.sk (E.sk (E.op (.bool true) E.ep))
 refine E.To.code (E.cd ((x == 112) || (x == 113)) (fun hc27 => ?_) (fun hc27 => ?_))
 ·
  exact E.sr (E.op (E.i 9) (E.To.code (E.C.ret (E.P.rt (E.bd Tryz.f59 [E.i 9] (fun w h => ⟨by unfold R2.Format; rw [hc3, N0, hc6, N0, hc9, N0, hc12, N0, hc15, N0, hc18, N0, hc21, N0, hc24, N0, hc27, N1] <;> rfl, h.ch.bel (fun _ h => h.elim)⟩))))))
 refine E.C.skip (E.To.code (E.C.seq (E.sr (E.op (E.i x) (E.op (.bool (decide (x ≥ 128))) (E.op (.bool (decide (x ≥ 128))) (E.G.cut 3 [(0, E.i x), (2, E.i 0), (62, .bool ((decide (x ≥ 128)) && (decide (x ≤ 130))))] (fun _ => True) [] ?_ ?_)))))))
 ·
  generalize hc28 : (decide (x ≥ 128)) = b29
  cases b29
  ·
   exact E.sk (E.sk (E.op (.bool false) E.ep))
  exact E.op (E.i x) (E.op (.bool (decide (x ≤ 130))) (E.op (.bool (decide (x ≤ 130))) E.ep))
 refine E.To.code (E.cd ((decide (x ≥ 128)) && (decide (x ≤ 130))) (fun hc30 => ?_) (fun hc30 => ?_))
 ·
  exact E.sr (E.op (E.i x) (E.op (E.i (IntKind.wrap .i64 (x - 128))) (E.op (E.i (Zizga x)) (E.op (E.i (Zizga x)) (E.To.code (E.C.ret (E.P.rt (E.bd Tryz.f59 [E.i (Zizga x)] (fun w h => ⟨by unfold R2.Format; rw [hc3, N0, hc6, N0, hc9, N0, hc12, N0, hc15, N0, hc18, N0, hc21, N0, hc24, N0, hc27, N0, hc30, N1] <;> rfl, h.ch.bel (fun _ h => h.elim)⟩)))))))))
 exact E.C.skip (E.To.code (E.sr (E.op (E.i 0) (E.To.code (E.C.ret (E.bd Tryz.f59 [E.i 0] (fun w h => ⟨by unfold R2.Format; rw [hc3, N0, hc6, N0, hc9, N0, hc12, N0, hc15, N0, hc18, N0, hc21, N0, hc24, N0, hc27, N0, hc30, N0] <;> rfl, h.ch.bel (fun _ h => h.elim)⟩)))))))

theorem E.bif_all {p : Int → Prop} {c : Bool} {a b : Int} (ha : c = true → p a) (hb : c = false → p b) : p (bif c then a else b) := by cases c <;> simp_all
theorem R2.Format_bd (x : Int) : 0 ≤ R2.Format x ∧ R2.Format x ≤ 12 := by
  unfold R2.Format
  repeat (refine E.bif_all (p := fun y => 0 ≤ y ∧ y ≤ 12) (fun _ => by decide) (fun _ => ?_))
  refine E.bif_all (p := fun y => 0 ≤ y ∧ y ≤ 12) (fun h => ?_) (fun _ => by decide)
  have h1 : x = 128 ∨ x = 129 ∨ x = 130 := by simp at h; omega
  rcases h1 with rfl | rfl | rfl <;> decide

def R2.Size (x : Int) : Int := ([0, 1, 2, 2, 3, 6, 3, 7, 2, 5, 2, 2, 2].getD (0 + ((R2.Format (IntKind.wrap .i64 x))).toNat * 1) 0)
theorem R2_Size (x : Int) (w : World) : Calls Tryz.prog 71 #[.int .u8 x] w fun e w' => e = .returned (.int .i64 (R2.Size x)) ∧ Bel w w' := by
 have hb := R2.Format_bd (IntKind.wrap .i64 x)
 refine E.enter (n := 10) (S := fun _ => False) Tryz.func71 rfl rfl Nz.k (E.Hp.start w) (E.sr (E.op (E.i 0) (E.tr (E.vl (.agg #[E.i 0, E.i 1, E.i 2, E.i 2, E.i 3, E.i 6, E.i 3, E.i 7, E.i 2, E.i 5, E.i 2, E.i 2, E.i 2]) (fun w h => E.run_build #[E.i 0, E.i 1, E.i 2, E.i 2, E.i 3, E.i 6, E.i 3, E.i 7, E.i 2, E.i 5, E.i 2, E.i 2, E.i 2] Nz.k w) (E.nw [E.i 0, E.i 0, E.i 0, E.i 0, E.i 0, E.i 0, E.i 0, E.i 0, E.i 0, E.i 0, E.i 0, E.i 0, E.i 0] 169 (fun g1 => E.st 0 [E.i 0, E.i 1, E.i 2, E.i 2, E.i 3, E.i 6, E.i 3, E.i 7, E.i 2, E.i 5, E.i 2, E.i 2, E.i 2] rfl rfl (E.tr (E.op (.int .u8 x) (E.op (E.i (IntKind.wrap .i64 x)) (E.ca (E.i (R2.Format (IntKind.wrap .i64 x))) (fun w h => R2_Format _ w) (E.vl (.pointer (some ⟨g1, 0 + ((R2.Format (IntKind.wrap .i64 x))).toNat * 1, none⟩)) (fun w h => E.idxA (e := 3) g1 0 13 1 .i64 ((R2.Format (IntKind.wrap .i64 x))) Nz.k Nz.k Nz.k Nz.k (by omega) (by omega) w) ?_)))))))))))
 exact E.vl (E.i ([0, 1, 2, 2, 3, 6, 3, 7, 2, 5, 2, 2, 2].getD (0 + ((R2.Format (IntKind.wrap .i64 x))).toNat * 1) 0)) (fun w h => E.run_load h 0 rfl rfl (E.ld_row (xs := [0, 1, 2, 2, 3, 6, 3, 7, 2, 5, 2, 2, 2]) Nz.k (by simp only [List.length_cons, List.length_nil]; omega))) (E.op (E.i ([0, 1, 2, 2, 3, 6, 3, 7, 2, 5, 2, 2, 2].getD (0 + ((R2.Format (IntKind.wrap .i64 x))).toNat * 1) 0)) (E.To.code (E.wk [(2, E.i ([0, 1, 2, 2, 3, 6, 3, 7, 2, 5, 2, 2, 2].getD (0 + ((R2.Format (IntKind.wrap .i64 x))).toNat * 1) 0))] [] Nz.sub (E.C.ret (E.bd Tryz.f71 [E.i ([0, 1, 2, 2, 3, 6, 3, 7, 2, 5, 2, 2, 2].getD (0 + ((R2.Format (IntKind.wrap .i64 x))).toNat * 1) 0)] (fun w h => ⟨rfl, h.ch.bel (fun _ h => h.elim)⟩))))))

def R2.extend (x : Int) : Int := (bif (decide (x ≥ 128)) then (IntKind.wrap .u32 ((IntKind.wrap .u32 x) + 4294967040)) else (IntKind.wrap .u32 x))
theorem R2_extend (x : Int) (w : World) : Calls Tryz.prog 72 #[.int .u8 x] w fun e w' => e = .returned (.int .u32 (R2.extend x)) ∧ Bel w w' := by
 refine E.enter (n := 10) (S := fun _ => False) Tryz.func72 rfl rfl Nz.k (E.Hp.start w) (E.sr (E.op (E.u 0) (E.To.code (E.C.seq (E.sr (E.op (.int .u8 x) (E.op (.bool (decide (x ≥ 128))) (E.To.code (E.cd (decide (x ≥ 128)) (fun hc1 => ?_) (fun hc1 => ?_))))))))))
 ·
  exact E.sr (E.op (.int .u8 x) (E.op (E.u (IntKind.wrap .u32 x)) (E.op (E.u (IntKind.wrap .u32 ((IntKind.wrap .u32 x) + 4294967040))) (E.op (E.u (IntKind.wrap .u32 ((IntKind.wrap .u32 x) + 4294967040))) (E.To.code (E.C.ret (E.P.rt (E.bd Tryz.f72 [E.u (IntKind.wrap .u32 ((IntKind.wrap .u32 x) + 4294967040))] (fun w h => ⟨by unfold R2.extend; rw [hc1, N1] <;> rfl, h.ch.bel (fun _ h => h.elim)⟩)))))))))
 exact E.C.skip (E.To.code (E.sr (E.op (.int .u8 x) (E.op (E.u (IntKind.wrap .u32 x)) (E.op (E.u (IntKind.wrap .u32 x)) (E.To.code (E.C.ret (E.bd Tryz.f72 [E.u (IntKind.wrap .u32 x)] (fun w h => ⟨by unfold R2.extend; rw [hc1, N0] <;> rfl, h.ch.bel (fun _ h => h.elim)⟩)))))))))

def R2.long (s : ByteArray) : Int := (IntKind.wrap .u32 ((IntKind.wrap .u32 ((IntKind.wrap .u32 ((IntKind.wrap .u32 (W.byt s.data.toList 0)) + (IntKind.wrap .u32 (256 * (IntKind.wrap .u32 (W.byt s.data.toList 1)))))) + (IntKind.wrap .u32 (65536 * (IntKind.wrap .u32 (W.byt s.data.toList 2)))))) + (IntKind.wrap .u32 (16777216 * (IntKind.wrap .u32 (W.byt s.data.toList 3))))))
abbrev Zn28b (s : ByteArray) := IntKind.wrap .u32 ((IntKind.wrap .u32 (W.byt s.data.toList 0)) + (IntKind.wrap .u32 (256 * (IntKind.wrap .u32 (W.byt s.data.toList 1)))))
abbrev Zn28c (s : ByteArray) := IntKind.wrap .u32 (65536 * (IntKind.wrap .u32 (W.byt s.data.toList 2)))
abbrev Zn28a (s : ByteArray) := IntKind.wrap .u32 ((IntKind.wrap .u32 ((Zn28b s) + (Zn28c s))) + (IntKind.wrap .u32 (16777216 * (IntKind.wrap .u32 (W.byt s.data.toList 3)))))
theorem R2_long (s : ByteArray) (hs : 4 ≤ s.size) (w : World) : Calls Tryz.prog 134 #[.string s] w fun e w' => e = .returned (.int .u32 (R2.long s)) ∧ Bel w w' := by
 refine E.enter (n := 21) (S := fun _ => False) Tryz.func134 rfl rfl Nz.k (E.Hp.start w) (E.sr (E.op (E.u 0) (E.To.code (E.C.seq (E.C.quiet Nz.k Nz.k (E.wo (.string s) (E.wv (.int .u8 (W.byt s.data.toList 0)) (fun w h => E.sidx s .i64 0 Nz.k Nz.k Nz.k (by omega) (by omega) w) (E.wo (E.u (IntKind.wrap .u32 (W.byt s.data.toList 0))) (E.wo (.string s) (E.wv (.int .u8 (W.byt s.data.toList 1)) (fun w h => E.sidx s .i64 1 Nz.k Nz.k Nz.k (by omega) (by omega) w) (E.wo (E.u (IntKind.wrap .u32 (W.byt s.data.toList 1))) ?_)))))))))))
 refine E.wo (E.u (IntKind.wrap .u32 (256 * (IntKind.wrap .u32 (W.byt s.data.toList 1))))) (E.wo (E.u (Zn28b s)) (E.wo (.string s) (E.wv (.int .u8 (W.byt s.data.toList 2)) (fun w h => E.sidx s .i64 2 Nz.k Nz.k Nz.k (by omega) (by omega) w) (E.wo (E.u (IntKind.wrap .u32 (W.byt s.data.toList 2))) (E.wo (E.u (Zn28c s)) (E.wo (E.u (IntKind.wrap .u32 ((Zn28b s) + (Zn28c s)))) (E.wo (.string s) (E.wv (.int .u8 (W.byt s.data.toList 3)) (fun w h => E.sidx s .i64 3 Nz.k Nz.k Nz.k (by omega) (by omega) w) (E.wo (E.u (IntKind.wrap .u32 (W.byt s.data.toList 3))) (E.wo (E.u (IntKind.wrap .u32 (16777216 * (IntKind.wrap .u32 (W.byt s.data.toList 3))))) (E.wo (E.u (Zn28a s)) ?_)))))))))))
 exact E.wo (E.u (Zn28a s)) (E.W.done (E.To.code (E.wk [(2, E.u (Zn28a s))] [] Nz.sub (E.C.ret (E.bd Tryz.f134 [E.u (Zn28a s)] (fun w h => ⟨rfl, h.ch.bel (fun _ h => h.elim)⟩))))))

def R2.Valid (i : K.Ins) : Bool := (bif (((R2.Format i.op) == 0) || (i.sz != (R2.Size (IntKind.wrap .u8 i.op)))) then false else ((((bif (((((R2.Format i.op) == 1) || ((R2.Format i.op) == 8)) || ((R2.Format i.op) == 9)) || ((R2.Format i.op) == 10)) then (i.d == 0) else (R2.reg i.d)) && (bif ((R2.Format i.op) == 12) then ((decide (i.s ≥ 0)) && (decide (i.s ≤ 4))) else (bif ((R2.Format i.op) == 11) then ((decide (i.s ≥ 0)) && (decide (i.s ≤ 3))) else (bif ((((R2.Format i.op) != 3) && ((R2.Format i.op) != 6)) && ((R2.Format i.op) != 7)) then (i.s == 0) else (R2.reg i.s))))) && (bif (((R2.Format i.op) == 7) && (i.ix != (-1))) then (((R2.reg i.ix) && (decide (i.sc ≥ 0))) && (decide (i.sc ≤ 3))) else ((i.ix == (-1)) && (i.sc == 0)))) && (bif ((R2.Format i.op) == 10) then (decide (i.imm < 256)) else (((((R2.Format i.op) == 5) || ((R2.Format i.op) == 7)) || ((R2.Format i.op) == 9)) || (bif ((((R2.Format i.op) == 4) || ((R2.Format i.op) == 6)) || ((R2.Format i.op) == 8)) then (R2.signed i.imm) else (i.imm == 0))))))
abbrev Zti6e (i : K.Ins) : List Value := [E.i i.op, E.i i.d, E.i i.s, E.i i.ix, E.i i.sc, E.u i.imm, E.i i.sz]
abbrev Zti6f (i : K.Ins) := bif ((((R2.Format i.op) == 4) || ((R2.Format i.op) == 6)) || ((R2.Format i.op) == 8)) then (R2.signed i.imm) else (i.imm == 0)
abbrev Zti6g (i : K.Ins) := bif ((((R2.Format i.op) != 3) && ((R2.Format i.op) != 6)) && ((R2.Format i.op) != 7)) then (i.s == 0) else (R2.reg i.s)
abbrev Zti6a (i : K.Ins) := bif ((R2.Format i.op) == 12) then ((decide (i.s ≥ 0)) && (decide (i.s ≤ 4))) else (bif ((R2.Format i.op) == 11) then ((decide (i.s ≥ 0)) && (decide (i.s ≤ 3))) else (Zti6g i))
abbrev Zti6h (i : K.Ins) := (R2.Format i.op) == 10
abbrev Zti6i (i : K.Ins) := (i.ix == (-1)) && (i.sc == 0)
abbrev Zti6b (i : K.Ins) := bif (((R2.Format i.op) == 7) && (i.ix != (-1))) then (((R2.reg i.ix) && (decide (i.sc ≥ 0))) && (decide (i.sc ≤ 3))) else (Zti6i i)
abbrev Zti6j (i : K.Ins) := ((R2.Format i.op) == 1) || ((R2.Format i.op) == 8)
abbrev Zti6c (i : K.Ins) := (Zti6j i) || ((R2.Format i.op) == 9)
abbrev Zti6k (i : K.Ins) := ((R2.Format i.op) == 5) || ((R2.Format i.op) == 7)
abbrev Zti6d (i : K.Ins) := bif (Zti6h i) then (decide (i.imm < 256)) else (((Zti6k i) || ((R2.Format i.op) == 9)) || (Zti6f i))
set_option maxHeartbeats 1000000 in
theorem R2_Valid (i : K.Ins) (w : World) : Calls Tryz.prog 69 #[.agg #[.int .i64 i.op, .int .i64 i.d, .int .i64 i.s, .int .i64 i.ix, .int .i64 i.sc, .int .u32 i.imm, .int .i64 i.sz]] w fun e w' => e = .returned (.bool (R2.Valid i)) ∧ Bel w w' := by
 refine E.enter (n := 147) (S := fun _ => False) Tryz.func69 rfl rfl Nz.k (E.Hp.start w) (E.sr (E.nw (Zti6e i) 66 (fun g1 => E.op (.bool false) (E.tr (E.op (E.pt g1) (E.li (E.i i.op) 0 rfl rfl (E.ca (E.i (R2.Format i.op)) (fun w h => R2_Format _ w) (E.op (E.i (R2.Format i.op)) (E.To.code (E.C.seq (E.C.seq ?_)))))))))))
 refine E.C.quiet Nz.k Nz.k (E.wo (E.i (R2.Format i.op)) (E.wo (.bool ((R2.Format i.op) == 0)) (E.wo (.bool ((R2.Format i.op) == 0)) (E.W.cut 8 [(1, E.pt g1), (2, .bool false), (3, E.i (R2.Format i.op)), (21, .bool (((R2.Format i.op) == 0) || (i.sz != (R2.Size (IntKind.wrap .u8 i.op)))))] ?_ ?_))))
 ·
  generalize hc2 : ((R2.Format i.op) == 0) = b3
  cases b3
  ·
   exact E.wo (E.pj g1 6) (E.wv (E.i i.sz) (fun w h => E.run_load h 0 rfl rfl Nz.k) (E.wo (E.pt g1) (E.wv (E.i i.op) (fun w h => E.run_load h 0 rfl rfl Nz.k) (E.wo (.int .u8 (IntKind.wrap .u8 i.op)) (E.W.call (E.i (R2.Size (IntKind.wrap .u8 i.op))) (fun w h => R2_Size _ w) (fun w _ => Nz.k) Nz.k (E.wo (.bool (i.sz != (R2.Size (IntKind.wrap .u8 i.op)))) (E.wo (.bool (i.sz != (R2.Size (IntKind.wrap .u8 i.op)))) (E.W.end_cut ⟨Nz.k, Nz.k⟩))))))))
  exact E.ws (E.ws (E.ws (E.ws (E.ws (E.ws (E.ws (E.wo (.bool true) (E.W.end_cut ⟨Nz.k, Nz.k⟩))))))))
 refine E.W.done (E.To.code (E.cd (((R2.Format i.op) == 0) || (i.sz != (R2.Size (IntKind.wrap .u8 i.op)))) (fun hc4 => ?_) (fun hc4 => ?_)))
 ·
  exact E.sr (E.op (.bool false) (E.To.code (E.C.ret (E.P.rt (E.bd Tryz.f69 [.bool false] (fun w h => ⟨by unfold R2.Valid; rw [hc4, N1] <;> rfl, h.ch.bel (fun _ h => h.elim)⟩))))))
 refine E.C.skip (E.To.code (E.sr (E.op (E.pj g1 1) (E.li (E.i i.d) 0 rfl rfl (E.ca (.bool (R2.reg i.d)) (fun w h => R2_reg _ w) (E.op (.bool (R2.reg i.d)) (E.tr (E.op (E.pj g1 2) (E.li (E.i i.s) 0 rfl rfl (E.ca (.bool (R2.reg i.s)) (fun w h => R2_reg _ w) (E.op (.bool (R2.reg i.s)) (E.To.code ?_))))))))))))
 refine E.C.seq (E.sr (E.op (E.i (R2.Format i.op)) (E.op (.bool ((R2.Format i.op) == 1)) (E.op (.bool ((R2.Format i.op) == 1)) (E.G.cut 3 [(1, E.pt g1), (2, .bool false), (3, E.i (R2.Format i.op)), (4, .bool (R2.reg i.d)), (5, .bool (R2.reg i.s)), (33, .bool (((R2.Format i.op) == 1) || ((R2.Format i.op) == 8)))] (fun _ => True) [(g1, (Zti6e i))] ?_ ?_)))))
 ·
  generalize hc5 : ((R2.Format i.op) == 1) = b6
  cases b6
  ·
   exact E.op (E.i (R2.Format i.op)) (E.op (.bool ((R2.Format i.op) == 8)) (E.op (.bool ((R2.Format i.op) == 8)) E.ep))
  exact E.sk (E.sk (E.op (.bool true) E.ep))
 refine E.op (.bool (((R2.Format i.op) == 1) || ((R2.Format i.op) == 8))) (E.G.cut 3 [(1, E.pt g1), (2, .bool false), (3, E.i (R2.Format i.op)), (4, .bool (R2.reg i.d)), (5, .bool (R2.reg i.s)), (37, .bool ((((R2.Format i.op) == 1) || ((R2.Format i.op) == 8)) || ((R2.Format i.op) == 9)))] (fun _ => True) [(g1, (Zti6e i))] ?_ ?_)
 ·
  generalize hc7 : (((R2.Format i.op) == 1) || ((R2.Format i.op) == 8)) = b8
  cases b8
  ·
   exact E.op (E.i (R2.Format i.op)) (E.op (.bool ((R2.Format i.op) == 9)) (E.op (.bool ((R2.Format i.op) == 9)) E.ep))
  exact E.sk (E.sk (E.op (.bool true) E.ep))
 refine E.op (.bool ((Zti6j i) || ((R2.Format i.op) == 9))) (E.G.cut 3 [(1, E.pt g1), (2, .bool false), (3, E.i (R2.Format i.op)), (4, .bool (R2.reg i.d)), (5, .bool (R2.reg i.s)), (41, .bool (((Zti6j i) || ((R2.Format i.op) == 9)) || ((R2.Format i.op) == 10)))] (fun _ => True) [(g1, (Zti6e i))] ?_ ?_)
 ·
  generalize hc9 : ((((R2.Format i.op) == 1) || ((R2.Format i.op) == 8)) || ((R2.Format i.op) == 9)) = b10
  cases b10
  ·
   exact E.op (E.i (R2.Format i.op)) (E.op (.bool ((R2.Format i.op) == 10)) (E.op (.bool ((R2.Format i.op) == 10)) E.ep))
  exact E.sk (E.sk (E.op (.bool true) E.ep))
 refine E.To.code (E.C.thencut [(1, E.pt g1), (2, .bool false), (3, E.i (R2.Format i.op)), (4, .bool (bif ((Zti6c i) || ((R2.Format i.op) == 10)) then (i.d == 0) else (R2.reg i.d))), (5, .bool (R2.reg i.s))] (fun _ => True) [(g1, (Zti6e i))] ?_ ?_)
 ·
  generalize hc11 : (((((R2.Format i.op) == 1) || ((R2.Format i.op) == 8)) || ((R2.Format i.op) == 9)) || ((R2.Format i.op) == 10)) = b12
  cases b12
  ·
   exact E.C.condF Nz.k Nz.k (E.C.skip (E.To.pst ⟨Nz.k, Nz.k⟩ Nz.sub (fun _ h => h)))
  exact E.C.condT Nz.k Nz.k (E.C.region (E.op (E.pj g1 1) (E.li (E.i i.d) 0 rfl rfl (E.op (.bool (i.d == 0)) (E.op (.bool (i.d == 0)) (E.To.pst ⟨Nz.k, Nz.k⟩ Nz.sub (fun _ h => h)))))))
 refine E.C.seq (E.sr (E.op (E.i (R2.Format i.op)) (E.op (.bool ((R2.Format i.op) != 3)) (E.op (.bool ((R2.Format i.op) != 3)) (E.G.cut 3 [(1, E.pt g1), (2, .bool false), (3, E.i (R2.Format i.op)), (4, .bool (bif ((Zti6c i) || ((R2.Format i.op) == 10)) then (i.d == 0) else (R2.reg i.d))), (5, .bool (R2.reg i.s)), (50, .bool (((R2.Format i.op) != 3) && ((R2.Format i.op) != 6)))] (fun _ => True) [(g1, (Zti6e i))] ?_ ?_)))))
 ·
  generalize hc13 : ((R2.Format i.op) != 3) = b14
  cases b14
  ·
   exact E.sk (E.sk (E.op (.bool false) E.ep))
  exact E.op (E.i (R2.Format i.op)) (E.op (.bool ((R2.Format i.op) != 6)) (E.op (.bool ((R2.Format i.op) != 6)) E.ep))
 refine E.op (.bool (((R2.Format i.op) != 3) && ((R2.Format i.op) != 6))) (E.G.cut 3 [(1, E.pt g1), (2, .bool false), (3, E.i (R2.Format i.op)), (4, .bool (bif ((Zti6c i) || ((R2.Format i.op) == 10)) then (i.d == 0) else (R2.reg i.d))), (5, .bool (R2.reg i.s)), (54, .bool ((((R2.Format i.op) != 3) && ((R2.Format i.op) != 6)) && ((R2.Format i.op) != 7)))] (fun _ => True) [(g1, (Zti6e i))] ?_ ?_)
 ·
  generalize hc15 : (((R2.Format i.op) != 3) && ((R2.Format i.op) != 6)) = b16
  cases b16
  ·
   exact E.sk (E.sk (E.op (.bool false) E.ep))
  exact E.op (E.i (R2.Format i.op)) (E.op (.bool ((R2.Format i.op) != 7)) (E.op (.bool ((R2.Format i.op) != 7)) E.ep))
 refine E.To.code (E.C.thencut [(1, E.pt g1), (2, .bool false), (3, E.i (R2.Format i.op)), (4, .bool (bif ((Zti6c i) || ((R2.Format i.op) == 10)) then (i.d == 0) else (R2.reg i.d))), (5, .bool (bif ((((R2.Format i.op) != 3) && ((R2.Format i.op) != 6)) && ((R2.Format i.op) != 7)) then (i.s == 0) else (R2.reg i.s)))] (fun _ => True) [(g1, (Zti6e i))] ?_ ?_)
 ·
  generalize hc17 : ((((R2.Format i.op) != 3) && ((R2.Format i.op) != 6)) && ((R2.Format i.op) != 7)) = b18
  cases b18
  ·
   exact E.C.condF Nz.k Nz.k (E.C.skip (E.To.pst ⟨Nz.k, Nz.k⟩ Nz.sub (fun _ h => h)))
  exact E.C.condT Nz.k Nz.k (E.C.region (E.op (E.pj g1 2) (E.li (E.i i.s) 0 rfl rfl (E.op (.bool (i.s == 0)) (E.op (.bool (i.s == 0)) (E.To.pst ⟨Nz.k, Nz.k⟩ Nz.sub (fun _ h => h)))))))
 refine E.C.seq (E.sr (E.op (E.i (R2.Format i.op)) (E.op (.bool ((R2.Format i.op) == 11)) (E.To.code (E.C.thencut [(1, E.pt g1), (2, .bool false), (3, E.i (R2.Format i.op)), (4, .bool (bif ((Zti6c i) || ((R2.Format i.op) == 10)) then (i.d == 0) else (R2.reg i.d))), (5, .bool (bif ((R2.Format i.op) == 11) then ((decide (i.s ≥ 0)) && (decide (i.s ≤ 3))) else (Zti6g i)))] (fun _ => True) [(g1, (Zti6e i))] ?_ ?_)))))
 ·
  generalize hc19 : ((R2.Format i.op) == 11) = b20
  cases b20
  ·
   exact E.C.condF Nz.k Nz.k (E.C.skip (E.To.pst ⟨Nz.k, Nz.k⟩ Nz.sub (fun _ h => h)))
  refine E.C.condT Nz.k Nz.k (E.C.region (E.op (E.pj g1 2) (E.li (E.i i.s) 0 rfl rfl (E.op (.bool (decide (i.s ≥ 0))) (E.op (.bool (decide (i.s ≥ 0))) (E.G.cut 4 [(1, E.pt g1), (2, .bool false), (3, E.i (R2.Format i.op)), (4, .bool (bif ((Zti6c i) || ((R2.Format i.op) == 10)) then (i.d == 0) else (R2.reg i.d))), (5, .bool (Zti6g i)), (67, .bool ((decide (i.s ≥ 0)) && (decide (i.s ≤ 3))))] (fun _ => True) [(g1, (Zti6e i))] ?_ ?_))))))
  ·
   generalize hc21 : (decide (i.s ≥ 0)) = b22
   cases b22
   ·
    exact E.sk (E.sk (E.sk (E.op (.bool false) E.ep)))
   exact E.op (E.pj g1 2) (E.li (E.i i.s) 0 rfl rfl (E.op (.bool (decide (i.s ≤ 3))) (E.op (.bool (decide (i.s ≤ 3))) E.ep)))
  exact E.op (.bool ((decide (i.s ≥ 0)) && (decide (i.s ≤ 3)))) (E.To.pst ⟨Nz.k, Nz.k⟩ Nz.sub (fun _ h => h))
 refine E.C.seq (E.sr (E.op (E.i (R2.Format i.op)) (E.op (.bool ((R2.Format i.op) == 12)) (E.To.code (E.C.thencut [(1, E.pt g1), (2, .bool false), (3, E.i (R2.Format i.op)), (4, .bool (bif ((Zti6c i) || ((R2.Format i.op) == 10)) then (i.d == 0) else (R2.reg i.d))), (5, .bool (bif ((R2.Format i.op) == 12) then ((decide (i.s ≥ 0)) && (decide (i.s ≤ 4))) else (bif ((R2.Format i.op) == 11) then ((decide (i.s ≥ 0)) && (decide (i.s ≤ 3))) else (Zti6g i))))] (fun _ => True) [(g1, (Zti6e i))] ?_ ?_)))))
 ·
  generalize hc23 : ((R2.Format i.op) == 12) = b24
  cases b24
  ·
   exact E.C.condF Nz.k Nz.k (E.C.skip (E.To.pst ⟨Nz.k, Nz.k⟩ Nz.sub (fun _ h => h)))
  refine E.C.condT Nz.k Nz.k (E.C.region (E.op (E.pj g1 2) (E.li (E.i i.s) 0 rfl rfl (E.op (.bool (decide (i.s ≥ 0))) (E.op (.bool (decide (i.s ≥ 0))) (E.G.cut 4 [(1, E.pt g1), (2, .bool false), (3, E.i (R2.Format i.op)), (4, .bool (bif ((Zti6c i) || ((R2.Format i.op) == 10)) then (i.d == 0) else (R2.reg i.d))), (5, .bool (bif ((R2.Format i.op) == 11) then ((decide (i.s ≥ 0)) && (decide (i.s ≤ 3))) else (Zti6g i))), (77, .bool ((decide (i.s ≥ 0)) && (decide (i.s ≤ 4))))] (fun _ => True) [(g1, (Zti6e i))] ?_ ?_))))))
  ·
   generalize hc25 : (decide (i.s ≥ 0)) = b26
   cases b26
   ·
    exact E.sk (E.sk (E.sk (E.op (.bool false) E.ep)))
   exact E.op (E.pj g1 2) (E.li (E.i i.s) 0 rfl rfl (E.op (.bool (decide (i.s ≤ 4))) (E.op (.bool (decide (i.s ≤ 4))) E.ep)))
  exact E.op (.bool ((decide (i.s ≥ 0)) && (decide (i.s ≤ 4)))) (E.To.pst ⟨Nz.k, Nz.k⟩ Nz.sub (fun _ h => h))
 refine E.sr (E.op (E.pj g1 3) (E.li (E.i i.ix) 0 rfl rfl (E.op (.bool (i.ix == (-1))) (E.op (.bool (i.ix == (-1))) (E.G.cut 4 [(1, E.pt g1), (2, .bool false), (3, E.i (R2.Format i.op)), (4, .bool (bif ((Zti6c i) || ((R2.Format i.op) == 10)) then (i.d == 0) else (R2.reg i.d))), (5, .bool (Zti6a i)), (85, .bool ((i.ix == (-1)) && (i.sc == 0)))] (fun _ => True) [(g1, (Zti6e i))] ?_ ?_)))))
 ·
  generalize hc27 : (i.ix == (-1)) = b28
  cases b28
  ·
   exact E.sk (E.sk (E.sk (E.op (.bool false) E.ep)))
  exact E.op (E.pj g1 4) (E.li (E.i i.sc) 0 rfl rfl (E.op (.bool (i.sc == 0)) (E.op (.bool (i.sc == 0)) E.ep)))
 refine E.op (.bool (Zti6i i)) (E.To.code (E.C.seq (E.sr (E.op (E.i (R2.Format i.op)) (E.op (.bool ((R2.Format i.op) == 7)) (E.op (.bool ((R2.Format i.op) == 7)) (E.G.cut 4 [(1, E.pt g1), (2, .bool false), (3, E.i (R2.Format i.op)), (4, .bool (bif ((Zti6c i) || ((R2.Format i.op) == 10)) then (i.d == 0) else (R2.reg i.d))), (5, .bool (Zti6a i)), (6, .bool (Zti6i i)), (92, .bool (((R2.Format i.op) == 7) && (i.ix != (-1))))] (fun _ => True) [(g1, (Zti6e i))] ?_ ?_)))))))
 ·
  generalize hc29 : ((R2.Format i.op) == 7) = b30
  cases b30
  ·
   exact E.sk (E.sk (E.sk (E.op (.bool false) E.ep)))
  exact E.op (E.pj g1 3) (E.li (E.i i.ix) 0 rfl rfl (E.op (.bool (i.ix != (-1))) (E.op (.bool (i.ix != (-1))) E.ep)))
 refine E.To.code (E.C.thencut [(1, E.pt g1), (2, .bool false), (3, E.i (R2.Format i.op)), (4, .bool (bif ((Zti6c i) || ((R2.Format i.op) == 10)) then (i.d == 0) else (R2.reg i.d))), (5, .bool (Zti6a i)), (6, .bool (bif (((R2.Format i.op) == 7) && (i.ix != (-1))) then (((R2.reg i.ix) && (decide (i.sc ≥ 0))) && (decide (i.sc ≤ 3))) else (Zti6i i)))] (fun _ => True) [(g1, (Zti6e i))] ?_ ?_)
 ·
  generalize hc31 : (((R2.Format i.op) == 7) && (i.ix != (-1))) = b32
  cases b32
  ·
   exact E.C.condF Nz.k Nz.k (E.C.skip (E.To.pst ⟨Nz.k, Nz.k⟩ Nz.sub (fun _ h => h)))
  refine E.C.condT Nz.k Nz.k (E.C.region (E.op (E.pj g1 3) (E.li (E.i i.ix) 0 rfl rfl (E.ca (.bool (R2.reg i.ix)) (fun w h => R2_reg _ w) (E.op (.bool (R2.reg i.ix)) (E.G.cut 4 [(1, E.pt g1), (2, .bool false), (3, E.i (R2.Format i.op)), (4, .bool (bif ((Zti6c i) || ((R2.Format i.op) == 10)) then (i.d == 0) else (R2.reg i.d))), (5, .bool (Zti6a i)), (6, .bool (Zti6i i)), (100, .bool ((R2.reg i.ix) && (decide (i.sc ≥ 0))))] (fun _ => True) [(g1, (Zti6e i))] ?_ ?_))))))
  ·
   generalize hc33 : (R2.reg i.ix) = b34
   cases b34
   ·
    exact E.sk (E.sk (E.sk (E.op (.bool false) E.ep)))
   exact E.op (E.pj g1 4) (E.li (E.i i.sc) 0 rfl rfl (E.op (.bool (decide (i.sc ≥ 0))) (E.op (.bool (decide (i.sc ≥ 0))) E.ep)))
  refine E.op (.bool ((R2.reg i.ix) && (decide (i.sc ≥ 0)))) (E.G.cut 4 [(1, E.pt g1), (2, .bool false), (3, E.i (R2.Format i.op)), (4, .bool (bif ((Zti6c i) || ((R2.Format i.op) == 10)) then (i.d == 0) else (R2.reg i.d))), (5, .bool (Zti6a i)), (6, .bool (Zti6i i)), (105, .bool (((R2.reg i.ix) && (decide (i.sc ≥ 0))) && (decide (i.sc ≤ 3))))] (fun _ => True) [(g1, (Zti6e i))] ?_ ?_)
  ·
   generalize hc35 : ((R2.reg i.ix) && (decide (i.sc ≥ 0))) = b36
   cases b36
   ·
    exact E.sk (E.sk (E.sk (E.op (.bool false) E.ep)))
   exact E.op (E.pj g1 4) (E.li (E.i i.sc) 0 rfl rfl (E.op (.bool (decide (i.sc ≤ 3))) (E.op (.bool (decide (i.sc ≤ 3))) E.ep)))
  exact E.op (.bool (((R2.reg i.ix) && (decide (i.sc ≥ 0))) && (decide (i.sc ≤ 3)))) (E.To.pst ⟨Nz.k, Nz.k⟩ Nz.sub (fun _ h => h))
 refine E.sr (E.op (E.pj g1 5) (E.li (E.u i.imm) 0 rfl rfl (E.op (.bool (i.imm == 0)) (E.op (.bool (i.imm == 0)) (E.To.code (E.C.seq (E.sr (E.op (E.i (R2.Format i.op)) (E.op (.bool ((R2.Format i.op) == 4)) (E.op (.bool ((R2.Format i.op) == 4)) (E.G.cut 3 [(1, E.pt g1), (2, .bool false), (3, E.i (R2.Format i.op)), (4, .bool (bif ((Zti6c i) || ((R2.Format i.op) == 10)) then (i.d == 0) else (R2.reg i.d))), (5, .bool (Zti6a i)), (6, .bool (Zti6b i)), (7, .bool (i.imm == 0)), (114, .bool (((R2.Format i.op) == 4) || ((R2.Format i.op) == 6)))] (fun _ => True) [(g1, (Zti6e i))] ?_ ?_)))))))))))
 ·
  generalize hc37 : ((R2.Format i.op) == 4) = b38
  cases b38
  ·
   exact E.op (E.i (R2.Format i.op)) (E.op (.bool ((R2.Format i.op) == 6)) (E.op (.bool ((R2.Format i.op) == 6)) E.ep))
  exact E.sk (E.sk (E.op (.bool true) E.ep))
 refine E.op (.bool (((R2.Format i.op) == 4) || ((R2.Format i.op) == 6))) (E.G.cut 3 [(1, E.pt g1), (2, .bool false), (3, E.i (R2.Format i.op)), (4, .bool (bif ((Zti6c i) || ((R2.Format i.op) == 10)) then (i.d == 0) else (R2.reg i.d))), (5, .bool (Zti6a i)), (6, .bool (Zti6b i)), (7, .bool (i.imm == 0)), (118, .bool ((((R2.Format i.op) == 4) || ((R2.Format i.op) == 6)) || ((R2.Format i.op) == 8)))] (fun _ => True) [(g1, (Zti6e i))] ?_ ?_)
 ·
  generalize hc39 : (((R2.Format i.op) == 4) || ((R2.Format i.op) == 6)) = b40
  cases b40
  ·
   exact E.op (E.i (R2.Format i.op)) (E.op (.bool ((R2.Format i.op) == 8)) (E.op (.bool ((R2.Format i.op) == 8)) E.ep))
  exact E.sk (E.sk (E.op (.bool true) E.ep))
 refine E.To.code (E.C.thencut [(1, E.pt g1), (2, .bool false), (3, E.i (R2.Format i.op)), (4, .bool (bif ((Zti6c i) || ((R2.Format i.op) == 10)) then (i.d == 0) else (R2.reg i.d))), (5, .bool (Zti6a i)), (6, .bool (Zti6b i)), (7, .bool (bif ((((R2.Format i.op) == 4) || ((R2.Format i.op) == 6)) || ((R2.Format i.op) == 8)) then (R2.signed i.imm) else (i.imm == 0)))] (fun _ => True) [(g1, (Zti6e i))] ?_ ?_)
 ·
  generalize hc41 : ((((R2.Format i.op) == 4) || ((R2.Format i.op) == 6)) || ((R2.Format i.op) == 8)) = b42
  cases b42
  ·
   exact E.C.condF Nz.k Nz.k (E.C.skip (E.To.pst ⟨Nz.k, Nz.k⟩ Nz.sub (fun _ h => h)))
  exact E.C.condT Nz.k Nz.k (E.C.region (E.op (E.pj g1 5) (E.li (E.u i.imm) 0 rfl rfl (E.ca (.bool (R2.signed i.imm)) (fun w h => R2_signed _ w) (E.op (.bool (R2.signed i.imm)) (E.To.pst ⟨Nz.k, Nz.k⟩ Nz.sub (fun _ h => h)))))))
 refine E.C.seq (E.sr (E.op (E.i (R2.Format i.op)) (E.op (.bool ((R2.Format i.op) == 5)) (E.op (.bool ((R2.Format i.op) == 5)) (E.G.cut 3 [(1, E.pt g1), (2, .bool false), (3, E.i (R2.Format i.op)), (4, .bool (bif ((Zti6c i) || ((R2.Format i.op) == 10)) then (i.d == 0) else (R2.reg i.d))), (5, .bool (Zti6a i)), (6, .bool (Zti6b i)), (7, .bool (Zti6f i)), (127, .bool (((R2.Format i.op) == 5) || ((R2.Format i.op) == 7)))] (fun _ => True) [(g1, (Zti6e i))] ?_ ?_)))))
 ·
  generalize hc43 : ((R2.Format i.op) == 5) = b44
  cases b44
  ·
   exact E.op (E.i (R2.Format i.op)) (E.op (.bool ((R2.Format i.op) == 7)) (E.op (.bool ((R2.Format i.op) == 7)) E.ep))
  exact E.sk (E.sk (E.op (.bool true) E.ep))
 refine E.op (.bool (((R2.Format i.op) == 5) || ((R2.Format i.op) == 7))) (E.G.cut 3 [(1, E.pt g1), (2, .bool false), (3, E.i (R2.Format i.op)), (4, .bool (bif ((Zti6c i) || ((R2.Format i.op) == 10)) then (i.d == 0) else (R2.reg i.d))), (5, .bool (Zti6a i)), (6, .bool (Zti6b i)), (7, .bool (Zti6f i)), (131, .bool ((((R2.Format i.op) == 5) || ((R2.Format i.op) == 7)) || ((R2.Format i.op) == 9)))] (fun _ => True) [(g1, (Zti6e i))] ?_ ?_)
 ·
  generalize hc45 : (((R2.Format i.op) == 5) || ((R2.Format i.op) == 7)) = b46
  cases b46
  ·
   exact E.op (E.i (R2.Format i.op)) (E.op (.bool ((R2.Format i.op) == 9)) (E.op (.bool ((R2.Format i.op) == 9)) E.ep))
  exact E.sk (E.sk (E.op (.bool true) E.ep))
 refine E.To.code (E.C.thencut [(1, E.pt g1), (2, .bool false), (3, E.i (R2.Format i.op)), (4, .bool (bif ((Zti6c i) || ((R2.Format i.op) == 10)) then (i.d == 0) else (R2.reg i.d))), (5, .bool (Zti6a i)), (6, .bool (Zti6b i)), (7, .bool (((Zti6k i) || ((R2.Format i.op) == 9)) || (Zti6f i)))] (fun _ => True) [(g1, (Zti6e i))] ?_ ?_)
 ·
  generalize hc47 : ((((R2.Format i.op) == 5) || ((R2.Format i.op) == 7)) || ((R2.Format i.op) == 9)) = b48
  cases b48
  ·
   exact E.C.condF Nz.k Nz.k (E.C.skip (E.To.pst ⟨Nz.k, Nz.k⟩ Nz.sub (fun _ h => h)))
  exact E.C.condT Nz.k Nz.k (E.C.region (E.op (.bool true) (E.To.pst ⟨Nz.k, Nz.k⟩ Nz.sub (fun _ h => h))))
 refine E.C.seq (E.sr (E.op (E.i (R2.Format i.op)) (E.op (.bool ((R2.Format i.op) == 10)) (E.To.code (E.C.thencut [(2, .bool false), (4, .bool (bif ((Zti6c i) || ((R2.Format i.op) == 10)) then (i.d == 0) else (R2.reg i.d))), (5, .bool (Zti6a i)), (6, .bool (Zti6b i)), (7, .bool (bif ((R2.Format i.op) == 10) then (decide (i.imm < 256)) else (((Zti6k i) || ((R2.Format i.op) == 9)) || (Zti6f i))))] (fun _ => True) [(g1, (Zti6e i))] ?_ ?_)))))
 ·
  generalize hc49 : ((R2.Format i.op) == 10) = b50
  cases b50
  ·
   exact E.C.condF Nz.k Nz.k (E.C.skip (E.To.pst ⟨Nz.k, Nz.k⟩ Nz.sub (fun _ h => h)))
  exact E.C.condT Nz.k Nz.k (E.C.region (E.op (E.pj g1 5) (E.li (E.u i.imm) 0 rfl rfl (E.op (.bool (decide (i.imm < 256))) (E.op (.bool (decide (i.imm < 256))) (E.To.pst ⟨Nz.k, Nz.k⟩ Nz.sub (fun _ h => h)))))))
 refine E.sr (E.op (.bool (bif ((Zti6c i) || (Zti6h i)) then (i.d == 0) else (R2.reg i.d))) (E.op (.bool (bif ((Zti6c i) || (Zti6h i)) then (i.d == 0) else (R2.reg i.d))) (E.G.cut 2 [(2, .bool false), (6, .bool (Zti6b i)), (7, .bool (Zti6d i)), (140, .bool ((bif ((Zti6c i) || (Zti6h i)) then (i.d == 0) else (R2.reg i.d)) && (Zti6a i)))] (fun _ => True) [(g1, (Zti6e i))] ?_ ?_)))
 ·
  generalize hc51 : (bif (((((R2.Format i.op) == 1) || ((R2.Format i.op) == 8)) || ((R2.Format i.op) == 9)) || ((R2.Format i.op) == 10)) then (i.d == 0) else (R2.reg i.d)) = b52
  cases b52
  ·
   exact E.sk (E.op (.bool false) E.ep)
  exact E.op (.bool (Zti6a i)) (E.op (.bool (Zti6a i)) E.ep)
 refine E.op (.bool ((bif ((Zti6c i) || (Zti6h i)) then (i.d == 0) else (R2.reg i.d)) && (Zti6a i))) (E.G.cut 2 [(2, .bool false), (7, .bool (Zti6d i)), (143, .bool (((bif ((Zti6c i) || (Zti6h i)) then (i.d == 0) else (R2.reg i.d)) && (Zti6a i)) && (Zti6b i)))] (fun _ => True) [(g1, (Zti6e i))] ?_ ?_)
 ·
  generalize hc53 : ((bif (((((R2.Format i.op) == 1) || ((R2.Format i.op) == 8)) || ((R2.Format i.op) == 9)) || ((R2.Format i.op) == 10)) then (i.d == 0) else (R2.reg i.d)) && (bif ((R2.Format i.op) == 12) then ((decide (i.s ≥ 0)) && (decide (i.s ≤ 4))) else (bif ((R2.Format i.op) == 11) then ((decide (i.s ≥ 0)) && (decide (i.s ≤ 3))) else (bif ((((R2.Format i.op) != 3) && ((R2.Format i.op) != 6)) && ((R2.Format i.op) != 7)) then (i.s == 0) else (R2.reg i.s))))) = b54
  cases b54
  ·
   exact E.sk (E.op (.bool false) E.ep)
  exact E.op (.bool (Zti6b i)) (E.op (.bool (Zti6b i)) E.ep)
 refine E.op (.bool (((bif ((Zti6c i) || (Zti6h i)) then (i.d == 0) else (R2.reg i.d)) && (Zti6a i)) && (Zti6b i))) (E.G.cut 2 [(2, .bool false), (146, .bool ((((bif ((Zti6c i) || (Zti6h i)) then (i.d == 0) else (R2.reg i.d)) && (Zti6a i)) && (Zti6b i)) && (Zti6d i)))] (fun _ => True) [(g1, (Zti6e i))] ?_ ?_)
 ·
  generalize hc55 : (((bif (((((R2.Format i.op) == 1) || ((R2.Format i.op) == 8)) || ((R2.Format i.op) == 9)) || ((R2.Format i.op) == 10)) then (i.d == 0) else (R2.reg i.d)) && (bif ((R2.Format i.op) == 12) then ((decide (i.s ≥ 0)) && (decide (i.s ≤ 4))) else (bif ((R2.Format i.op) == 11) then ((decide (i.s ≥ 0)) && (decide (i.s ≤ 3))) else (bif ((((R2.Format i.op) != 3) && ((R2.Format i.op) != 6)) && ((R2.Format i.op) != 7)) then (i.s == 0) else (R2.reg i.s))))) && (bif (((R2.Format i.op) == 7) && (i.ix != (-1))) then (((R2.reg i.ix) && (decide (i.sc ≥ 0))) && (decide (i.sc ≤ 3))) else ((i.ix == (-1)) && (i.sc == 0)))) = b56
  cases b56
  ·
   exact E.sk (E.op (.bool false) E.ep)
  exact E.op (.bool (Zti6d i)) (E.op (.bool (Zti6d i)) E.ep)
 exact E.op (.bool ((((bif ((Zti6c i) || (Zti6h i)) then (i.d == 0) else (R2.reg i.d)) && (Zti6a i)) && (Zti6b i)) && (Zti6d i))) (E.To.code (E.C.ret (E.bd Tryz.f69 [.bool ((((bif ((Zti6c i) || (Zti6h i)) then (i.d == 0) else (R2.reg i.d)) && (Zti6a i)) && (Zti6b i)) && (Zti6d i))] (fun w h => ⟨by unfold R2.Valid; rw [hc4, N0] <;> rfl, h.ch.bel (fun _ h => h.elim)⟩))))

theorem R2.Size_cases (x : Int) : (R2.Format (IntKind.wrap .i64 x) = 0 ∧ R2.Size x = 0) ∨ (R2.Format (IntKind.wrap .i64 x) = 1 ∧ R2.Size x = 1) ∨ (R2.Format (IntKind.wrap .i64 x) = 2 ∧ R2.Size x = 2) ∨ (R2.Format (IntKind.wrap .i64 x) = 3 ∧ R2.Size x = 2) ∨ (R2.Format (IntKind.wrap .i64 x) = 4 ∧ R2.Size x = 3) ∨ (R2.Format (IntKind.wrap .i64 x) = 5 ∧ R2.Size x = 6) ∨ (R2.Format (IntKind.wrap .i64 x) = 6 ∧ R2.Size x = 3) ∨ (R2.Format (IntKind.wrap .i64 x) = 7 ∧ R2.Size x = 7) ∨ (R2.Format (IntKind.wrap .i64 x) = 8 ∧ R2.Size x = 2) ∨ (R2.Format (IntKind.wrap .i64 x) = 9 ∧ R2.Size x = 5) ∨ (R2.Format (IntKind.wrap .i64 x) = 10 ∧ R2.Size x = 2) ∨ (R2.Format (IntKind.wrap .i64 x) = 11 ∧ R2.Size x = 2) ∨ (R2.Format (IntKind.wrap .i64 x) = 12 ∧ R2.Size x = 2) := by
  have hb := R2.Format_bd (IntKind.wrap .i64 x)
  unfold R2.Size
  generalize R2.Format (IntKind.wrap .i64 x) = f at *
  rcases (by omega : f = 0 ∨ f = 1 ∨ f = 2 ∨ f = 3 ∨ f = 4 ∨ f = 5 ∨ f = 6 ∨ f = 7 ∨ f = 8 ∨ f = 9 ∨ f = 10 ∨ f = 11 ∨ f = 12) with rfl | rfl | rfl | rfl | rfl | rfl | rfl | rfl | rfl | rfl | rfl | rfl | rfl <;> decide

def R2.read (s : ByteArray) : K.Ins := (bif (((R2.Format (IntKind.wrap .i64 (W.byt s.data.toList 0))) == 4) || ((R2.Format (IntKind.wrap .i64 (W.byt s.data.toList 0))) == 6)) then ⟨(IntKind.wrap .i64 (W.byt s.data.toList 0)), (bif ((((R2.Format (IntKind.wrap .i64 (W.byt s.data.toList 0))) == 2) || ((R2.Format (IntKind.wrap .i64 (W.byt s.data.toList 0))) == 4)) || ((R2.Format (IntKind.wrap .i64 (W.byt s.data.toList 0))) == 5)) then (IntKind.wrap .i64 (W.byt s.data.toList 1)) else (bif (decide (((s.size : Nat) : Int) > 1)) then (IntKind.wrap .i64 (Int.tdiv (IntKind.wrap .i64 (W.byt s.data.toList 1)) 16)) else 0)), (bif ((((R2.Format (IntKind.wrap .i64 (W.byt s.data.toList 0))) == 2) || ((R2.Format (IntKind.wrap .i64 (W.byt s.data.toList 0))) == 4)) || ((R2.Format (IntKind.wrap .i64 (W.byt s.data.toList 0))) == 5)) then 0 else (bif (decide (((s.size : Nat) : Int) > 1)) then (Int.tmod (IntKind.wrap .i64 (W.byt s.data.toList 1)) 16) else 0)), -1, 0, (R2.extend (W.byt s.data.toList 2)), ((s.size : Nat) : Int)⟩ else (bif ((R2.Format (IntKind.wrap .i64 (W.byt s.data.toList 0))) == 5) then ⟨(IntKind.wrap .i64 (W.byt s.data.toList 0)), (bif ((((R2.Format (IntKind.wrap .i64 (W.byt s.data.toList 0))) == 2) || ((R2.Format (IntKind.wrap .i64 (W.byt s.data.toList 0))) == 4)) || ((R2.Format (IntKind.wrap .i64 (W.byt s.data.toList 0))) == 5)) then (IntKind.wrap .i64 (W.byt s.data.toList 1)) else (bif (decide (((s.size : Nat) : Int) > 1)) then (IntKind.wrap .i64 (Int.tdiv (IntKind.wrap .i64 (W.byt s.data.toList 1)) 16)) else 0)), (bif ((((R2.Format (IntKind.wrap .i64 (W.byt s.data.toList 0))) == 2) || ((R2.Format (IntKind.wrap .i64 (W.byt s.data.toList 0))) == 4)) || ((R2.Format (IntKind.wrap .i64 (W.byt s.data.toList 0))) == 5)) then 0 else (bif (decide (((s.size : Nat) : Int) > 1)) then (Int.tmod (IntKind.wrap .i64 (W.byt s.data.toList 1)) 16) else 0)), -1, 0, (R2.long (s.extract 2 s.size)), ((s.size : Nat) : Int)⟩ else (bif ((R2.Format (IntKind.wrap .i64 (W.byt s.data.toList 0))) == 7) then (bif ((W.byt s.data.toList 2) != 8) then ⟨(IntKind.wrap .i64 (W.byt s.data.toList 0)), (bif ((((R2.Format (IntKind.wrap .i64 (W.byt s.data.toList 0))) == 2) || ((R2.Format (IntKind.wrap .i64 (W.byt s.data.toList 0))) == 4)) || ((R2.Format (IntKind.wrap .i64 (W.byt s.data.toList 0))) == 5)) then (IntKind.wrap .i64 (W.byt s.data.toList 1)) else (bif (decide (((s.size : Nat) : Int) > 1)) then (IntKind.wrap .i64 (Int.tdiv (IntKind.wrap .i64 (W.byt s.data.toList 1)) 16)) else 0)), (bif ((((R2.Format (IntKind.wrap .i64 (W.byt s.data.toList 0))) == 2) || ((R2.Format (IntKind.wrap .i64 (W.byt s.data.toList 0))) == 4)) || ((R2.Format (IntKind.wrap .i64 (W.byt s.data.toList 0))) == 5)) then 0 else (bif (decide (((s.size : Nat) : Int) > 1)) then (Int.tmod (IntKind.wrap .i64 (W.byt s.data.toList 1)) 16) else 0)), (Int.tmod (IntKind.wrap .i64 (W.byt s.data.toList 2)) 16), (IntKind.wrap .i64 (Int.tdiv (IntKind.wrap .i64 (W.byt s.data.toList 2)) 16)), (R2.long (s.extract 3 s.size)), ((s.size : Nat) : Int)⟩ else ⟨(IntKind.wrap .i64 (W.byt s.data.toList 0)), (bif ((((R2.Format (IntKind.wrap .i64 (W.byt s.data.toList 0))) == 2) || ((R2.Format (IntKind.wrap .i64 (W.byt s.data.toList 0))) == 4)) || ((R2.Format (IntKind.wrap .i64 (W.byt s.data.toList 0))) == 5)) then (IntKind.wrap .i64 (W.byt s.data.toList 1)) else (bif (decide (((s.size : Nat) : Int) > 1)) then (IntKind.wrap .i64 (Int.tdiv (IntKind.wrap .i64 (W.byt s.data.toList 1)) 16)) else 0)), (bif ((((R2.Format (IntKind.wrap .i64 (W.byt s.data.toList 0))) == 2) || ((R2.Format (IntKind.wrap .i64 (W.byt s.data.toList 0))) == 4)) || ((R2.Format (IntKind.wrap .i64 (W.byt s.data.toList 0))) == 5)) then 0 else (bif (decide (((s.size : Nat) : Int) > 1)) then (Int.tmod (IntKind.wrap .i64 (W.byt s.data.toList 1)) 16) else 0)), -1, 0, (R2.long (s.extract 3 s.size)), ((s.size : Nat) : Int)⟩) else (bif (((R2.Format (IntKind.wrap .i64 (W.byt s.data.toList 0))) == 8) || (((R2.Format (IntKind.wrap .i64 (W.byt s.data.toList 0))) == 10) || ((R2.Format (IntKind.wrap .i64 (W.byt s.data.toList 0))) == 9))) then (bif ((R2.Format (IntKind.wrap .i64 (W.byt s.data.toList 0))) == 9) then ⟨(IntKind.wrap .i64 (W.byt s.data.toList 0)), 0, 0, -1, 0, (R2.long (s.extract 1 s.size)), ((s.size : Nat) : Int)⟩ else ⟨(IntKind.wrap .i64 (W.byt s.data.toList 0)), 0, 0, -1, 0, (bif ((R2.Format (IntKind.wrap .i64 (W.byt s.data.toList 0))) == 8) then (R2.extend (W.byt s.data.toList 1)) else (IntKind.wrap .u32 (W.byt s.data.toList 1))), ((s.size : Nat) : Int)⟩) else ⟨(IntKind.wrap .i64 (W.byt s.data.toList 0)), (bif ((((R2.Format (IntKind.wrap .i64 (W.byt s.data.toList 0))) == 2) || ((R2.Format (IntKind.wrap .i64 (W.byt s.data.toList 0))) == 4)) || ((R2.Format (IntKind.wrap .i64 (W.byt s.data.toList 0))) == 5)) then (IntKind.wrap .i64 (W.byt s.data.toList 1)) else (bif (decide (((s.size : Nat) : Int) > 1)) then (IntKind.wrap .i64 (Int.tdiv (IntKind.wrap .i64 (W.byt s.data.toList 1)) 16)) else 0)), (bif ((((R2.Format (IntKind.wrap .i64 (W.byt s.data.toList 0))) == 2) || ((R2.Format (IntKind.wrap .i64 (W.byt s.data.toList 0))) == 4)) || ((R2.Format (IntKind.wrap .i64 (W.byt s.data.toList 0))) == 5)) then 0 else (bif (decide (((s.size : Nat) : Int) > 1)) then (Int.tmod (IntKind.wrap .i64 (W.byt s.data.toList 1)) 16) else 0)), -1, 0, 0, ((s.size : Nat) : Int)⟩))))
abbrev Z9qmb (s : ByteArray) := IntKind.wrap .i64 (W.byt s.data.toList 1)
abbrev Z9qmc (s : ByteArray) := IntKind.wrap .i64 (W.byt s.data.toList 0)
abbrev Z9qma (s : ByteArray) := R2.Format (Z9qmc s)
abbrev Z9qmd (s : ByteArray) := (decide (((s.size : Nat) : Int) > 1))
abbrev Z9qme : List Value := [E.i 0, E.i 0, E.i 0, E.i 0, E.i 0, E.u 0, E.i 0]
abbrev Z9qmf (s : ByteArray) := IntKind.wrap .i64 (W.byt s.data.toList 2)
abbrev Z9qmg (s : ByteArray) := R2.long (s.extract 3 s.size)
abbrev Z9qmh (s : ByteArray) := IntKind.wrap .u32 (W.byt s.data.toList 1)
abbrev Z9qmi (s : ByteArray) := R2.extend (W.byt s.data.toList 2)
abbrev Z9qmj (s : ByteArray) := R2.extend (W.byt s.data.toList 1)
abbrev Z9qmk (s : ByteArray) := R2.long (s.extract 2 s.size)
abbrev Z9qml (s : ByteArray) := R2.long (s.extract 1 s.size)
abbrev Z9qmm (s : ByteArray) : Value := (.int .u8 (W.byt s.data.toList 1))
set_option maxHeartbeats 1000000 in
theorem R2_read (s : ByteArray) (h0 : 0 < s.size) (hS : (s.size : Int) = R2.Size (W.byt s.data.toList 0)) (w : World) : Calls Tryz.prog 124 #[.string s] w fun e w' => e = .returned (.agg #[.int .i64 (((R2.read s)).op), .int .i64 (((R2.read s)).d), .int .i64 (((R2.read s)).s), .int .i64 (((R2.read s)).ix), .int .i64 (((R2.read s)).sc), .int .u32 (((R2.read s)).imm), .int .i64 (((R2.read s)).sz)]) ∧ Bel w w' := by
 have hc := R2.Size_cases (W.byt s.data.toList 0)
 refine E.enter (n := 99) (S := fun _ => False) Tryz.func124 rfl rfl Nz.k (E.Hp.start w) (E.sr (E.nw Z9qme 66 (fun g1 => E.tr (E.op (.string s) (E.vl (.int .u8 (W.byt s.data.toList 0)) (fun w h => E.sidx s .i64 0 Nz.k Nz.k Nz.k Nz.szm Nz.szm w) (E.op (E.i (Z9qmc s)) (E.ca (E.i (Z9qma s)) (fun w h => R2_Format _ w) (E.op (E.i (Z9qma s)) (E.tr (E.op (.string s) (E.vl (.int .u8 (W.byt s.data.toList 0)) (fun w h => E.sidx s .i64 0 Nz.k Nz.k Nz.k Nz.szm Nz.szm w) ?_)))))))))))
 refine E.op (E.i (Z9qmc s)) (E.op (.string s) (E.op (E.i ((s.size : Nat) : Int)) (E.vl (.agg #[E.i (Z9qmc s), E.i 0, E.i 0, E.i (-1), E.i 0, E.u 0, E.i ((s.size : Nat) : Int)]) (fun w h => E.run_build #[E.i (Z9qmc s), E.i 0, E.i 0, E.i (-1), E.i 0, E.u 0, E.i ((s.size : Nat) : Int)] Nz.k w) (E.nw Z9qme 66 (fun g2 => E.st 0 [E.i (Z9qmc s), E.i 0, E.i 0, E.i (-1), E.i 0, E.u 0, E.i ((s.size : Nat) : Int)] rfl rfl (E.To.code (E.wk [(0, .string s), (2, E.pt g1), (3, E.i (Z9qma s)), (4, E.pt g2)] [(g2, [E.i (Z9qmc s), E.i 0, E.i 0, E.i (-1), E.i 0, E.u 0, E.i ((s.size : Nat) : Int)]), (g1, Z9qme)] Nz.sub (E.C.seq (E.sr (E.op (.string s) (E.op (E.i ((s.size : Nat) : Int)) ?_)))))))))))
 refine E.op (.bool (decide (((s.size : Nat) : Int) > 1))) (E.To.code (E.C.thencut [(0, .string s), (2, E.pt g1), (3, E.i (Z9qma s)), (4, E.pt g2)] (fun _ => True) [(g2, [E.i (Z9qmc s), E.i (bif (decide (((s.size : Nat) : Int) > 1)) then (IntKind.wrap .i64 (Int.tdiv (Z9qmb s) 16)) else 0), E.i (bif (decide (((s.size : Nat) : Int) > 1)) then (Int.tmod (Z9qmb s) 16) else 0), E.i (-1), E.i 0, E.u 0, E.i ((s.size : Nat) : Int)]), (g1, Z9qme)] ?_ ?_))
 ·
  generalize hc3 : (decide (((s.size : Nat) : Int) > 1)) = b4
  cases b4
  ·
   exact E.C.condF Nz.k Nz.k (E.C.skip (E.To.pst ⟨Nz.k, Nz.k⟩ Nz.sub (fun _ h => h)))
  refine E.C.condT Nz.k Nz.k (E.sr (E.op (.string s) (E.vl (Z9qmm s) (fun w h => E.sidx s .i64 1 Nz.k Nz.k Nz.k Nz.szm Nz.szm w) (E.op (E.i (Z9qmb s)) (E.op (E.i (IntKind.wrap .i64 (Int.tdiv (Z9qmb s) 16))) (E.op (E.pj g2 1) (E.st 0 [E.i (Z9qmc s), E.i (IntKind.wrap .i64 (Int.tdiv (Z9qmb s) 16)), E.i 0, E.i (-1), E.i 0, E.u 0, E.i ((s.size : Nat) : Int)] rfl rfl (E.To.code (E.wk [(0, .string s), (2, E.pt g1), (3, E.i (Z9qma s)), (4, E.pt g2)] [(g2, [E.i (Z9qmc s), E.i (IntKind.wrap .i64 (Int.tdiv (Z9qmb s) 16)), E.i 0, E.i (-1), E.i 0, E.u 0, E.i ((s.size : Nat) : Int)]), (g1, Z9qme)] Nz.sub (E.C.region (E.op (.string s) ?_)))))))))))
  exact E.vl (Z9qmm s) (fun w h => E.sidx s .i64 1 Nz.k Nz.k Nz.k Nz.szm Nz.szm w) (E.op (E.i (Z9qmb s)) (E.op (E.i (Int.tmod (Z9qmb s) 16)) (E.op (E.pj g2 2) (E.st 0 [E.i (Z9qmc s), E.i (IntKind.wrap .i64 (Int.tdiv (Z9qmb s) 16)), E.i (Int.tmod (Z9qmb s) 16), E.i (-1), E.i 0, E.u 0, E.i ((s.size : Nat) : Int)] rfl rfl (E.To.pst ⟨Nz.k, Nz.k⟩ Nz.sub (fun _ h => h))))))
 refine E.C.seq (E.sr (E.op (E.i (Z9qma s)) (E.op (.bool ((Z9qma s) == 2)) (E.op (.bool ((Z9qma s) == 2)) (E.G.cut 3 [(0, .string s), (2, E.pt g1), (3, E.i (Z9qma s)), (4, E.pt g2), (33, .bool (((Z9qma s) == 2) || ((Z9qma s) == 4)))] (fun _ => True) [(g2, [E.i (Z9qmc s), E.i (bif (Z9qmd s) then (IntKind.wrap .i64 (Int.tdiv (Z9qmb s) 16)) else 0), E.i (bif (Z9qmd s) then (Int.tmod (Z9qmb s) 16) else 0), E.i (-1), E.i 0, E.u 0, E.i ((s.size : Nat) : Int)]), (g1, Z9qme)] ?_ ?_)))))
 ·
  generalize hc5 : ((R2.Format (IntKind.wrap .i64 (W.byt s.data.toList 0))) == 2) = b6
  cases b6
  ·
   exact E.op (E.i (Z9qma s)) (E.op (.bool ((Z9qma s) == 4)) (E.op (.bool ((Z9qma s) == 4)) E.ep))
  exact E.sk (E.sk (E.op (.bool true) E.ep))
 refine E.op (.bool (((Z9qma s) == 2) || ((Z9qma s) == 4))) (E.G.cut 3 [(0, .string s), (2, E.pt g1), (3, E.i (Z9qma s)), (4, E.pt g2), (37, .bool ((((Z9qma s) == 2) || ((Z9qma s) == 4)) || ((Z9qma s) == 5)))] (fun _ => True) [(g2, [E.i (Z9qmc s), E.i (bif (Z9qmd s) then (IntKind.wrap .i64 (Int.tdiv (Z9qmb s) 16)) else 0), E.i (bif (Z9qmd s) then (Int.tmod (Z9qmb s) 16) else 0), E.i (-1), E.i 0, E.u 0, E.i ((s.size : Nat) : Int)]), (g1, Z9qme)] ?_ ?_)
 ·
  generalize hc7 : (((R2.Format (IntKind.wrap .i64 (W.byt s.data.toList 0))) == 2) || ((R2.Format (IntKind.wrap .i64 (W.byt s.data.toList 0))) == 4)) = b8
  cases b8
  ·
   exact E.op (E.i (Z9qma s)) (E.op (.bool ((Z9qma s) == 5)) (E.op (.bool ((Z9qma s) == 5)) E.ep))
  exact E.sk (E.sk (E.op (.bool true) E.ep))
 refine E.To.code (E.C.thencut [(0, .string s), (2, E.pt g1), (3, E.i (Z9qma s)), (4, E.pt g2)] (fun _ => True) [(g2, [E.i (Z9qmc s), E.i (bif ((((Z9qma s) == 2) || ((Z9qma s) == 4)) || ((Z9qma s) == 5)) then (Z9qmb s) else (bif (Z9qmd s) then (IntKind.wrap .i64 (Int.tdiv (Z9qmb s) 16)) else 0)), E.i (bif ((((Z9qma s) == 2) || ((Z9qma s) == 4)) || ((Z9qma s) == 5)) then 0 else (bif (Z9qmd s) then (Int.tmod (Z9qmb s) 16) else 0)), E.i (-1), E.i 0, E.u 0, E.i ((s.size : Nat) : Int)]), (g1, Z9qme)] ?_ ?_)
 ·
  generalize hc9 : ((((R2.Format (IntKind.wrap .i64 (W.byt s.data.toList 0))) == 2) || ((R2.Format (IntKind.wrap .i64 (W.byt s.data.toList 0))) == 4)) || ((R2.Format (IntKind.wrap .i64 (W.byt s.data.toList 0))) == 5)) = b10
  cases b10
  ·
   exact E.C.condF Nz.k Nz.k (E.C.skip (E.To.pst ⟨Nz.k, Nz.k⟩ Nz.sub (fun _ h => h)))
  exact E.C.condT Nz.k Nz.k (E.sr (E.op (.string s) (E.vl (Z9qmm s) (fun w h => E.sidx s .i64 1 Nz.k Nz.k Nz.k Nz.szm Nz.szm w) (E.op (E.i (Z9qmb s)) (E.op (E.pj g2 1) (E.st 0 [E.i (Z9qmc s), E.i (Z9qmb s), E.i (bif (Z9qmd s) then (Int.tmod (Z9qmb s) 16) else 0), E.i (-1), E.i 0, E.u 0, E.i ((s.size : Nat) : Int)] rfl rfl (E.ur (E.op (E.pj g2 2) (E.st 0 [E.i (Z9qmc s), E.i (Z9qmb s), E.i 0, E.i (-1), E.i 0, E.u 0, E.i ((s.size : Nat) : Int)] rfl rfl (E.To.pst ⟨Nz.k, Nz.k⟩ Nz.sub (fun _ h => h)))))))))))
 refine E.C.seq (E.sr (E.op (E.i (Z9qma s)) (E.To.code (E.C.block (E.C.seq (E.sr (E.op (.bool ((Z9qma s) == 4)) (E.op (.bool ((Z9qma s) == 4)) (E.To.code (E.C.thencut [(0, .string s), (2, E.pt g1), (3, E.i (Z9qma s)), (4, E.pt g2), (43, E.i (Z9qma s)), (44, .bool (((Z9qma s) == 4) || ((Z9qma s) == 6)))] (fun _ => True) [(g2, [E.i (Z9qmc s), E.i (bif ((((Z9qma s) == 2) || ((Z9qma s) == 4)) || ((Z9qma s) == 5)) then (Z9qmb s) else (bif (Z9qmd s) then (IntKind.wrap .i64 (Int.tdiv (Z9qmb s) 16)) else 0)), E.i (bif ((((Z9qma s) == 2) || ((Z9qma s) == 4)) || ((Z9qma s) == 5)) then 0 else (bif (Z9qmd s) then (Int.tmod (Z9qmb s) 16) else 0)), E.i (-1), E.i 0, E.u 0, E.i ((s.size : Nat) : Int)]), (g1, Z9qme)] ?_ ?_))))))))))
 ·
  generalize hc11 : ((R2.Format (IntKind.wrap .i64 (W.byt s.data.toList 0))) == 4) = b12
  cases b12
  ·
   exact E.C.condF Nz.k Nz.k (E.C.region (E.op (.bool ((Z9qma s) == 6)) (E.op (.bool ((Z9qma s) == 6)) (E.To.pst ⟨Nz.k, Nz.k⟩ Nz.sub (fun _ h => h)))))
  exact E.C.condT Nz.k Nz.k (E.C.skip (E.To.pst ⟨Nz.k, Nz.k⟩ Nz.sub (fun _ h => h)))
 refine E.cd (((R2.Format (IntKind.wrap .i64 (W.byt s.data.toList 0))) == 4) || ((R2.Format (IntKind.wrap .i64 (W.byt s.data.toList 0))) == 6)) (fun hc13 => ?_) (fun hc13 => ?_)
 ·
  refine E.C.region (E.op (.string s) (E.vl (.int .u8 (W.byt s.data.toList 2)) (fun w h => E.sidx s .i64 2 Nz.k Nz.k Nz.k Nz.szm Nz.szm w) (E.ca (E.u (Z9qmi s)) (fun w h => R2_extend _ w) (E.op (E.pj g2 5) (E.st 0 [E.i (Z9qmc s), E.i (bif ((((Z9qma s) == 2) || ((Z9qma s) == 4)) || ((Z9qma s) == 5)) then (Z9qmb s) else (bif (Z9qmd s) then (IntKind.wrap .i64 (Int.tdiv (Z9qmb s) 16)) else 0)), E.i (bif ((((Z9qma s) == 2) || ((Z9qma s) == 4)) || ((Z9qma s) == 5)) then 0 else (bif (Z9qmd s) then (Int.tmod (Z9qmb s) 16) else 0)), E.i (-1), E.i 0, E.u (Z9qmi s), E.i ((s.size : Nat) : Int)] rfl rfl (E.P.nb (E.To.code (E.wk [(2, E.pt g1), (4, E.pt g2)] [(g2, [E.i (Z9qmc s), E.i (bif ((((Z9qma s) == 2) || ((Z9qma s) == 4)) || ((Z9qma s) == 5)) then (Z9qmb s) else (bif (Z9qmd s) then (IntKind.wrap .i64 (Int.tdiv (Z9qmb s) 16)) else 0)), E.i (bif ((((Z9qma s) == 2) || ((Z9qma s) == 4)) || ((Z9qma s) == 5)) then 0 else (bif (Z9qmd s) then (Int.tmod (Z9qmb s) 16) else 0)), E.i (-1), E.i 0, E.u (Z9qmi s), E.i ((s.size : Nat) : Int)]), (g1, Z9qme)] Nz.sub (E.sr (E.li (.agg #[E.i (Z9qmc s), E.i (bif ((((Z9qma s) == 2) || ((Z9qma s) == 4)) || ((Z9qma s) == 5)) then (Z9qmb s) else (bif (Z9qmd s) then (IntKind.wrap .i64 (Int.tdiv (Z9qmb s) 16)) else 0)), E.i (bif ((((Z9qma s) == 2) || ((Z9qma s) == 4)) || ((Z9qma s) == 5)) then 0 else (bif (Z9qmd s) then (Int.tmod (Z9qmb s) 16) else 0)), E.i (-1), E.i 0, E.u (Z9qmi s), E.i ((s.size : Nat) : Int)]) 0 rfl rfl (E.st 1 [E.i (Z9qmc s), E.i (bif ((((Z9qma s) == 2) || ((Z9qma s) == 4)) || ((Z9qma s) == 5)) then (Z9qmb s) else (bif (Z9qmd s) then (IntKind.wrap .i64 (Int.tdiv (Z9qmb s) 16)) else 0)), E.i (bif ((((Z9qma s) == 2) || ((Z9qma s) == 4)) || ((Z9qma s) == 5)) then 0 else (bif (Z9qmd s) then (Int.tmod (Z9qmb s) 16) else 0)), E.i (-1), E.i 0, E.u (Z9qmi s), E.i ((s.size : Nat) : Int)] rfl rfl (E.To.code ?_))))))))))))
  exact E.C.ret (E.b1 Tryz.f124 [.agg #[E.i (Z9qmc s), E.i (bif ((((Z9qma s) == 2) || ((Z9qma s) == 4)) || ((Z9qma s) == 5)) then (Z9qmb s) else (bif (Z9qmd s) then (IntKind.wrap .i64 (Int.tdiv (Z9qmb s) 16)) else 0)), E.i (bif ((((Z9qma s) == 2) || ((Z9qma s) == 4)) || ((Z9qma s) == 5)) then 0 else (bif (Z9qmd s) then (Int.tmod (Z9qmb s) 16) else 0)), E.i (-1), E.i 0, E.u (Z9qmi s), E.i ((s.size : Nat) : Int)]] (fun w h => ⟨by unfold R2.read; rw [hc13, N1] <;> rfl, h.ch.bel (fun _ h => h.elim)⟩))
 refine E.sr (E.op (.bool ((Z9qma s) == 5)) (E.op (.bool ((Z9qma s) == 5)) (E.To.code (E.cd ((R2.Format (IntKind.wrap .i64 (W.byt s.data.toList 0))) == 5) (fun hc14 => ?_) (fun hc14 => ?_)))))
 ·
  refine E.C.region (E.op (.string s) (E.vl (.string (s.extract 2 s.size)) (fun w h => E.slFrom s .i64 2 Nz.k Nz.k Nz.k Nz.szm Nz.szm w) (E.ca (E.u (Z9qmk s)) (fun w h => R2_long _ ((by rw [ByteArray.size_extract]; first | (have hp := E.size_pos (by assumption); (try simp only [beq_iff_eq, bne_iff_ne, ne_eq, Bool.or_eq_true, Bool.and_eq_true, beq_eq_false_iff_ne, decide_eq_true_eq, decide_eq_false_iff_not, Bool.or_eq_false_iff, Bool.not_eq_true, gt_iff_lt] at *); omega) | ((try simp only [beq_iff_eq, bne_iff_ne, ne_eq, Bool.or_eq_true, Bool.and_eq_true, beq_eq_false_iff_ne, decide_eq_true_eq, decide_eq_false_iff_not, Bool.or_eq_false_iff, Bool.not_eq_true, gt_iff_lt] at *); omega))) w) (E.op (E.pj g2 5) (E.st 0 [E.i (Z9qmc s), E.i (bif ((((Z9qma s) == 2) || ((Z9qma s) == 4)) || ((Z9qma s) == 5)) then (Z9qmb s) else (bif (Z9qmd s) then (IntKind.wrap .i64 (Int.tdiv (Z9qmb s) 16)) else 0)), E.i (bif ((((Z9qma s) == 2) || ((Z9qma s) == 4)) || ((Z9qma s) == 5)) then 0 else (bif (Z9qmd s) then (Int.tmod (Z9qmb s) 16) else 0)), E.i (-1), E.i 0, E.u (Z9qmk s), E.i ((s.size : Nat) : Int)] rfl rfl (E.P.nb (E.To.code (E.wk [(2, E.pt g1), (4, E.pt g2)] [(g2, [E.i (Z9qmc s), E.i (bif ((((Z9qma s) == 2) || ((Z9qma s) == 4)) || ((Z9qma s) == 5)) then (Z9qmb s) else (bif (Z9qmd s) then (IntKind.wrap .i64 (Int.tdiv (Z9qmb s) 16)) else 0)), E.i (bif ((((Z9qma s) == 2) || ((Z9qma s) == 4)) || ((Z9qma s) == 5)) then 0 else (bif (Z9qmd s) then (Int.tmod (Z9qmb s) 16) else 0)), E.i (-1), E.i 0, E.u (Z9qmk s), E.i ((s.size : Nat) : Int)]), (g1, Z9qme)] Nz.sub (E.sr (E.li (.agg #[E.i (Z9qmc s), E.i (bif ((((Z9qma s) == 2) || ((Z9qma s) == 4)) || ((Z9qma s) == 5)) then (Z9qmb s) else (bif (Z9qmd s) then (IntKind.wrap .i64 (Int.tdiv (Z9qmb s) 16)) else 0)), E.i (bif ((((Z9qma s) == 2) || ((Z9qma s) == 4)) || ((Z9qma s) == 5)) then 0 else (bif (Z9qmd s) then (Int.tmod (Z9qmb s) 16) else 0)), E.i (-1), E.i 0, E.u (Z9qmk s), E.i ((s.size : Nat) : Int)]) 0 rfl rfl (E.st 1 [E.i (Z9qmc s), E.i (bif ((((Z9qma s) == 2) || ((Z9qma s) == 4)) || ((Z9qma s) == 5)) then (Z9qmb s) else (bif (Z9qmd s) then (IntKind.wrap .i64 (Int.tdiv (Z9qmb s) 16)) else 0)), E.i (bif ((((Z9qma s) == 2) || ((Z9qma s) == 4)) || ((Z9qma s) == 5)) then 0 else (bif (Z9qmd s) then (Int.tmod (Z9qmb s) 16) else 0)), E.i (-1), E.i 0, E.u (Z9qmk s), E.i ((s.size : Nat) : Int)] rfl rfl (E.To.code ?_))))))))))))
  exact E.C.ret (E.b1 Tryz.f124 [.agg #[E.i (Z9qmc s), E.i (bif ((((Z9qma s) == 2) || ((Z9qma s) == 4)) || ((Z9qma s) == 5)) then (Z9qmb s) else (bif (Z9qmd s) then (IntKind.wrap .i64 (Int.tdiv (Z9qmb s) 16)) else 0)), E.i (bif ((((Z9qma s) == 2) || ((Z9qma s) == 4)) || ((Z9qma s) == 5)) then 0 else (bif (Z9qmd s) then (Int.tmod (Z9qmb s) 16) else 0)), E.i (-1), E.i 0, E.u (Z9qmk s), E.i ((s.size : Nat) : Int)]] (fun w h => ⟨by unfold R2.read; rw [hc13, N0, hc14, N1] <;> rfl, h.ch.bel (fun _ h => h.elim)⟩))
 refine E.sr (E.op (.bool ((Z9qma s) == 7)) (E.op (.bool ((Z9qma s) == 7)) (E.To.code (E.cd ((R2.Format (IntKind.wrap .i64 (W.byt s.data.toList 0))) == 7) (fun hc15 => ?_) (fun hc15 => ?_)))))
 ·
  refine E.sr (E.op (.string s) (E.vl (.string (s.extract 3 s.size)) (fun w h => E.slFrom s .i64 3 Nz.k Nz.k Nz.k Nz.szm Nz.szm w) (E.ca (E.u (Z9qmg s)) (fun w h => R2_long _ ((by rw [ByteArray.size_extract]; first | (have hp := E.size_pos (by assumption); (try simp only [beq_iff_eq, bne_iff_ne, ne_eq, Bool.or_eq_true, Bool.and_eq_true, beq_eq_false_iff_ne, decide_eq_true_eq, decide_eq_false_iff_not, Bool.or_eq_false_iff, Bool.not_eq_true, gt_iff_lt] at *); omega) | ((try simp only [beq_iff_eq, bne_iff_ne, ne_eq, Bool.or_eq_true, Bool.and_eq_true, beq_eq_false_iff_ne, decide_eq_true_eq, decide_eq_false_iff_not, Bool.or_eq_false_iff, Bool.not_eq_true, gt_iff_lt] at *); omega))) w) (E.op (E.pj g2 5) (E.st 0 [E.i (Z9qmc s), E.i (bif ((((Z9qma s) == 2) || ((Z9qma s) == 4)) || ((Z9qma s) == 5)) then (Z9qmb s) else (bif (Z9qmd s) then (IntKind.wrap .i64 (Int.tdiv (Z9qmb s) 16)) else 0)), E.i (bif ((((Z9qma s) == 2) || ((Z9qma s) == 4)) || ((Z9qma s) == 5)) then 0 else (bif (Z9qmd s) then (Int.tmod (Z9qmb s) 16) else 0)), E.i (-1), E.i 0, E.u (Z9qmg s), E.i ((s.size : Nat) : Int)] rfl rfl (E.To.code (E.wk [(0, .string s), (2, E.pt g1), (4, E.pt g2)] [(g2, [E.i (Z9qmc s), E.i (bif ((((Z9qma s) == 2) || ((Z9qma s) == 4)) || ((Z9qma s) == 5)) then (Z9qmb s) else (bif (Z9qmd s) then (IntKind.wrap .i64 (Int.tdiv (Z9qmb s) 16)) else 0)), E.i (bif ((((Z9qma s) == 2) || ((Z9qma s) == 4)) || ((Z9qma s) == 5)) then 0 else (bif (Z9qmd s) then (Int.tmod (Z9qmb s) 16) else 0)), E.i (-1), E.i 0, E.u (Z9qmg s), E.i ((s.size : Nat) : Int)]), (g1, Z9qme)] Nz.sub (E.sr (E.op (.string s) (E.vl (.int .u8 (W.byt s.data.toList 2)) (fun w h => E.sidx s .i64 2 Nz.k Nz.k Nz.k Nz.szm Nz.szm w) (E.op (.bool ((W.byt s.data.toList 2) != 8)) ?_)))))))))))
  refine E.To.code (E.cd ((W.byt s.data.toList 2) != 8) (fun hc16 => ?_) (fun hc16 => ?_))
  ·
   refine E.sr (E.op (.string s) (E.vl (.int .u8 (W.byt s.data.toList 2)) (fun w h => E.sidx s .i64 2 Nz.k Nz.k Nz.k Nz.szm Nz.szm w) (E.op (E.i (Z9qmf s)) (E.op (E.i (Int.tmod (Z9qmf s) 16)) (E.op (E.pj g2 3) (E.st 0 [E.i (Z9qmc s), E.i (bif ((((Z9qma s) == 2) || ((Z9qma s) == 4)) || ((Z9qma s) == 5)) then (Z9qmb s) else (bif (Z9qmd s) then (IntKind.wrap .i64 (Int.tdiv (Z9qmb s) 16)) else 0)), E.i (bif ((((Z9qma s) == 2) || ((Z9qma s) == 4)) || ((Z9qma s) == 5)) then 0 else (bif (Z9qmd s) then (Int.tmod (Z9qmb s) 16) else 0)), E.i (Int.tmod (Z9qmf s) 16), E.i 0, E.u (Z9qmg s), E.i ((s.size : Nat) : Int)] rfl rfl (E.To.code (E.wk [(0, .string s), (2, E.pt g1), (4, E.pt g2)] [(g2, [E.i (Z9qmc s), E.i (bif ((((Z9qma s) == 2) || ((Z9qma s) == 4)) || ((Z9qma s) == 5)) then (Z9qmb s) else (bif (Z9qmd s) then (IntKind.wrap .i64 (Int.tdiv (Z9qmb s) 16)) else 0)), E.i (bif ((((Z9qma s) == 2) || ((Z9qma s) == 4)) || ((Z9qma s) == 5)) then 0 else (bif (Z9qmd s) then (Int.tmod (Z9qmb s) 16) else 0)), E.i (Int.tmod (Z9qmf s) 16), E.i 0, E.u (Z9qmg s), E.i ((s.size : Nat) : Int)]), (g1, Z9qme)] Nz.sub (E.C.region (E.op (.string s) (E.vl (.int .u8 (W.byt s.data.toList 2)) (fun w h => E.sidx s .i64 2 Nz.k Nz.k Nz.k Nz.szm Nz.szm w) ?_)))))))))))
   exact E.op (E.i (Z9qmf s)) (E.op (E.i (IntKind.wrap .i64 (Int.tdiv (Z9qmf s) 16))) (E.op (E.pj g2 4) (E.st 0 [E.i (Z9qmc s), E.i (bif ((((Z9qma s) == 2) || ((Z9qma s) == 4)) || ((Z9qma s) == 5)) then (Z9qmb s) else (bif (Z9qmd s) then (IntKind.wrap .i64 (Int.tdiv (Z9qmb s) 16)) else 0)), E.i (bif ((((Z9qma s) == 2) || ((Z9qma s) == 4)) || ((Z9qma s) == 5)) then 0 else (bif (Z9qmd s) then (Int.tmod (Z9qmb s) 16) else 0)), E.i (Int.tmod (Z9qmf s) 16), E.i (IntKind.wrap .i64 (Int.tdiv (Z9qmf s) 16)), E.u (Z9qmg s), E.i ((s.size : Nat) : Int)] rfl rfl (E.P.nb (E.To.code (E.sr (E.li (.agg #[E.i (Z9qmc s), E.i (bif ((((Z9qma s) == 2) || ((Z9qma s) == 4)) || ((Z9qma s) == 5)) then (Z9qmb s) else (bif (Z9qmd s) then (IntKind.wrap .i64 (Int.tdiv (Z9qmb s) 16)) else 0)), E.i (bif ((((Z9qma s) == 2) || ((Z9qma s) == 4)) || ((Z9qma s) == 5)) then 0 else (bif (Z9qmd s) then (Int.tmod (Z9qmb s) 16) else 0)), E.i (Int.tmod (Z9qmf s) 16), E.i (IntKind.wrap .i64 (Int.tdiv (Z9qmf s) 16)), E.u (Z9qmg s), E.i ((s.size : Nat) : Int)]) 0 rfl rfl (E.st 1 [E.i (Z9qmc s), E.i (bif ((((Z9qma s) == 2) || ((Z9qma s) == 4)) || ((Z9qma s) == 5)) then (Z9qmb s) else (bif (Z9qmd s) then (IntKind.wrap .i64 (Int.tdiv (Z9qmb s) 16)) else 0)), E.i (bif ((((Z9qma s) == 2) || ((Z9qma s) == 4)) || ((Z9qma s) == 5)) then 0 else (bif (Z9qmd s) then (Int.tmod (Z9qmb s) 16) else 0)), E.i (Int.tmod (Z9qmf s) 16), E.i (IntKind.wrap .i64 (Int.tdiv (Z9qmf s) 16)), E.u (Z9qmg s), E.i ((s.size : Nat) : Int)] rfl rfl (E.To.code (E.wk [(2, E.pt g1)] [(g1, [E.i (Z9qmc s), E.i (bif ((((Z9qma s) == 2) || ((Z9qma s) == 4)) || ((Z9qma s) == 5)) then (Z9qmb s) else (bif (Z9qmd s) then (IntKind.wrap .i64 (Int.tdiv (Z9qmb s) 16)) else 0)), E.i (bif ((((Z9qma s) == 2) || ((Z9qma s) == 4)) || ((Z9qma s) == 5)) then 0 else (bif (Z9qmd s) then (Int.tmod (Z9qmb s) 16) else 0)), E.i (Int.tmod (Z9qmf s) 16), E.i (IntKind.wrap .i64 (Int.tdiv (Z9qmf s) 16)), E.u (Z9qmg s), E.i ((s.size : Nat) : Int)])] Nz.sub (E.C.ret (E.b0 Tryz.f124 [.agg #[E.i (Z9qmc s), E.i (bif ((((Z9qma s) == 2) || ((Z9qma s) == 4)) || ((Z9qma s) == 5)) then (Z9qmb s) else (bif (Z9qmd s) then (IntKind.wrap .i64 (Int.tdiv (Z9qmb s) 16)) else 0)), E.i (bif ((((Z9qma s) == 2) || ((Z9qma s) == 4)) || ((Z9qma s) == 5)) then 0 else (bif (Z9qmd s) then (Int.tmod (Z9qmb s) 16) else 0)), E.i (Int.tmod (Z9qmf s) 16), E.i (IntKind.wrap .i64 (Int.tdiv (Z9qmf s) 16)), E.u (Z9qmg s), E.i ((s.size : Nat) : Int)]] (fun w h => ⟨by unfold R2.read; rw [hc13, N0, hc14, N0, hc15, N1, hc16, N1] <;> rfl, h.ch.bel (fun _ h => h.elim)⟩)))))))))))))
  exact E.C.skip (E.P.nb (E.To.code (E.sr (E.li (.agg #[E.i (Z9qmc s), E.i (bif ((((Z9qma s) == 2) || ((Z9qma s) == 4)) || ((Z9qma s) == 5)) then (Z9qmb s) else (bif (Z9qmd s) then (IntKind.wrap .i64 (Int.tdiv (Z9qmb s) 16)) else 0)), E.i (bif ((((Z9qma s) == 2) || ((Z9qma s) == 4)) || ((Z9qma s) == 5)) then 0 else (bif (Z9qmd s) then (Int.tmod (Z9qmb s) 16) else 0)), E.i (-1), E.i 0, E.u (Z9qmg s), E.i ((s.size : Nat) : Int)]) 0 rfl rfl (E.st 1 [E.i (Z9qmc s), E.i (bif ((((Z9qma s) == 2) || ((Z9qma s) == 4)) || ((Z9qma s) == 5)) then (Z9qmb s) else (bif (Z9qmd s) then (IntKind.wrap .i64 (Int.tdiv (Z9qmb s) 16)) else 0)), E.i (bif ((((Z9qma s) == 2) || ((Z9qma s) == 4)) || ((Z9qma s) == 5)) then 0 else (bif (Z9qmd s) then (Int.tmod (Z9qmb s) 16) else 0)), E.i (-1), E.i 0, E.u (Z9qmg s), E.i ((s.size : Nat) : Int)] rfl rfl (E.To.code (E.C.ret (E.b1 Tryz.f124 [.agg #[E.i (Z9qmc s), E.i (bif ((((Z9qma s) == 2) || ((Z9qma s) == 4)) || ((Z9qma s) == 5)) then (Z9qmb s) else (bif (Z9qmd s) then (IntKind.wrap .i64 (Int.tdiv (Z9qmb s) 16)) else 0)), E.i (bif ((((Z9qma s) == 2) || ((Z9qma s) == 4)) || ((Z9qma s) == 5)) then 0 else (bif (Z9qmd s) then (Int.tmod (Z9qmb s) 16) else 0)), E.i (-1), E.i 0, E.u (Z9qmg s), E.i ((s.size : Nat) : Int)]] (fun w h => ⟨by unfold R2.read; rw [hc13, N0, hc14, N0, hc15, N1, hc16, N0] <;> rfl, h.ch.bel (fun _ h => h.elim)⟩)))))))))
 refine E.C.seq (E.sr (E.op (.bool ((Z9qma s) == 8)) (E.op (.bool ((Z9qma s) == 8)) (E.To.code (E.C.thencut [(0, .string s), (2, E.pt g1), (3, E.i (Z9qma s)), (4, E.pt g2), (76, .bool (((Z9qma s) == 8) || (((Z9qma s) == 10) || ((Z9qma s) == 9))))] (fun _ => True) [(g2, [E.i (Z9qmc s), E.i (bif ((((Z9qma s) == 2) || ((Z9qma s) == 4)) || ((Z9qma s) == 5)) then (Z9qmb s) else (bif (Z9qmd s) then (IntKind.wrap .i64 (Int.tdiv (Z9qmb s) 16)) else 0)), E.i (bif ((((Z9qma s) == 2) || ((Z9qma s) == 4)) || ((Z9qma s) == 5)) then 0 else (bif (Z9qmd s) then (Int.tmod (Z9qmb s) 16) else 0)), E.i (-1), E.i 0, E.u 0, E.i ((s.size : Nat) : Int)]), (g1, Z9qme)] ?_ ?_)))))
 ·
  generalize hc17 : ((R2.Format (IntKind.wrap .i64 (W.byt s.data.toList 0))) == 8) = b18
  cases b18
  ·
   refine E.C.condF Nz.k Nz.k (E.sr (E.op (.bool ((Z9qma s) == 10)) (E.op (.bool ((Z9qma s) == 10)) (E.To.code ?_))))
   generalize hc19 : ((R2.Format (IntKind.wrap .i64 (W.byt s.data.toList 0))) == 10) = b20
   cases b20
   ·
    exact E.C.condF Nz.k Nz.k (E.C.region (E.op (.bool ((Z9qma s) == 9)) (E.op (.bool ((Z9qma s) == 9)) (E.To.pst ⟨Nz.k, Nz.k⟩ Nz.sub (fun _ h => h)))))
   exact E.C.condT Nz.k Nz.k (E.C.skip (E.To.pst ⟨Nz.k, Nz.k⟩ Nz.sub (fun _ h => h)))
  exact E.C.condT Nz.k Nz.k (E.C.skip (E.To.pst ⟨Nz.k, Nz.k⟩ Nz.sub (fun _ h => h)))
 refine E.cd (((R2.Format (IntKind.wrap .i64 (W.byt s.data.toList 0))) == 8) || (((R2.Format (IntKind.wrap .i64 (W.byt s.data.toList 0))) == 10) || ((R2.Format (IntKind.wrap .i64 (W.byt s.data.toList 0))) == 9))) (fun hc21 => ?_) (fun hc21 => ?_)
 ·
  refine E.sr (E.op (E.pj g2 1) (E.st 0 [E.i (Z9qmc s), E.i 0, E.i (bif ((((Z9qma s) == 2) || ((Z9qma s) == 4)) || ((Z9qma s) == 5)) then 0 else (bif (Z9qmd s) then (Int.tmod (Z9qmb s) 16) else 0)), E.i (-1), E.i 0, E.u 0, E.i ((s.size : Nat) : Int)] rfl rfl (E.tr (E.op (E.pj g2 2) (E.st 0 [E.i (Z9qmc s), E.i 0, E.i 0, E.i (-1), E.i 0, E.u 0, E.i ((s.size : Nat) : Int)] rfl rfl (E.tr (E.op (.string s) (E.vl (Z9qmm s) (fun w h => E.sidx s .i64 1 Nz.k Nz.k Nz.k Nz.szm Nz.szm w) (E.op (E.u (Z9qmh s)) (E.op (E.pj g2 5) (E.st 0 [E.i (Z9qmc s), E.i 0, E.i 0, E.i (-1), E.i 0, E.u (Z9qmh s), E.i ((s.size : Nat) : Int)] rfl rfl ?_)))))))))))
  refine E.To.code (E.C.seq (E.sr (E.op (E.i (Z9qma s)) (E.op (.bool ((Z9qma s) == 8)) (E.To.code (E.wk [(0, .string s), (2, E.pt g1), (3, E.i (Z9qma s)), (4, E.pt g2), (87, .bool ((Z9qma s) == 8))] [(g2, [E.i (Z9qmc s), E.i 0, E.i 0, E.i (-1), E.i 0, E.u (Z9qmh s), E.i ((s.size : Nat) : Int)]), (g1, Z9qme)] Nz.sub (E.C.thencut [(0, .string s), (2, E.pt g1), (3, E.i (Z9qma s)), (4, E.pt g2)] (fun _ => True) [(g2, [E.i (Z9qmc s), E.i 0, E.i 0, E.i (-1), E.i 0, E.u (bif ((Z9qma s) == 8) then (Z9qmj s) else (Z9qmh s)), E.i ((s.size : Nat) : Int)]), (g1, Z9qme)] ?_ ?_)))))))
  ·
   generalize hc22 : ((R2.Format (IntKind.wrap .i64 (W.byt s.data.toList 0))) == 8) = b23
   cases b23
   ·
    exact E.C.condF Nz.k Nz.k (E.C.skip (E.To.pst ⟨Nz.k, Nz.k⟩ Nz.sub (fun _ h => h)))
   exact E.C.condT Nz.k Nz.k (E.C.region (E.op (.string s) (E.vl (Z9qmm s) (fun w h => E.sidx s .i64 1 Nz.k Nz.k Nz.k Nz.szm Nz.szm w) (E.ca (E.u (Z9qmj s)) (fun w h => R2_extend _ w) (E.op (E.pj g2 5) (E.st 0 [E.i (Z9qmc s), E.i 0, E.i 0, E.i (-1), E.i 0, E.u (Z9qmj s), E.i ((s.size : Nat) : Int)] rfl rfl (E.To.pst ⟨Nz.k, Nz.k⟩ Nz.sub (fun _ h => h))))))))
  refine E.sr (E.op (E.i (Z9qma s)) (E.op (.bool ((Z9qma s) == 9)) (E.To.code (E.cd ((R2.Format (IntKind.wrap .i64 (W.byt s.data.toList 0))) == 9) (fun hc24 => ?_) (fun hc24 => ?_)))))
  ·
   refine E.C.region (E.op (.string s) (E.vl (.string (s.extract 1 s.size)) (fun w h => E.slFrom s .i64 1 Nz.k Nz.k Nz.k Nz.szm Nz.szm w) (E.ca (E.u (Z9qml s)) (fun w h => R2_long _ ((by rw [ByteArray.size_extract]; first | (have hp := E.size_pos (by assumption); (try simp only [beq_iff_eq, bne_iff_ne, ne_eq, Bool.or_eq_true, Bool.and_eq_true, beq_eq_false_iff_ne, decide_eq_true_eq, decide_eq_false_iff_not, Bool.or_eq_false_iff, Bool.not_eq_true, gt_iff_lt] at *); omega) | ((try simp only [beq_iff_eq, bne_iff_ne, ne_eq, Bool.or_eq_true, Bool.and_eq_true, beq_eq_false_iff_ne, decide_eq_true_eq, decide_eq_false_iff_not, Bool.or_eq_false_iff, Bool.not_eq_true, gt_iff_lt] at *); omega))) w) (E.op (E.pj g2 5) (E.st 0 [E.i (Z9qmc s), E.i 0, E.i 0, E.i (-1), E.i 0, E.u (Z9qml s), E.i ((s.size : Nat) : Int)] rfl rfl (E.P.nb (E.To.code (E.wk [(2, E.pt g1), (4, E.pt g2)] [(g2, [E.i (Z9qmc s), E.i 0, E.i 0, E.i (-1), E.i 0, E.u (Z9qml s), E.i ((s.size : Nat) : Int)]), (g1, Z9qme)] Nz.sub (E.sr (E.li (.agg #[E.i (Z9qmc s), E.i 0, E.i 0, E.i (-1), E.i 0, E.u (Z9qml s), E.i ((s.size : Nat) : Int)]) 0 rfl rfl (E.st 1 [E.i (Z9qmc s), E.i 0, E.i 0, E.i (-1), E.i 0, E.u (Z9qml s), E.i ((s.size : Nat) : Int)] rfl rfl (E.To.code ?_))))))))))))
   exact E.C.ret (E.b1 Tryz.f124 [.agg #[E.i (Z9qmc s), E.i 0, E.i 0, E.i (-1), E.i 0, E.u (Z9qml s), E.i ((s.size : Nat) : Int)]] (fun w h => ⟨by unfold R2.read; rw [hc13, N0, hc14, N0, hc15, N0, hc21, N1, hc24, N1] <;> rfl, h.ch.bel (fun _ h => h.elim)⟩))
  exact E.C.skip (E.P.nb (E.To.code (E.sr (E.li (.agg #[E.i (Z9qmc s), E.i 0, E.i 0, E.i (-1), E.i 0, E.u (bif ((Z9qma s) == 8) then (Z9qmj s) else (Z9qmh s)), E.i ((s.size : Nat) : Int)]) 0 rfl rfl (E.st 1 [E.i (Z9qmc s), E.i 0, E.i 0, E.i (-1), E.i 0, E.u (bif ((Z9qma s) == 8) then (Z9qmj s) else (Z9qmh s)), E.i ((s.size : Nat) : Int)] rfl rfl (E.To.code (E.C.ret (E.b1 Tryz.f124 [.agg #[E.i (Z9qmc s), E.i 0, E.i 0, E.i (-1), E.i 0, E.u (bif ((Z9qma s) == 8) then (Z9qmj s) else (Z9qmh s)), E.i ((s.size : Nat) : Int)]] (fun w h => ⟨by unfold R2.read; rw [hc13, N0, hc14, N0, hc15, N0, hc21, N1, hc24, N0] <;> rfl, h.ch.bel (fun _ h => h.elim)⟩)))))))))
 exact E.C.skip (E.P.nb (E.To.code (E.sr (E.li (.agg #[E.i (Z9qmc s), E.i (bif ((((Z9qma s) == 2) || ((Z9qma s) == 4)) || ((Z9qma s) == 5)) then (Z9qmb s) else (bif (Z9qmd s) then (IntKind.wrap .i64 (Int.tdiv (Z9qmb s) 16)) else 0)), E.i (bif ((((Z9qma s) == 2) || ((Z9qma s) == 4)) || ((Z9qma s) == 5)) then 0 else (bif (Z9qmd s) then (Int.tmod (Z9qmb s) 16) else 0)), E.i (-1), E.i 0, E.u 0, E.i ((s.size : Nat) : Int)]) 0 rfl rfl (E.st 1 [E.i (Z9qmc s), E.i (bif ((((Z9qma s) == 2) || ((Z9qma s) == 4)) || ((Z9qma s) == 5)) then (Z9qmb s) else (bif (Z9qmd s) then (IntKind.wrap .i64 (Int.tdiv (Z9qmb s) 16)) else 0)), E.i (bif ((((Z9qma s) == 2) || ((Z9qma s) == 4)) || ((Z9qma s) == 5)) then 0 else (bif (Z9qmd s) then (Int.tmod (Z9qmb s) 16) else 0)), E.i (-1), E.i 0, E.u 0, E.i ((s.size : Nat) : Int)] rfl rfl (E.To.code (E.C.ret (E.b1 Tryz.f124 [.agg #[E.i (Z9qmc s), E.i (bif ((((Z9qma s) == 2) || ((Z9qma s) == 4)) || ((Z9qma s) == 5)) then (Z9qmb s) else (bif (Z9qmd s) then (IntKind.wrap .i64 (Int.tdiv (Z9qmb s) 16)) else 0)), E.i (bif ((((Z9qma s) == 2) || ((Z9qma s) == 4)) || ((Z9qma s) == 5)) then 0 else (bif (Z9qmd s) then (Int.tmod (Z9qmb s) 16) else 0)), E.i (-1), E.i 0, E.u 0, E.i ((s.size : Nat) : Int)]] (fun w h => ⟨by unfold R2.read; rw [hc13, N0, hc14, N0, hc15, N0, hc21, N0] <;> rfl, h.ch.bel (fun _ h => h.elim)⟩)))))))))
theorem R2.byt_extract (s : ByteArray) (m j : Nat) (h : j < m) (hm : m ≤ s.size) : W.byt (s.extract 0 m).data.toList j = W.byt s.data.toList j := by
  unfold W.byt
  congr 2
  simp [ByteArray.data_extract, List.getElem?_take, h]
theorem R2.pre (s : ByteArray) (m : Nat) (h1 : 0 < m) (h2 : m ≤ s.size) (hn : (m : Int) = R2.Size (W.byt s.data.toList 0)) : 0 < (s.extract 0 m).size ∧ ((s.extract 0 m).size : Int) = R2.Size (W.byt (s.extract 0 m).data.toList 0) := by
  have e : (s.extract 0 m).size = m := by rw [ByteArray.size_extract]; omega
  rw [e, R2.byt_extract s m 0 h1 h2]
  exact ⟨h1, hn⟩

def R2.Decode (s : ByteArray) : K.Ins × Int := (bif (s.toList == (⟨#[]⟩ : ByteArray).toList) then (⟨0, 0, 0, 0, 0, 0, 0⟩, 10) else (bif ((R2.Size (W.byt s.data.toList 0)) == 0) then (⟨0, 0, 0, 0, 0, 0, 0⟩, 12) else (bif (decide (((s.size : Nat) : Int) < (R2.Size (W.byt s.data.toList 0)))) then (⟨0, 0, 0, 0, 0, 0, 0⟩, 10) else (bif (!(R2.Valid ((R2.read (s.extract 0 ((R2.Size (W.byt s.data.toList 0))).toNat))))) then (⟨0, 0, 0, 0, 0, 0, 0⟩, 12) else (⟨((R2.read (s.extract 0 ((R2.Size (W.byt s.data.toList 0))).toNat))).op, ((R2.read (s.extract 0 ((R2.Size (W.byt s.data.toList 0))).toNat))).d, ((R2.read (s.extract 0 ((R2.Size (W.byt s.data.toList 0))).toNat))).s, ((R2.read (s.extract 0 ((R2.Size (W.byt s.data.toList 0))).toNat))).ix, ((R2.read (s.extract 0 ((R2.Size (W.byt s.data.toList 0))).toNat))).sc, ((R2.read (s.extract 0 ((R2.Size (W.byt s.data.toList 0))).toNat))).imm, ((R2.read (s.extract 0 ((R2.Size (W.byt s.data.toList 0))).toNat))).sz⟩, 0)))))
abbrev Z5rxa (s : ByteArray) := s.extract 0 ((R2.Size (W.byt s.data.toList 0))).toNat
abbrev Z5rxb : Array Value := #[E.i 0, E.i 0, E.i 0, E.i 0, E.i 0, E.u 0, E.i 0, E.i 10]
abbrev Z5rxc : Array Value := #[E.i 0, E.i 0, E.i 0, E.i 0, E.i 0, E.u 0, E.i 0, E.i 12]
abbrev Z5rxd (s : ByteArray) := E.i (R2.Size (W.byt s.data.toList 0))
abbrev Z5rxe : List Value := [E.i 0, E.i 0, E.i 0, E.i 0, E.i 0, E.u 0, E.i 0, E.i 12]
abbrev Z5rxf : List Value := [E.i 0, E.i 0, E.i 0, E.i 0, E.i 0, E.u 0, E.i 0, E.i 0]
set_option maxHeartbeats 1000000 in
theorem R2_Decode (s : ByteArray) (w : World) : Calls Tryz.prog 94 #[.string s] w fun e w' => e = .returned (.agg #[.int .i64 (((((R2.Decode s)).1)).op), .int .i64 (((((R2.Decode s)).1)).d), .int .i64 (((((R2.Decode s)).1)).s), .int .i64 (((((R2.Decode s)).1)).ix), .int .i64 (((((R2.Decode s)).1)).sc), .int .u32 (((((R2.Decode s)).1)).imm), .int .i64 (((((R2.Decode s)).1)).sz), .int .i64 (((R2.Decode s)).2)]) ∧ Bel w w' := by
 have hc := R2.Size_cases (W.byt s.data.toList 0)
 refine E.enter (n := 29) (S := fun _ => False) Tryz.func94 rfl rfl Nz.k (E.Hp.start w) (E.sr (E.nw Z5rxf 161 (fun g1 => E.To.code (E.C.seq (E.sr (E.op (.string s) (E.op (.bool (s.toList == (⟨#[]⟩ : ByteArray).toList)) (E.To.code (E.cd (s.toList == (⟨#[]⟩ : ByteArray).toList) (fun hc2 => ?_) (fun hc2 => ?_))))))))))
 ·
  exact E.sr (E.vl (.agg Z5rxb) (fun w h => E.run_build Z5rxb Nz.k w) (E.st 0 [E.i 0, E.i 0, E.i 0, E.i 0, E.i 0, E.u 0, E.i 0, E.i 10] rfl rfl (E.To.code (E.C.ret (E.P.rt (E.b0 Tryz.f94 [.agg Z5rxb] (fun w h => ⟨by unfold R2.Decode; rw [hc2, N1] <;> rfl, h.ch.bel (fun _ h => h.elim)⟩)))))))
 refine E.C.skip (E.To.code (E.sr (E.op (.string s) (E.vl (.int .u8 (W.byt s.data.toList 0)) (fun w h => E.sidx s .i64 0 Nz.k Nz.k Nz.k Nz.szm Nz.szm w) (E.ca (Z5rxd s) (fun w h => R2_Size _ w) (E.op (Z5rxd s) (E.To.code (E.C.seq (E.sr (E.op (Z5rxd s) (E.op (.bool ((R2.Size (W.byt s.data.toList 0)) == 0)) (E.To.code ?_))))))))))))
 refine E.cd ((R2.Size (W.byt s.data.toList 0)) == 0) (fun hc3 => ?_) (fun hc3 => ?_)
 ·
  exact E.sr (E.vl (.agg Z5rxc) (fun w h => E.run_build Z5rxc Nz.k w) (E.st 0 Z5rxe rfl rfl (E.To.code (E.wk [(0, .string s), (2, E.pt g1), (3, E.i (R2.Size (W.byt s.data.toList 0)))] [(g1, Z5rxe)] Nz.sub (E.C.ret (E.P.rt (E.b0 Tryz.f94 [.agg Z5rxc] (fun w h => ⟨by unfold R2.Decode; rw [hc2, N0, hc3, N1] <;> rfl, h.ch.bel (fun _ h => h.elim)⟩))))))))
 refine E.C.skip (E.To.code (E.C.seq (E.sr (E.op (.string s) (E.op (E.i ((s.size : Nat) : Int)) (E.op (Z5rxd s) (E.op (.bool (decide (((s.size : Nat) : Int) < (R2.Size (W.byt s.data.toList 0))))) (E.To.code (E.wk [(0, .string s), (2, E.pt g1), (3, E.i (R2.Size (W.byt s.data.toList 0))), (17, .bool (decide (((s.size : Nat) : Int) < (R2.Size (W.byt s.data.toList 0)))))] [(g1, Z5rxf)] Nz.sub (E.cd (decide (((s.size : Nat) : Int) < (R2.Size (W.byt s.data.toList 0)))) (fun hc4 => ?_) (fun hc4 => ?_)))))))))))
 ·
  exact E.sr (E.vl (.agg Z5rxb) (fun w h => E.run_build Z5rxb Nz.k w) (E.st 0 [E.i 0, E.i 0, E.i 0, E.i 0, E.i 0, E.u 0, E.i 0, E.i 10] rfl rfl (E.To.code (E.C.ret (E.P.rt (E.b0 Tryz.f94 [.agg Z5rxb] (fun w h => ⟨by unfold R2.Decode; rw [hc2, N0, hc3, N0, hc4, N1] <;> rfl, h.ch.bel (fun _ h => h.elim)⟩)))))))
 refine E.C.skip (E.To.code (E.sr (E.op (.string s) (E.op (Z5rxd s) (E.vl (.string (Z5rxa s)) (fun w h => E.slTo s .i64 (R2.Size (W.byt s.data.toList 0)) Nz.k Nz.k Nz.k Nz.szm Nz.szm w) (E.ca (.agg #[E.i (((R2.read (Z5rxa s))).op), E.i (((R2.read (Z5rxa s))).d), E.i (((R2.read (Z5rxa s))).s), E.i (((R2.read (Z5rxa s))).ix), E.i (((R2.read (Z5rxa s))).sc), E.u (((R2.read (Z5rxa s))).imm), E.i (((R2.read (Z5rxa s))).sz)]) (fun w h => R2_read (Z5rxa s) (R2.pre s (((R2.Size (W.byt s.data.toList 0))).toNat) Nz.szm Nz.szm Nz.szm).1 (R2.pre s (((R2.Size (W.byt s.data.toList 0))).toNat) Nz.szm Nz.szm Nz.szm).2 w) (E.nw [E.i 0, E.i 0, E.i 0, E.i 0, E.i 0, E.u 0, E.i 0] 66 (fun g5 => E.st 0 [E.i (((R2.read (Z5rxa s))).op), E.i (((R2.read (Z5rxa s))).d), E.i (((R2.read (Z5rxa s))).s), E.i (((R2.read (Z5rxa s))).ix), E.i (((R2.read (Z5rxa s))).sc), E.u (((R2.read (Z5rxa s))).imm), E.i (((R2.read (Z5rxa s))).sz)] rfl rfl (E.To.code (E.C.seq (E.sr (E.li (.agg #[E.i (((R2.read (Z5rxa s))).op), E.i (((R2.read (Z5rxa s))).d), E.i (((R2.read (Z5rxa s))).s), E.i (((R2.read (Z5rxa s))).ix), E.i (((R2.read (Z5rxa s))).sc), E.u (((R2.read (Z5rxa s))).imm), E.i (((R2.read (Z5rxa s))).sz)]) 0 rfl rfl ?_))))))))))))
 refine E.ca (.bool (R2.Valid ((R2.read (Z5rxa s))))) (fun w h => R2_Valid ((R2.read (Z5rxa s))) w) (E.op (.bool (!(R2.Valid ((R2.read (Z5rxa s)))))) (E.To.code (E.wk [(2, E.pt g1), (4, E.pt g5), (25, .bool (!(R2.Valid ((R2.read (Z5rxa s))))))] [(g5, [E.i (((R2.read (Z5rxa s))).op), E.i (((R2.read (Z5rxa s))).d), E.i (((R2.read (Z5rxa s))).s), E.i (((R2.read (Z5rxa s))).ix), E.i (((R2.read (Z5rxa s))).sc), E.u (((R2.read (Z5rxa s))).imm), E.i (((R2.read (Z5rxa s))).sz)]), (g1, Z5rxf)] Nz.sub (E.cd (!(R2.Valid ((R2.read (s.extract 0 ((R2.Size (W.byt s.data.toList 0))).toNat))))) (fun hc6 => ?_) (fun hc6 => ?_)))))
 ·
  exact E.sr (E.vl (.agg Z5rxc) (fun w h => E.run_build Z5rxc Nz.k w) (E.st 1 Z5rxe rfl rfl (E.To.code (E.C.ret (E.P.rt (E.b1 Tryz.f94 [.agg Z5rxc] (fun w h => ⟨by unfold R2.Decode; rw [hc2, N0, hc3, N0, hc4, N0, hc6, N1] <;> rfl, h.ch.bel (fun _ h => h.elim)⟩)))))))
 exact E.C.skip (E.To.code (E.sr (E.li (.agg #[E.i (((R2.read (Z5rxa s))).op), E.i (((R2.read (Z5rxa s))).d), E.i (((R2.read (Z5rxa s))).s), E.i (((R2.read (Z5rxa s))).ix), E.i (((R2.read (Z5rxa s))).sc), E.u (((R2.read (Z5rxa s))).imm), E.i (((R2.read (Z5rxa s))).sz)]) 0 rfl rfl (E.vl (.agg #[E.i (((R2.read (Z5rxa s))).op), E.i (((R2.read (Z5rxa s))).d), E.i (((R2.read (Z5rxa s))).s), E.i (((R2.read (Z5rxa s))).ix), E.i (((R2.read (Z5rxa s))).sc), E.u (((R2.read (Z5rxa s))).imm), E.i (((R2.read (Z5rxa s))).sz), E.i 0]) (fun w h => E.run_build #[E.i (((R2.read (Z5rxa s))).op), E.i (((R2.read (Z5rxa s))).d), E.i (((R2.read (Z5rxa s))).s), E.i (((R2.read (Z5rxa s))).ix), E.i (((R2.read (Z5rxa s))).sc), E.u (((R2.read (Z5rxa s))).imm), E.i (((R2.read (Z5rxa s))).sz), E.i 0] Nz.k w) (E.st 1 [E.i (((R2.read (Z5rxa s))).op), E.i (((R2.read (Z5rxa s))).d), E.i (((R2.read (Z5rxa s))).s), E.i (((R2.read (Z5rxa s))).ix), E.i (((R2.read (Z5rxa s))).sc), E.u (((R2.read (Z5rxa s))).imm), E.i (((R2.read (Z5rxa s))).sz), E.i 0] rfl rfl (E.To.code (E.C.ret (E.b1 Tryz.f94 [.agg #[E.i (((R2.read (Z5rxa s))).op), E.i (((R2.read (Z5rxa s))).d), E.i (((R2.read (Z5rxa s))).s), E.i (((R2.read (Z5rxa s))).ix), E.i (((R2.read (Z5rxa s))).sc), E.u (((R2.read (Z5rxa s))).imm), E.i (((R2.read (Z5rxa s))).sz), E.i 0]] (fun w h => ⟨by unfold R2.Decode; rw [hc2, N0, hc3, N0, hc4, N0, hc6, N0] <;> rfl, h.ch.bel (fun _ h => h.elim)⟩)))))))))

def R2.Encode (i : K.Ins) : ByteArray × Int := (bif (!(R2.Valid i)) then ((⟨#[]⟩ : ByteArray), 12) else (bif ((R2.Format i.op) == 2) then ((strOfNums [(IntKind.wrap .u8 i.op), (IntKind.wrap .u8 i.d)]), 0) else (bif ((R2.Format i.op) == 3) then ((strOfNums [(IntKind.wrap .u8 i.op), (IntKind.wrap .u8 (IntKind.wrap .i64 ((IntKind.wrap .i64 (16 * i.d)) + i.s)))]), 0) else (bif ((R2.Format i.op) == 11) then ((strOfNums [(IntKind.wrap .u8 i.op), (IntKind.wrap .u8 (IntKind.wrap .i64 ((IntKind.wrap .i64 (16 * i.d)) + i.s)))]), 0) else (bif ((R2.Format i.op) == 12) then ((strOfNums [(IntKind.wrap .u8 i.op), (IntKind.wrap .u8 (IntKind.wrap .i64 ((IntKind.wrap .i64 (16 * i.d)) + i.s)))]), 0) else (bif ((R2.Format i.op) == 4) then ((strOfNums [(IntKind.wrap .u8 i.op), (IntKind.wrap .u8 i.d), (IntKind.wrap .u8 i.imm)]), 0) else (bif ((R2.Format i.op) == 5) then ((strOfNums [(IntKind.wrap .u8 i.op), (IntKind.wrap .u8 i.d), (IntKind.wrap .u8 i.imm), (IntKind.wrap .u8 (IntKind.wrap .u32 (Int.tdiv i.imm 256))), (IntKind.wrap .u8 (IntKind.wrap .u32 (Int.tdiv i.imm 65536))), (IntKind.wrap .u8 (IntKind.wrap .u32 (Int.tdiv i.imm 16777216)))]), 0) else (bif ((R2.Format i.op) == 6) then ((strOfNums [(IntKind.wrap .u8 i.op), (IntKind.wrap .u8 (IntKind.wrap .i64 ((IntKind.wrap .i64 (16 * i.d)) + i.s))), (IntKind.wrap .u8 i.imm)]), 0) else (bif ((R2.Format i.op) == 7) then (bif (decide (i.ix ≥ 0)) then ((strOfNums [(IntKind.wrap .u8 i.op), (IntKind.wrap .u8 (IntKind.wrap .i64 ((IntKind.wrap .i64 (16 * i.d)) + i.s))), (IntKind.wrap .u8 (IntKind.wrap .i64 (i.ix + (IntKind.wrap .i64 (16 * i.sc))))), (IntKind.wrap .u8 i.imm), (IntKind.wrap .u8 (IntKind.wrap .u32 (Int.tdiv i.imm 256))), (IntKind.wrap .u8 (IntKind.wrap .u32 (Int.tdiv i.imm 65536))), (IntKind.wrap .u8 (IntKind.wrap .u32 (Int.tdiv i.imm 16777216)))]), 0) else ((strOfNums [(IntKind.wrap .u8 i.op), (IntKind.wrap .u8 (IntKind.wrap .i64 ((IntKind.wrap .i64 (16 * i.d)) + i.s))), 8, (IntKind.wrap .u8 i.imm), (IntKind.wrap .u8 (IntKind.wrap .u32 (Int.tdiv i.imm 256))), (IntKind.wrap .u8 (IntKind.wrap .u32 (Int.tdiv i.imm 65536))), (IntKind.wrap .u8 (IntKind.wrap .u32 (Int.tdiv i.imm 16777216)))]), 0)) else (bif ((R2.Format i.op) == 8) then ((strOfNums [(IntKind.wrap .u8 i.op), (IntKind.wrap .u8 i.imm)]), 0) else (bif ((R2.Format i.op) == 10) then ((strOfNums [(IntKind.wrap .u8 i.op), (IntKind.wrap .u8 i.imm)]), 0) else (bif ((R2.Format i.op) == 9) then ((strOfNums [(IntKind.wrap .u8 i.op), (IntKind.wrap .u8 i.imm), (IntKind.wrap .u8 (IntKind.wrap .u32 (Int.tdiv i.imm 256))), (IntKind.wrap .u8 (IntKind.wrap .u32 (Int.tdiv i.imm 65536))), (IntKind.wrap .u8 (IntKind.wrap .u32 (Int.tdiv i.imm 16777216)))]), 0) else ((strOfNums [(IntKind.wrap .u8 i.op)]), 0)))))))))))))
def R2.ops : List Int := [0, 1, 2, 3, 4, 96, 100, 106, 109, 112, 113, 128, 129, 130, 32, 48, 64, 16, 80, 88, 33, 49, 65, 17, 81, 89, 34, 50, 66, 18, 82, 90, 35, 51, 67, 19, 83, 91, 36, 52, 68, 20, 84, 92, 37, 53, 69, 21, 85, 93, 38, 54, 70, 86, 94, 39, 55, 71, 40, 56, 72, 41, 57, 73, 42, 58, 74, 43, 59, 75, 44, 60, 76, 45, 61, 77, 46, 62, 78]
def R2.ix (a : Int) : Int := Int.tmod (bits .and .i64 a 65535) 79
theorem K.fmtF_lt (op : Int) : ∀ (m j k : Nat), K.fmtF op m j = some k → j ≤ k ∧ k < j + m
  | 0, _, _, h => by cases h
  | m + 1, j, k, h => by
    unfold K.fmtF at h
    split at h
    · cases h; omega
    · have := K.fmtF_lt op m (j + 1) k h; omega
theorem K.fmt_lt {op : Int} {k : Nat} (h : K.fmt op = some k) : k < 11 := by
  have := K.fmtF_lt op 11 0 k h; omega
theorem find_some {op : Int} {k : Nat} (hk : K.fmt op = some k) (w : World) : Calls Tryz.prog 106 #[.int .i64 op] w fun e w' => ∃ F cs G ds, e = .returned (.tuple #[.agg #[.int .i64 (K.lo k), .int .i64 (K.hi k), .int .i64 (K.len k), .func (.func F) #[] cs, .func (.func G) #[] ds], .bool true]) ∧ K.Fm k (.func (.func F) #[] cs) (.func (.func G) #[] ds) w' ∧ Bel w w' :=
  (find_of formats_any op w).mono fun e w' h => by
    rcases h with ⟨k', t, p, hlt, hk', he, hf, hb⟩ | ⟨hn, _⟩
    · rw [hk] at hk'; cases hk'
      obtain ⟨⟨F, cs, rfl⟩, ⟨G, ds, rfl⟩⟩ := hf.isf
      exact ⟨F, cs, G, ds, he, hf, hb⟩
    · rw [hk] at hn; cases hn
theorem find_none {op : Int} (hk : K.fmt op = none) (w : World) : Calls Tryz.prog 106 #[.int .i64 op] w fun e w' => e = .returned (.tuple #[.agg #[.int .i64 0, .int .i64 0, .int .i64 0, .nilFunc, .nilFunc], .bool false]) ∧ Bel w w' :=
  (find_of formats_any op w).mono fun e w' h => by
    rcases h with ⟨k', t, p, hlt, hk', _⟩ | ⟨_, he, hb⟩
    · rw [hk] at hk'; cases hk'
    · exact ⟨he, hb⟩
theorem K.Cl.ext {Ls : List Nat} {F : FuncId} {fs : List FuncId} {v : Value} {w w' : World} (h : K.Cl F fs v w) (hl : 0 < fs.length) (hs : ∀ x ∈ Ls, ∃ n, w.cell? ⟨x, 0, none⟩ = some (.int .i64 n)) (hw : ∀ b, b < w.heap.size → b ∉ Ls → w'.heap[b]? = w.heap[b]?) : K.Cl F fs v w' := by
  obtain ⟨c, b, cap, e, h1, h2⟩ := h
  refine ⟨c, b, cap, e, ?_, fun j hj => ?_⟩
  · rw [World.cell?_of_block (w := w) (a := ⟨c, 0, none⟩) (hw c (lt_of_cell h1) fun q => ?_)]; exact h1
    obtain ⟨n, hn⟩ := hs _ q; rw [h1] at hn; cases hn
  · rw [World.cell?_of_block (w := w) (a := ⟨b, j, none⟩) (hw b (lt_of_cell (h2 j hj)) fun q => ?_)]; exact h2 j hj
    obtain ⟨n, hn⟩ := hs _ q; rw [h2 0 hl] at hn; cases hn
theorem K.Fm.ext {Ls : List Nat} {k : Nat} {t p : Value} {w w' : World} (h : K.Fm k t p w) (hs : ∀ x ∈ Ls, ∃ n, w.cell? ⟨x, 0, none⟩ = some (.int .i64 n)) (hw : ∀ b, b < w.heap.size → b ∉ Ls → w'.heap[b]? = w.heap[b]?) : K.Fm k t p w' := by
  unfold K.Fm at *
  split at h <;> first | exact h | exact ⟨h.1.ext (by simp) hs hw, h.2.ext (by simp) hs hw⟩
/-- A block whose first cell is an integer. -/
def K.intB (L : List (Nat × List Value)) : Prop := ∀ p ∈ L, ∃ n, p.2[0]? = some (.int .i64 n)
theorem find_hp {S : Nat → Prop} {w0 : World} {X : World → Prop} {L : List (Nat × List Value)} {op : Int} {k : Nat} (hk : K.fmt op = some k) (hL : K.intB L) (w : World) (h : E.Hp S w0 X L w) :
    Calls Tryz.prog 106 #[.int .i64 op] w fun e w' => ∃ i : FuncId × Array Value × FuncId × Array Value, True ∧ e = .returned (.tuple #[.agg #[.int .i64 (K.lo k), .int .i64 (K.hi k), .int .i64 (K.len k), .func (.func i.1) #[] i.2.1, .func (.func i.2.2.1) #[] i.2.2.2], .bool true]) ∧
      E.Hp S w0 (fun w => X w ∧ K.Fm k (.func (.func i.1) #[] i.2.1) (.func (.func i.2.2.1) #[] i.2.2.2) w) L w' :=
  (find_some hk w).mono fun e w' ⟨F, cs, G, ds, he, hf, hb⟩ => ⟨(F, cs, G, ds), trivial, he, by
    have h1 := h.bel hb
    refine h1.addX fun w2 hs hw => hf.ext (Ls := L.map (·.1)) (fun x hx => ?_) hw
    obtain ⟨p, hp, rfl⟩ := List.mem_map.1 hx
    obtain ⟨n, hn⟩ := hL p hp
    exact ⟨n, h1.mem p hp 0 _ hn⟩⟩
set_option maxRecDepth 100000 in
theorem kput_at {k : Nat} (hk : k < 11) {t : Value} {G : FuncId} {ds : Array Value} {w : World} (h : K.Fm k t (.func (.func G) #[] ds) w) {i : K.Ins} (hi : K.In i) : Calls Tryz.prog G (#[.agg #[.int .i64 i.op, .int .i64 i.d, .int .i64 i.s, .int .i64 i.ix, .int .i64 i.sc, .int .u32 i.imm, .int .i64 i.sz]] ++ ds) w fun e w' => e = .returned (.string (strOfNums (K.wr k i))) ∧ Bel w w' := by
  obtain ⟨G', ds', e, _, hc⟩ := put_any k hk t _ w h i hi
  injection e with e1 _ e2
  injection e1 with e1
  subst e1; subst e2
  exact hc w (Bel.refl w)
set_option maxRecDepth 100000 in
theorem K.enter_at {k : Nat} (hk : k < 11) {t : Value} {G : FuncId} {ds : Array Value} {w : World} (h : K.Fm k t (.func (.func G) #[] ds) w) (args : Array Value) (w' : World) : (callFunc G args).run Tryz.prog w' = .ok (.enter G args) w' := by
  obtain ⟨G', ds', e, he, _⟩ := put_any k hk t _ w h ⟨0, 0, 0, 0, 0, 0, 0⟩ ⟨by decide, by decide, by decide, by decide, by decide, by decide, by decide, by decide, by decide, by decide⟩
  injection e with e1 _ e2
  injection e1 with e1
  subst e1
  exact he args w'
theorem E.run_callv {P : Program} {fr : E.Fr} {x : Operand} {args : Array Operand} {ts : Array TypeId} {T : TypeId} {d : Option Nat} {pos : String} {af : Array Edge} {gd : Option (Nat × Bool)} {G : FuncId} {ds : Array Value} (vals : List Value) (hf : E.ev fr x = .func (.func G) #[] ds) (ha : args.toList.map (E.ev fr) = vals) (w : World) :
    (execOp (E.ev fr) ⟨d, .call { callee := .value x, args := args, argTypes := ts }, T, pos, af, gd⟩).run P w = (callFunc G (vals.toArray ++ ds)).run P w := by
  have e : args.map (E.ev fr) = vals.toArray := by rw [← ha]; exact Array.toList_inj.1 (by rw [Array.toList_map])
  show (do let d ← resolve (E.ev fr) { callee := .value x, args := args, argTypes := ts } T; invoke d.target d.args).run P w = _
  simp only [resolve, hf, Deferred.ofValue, e]
  simp [invoke]
/-- A call of a function value with what it captured. -/
theorem E.G.callv {P : Program} {n : Nat} {ops : Array Oper} {Q : Exit → Act → World → Prop} {S : Nat → Prop} {w0 : World} {X : World → Prop} {L : List (Nat × List Value)} {l : List Oper} {fr : E.Fr} {x : Operand} {args : Array Operand} {ts : Array TypeId} {T : TypeId} {d : Option Nat} {pos : String} {af : Array Edge} {gd : Option (Nat × Bool)} {G : FuncId} {ds : Array Value} (vals : List Value) (v : Value)
    (hf : E.ev fr x = .func (.func G) #[] ds) (ha : args.toList.map (E.ev fr) = vals) (he : ∀ w, E.Hp S w0 X L w → (callFunc G (vals.toArray ++ ds)).run P w = .ok (.enter G (vals.toArray ++ ds)) w)
    (hc : ∀ w, E.Hp S w0 X L w → Calls P G (vals.toArray ++ ds) w fun e w' => e = .returned v ∧ Bel w w') (hck : E.ck n ops fr ⟨d, .call { callee := .value x, args := args, argTypes := ts }, T, pos, af, gd⟩ = true)
    (k : E.G P n ops Q l (E.upd fr d v) S w0 X L) : E.G P n ops Q (⟨d, .call { callee := .value x, args := args, argTypes := ts }, T, pos, af, gd⟩ :: l) fr S w0 X L :=
  E.G.call (o := ⟨d, .call { callee := .value x, args := args, argTypes := ts }, T, pos, af, gd⟩) v hc (fun w h => (E.run_callv vals hf ha w).trans (he w h)) hck k
theorem E.api_KIns_eql {fr : E.Fr} {x y : Operand} {u T : TypeId} {d : Option Nat} {pos : String} {af : Array Edge} {gd : Option (Nat × Bool)} {a0 a1 a2 a3 a4 a5 a6 b0 b1 b2 b3 b4 b5 b6 : Int} {w : World}
    (hx : E.ev fr x = .agg #[.int .i64 a0, .int .i64 a1, .int .i64 a2, .int .i64 a3, .int .i64 a4, .int .u32 a5, .int .i64 a6]) (hy : E.ev fr y = .agg #[.int .i64 b0, .int .i64 b1, .int .i64 b2, .int .i64 b3, .int .i64 b4, .int .u32 b5, .int .i64 b6]) :
    (execOp (E.ev fr) ⟨d, .binOp .eql 66 x y u, T, pos, af, gd⟩).run Tryz.prog w = .ok (.value (.bool (a0 == b0 && a1 == b1 && a2 == b2 && a3 == b3 && a4 == b4 && a5 == b5 && a6 == b6))) w := by
  show (do let r ← (do eqGuard .eql 66 x y (E.ev fr x) (E.ev fr y); binOp .eql 66 (E.ev fr x) (E.ev fr y)); pure (Next.value r) : Sem Next).run Tryz.prog w = _
  rw [hx, hy]
  go_simp
  (repeat' split) <;> simp_all
theorem K.res_bd {o a b q : Int} (ha : 0 ≤ a ∧ a < 4294967296) (hb : 0 ≤ b ∧ b < 4294967296) : (0 ≤ (K.res o a b q).a ∧ (K.res o a b q).a < 4294967296) ∧ (0 ≤ (K.res o a b q).b ∧ (K.res o a b q).b < 4294967296) := by
  have z : (0 : Int) ≤ 0 ∧ (0 : Int) < 4294967296 := ⟨Int.le_refl 0, by decide⟩
  let p : K.R → Prop := fun r => (0 ≤ r.a ∧ r.a < 4294967296) ∧ (0 ≤ r.b ∧ r.b < 4294967296)
  have it : ∀ {c : Prop} [Decidable c] {x y : K.R}, p x → p y → p (if c then x else y) := fun hx hy => by split <;> assumption
  have t : p (K.test a b q) := ⟨(W.bits_bd .and a b : 0 ≤ bits .and .u32 a b ∧ bits .and .u32 a b < 4294967296), z⟩
  have l : ∀ v, 0 ≤ v ∧ v < 4294967296 → p (K.logic v) := fun v h => ⟨h, z⟩
  show p (K.res o a b q)
  exact it ⟨z, z⟩ (it ⟨ha, hb⟩ (it ⟨ha, hb⟩ (it ⟨ha, hb⟩ (it ⟨ha, hb⟩ (it ⟨ha, hb⟩ (it t (l _ (W.op_bd _ _ _ ha.1 ha.2 hb.1))))))))
def K.arith (x : K.W) (o b_ : Int) : K.W := (bif ((o == 43) && (b_ == 0)) then ⟨x.u, x.s, x.i, 6, 0⟩ else (bif (K.res o (x.s.r ((x.i.d).toNat)) b_ (IntKind.wrap .i64 (bits .and .u32 (Int.fdiv x.u.f (2 ^ 1)) 1))).st then (bif (((K.res o (x.s.r ((x.i.d).toNat)) b_ (IntKind.wrap .i64 (bits .and .u32 (Int.fdiv x.u.f (2 ^ 1)) 1))).k) != 0) then K.flags (⟨x.u, ⟨x.s.pc, (Q.up x.s.r (x.i.d).toNat ((K.res o (x.s.r ((x.i.d).toNat)) b_ (IntKind.wrap .i64 (bits .and .u32 (Int.fdiv x.u.f (2 ^ 1)) 1))).v)), x.s.f, x.s.c, x.s.st, x.s.du⟩, x.i, x.k, x.t⟩ : K.W) ((K.res o (x.s.r ((x.i.d).toNat)) b_ (IntKind.wrap .i64 (bits .and .u32 (Int.fdiv x.u.f (2 ^ 1)) 1))).k) ((K.res o (x.s.r ((x.i.d).toNat)) b_ (IntKind.wrap .i64 (bits .and .u32 (Int.fdiv x.u.f (2 ^ 1)) 1))).a) ((K.res o (x.s.r ((x.i.d).toNat)) b_ (IntKind.wrap .i64 (bits .and .u32 (Int.fdiv x.u.f (2 ^ 1)) 1))).b) else ⟨x.u, ⟨x.s.pc, (Q.up x.s.r (x.i.d).toNat ((K.res o (x.s.r ((x.i.d).toNat)) b_ (IntKind.wrap .i64 (bits .and .u32 (Int.fdiv x.u.f (2 ^ 1)) 1))).v)), x.s.f, x.s.c, x.s.st, x.s.du⟩, x.i, x.k, x.t⟩) else (bif (((K.res o (x.s.r ((x.i.d).toNat)) b_ (IntKind.wrap .i64 (bits .and .u32 (Int.fdiv x.u.f (2 ^ 1)) 1))).k) != 0) then K.flags x ((K.res o (x.s.r ((x.i.d).toNat)) b_ (IntKind.wrap .i64 (bits .and .u32 (Int.fdiv x.u.f (2 ^ 1)) 1))).k) ((K.res o (x.s.r ((x.i.d).toNat)) b_ (IntKind.wrap .i64 (bits .and .u32 (Int.fdiv x.u.f (2 ^ 1)) 1))).a) ((K.res o (x.s.r ((x.i.d).toNat)) b_ (IntKind.wrap .i64 (bits .and .u32 (Int.fdiv x.u.f (2 ^ 1)) 1))).b) else x)))
abbrev Zmx7a (x : K.W) := IntKind.wrap .i64 (bits .and .u32 (Int.fdiv x.u.f (2 ^ 1)) 1)
abbrev Zmx7b : List Value := [E.u 0, .bool false, E.i 0, E.u 0, E.u 0]
set_option maxHeartbeats 1000000 in
theorem Arith_w {b m : Nat} (x : K.W) (o b_ : Int) (ho : 32 ≤ o ∧ o ≤ 46) (hb : 0 ≤ b_ ∧ b_ < 4294967296) (hx : K.wf x) (hi : K.iok x.i) : A.Tr Tryz.prog 53 #[.pointer (some ⟨b, 0, none⟩), .int .i64 o, .int .u32 b_] [A.blk b (K.wk x m)] (I := Unit) (fun _ => True) (fun _ => .tuple #[]) (fun _ => [A.blk b (K.wk (K.arith x o b_) m)]) := by
 intro w oo aa hh
 refine E.enter (n := 61) (S := oo) Tryz.func53 rfl rfl Nz.k (A.start (L := [(b, (K.wk x m))]) hh) (E.C.seq (E.C.quiet Nz.k Nz.k (E.wo (E.pt b) (E.wo (E.pt b) (E.wo (E.pt b) (E.wo (E.pj b 48) (E.wo (E.pj b 49) (E.wv (E.i x.i.d) (fun w h => E.run_load h 0 rfl rfl Nz.k) (E.wo (E.pt b) (E.wo (E.pj b 24) (E.wo (E.pj b 25) ?_)))))))))))
 refine E.wv (E.pj b (25 + (x.i.d).toNat)) (fun w h => E.idxI (e := 22) b 25 16 .i64 x.i.d Nz.k Nz.k Nz.k Nz.k (by have := hi.d; omega) w) (E.wo (E.pj b (25 + (x.i.d).toNat)) (E.W.done (E.To.code (E.wk [(0, E.pt b), (1, E.i o), (2, E.u b_), (6, E.pj b (25 + (x.i.d).toNat))] [(b, (K.wk x m))] Nz.sub (E.C.seq (E.sr (E.op (E.i o) (E.op (.bool (o == 43)) (E.op (.bool (o == 43)) (E.G.cut 3 [(0, E.pt b), (1, E.i o), (2, E.u b_), (6, E.pj b (25 + (x.i.d).toNat)), (23, .bool ((o == 43) && (b_ == 0)))] (A.X w oo aa []) [(b, (K.wk x m))] ?_ ?_))))))))))
 ·
  generalize hc1 : (o == 43) = b2
  cases b2
  ·
   exact E.sk (E.sk (E.op (.bool false) E.ep))
  exact E.op (E.u b_) (E.op (.bool (b_ == 0)) (E.op (.bool (b_ == 0)) E.ep))
 refine E.To.code (E.cd ((o == 43) && (b_ == 0)) (fun hc3 => ?_) (fun hc3 => ?_))
 ·
  refine E.sr (E.op (E.pt b) (E.vl (.agg #[E.i 6, E.u 0]) (fun w h => E.run_build #[E.i 6, E.u 0] Nz.k w) (E.op (E.pt b) (E.op (E.pj b 55) (E.st 0 (K.wk (⟨x.u, x.s, x.i, 6, 0⟩) m) rfl rfl (E.To.code (E.C.ret (E.P.rt (E.To.body (fn := Tryz.f53) [] ?_ ?_)))))))))
  · exact trivial
  intro w h
  have e : (K.arith x o b_) = ⟨x.u, x.s, x.i, 6, 0⟩ := by unfold K.arith; rw [hc3, N1] <;> rfl
  rw [e]
  exact ⟨(), trivial, rfl, A.dq [0] [] h⟩
 refine E.C.skip (E.To.code (E.C.joint (fun J up dn => ?_)))
 have rest : ∀ (g5 : Nat), J [(0, E.pt b), (6, E.pj b (25 + (x.i.d).toNat)), (7, E.pt g5)] (A.X w oo aa []) [(g5, [E.u ((K.res o (x.s.r ((x.i.d).toNat)) b_ (Zmx7a x)).v), .bool ((K.res o (x.s.r ((x.i.d).toNat)) b_ (Zmx7a x)).st), E.i ((K.res o (x.s.r ((x.i.d).toNat)) b_ (Zmx7a x)).k), E.u ((K.res o (x.s.r ((x.i.d).toNat)) b_ (Zmx7a x)).a), E.u ((K.res o (x.s.r ((x.i.d).toNat)) b_ (Zmx7a x)).b)]), (b, (K.wk x m))] := by
  intro g5
  refine up _ _ _ (E.C.seq (E.sr (E.op (E.pj g5 1) (E.li (.bool ((K.res o (x.s.r ((x.i.d).toNat)) b_ (Zmx7a x)).st)) 0 rfl rfl (E.To.code (E.cd ((K.res o (x.s.r ((x.i.d).toNat)) b_ (IntKind.wrap .i64 (bits .and .u32 (Int.fdiv x.u.f (2 ^ 1)) 1))).st) (fun hc4 => ?_) (fun hc4 => ?_)))))))
  ·
   refine E.C.region (E.op (E.pj b (25 + (x.i.d).toNat)) (E.op (E.pt g5) (E.li (E.u ((K.res o (x.s.r ((x.i.d).toNat)) b_ (Zmx7a x)).v)) 0 rfl rfl (E.op (E.pj b (25 + (x.i.d).toNat)) (E.G.store 1 (K.wk (⟨x.u, ⟨x.s.pc, (Q.up x.s.r (x.i.d).toNat ((K.res o (x.s.r ((x.i.d).toNat)) b_ (Zmx7a x)).v)), x.s.f, x.s.c, x.s.st, x.s.du⟩, x.i, x.k, x.t⟩) m) rfl rfl (K.sto_s (x := x) Nz.k (by have := hi.d; omega)) Nz.k (E.tr (E.op (E.pj g5 2) (E.li (E.i ((K.res o (x.s.r ((x.i.d).toNat)) b_ (Zmx7a x)).k)) 0 rfl rfl (E.op (.bool (((K.res o (x.s.r ((x.i.d).toNat)) b_ (Zmx7a x)).k) != 0)) (E.To.code (E.wk [(0, E.pt b), (7, E.pt g5), (52, .bool (((K.res o (x.s.r ((x.i.d).toNat)) b_ (Zmx7a x)).k) != 0))] [(g5, [E.u ((K.res o (x.s.r ((x.i.d).toNat)) b_ (Zmx7a x)).v), .bool ((K.res o (x.s.r ((x.i.d).toNat)) b_ (Zmx7a x)).st), E.i ((K.res o (x.s.r ((x.i.d).toNat)) b_ (Zmx7a x)).k), E.u ((K.res o (x.s.r ((x.i.d).toNat)) b_ (Zmx7a x)).a), E.u ((K.res o (x.s.r ((x.i.d).toNat)) b_ (Zmx7a x)).b)]), (b, (K.wk (⟨x.u, ⟨x.s.pc, (Q.up x.s.r (x.i.d).toNat ((K.res o (x.s.r ((x.i.d).toNat)) b_ (Zmx7a x)).v)), x.s.f, x.s.c, x.s.st, x.s.du⟩, x.i, x.k, x.t⟩) m))] Nz.sub ?_)))))))))))
   refine E.cd (((K.res o (x.s.r ((x.i.d).toNat)) b_ (IntKind.wrap .i64 (bits .and .u32 (Int.fdiv x.u.f (2 ^ 1)) 1))).k) != 0) (fun hc5 => ?_) (fun hc5 => ?_)
   ·
    refine E.C.region (E.op (E.pt b) (E.op (E.pj g5 2) (E.li (E.i ((K.res o (x.s.r ((x.i.d).toNat)) b_ (Zmx7a x)).k)) 0 rfl rfl (E.op (E.pj g5 3) (E.li (E.u ((K.res o (x.s.r ((x.i.d).toNat)) b_ (Zmx7a x)).a)) 0 rfl rfl (E.op (E.pj g5 4) (E.li (E.u ((K.res o (x.s.r ((x.i.d).toNat)) b_ (Zmx7a x)).b)) 0 rfl rfl (A.gc (fun _ => .tuple #[]) (Flags_w (b := b) (m := m) (⟨x.u, ⟨x.s.pc, (Q.up x.s.r (x.i.d).toNat ((K.res o (x.s.r ((x.i.d).toNat)) b_ (Zmx7a x)).v)), x.s.f, x.s.c, x.s.st, x.s.du⟩, x.i, x.k, x.t⟩ : K.W) ((K.res o (x.s.r ((x.i.d).toNat)) b_ (Zmx7a x)).k) ((K.res o (x.s.r ((x.i.d).toNat)) b_ (Zmx7a x)).a) ((K.res o (x.s.r ((x.i.d).toNat)) b_ (Zmx7a x)).b) (K.res_bd (hx.s.r _) hb).1 (K.res_bd (hx.s.r _) hb).2) [1] [0] [0, 1] (fun _ => [(b, (K.wk (K.flags (⟨x.u, ⟨x.s.pc, (Q.up x.s.r (x.i.d).toNat ((K.res o (x.s.r ((x.i.d).toNat)) b_ (Zmx7a x)).v)), x.s.f, x.s.c, x.s.st, x.s.du⟩, x.i, x.k, x.t⟩ : K.W) ((K.res o (x.s.r ((x.i.d).toNat)) b_ (Zmx7a x)).k) ((K.res o (x.s.r ((x.i.d).toNat)) b_ (Zmx7a x)).a) ((K.res o (x.s.r ((x.i.d).toNat)) b_ (Zmx7a x)).b)) m)), (g5, [E.u ((K.res o (x.s.r ((x.i.d).toNat)) b_ (Zmx7a x)).v), .bool ((K.res o (x.s.r ((x.i.d).toNat)) b_ (Zmx7a x)).st), E.i ((K.res o (x.s.r ((x.i.d).toNat)) b_ (Zmx7a x)).k), E.u ((K.res o (x.s.r ((x.i.d).toNat)) b_ (Zmx7a x)).a), E.u ((K.res o (x.s.r ((x.i.d).toNat)) b_ (Zmx7a x)).b)])]) (fun _ => []) (fun _ hd6 => E.To.bodyN (fn := Tryz.f53) [] ?_ ?_)))))))))
    · exact trivial
    intro w h
    have e : (K.arith x o b_) = K.flags (⟨x.u, ⟨x.s.pc, (Q.up x.s.r (x.i.d).toNat ((K.res o (x.s.r ((x.i.d).toNat)) b_ (Zmx7a x)).v)), x.s.f, x.s.c, x.s.st, x.s.du⟩, x.i, x.k, x.t⟩ : K.W) ((K.res o (x.s.r ((x.i.d).toNat)) b_ (Zmx7a x)).k) ((K.res o (x.s.r ((x.i.d).toNat)) b_ (Zmx7a x)).a) ((K.res o (x.s.r ((x.i.d).toNat)) b_ (Zmx7a x)).b) := by unfold K.arith; rw [hc3, N0, hc4, N1, hc5, N1] <;> rfl
    rw [e]
    exact ⟨(), trivial, rfl, A.dq [0] [1] h⟩
   refine E.C.skip (E.To.bodyN (fn := Tryz.f53) [] ?_ ?_)
   · exact trivial
   intro w h
   have e : (K.arith x o b_) = ⟨x.u, ⟨x.s.pc, (Q.up x.s.r (x.i.d).toNat ((K.res o (x.s.r ((x.i.d).toNat)) b_ (Zmx7a x)).v)), x.s.f, x.s.c, x.s.st, x.s.du⟩, x.i, x.k, x.t⟩ := by unfold K.arith; rw [hc3, N0, hc4, N1, hc5, N0] <;> rfl
   rw [e]
   exact ⟨(), trivial, rfl, A.dq [1] [0] h⟩
  refine E.C.skip (E.To.code (E.sr (E.op (E.pj g5 2) (E.li (E.i ((K.res o (x.s.r ((x.i.d).toNat)) b_ (Zmx7a x)).k)) 0 rfl rfl (E.op (.bool (((K.res o (x.s.r ((x.i.d).toNat)) b_ (Zmx7a x)).k) != 0)) (E.To.code (E.cd (((K.res o (x.s.r ((x.i.d).toNat)) b_ (IntKind.wrap .i64 (bits .and .u32 (Int.fdiv x.u.f (2 ^ 1)) 1))).k) != 0) (fun hc7 => ?_) (fun hc7 => ?_))))))))
  ·
   refine E.C.region (E.op (E.pt b) (E.op (E.pj g5 2) (E.li (E.i ((K.res o (x.s.r ((x.i.d).toNat)) b_ (Zmx7a x)).k)) 0 rfl rfl (E.op (E.pj g5 3) (E.li (E.u ((K.res o (x.s.r ((x.i.d).toNat)) b_ (Zmx7a x)).a)) 0 rfl rfl (E.op (E.pj g5 4) (E.li (E.u ((K.res o (x.s.r ((x.i.d).toNat)) b_ (Zmx7a x)).b)) 0 rfl rfl (A.gc (fun _ => .tuple #[]) (Flags_w (b := b) (m := m) x ((K.res o (x.s.r ((x.i.d).toNat)) b_ (Zmx7a x)).k) ((K.res o (x.s.r ((x.i.d).toNat)) b_ (Zmx7a x)).a) ((K.res o (x.s.r ((x.i.d).toNat)) b_ (Zmx7a x)).b) (K.res_bd (hx.s.r _) hb).1 (K.res_bd (hx.s.r _) hb).2) [1] [0] [0, 1] (fun _ => [(b, (K.wk (K.flags x ((K.res o (x.s.r ((x.i.d).toNat)) b_ (Zmx7a x)).k) ((K.res o (x.s.r ((x.i.d).toNat)) b_ (Zmx7a x)).a) ((K.res o (x.s.r ((x.i.d).toNat)) b_ (Zmx7a x)).b)) m)), (g5, [E.u ((K.res o (x.s.r ((x.i.d).toNat)) b_ (Zmx7a x)).v), .bool ((K.res o (x.s.r ((x.i.d).toNat)) b_ (Zmx7a x)).st), E.i ((K.res o (x.s.r ((x.i.d).toNat)) b_ (Zmx7a x)).k), E.u ((K.res o (x.s.r ((x.i.d).toNat)) b_ (Zmx7a x)).a), E.u ((K.res o (x.s.r ((x.i.d).toNat)) b_ (Zmx7a x)).b)])]) (fun _ => []) (fun _ hd8 => E.To.bodyN (fn := Tryz.f53) [] ?_ ?_)))))))))
   · exact trivial
   intro w h
   have e : (K.arith x o b_) = K.flags x ((K.res o (x.s.r ((x.i.d).toNat)) b_ (Zmx7a x)).k) ((K.res o (x.s.r ((x.i.d).toNat)) b_ (Zmx7a x)).a) ((K.res o (x.s.r ((x.i.d).toNat)) b_ (Zmx7a x)).b) := by unfold K.arith; rw [hc3, N0, hc4, N0, hc7, N1] <;> rfl
   rw [e]
   exact ⟨(), trivial, rfl, A.dq [0] [1] h⟩
  refine E.C.skip (E.To.bodyN (fn := Tryz.f53) [] ?_ ?_)
  · exact trivial
  intro w h
  have e : (K.arith x o b_) = x := by unfold K.arith; rw [hc3, N0, hc4, N0, hc7, N0] <;> rfl
  rw [e]
  exact ⟨(), trivial, rfl, A.dq [1] [0] h⟩
 refine E.C.held (A.Y [A.blk b (K.wk x m)]) Nz.k (E.tk 1 (E.i o) rfl (fun w h => A.hq [0] [] h) (E.tk 3 (E.pj b (25 + (x.i.d).toNat)) rfl (fun w h => A.hq [0] [] h) (E.tk 4 (E.pj b (25 + (x.i.d).toNat)) rfl (fun w h => A.hq [0] [] h) (E.tj 5 (E.u (x.s.r ((x.i.d).toNat))) rfl (fun w h => A.hq [0] [] h) (fun w h => A.Y.bld h (k := 0) (j := 25 + (x.i.d).toNat) rfl Nz.k (K.ld_s Nz.k (by have := hi.d; omega))) (E.tk 6 (E.u b_) rfl (fun w h => A.hq [0] [] h) (E.tk 7 (E.pt b) rfl (fun w h => A.hq [0] [] h) (E.tk 8 (E.pt b) rfl (fun w h => A.hq [0] [] h) (E.tk 9 (E.pt b) rfl (fun w h => A.hq [0] [] h) (E.tk 10 (E.pj b 17) rfl (fun w h => A.hq [0] [] h) (E.tj 11 (E.u x.u.f) rfl (fun w h => A.hq [0] [] h) (fun w h => A.Y.bld h (k := 0) (j := 17) rfl Nz.k Nz.k) (E.tk 12 (E.u (Int.fdiv x.u.f (2 ^ 1))) rfl (fun w h => A.hq [0] [] h) ?_)))))))))))
 refine E.tk 13 (E.u (bits .and .u32 (Int.fdiv x.u.f (2 ^ 1)) 1)) rfl (fun w h => A.hq [0] [] h) (E.tk 14 (E.i (Zmx7a x)) rfl (fun w h => A.hq [0] [] h) (E.al2 0 16 rfl rfl ?_ ?_))
 ·
  refine E.G.callX (I := Nat × Nat × (Nat → Nat)) (fun _ => True) (fun i => .map (some i.1)) (fun i u => (A.X w oo aa []) u ∧ E.Mp i.1 (K.opE i.2.1 i.2.2) 15 u) (fun i => K.opL i.2.1 i.2.2 ++ [(b, (K.wk x m))]) (fun w h => (operations_any w).mono fun e w1 ⟨i, he, hp⟩ => ⟨i, trivial, he, h.over hp Nz.k⟩) (fun w _ => Nz.k) Nz.k (fun i4 _ => E.H.back (fun w h => A.hq [9] [0, 1, 2, 3, 4, 5, 6, 7, 8] (h.monoX fun _ k => k.1)) (E.al2 2 16 rfl rfl ?_ ?_))
  ·
   refine E.vl (K.opv i4.2.1 i4.2.2 o) (fun w h => E.look1 Nz.k Nz.k (K.look h.x.2 ho)) (E.G.monoX (fun _ k => k.1) (E.H.back (fun w h => A.hq [9] [0, 1, 2, 3, 4, 5, 6, 7, 8] h) (E.al2 15 16 rfl rfl ?_ ?_)))
   ·
    exact E.G.callv [E.u (x.s.r ((x.i.d).toNat)), E.u b_, E.i (Zmx7a x)] (.agg #[E.u ((K.res o (x.s.r ((x.i.d).toNat)) b_ (Zmx7a x)).v), .bool ((K.res o (x.s.r ((x.i.d).toNat)) b_ (Zmx7a x)).st), E.i ((K.res o (x.s.r ((x.i.d).toNat)) b_ (Zmx7a x)).k), E.u ((K.res o (x.s.r ((x.i.d).toNat)) b_ (Zmx7a x)).a), E.u ((K.res o (x.s.r ((x.i.d).toNat)) b_ (Zmx7a x)).b)]) rfl rfl (fun w _ => K.opgo ho _ w) (fun w h => K.opcall (l := i4.2.1) (c := i4.2.2) (L := [(b, (K.wk x m))]) h (x.s.r ((x.i.d).toNat)) b_ (Zmx7a x) ho (hx.s.r _) hb) Nz.k (E.H.back (fun w h => A.hq [9] [0, 1, 2, 3, 4, 5, 6, 7, 8] h) (E.al 16 rfl (E.nw Zmx7b 144 (fun g5 => E.H.back (fun w h => A.hq [10] [0, 1, 2, 3, 4, 5, 6, 7, 8, 9] h) (E.al 17 rfl (E.st 0 [E.u ((K.res o (x.s.r ((x.i.d).toNat)) b_ (Zmx7a x)).v), .bool ((K.res o (x.s.r ((x.i.d).toNat)) b_ (Zmx7a x)).st), E.i ((K.res o (x.s.r ((x.i.d).toNat)) b_ (Zmx7a x)).k), E.u ((K.res o (x.s.r ((x.i.d).toNat)) b_ (Zmx7a x)).a), E.u ((K.res o (x.s.r ((x.i.d).toNat)) b_ (Zmx7a x)).b)] rfl rfl (E.H.back (fun w h => A.hq [10] [0, 1, 2, 3, 4, 5, 6, 7, 8, 9] h) (E.H.done Nz.k (fun a w h1 h2 => dn _ _ _ (rest g5) a w (h1.sub ⟨Nz.k, Nz.k⟩) (h2.less Nz.sub))))))))))
   exact E.nw Zmx7b 144 (fun g6 => E.H.back (fun w h => A.hq [10] [0, 1, 2, 3, 4, 5, 6, 7, 8, 9] h) (E.al 15 rfl (E.G.callv [E.u (x.s.r ((x.i.d).toNat)), E.u b_, E.i (Zmx7a x)] (.agg #[E.u ((K.res o (x.s.r ((x.i.d).toNat)) b_ (Zmx7a x)).v), .bool ((K.res o (x.s.r ((x.i.d).toNat)) b_ (Zmx7a x)).st), E.i ((K.res o (x.s.r ((x.i.d).toNat)) b_ (Zmx7a x)).k), E.u ((K.res o (x.s.r ((x.i.d).toNat)) b_ (Zmx7a x)).a), E.u ((K.res o (x.s.r ((x.i.d).toNat)) b_ (Zmx7a x)).b)]) rfl rfl (fun w _ => K.opgo ho _ w) (fun w h => K.opcall (l := i4.2.1) (c := i4.2.2) (L := [(b, (K.wk x m))]) (h.less Nz.sub) (x.s.r ((x.i.d).toNat)) b_ (Zmx7a x) ho (hx.s.r _) hb) Nz.k (E.H.back (fun w h => A.hq [10] [0, 1, 2, 3, 4, 5, 6, 7, 8, 9] h) (E.al 17 rfl (E.st 0 [E.u ((K.res o (x.s.r ((x.i.d).toNat)) b_ (Zmx7a x)).v), .bool ((K.res o (x.s.r ((x.i.d).toNat)) b_ (Zmx7a x)).st), E.i ((K.res o (x.s.r ((x.i.d).toNat)) b_ (Zmx7a x)).k), E.u ((K.res o (x.s.r ((x.i.d).toNat)) b_ (Zmx7a x)).a), E.u ((K.res o (x.s.r ((x.i.d).toNat)) b_ (Zmx7a x)).b)] rfl rfl (E.H.back (fun w h => A.hq [10] [0, 1, 2, 3, 4, 5, 6, 7, 8, 9] h) (E.H.done Nz.k (fun a w h1 h2 => dn _ _ _ (rest g6) a w (h1.sub ⟨Nz.k, Nz.k⟩) (h2.less Nz.sub))))))))))
  refine E.nw Zmx7b 144 (fun g7 => E.H.back (fun w h => A.hq [10] [0, 1, 2, 3, 4, 5, 6, 7, 8, 9] (h.monoX fun _ k => k.1)) (E.al 2 rfl (E.vl (K.opv i4.2.1 i4.2.2 o) (fun w h => E.look1 Nz.k Nz.k (K.look h.x.2 ho)) (E.G.monoX (fun _ k => k.1) (E.H.back (fun w h => A.hq [10] [0, 1, 2, 3, 4, 5, 6, 7, 8, 9] h) (E.al 15 rfl (E.G.callv [E.u (x.s.r ((x.i.d).toNat)), E.u b_, E.i (Zmx7a x)] (.agg #[E.u ((K.res o (x.s.r ((x.i.d).toNat)) b_ (Zmx7a x)).v), .bool ((K.res o (x.s.r ((x.i.d).toNat)) b_ (Zmx7a x)).st), E.i ((K.res o (x.s.r ((x.i.d).toNat)) b_ (Zmx7a x)).k), E.u ((K.res o (x.s.r ((x.i.d).toNat)) b_ (Zmx7a x)).a), E.u ((K.res o (x.s.r ((x.i.d).toNat)) b_ (Zmx7a x)).b)]) rfl rfl (fun w _ => K.opgo ho _ w) (fun w h => K.opcall (l := i4.2.1) (c := i4.2.2) (L := [(b, (K.wk x m))]) (h.less Nz.sub) (x.s.r ((x.i.d).toNat)) b_ (Zmx7a x) ho (hx.s.r _) hb) Nz.k (E.H.back (fun w h => A.hq [10] [0, 1, 2, 3, 4, 5, 6, 7, 8, 9] h) (E.al 17 rfl (E.st 0 [E.u ((K.res o (x.s.r ((x.i.d).toNat)) b_ (Zmx7a x)).v), .bool ((K.res o (x.s.r ((x.i.d).toNat)) b_ (Zmx7a x)).st), E.i ((K.res o (x.s.r ((x.i.d).toNat)) b_ (Zmx7a x)).k), E.u ((K.res o (x.s.r ((x.i.d).toNat)) b_ (Zmx7a x)).a), E.u ((K.res o (x.s.r ((x.i.d).toNat)) b_ (Zmx7a x)).b)] rfl rfl (E.H.back (fun w h => A.hq [10] [0, 1, 2, 3, 4, 5, 6, 7, 8, 9] h) ?_)))))))))))
  exact E.H.done Nz.k (fun a w h1 h2 => dn _ _ _ (rest g7) a w (h1.sub ⟨Nz.k, Nz.k⟩) (h2.less Nz.sub))
 refine E.nw Zmx7b 144 (fun g8 => E.H.back (fun w h => A.hq [1] [0] h) (E.al 0 rfl (E.G.callX (I := Nat × Nat × (Nat → Nat)) (fun _ => True) (fun i => .map (some i.1)) (fun i u => (A.X w oo aa []) u ∧ E.Mp i.1 (K.opE i.2.1 i.2.2) 15 u) (fun i => K.opL i.2.1 i.2.2 ++ [(g8, Zmx7b), (b, (K.wk x m))]) (fun w h => (operations_any w).mono fun e w1 ⟨i, he, hp⟩ => ⟨i, trivial, he, h.over hp Nz.k⟩) (fun w _ => Nz.k) Nz.k (fun i9 _ => E.H.back (fun w h => A.hq [10] [0, 1, 2, 3, 4, 5, 6, 7, 8, 9] (h.monoX fun _ k => k.1)) (E.al 2 rfl (E.vl (K.opv i9.2.1 i9.2.2 o) (fun w h => E.look1 Nz.k Nz.k (K.look h.x.2 ho)) (E.G.monoX (fun _ k => k.1) (E.H.back (fun w h => A.hq [10] [0, 1, 2, 3, 4, 5, 6, 7, 8, 9] h) (E.al 15 rfl (E.G.callv [E.u (x.s.r ((x.i.d).toNat)), E.u b_, E.i (Zmx7a x)] (.agg #[E.u ((K.res o (x.s.r ((x.i.d).toNat)) b_ (Zmx7a x)).v), .bool ((K.res o (x.s.r ((x.i.d).toNat)) b_ (Zmx7a x)).st), E.i ((K.res o (x.s.r ((x.i.d).toNat)) b_ (Zmx7a x)).k), E.u ((K.res o (x.s.r ((x.i.d).toNat)) b_ (Zmx7a x)).a), E.u ((K.res o (x.s.r ((x.i.d).toNat)) b_ (Zmx7a x)).b)]) rfl rfl (fun w _ => K.opgo ho _ w) (fun w h => K.opcall (l := i9.2.1) (c := i9.2.2) (L := [(g8, Zmx7b), (b, (K.wk x m))]) h (x.s.r ((x.i.d).toNat)) b_ (Zmx7a x) ho (hx.s.r _) hb) Nz.k (E.H.back (fun w h => A.hq [10] [0, 1, 2, 3, 4, 5, 6, 7, 8, 9] h) ?_)))))))))))
 exact E.al 17 rfl (E.st 9 [E.u ((K.res o (x.s.r ((x.i.d).toNat)) b_ (Zmx7a x)).v), .bool ((K.res o (x.s.r ((x.i.d).toNat)) b_ (Zmx7a x)).st), E.i ((K.res o (x.s.r ((x.i.d).toNat)) b_ (Zmx7a x)).k), E.u ((K.res o (x.s.r ((x.i.d).toNat)) b_ (Zmx7a x)).a), E.u ((K.res o (x.s.r ((x.i.d).toNat)) b_ (Zmx7a x)).b)] rfl rfl (E.H.back (fun w h => A.hq [10] [0, 1, 2, 3, 4, 5, 6, 7, 8, 9] h) (E.H.done Nz.k (fun a w h1 h2 => dn _ _ _ (rest g8) a w (h1.sub ⟨Nz.k, Nz.k⟩) (h2.less Nz.sub)))))
end Go.Proofs.YtglidnmmeclneaaGreat
