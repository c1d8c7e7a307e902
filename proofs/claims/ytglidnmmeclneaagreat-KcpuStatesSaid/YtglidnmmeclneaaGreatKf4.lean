/- Texts of the walk, merged (4): see the remark ahead of each. -/
import Derived.Test.YtglidnmmeclneaaGreatKf3
import Derived.Laws.EntriesVeiled
import Derived.Great.BuildSlice
import Derived.Deep.RegionWith
import Derived.Deep.CutRange
import Derived.Test.YtglidnmmeclneaaGreatProg
namespace Go.Proofs.YtglidnmmeclneaaGreat
set_option linter.unusedVariables false
set_option linter.unusedSimpArgs false
open Go.RowKit
theorem K.app (a b : List Int) : strOfNums a ++ strOfNums b = strOfNums (a ++ b) := by
  apply ByteArray.ext; simp [strOfNums]
theorem K.nil : (⟨#[]⟩ : ByteArray) = strOfNums [] := rfl
def K.p_Reg (i : K.Ins) : List Int := [i.d]
theorem putReg_t : PutOK 139 K.p_Reg := putReg_ok
def K.p_Byte (i : K.Ins) : List Int := [i.imm % 256]
theorem putByte_t : PutOK 145 K.p_Byte := putByte_ok
def K.p_Pair (i : K.Ins) : List Int := [i.d * 16 + i.s]
theorem putPair_t : PutOK 141 K.p_Pair := putPair_ok
def K.p_Full (i : K.Ins) : List Int := [i.imm % 256, i.imm / 256 % 256, i.imm / 65536 % 256, i.imm / 16777216 % 256]
theorem putFull_t : PutOK 147 K.p_Full := putFull_ok
def K.p_Index (i : K.Ins) : List Int := [if i.ix < 0 then 8 else i.sc * 16 + i.ix]
theorem putIndex_t : PutOK 149 K.p_Index := putIndex_ok
theorem puts_Reg_Byte (c h cap : Nat) (i : K.Ins) (w : World) : K.In i → w.cell? ⟨c, 0, none⟩ = some (.slice (some ⟨h, 0, none⟩) 2 cap) → w.cell? ⟨h, 0, none⟩ = some (.func (.func 139) #[] #[]) → w.cell? ⟨h, 1, none⟩ = some (.func (.func 145) #[] #[]) →
    Calls Tryz.prog 168 #[.agg #[.int .i64 i.op, .int .i64 i.d, .int .i64 i.s, .int .i64 i.ix, .int .i64 i.sc, .int .u32 i.imm, .int .i64 i.sz], .pointer (some ⟨c, 0, none⟩)] w fun e w' => e = .returned (.string (strOfNums (([] ++ K.p_Reg i) ++ K.p_Byte i))) ∧ Bel w w' := by
  intro hi hc q0 q1
  have hw1 : Bel w (w.alloc (.cells #[.int .i64 i.op, .int .i64 i.d, .int .i64 i.s, .int .i64 i.ix, .int .i64 i.sc, .int .u32 i.imm, .int .i64 i.sz] 66)) := Bel.alloc (Bel.refl _) _
  have hc1 := Bel.at hw1 hc
  go_enter Tryz.func168, Tryz.ntmps168
  go_wp2
  go_loopw [4, 9] (fun r j wr => ∃ k : Nat, j = .int .i64 k ∧ Bel (w.alloc (.cells #[.int .i64 i.op, .int .i64 i.d, .int .i64 i.s, .int .i64 i.ix, .int .i64 i.sc, .int .u32 i.imm, .int .i64 i.sz] 66)) wr ∧ ((k = 0 ∧ r = .string (strOfNums [])) ∨ (k = 1 ∧ r = .string (strOfNums ([] ++ K.p_Reg i))) ∨ (k = 2 ∧ r = .string (strOfNums (([] ++ K.p_Reg i) ++ K.p_Byte i))))) (fun _ j _ => 2 - (intOf j).toNat)
  case atStart => exact ⟨0, rfl, Bel.refl _, .inl ⟨rfl, by rw [K.nil]⟩⟩
  case round =>
    obtain ⟨k, rfl, hch, hrel⟩ := hrel
    have z0 := Bel.at hch (ad := ⟨w.heap.size, 0, none⟩) (v := .int .i64 i.op) (by go_simp)
    have z1 := Bel.at hch (ad := ⟨w.heap.size, 1, none⟩) (v := .int .i64 i.d) (by go_simp)
    have z2 := Bel.at hch (ad := ⟨w.heap.size, 2, none⟩) (v := .int .i64 i.s) (by go_simp)
    have z3 := Bel.at hch (ad := ⟨w.heap.size, 3, none⟩) (v := .int .i64 i.ix) (by go_simp)
    have z4 := Bel.at hch (ad := ⟨w.heap.size, 4, none⟩) (v := .int .i64 i.sc) (by go_simp)
    have z5 := Bel.at hch (ad := ⟨w.heap.size, 5, none⟩) (v := .int .u32 i.imm) (by go_simp)
    have z6 := Bel.at hch (ad := ⟨w.heap.size, 6, none⟩) (v := .int .i64 i.sz) (by go_simp)
    rcases hrel with ⟨rfl, rfl⟩ | ⟨rfl, rfl⟩ | ⟨rfl, rfl⟩
    · have p := Bel.at hch (Bel.at hw1 q0)
      clear hc hc1 q0 q1
      go_wp2_with (go_at_call 139; refine (putReg_t i _ hi).mono ?_; rintro e w1 ⟨rfl, hb1⟩)
      go_roundw
      case rel => exact ⟨1, by go_num, hch.trans hb1, .inr (.inl ⟨rfl, (by first | (rw [K.app]; done) | (rw [K.app]; rfl) | rfl | simp)⟩)⟩
      case measure => simp [intOf]
    · have p := Bel.at hch (Bel.at hw1 q1)
      clear hc hc1 q0 q1
      go_wp2_with (go_at_call 145; refine (putByte_t i _ hi).mono ?_; rintro e w1 ⟨rfl, hb1⟩)
      go_roundw
      case rel => exact ⟨2, by go_num, hch.trans hb1, .inr (.inr (⟨rfl, (by first | (rw [K.app]; done) | (rw [K.app]; rfl) | rfl | simp)⟩))⟩
      case measure => simp [intOf]
    · clear hc hc1 q0 q1
      go_wp2
      go_ret
      exact ⟨rfl, hw1.trans hch⟩
theorem puts_Reg_Full (c h cap : Nat) (i : K.Ins) (w : World) : K.In i → w.cell? ⟨c, 0, none⟩ = some (.slice (some ⟨h, 0, none⟩) 2 cap) → w.cell? ⟨h, 0, none⟩ = some (.func (.func 139) #[] #[]) → w.cell? ⟨h, 1, none⟩ = some (.func (.func 147) #[] #[]) →
    Calls Tryz.prog 168 #[.agg #[.int .i64 i.op, .int .i64 i.d, .int .i64 i.s, .int .i64 i.ix, .int .i64 i.sc, .int .u32 i.imm, .int .i64 i.sz], .pointer (some ⟨c, 0, none⟩)] w fun e w' => e = .returned (.string (strOfNums (([] ++ K.p_Reg i) ++ K.p_Full i))) ∧ Bel w w' := by
  intro hi hc q0 q1
  have hw1 : Bel w (w.alloc (.cells #[.int .i64 i.op, .int .i64 i.d, .int .i64 i.s, .int .i64 i.ix, .int .i64 i.sc, .int .u32 i.imm, .int .i64 i.sz] 66)) := Bel.alloc (Bel.refl _) _
  have hc1 := Bel.at hw1 hc
  go_enter Tryz.func168, Tryz.ntmps168
  go_wp2
  go_loopw [4, 9] (fun r j wr => ∃ k : Nat, j = .int .i64 k ∧ Bel (w.alloc (.cells #[.int .i64 i.op, .int .i64 i.d, .int .i64 i.s, .int .i64 i.ix, .int .i64 i.sc, .int .u32 i.imm, .int .i64 i.sz] 66)) wr ∧ ((k = 0 ∧ r = .string (strOfNums [])) ∨ (k = 1 ∧ r = .string (strOfNums ([] ++ K.p_Reg i))) ∨ (k = 2 ∧ r = .string (strOfNums (([] ++ K.p_Reg i) ++ K.p_Full i))))) (fun _ j _ => 2 - (intOf j).toNat)
  case atStart => exact ⟨0, rfl, Bel.refl _, .inl ⟨rfl, by rw [K.nil]⟩⟩
  case round =>
    obtain ⟨k, rfl, hch, hrel⟩ := hrel
    have z0 := Bel.at hch (ad := ⟨w.heap.size, 0, none⟩) (v := .int .i64 i.op) (by go_simp)
    have z1 := Bel.at hch (ad := ⟨w.heap.size, 1, none⟩) (v := .int .i64 i.d) (by go_simp)
    have z2 := Bel.at hch (ad := ⟨w.heap.size, 2, none⟩) (v := .int .i64 i.s) (by go_simp)
    have z3 := Bel.at hch (ad := ⟨w.heap.size, 3, none⟩) (v := .int .i64 i.ix) (by go_simp)
    have z4 := Bel.at hch (ad := ⟨w.heap.size, 4, none⟩) (v := .int .i64 i.sc) (by go_simp)
    have z5 := Bel.at hch (ad := ⟨w.heap.size, 5, none⟩) (v := .int .u32 i.imm) (by go_simp)
    have z6 := Bel.at hch (ad := ⟨w.heap.size, 6, none⟩) (v := .int .i64 i.sz) (by go_simp)
    rcases hrel with ⟨rfl, rfl⟩ | ⟨rfl, rfl⟩ | ⟨rfl, rfl⟩
    · have p := Bel.at hch (Bel.at hw1 q0)
      clear hc hc1 q0 q1
      go_wp2_with (go_at_call 139; refine (putReg_t i _ hi).mono ?_; rintro e w1 ⟨rfl, hb1⟩)
      go_roundw
      case rel => exact ⟨1, by go_num, hch.trans hb1, .inr (.inl ⟨rfl, (by first | (rw [K.app]; done) | (rw [K.app]; rfl) | rfl | simp)⟩)⟩
      case measure => simp [intOf]
    · have p := Bel.at hch (Bel.at hw1 q1)
      clear hc hc1 q0 q1
      go_wp2_with (go_at_call 147; refine (putFull_t i _ hi).mono ?_; rintro e w1 ⟨rfl, hb1⟩)
      go_roundw
      case rel => exact ⟨2, by go_num, hch.trans hb1, .inr (.inr (⟨rfl, (by first | (rw [K.app]; done) | (rw [K.app]; rfl) | rfl | simp)⟩))⟩
      case measure => simp [intOf]
    · clear hc hc1 q0 q1
      go_wp2
      go_ret
      exact ⟨rfl, hw1.trans hch⟩
theorem puts_Pair_Byte (c h cap : Nat) (i : K.Ins) (w : World) : K.In i → w.cell? ⟨c, 0, none⟩ = some (.slice (some ⟨h, 0, none⟩) 2 cap) → w.cell? ⟨h, 0, none⟩ = some (.func (.func 141) #[] #[]) → w.cell? ⟨h, 1, none⟩ = some (.func (.func 145) #[] #[]) →
    Calls Tryz.prog 168 #[.agg #[.int .i64 i.op, .int .i64 i.d, .int .i64 i.s, .int .i64 i.ix, .int .i64 i.sc, .int .u32 i.imm, .int .i64 i.sz], .pointer (some ⟨c, 0, none⟩)] w fun e w' => e = .returned (.string (strOfNums (([] ++ K.p_Pair i) ++ K.p_Byte i))) ∧ Bel w w' := by
  intro hi hc q0 q1
  have hw1 : Bel w (w.alloc (.cells #[.int .i64 i.op, .int .i64 i.d, .int .i64 i.s, .int .i64 i.ix, .int .i64 i.sc, .int .u32 i.imm, .int .i64 i.sz] 66)) := Bel.alloc (Bel.refl _) _
  have hc1 := Bel.at hw1 hc
  go_enter Tryz.func168, Tryz.ntmps168
  go_wp2
  go_loopw [4, 9] (fun r j wr => ∃ k : Nat, j = .int .i64 k ∧ Bel (w.alloc (.cells #[.int .i64 i.op, .int .i64 i.d, .int .i64 i.s, .int .i64 i.ix, .int .i64 i.sc, .int .u32 i.imm, .int .i64 i.sz] 66)) wr ∧ ((k = 0 ∧ r = .string (strOfNums [])) ∨ (k = 1 ∧ r = .string (strOfNums ([] ++ K.p_Pair i))) ∨ (k = 2 ∧ r = .string (strOfNums (([] ++ K.p_Pair i) ++ K.p_Byte i))))) (fun _ j _ => 2 - (intOf j).toNat)
  case atStart => exact ⟨0, rfl, Bel.refl _, .inl ⟨rfl, by rw [K.nil]⟩⟩
  case round =>
    obtain ⟨k, rfl, hch, hrel⟩ := hrel
    have z0 := Bel.at hch (ad := ⟨w.heap.size, 0, none⟩) (v := .int .i64 i.op) (by go_simp)
    have z1 := Bel.at hch (ad := ⟨w.heap.size, 1, none⟩) (v := .int .i64 i.d) (by go_simp)
    have z2 := Bel.at hch (ad := ⟨w.heap.size, 2, none⟩) (v := .int .i64 i.s) (by go_simp)
    have z3 := Bel.at hch (ad := ⟨w.heap.size, 3, none⟩) (v := .int .i64 i.ix) (by go_simp)
    have z4 := Bel.at hch (ad := ⟨w.heap.size, 4, none⟩) (v := .int .i64 i.sc) (by go_simp)
    have z5 := Bel.at hch (ad := ⟨w.heap.size, 5, none⟩) (v := .int .u32 i.imm) (by go_simp)
    have z6 := Bel.at hch (ad := ⟨w.heap.size, 6, none⟩) (v := .int .i64 i.sz) (by go_simp)
    rcases hrel with ⟨rfl, rfl⟩ | ⟨rfl, rfl⟩ | ⟨rfl, rfl⟩
    · have p := Bel.at hch (Bel.at hw1 q0)
      clear hc hc1 q0 q1
      go_wp2_with (go_at_call 141; refine (putPair_t i _ hi).mono ?_; rintro e w1 ⟨rfl, hb1⟩)
      go_roundw
      case rel => exact ⟨1, by go_num, hch.trans hb1, .inr (.inl ⟨rfl, (by first | (rw [K.app]; done) | (rw [K.app]; rfl) | rfl | simp)⟩)⟩
      case measure => simp [intOf]
    · have p := Bel.at hch (Bel.at hw1 q1)
      clear hc hc1 q0 q1
      go_wp2_with (go_at_call 145; refine (putByte_t i _ hi).mono ?_; rintro e w1 ⟨rfl, hb1⟩)
      go_roundw
      case rel => exact ⟨2, by go_num, hch.trans hb1, .inr (.inr (⟨rfl, (by first | (rw [K.app]; done) | (rw [K.app]; rfl) | rfl | simp)⟩))⟩
      case measure => simp [intOf]
    · clear hc hc1 q0 q1
      go_wp2
      go_ret
      exact ⟨rfl, hw1.trans hch⟩
theorem puts_Pair_Index_Full (c h cap : Nat) (i : K.Ins) (w : World) : K.In i → w.cell? ⟨c, 0, none⟩ = some (.slice (some ⟨h, 0, none⟩) 3 cap) → w.cell? ⟨h, 0, none⟩ = some (.func (.func 141) #[] #[]) → w.cell? ⟨h, 1, none⟩ = some (.func (.func 149) #[] #[]) → w.cell? ⟨h, 2, none⟩ = some (.func (.func 147) #[] #[]) →
    Calls Tryz.prog 168 #[.agg #[.int .i64 i.op, .int .i64 i.d, .int .i64 i.s, .int .i64 i.ix, .int .i64 i.sc, .int .u32 i.imm, .int .i64 i.sz], .pointer (some ⟨c, 0, none⟩)] w fun e w' => e = .returned (.string (strOfNums ((([] ++ K.p_Pair i) ++ K.p_Index i) ++ K.p_Full i))) ∧ Bel w w' := by
  intro hi hc q0 q1 q2
  have hw1 : Bel w (w.alloc (.cells #[.int .i64 i.op, .int .i64 i.d, .int .i64 i.s, .int .i64 i.ix, .int .i64 i.sc, .int .u32 i.imm, .int .i64 i.sz] 66)) := Bel.alloc (Bel.refl _) _
  have hc1 := Bel.at hw1 hc
  go_enter Tryz.func168, Tryz.ntmps168
  go_wp2
  go_loopw [4, 9] (fun r j wr => ∃ k : Nat, j = .int .i64 k ∧ Bel (w.alloc (.cells #[.int .i64 i.op, .int .i64 i.d, .int .i64 i.s, .int .i64 i.ix, .int .i64 i.sc, .int .u32 i.imm, .int .i64 i.sz] 66)) wr ∧ ((k = 0 ∧ r = .string (strOfNums [])) ∨ (k = 1 ∧ r = .string (strOfNums ([] ++ K.p_Pair i))) ∨ (k = 2 ∧ r = .string (strOfNums (([] ++ K.p_Pair i) ++ K.p_Index i))) ∨ (k = 3 ∧ r = .string (strOfNums ((([] ++ K.p_Pair i) ++ K.p_Index i) ++ K.p_Full i))))) (fun _ j _ => 3 - (intOf j).toNat)
  case atStart => exact ⟨0, rfl, Bel.refl _, .inl ⟨rfl, by rw [K.nil]⟩⟩
  case round =>
    obtain ⟨k, rfl, hch, hrel⟩ := hrel
    have z0 := Bel.at hch (ad := ⟨w.heap.size, 0, none⟩) (v := .int .i64 i.op) (by go_simp)
    have z1 := Bel.at hch (ad := ⟨w.heap.size, 1, none⟩) (v := .int .i64 i.d) (by go_simp)
    have z2 := Bel.at hch (ad := ⟨w.heap.size, 2, none⟩) (v := .int .i64 i.s) (by go_simp)
    have z3 := Bel.at hch (ad := ⟨w.heap.size, 3, none⟩) (v := .int .i64 i.ix) (by go_simp)
    have z4 := Bel.at hch (ad := ⟨w.heap.size, 4, none⟩) (v := .int .i64 i.sc) (by go_simp)
    have z5 := Bel.at hch (ad := ⟨w.heap.size, 5, none⟩) (v := .int .u32 i.imm) (by go_simp)
    have z6 := Bel.at hch (ad := ⟨w.heap.size, 6, none⟩) (v := .int .i64 i.sz) (by go_simp)
    rcases hrel with ⟨rfl, rfl⟩ | ⟨rfl, rfl⟩ | ⟨rfl, rfl⟩ | ⟨rfl, rfl⟩
    · have p := Bel.at hch (Bel.at hw1 q0)
      clear hc hc1 q0 q1 q2
      go_wp2_with (go_at_call 141; refine (putPair_t i _ hi).mono ?_; rintro e w1 ⟨rfl, hb1⟩)
      go_roundw
      case rel => exact ⟨1, by go_num, hch.trans hb1, .inr (.inl ⟨rfl, (by first | (rw [K.app]; done) | (rw [K.app]; rfl) | rfl | simp)⟩)⟩
      case measure => simp [intOf]
    · have p := Bel.at hch (Bel.at hw1 q1)
      clear hc hc1 q0 q1 q2
      go_wp2_with (go_at_call 149; refine (putIndex_t i _ hi).mono ?_; rintro e w1 ⟨rfl, hb1⟩)
      go_roundw
      case rel => exact ⟨2, by go_num, hch.trans hb1, .inr (.inr (.inl ⟨rfl, (by first | (rw [K.app]; done) | (rw [K.app]; rfl) | rfl | simp)⟩))⟩
      case measure => simp [intOf]
    · have p := Bel.at hch (Bel.at hw1 q2)
      clear hc hc1 q0 q1 q2
      go_wp2_with (go_at_call 147; refine (putFull_t i _ hi).mono ?_; rintro e w1 ⟨rfl, hb1⟩)
      go_roundw
      case rel => exact ⟨3, by go_num, hch.trans hb1, .inr (.inr (.inr (⟨rfl, (by first | (rw [K.app]; done) | (rw [K.app]; rfl) | rfl | simp)⟩)))⟩
      case measure => simp [intOf]
    · clear hc hc1 q0 q1 q2
      go_wp2
      go_ret
      exact ⟨rfl, hw1.trans hch⟩
/-- v is the closure F over a cell that holds a slice of the functions fs. -/
def K.Cl (F : FuncId) (fs : List FuncId) (v : Value) (w : World) : Prop := ∃ c h cap, v = .func (.func F) #[] #[.pointer (some ⟨c, 0, none⟩)] ∧ w.cell? ⟨c, 0, none⟩ = some (.slice (some ⟨h, 0, none⟩) fs.length cap) ∧ ∀ j, j < fs.length → w.cell? ⟨h, j, none⟩ = some (.func (.func (fs.getD j 0)) #[] #[])
theorem K.Cl.bel {F : FuncId} {fs : List FuncId} {v : Value} {w w' : World} (h : K.Cl F fs v w) (k : Bel w w') : K.Cl F fs v w' := by
  obtain ⟨c, b, cap, e, h1, h2⟩ := h
  exact ⟨c, b, cap, e, Bel.at k h1, fun j hj => Bel.at k (h2 j hj)⟩
theorem takes2_any (f1 f2 : FuncId) (w : World) (T : TypeId) :
    Calls Tryz.prog 142 #[.slice (some ⟨w.heap.size, 0, none⟩) 2 2] (w.alloc (.cells #[.func (.func f1) #[] #[], .func (.func f2) #[] #[]] T)) fun e w' => ∃ v, e = .returned v ∧ K.Cl 166 [f1, f2] v w' ∧ Bel w w' := by
  go_enter Tryz.func142, Tryz.ntmps142
  go_wp2
  go_ret
  refine ⟨_, rfl, ⟨w.heap.size + 1, w.heap.size, 2, rfl, by go_simp, ?_⟩, Nz.bel⟩
  intro j hj
  rcases (show j = 0 ∨ j = 1 by simp at hj; omega) with rfl | rfl <;> go_simp
theorem takes3_any (f1 f2 f3 : FuncId) (w : World) (T : TypeId) :
    Calls Tryz.prog 142 #[.slice (some ⟨w.heap.size, 0, none⟩) 3 3] (w.alloc (.cells #[.func (.func f1) #[] #[], .func (.func f2) #[] #[], .func (.func f3) #[] #[]] T)) fun e w' => ∃ v, e = .returned v ∧ K.Cl 166 [f1, f2, f3] v w' ∧ Bel w w' := by
  go_enter Tryz.func142, Tryz.ntmps142
  go_wp2
  go_ret
  refine ⟨_, rfl, ⟨w.heap.size + 1, w.heap.size, 3, rfl, by go_simp, ?_⟩, Nz.bel⟩
  intro j hj
  rcases (show j = 0 ∨ j = 1 ∨ j = 2 by simp at hj; omega) with rfl | rfl | rfl <;> go_simp
theorem puts2_any (f1 f2 : FuncId) (w : World) (T : TypeId) :
    Calls Tryz.prog 144 #[.slice (some ⟨w.heap.size, 0, none⟩) 2 2] (w.alloc (.cells #[.func (.func f1) #[] #[], .func (.func f2) #[] #[]] T)) fun e w' => ∃ v, e = .returned v ∧ K.Cl 168 [f1, f2] v w' ∧ Bel w w' := by
  go_enter Tryz.func144, Tryz.ntmps144
  go_wp2
  go_ret
  refine ⟨_, rfl, ⟨w.heap.size + 1, w.heap.size, 2, rfl, by go_simp, ?_⟩, Nz.bel⟩
  intro j hj
  rcases (show j = 0 ∨ j = 1 by simp at hj; omega) with rfl | rfl <;> go_simp
theorem puts3_any (f1 f2 f3 : FuncId) (w : World) (T : TypeId) :
    Calls Tryz.prog 144 #[.slice (some ⟨w.heap.size, 0, none⟩) 3 3] (w.alloc (.cells #[.func (.func f1) #[] #[], .func (.func f2) #[] #[], .func (.func f3) #[] #[]] T)) fun e w' => ∃ v, e = .returned v ∧ K.Cl 168 [f1, f2, f3] v w' ∧ Bel w w' := by
  go_enter Tryz.func144, Tryz.ntmps144
  go_wp2
  go_ret
  refine ⟨_, rfl, ⟨w.heap.size + 1, w.heap.size, 3, rfl, by go_simp, ?_⟩, Nz.bel⟩
  intro j hj
  rcases (show j = 0 ∨ j = 1 ∨ j = 2 by simp at hj; omega) with rfl | rfl | rfl <;> go_simp
def K.lo (k : Nat) : Int := [0, 16, 32, 48, 64, 80, 88, 96, 112, 128, 129].getD k 0
def K.hi (k : Nat) : Int := [4, 21, 46, 62, 78, 86, 94, 109, 113, 128, 130].getD k 0
def K.len (k : Nat) : Int := [1, 2, 2, 3, 6, 3, 7, 2, 5, 2, 2].getD k 0
/-- t and p are the reader and the writer of format k. -/
def K.Fm (k : Nat) (t p : Value) (w : World) : Prop := match k with
  | 0 => t = .func (.func 136) #[] #[] ∧ p = .func (.func 137) #[] #[]
  | 1 => t = .func (.func 138) #[] #[] ∧ p = .func (.func 139) #[] #[]
  | 2 => t = .func (.func 140) #[] #[] ∧ p = .func (.func 141) #[] #[]
  | 3 => K.Cl 166 [138, 143] t w ∧ K.Cl 168 [139, 145] p w
  | 4 => K.Cl 166 [138, 146] t w ∧ K.Cl 168 [139, 147] p w
  | 5 => K.Cl 166 [140, 143] t w ∧ K.Cl 168 [141, 145] p w
  | 6 => K.Cl 166 [140, 148, 146] t w ∧ K.Cl 168 [141, 149, 147] p w
  | 7 => t = .func (.func 143) #[] #[] ∧ p = .func (.func 145) #[] #[]
  | 8 => t = .func (.func 146) #[] #[] ∧ p = .func (.func 147) #[] #[]
  | 9 => t = .func (.func 150) #[] #[] ∧ p = .func (.func 145) #[] #[]
  | 10 => t = .func (.func 140) #[] #[] ∧ p = .func (.func 141) #[] #[]
  | _ => False
theorem K.Fm.bel {k : Nat} {t p : Value} {w w' : World} (h : K.Fm k t p w) (b : Bel w w') : K.Fm k t p w' := by
  unfold K.Fm at *
  split at h <;> first | exact h | exact ⟨h.1.bel b, h.2.bel b⟩
/-- The eleven formats lie at block g. -/
def K.Fms (g : Nat) (ts ps : Nat → Value) (w : World) : Prop := ∀ k, k < 11 → w.cell? ⟨g, k * 5, none⟩ = some (.int .i64 (K.lo k)) ∧ w.cell? ⟨g, k * 5 + 1, none⟩ = some (.int .i64 (K.hi k)) ∧ w.cell? ⟨g, k * 5 + 2, none⟩ = some (.int .i64 (K.len k)) ∧ w.cell? ⟨g, k * 5 + 3, none⟩ = some (ts k) ∧ w.cell? ⟨g, k * 5 + 4, none⟩ = some (ps k) ∧ K.Fm k (ts k) (ps k) w
def K.fmtF (op : Int) : Nat → Nat → Option Nat
  | 0, _ => none
  | m + 1, k => if K.lo k ≤ op ∧ op ≤ K.hi k then some k else K.fmtF op m (k + 1)
/-- The format of a first byte. -/
def K.fmt (op : Int) : Option Nat := K.fmtF op 11 0
/-- What kcode.formats returns. -/
def K.FmtsOK : Prop := ∀ w : World, Calls Tryz.prog 127 #[] w fun e w' => ∃ g ts ps, e = .returned (.slice (some ⟨g, 0, none⟩) 11 11) ∧ K.Fms g ts ps w' ∧ Bel w w'
theorem K.in_one (n a b : Int) : K.inAny n [(a, b)] = (decide (a ≤ n) && decide (n ≤ b)) := by simp [K.inAny]
theorem K.Fm.isf {k : Nat} {t p : Value} {w : World} (h : K.Fm k t p w) : (∃ F cs, t = .func (.func F) #[] cs) ∧ (∃ F cs, p = .func (.func F) #[] cs) := by
  unfold K.Fm K.Cl at h
  split at h <;> first | (obtain ⟨⟨_, _, _, h1, _, _⟩, ⟨_, _, _, h2, _, _⟩⟩ := h; exact ⟨⟨_, _, h1⟩, ⟨_, _, h2⟩⟩) | exact ⟨⟨_, _, h.1⟩, ⟨_, _, h.2⟩⟩ | exact h.elim
theorem Ch.put {g : Nat} {a b : World} (h : Ch (fun x => x = g) a b) (j : Nat) (v : Value) : Ch (fun x => x = g) a (b.setCell ⟨g, j, none⟩ v) := h.setCell (p := ⟨g, j, none⟩) (fun _ => rfl) v
theorem K.Cl.ch {S : Nat → Prop} {F : FuncId} {fs : List FuncId} {v : Value} {w w' : World} (h : K.Cl F fs v w) (k : Ch S w w') (hs : ∀ x, S x → ∃ n, w.cell? ⟨x, 0, none⟩ = some (.int .i64 n)) (hl : 0 < fs.length) : K.Cl F fs v w' := by
  obtain ⟨c, b, cap, e, h1, h2⟩ := h
  refine ⟨c, b, cap, e, (k.cell c 0 (lt_of_cell h1) fun q => ?_).trans h1, fun j hj => (k.cell b j (lt_of_cell (h2 j hj)) fun q => ?_).trans (h2 j hj)⟩
  · obtain ⟨n, hn⟩ := hs _ q; rw [h1] at hn; cases hn
  · obtain ⟨n, hn⟩ := hs _ q; rw [h2 0 hl] at hn; cases hn
theorem K.Fm.ch {S : Nat → Prop} {k : Nat} {t p : Value} {w w' : World} (h : K.Fm k t p w) (b : Ch S w w') (hs : ∀ x, S x → ∃ n, w.cell? ⟨x, 0, none⟩ = some (.int .i64 n)) : K.Fm k t p w' := by
  unfold K.Fm at *
  split at h <;> first | exact h | exact ⟨h.1.ch b hs (by simp), h.2.ch b hs (by simp)⟩
set_option maxHeartbeats 2000000 in
theorem find_of (HF : K.FmtsOK) (op : Int) (w : World) :
    Calls Tryz.prog 106 #[.int .i64 op] w fun e w' => (∃ k t p, k < 11 ∧ K.fmt op = some k ∧ e = .returned (.tuple #[.agg #[.int .i64 (K.lo k), .int .i64 (K.hi k), .int .i64 (K.len k), t, p], .bool true]) ∧ K.Fm k t p w' ∧ Bel w w') ∨
      (K.fmt op = none ∧ e = .returned (.tuple #[.agg #[.int .i64 0, .int .i64 0, .int .i64 0, .nilFunc, .nilFunc], .bool false]) ∧ Bel w w') := by
  have HI := hid (show K.fmt op = K.fmtF op 11 0 from rfl)
  go_enter Tryz.func106, Tryz.ntmps106
  go_wp2_with (go_at_call 127; refine (HF _).mono ?_; rintro e w1 ⟨g, ts, ps, rfl, hf, hb⟩)
  have hb0 : Bel w w1 := Bel.trans (Bel.alloc (Bel.refl _) _) hb
  go_loopw [8] (fun i wr => ∃ j : Nat, j ≤ 11 ∧ i = .int .i64 j ∧ Hid (K.fmt op = K.fmtF op (11 - j) j) ∧ Bel w1 wr) (fun i _ => 11 - (intOf i).toNat)
  case atStart => exact ⟨0, by omega, rfl, HI, Bel.refl _⟩
  case round =>
    clear HI
    obtain ⟨j, hj, rfl, HI, hbr⟩ := hrel
    have hbb := hb.trans hbr
    have z0 := Bel.at hbb (ad := ⟨w.heap.size, 0, none⟩) (v := .int .i64 0) (by go_simp)
    have z1 := Bel.at hbb (ad := ⟨w.heap.size, 1, none⟩) (v := .int .i64 0) (by go_simp)
    have z2 := Bel.at hbb (ad := ⟨w.heap.size, 2, none⟩) (v := .int .i64 0) (by go_simp)
    have z3 := Bel.at hbb (ad := ⟨w.heap.size, 3, none⟩) (v := .nilFunc) (by go_simp)
    have z4 := Bel.at hbb (ad := ⟨w.heap.size, 4, none⟩) (v := .nilFunc) (by go_simp)
    have zf : ∀ j, wr.frozen? ⟨w.heap.size, j, none⟩ = false := fun j => by rw [hbb.frozen _ _ (by simp)]; go_simp
    have hlt : w.heap.size < wr.heap.size := by have := hbb.size; simp at this; omega
    by_cases c1 : j < 11
    · obtain ⟨a0, a1, a2, a3, a4, a5⟩ := hf j c1
      have e0 := Bel.at hbr a0
      have e1 := Bel.at hbr a1
      have e2 := Bel.at hbr a2
      have e3 := Bel.at hbr a3
      have e4 := Bel.at hbr a4
      have HS : Hid (K.fmtF op (11 - j) j = if K.lo j ≤ op ∧ op ≤ K.hi j then some j else K.fmtF op (11 - (j + 1)) (j + 1)) := hid (by rw [show 11 - j = 11 - (j + 1) + 1 by omega]; rfl)
      obtain ⟨⟨F1, cs1, ht⟩, ⟨F2, cs2, hp⟩⟩ := a5.isf
      rw [ht] at e3; rw [hp] at e4; rw [ht, hp] at a5
      have HFm := hid (a5.bel hbr)
      clear ht hp a0 a1 a2 a3 a4 a5 hf
      cases hin : K.inAny op [(K.lo j, K.hi j)]
      · have HR : Hid (K.fmt op = K.fmtF op (11 - (j + 1)) (j + 1)) := hid (by
          rw [K.in_one] at hin
          rw [HI.out, HS.out, if_neg (by simp at hin; omega)])
        generalize K.lo j = lo at *
        generalize K.hi j = hi at *
        generalize K.len j = ln at *
        go_wp2_with (go_at_call 128; refine (within_any op _ 0 1 [(lo, hi)] (by simp) _ (fun i hi => ?_) (fun i hi => ?_)).mono ?_; (obtain rfl : i = 0 := by simpa using hi); go_simp; (obtain rfl : i = 0 := by simpa using hi); go_simp; rintro e w2 ⟨rfl, hb2⟩)
        go_roundw
        case rel => exact ⟨j + 1, by omega, by go_num, HR, Nz.bel⟩
        case measure => simp [intOf]; omega
      · have HR : Hid (K.fmt op = some j) := hid (by
          rw [K.in_one] at hin
          rw [HI.out, HS.out, if_pos (by simpa using hin)])
        have HL : Hid (∀ x, Ending.returned x = Ending.returned x) := hid fun _ => rfl
        generalize hlo : K.lo j = lo at *
        generalize hhi : K.hi j = hi at *
        generalize hln : K.len j = ln at *
        have HLO := hid hlo; have HHI := hid hhi; have HLN := hid hln
        clear hlo hhi hln
        go_wp2_with (go_at_call 128; refine (within_any op _ 0 1 [(lo, hi)] (by simp) _ (fun i hi => ?_) (fun i hi => ?_)).mono ?_; (obtain rfl : i = 0 := by simpa using hi); go_simp; (obtain rfl : i = 0 := by simpa using hi); go_simp; rintro e w2 ⟨rfl, hb2⟩; have y0 := Bel.at hb2 (ad := ⟨wr.heap.size, 0, none⟩) (v := .int .i64 lo) (by first | assumption | (go_simp)); have y1 := Bel.at hb2 (ad := ⟨wr.heap.size, 1, none⟩) (v := .int .i64 hi) (by first | assumption | (go_simp)); have y2 := Bel.at hb2 (ad := ⟨wr.heap.size, 2, none⟩) (v := .int .i64 ln) (by first | assumption | (go_simp)); have y3 := Bel.at hb2 (ad := ⟨wr.heap.size, 3, none⟩) (v := .func (.func F1) #[] cs1) (by first | assumption | (go_simp)); have y4 := Bel.at hb2 (ad := ⟨wr.heap.size, 4, none⟩) (v := .func (.func F2) #[] cs2) (by first | assumption | (go_simp)); have x0 := Bel.at hb2 (ad := ⟨w.heap.size, 0, none⟩) (v := .int .i64 0) (by first | assumption | (go_simp)); have x1 := Bel.at hb2 (ad := ⟨w.heap.size, 1, none⟩) (v := .int .i64 0) (by first | assumption | (go_simp)); have x2 := Bel.at hb2 (ad := ⟨w.heap.size, 2, none⟩) (v := .int .i64 0) (by first | assumption | (go_simp)); have x3 := Bel.at hb2 (ad := ⟨w.heap.size, 3, none⟩) (v := .nilFunc) (by first | assumption | (go_simp)); have x4 := Bel.at hb2 (ad := ⟨w.heap.size, 4, none⟩) (v := .nilFunc) (by first | assumption | (go_simp)); have xf : ∀ j, w2.frozen? ⟨w.heap.size, j, none⟩ = false := fun j => by rw [hb2.frozen _ _ (by simp; omega)]; go_simp)
        have HFm2 := HFm.out.bel (show Bel wr w2 from Nz.bel)
        have hbw : Bel w w2 := Nz.bel
        refine bodyPost_ret (v := .tuple #[.agg #[.int .i64 lo, .int .i64 hi, .int .i64 ln, .func (.func F1) #[] cs1, .func (.func F2) #[] cs2], .bool true]) (by simp [results, Tryz.results106, go_sem, x0, x1, x2, x3, x4]) rfl (.inl ⟨j, _, _, c1, HR.out, by rw [HLO.out, HHI.out, HLN.out], ?_, ?_⟩)
        · refine HFm2.ch (S := fun x => x = w.heap.size) (by repeat (first | refine Ch.put ?_ _ _ | exact Ch.refl _ _)) (by rintro x rfl; exact ⟨_, x0⟩)
        · repeat (first | refine Bel.setCell ?_ (Nat.le_refl _) _ | exact hbw)
    · have HR : Hid (K.fmt op = none) := hid (by rw [HI.out, show 11 - j = 0 by omega]; rfl)
      clear hf
      go_wp2
      refine bodyPost_ret (v := .tuple #[.agg #[.int .i64 0, .int .i64 0, .int .i64 0, .nilFunc, .nilFunc], .bool false]) (by simp [results, Tryz.results106, go_sem, z0, z1, z2, z3, z4]) rfl (.inr ⟨HR.out, rfl, ?_⟩)
      repeat (first | refine Bel.setCell ?_ (Nat.le_refl _) _ | exact hb0.trans hbr)
theorem takes2_c (f1 f2 : FuncId) (w : World) (T : TypeId) :
    Calls Tryz.prog 142 #[.slice (some ⟨w.heap.size, 0, none⟩) 2 2] (w.alloc (.cells #[.func (.func f1) #[] #[], .func (.func f2) #[] #[]] T)) fun e w' => ∃ c, e = .returned (.func (.func 166) #[] #[.pointer (some ⟨c, 0, none⟩)]) ∧ K.Cl 166 [f1, f2] (.func (.func 166) #[] #[.pointer (some ⟨c, 0, none⟩)]) w' ∧ Bel w w' :=
  (takes2_any f1 f2 w T).mono fun e w' ⟨v, he, ⟨c, h, cap, hv, h1, h2⟩, hb⟩ => ⟨c, by rw [he, hv], ⟨c, h, cap, rfl, h1, h2⟩, hb⟩
theorem puts2_c (f1 f2 : FuncId) (w : World) (T : TypeId) :
    Calls Tryz.prog 144 #[.slice (some ⟨w.heap.size, 0, none⟩) 2 2] (w.alloc (.cells #[.func (.func f1) #[] #[], .func (.func f2) #[] #[]] T)) fun e w' => ∃ c, e = .returned (.func (.func 168) #[] #[.pointer (some ⟨c, 0, none⟩)]) ∧ K.Cl 168 [f1, f2] (.func (.func 168) #[] #[.pointer (some ⟨c, 0, none⟩)]) w' ∧ Bel w w' :=
  (puts2_any f1 f2 w T).mono fun e w' ⟨v, he, ⟨c, h, cap, hv, h1, h2⟩, hb⟩ => ⟨c, by rw [he, hv], ⟨c, h, cap, rfl, h1, h2⟩, hb⟩
theorem takes3_c (f1 f2 f3 : FuncId) (w : World) (T : TypeId) :
    Calls Tryz.prog 142 #[.slice (some ⟨w.heap.size, 0, none⟩) 3 3] (w.alloc (.cells #[.func (.func f1) #[] #[], .func (.func f2) #[] #[], .func (.func f3) #[] #[]] T)) fun e w' => ∃ c, e = .returned (.func (.func 166) #[] #[.pointer (some ⟨c, 0, none⟩)]) ∧ K.Cl 166 [f1, f2, f3] (.func (.func 166) #[] #[.pointer (some ⟨c, 0, none⟩)]) w' ∧ Bel w w' :=
  (takes3_any f1 f2 f3 w T).mono fun e w' ⟨v, he, ⟨c, h, cap, hv, h1, h2⟩, hb⟩ => ⟨c, by rw [he, hv], ⟨c, h, cap, rfl, h1, h2⟩, hb⟩
theorem puts3_c (f1 f2 f3 : FuncId) (w : World) (T : TypeId) :
    Calls Tryz.prog 144 #[.slice (some ⟨w.heap.size, 0, none⟩) 3 3] (w.alloc (.cells #[.func (.func f1) #[] #[], .func (.func f2) #[] #[], .func (.func f3) #[] #[]] T)) fun e w' => ∃ c, e = .returned (.func (.func 168) #[] #[.pointer (some ⟨c, 0, none⟩)]) ∧ K.Cl 168 [f1, f2, f3] (.func (.func 168) #[] #[.pointer (some ⟨c, 0, none⟩)]) w' ∧ Bel w w' :=
  (puts3_any f1 f2 f3 w T).mono fun e w' ⟨v, he, ⟨c, h, cap, hv, h1, h2⟩, hb⟩ => ⟨c, by rw [he, hv], ⟨c, h, cap, rfl, h1, h2⟩, hb⟩
theorem cell_new (w : World) (cs : Array Value) (T : TypeId) (j : Nat) (v : Value) (h : cs[j]? = some v) : (w.alloc (.cells cs T)).cell? ⟨w.heap.size, j, none⟩ = some v := by
  rw [← h]; unfold World.cell? World.alloc; simp
set_option maxHeartbeats 2000000 in
theorem formats_any : K.FmtsOK := by
  intro w
  go_enter Tryz.func127, Tryz.ntmps127
  go_wp2_with fail
  refine (takes2_c _ _ _ _).mono ?_
  rintro e w1 ⟨c1, rfl, hv1, hb1⟩
  have H1 := hid hv1; have B1 := hid hb1; clear hv1 hb1
  go_wp2_with fail
  refine (puts2_c _ _ _ _).mono ?_
  rintro e w2 ⟨c2, rfl, hv2, hb2⟩
  have H2 := hid hv2; have B2 := hid hb2; clear hv2 hb2
  go_wp2_with fail
  refine (takes2_c _ _ _ _).mono ?_
  rintro e w3 ⟨c3, rfl, hv3, hb3⟩
  have H3 := hid hv3; have B3 := hid hb3; clear hv3 hb3
  go_wp2_with fail
  refine (puts2_c _ _ _ _).mono ?_
  rintro e w4 ⟨c4, rfl, hv4, hb4⟩
  have H4 := hid hv4; have B4 := hid hb4; clear hv4 hb4
  go_wp2_with fail
  refine (takes2_c _ _ _ _).mono ?_
  rintro e w5 ⟨c5, rfl, hv5, hb5⟩
  have H5 := hid hv5; have B5 := hid hb5; clear hv5 hb5
  go_wp2_with fail
  refine (puts2_c _ _ _ _).mono ?_
  rintro e w6 ⟨c6, rfl, hv6, hb6⟩
  have H6 := hid hv6; have B6 := hid hb6; clear hv6 hb6
  go_wp2_with fail
  refine (takes3_c _ _ _ _ _).mono ?_
  rintro e w7 ⟨c7, rfl, hv7, hb7⟩
  have H7 := hid hv7; have B7 := hid hb7; clear hv7 hb7
  go_wp2_with fail
  refine (puts3_c _ _ _ _ _).mono ?_
  rintro e w8 ⟨c8, rfl, hv8, hb8⟩
  have H8 := hid hv8; have B8 := hid hb8; clear hv8 hb8
  go_wp2_with fail
  go_ret
  refine ⟨w8.heap.size, fun k => [.func (.func 136) #[] #[], .func (.func 138) #[] #[], .func (.func 140) #[] #[], .func (.func 166) #[] #[.pointer (some ⟨c1, 0, none⟩)], .func (.func 166) #[] #[.pointer (some ⟨c3, 0, none⟩)], .func (.func 166) #[] #[.pointer (some ⟨c5, 0, none⟩)], .func (.func 166) #[] #[.pointer (some ⟨c7, 0, none⟩)], .func (.func 143) #[] #[], .func (.func 146) #[] #[], .func (.func 150) #[] #[], .func (.func 140) #[] #[]].getD k .nilFunc, fun k => [.func (.func 137) #[] #[], .func (.func 139) #[] #[], .func (.func 141) #[] #[], .func (.func 168) #[] #[.pointer (some ⟨c2, 0, none⟩)], .func (.func 168) #[] #[.pointer (some ⟨c4, 0, none⟩)], .func (.func 168) #[] #[.pointer (some ⟨c6, 0, none⟩)], .func (.func 168) #[] #[.pointer (some ⟨c8, 0, none⟩)], .func (.func 145) #[] #[], .func (.func 147) #[] #[], .func (.func 145) #[] #[], .func (.func 141) #[] #[]].getD k .nilFunc, rfl, ?_, ?_⟩
  · have b8 : ∀ o, Bel w8 (w8.alloc o) := fun o => Bel.alloc (Bel.refl _) o
    have b7 := fun o => B8.out.trans (b8 o)
    have b6 := fun o => B7.out.trans (b7 o)
    have b5 := fun o => B6.out.trans (b6 o)
    have b4 := fun o => B5.out.trans (b5 o)
    have b3 := fun o => B4.out.trans (b4 o)
    have b2 := fun o => B3.out.trans (b3 o)
    have b1 := fun o => B2.out.trans (b2 o)
    intro k hk
    rcases (by omega : k = 0 ∨ k = 1 ∨ k = 2 ∨ k = 3 ∨ k = 4 ∨ k = 5 ∨ k = 6 ∨ k = 7 ∨ k = 8 ∨ k = 9 ∨ k = 10) with rfl | rfl | rfl | rfl | rfl | rfl | rfl | rfl | rfl | rfl | rfl
    · exact ⟨cell_new _ _ _ _ _ rfl, cell_new _ _ _ _ _ rfl, cell_new _ _ _ _ _ rfl, cell_new _ _ _ _ _ rfl, cell_new _ _ _ _ _ rfl, ⟨rfl, rfl⟩⟩
    · exact ⟨cell_new _ _ _ _ _ rfl, cell_new _ _ _ _ _ rfl, cell_new _ _ _ _ _ rfl, cell_new _ _ _ _ _ rfl, cell_new _ _ _ _ _ rfl, ⟨rfl, rfl⟩⟩
    · exact ⟨cell_new _ _ _ _ _ rfl, cell_new _ _ _ _ _ rfl, cell_new _ _ _ _ _ rfl, cell_new _ _ _ _ _ rfl, cell_new _ _ _ _ _ rfl, ⟨rfl, rfl⟩⟩
    · exact ⟨cell_new _ _ _ _ _ rfl, cell_new _ _ _ _ _ rfl, cell_new _ _ _ _ _ rfl, cell_new _ _ _ _ _ rfl, cell_new _ _ _ _ _ rfl, ⟨H1.out.bel (b1 _), H2.out.bel (b2 _)⟩⟩
    · exact ⟨cell_new _ _ _ _ _ rfl, cell_new _ _ _ _ _ rfl, cell_new _ _ _ _ _ rfl, cell_new _ _ _ _ _ rfl, cell_new _ _ _ _ _ rfl, ⟨H3.out.bel (b3 _), H4.out.bel (b4 _)⟩⟩
    · exact ⟨cell_new _ _ _ _ _ rfl, cell_new _ _ _ _ _ rfl, cell_new _ _ _ _ _ rfl, cell_new _ _ _ _ _ rfl, cell_new _ _ _ _ _ rfl, ⟨H5.out.bel (b5 _), H6.out.bel (b6 _)⟩⟩
    · exact ⟨cell_new _ _ _ _ _ rfl, cell_new _ _ _ _ _ rfl, cell_new _ _ _ _ _ rfl, cell_new _ _ _ _ _ rfl, cell_new _ _ _ _ _ rfl, ⟨H7.out.bel (b7 _), H8.out.bel (b8 _)⟩⟩
    · exact ⟨cell_new _ _ _ _ _ rfl, cell_new _ _ _ _ _ rfl, cell_new _ _ _ _ _ rfl, cell_new _ _ _ _ _ rfl, cell_new _ _ _ _ _ rfl, ⟨rfl, rfl⟩⟩
    · exact ⟨cell_new _ _ _ _ _ rfl, cell_new _ _ _ _ _ rfl, cell_new _ _ _ _ _ rfl, cell_new _ _ _ _ _ rfl, cell_new _ _ _ _ _ rfl, ⟨rfl, rfl⟩⟩
    · exact ⟨cell_new _ _ _ _ _ rfl, cell_new _ _ _ _ _ rfl, cell_new _ _ _ _ _ rfl, cell_new _ _ _ _ _ rfl, cell_new _ _ _ _ _ rfl, ⟨rfl, rfl⟩⟩
    · exact ⟨cell_new _ _ _ _ _ rfl, cell_new _ _ _ _ _ rfl, cell_new _ _ _ _ _ rfl, cell_new _ _ _ _ _ rfl, cell_new _ _ _ _ _ rfl, ⟨rfl, rfl⟩⟩
  · exact (((((((B1.out.trans B2.out).trans B3.out).trans B4.out).trans B5.out).trans B6.out).trans B7.out).trans B8.out).alloc _
theorem Ch.kept1 {ga g j : Nat} {a b : World} {v : Value} (k : Ch (fun x => x = ga) a b) (h : g ≠ ga) (hc : a.cell? ⟨g, j, none⟩ = some v) : b.cell? ⟨g, j, none⟩ = some v := (k.cell g j (lt_of_cell hc) h).trans hc
theorem Ki.new (x : World) : Ki x.heap.size ⟨0, 0, 0, 0, 0, 0, 0⟩ (x.alloc (.cells #[.int .i64 0, .int .i64 0, .int .i64 0, .int .i64 0, .int .i64 0, .int .u32 0, .int .i64 0] 66)) := ⟨by go_simp, by go_simp, by go_simp, by go_simp, by go_simp, by go_simp, by go_simp, fun j => by go_simp⟩
theorem Ki.new7 (x : World) (i : K.Ins) : Ki x.heap.size i (x.alloc (.cells #[.int .i64 i.op, .int .i64 i.d, .int .i64 i.s, .int .i64 i.ix, .int .i64 i.sc, .int .u32 i.imm, .int .i64 i.sz] 66)) := ⟨by go_simp, by go_simp, by go_simp, by go_simp, by go_simp, by go_simp, by go_simp, fun j => by go_simp⟩
theorem Ki.put7 {g : Nat} {i : K.Ins} {w : World} (h : Ki g i w) (k : K.Ins) : Ki g k (((((((w.setCell ⟨g, 0, none⟩ (.int .i64 k.op)).setCell ⟨g, 1, none⟩ (.int .i64 k.d)).setCell ⟨g, 2, none⟩ (.int .i64 k.s)).setCell ⟨g, 3, none⟩ (.int .i64 k.ix)).setCell ⟨g, 4, none⟩ (.int .i64 k.sc)).setCell ⟨g, 5, none⟩ (.int .u32 k.imm)).setCell ⟨g, 6, none⟩ (.int .i64 k.sz)) := by
  obtain ⟨c0, c1, c2, c3, c4, c5, c6, fz⟩ := h
  have hh : ∀ {x : World} {j j' : Nat} {v : Value} {u : Value}, j ≠ j' → x.cell? ⟨g, j', none⟩ = some u → (x.setCell ⟨g, j, none⟩ v).cell? ⟨g, j', none⟩ = some u := fun hn hc => (other_cell _ _ (.inr hn)).trans hc
  have s0 := cell_set (v := .int .i64 k.op) c0
  have s1 := cell_set (v := .int .i64 k.d) (hh (v := .int .i64 k.op) (show 0 ≠ 1 by decide) c1)
  refine ⟨?_, ?_, ?_, ?_, ?_, ?_, ?_, fun j => by simp only [frozen_set]; exact fz j⟩
  · exact hh (by decide) (hh (by decide) (hh (by decide) (hh (by decide) (hh (by decide) (hh (by decide) (cell_set c0))))))
  · exact hh (by decide) (hh (by decide) (hh (by decide) (hh (by decide) (hh (by decide) (cell_set (hh (by decide) c1))))))
  · exact hh (by decide) (hh (by decide) (hh (by decide) (hh (by decide) (cell_set (hh (by decide) (hh (by decide) c2))))))
  · exact hh (by decide) (hh (by decide) (hh (by decide) (cell_set (hh (by decide) (hh (by decide) (hh (by decide) c3))))))
  · exact hh (by decide) (hh (by decide) (cell_set (hh (by decide) (hh (by decide) (hh (by decide) (hh (by decide) c4))))))
  · exact hh (by decide) (cell_set (hh (by decide) (hh (by decide) (hh (by decide) (hh (by decide) (hh (by decide) c5))))))
  · exact cell_set (hh (by decide) (hh (by decide) (hh (by decide) (hh (by decide) (hh (by decide) (hh (by decide) c6))))))
theorem Ch.undrew {S : Nat → Prop} {a b : World} (h : Ch S a.drew b) : Ch S a b := ⟨h.os, h.tape, h.output, h.size, h.block⟩
theorem Ch.unalloc {S : Nat → Prop} {a b : World} {o : Obj} (h : Ch S (a.alloc o) b) : Ch S a b := ((Bel.alloc (Bel.refl a) o).ch S).trans h
theorem Ch.at_new {ga g j : Nat} {a b : World} {v : Value} (h : Ch (fun x => x = ga) a b) (hg : a.heap.size ≤ g) : Ch (fun x => x = ga) a (b.setCell ⟨g, j, none⟩ v) := h.setCell (p := ⟨g, j, none⟩) (fun hl => absurd hl (Nat.not_lt.2 hg)) v
set_option maxHeartbeats 2000000 in
theorem read_of (lo hi sz : Int) (F G : FuncId) (cs ds : Array Value) (s : ByteArray) (j : K.Ins) (w : World) (hs : s.size ≤ maxLen) (h0 : 0 < s.size) (HE : ∀ (args : Array Value) (w : World), (callFunc F args).run Tryz.prog w = .ok (.enter F args) w)
    (HT : ∀ (ga gs gi : Nat) (wx : World), Rd ga gs s 1 wx → Ki gi ⟨W.byt s.data.toList 0, 0, 0, -1, 0, 0, sz⟩ wx → ga ≠ gi → gs ≠ gi → w.heap.size ≤ ga → w.heap.size ≤ gi → Bel w wx →
      Calls Tryz.prog F (#[.func (.func 129) #[] #[.pointer (some ⟨ga, 0, none⟩), .pointer (some ⟨gs, 0, none⟩)], .pointer (some ⟨gi, 0, none⟩)] ++ cs) wx fun e w' => e = .returned (.tuple #[]) ∧ Ki gi j w' ∧ Ch (fun x => x = ga ∨ x = gi) wx w') :
    Calls Tryz.prog 107 #[.agg #[.int .i64 lo, .int .i64 hi, .int .i64 sz, .func (.func F) #[] cs, .func (.func G) #[] ds], .string s] w fun e w' => e = .returned (.agg #[.int .i64 j.op, .int .i64 j.d, .int .i64 j.s, .int .i64 j.ix, .int .i64 j.sc, .int .u32 j.imm, .int .i64 j.sz]) ∧ Bel w w' := by
  go_enter Tryz.func107, Tryz.ntmps107
  go_upto_region 3 with fail
  obtain ⟨ga, hga⟩ : ∃ x, x = w.heap.size + 1 + 1 + 1 := ⟨_, rfl⟩
  obtain ⟨gs, hgs⟩ : ∃ x, x = w.heap.size + 1 := ⟨_, rfl⟩
  obtain ⟨gr, hgr⟩ : ∃ x, x = w.heap.size + 1 + 1 := ⟨_, rfl⟩
  have hi1 : w.heap.size ≠ ga := by omega
  have hi2 : gs ≠ ga := by omega
  have hi3 : gr ≠ ga := by omega
  have hi4 : gr ≠ gs := by omega
  have hi5 : w.heap.size ≤ ga := by omega
  have hi6 : w.heap.size ≤ gr := by omega
  have R0 : Rd (w.heap.size + 1 + 1 + 1) (w.heap.size + 1) s 0 ((((w.alloc (.cells #[.int .i64 lo, .int .i64 hi, .int .i64 sz, .func (.func F) #[] cs, .func (.func G) #[] ds] 174)).alloc (.cells #[.string s] 9)).alloc (.cells #[.int .i64 0, .int .i64 0, .int .i64 0, .int .i64 0, .int .i64 0, .int .u32 0, .int .i64 0] 66)).alloc (.cells #[.int .i64 0] 3)) := ⟨by go_simp, by go_simp, by go_simp, by omega⟩
  have Q0 : Ki (w.heap.size + 1 + 1) ⟨0, 0, 0, 0, 0, 0, 0⟩ ((((w.alloc (.cells #[.int .i64 lo, .int .i64 hi, .int .i64 sz, .func (.func F) #[] cs, .func (.func G) #[] ds] 174)).alloc (.cells #[.string s] 9)).alloc (.cells #[.int .i64 0, .int .i64 0, .int .i64 0, .int .i64 0, .int .i64 0, .int .u32 0, .int .i64 0] 66)).alloc (.cells #[.int .i64 0] 3)) := ⟨by go_simp, by go_simp, by go_simp, by go_simp, by go_simp, by go_simp, by go_simp, fun j => by go_simp⟩
  have B2 : ((((w.alloc (.cells #[.int .i64 lo, .int .i64 hi, .int .i64 sz, .func (.func F) #[] cs, .func (.func G) #[] ds] 174)).alloc (.cells #[.string s] 9)).alloc (.cells #[.int .i64 0, .int .i64 0, .int .i64 0, .int .i64 0, .int .i64 0, .int .u32 0, .int .i64 0] 66)).alloc (.cells #[.int .i64 0] 3)).cell? ⟨w.heap.size, 2, none⟩ = some (.int .i64 sz) := by go_simp
  have B3 : ((((w.alloc (.cells #[.int .i64 lo, .int .i64 hi, .int .i64 sz, .func (.func F) #[] cs, .func (.func G) #[] ds] 174)).alloc (.cells #[.string s] 9)).alloc (.cells #[.int .i64 0, .int .i64 0, .int .i64 0, .int .i64 0, .int .i64 0, .int .u32 0, .int .i64 0] 66)).alloc (.cells #[.int .i64 0] 3)).cell? ⟨w.heap.size, 3, none⟩ = some (.func (.func F) #[] cs) := by go_simp
  have hb : Bel w ((((w.alloc (.cells #[.int .i64 lo, .int .i64 hi, .int .i64 sz, .func (.func F) #[] cs, .func (.func G) #[] ds] 174)).alloc (.cells #[.string s] 9)).alloc (.cells #[.int .i64 0, .int .i64 0, .int .i64 0, .int .i64 0, .int .i64 0, .int .u32 0, .int .i64 0] 66)).alloc (.cells #[.int .i64 0] 3)) := Nz.bel
  generalize ((((w.alloc (.cells #[.int .i64 lo, .int .i64 hi, .int .i64 sz, .func (.func F) #[] cs, .func (.func G) #[] ds] 174)).alloc (.cells #[.string s] 9)).alloc (.cells #[.int .i64 0, .int .i64 0, .int .i64 0, .int .i64 0, .int .i64 0, .int .u32 0, .int .i64 0] 66)).alloc (.cells #[.int .i64 0] 3)) = wA at *
  rw [← hga, ← hgr, ← hgs] at *
  have hA : ga < wA.heap.size := lt_of_cell R0.at'
  have hS : gs < wA.heap.size := lt_of_cell R0.str
  have hR : gr < wA.heap.size := lt_of_cell Q0.c0
  have hF : w.heap.size < wA.heap.size := lt_of_cell B2
  have hwr : IntKind.i64.wrap (W.byt s.data.toList 0) = W.byt s.data.toList 0 := IntWalk.i64_in _ (by have := W.byt_bd s.data.toList 0; omega)
  have hgB : ga ≠ wA.heap.size := by omega
  have hgC : gs ≠ wA.heap.size := by omega
  have hgA : ¬ wA.heap.size = ga := by omega
  clear hga hgr hgs
  have B2d : ∀ o, (wA.drew.alloc o).cell? ⟨w.heap.size, 2, none⟩ = some (.int .i64 sz) := fun o => Bel.at (Bel.alloc (Bel.drew (Bel.refl _)) o) B2
  have B2e : wA.drew.cell? ⟨w.heap.size, 2, none⟩ = some (.int .i64 sz) := Bel.at (Bel.drew (Bel.refl _)) B2
  go_cut [7] from 9 to 14 (fun s7 wx => ∃ gi, s7 = .pointer (some ⟨gi, 0, none⟩) ∧ wA.heap.size ≤ gi ∧ Rd ga gs s 1 wx ∧ Ki gi ⟨W.byt s.data.toList 0, 0, 0, -1, 0, 0, sz⟩ wx ∧ Ch (fun x => x = ga) wA wx)
  case first =>
    go_region_with (go_at_call 129; refine (next_any _ _ _ 0 _ ?_ h0 hs).mono ?_; (first | exact R0 | exact R0.bel (Bel.alloc (Bel.drew (Bel.refl _)) _) | exact R0.bel (Bel.alloc (Bel.refl _) _) | exact R0.bel (Bel.drew (Bel.refl _))); rintro e w2 ⟨rfl, hr1, hch⟩; (first | (have B2' : w2.cell? ⟨w.heap.size, 2, none⟩ = some (.int .i64 sz) := Ch.kept1 hch hi1 B2) | (have B2' : w2.cell? ⟨w.heap.size, 2, none⟩ = some (.int .i64 sz) := Ch.kept1 hch hi1 (Bel.at (Bel.alloc (Bel.refl _) _) B2)) | (have B2' : w2.cell? ⟨w.heap.size, 2, none⟩ = some (.int .i64 sz) := Ch.kept1 hch hi1 (Bel.at (Bel.drew (Bel.refl _)) B2)) | (have B2' : w2.cell? ⟨w.heap.size, 2, none⟩ = some (.int .i64 sz) := Ch.kept1 hch hi1 (Bel.at (Bel.alloc (Bel.drew (Bel.refl _)) _) B2))); have B2'' : ∀ o, (w2.alloc o).cell? ⟨w.heap.size, 2, none⟩ = some (.int .i64 sz) := (fun o => Bel.at (Bel.alloc (Bel.refl _) o) B2'); try (obtain ⟨A0, A1, A2, A3, A4, A5, A6, AF⟩ := (show Ki wA.heap.size _ (wA.drew.alloc _) from Ki.new wA.drew).ch hch hgA))
    all_goals
      go_wp2_with fail
      go_meet
      first
        | exact ⟨w2.heap.size, rfl, hch.size, hr1.bel (Bel.alloc (Bel.refl _) _), Ki.new7 w2 ⟨W.byt s.data.toList 0, 0, 0, -1, 0, 0, sz⟩, hch.undrew.alloc _⟩
        | exact ⟨wA.heap.size, rfl, Nat.le_refl _, ((((((hr1.set hgB hgC).set hgB hgC).set hgB hgC).set hgB hgC).set hgB hgC).set hgB hgC).set hgB hgC, Ki.put7 (i := ⟨0, 0, 0, 0, 0, 0, 0⟩) ⟨A0, A1, A2, A3, A4, A5, A6, AF⟩ ⟨W.byt s.data.toList 0, 0, 0, -1, 0, 0, sz⟩, ((((((hch.unalloc.undrew.at_new (Nat.le_refl _)).at_new (Nat.le_refl _)).at_new (Nat.le_refl _)).at_new (Nat.le_refl _)).at_new (Nat.le_refl _)).at_new (Nat.le_refl _)).at_new (Nat.le_refl _)⟩
  case rest =>
    obtain ⟨gi, rfl, hgi, hr, hk, hch⟩ := hcut
    have b3 := Ch.kept1 hch hi1 B3
    have Q1 := Q0.ch hch hi3
    have hbc : Bel w wc := Bel.then hb hch (by rintro x rfl; exact hi5)
    have n1 : ga ≠ gi := by omega
    have n2 : gs ≠ gi := by omega
    have n3 : ¬ (gr = ga ∨ gr = gi) := by omega
    have n4 : w.heap.size ≤ gi := by omega
    clear B2 B3 B2d B2e R0 Q0 hgA hgB hgC hA hS hR hF hb hch
    go_wp2_with (refine (HT ga gs gi wc hr hk n1 n2 hi5 n4 hbc).mono ?_; rintro e w3 ⟨rfl, hk3, hch3⟩; obtain ⟨q0, q1, q2, q3, q4, q5, q6, qf⟩ := hk3; obtain ⟨r0, r1, r2, r3, r4, r5, r6, rf⟩ := Q1.ch hch3 n3)
    have hb3 : Bel w w3 := Bel.then hbc hch3 (fun x hx => hx.elim (fun e => e ▸ hi5) (fun e => e ▸ n4))
    refine bodyPost_ret (v := .agg #[.int .i64 j.op, .int .i64 j.d, .int .i64 j.s, .int .i64 j.ix, .int .i64 j.sc, .int .u32 j.imm, .int .i64 j.sz]) (by simp [results, Tryz.results107, go_sem, r0, r1, r2, r3, r4, r5, r6]) rfl ⟨rfl, ?_⟩
    repeat (first | refine Bel.setCell ?_ hi6 _ | exact hb3)
def K.t_plain (l : List UInt8) (n : Nat) (i : K.Ins) : K.Ins := { i with imm := W.byt l n }
theorem plain_t : TakeOK 150 1 K.t_plain := plain_ok
def K.t_none (l : List UInt8) (n : Nat) (i : K.Ins) : K.Ins := i
theorem none_t : TakeOK 136 0 K.t_none := none_ok
def K.i0 (l : List UInt8) (sz : Int) : K.Ins := ⟨W.byt l 0, 0, 0, -1, 0, 0, sz⟩
/-- The instruction that format k reads. -/
def K.rd (k : Nat) (l : List UInt8) (sz : Int) : K.Ins := match k with
  | 0 => K.t_none l 1 (K.i0 l sz)
  | 1 => K.t_reg l 1 (K.i0 l sz)
  | 2 => K.t_pair l 1 (K.i0 l sz)
  | 3 => (K.t_small l (1 + 1) (K.t_reg l (1 + 0) (K.i0 l sz)))
  | 4 => (K.t_full l (1 + 1) (K.t_reg l (1 + 0) (K.i0 l sz)))
  | 5 => (K.t_small l (1 + 1) (K.t_pair l (1 + 0) (K.i0 l sz)))
  | 6 => (K.t_full l (1 + 2) (K.t_index l (1 + 1) (K.t_pair l (1 + 0) (K.i0 l sz))))
  | 7 => K.t_small l 1 (K.i0 l sz)
  | 8 => K.t_full l 1 (K.i0 l sz)
  | 9 => K.t_plain l 1 (K.i0 l sz)
  | 10 => K.t_pair l 1 (K.i0 l sz)
  | _ => K.i0 l sz
theorem K.enter_full (args : Array Value) (w : World) : (callFunc 146 args).run Tryz.prog w = .ok (.enter 146 args) w := by go_simp
theorem K.enter_none (args : Array Value) (w : World) : (callFunc 136 args).run Tryz.prog w = .ok (.enter 136 args) w := by go_simp
theorem K.enter_pair (args : Array Value) (w : World) : (callFunc 140 args).run Tryz.prog w = .ok (.enter 140 args) w := by go_simp
theorem K.enter_plain (args : Array Value) (w : World) : (callFunc 150 args).run Tryz.prog w = .ok (.enter 150 args) w := by go_simp
theorem K.enter_reg (args : Array Value) (w : World) : (callFunc 138 args).run Tryz.prog w = .ok (.enter 138 args) w := by go_simp
theorem K.enter_small (args : Array Value) (w : World) : (callFunc 143 args).run Tryz.prog w = .ok (.enter 143 args) w := by go_simp
theorem K.enter_takes_1 (args : Array Value) (w : World) : (callFunc 166 args).run Tryz.prog w = .ok (.enter 166 args) w := by go_simp
theorem read_0 (t p : Value) (w : World) (h : K.Fm 0 t p w) (s : ByteArray) (hs : s.size ≤ maxLen) (hl : 1 ≤ s.size) :
    Calls Tryz.prog 107 #[.agg #[.int .i64 (K.lo 0), .int .i64 (K.hi 0), .int .i64 (K.len 0), t, p], .string s] w fun e w' => e = .returned (.agg #[.int .i64 (K.rd 0 s.data.toList (K.len 0)).op, .int .i64 (K.rd 0 s.data.toList (K.len 0)).d, .int .i64 (K.rd 0 s.data.toList (K.len 0)).s, .int .i64 (K.rd 0 s.data.toList (K.len 0)).ix, .int .i64 (K.rd 0 s.data.toList (K.len 0)).sc, .int .u32 (K.rd 0 s.data.toList (K.len 0)).imm, .int .i64 (K.rd 0 s.data.toList (K.len 0)).sz]) ∧ Bel w w' := by
  obtain ⟨rfl, rfl⟩ := h
  refine read_of _ _ _ _ _ #[] #[] s (K.rd 0 s.data.toList (K.len 0)) w hs (by omega) K.enter_none ?_
  intro ga gs gi wx hr hk n1 n2 h5 h4 hb
  rw [Array.append_empty]
  exact (none_t ga gs gi s 1 _ wx hr hk n1 n2 (by omega) hs).mono fun e w' ⟨a, _, b, c⟩ => ⟨a, b, c⟩
theorem read_1 (t p : Value) (w : World) (h : K.Fm 1 t p w) (s : ByteArray) (hs : s.size ≤ maxLen) (hl : 2 ≤ s.size) :
    Calls Tryz.prog 107 #[.agg #[.int .i64 (K.lo 1), .int .i64 (K.hi 1), .int .i64 (K.len 1), t, p], .string s] w fun e w' => e = .returned (.agg #[.int .i64 (K.rd 1 s.data.toList (K.len 1)).op, .int .i64 (K.rd 1 s.data.toList (K.len 1)).d, .int .i64 (K.rd 1 s.data.toList (K.len 1)).s, .int .i64 (K.rd 1 s.data.toList (K.len 1)).ix, .int .i64 (K.rd 1 s.data.toList (K.len 1)).sc, .int .u32 (K.rd 1 s.data.toList (K.len 1)).imm, .int .i64 (K.rd 1 s.data.toList (K.len 1)).sz]) ∧ Bel w w' := by
  obtain ⟨rfl, rfl⟩ := h
  refine read_of _ _ _ _ _ #[] #[] s (K.rd 1 s.data.toList (K.len 1)) w hs (by omega) K.enter_reg ?_
  intro ga gs gi wx hr hk n1 n2 h5 h4 hb
  rw [Array.append_empty]
  exact (reg_t ga gs gi s 1 _ wx hr hk n1 n2 (by omega) hs).mono fun e w' ⟨a, _, b, c⟩ => ⟨a, b, c⟩
theorem read_2 (t p : Value) (w : World) (h : K.Fm 2 t p w) (s : ByteArray) (hs : s.size ≤ maxLen) (hl : 2 ≤ s.size) :
    Calls Tryz.prog 107 #[.agg #[.int .i64 (K.lo 2), .int .i64 (K.hi 2), .int .i64 (K.len 2), t, p], .string s] w fun e w' => e = .returned (.agg #[.int .i64 (K.rd 2 s.data.toList (K.len 2)).op, .int .i64 (K.rd 2 s.data.toList (K.len 2)).d, .int .i64 (K.rd 2 s.data.toList (K.len 2)).s, .int .i64 (K.rd 2 s.data.toList (K.len 2)).ix, .int .i64 (K.rd 2 s.data.toList (K.len 2)).sc, .int .u32 (K.rd 2 s.data.toList (K.len 2)).imm, .int .i64 (K.rd 2 s.data.toList (K.len 2)).sz]) ∧ Bel w w' := by
  obtain ⟨rfl, rfl⟩ := h
  refine read_of _ _ _ _ _ #[] #[] s (K.rd 2 s.data.toList (K.len 2)) w hs (by omega) K.enter_pair ?_
  intro ga gs gi wx hr hk n1 n2 h5 h4 hb
  rw [Array.append_empty]
  exact (pair_t ga gs gi s 1 _ wx hr hk n1 n2 (by omega) hs).mono fun e w' ⟨a, _, b, c⟩ => ⟨a, b, c⟩
theorem read_3 (t p : Value) (w : World) (h : K.Fm 3 t p w) (s : ByteArray) (hs : s.size ≤ maxLen) (hl : 3 ≤ s.size) :
    Calls Tryz.prog 107 #[.agg #[.int .i64 (K.lo 3), .int .i64 (K.hi 3), .int .i64 (K.len 3), t, p], .string s] w fun e w' => e = .returned (.agg #[.int .i64 (K.rd 3 s.data.toList (K.len 3)).op, .int .i64 (K.rd 3 s.data.toList (K.len 3)).d, .int .i64 (K.rd 3 s.data.toList (K.len 3)).s, .int .i64 (K.rd 3 s.data.toList (K.len 3)).ix, .int .i64 (K.rd 3 s.data.toList (K.len 3)).sc, .int .u32 (K.rd 3 s.data.toList (K.len 3)).imm, .int .i64 (K.rd 3 s.data.toList (K.len 3)).sz]) ∧ Bel w w' := by
  obtain ⟨⟨c, b, cap, rfl, g1, g2⟩, ⟨c', b', cap', rfl, _, _⟩⟩ := h
  refine read_of _ _ _ _ _ #[.pointer (some ⟨c, 0, none⟩)] _ s (K.rd 3 s.data.toList (K.len 3)) w hs (by omega) K.enter_takes_1 ?_
  intro ga gs gi wx hr hk n1 n2 h5 h4 hb
  have hbl := lt_of_cell (g2 0 (by simp))
  have hq : ∀ j, j < 2 → wx.cell? ⟨b, j, none⟩ = _ := fun j hj => Bel.at hb (g2 j hj)
  have key := takes_reg_small ga gs gi c b cap s 1 _ wx hr hk n1 n2 (by omega) hs (Bel.at hb g1) (hq 0 (by decide)) (hq 1 (by decide)) (by simp at hbl; omega) (by simp at hbl; omega)
  exact key.mono fun e w' ⟨a, _, b, c⟩ => ⟨a, b, c⟩
theorem read_4 (t p : Value) (w : World) (h : K.Fm 4 t p w) (s : ByteArray) (hs : s.size ≤ maxLen) (hl : 6 ≤ s.size) :
    Calls Tryz.prog 107 #[.agg #[.int .i64 (K.lo 4), .int .i64 (K.hi 4), .int .i64 (K.len 4), t, p], .string s] w fun e w' => e = .returned (.agg #[.int .i64 (K.rd 4 s.data.toList (K.len 4)).op, .int .i64 (K.rd 4 s.data.toList (K.len 4)).d, .int .i64 (K.rd 4 s.data.toList (K.len 4)).s, .int .i64 (K.rd 4 s.data.toList (K.len 4)).ix, .int .i64 (K.rd 4 s.data.toList (K.len 4)).sc, .int .u32 (K.rd 4 s.data.toList (K.len 4)).imm, .int .i64 (K.rd 4 s.data.toList (K.len 4)).sz]) ∧ Bel w w' := by
  obtain ⟨⟨c, b, cap, rfl, g1, g2⟩, ⟨c', b', cap', rfl, _, _⟩⟩ := h
  refine read_of _ _ _ _ _ #[.pointer (some ⟨c, 0, none⟩)] _ s (K.rd 4 s.data.toList (K.len 4)) w hs (by omega) K.enter_takes_1 ?_
  intro ga gs gi wx hr hk n1 n2 h5 h4 hb
  have hbl := lt_of_cell (g2 0 (by simp))
  have hq : ∀ j, j < 2 → wx.cell? ⟨b, j, none⟩ = _ := fun j hj => Bel.at hb (g2 j hj)
  have key := takes_reg_full ga gs gi c b cap s 1 _ wx hr hk n1 n2 (by omega) hs (Bel.at hb g1) (hq 0 (by decide)) (hq 1 (by decide)) (by simp at hbl; omega) (by simp at hbl; omega)
  exact key.mono fun e w' ⟨a, _, b, c⟩ => ⟨a, b, c⟩
theorem read_5 (t p : Value) (w : World) (h : K.Fm 5 t p w) (s : ByteArray) (hs : s.size ≤ maxLen) (hl : 3 ≤ s.size) :
    Calls Tryz.prog 107 #[.agg #[.int .i64 (K.lo 5), .int .i64 (K.hi 5), .int .i64 (K.len 5), t, p], .string s] w fun e w' => e = .returned (.agg #[.int .i64 (K.rd 5 s.data.toList (K.len 5)).op, .int .i64 (K.rd 5 s.data.toList (K.len 5)).d, .int .i64 (K.rd 5 s.data.toList (K.len 5)).s, .int .i64 (K.rd 5 s.data.toList (K.len 5)).ix, .int .i64 (K.rd 5 s.data.toList (K.len 5)).sc, .int .u32 (K.rd 5 s.data.toList (K.len 5)).imm, .int .i64 (K.rd 5 s.data.toList (K.len 5)).sz]) ∧ Bel w w' := by
  obtain ⟨⟨c, b, cap, rfl, g1, g2⟩, ⟨c', b', cap', rfl, _, _⟩⟩ := h
  refine read_of _ _ _ _ _ #[.pointer (some ⟨c, 0, none⟩)] _ s (K.rd 5 s.data.toList (K.len 5)) w hs (by omega) K.enter_takes_1 ?_
  intro ga gs gi wx hr hk n1 n2 h5 h4 hb
  have hbl := lt_of_cell (g2 0 (by simp))
  have hq : ∀ j, j < 2 → wx.cell? ⟨b, j, none⟩ = _ := fun j hj => Bel.at hb (g2 j hj)
  have key := takes_pair_small ga gs gi c b cap s 1 _ wx hr hk n1 n2 (by omega) hs (Bel.at hb g1) (hq 0 (by decide)) (hq 1 (by decide)) (by simp at hbl; omega) (by simp at hbl; omega)
  exact key.mono fun e w' ⟨a, _, b, c⟩ => ⟨a, b, c⟩
theorem read_6 (t p : Value) (w : World) (h : K.Fm 6 t p w) (s : ByteArray) (hs : s.size ≤ maxLen) (hl : 7 ≤ s.size) :
    Calls Tryz.prog 107 #[.agg #[.int .i64 (K.lo 6), .int .i64 (K.hi 6), .int .i64 (K.len 6), t, p], .string s] w fun e w' => e = .returned (.agg #[.int .i64 (K.rd 6 s.data.toList (K.len 6)).op, .int .i64 (K.rd 6 s.data.toList (K.len 6)).d, .int .i64 (K.rd 6 s.data.toList (K.len 6)).s, .int .i64 (K.rd 6 s.data.toList (K.len 6)).ix, .int .i64 (K.rd 6 s.data.toList (K.len 6)).sc, .int .u32 (K.rd 6 s.data.toList (K.len 6)).imm, .int .i64 (K.rd 6 s.data.toList (K.len 6)).sz]) ∧ Bel w w' := by
  obtain ⟨⟨c, b, cap, rfl, g1, g2⟩, ⟨c', b', cap', rfl, _, _⟩⟩ := h
  refine read_of _ _ _ _ _ #[.pointer (some ⟨c, 0, none⟩)] _ s (K.rd 6 s.data.toList (K.len 6)) w hs (by omega) K.enter_takes_1 ?_
  intro ga gs gi wx hr hk n1 n2 h5 h4 hb
  have hbl := lt_of_cell (g2 0 (by simp))
  have hq : ∀ j, j < 3 → wx.cell? ⟨b, j, none⟩ = _ := fun j hj => Bel.at hb (g2 j hj)
  have key := takes_pair_index_full ga gs gi c b cap s 1 _ wx hr hk n1 n2 (by omega) hs (Bel.at hb g1) (hq 0 (by decide)) (hq 1 (by decide)) (hq 2 (by decide)) (by simp at hbl; omega) (by simp at hbl; omega)
  exact key.mono fun e w' ⟨a, _, b, c⟩ => ⟨a, b, c⟩
theorem read_7 (t p : Value) (w : World) (h : K.Fm 7 t p w) (s : ByteArray) (hs : s.size ≤ maxLen) (hl : 2 ≤ s.size) :
    Calls Tryz.prog 107 #[.agg #[.int .i64 (K.lo 7), .int .i64 (K.hi 7), .int .i64 (K.len 7), t, p], .string s] w fun e w' => e = .returned (.agg #[.int .i64 (K.rd 7 s.data.toList (K.len 7)).op, .int .i64 (K.rd 7 s.data.toList (K.len 7)).d, .int .i64 (K.rd 7 s.data.toList (K.len 7)).s, .int .i64 (K.rd 7 s.data.toList (K.len 7)).ix, .int .i64 (K.rd 7 s.data.toList (K.len 7)).sc, .int .u32 (K.rd 7 s.data.toList (K.len 7)).imm, .int .i64 (K.rd 7 s.data.toList (K.len 7)).sz]) ∧ Bel w w' := by
  obtain ⟨rfl, rfl⟩ := h
  refine read_of _ _ _ _ _ #[] #[] s (K.rd 7 s.data.toList (K.len 7)) w hs (by omega) K.enter_small ?_
  intro ga gs gi wx hr hk n1 n2 h5 h4 hb
  rw [Array.append_empty]
  exact (small_t ga gs gi s 1 _ wx hr hk n1 n2 (by omega) hs).mono fun e w' ⟨a, _, b, c⟩ => ⟨a, b, c⟩
theorem read_8 (t p : Value) (w : World) (h : K.Fm 8 t p w) (s : ByteArray) (hs : s.size ≤ maxLen) (hl : 5 ≤ s.size) :
    Calls Tryz.prog 107 #[.agg #[.int .i64 (K.lo 8), .int .i64 (K.hi 8), .int .i64 (K.len 8), t, p], .string s] w fun e w' => e = .returned (.agg #[.int .i64 (K.rd 8 s.data.toList (K.len 8)).op, .int .i64 (K.rd 8 s.data.toList (K.len 8)).d, .int .i64 (K.rd 8 s.data.toList (K.len 8)).s, .int .i64 (K.rd 8 s.data.toList (K.len 8)).ix, .int .i64 (K.rd 8 s.data.toList (K.len 8)).sc, .int .u32 (K.rd 8 s.data.toList (K.len 8)).imm, .int .i64 (K.rd 8 s.data.toList (K.len 8)).sz]) ∧ Bel w w' := by
  obtain ⟨rfl, rfl⟩ := h
  refine read_of _ _ _ _ _ #[] #[] s (K.rd 8 s.data.toList (K.len 8)) w hs (by omega) K.enter_full ?_
  intro ga gs gi wx hr hk n1 n2 h5 h4 hb
  rw [Array.append_empty]
  exact (full_t ga gs gi s 1 _ wx hr hk n1 n2 (by omega) hs).mono fun e w' ⟨a, _, b, c⟩ => ⟨a, b, c⟩
theorem read_9 (t p : Value) (w : World) (h : K.Fm 9 t p w) (s : ByteArray) (hs : s.size ≤ maxLen) (hl : 2 ≤ s.size) :
    Calls Tryz.prog 107 #[.agg #[.int .i64 (K.lo 9), .int .i64 (K.hi 9), .int .i64 (K.len 9), t, p], .string s] w fun e w' => e = .returned (.agg #[.int .i64 (K.rd 9 s.data.toList (K.len 9)).op, .int .i64 (K.rd 9 s.data.toList (K.len 9)).d, .int .i64 (K.rd 9 s.data.toList (K.len 9)).s, .int .i64 (K.rd 9 s.data.toList (K.len 9)).ix, .int .i64 (K.rd 9 s.data.toList (K.len 9)).sc, .int .u32 (K.rd 9 s.data.toList (K.len 9)).imm, .int .i64 (K.rd 9 s.data.toList (K.len 9)).sz]) ∧ Bel w w' := by
  obtain ⟨rfl, rfl⟩ := h
  refine read_of _ _ _ _ _ #[] #[] s (K.rd 9 s.data.toList (K.len 9)) w hs (by omega) K.enter_plain ?_
  intro ga gs gi wx hr hk n1 n2 h5 h4 hb
  rw [Array.append_empty]
  exact (plain_t ga gs gi s 1 _ wx hr hk n1 n2 (by omega) hs).mono fun e w' ⟨a, _, b, c⟩ => ⟨a, b, c⟩
theorem read_10 (t p : Value) (w : World) (h : K.Fm 10 t p w) (s : ByteArray) (hs : s.size ≤ maxLen) (hl : 2 ≤ s.size) :
    Calls Tryz.prog 107 #[.agg #[.int .i64 (K.lo 10), .int .i64 (K.hi 10), .int .i64 (K.len 10), t, p], .string s] w fun e w' => e = .returned (.agg #[.int .i64 (K.rd 10 s.data.toList (K.len 10)).op, .int .i64 (K.rd 10 s.data.toList (K.len 10)).d, .int .i64 (K.rd 10 s.data.toList (K.len 10)).s, .int .i64 (K.rd 10 s.data.toList (K.len 10)).ix, .int .i64 (K.rd 10 s.data.toList (K.len 10)).sc, .int .u32 (K.rd 10 s.data.toList (K.len 10)).imm, .int .i64 (K.rd 10 s.data.toList (K.len 10)).sz]) ∧ Bel w w' := by
  obtain ⟨rfl, rfl⟩ := h
  refine read_of _ _ _ _ _ #[] #[] s (K.rd 10 s.data.toList (K.len 10)) w hs (by omega) K.enter_pair ?_
  intro ga gs gi wx hr hk n1 n2 h5 h4 hb
  rw [Array.append_empty]
  exact (pair_t ga gs gi s 1 _ wx hr hk n1 n2 (by omega) hs).mono fun e w' ⟨a, _, b, c⟩ => ⟨a, b, c⟩
theorem read_any (k : Nat) (hk : k < 11) (t p : Value) (w : World) (h : K.Fm k t p w) (s : ByteArray) (hs : s.size ≤ maxLen) (hl : K.len k ≤ (s.size : Int)) :
    Calls Tryz.prog 107 #[.agg #[.int .i64 (K.lo k), .int .i64 (K.hi k), .int .i64 (K.len k), t, p], .string s] w fun e w' => e = .returned (.agg #[.int .i64 (K.rd k s.data.toList (K.len k)).op, .int .i64 (K.rd k s.data.toList (K.len k)).d, .int .i64 (K.rd k s.data.toList (K.len k)).s, .int .i64 (K.rd k s.data.toList (K.len k)).ix, .int .i64 (K.rd k s.data.toList (K.len k)).sc, .int .u32 (K.rd k s.data.toList (K.len k)).imm, .int .i64 (K.rd k s.data.toList (K.len k)).sz]) ∧ Bel w w' := by
  rcases (by omega : k = 0 ∨ k = 1 ∨ k = 2 ∨ k = 3 ∨ k = 4 ∨ k = 5 ∨ k = 6 ∨ k = 7 ∨ k = 8 ∨ k = 9 ∨ k = 10) with rfl | rfl | rfl | rfl | rfl | rfl | rfl | rfl | rfl | rfl | rfl
  · exact read_0 t p w h s hs (by have : K.len 0 = 1 := rfl; omega)
  · exact read_1 t p w h s hs (by have : K.len 1 = 2 := rfl; omega)
  · exact read_2 t p w h s hs (by have : K.len 2 = 2 := rfl; omega)
  · exact read_3 t p w h s hs (by have : K.len 3 = 3 := rfl; omega)
  · exact read_4 t p w h s hs (by have : K.len 4 = 6 := rfl; omega)
  · exact read_5 t p w h s hs (by have : K.len 5 = 3 := rfl; omega)
  · exact read_6 t p w h s hs (by have : K.len 6 = 7 := rfl; omega)
  · exact read_7 t p w h s hs (by have : K.len 7 = 2 := rfl; omega)
  · exact read_8 t p w h s hs (by have : K.len 8 = 5 := rfl; omega)
  · exact read_9 t p w h s hs (by have : K.len 9 = 2 := rfl; omega)
  · exact read_10 t p w h s hs (by have : K.len 10 = 2 := rfl; omega)
def K.p_None (i : K.Ins) : List Int := []
theorem putNone_t : PutOK 137 K.p_None := putNone_ok
/-- The bytes behind the first one that format k writes. -/
def K.wr (k : Nat) (i : K.Ins) : List Int := match k with
  | 0 => K.p_None i
  | 1 => K.p_Reg i
  | 2 => K.p_Pair i
  | 3 => (([] ++ K.p_Reg i) ++ K.p_Byte i)
  | 4 => (([] ++ K.p_Reg i) ++ K.p_Full i)
  | 5 => (([] ++ K.p_Pair i) ++ K.p_Byte i)
  | 6 => ((([] ++ K.p_Pair i) ++ K.p_Index i) ++ K.p_Full i)
  | 7 => K.p_Byte i
  | 8 => K.p_Full i
  | 9 => K.p_Byte i
  | 10 => K.p_Pair i
  | _ => []
theorem K.enter_putByte (args : Array Value) (w : World) : (callFunc 145 args).run Tryz.prog w = .ok (.enter 145 args) w := by go_simp
theorem K.enter_putFull (args : Array Value) (w : World) : (callFunc 147 args).run Tryz.prog w = .ok (.enter 147 args) w := by go_simp
theorem K.enter_putNone (args : Array Value) (w : World) : (callFunc 137 args).run Tryz.prog w = .ok (.enter 137 args) w := by go_simp
theorem K.enter_putPair (args : Array Value) (w : World) : (callFunc 141 args).run Tryz.prog w = .ok (.enter 141 args) w := by go_simp
theorem K.enter_putReg (args : Array Value) (w : World) : (callFunc 139 args).run Tryz.prog w = .ok (.enter 139 args) w := by go_simp
theorem K.enter_puts_1 (args : Array Value) (w : World) : (callFunc 168 args).run Tryz.prog w = .ok (.enter 168 args) w := by go_simp
theorem put_0 (t p : Value) (w0 : World) (h : K.Fm 0 t p w0) (i : K.Ins) (hi : K.In i) : ∃ G ds, p = .func (.func G) #[] ds ∧ (∀ (args : Array Value) (w : World), (callFunc G args).run Tryz.prog w = .ok (.enter G args) w) ∧
    ∀ w, Bel w0 w → Calls Tryz.prog G (#[.agg #[.int .i64 i.op, .int .i64 i.d, .int .i64 i.s, .int .i64 i.ix, .int .i64 i.sc, .int .u32 i.imm, .int .i64 i.sz]] ++ ds) w fun e w' => e = .returned (.string (strOfNums (K.wr 0 i))) ∧ Bel w w' := by
  obtain ⟨rfl, rfl⟩ := h
  refine ⟨_, #[], rfl, K.enter_putNone, fun w hb => ?_⟩
  rw [Array.append_empty]
  exact putNone_t i w hi
theorem put_1 (t p : Value) (w0 : World) (h : K.Fm 1 t p w0) (i : K.Ins) (hi : K.In i) : ∃ G ds, p = .func (.func G) #[] ds ∧ (∀ (args : Array Value) (w : World), (callFunc G args).run Tryz.prog w = .ok (.enter G args) w) ∧
    ∀ w, Bel w0 w → Calls Tryz.prog G (#[.agg #[.int .i64 i.op, .int .i64 i.d, .int .i64 i.s, .int .i64 i.ix, .int .i64 i.sc, .int .u32 i.imm, .int .i64 i.sz]] ++ ds) w fun e w' => e = .returned (.string (strOfNums (K.wr 1 i))) ∧ Bel w w' := by
  obtain ⟨rfl, rfl⟩ := h
  refine ⟨_, #[], rfl, K.enter_putReg, fun w hb => ?_⟩
  rw [Array.append_empty]
  exact putReg_t i w hi
theorem put_2 (t p : Value) (w0 : World) (h : K.Fm 2 t p w0) (i : K.Ins) (hi : K.In i) : ∃ G ds, p = .func (.func G) #[] ds ∧ (∀ (args : Array Value) (w : World), (callFunc G args).run Tryz.prog w = .ok (.enter G args) w) ∧
    ∀ w, Bel w0 w → Calls Tryz.prog G (#[.agg #[.int .i64 i.op, .int .i64 i.d, .int .i64 i.s, .int .i64 i.ix, .int .i64 i.sc, .int .u32 i.imm, .int .i64 i.sz]] ++ ds) w fun e w' => e = .returned (.string (strOfNums (K.wr 2 i))) ∧ Bel w w' := by
  obtain ⟨rfl, rfl⟩ := h
  refine ⟨_, #[], rfl, K.enter_putPair, fun w hb => ?_⟩
  rw [Array.append_empty]
  exact putPair_t i w hi
theorem put_3 (t p : Value) (w0 : World) (h : K.Fm 3 t p w0) (i : K.Ins) (hi : K.In i) : ∃ G ds, p = .func (.func G) #[] ds ∧ (∀ (args : Array Value) (w : World), (callFunc G args).run Tryz.prog w = .ok (.enter G args) w) ∧
    ∀ w, Bel w0 w → Calls Tryz.prog G (#[.agg #[.int .i64 i.op, .int .i64 i.d, .int .i64 i.s, .int .i64 i.ix, .int .i64 i.sc, .int .u32 i.imm, .int .i64 i.sz]] ++ ds) w fun e w' => e = .returned (.string (strOfNums (K.wr 3 i))) ∧ Bel w w' := by
  obtain ⟨⟨c', b', cap', rfl, _, _⟩, ⟨c, b, cap, rfl, g1, g2⟩⟩ := h
  refine ⟨_, #[.pointer (some ⟨c, 0, none⟩)], rfl, K.enter_puts_1, fun w hb => ?_⟩
  have hq : ∀ j, j < 2 → w.cell? ⟨b, j, none⟩ = _ := fun j hj => Bel.at hb (g2 j hj)
  exact puts_Reg_Byte c b cap i w hi (Bel.at hb g1) (hq 0 (by decide)) (hq 1 (by decide))
theorem put_4 (t p : Value) (w0 : World) (h : K.Fm 4 t p w0) (i : K.Ins) (hi : K.In i) : ∃ G ds, p = .func (.func G) #[] ds ∧ (∀ (args : Array Value) (w : World), (callFunc G args).run Tryz.prog w = .ok (.enter G args) w) ∧
    ∀ w, Bel w0 w → Calls Tryz.prog G (#[.agg #[.int .i64 i.op, .int .i64 i.d, .int .i64 i.s, .int .i64 i.ix, .int .i64 i.sc, .int .u32 i.imm, .int .i64 i.sz]] ++ ds) w fun e w' => e = .returned (.string (strOfNums (K.wr 4 i))) ∧ Bel w w' := by
  obtain ⟨⟨c', b', cap', rfl, _, _⟩, ⟨c, b, cap, rfl, g1, g2⟩⟩ := h
  refine ⟨_, #[.pointer (some ⟨c, 0, none⟩)], rfl, K.enter_puts_1, fun w hb => ?_⟩
  have hq : ∀ j, j < 2 → w.cell? ⟨b, j, none⟩ = _ := fun j hj => Bel.at hb (g2 j hj)
  exact puts_Reg_Full c b cap i w hi (Bel.at hb g1) (hq 0 (by decide)) (hq 1 (by decide))
theorem put_5 (t p : Value) (w0 : World) (h : K.Fm 5 t p w0) (i : K.Ins) (hi : K.In i) : ∃ G ds, p = .func (.func G) #[] ds ∧ (∀ (args : Array Value) (w : World), (callFunc G args).run Tryz.prog w = .ok (.enter G args) w) ∧
    ∀ w, Bel w0 w → Calls Tryz.prog G (#[.agg #[.int .i64 i.op, .int .i64 i.d, .int .i64 i.s, .int .i64 i.ix, .int .i64 i.sc, .int .u32 i.imm, .int .i64 i.sz]] ++ ds) w fun e w' => e = .returned (.string (strOfNums (K.wr 5 i))) ∧ Bel w w' := by
  obtain ⟨⟨c', b', cap', rfl, _, _⟩, ⟨c, b, cap, rfl, g1, g2⟩⟩ := h
  refine ⟨_, #[.pointer (some ⟨c, 0, none⟩)], rfl, K.enter_puts_1, fun w hb => ?_⟩
  have hq : ∀ j, j < 2 → w.cell? ⟨b, j, none⟩ = _ := fun j hj => Bel.at hb (g2 j hj)
  exact puts_Pair_Byte c b cap i w hi (Bel.at hb g1) (hq 0 (by decide)) (hq 1 (by decide))
theorem put_6 (t p : Value) (w0 : World) (h : K.Fm 6 t p w0) (i : K.Ins) (hi : K.In i) : ∃ G ds, p = .func (.func G) #[] ds ∧ (∀ (args : Array Value) (w : World), (callFunc G args).run Tryz.prog w = .ok (.enter G args) w) ∧
    ∀ w, Bel w0 w → Calls Tryz.prog G (#[.agg #[.int .i64 i.op, .int .i64 i.d, .int .i64 i.s, .int .i64 i.ix, .int .i64 i.sc, .int .u32 i.imm, .int .i64 i.sz]] ++ ds) w fun e w' => e = .returned (.string (strOfNums (K.wr 6 i))) ∧ Bel w w' := by
  obtain ⟨⟨c', b', cap', rfl, _, _⟩, ⟨c, b, cap, rfl, g1, g2⟩⟩ := h
  refine ⟨_, #[.pointer (some ⟨c, 0, none⟩)], rfl, K.enter_puts_1, fun w hb => ?_⟩
  have hq : ∀ j, j < 3 → w.cell? ⟨b, j, none⟩ = _ := fun j hj => Bel.at hb (g2 j hj)
  exact puts_Pair_Index_Full c b cap i w hi (Bel.at hb g1) (hq 0 (by decide)) (hq 1 (by decide)) (hq 2 (by decide))
theorem put_7 (t p : Value) (w0 : World) (h : K.Fm 7 t p w0) (i : K.Ins) (hi : K.In i) : ∃ G ds, p = .func (.func G) #[] ds ∧ (∀ (args : Array Value) (w : World), (callFunc G args).run Tryz.prog w = .ok (.enter G args) w) ∧
    ∀ w, Bel w0 w → Calls Tryz.prog G (#[.agg #[.int .i64 i.op, .int .i64 i.d, .int .i64 i.s, .int .i64 i.ix, .int .i64 i.sc, .int .u32 i.imm, .int .i64 i.sz]] ++ ds) w fun e w' => e = .returned (.string (strOfNums (K.wr 7 i))) ∧ Bel w w' := by
  obtain ⟨rfl, rfl⟩ := h
  refine ⟨_, #[], rfl, K.enter_putByte, fun w hb => ?_⟩
  rw [Array.append_empty]
  exact putByte_t i w hi
theorem put_8 (t p : Value) (w0 : World) (h : K.Fm 8 t p w0) (i : K.Ins) (hi : K.In i) : ∃ G ds, p = .func (.func G) #[] ds ∧ (∀ (args : Array Value) (w : World), (callFunc G args).run Tryz.prog w = .ok (.enter G args) w) ∧
    ∀ w, Bel w0 w → Calls Tryz.prog G (#[.agg #[.int .i64 i.op, .int .i64 i.d, .int .i64 i.s, .int .i64 i.ix, .int .i64 i.sc, .int .u32 i.imm, .int .i64 i.sz]] ++ ds) w fun e w' => e = .returned (.string (strOfNums (K.wr 8 i))) ∧ Bel w w' := by
  obtain ⟨rfl, rfl⟩ := h
  refine ⟨_, #[], rfl, K.enter_putFull, fun w hb => ?_⟩
  rw [Array.append_empty]
  exact putFull_t i w hi
theorem put_9 (t p : Value) (w0 : World) (h : K.Fm 9 t p w0) (i : K.Ins) (hi : K.In i) : ∃ G ds, p = .func (.func G) #[] ds ∧ (∀ (args : Array Value) (w : World), (callFunc G args).run Tryz.prog w = .ok (.enter G args) w) ∧
    ∀ w, Bel w0 w → Calls Tryz.prog G (#[.agg #[.int .i64 i.op, .int .i64 i.d, .int .i64 i.s, .int .i64 i.ix, .int .i64 i.sc, .int .u32 i.imm, .int .i64 i.sz]] ++ ds) w fun e w' => e = .returned (.string (strOfNums (K.wr 9 i))) ∧ Bel w w' := by
  obtain ⟨rfl, rfl⟩ := h
  refine ⟨_, #[], rfl, K.enter_putByte, fun w hb => ?_⟩
  rw [Array.append_empty]
  exact putByte_t i w hi
theorem put_10 (t p : Value) (w0 : World) (h : K.Fm 10 t p w0) (i : K.Ins) (hi : K.In i) : ∃ G ds, p = .func (.func G) #[] ds ∧ (∀ (args : Array Value) (w : World), (callFunc G args).run Tryz.prog w = .ok (.enter G args) w) ∧
    ∀ w, Bel w0 w → Calls Tryz.prog G (#[.agg #[.int .i64 i.op, .int .i64 i.d, .int .i64 i.s, .int .i64 i.ix, .int .i64 i.sc, .int .u32 i.imm, .int .i64 i.sz]] ++ ds) w fun e w' => e = .returned (.string (strOfNums (K.wr 10 i))) ∧ Bel w w' := by
  obtain ⟨rfl, rfl⟩ := h
  refine ⟨_, #[], rfl, K.enter_putPair, fun w hb => ?_⟩
  rw [Array.append_empty]
  exact putPair_t i w hi
theorem put_any (k : Nat) (hk : k < 11) (t p : Value) (w0 : World) (h : K.Fm k t p w0) (i : K.Ins) (hi : K.In i) : ∃ G ds, p = .func (.func G) #[] ds ∧ (∀ (args : Array Value) (w : World), (callFunc G args).run Tryz.prog w = .ok (.enter G args) w) ∧
    ∀ w, Bel w0 w → Calls Tryz.prog G (#[.agg #[.int .i64 i.op, .int .i64 i.d, .int .i64 i.s, .int .i64 i.ix, .int .i64 i.sc, .int .u32 i.imm, .int .i64 i.sz]] ++ ds) w fun e w' => e = .returned (.string (strOfNums (K.wr k i))) ∧ Bel w w' := by
  rcases (by omega : k = 0 ∨ k = 1 ∨ k = 2 ∨ k = 3 ∨ k = 4 ∨ k = 5 ∨ k = 6 ∨ k = 7 ∨ k = 8 ∨ k = 9 ∨ k = 10) with rfl | rfl | rfl | rfl | rfl | rfl | rfl | rfl | rfl | rfl | rfl
  · exact put_0 t p w0 h i hi
  · exact put_1 t p w0 h i hi
  · exact put_2 t p w0 h i hi
  · exact put_3 t p w0 h i hi
  · exact put_4 t p w0 h i hi
  · exact put_5 t p w0 h i hi
  · exact put_6 t p w0 h i hi
  · exact put_7 t p w0 h i hi
  · exact put_8 t p w0 h i hi
  · exact put_9 t p w0 h i hi
  · exact put_10 t p w0 h i hi
theorem within1_any (n a b : Int) (g : Nat) (w : World) (h0 : w.cell? ⟨g, 0, none⟩ = some (.int .i64 a)) (h1 : w.cell? ⟨g, 1, none⟩ = some (.int .i64 b)) :
    Calls Tryz.prog 128 #[.int .i64 n, .slice (some ⟨g, 0, none⟩) 1 1] w fun e w' => e = .returned (.bool (K.inAny n [(a, b)])) ∧ Bel w w' :=
  within_any n g 0 1 [(a, b)] (by simp) w (fun j hj => by obtain rfl : j = 0 := by simpa using hj
                                                          exact h0) (fun j hj => by obtain rfl : j = 0 := by simpa using hj
                                                                                    exact h1)
def K.most (op : Int) : Int := if op = 129 then 3 else if op = 130 then 4 else 7
/-- The fields are in their ranges. -/
def K.rng (i : K.Ins) : Bool := K.inAny i.d [(0, 7)] && (K.inAny i.s [(0, K.most i.op)] && (K.inAny i.ix [(-1, 7)] && K.inAny i.sc [(0, 3)]))
set_option maxHeartbeats 4000000 in
theorem ranges_1_3 (i : K.Ins) (ho : (i.op == 129) = true) (h0 : K.inAny i.d [(0, 7)] = false) (w : World) :
    Calls Tryz.prog 130 #[.agg #[.int .i64 i.op, .int .i64 i.d, .int .i64 i.s, .int .i64 i.ix, .int .i64 i.sc, .int .u32 i.imm, .int .i64 i.sz]] w fun e w' => e = .returned (.bool false) ∧ Bel w w' := by
  go_enter Tryz.func130, Tryz.ntmps130
  go_wp2_with (first
    | (go_at_call 128; with_reducible refine (within1_any i.d 0 7 _ _ ?_ ?_).mono ?_; go_simp; go_simp; rintro e w2 ⟨rfl, hb2⟩; have hs2 := hb2.size; simp at hs2; have y2 := Bel.at hb2 (ad := ⟨w.heap.size, 2, none⟩) (v := .int .i64 i.s) (by first | assumption | (go_simp)); have y3 := Bel.at hb2 (ad := ⟨w.heap.size, 3, none⟩) (v := .int .i64 i.ix) (by first | assumption | (go_simp)); have y4 := Bel.at hb2 (ad := ⟨w.heap.size, 4, none⟩) (v := .int .i64 i.sc) (by first | assumption | (go_simp)); have hl2 : w.heap.size < w2.heap.size := by omega)
    | (go_at_call 128; with_reducible refine (within1_any i.s 0 3 _ _ ?_ ?_).mono ?_; go_simp; go_simp; rintro e w3 ⟨rfl, hb3⟩; have hs3 := hb3.size; simp at hs3; have z3 := Bel.at hb3 (ad := ⟨w.heap.size, 3, none⟩) (v := .int .i64 i.ix) (by first | assumption | (go_simp)); have z4 := Bel.at hb3 (ad := ⟨w.heap.size, 4, none⟩) (v := .int .i64 i.sc) (by first | assumption | (go_simp)); have hl3 : w.heap.size < w3.heap.size := by omega)
    | (go_at_call 128; with_reducible refine (within1_any i.ix (-1) 7 _ _ ?_ ?_).mono ?_; go_simp; go_simp; rintro e w4 ⟨rfl, hb4⟩; have hs4 := hb4.size; simp at hs4; have x4 := Bel.at hb4 (ad := ⟨w.heap.size, 4, none⟩) (v := .int .i64 i.sc) (by first | assumption | (go_simp)); have hl4 : w.heap.size < w4.heap.size := by omega)
    | (go_at_call 128; with_reducible refine (within1_any i.sc 0 3 _ _ ?_ ?_).mono ?_; go_simp; go_simp; rintro e w5 ⟨rfl, hb5⟩))
  go_ret
  exact ⟨rfl, Nz.bel⟩
set_option maxHeartbeats 4000000 in
theorem ranges_1_4 (i : K.Ins) (ho : (i.op == 129) = false) (ho2 : (i.op == 130) = true) (h0 : K.inAny i.d [(0, 7)] = false) (w : World) :
    Calls Tryz.prog 130 #[.agg #[.int .i64 i.op, .int .i64 i.d, .int .i64 i.s, .int .i64 i.ix, .int .i64 i.sc, .int .u32 i.imm, .int .i64 i.sz]] w fun e w' => e = .returned (.bool false) ∧ Bel w w' := by
  go_enter Tryz.func130, Tryz.ntmps130
  go_wp2_with (first
    | (go_at_call 128; with_reducible refine (within1_any i.d 0 7 _ _ ?_ ?_).mono ?_; go_simp; go_simp; rintro e w2 ⟨rfl, hb2⟩; have hs2 := hb2.size; simp at hs2; have y2 := Bel.at hb2 (ad := ⟨w.heap.size, 2, none⟩) (v := .int .i64 i.s) (by first | assumption | (go_simp)); have y3 := Bel.at hb2 (ad := ⟨w.heap.size, 3, none⟩) (v := .int .i64 i.ix) (by first | assumption | (go_simp)); have y4 := Bel.at hb2 (ad := ⟨w.heap.size, 4, none⟩) (v := .int .i64 i.sc) (by first | assumption | (go_simp)); have hl2 : w.heap.size < w2.heap.size := by omega)
    | (go_at_call 128; with_reducible refine (within1_any i.s 0 4 _ _ ?_ ?_).mono ?_; go_simp; go_simp; rintro e w3 ⟨rfl, hb3⟩; have hs3 := hb3.size; simp at hs3; have z3 := Bel.at hb3 (ad := ⟨w.heap.size, 3, none⟩) (v := .int .i64 i.ix) (by first | assumption | (go_simp)); have z4 := Bel.at hb3 (ad := ⟨w.heap.size, 4, none⟩) (v := .int .i64 i.sc) (by first | assumption | (go_simp)); have hl3 : w.heap.size < w3.heap.size := by omega)
    | (go_at_call 128; with_reducible refine (within1_any i.ix (-1) 7 _ _ ?_ ?_).mono ?_; go_simp; go_simp; rintro e w4 ⟨rfl, hb4⟩; have hs4 := hb4.size; simp at hs4; have x4 := Bel.at hb4 (ad := ⟨w.heap.size, 4, none⟩) (v := .int .i64 i.sc) (by first | assumption | (go_simp)); have hl4 : w.heap.size < w4.heap.size := by omega)
    | (go_at_call 128; with_reducible refine (within1_any i.sc 0 3 _ _ ?_ ?_).mono ?_; go_simp; go_simp; rintro e w5 ⟨rfl, hb5⟩))
  go_ret
  exact ⟨rfl, Nz.bel⟩
set_option maxHeartbeats 4000000 in
theorem ranges_1_7 (i : K.Ins) (ho : (i.op == 129) = false) (ho2 : (i.op == 130) = false) (h0 : K.inAny i.d [(0, 7)] = false) (w : World) :
    Calls Tryz.prog 130 #[.agg #[.int .i64 i.op, .int .i64 i.d, .int .i64 i.s, .int .i64 i.ix, .int .i64 i.sc, .int .u32 i.imm, .int .i64 i.sz]] w fun e w' => e = .returned (.bool false) ∧ Bel w w' := by
  go_enter Tryz.func130, Tryz.ntmps130
  go_wp2_with (first
    | (go_at_call 128; with_reducible refine (within1_any i.d 0 7 _ _ ?_ ?_).mono ?_; go_simp; go_simp; rintro e w2 ⟨rfl, hb2⟩; have hs2 := hb2.size; simp at hs2; have y2 := Bel.at hb2 (ad := ⟨w.heap.size, 2, none⟩) (v := .int .i64 i.s) (by first | assumption | (go_simp)); have y3 := Bel.at hb2 (ad := ⟨w.heap.size, 3, none⟩) (v := .int .i64 i.ix) (by first | assumption | (go_simp)); have y4 := Bel.at hb2 (ad := ⟨w.heap.size, 4, none⟩) (v := .int .i64 i.sc) (by first | assumption | (go_simp)); have hl2 : w.heap.size < w2.heap.size := by omega)
    | (go_at_call 128; with_reducible refine (within1_any i.s 0 7 _ _ ?_ ?_).mono ?_; go_simp; go_simp; rintro e w3 ⟨rfl, hb3⟩; have hs3 := hb3.size; simp at hs3; have z3 := Bel.at hb3 (ad := ⟨w.heap.size, 3, none⟩) (v := .int .i64 i.ix) (by first | assumption | (go_simp)); have z4 := Bel.at hb3 (ad := ⟨w.heap.size, 4, none⟩) (v := .int .i64 i.sc) (by first | assumption | (go_simp)); have hl3 : w.heap.size < w3.heap.size := by omega)
    | (go_at_call 128; with_reducible refine (within1_any i.ix (-1) 7 _ _ ?_ ?_).mono ?_; go_simp; go_simp; rintro e w4 ⟨rfl, hb4⟩; have hs4 := hb4.size; simp at hs4; have x4 := Bel.at hb4 (ad := ⟨w.heap.size, 4, none⟩) (v := .int .i64 i.sc) (by first | assumption | (go_simp)); have hl4 : w.heap.size < w4.heap.size := by omega)
    | (go_at_call 128; with_reducible refine (within1_any i.sc 0 3 _ _ ?_ ?_).mono ?_; go_simp; go_simp; rintro e w5 ⟨rfl, hb5⟩))
  go_ret
  exact ⟨rfl, Nz.bel⟩
set_option maxHeartbeats 4000000 in
theorem ranges_2_3 (i : K.Ins) (ho : (i.op == 129) = true) (h0 : K.inAny i.d [(0, 7)] = true) (h1 : K.inAny i.s [(0, 3)] = false) (w : World) :
    Calls Tryz.prog 130 #[.agg #[.int .i64 i.op, .int .i64 i.d, .int .i64 i.s, .int .i64 i.ix, .int .i64 i.sc, .int .u32 i.imm, .int .i64 i.sz]] w fun e w' => e = .returned (.bool false) ∧ Bel w w' := by
  go_enter Tryz.func130, Tryz.ntmps130
  go_wp2_with (first
    | (go_at_call 128; with_reducible refine (within1_any i.d 0 7 _ _ ?_ ?_).mono ?_; go_simp; go_simp; rintro e w2 ⟨rfl, hb2⟩; have hs2 := hb2.size; simp at hs2; have y2 := Bel.at hb2 (ad := ⟨w.heap.size, 2, none⟩) (v := .int .i64 i.s) (by first | assumption | (go_simp)); have y3 := Bel.at hb2 (ad := ⟨w.heap.size, 3, none⟩) (v := .int .i64 i.ix) (by first | assumption | (go_simp)); have y4 := Bel.at hb2 (ad := ⟨w.heap.size, 4, none⟩) (v := .int .i64 i.sc) (by first | assumption | (go_simp)); have hl2 : w.heap.size < w2.heap.size := by omega)
    | (go_at_call 128; with_reducible refine (within1_any i.s 0 3 _ _ ?_ ?_).mono ?_; go_simp; go_simp; rintro e w3 ⟨rfl, hb3⟩; have hs3 := hb3.size; simp at hs3; have z3 := Bel.at hb3 (ad := ⟨w.heap.size, 3, none⟩) (v := .int .i64 i.ix) (by first | assumption | (go_simp)); have z4 := Bel.at hb3 (ad := ⟨w.heap.size, 4, none⟩) (v := .int .i64 i.sc) (by first | assumption | (go_simp)); have hl3 : w.heap.size < w3.heap.size := by omega)
    | (go_at_call 128; with_reducible refine (within1_any i.ix (-1) 7 _ _ ?_ ?_).mono ?_; go_simp; go_simp; rintro e w4 ⟨rfl, hb4⟩; have hs4 := hb4.size; simp at hs4; have x4 := Bel.at hb4 (ad := ⟨w.heap.size, 4, none⟩) (v := .int .i64 i.sc) (by first | assumption | (go_simp)); have hl4 : w.heap.size < w4.heap.size := by omega)
    | (go_at_call 128; with_reducible refine (within1_any i.sc 0 3 _ _ ?_ ?_).mono ?_; go_simp; go_simp; rintro e w5 ⟨rfl, hb5⟩))
  go_ret
  exact ⟨rfl, Nz.bel⟩
set_option maxHeartbeats 4000000 in
theorem ranges_2_4 (i : K.Ins) (ho : (i.op == 129) = false) (ho2 : (i.op == 130) = true) (h0 : K.inAny i.d [(0, 7)] = true) (h1 : K.inAny i.s [(0, 4)] = false) (w : World) :
    Calls Tryz.prog 130 #[.agg #[.int .i64 i.op, .int .i64 i.d, .int .i64 i.s, .int .i64 i.ix, .int .i64 i.sc, .int .u32 i.imm, .int .i64 i.sz]] w fun e w' => e = .returned (.bool false) ∧ Bel w w' := by
  go_enter Tryz.func130, Tryz.ntmps130
  go_wp2_with (first
    | (go_at_call 128; with_reducible refine (within1_any i.d 0 7 _ _ ?_ ?_).mono ?_; go_simp; go_simp; rintro e w2 ⟨rfl, hb2⟩; have hs2 := hb2.size; simp at hs2; have y2 := Bel.at hb2 (ad := ⟨w.heap.size, 2, none⟩) (v := .int .i64 i.s) (by first | assumption | (go_simp)); have y3 := Bel.at hb2 (ad := ⟨w.heap.size, 3, none⟩) (v := .int .i64 i.ix) (by first | assumption | (go_simp)); have y4 := Bel.at hb2 (ad := ⟨w.heap.size, 4, none⟩) (v := .int .i64 i.sc) (by first | assumption | (go_simp)); have hl2 : w.heap.size < w2.heap.size := by omega)
    | (go_at_call 128; with_reducible refine (within1_any i.s 0 4 _ _ ?_ ?_).mono ?_; go_simp; go_simp; rintro e w3 ⟨rfl, hb3⟩; have hs3 := hb3.size; simp at hs3; have z3 := Bel.at hb3 (ad := ⟨w.heap.size, 3, none⟩) (v := .int .i64 i.ix) (by first | assumption | (go_simp)); have z4 := Bel.at hb3 (ad := ⟨w.heap.size, 4, none⟩) (v := .int .i64 i.sc) (by first | assumption | (go_simp)); have hl3 : w.heap.size < w3.heap.size := by omega)
    | (go_at_call 128; with_reducible refine (within1_any i.ix (-1) 7 _ _ ?_ ?_).mono ?_; go_simp; go_simp; rintro e w4 ⟨rfl, hb4⟩; have hs4 := hb4.size; simp at hs4; have x4 := Bel.at hb4 (ad := ⟨w.heap.size, 4, none⟩) (v := .int .i64 i.sc) (by first | assumption | (go_simp)); have hl4 : w.heap.size < w4.heap.size := by omega)
    | (go_at_call 128; with_reducible refine (within1_any i.sc 0 3 _ _ ?_ ?_).mono ?_; go_simp; go_simp; rintro e w5 ⟨rfl, hb5⟩))
  go_ret
  exact ⟨rfl, Nz.bel⟩
set_option maxHeartbeats 4000000 in
theorem ranges_2_7 (i : K.Ins) (ho : (i.op == 129) = false) (ho2 : (i.op == 130) = false) (h0 : K.inAny i.d [(0, 7)] = true) (h1 : K.inAny i.s [(0, 7)] = false) (w : World) :
    Calls Tryz.prog 130 #[.agg #[.int .i64 i.op, .int .i64 i.d, .int .i64 i.s, .int .i64 i.ix, .int .i64 i.sc, .int .u32 i.imm, .int .i64 i.sz]] w fun e w' => e = .returned (.bool false) ∧ Bel w w' := by
  go_enter Tryz.func130, Tryz.ntmps130
  go_wp2_with (first
    | (go_at_call 128; with_reducible refine (within1_any i.d 0 7 _ _ ?_ ?_).mono ?_; go_simp; go_simp; rintro e w2 ⟨rfl, hb2⟩; have hs2 := hb2.size; simp at hs2; have y2 := Bel.at hb2 (ad := ⟨w.heap.size, 2, none⟩) (v := .int .i64 i.s) (by first | assumption | (go_simp)); have y3 := Bel.at hb2 (ad := ⟨w.heap.size, 3, none⟩) (v := .int .i64 i.ix) (by first | assumption | (go_simp)); have y4 := Bel.at hb2 (ad := ⟨w.heap.size, 4, none⟩) (v := .int .i64 i.sc) (by first | assumption | (go_simp)); have hl2 : w.heap.size < w2.heap.size := by omega)
    | (go_at_call 128; with_reducible refine (within1_any i.s 0 7 _ _ ?_ ?_).mono ?_; go_simp; go_simp; rintro e w3 ⟨rfl, hb3⟩; have hs3 := hb3.size; simp at hs3; have z3 := Bel.at hb3 (ad := ⟨w.heap.size, 3, none⟩) (v := .int .i64 i.ix) (by first | assumption | (go_simp)); have z4 := Bel.at hb3 (ad := ⟨w.heap.size, 4, none⟩) (v := .int .i64 i.sc) (by first | assumption | (go_simp)); have hl3 : w.heap.size < w3.heap.size := by omega)
    | (go_at_call 128; with_reducible refine (within1_any i.ix (-1) 7 _ _ ?_ ?_).mono ?_; go_simp; go_simp; rintro e w4 ⟨rfl, hb4⟩; have hs4 := hb4.size; simp at hs4; have x4 := Bel.at hb4 (ad := ⟨w.heap.size, 4, none⟩) (v := .int .i64 i.sc) (by first | assumption | (go_simp)); have hl4 : w.heap.size < w4.heap.size := by omega)
    | (go_at_call 128; with_reducible refine (within1_any i.sc 0 3 _ _ ?_ ?_).mono ?_; go_simp; go_simp; rintro e w5 ⟨rfl, hb5⟩))
  go_ret
  exact ⟨rfl, Nz.bel⟩
set_option maxHeartbeats 4000000 in
theorem ranges_3_3 (i : K.Ins) (ho : (i.op == 129) = true) (h0 : K.inAny i.d [(0, 7)] = true) (h1 : K.inAny i.s [(0, 3)] = true) (h2 : K.inAny i.ix [(-1, 7)] = false) (w : World) :
    Calls Tryz.prog 130 #[.agg #[.int .i64 i.op, .int .i64 i.d, .int .i64 i.s, .int .i64 i.ix, .int .i64 i.sc, .int .u32 i.imm, .int .i64 i.sz]] w fun e w' => e = .returned (.bool false) ∧ Bel w w' := by
  go_enter Tryz.func130, Tryz.ntmps130
  go_wp2_with (first
    | (go_at_call 128; with_reducible refine (within1_any i.d 0 7 _ _ ?_ ?_).mono ?_; go_simp; go_simp; rintro e w2 ⟨rfl, hb2⟩; have hs2 := hb2.size; simp at hs2; have y2 := Bel.at hb2 (ad := ⟨w.heap.size, 2, none⟩) (v := .int .i64 i.s) (by first | assumption | (go_simp)); have y3 := Bel.at hb2 (ad := ⟨w.heap.size, 3, none⟩) (v := .int .i64 i.ix) (by first | assumption | (go_simp)); have y4 := Bel.at hb2 (ad := ⟨w.heap.size, 4, none⟩) (v := .int .i64 i.sc) (by first | assumption | (go_simp)); have hl2 : w.heap.size < w2.heap.size := by omega)
    | (go_at_call 128; with_reducible refine (within1_any i.s 0 3 _ _ ?_ ?_).mono ?_; go_simp; go_simp; rintro e w3 ⟨rfl, hb3⟩; have hs3 := hb3.size; simp at hs3; have z3 := Bel.at hb3 (ad := ⟨w.heap.size, 3, none⟩) (v := .int .i64 i.ix) (by first | assumption | (go_simp)); have z4 := Bel.at hb3 (ad := ⟨w.heap.size, 4, none⟩) (v := .int .i64 i.sc) (by first | assumption | (go_simp)); have hl3 : w.heap.size < w3.heap.size := by omega)
    | (go_at_call 128; with_reducible refine (within1_any i.ix (-1) 7 _ _ ?_ ?_).mono ?_; go_simp; go_simp; rintro e w4 ⟨rfl, hb4⟩; have hs4 := hb4.size; simp at hs4; have x4 := Bel.at hb4 (ad := ⟨w.heap.size, 4, none⟩) (v := .int .i64 i.sc) (by first | assumption | (go_simp)); have hl4 : w.heap.size < w4.heap.size := by omega)
    | (go_at_call 128; with_reducible refine (within1_any i.sc 0 3 _ _ ?_ ?_).mono ?_; go_simp; go_simp; rintro e w5 ⟨rfl, hb5⟩))
  go_ret
  exact ⟨rfl, Nz.bel⟩
set_option maxHeartbeats 4000000 in
theorem ranges_3_4 (i : K.Ins) (ho : (i.op == 129) = false) (ho2 : (i.op == 130) = true) (h0 : K.inAny i.d [(0, 7)] = true) (h1 : K.inAny i.s [(0, 4)] = true) (h2 : K.inAny i.ix [(-1, 7)] = false) (w : World) :
    Calls Tryz.prog 130 #[.agg #[.int .i64 i.op, .int .i64 i.d, .int .i64 i.s, .int .i64 i.ix, .int .i64 i.sc, .int .u32 i.imm, .int .i64 i.sz]] w fun e w' => e = .returned (.bool false) ∧ Bel w w' := by
  go_enter Tryz.func130, Tryz.ntmps130
  go_wp2_with (first
    | (go_at_call 128; with_reducible refine (within1_any i.d 0 7 _ _ ?_ ?_).mono ?_; go_simp; go_simp; rintro e w2 ⟨rfl, hb2⟩; have hs2 := hb2.size; simp at hs2; have y2 := Bel.at hb2 (ad := ⟨w.heap.size, 2, none⟩) (v := .int .i64 i.s) (by first | assumption | (go_simp)); have y3 := Bel.at hb2 (ad := ⟨w.heap.size, 3, none⟩) (v := .int .i64 i.ix) (by first | assumption | (go_simp)); have y4 := Bel.at hb2 (ad := ⟨w.heap.size, 4, none⟩) (v := .int .i64 i.sc) (by first | assumption | (go_simp)); have hl2 : w.heap.size < w2.heap.size := by omega)
    | (go_at_call 128; with_reducible refine (within1_any i.s 0 4 _ _ ?_ ?_).mono ?_; go_simp; go_simp; rintro e w3 ⟨rfl, hb3⟩; have hs3 := hb3.size; simp at hs3; have z3 := Bel.at hb3 (ad := ⟨w.heap.size, 3, none⟩) (v := .int .i64 i.ix) (by first | assumption | (go_simp)); have z4 := Bel.at hb3 (ad := ⟨w.heap.size, 4, none⟩) (v := .int .i64 i.sc) (by first | assumption | (go_simp)); have hl3 : w.heap.size < w3.heap.size := by omega)
    | (go_at_call 128; with_reducible refine (within1_any i.ix (-1) 7 _ _ ?_ ?_).mono ?_; go_simp; go_simp; rintro e w4 ⟨rfl, hb4⟩; have hs4 := hb4.size; simp at hs4; have x4 := Bel.at hb4 (ad := ⟨w.heap.size, 4, none⟩) (v := .int .i64 i.sc) (by first | assumption | (go_simp)); have hl4 : w.heap.size < w4.heap.size := by omega)
    | (go_at_call 128; with_reducible refine (within1_any i.sc 0 3 _ _ ?_ ?_).mono ?_; go_simp; go_simp; rintro e w5 ⟨rfl, hb5⟩))
  go_ret
  exact ⟨rfl, Nz.bel⟩
set_option maxHeartbeats 4000000 in
theorem ranges_3_7 (i : K.Ins) (ho : (i.op == 129) = false) (ho2 : (i.op == 130) = false) (h0 : K.inAny i.d [(0, 7)] = true) (h1 : K.inAny i.s [(0, 7)] = true) (h2 : K.inAny i.ix [(-1, 7)] = false) (w : World) :
    Calls Tryz.prog 130 #[.agg #[.int .i64 i.op, .int .i64 i.d, .int .i64 i.s, .int .i64 i.ix, .int .i64 i.sc, .int .u32 i.imm, .int .i64 i.sz]] w fun e w' => e = .returned (.bool false) ∧ Bel w w' := by
  go_enter Tryz.func130, Tryz.ntmps130
  go_wp2_with (first
    | (go_at_call 128; with_reducible refine (within1_any i.d 0 7 _ _ ?_ ?_).mono ?_; go_simp; go_simp; rintro e w2 ⟨rfl, hb2⟩; have hs2 := hb2.size; simp at hs2; have y2 := Bel.at hb2 (ad := ⟨w.heap.size, 2, none⟩) (v := .int .i64 i.s) (by first | assumption | (go_simp)); have y3 := Bel.at hb2 (ad := ⟨w.heap.size, 3, none⟩) (v := .int .i64 i.ix) (by first | assumption | (go_simp)); have y4 := Bel.at hb2 (ad := ⟨w.heap.size, 4, none⟩) (v := .int .i64 i.sc) (by first | assumption | (go_simp)); have hl2 : w.heap.size < w2.heap.size := by omega)
    | (go_at_call 128; with_reducible refine (within1_any i.s 0 7 _ _ ?_ ?_).mono ?_; go_simp; go_simp; rintro e w3 ⟨rfl, hb3⟩; have hs3 := hb3.size; simp at hs3; have z3 := Bel.at hb3 (ad := ⟨w.heap.size, 3, none⟩) (v := .int .i64 i.ix) (by first | assumption | (go_simp)); have z4 := Bel.at hb3 (ad := ⟨w.heap.size, 4, none⟩) (v := .int .i64 i.sc) (by first | assumption | (go_simp)); have hl3 : w.heap.size < w3.heap.size := by omega)
    | (go_at_call 128; with_reducible refine (within1_any i.ix (-1) 7 _ _ ?_ ?_).mono ?_; go_simp; go_simp; rintro e w4 ⟨rfl, hb4⟩; have hs4 := hb4.size; simp at hs4; have x4 := Bel.at hb4 (ad := ⟨w.heap.size, 4, none⟩) (v := .int .i64 i.sc) (by first | assumption | (go_simp)); have hl4 : w.heap.size < w4.heap.size := by omega)
    | (go_at_call 128; with_reducible refine (within1_any i.sc 0 3 _ _ ?_ ?_).mono ?_; go_simp; go_simp; rintro e w5 ⟨rfl, hb5⟩))
  go_ret
  exact ⟨rfl, Nz.bel⟩
set_option maxHeartbeats 4000000 in
theorem ranges_4_3 (i : K.Ins) (ho : (i.op == 129) = true) (h0 : K.inAny i.d [(0, 7)] = true) (h1 : K.inAny i.s [(0, 3)] = true) (h2 : K.inAny i.ix [(-1, 7)] = true) (h3 : K.inAny i.sc [(0, 3)] = false) (w : World) :
    Calls Tryz.prog 130 #[.agg #[.int .i64 i.op, .int .i64 i.d, .int .i64 i.s, .int .i64 i.ix, .int .i64 i.sc, .int .u32 i.imm, .int .i64 i.sz]] w fun e w' => e = .returned (.bool false) ∧ Bel w w' := by
  go_enter Tryz.func130, Tryz.ntmps130
  go_wp2_with (first
    | (go_at_call 128; with_reducible refine (within1_any i.d 0 7 _ _ ?_ ?_).mono ?_; go_simp; go_simp; rintro e w2 ⟨rfl, hb2⟩; have hs2 := hb2.size; simp at hs2; have y2 := Bel.at hb2 (ad := ⟨w.heap.size, 2, none⟩) (v := .int .i64 i.s) (by first | assumption | (go_simp)); have y3 := Bel.at hb2 (ad := ⟨w.heap.size, 3, none⟩) (v := .int .i64 i.ix) (by first | assumption | (go_simp)); have y4 := Bel.at hb2 (ad := ⟨w.heap.size, 4, none⟩) (v := .int .i64 i.sc) (by first | assumption | (go_simp)); have hl2 : w.heap.size < w2.heap.size := by omega)
    | (go_at_call 128; with_reducible refine (within1_any i.s 0 3 _ _ ?_ ?_).mono ?_; go_simp; go_simp; rintro e w3 ⟨rfl, hb3⟩; have hs3 := hb3.size; simp at hs3; have z3 := Bel.at hb3 (ad := ⟨w.heap.size, 3, none⟩) (v := .int .i64 i.ix) (by first | assumption | (go_simp)); have z4 := Bel.at hb3 (ad := ⟨w.heap.size, 4, none⟩) (v := .int .i64 i.sc) (by first | assumption | (go_simp)); have hl3 : w.heap.size < w3.heap.size := by omega)
    | (go_at_call 128; with_reducible refine (within1_any i.ix (-1) 7 _ _ ?_ ?_).mono ?_; go_simp; go_simp; rintro e w4 ⟨rfl, hb4⟩; have hs4 := hb4.size; simp at hs4; have x4 := Bel.at hb4 (ad := ⟨w.heap.size, 4, none⟩) (v := .int .i64 i.sc) (by first | assumption | (go_simp)); have hl4 : w.heap.size < w4.heap.size := by omega)
    | (go_at_call 128; with_reducible refine (within1_any i.sc 0 3 _ _ ?_ ?_).mono ?_; go_simp; go_simp; rintro e w5 ⟨rfl, hb5⟩))
  go_ret
  exact ⟨rfl, Nz.bel⟩
set_option maxHeartbeats 4000000 in
theorem ranges_4_4 (i : K.Ins) (ho : (i.op == 129) = false) (ho2 : (i.op == 130) = true) (h0 : K.inAny i.d [(0, 7)] = true) (h1 : K.inAny i.s [(0, 4)] = true) (h2 : K.inAny i.ix [(-1, 7)] = true) (h3 : K.inAny i.sc [(0, 3)] = false) (w : World) :
    Calls Tryz.prog 130 #[.agg #[.int .i64 i.op, .int .i64 i.d, .int .i64 i.s, .int .i64 i.ix, .int .i64 i.sc, .int .u32 i.imm, .int .i64 i.sz]] w fun e w' => e = .returned (.bool false) ∧ Bel w w' := by
  go_enter Tryz.func130, Tryz.ntmps130
  go_wp2_with (first
    | (go_at_call 128; with_reducible refine (within1_any i.d 0 7 _ _ ?_ ?_).mono ?_; go_simp; go_simp; rintro e w2 ⟨rfl, hb2⟩; have hs2 := hb2.size; simp at hs2; have y2 := Bel.at hb2 (ad := ⟨w.heap.size, 2, none⟩) (v := .int .i64 i.s) (by first | assumption | (go_simp)); have y3 := Bel.at hb2 (ad := ⟨w.heap.size, 3, none⟩) (v := .int .i64 i.ix) (by first | assumption | (go_simp)); have y4 := Bel.at hb2 (ad := ⟨w.heap.size, 4, none⟩) (v := .int .i64 i.sc) (by first | assumption | (go_simp)); have hl2 : w.heap.size < w2.heap.size := by omega)
    | (go_at_call 128; with_reducible refine (within1_any i.s 0 4 _ _ ?_ ?_).mono ?_; go_simp; go_simp; rintro e w3 ⟨rfl, hb3⟩; have hs3 := hb3.size; simp at hs3; have z3 := Bel.at hb3 (ad := ⟨w.heap.size, 3, none⟩) (v := .int .i64 i.ix) (by first | assumption | (go_simp)); have z4 := Bel.at hb3 (ad := ⟨w.heap.size, 4, none⟩) (v := .int .i64 i.sc) (by first | assumption | (go_simp)); have hl3 : w.heap.size < w3.heap.size := by omega)
    | (go_at_call 128; with_reducible refine (within1_any i.ix (-1) 7 _ _ ?_ ?_).mono ?_; go_simp; go_simp; rintro e w4 ⟨rfl, hb4⟩; have hs4 := hb4.size; simp at hs4; have x4 := Bel.at hb4 (ad := ⟨w.heap.size, 4, none⟩) (v := .int .i64 i.sc) (by first | assumption | (go_simp)); have hl4 : w.heap.size < w4.heap.size := by omega)
    | (go_at_call 128; with_reducible refine (within1_any i.sc 0 3 _ _ ?_ ?_).mono ?_; go_simp; go_simp; rintro e w5 ⟨rfl, hb5⟩))
  go_ret
  exact ⟨rfl, Nz.bel⟩
set_option maxHeartbeats 4000000 in
theorem ranges_4_7 (i : K.Ins) (ho : (i.op == 129) = false) (ho2 : (i.op == 130) = false) (h0 : K.inAny i.d [(0, 7)] = true) (h1 : K.inAny i.s [(0, 7)] = true) (h2 : K.inAny i.ix [(-1, 7)] = true) (h3 : K.inAny i.sc [(0, 3)] = false) (w : World) :
    Calls Tryz.prog 130 #[.agg #[.int .i64 i.op, .int .i64 i.d, .int .i64 i.s, .int .i64 i.ix, .int .i64 i.sc, .int .u32 i.imm, .int .i64 i.sz]] w fun e w' => e = .returned (.bool false) ∧ Bel w w' := by
  go_enter Tryz.func130, Tryz.ntmps130
  go_wp2_with (first
    | (go_at_call 128; with_reducible refine (within1_any i.d 0 7 _ _ ?_ ?_).mono ?_; go_simp; go_simp; rintro e w2 ⟨rfl, hb2⟩; have hs2 := hb2.size; simp at hs2; have y2 := Bel.at hb2 (ad := ⟨w.heap.size, 2, none⟩) (v := .int .i64 i.s) (by first | assumption | (go_simp)); have y3 := Bel.at hb2 (ad := ⟨w.heap.size, 3, none⟩) (v := .int .i64 i.ix) (by first | assumption | (go_simp)); have y4 := Bel.at hb2 (ad := ⟨w.heap.size, 4, none⟩) (v := .int .i64 i.sc) (by first | assumption | (go_simp)); have hl2 : w.heap.size < w2.heap.size := by omega)
    | (go_at_call 128; with_reducible refine (within1_any i.s 0 7 _ _ ?_ ?_).mono ?_; go_simp; go_simp; rintro e w3 ⟨rfl, hb3⟩; have hs3 := hb3.size; simp at hs3; have z3 := Bel.at hb3 (ad := ⟨w.heap.size, 3, none⟩) (v := .int .i64 i.ix) (by first | assumption | (go_simp)); have z4 := Bel.at hb3 (ad := ⟨w.heap.size, 4, none⟩) (v := .int .i64 i.sc) (by first | assumption | (go_simp)); have hl3 : w.heap.size < w3.heap.size := by omega)
    | (go_at_call 128; with_reducible refine (within1_any i.ix (-1) 7 _ _ ?_ ?_).mono ?_; go_simp; go_simp; rintro e w4 ⟨rfl, hb4⟩; have hs4 := hb4.size; simp at hs4; have x4 := Bel.at hb4 (ad := ⟨w.heap.size, 4, none⟩) (v := .int .i64 i.sc) (by first | assumption | (go_simp)); have hl4 : w.heap.size < w4.heap.size := by omega)
    | (go_at_call 128; with_reducible refine (within1_any i.sc 0 3 _ _ ?_ ?_).mono ?_; go_simp; go_simp; rintro e w5 ⟨rfl, hb5⟩))
  go_ret
  exact ⟨rfl, Nz.bel⟩
set_option maxHeartbeats 4000000 in
theorem ranges_5_3 (i : K.Ins) (ho : (i.op == 129) = true) (h0 : K.inAny i.d [(0, 7)] = true) (h1 : K.inAny i.s [(0, 3)] = true) (h2 : K.inAny i.ix [(-1, 7)] = true) (h3 : K.inAny i.sc [(0, 3)] = true) (w : World) :
    Calls Tryz.prog 130 #[.agg #[.int .i64 i.op, .int .i64 i.d, .int .i64 i.s, .int .i64 i.ix, .int .i64 i.sc, .int .u32 i.imm, .int .i64 i.sz]] w fun e w' => e = .returned (.bool true) ∧ Bel w w' := by
  go_enter Tryz.func130, Tryz.ntmps130
  go_wp2_with (first
    | (go_at_call 128; with_reducible refine (within1_any i.d 0 7 _ _ ?_ ?_).mono ?_; go_simp; go_simp; rintro e w2 ⟨rfl, hb2⟩; have hs2 := hb2.size; simp at hs2; have y2 := Bel.at hb2 (ad := ⟨w.heap.size, 2, none⟩) (v := .int .i64 i.s) (by first | assumption | (go_simp)); have y3 := Bel.at hb2 (ad := ⟨w.heap.size, 3, none⟩) (v := .int .i64 i.ix) (by first | assumption | (go_simp)); have y4 := Bel.at hb2 (ad := ⟨w.heap.size, 4, none⟩) (v := .int .i64 i.sc) (by first | assumption | (go_simp)); have hl2 : w.heap.size < w2.heap.size := by omega)
    | (go_at_call 128; with_reducible refine (within1_any i.s 0 3 _ _ ?_ ?_).mono ?_; go_simp; go_simp; rintro e w3 ⟨rfl, hb3⟩; have hs3 := hb3.size; simp at hs3; have z3 := Bel.at hb3 (ad := ⟨w.heap.size, 3, none⟩) (v := .int .i64 i.ix) (by first | assumption | (go_simp)); have z4 := Bel.at hb3 (ad := ⟨w.heap.size, 4, none⟩) (v := .int .i64 i.sc) (by first | assumption | (go_simp)); have hl3 : w.heap.size < w3.heap.size := by omega)
    | (go_at_call 128; with_reducible refine (within1_any i.ix (-1) 7 _ _ ?_ ?_).mono ?_; go_simp; go_simp; rintro e w4 ⟨rfl, hb4⟩; have hs4 := hb4.size; simp at hs4; have x4 := Bel.at hb4 (ad := ⟨w.heap.size, 4, none⟩) (v := .int .i64 i.sc) (by first | assumption | (go_simp)); have hl4 : w.heap.size < w4.heap.size := by omega)
    | (go_at_call 128; with_reducible refine (within1_any i.sc 0 3 _ _ ?_ ?_).mono ?_; go_simp; go_simp; rintro e w5 ⟨rfl, hb5⟩))
  go_ret
  exact ⟨rfl, Nz.bel⟩
set_option maxHeartbeats 4000000 in
theorem ranges_5_4 (i : K.Ins) (ho : (i.op == 129) = false) (ho2 : (i.op == 130) = true) (h0 : K.inAny i.d [(0, 7)] = true) (h1 : K.inAny i.s [(0, 4)] = true) (h2 : K.inAny i.ix [(-1, 7)] = true) (h3 : K.inAny i.sc [(0, 3)] = true) (w : World) :
    Calls Tryz.prog 130 #[.agg #[.int .i64 i.op, .int .i64 i.d, .int .i64 i.s, .int .i64 i.ix, .int .i64 i.sc, .int .u32 i.imm, .int .i64 i.sz]] w fun e w' => e = .returned (.bool true) ∧ Bel w w' := by
  go_enter Tryz.func130, Tryz.ntmps130
  go_wp2_with (first
    | (go_at_call 128; with_reducible refine (within1_any i.d 0 7 _ _ ?_ ?_).mono ?_; go_simp; go_simp; rintro e w2 ⟨rfl, hb2⟩; have hs2 := hb2.size; simp at hs2; have y2 := Bel.at hb2 (ad := ⟨w.heap.size, 2, none⟩) (v := .int .i64 i.s) (by first | assumption | (go_simp)); have y3 := Bel.at hb2 (ad := ⟨w.heap.size, 3, none⟩) (v := .int .i64 i.ix) (by first | assumption | (go_simp)); have y4 := Bel.at hb2 (ad := ⟨w.heap.size, 4, none⟩) (v := .int .i64 i.sc) (by first | assumption | (go_simp)); have hl2 : w.heap.size < w2.heap.size := by omega)
    | (go_at_call 128; with_reducible refine (within1_any i.s 0 4 _ _ ?_ ?_).mono ?_; go_simp; go_simp; rintro e w3 ⟨rfl, hb3⟩; have hs3 := hb3.size; simp at hs3; have z3 := Bel.at hb3 (ad := ⟨w.heap.size, 3, none⟩) (v := .int .i64 i.ix) (by first | assumption | (go_simp)); have z4 := Bel.at hb3 (ad := ⟨w.heap.size, 4, none⟩) (v := .int .i64 i.sc) (by first | assumption | (go_simp)); have hl3 : w.heap.size < w3.heap.size := by omega)
    | (go_at_call 128; with_reducible refine (within1_any i.ix (-1) 7 _ _ ?_ ?_).mono ?_; go_simp; go_simp; rintro e w4 ⟨rfl, hb4⟩; have hs4 := hb4.size; simp at hs4; have x4 := Bel.at hb4 (ad := ⟨w.heap.size, 4, none⟩) (v := .int .i64 i.sc) (by first | assumption | (go_simp)); have hl4 : w.heap.size < w4.heap.size := by omega)
    | (go_at_call 128; with_reducible refine (within1_any i.sc 0 3 _ _ ?_ ?_).mono ?_; go_simp; go_simp; rintro e w5 ⟨rfl, hb5⟩))
  go_ret
  exact ⟨rfl, Nz.bel⟩
set_option maxHeartbeats 4000000 in
theorem ranges_5_7 (i : K.Ins) (ho : (i.op == 129) = false) (ho2 : (i.op == 130) = false) (h0 : K.inAny i.d [(0, 7)] = true) (h1 : K.inAny i.s [(0, 7)] = true) (h2 : K.inAny i.ix [(-1, 7)] = true) (h3 : K.inAny i.sc [(0, 3)] = true) (w : World) :
    Calls Tryz.prog 130 #[.agg #[.int .i64 i.op, .int .i64 i.d, .int .i64 i.s, .int .i64 i.ix, .int .i64 i.sc, .int .u32 i.imm, .int .i64 i.sz]] w fun e w' => e = .returned (.bool true) ∧ Bel w w' := by
  go_enter Tryz.func130, Tryz.ntmps130
  go_wp2_with (first
    | (go_at_call 128; with_reducible refine (within1_any i.d 0 7 _ _ ?_ ?_).mono ?_; go_simp; go_simp; rintro e w2 ⟨rfl, hb2⟩; have hs2 := hb2.size; simp at hs2; have y2 := Bel.at hb2 (ad := ⟨w.heap.size, 2, none⟩) (v := .int .i64 i.s) (by first | assumption | (go_simp)); have y3 := Bel.at hb2 (ad := ⟨w.heap.size, 3, none⟩) (v := .int .i64 i.ix) (by first | assumption | (go_simp)); have y4 := Bel.at hb2 (ad := ⟨w.heap.size, 4, none⟩) (v := .int .i64 i.sc) (by first | assumption | (go_simp)); have hl2 : w.heap.size < w2.heap.size := by omega)
    | (go_at_call 128; with_reducible refine (within1_any i.s 0 7 _ _ ?_ ?_).mono ?_; go_simp; go_simp; rintro e w3 ⟨rfl, hb3⟩; have hs3 := hb3.size; simp at hs3; have z3 := Bel.at hb3 (ad := ⟨w.heap.size, 3, none⟩) (v := .int .i64 i.ix) (by first | assumption | (go_simp)); have z4 := Bel.at hb3 (ad := ⟨w.heap.size, 4, none⟩) (v := .int .i64 i.sc) (by first | assumption | (go_simp)); have hl3 : w.heap.size < w3.heap.size := by omega)
    | (go_at_call 128; with_reducible refine (within1_any i.ix (-1) 7 _ _ ?_ ?_).mono ?_; go_simp; go_simp; rintro e w4 ⟨rfl, hb4⟩; have hs4 := hb4.size; simp at hs4; have x4 := Bel.at hb4 (ad := ⟨w.heap.size, 4, none⟩) (v := .int .i64 i.sc) (by first | assumption | (go_simp)); have hl4 : w.heap.size < w4.heap.size := by omega)
    | (go_at_call 128; with_reducible refine (within1_any i.sc 0 3 _ _ ?_ ?_).mono ?_; go_simp; go_simp; rintro e w5 ⟨rfl, hb5⟩))
  go_ret
  exact ⟨rfl, Nz.bel⟩
theorem ranges_m (i : K.Ins) (m : Int) (hm : (i.op == 129) = true ∧ m = 3 ∨ (i.op == 129) = false ∧ (i.op == 130) = true ∧ m = 4 ∨ (i.op == 129) = false ∧ (i.op == 130) = false ∧ m = 7) (w : World) :
    Calls Tryz.prog 130 #[.agg #[.int .i64 i.op, .int .i64 i.d, .int .i64 i.s, .int .i64 i.ix, .int .i64 i.sc, .int .u32 i.imm, .int .i64 i.sz]] w fun e w' => e = .returned (.bool (K.inAny i.d [(0, 7)] && (K.inAny i.s [(0, m)] && (K.inAny i.ix [(-1, 7)] && K.inAny i.sc [(0, 3)])))) ∧ Bel w w' := by
  cases h0 : K.inAny i.d [(0, 7)]
  · rcases hm with ⟨ho, rfl⟩ | ⟨ho, ho2, rfl⟩ | ⟨ho, ho2, rfl⟩
    · exact ranges_1_3 i ho h0 w
    · exact ranges_1_4 i ho ho2 h0 w
    · exact ranges_1_7 i ho ho2 h0 w
  · cases h1 : K.inAny i.s [(0, m)]
    · rcases hm with ⟨ho, rfl⟩ | ⟨ho, ho2, rfl⟩ | ⟨ho, ho2, rfl⟩
      · exact ranges_2_3 i ho h0 h1 w
      · exact ranges_2_4 i ho ho2 h0 h1 w
      · exact ranges_2_7 i ho ho2 h0 h1 w
    · cases h2 : K.inAny i.ix [(-1, 7)]
      · rcases hm with ⟨ho, rfl⟩ | ⟨ho, ho2, rfl⟩ | ⟨ho, ho2, rfl⟩
        · exact ranges_3_3 i ho h0 h1 h2 w
        · exact ranges_3_4 i ho ho2 h0 h1 h2 w
        · exact ranges_3_7 i ho ho2 h0 h1 h2 w
      · cases h3 : K.inAny i.sc [(0, 3)]
        · rcases hm with ⟨ho, rfl⟩ | ⟨ho, ho2, rfl⟩ | ⟨ho, ho2, rfl⟩
          · exact ranges_4_3 i ho h0 h1 h2 h3 w
          · exact ranges_4_4 i ho ho2 h0 h1 h2 h3 w
          · exact ranges_4_7 i ho ho2 h0 h1 h2 h3 w
        · rcases hm with ⟨ho, rfl⟩ | ⟨ho, ho2, rfl⟩ | ⟨ho, ho2, rfl⟩
          · exact ranges_5_3 i ho h0 h1 h2 h3 w
          · exact ranges_5_4 i ho ho2 h0 h1 h2 h3 w
          · exact ranges_5_7 i ho ho2 h0 h1 h2 h3 w
theorem ranges_any (i : K.Ins) (w : World) : Calls Tryz.prog 130 #[.agg #[.int .i64 i.op, .int .i64 i.d, .int .i64 i.s, .int .i64 i.ix, .int .i64 i.sc, .int .u32 i.imm, .int .i64 i.sz]] w fun e w' => e = .returned (.bool (K.rng i)) ∧ Bel w w' := by
  unfold K.rng K.most
  by_cases h1 : i.op = 129
  · rw [if_pos h1]; exact ranges_m i 3 (.inl ⟨by simp [h1], rfl⟩) w
  · rw [if_neg h1]
    by_cases h2 : i.op = 130
    · rw [if_pos h2]; exact ranges_m i 4 (.inr (.inl ⟨by simp [h1], by simp [h2], rfl⟩)) w
    · rw [if_neg h2]; exact ranges_m i 7 (.inr (.inr ⟨by simp [h1], by simp [h2], rfl⟩)) w
def R2.reg (x : Int) : Bool := ((decide (x ≥ 0)) && (decide (x < 8)))
def R2.signed (x : Int) : Bool := ((decide (x < 128)) || (decide (x ≥ 4294967168)))
def R2.Format (x : Int) : Int := (bif ((decide (x ≥ 0)) && (decide (x ≤ 4))) then 1 else (bif ((decide (x ≥ 16)) && (decide (x ≤ 21))) then 2 else (bif ((decide (x ≥ 32)) && (decide (x ≤ 46))) then 3 else (bif ((decide (x ≥ 48)) && (decide (x ≤ 62))) then 4 else (bif ((decide (x ≥ 64)) && (decide (x ≤ 78))) then 5 else (bif ((decide (x ≥ 80)) && (decide (x ≤ 86))) then 6 else (bif ((decide (x ≥ 88)) && (decide (x ≤ 94))) then 7 else (bif ((decide (x ≥ 96)) && (decide (x ≤ 109))) then 8 else (bif ((x == 112) || (x == 113)) then 9 else (bif ((decide (x ≥ 128)) && (decide (x ≤ 130))) then (IntKind.wrap .i64 ((IntKind.wrap .i64 (x - 128)) + 10)) else 0))))))))))
def R2.Size (x : Int) : Int := ([0, 1, 2, 2, 3, 6, 3, 7, 2, 5, 2, 2, 2].getD (0 + ((R2.Format (IntKind.wrap .i64 x))).toNat * 1) 0)
def R2.extend (x : Int) : Int := (bif (decide (x ≥ 128)) then (IntKind.wrap .u32 ((IntKind.wrap .u32 x) + 4294967040)) else (IntKind.wrap .u32 x))
def R2.long (s : ByteArray) : Int := (IntKind.wrap .u32 ((IntKind.wrap .u32 ((IntKind.wrap .u32 ((IntKind.wrap .u32 (W.byt s.data.toList 0)) + (IntKind.wrap .u32 (256 * (IntKind.wrap .u32 (W.byt s.data.toList 1)))))) + (IntKind.wrap .u32 (65536 * (IntKind.wrap .u32 (W.byt s.data.toList 2)))))) + (IntKind.wrap .u32 (16777216 * (IntKind.wrap .u32 (W.byt s.data.toList 3))))))
def R2.Valid (i : K.Ins) : Bool := (bif (((R2.Format i.op) == 0) || (i.sz != (R2.Size (IntKind.wrap .u8 i.op)))) then false else ((((bif (((((R2.Format i.op) == 1) || ((R2.Format i.op) == 8)) || ((R2.Format i.op) == 9)) || ((R2.Format i.op) == 10)) then (i.d == 0) else (R2.reg i.d)) && (bif ((R2.Format i.op) == 12) then ((decide (i.s ≥ 0)) && (decide (i.s ≤ 4))) else (bif ((R2.Format i.op) == 11) then ((decide (i.s ≥ 0)) && (decide (i.s ≤ 3))) else (bif ((((R2.Format i.op) != 3) && ((R2.Format i.op) != 6)) && ((R2.Format i.op) != 7)) then (i.s == 0) else (R2.reg i.s))))) && (bif (((R2.Format i.op) == 7) && (i.ix != (-1))) then (((R2.reg i.ix) && (decide (i.sc ≥ 0))) && (decide (i.sc ≤ 3))) else ((i.ix == (-1)) && (i.sc == 0)))) && (bif ((R2.Format i.op) == 10) then (decide (i.imm < 256)) else (((((R2.Format i.op) == 5) || ((R2.Format i.op) == 7)) || ((R2.Format i.op) == 9)) || (bif ((((R2.Format i.op) == 4) || ((R2.Format i.op) == 6)) || ((R2.Format i.op) == 8)) then (R2.signed i.imm) else (i.imm == 0))))))
def R2.read (s : ByteArray) : K.Ins := (bif (((R2.Format (IntKind.wrap .i64 (W.byt s.data.toList 0))) == 4) || ((R2.Format (IntKind.wrap .i64 (W.byt s.data.toList 0))) == 6)) then ⟨(IntKind.wrap .i64 (W.byt s.data.toList 0)), (bif ((((R2.Format (IntKind.wrap .i64 (W.byt s.data.toList 0))) == 2) || ((R2.Format (IntKind.wrap .i64 (W.byt s.data.toList 0))) == 4)) || ((R2.Format (IntKind.wrap .i64 (W.byt s.data.toList 0))) == 5)) then (IntKind.wrap .i64 (W.byt s.data.toList 1)) else (bif (decide (((s.size : Nat) : Int) > 1)) then (IntKind.wrap .i64 (Int.tdiv (IntKind.wrap .i64 (W.byt s.data.toList 1)) 16)) else 0)), (bif ((((R2.Format (IntKind.wrap .i64 (W.byt s.data.toList 0))) == 2) || ((R2.Format (IntKind.wrap .i64 (W.byt s.data.toList 0))) == 4)) || ((R2.Format (IntKind.wrap .i64 (W.byt s.data.toList 0))) == 5)) then 0 else (bif (decide (((s.size : Nat) : Int) > 1)) then (Int.tmod (IntKind.wrap .i64 (W.byt s.data.toList 1)) 16) else 0)), -1, 0, (R2.extend (W.byt s.data.toList 2)), ((s.size : Nat) : Int)⟩ else (bif ((R2.Format (IntKind.wrap .i64 (W.byt s.data.toList 0))) == 5) then ⟨(IntKind.wrap .i64 (W.byt s.data.toList 0)), (bif ((((R2.Format (IntKind.wrap .i64 (W.byt s.data.toList 0))) == 2) || ((R2.Format (IntKind.wrap .i64 (W.byt s.data.toList 0))) == 4)) || ((R2.Format (IntKind.wrap .i64 (W.byt s.data.toList 0))) == 5)) then (IntKind.wrap .i64 (W.byt s.data.toList 1)) else (bif (decide (((s.size : Nat) : Int) > 1)) then (IntKind.wrap .i64 (Int.tdiv (IntKind.wrap .i64 (W.byt s.data.toList 1)) 16)) else 0)), (bif ((((R2.Format (IntKind.wrap .i64 (W.byt s.data.toList 0))) == 2) || ((R2.Format (IntKind.wrap .i64 (W.byt s.data.toList 0))) == 4)) || ((R2.Format (IntKind.wrap .i64 (W.byt s.data.toList 0))) == 5)) then 0 else (bif (decide (((s.size : Nat) : Int) > 1)) then (Int.tmod (IntKind.wrap .i64 (W.byt s.data.toList 1)) 16) else 0)), -1, 0, (R2.long (s.extract 2 s.size)), ((s.size : Nat) : Int)⟩ else (bif ((R2.Format (IntKind.wrap .i64 (W.byt s.data.toList 0))) == 7) then (bif ((W.byt s.data.toList 2) != 8) then ⟨(IntKind.wrap .i64 (W.byt s.data.toList 0)), (bif ((((R2.Format (IntKind.wrap .i64 (W.byt s.data.toList 0))) == 2) || ((R2.Format (IntKind.wrap .i64 (W.byt s.data.toList 0))) == 4)) || ((R2.Format (IntKind.wrap .i64 (W.byt s.data.toList 0))) == 5)) then (IntKind.wrap .i64 (W.byt s.data.toList 1)) else (bif (decide (((s.size : Nat) : Int) > 1)) then (IntKind.wrap .i64 (Int.tdiv (IntKind.wrap .i64 (W.byt s.data.toList 1)) 16)) else 0)), (bif ((((R2.Format (IntKind.wrap .i64 (W.byt s.data.toList 0))) == 2) || ((R2.Format (IntKind.wrap .i64 (W.byt s.data.toList 0))) == 4)) || ((R2.Format (IntKind.wrap .i64 (W.byt s.data.toList 0))) == 5)) then 0 else (bif (decide (((s.size : Nat) : Int) > 1)) then (Int.tmod (IntKind.wrap .i64 (W.byt s.data.toList 1)) 16) else 0)), (Int.tmod (IntKind.wrap .i64 (W.byt s.data.toList 2)) 16), (IntKind.wrap .i64 (Int.tdiv (IntKind.wrap .i64 (W.byt s.data.toList 2)) 16)), (R2.long (s.extract 3 s.size)), ((s.size : Nat) : Int)⟩ else ⟨(IntKind.wrap .i64 (W.byt s.data.toList 0)), (bif ((((R2.Format (IntKind.wrap .i64 (W.byt s.data.toList 0))) == 2) || ((R2.Format (IntKind.wrap .i64 (W.byt s.data.toList 0))) == 4)) || ((R2.Format (IntKind.wrap .i64 (W.byt s.data.toList 0))) == 5)) then (IntKind.wrap .i64 (W.byt s.data.toList 1)) else (bif (decide (((s.size : Nat) : Int) > 1)) then (IntKind.wrap .i64 (Int.tdiv (IntKind.wrap .i64 (W.byt s.data.toList 1)) 16)) else 0)), (bif ((((R2.Format (IntKind.wrap .i64 (W.byt s.data.toList 0))) == 2) || ((R2.Format (IntKind.wrap .i64 (W.byt s.data.toList 0))) == 4)) || ((R2.Format (IntKind.wrap .i64 (W.byt s.data.toList 0))) == 5)) then 0 else (bif (decide (((s.size : Nat) : Int) > 1)) then (Int.tmod (IntKind.wrap .i64 (W.byt s.data.toList 1)) 16) else 0)), -1, 0, (R2.long (s.extract 3 s.size)), ((s.size : Nat) : Int)⟩) else (bif (((R2.Format (IntKind.wrap .i64 (W.byt s.data.toList 0))) == 8) || (((R2.Format (IntKind.wrap .i64 (W.byt s.data.toList 0))) == 10) || ((R2.Format (IntKind.wrap .i64 (W.byt s.data.toList 0))) == 9))) then (bif ((R2.Format (IntKind.wrap .i64 (W.byt s.data.toList 0))) == 9) then ⟨(IntKind.wrap .i64 (W.byt s.data.toList 0)), 0, 0, -1, 0, (R2.long (s.extract 1 s.size)), ((s.size : Nat) : Int)⟩ else ⟨(IntKind.wrap .i64 (W.byt s.data.toList 0)), 0, 0, -1, 0, (bif ((R2.Format (IntKind.wrap .i64 (W.byt s.data.toList 0))) == 8) then (R2.extend (W.byt s.data.toList 1)) else (IntKind.wrap .u32 (W.byt s.data.toList 1))), ((s.size : Nat) : Int)⟩) else ⟨(IntKind.wrap .i64 (W.byt s.data.toList 0)), (bif ((((R2.Format (IntKind.wrap .i64 (W.byt s.data.toList 0))) == 2) || ((R2.Format (IntKind.wrap .i64 (W.byt s.data.toList 0))) == 4)) || ((R2.Format (IntKind.wrap .i64 (W.byt s.data.toList 0))) == 5)) then (IntKind.wrap .i64 (W.byt s.data.toList 1)) else (bif (decide (((s.size : Nat) : Int) > 1)) then (IntKind.wrap .i64 (Int.tdiv (IntKind.wrap .i64 (W.byt s.data.toList 1)) 16)) else 0)), (bif ((((R2.Format (IntKind.wrap .i64 (W.byt s.data.toList 0))) == 2) || ((R2.Format (IntKind.wrap .i64 (W.byt s.data.toList 0))) == 4)) || ((R2.Format (IntKind.wrap .i64 (W.byt s.data.toList 0))) == 5)) then 0 else (bif (decide (((s.size : Nat) : Int) > 1)) then (Int.tmod (IntKind.wrap .i64 (W.byt s.data.toList 1)) 16) else 0)), -1, 0, 0, ((s.size : Nat) : Int)⟩))))
theorem R2.byt_extract (s : ByteArray) (m j : Nat) (h : j < m) (hm : m ≤ s.size) : W.byt (s.extract 0 m).data.toList j = W.byt s.data.toList j := by
  unfold W.byt
  congr 2
  simp [ByteArray.data_extract, List.getElem?_take, h]
def R2.Decode (s : ByteArray) : K.Ins × Int := (bif (s.toList == (⟨#[]⟩ : ByteArray).toList) then (⟨0, 0, 0, 0, 0, 0, 0⟩, 10) else (bif ((R2.Size (W.byt s.data.toList 0)) == 0) then (⟨0, 0, 0, 0, 0, 0, 0⟩, 12) else (bif (decide (((s.size : Nat) : Int) < (R2.Size (W.byt s.data.toList 0)))) then (⟨0, 0, 0, 0, 0, 0, 0⟩, 10) else (bif (!(R2.Valid ((R2.read (s.extract 0 ((R2.Size (W.byt s.data.toList 0))).toNat))))) then (⟨0, 0, 0, 0, 0, 0, 0⟩, 12) else (⟨((R2.read (s.extract 0 ((R2.Size (W.byt s.data.toList 0))).toNat))).op, ((R2.read (s.extract 0 ((R2.Size (W.byt s.data.toList 0))).toNat))).d, ((R2.read (s.extract 0 ((R2.Size (W.byt s.data.toList 0))).toNat))).s, ((R2.read (s.extract 0 ((R2.Size (W.byt s.data.toList 0))).toNat))).ix, ((R2.read (s.extract 0 ((R2.Size (W.byt s.data.toList 0))).toNat))).sc, ((R2.read (s.extract 0 ((R2.Size (W.byt s.data.toList 0))).toNat))).imm, ((R2.read (s.extract 0 ((R2.Size (W.byt s.data.toList 0))).toNat))).sz⟩, 0)))))
def R2.ops : List Int := [0, 1, 2, 3, 4, 96, 100, 106, 109, 112, 113, 128, 129, 130, 32, 48, 64, 16, 80, 88, 33, 49, 65, 17, 81, 89, 34, 50, 66, 18, 82, 90, 35, 51, 67, 19, 83, 91, 36, 52, 68, 20, 84, 92, 37, 53, 69, 21, 85, 93, 38, 54, 70, 86, 94, 39, 55, 71, 40, 56, 72, 41, 57, 73, 42, 58, 74, 43, 59, 75, 44, 60, 76, 45, 61, 77, 46, 62, 78]
def R2.ix (a : Int) : Int := Int.tmod (bits .and .i64 a 65535) 79
theorem K.fmtF_lt (op : Int) : ∀ (m j k : Nat), K.fmtF op m j = some k → j ≤ k ∧ k < j + m
  | 0, _, _, h => by cases h
  | m + 1, j, k, h => by
    unfold K.fmtF at h
    split at h
    · cases h; omega
    · have := K.fmtF_lt op m (j + 1) k h; omega
theorem K.fmt_lt {op : Int} {k : Nat} (h : K.fmt op = some k) : k < 11 := by
  have := K.fmtF_lt op 11 0 k h; omega
theorem find_some {op : Int} {k : Nat} (hk : K.fmt op = some k) (w : World) : Calls Tryz.prog 106 #[.int .i64 op] w fun e w' => ∃ F cs G ds, e = .returned (.tuple #[.agg #[.int .i64 (K.lo k), .int .i64 (K.hi k), .int .i64 (K.len k), .func (.func F) #[] cs, .func (.func G) #[] ds], .bool true]) ∧ K.Fm k (.func (.func F) #[] cs) (.func (.func G) #[] ds) w' ∧ Bel w w' :=
  (find_of formats_any op w).mono fun e w' h => by
    rcases h with ⟨k', t, p, hlt, hk', he, hf, hb⟩ | ⟨hn, _⟩
    · rw [hk] at hk'; cases hk'
      obtain ⟨⟨F, cs, rfl⟩, ⟨G, ds, rfl⟩⟩ := hf.isf
      exact ⟨F, cs, G, ds, he, hf, hb⟩
    · rw [hk] at hn; cases hn
theorem find_none {op : Int} (hk : K.fmt op = none) (w : World) : Calls Tryz.prog 106 #[.int .i64 op] w fun e w' => e = .returned (.tuple #[.agg #[.int .i64 0, .int .i64 0, .int .i64 0, .nilFunc, .nilFunc], .bool false]) ∧ Bel w w' :=
  (find_of formats_any op w).mono fun e w' h => by
    rcases h with ⟨k', t, p, hlt, hk', _⟩ | ⟨_, he, hb⟩
    · rw [hk] at hk'; cases hk'
    · exact ⟨he, hb⟩
theorem K.Cl.ext {Ls : List Nat} {F : FuncId} {fs : List FuncId} {v : Value} {w w' : World} (h : K.Cl F fs v w) (hl : 0 < fs.length) (hs : ∀ x ∈ Ls, ∃ n, w.cell? ⟨x, 0, none⟩ = some (.int .i64 n)) (hw : ∀ b, b < w.heap.size → b ∉ Ls → w'.heap[b]? = w.heap[b]?) : K.Cl F fs v w' := by
  obtain ⟨c, b, cap, e, h1, h2⟩ := h
  refine ⟨c, b, cap, e, ?_, fun j hj => ?_⟩
  · rw [World.cell?_of_block (w := w) (a := ⟨c, 0, none⟩) (hw c (lt_of_cell h1) fun q => ?_)]; exact h1
    obtain ⟨n, hn⟩ := hs _ q; rw [h1] at hn; cases hn
  · rw [World.cell?_of_block (w := w) (a := ⟨b, j, none⟩) (hw b (lt_of_cell (h2 j hj)) fun q => ?_)]; exact h2 j hj
    obtain ⟨n, hn⟩ := hs _ q; rw [h2 0 hl] at hn; cases hn
theorem K.Fm.ext {Ls : List Nat} {k : Nat} {t p : Value} {w w' : World} (h : K.Fm k t p w) (hs : ∀ x ∈ Ls, ∃ n, w.cell? ⟨x, 0, none⟩ = some (.int .i64 n)) (hw : ∀ b, b < w.heap.size → b ∉ Ls → w'.heap[b]? = w.heap[b]?) : K.Fm k t p w' := by
  unfold K.Fm at *
  split at h <;> first | exact h | exact ⟨h.1.ext (by simp) hs hw, h.2.ext (by simp) hs hw⟩
/-- A block whose first cell is an integer. -/
def K.intB (L : List (Nat × List Value)) : Prop := ∀ p ∈ L, ∃ n, p.2[0]? = some (.int .i64 n)
theorem find_hp {S : Nat → Prop} {w0 : World} {X : World → Prop} {L : List (Nat × List Value)} {op : Int} {k : Nat} (hk : K.fmt op = some k) (hL : K.intB L) (w : World) (h : E.Hp S w0 X L w) :
    Calls Tryz.prog 106 #[.int .i64 op] w fun e w' => ∃ i : FuncId × Array Value × FuncId × Array Value, True ∧ e = .returned (.tuple #[.agg #[.int .i64 (K.lo k), .int .i64 (K.hi k), .int .i64 (K.len k), .func (.func i.1) #[] i.2.1, .func (.func i.2.2.1) #[] i.2.2.2], .bool true]) ∧
      E.Hp S w0 (fun w => X w ∧ K.Fm k (.func (.func i.1) #[] i.2.1) (.func (.func i.2.2.1) #[] i.2.2.2) w) L w' :=
  (find_some hk w).mono fun e w' ⟨F, cs, G, ds, he, hf, hb⟩ => ⟨(F, cs, G, ds), trivial, he, by
    have h1 := h.bel hb
    refine h1.addX fun w2 hs hw => hf.ext (Ls := L.map (·.1)) (fun x hx => ?_) hw
    obtain ⟨p, hp, rfl⟩ := List.mem_map.1 hx
    obtain ⟨n, hn⟩ := hL p hp
    exact ⟨n, h1.mem p hp 0 _ hn⟩⟩
set_option maxRecDepth 100000 in
theorem kput_at {k : Nat} (hk : k < 11) {t : Value} {G : FuncId} {ds : Array Value} {w : World} (h : K.Fm k t (.func (.func G) #[] ds) w) {i : K.Ins} (hi : K.In i) : Calls Tryz.prog G (#[.agg #[.int .i64 i.op, .int .i64 i.d, .int .i64 i.s, .int .i64 i.ix, .int .i64 i.sc, .int .u32 i.imm, .int .i64 i.sz]] ++ ds) w fun e w' => e = .returned (.string (strOfNums (K.wr k i))) ∧ Bel w w' := by
  obtain ⟨G', ds', e, _, hc⟩ := put_any k hk t _ w h i hi
  injection e with e1 _ e2
  injection e1 with e1
  subst e1; subst e2
  exact hc w (Bel.refl w)
set_option maxRecDepth 100000 in
theorem K.enter_at {k : Nat} (hk : k < 11) {t : Value} {G : FuncId} {ds : Array Value} {w : World} (h : K.Fm k t (.func (.func G) #[] ds) w) (args : Array Value) (w' : World) : (callFunc G args).run Tryz.prog w' = .ok (.enter G args) w' := by
  obtain ⟨G', ds', e, he, _⟩ := put_any k hk t _ w h ⟨0, 0, 0, 0, 0, 0, 0⟩ ⟨by decide, by decide, by decide, by decide, by decide, by decide, by decide, by decide, by decide, by decide⟩
  injection e with e1 _ e2
  injection e1 with e1
  subst e1
  exact he args w'
theorem E.run_callv {P : Program} {fr : E.Fr} {x : Operand} {args : Array Operand} {ts : Array TypeId} {T : TypeId} {d : Option Nat} {pos : String} {af : Array Edge} {gd : Option (Nat × Bool)} {G : FuncId} {ds : Array Value} (vals : List Value) (hf : E.ev fr x = .func (.func G) #[] ds) (ha : args.toList.map (E.ev fr) = vals) (w : World) :
    (execOp (E.ev fr) ⟨d, .call { callee := .value x, args := args, argTypes := ts }, T, pos, af, gd⟩).run P w = (callFunc G (vals.toArray ++ ds)).run P w := by
  have e : args.map (E.ev fr) = vals.toArray := by rw [← ha]; exact Array.toList_inj.1 (by rw [Array.toList_map])
  show (do let d ← resolve (E.ev fr) { callee := .value x, args := args, argTypes := ts } T; invoke d.target d.args).run P w = _
  simp only [resolve, hf, Deferred.ofValue, e]
  simp [invoke]
/-- A call of a function value with what it captured. -/
theorem E.G.callv {P : Program} {n : Nat} {ops : Array Oper} {Q : Exit → Act → World → Prop} {S : Nat → Prop} {w0 : World} {X : World → Prop} {L : List (Nat × List Value)} {l : List Oper} {fr : E.Fr} {x : Operand} {args : Array Operand} {ts : Array TypeId} {T : TypeId} {d : Option Nat} {pos : String} {af : Array Edge} {gd : Option (Nat × Bool)} {G : FuncId} {ds : Array Value} (vals : List Value) (v : Value)
    (hf : E.ev fr x = .func (.func G) #[] ds) (ha : args.toList.map (E.ev fr) = vals) (he : ∀ w, E.Hp S w0 X L w → (callFunc G (vals.toArray ++ ds)).run P w = .ok (.enter G (vals.toArray ++ ds)) w)
    (hc : ∀ w, E.Hp S w0 X L w → Calls P G (vals.toArray ++ ds) w fun e w' => e = .returned v ∧ Bel w w') (hck : E.ck n ops fr ⟨d, .call { callee := .value x, args := args, argTypes := ts }, T, pos, af, gd⟩ = true)
    (k : E.G P n ops Q l (E.upd fr d v) S w0 X L) : E.G P n ops Q (⟨d, .call { callee := .value x, args := args, argTypes := ts }, T, pos, af, gd⟩ :: l) fr S w0 X L :=
  E.G.call (o := ⟨d, .call { callee := .value x, args := args, argTypes := ts }, T, pos, af, gd⟩) v hc (fun w h => (E.run_callv vals hf ha w).trans (he w h)) hck k
theorem E.api_KIns_eql {fr : E.Fr} {x y : Operand} {u T : TypeId} {d : Option Nat} {pos : String} {af : Array Edge} {gd : Option (Nat × Bool)} {a0 a1 a2 a3 a4 a5 a6 b0 b1 b2 b3 b4 b5 b6 : Int} {w : World}
    (hx : E.ev fr x = .agg #[.int .i64 a0, .int .i64 a1, .int .i64 a2, .int .i64 a3, .int .i64 a4, .int .u32 a5, .int .i64 a6]) (hy : E.ev fr y = .agg #[.int .i64 b0, .int .i64 b1, .int .i64 b2, .int .i64 b3, .int .i64 b4, .int .u32 b5, .int .i64 b6]) :
    (execOp (E.ev fr) ⟨d, .binOp .eql 66 x y u, T, pos, af, gd⟩).run Tryz.prog w = .ok (.value (.bool (a0 == b0 && a1 == b1 && a2 == b2 && a3 == b3 && a4 == b4 && a5 == b5 && a6 == b6))) w := by
  show (do let r ← (do eqGuard .eql 66 x y (E.ev fr x) (E.ev fr y); binOp .eql 66 (E.ev fr x) (E.ev fr y)); pure (Next.value r) : Sem Next).run Tryz.prog w = _
  rw [hx, hy]
  go_simp
  (repeat' split) <;> simp_all
theorem K.res_bd {o a b q : Int} (ha : 0 ≤ a ∧ a < 4294967296) (hb : 0 ≤ b ∧ b < 4294967296) : (0 ≤ (K.res o a b q).a ∧ (K.res o a b q).a < 4294967296) ∧ (0 ≤ (K.res o a b q).b ∧ (K.res o a b q).b < 4294967296) := by
  have z : (0 : Int) ≤ 0 ∧ (0 : Int) < 4294967296 := ⟨Int.le_refl 0, by decide⟩
  let p : K.R → Prop := fun r => (0 ≤ r.a ∧ r.a < 4294967296) ∧ (0 ≤ r.b ∧ r.b < 4294967296)
  have it : ∀ {c : Prop} [Decidable c] {x y : K.R}, p x → p y → p (if c then x else y) := fun hx hy => by split <;> assumption
  have t : p (K.test a b q) := ⟨(W.bits_bd .and a b : 0 ≤ bits .and .u32 a b ∧ bits .and .u32 a b < 4294967296), z⟩
  have l : ∀ v, 0 ≤ v ∧ v < 4294967296 → p (K.logic v) := fun v h => ⟨h, z⟩
  show p (K.res o a b q)
  exact it ⟨z, z⟩ (it ⟨ha, hb⟩ (it ⟨ha, hb⟩ (it ⟨ha, hb⟩ (it ⟨ha, hb⟩ (it ⟨ha, hb⟩ (it t (l _ (W.op_bd _ _ _ ha.1 ha.2 hb.1))))))))
def K.arith (x : K.W) (o b_ : Int) : K.W := (bif ((o == 43) && (b_ == 0)) then ⟨x.u, x.s, x.i, 6, 0⟩ else (bif (K.res o (x.s.r ((x.i.d).toNat)) b_ (IntKind.wrap .i64 (bits .and .u32 (Int.fdiv x.u.f (2 ^ 1)) 1))).st then (bif (((K.res o (x.s.r ((x.i.d).toNat)) b_ (IntKind.wrap .i64 (bits .and .u32 (Int.fdiv x.u.f (2 ^ 1)) 1))).k) != 0) then K.flags (⟨x.u, ⟨x.s.pc, (Q.up x.s.r (x.i.d).toNat ((K.res o (x.s.r ((x.i.d).toNat)) b_ (IntKind.wrap .i64 (bits .and .u32 (Int.fdiv x.u.f (2 ^ 1)) 1))).v)), x.s.f, x.s.c, x.s.st, x.s.du⟩, x.i, x.k, x.t⟩ : K.W) ((K.res o (x.s.r ((x.i.d).toNat)) b_ (IntKind.wrap .i64 (bits .and .u32 (Int.fdiv x.u.f (2 ^ 1)) 1))).k) ((K.res o (x.s.r ((x.i.d).toNat)) b_ (IntKind.wrap .i64 (bits .and .u32 (Int.fdiv x.u.f (2 ^ 1)) 1))).a) ((K.res o (x.s.r ((x.i.d).toNat)) b_ (IntKind.wrap .i64 (bits .and .u32 (Int.fdiv x.u.f (2 ^ 1)) 1))).b) else ⟨x.u, ⟨x.s.pc, (Q.up x.s.r (x.i.d).toNat ((K.res o (x.s.r ((x.i.d).toNat)) b_ (IntKind.wrap .i64 (bits .and .u32 (Int.fdiv x.u.f (2 ^ 1)) 1))).v)), x.s.f, x.s.c, x.s.st, x.s.du⟩, x.i, x.k, x.t⟩) else (bif (((K.res o (x.s.r ((x.i.d).toNat)) b_ (IntKind.wrap .i64 (bits .and .u32 (Int.fdiv x.u.f (2 ^ 1)) 1))).k) != 0) then K.flags x ((K.res o (x.s.r ((x.i.d).toNat)) b_ (IntKind.wrap .i64 (bits .and .u32 (Int.fdiv x.u.f (2 ^ 1)) 1))).k) ((K.res o (x.s.r ((x.i.d).toNat)) b_ (IntKind.wrap .i64 (bits .and .u32 (Int.fdiv x.u.f (2 ^ 1)) 1))).a) ((K.res o (x.s.r ((x.i.d).toNat)) b_ (IntKind.wrap .i64 (bits .and .u32 (Int.fdiv x.u.f (2 ^ 1)) 1))).b) else x)))
theorem Arith_w {b m : Nat} (x : K.W) (o b_ : Int) (ho : 32 ≤ o ∧ o ≤ 46) (hb : 0 ≤ b_ ∧ b_ < 4294967296) (hx : K.wf x) (hi : K.iok x.i) : A.Tr Tryz.prog 53 #[.pointer (some ⟨b, 0, none⟩), .int .i64 o, .int .u32 b_] [A.blk b (K.wk x m)] (I := Unit) (fun _ => True) (fun _ => .tuple #[]) (fun _ => [A.blk b (K.wk (K.arith x o b_) m)]) := by
 intro w oo aa hh
 refine E.enter (n := 61) (S := oo) Tryz.func53 rfl rfl (by kernel_rfl) (A.start (L := [(b, (K.wk x m))]) hh) (E.C.seq (E.C.quiet (by kernel_rfl) (by kernel_rfl) (E.wo (E.pt b) (E.wo (E.pt b) (E.wo (E.pt b) (E.wo (.pointer (some ⟨b, 48, none⟩)) (E.wo (.pointer (some ⟨b, 49, none⟩)) (E.wv (E.i x.i.d) (fun w h => E.run_load h 0 rfl rfl (by kernel_rfl)) (E.wo (E.pt b) (E.wo (.pointer (some ⟨b, 24, none⟩)) (E.wo (.pointer (some ⟨b, 25, none⟩)) ?_)))))))))))
 refine E.wv (.pointer (some ⟨b, 25 + (x.i.d).toNat, none⟩)) (fun w h => E.idxI (e := 22) b 25 16 .i64 x.i.d (by kernel_rfl) (by kernel_rfl) (by kernel_rfl) (by kernel_rfl) (by have := hi.d; omega) w) (E.wo (.pointer (some ⟨b, 25 + (x.i.d).toNat, none⟩)) (E.W.done (E.To.code (E.wk [(0, E.pt b), (1, E.i o), (2, E.u b_), (6, .pointer (some ⟨b, 25 + (x.i.d).toNat, none⟩))] [(b, (K.wk x m))] Nz.sub (E.C.seq (E.sr (E.op (E.i o) (E.op (.bool (o == 43)) (E.op (.bool (o == 43)) (E.G.cut 3 [(0, E.pt b), (1, E.i o), (2, E.u b_), (6, .pointer (some ⟨b, 25 + (x.i.d).toNat, none⟩)), (23, .bool ((o == 43) && (b_ == 0)))] (A.X w oo aa []) [(b, (K.wk x m))] ?_ ?_))))))))))
 ·
  generalize hc1 : (o == 43) = b2
  cases b2
  ·
   exact E.sk (E.sk (E.op (.bool false) (E.G.end_pst ⟨by kernel_rfl, by kernel_rfl⟩ Nz.sub (fun _ h => h))))
  exact E.op (E.u b_) (E.op (.bool (b_ == 0)) (E.op (.bool (b_ == 0)) (E.G.end_pst ⟨by kernel_rfl, by kernel_rfl⟩ Nz.sub (fun _ h => h))))
 refine E.To.code (E.cd ((o == 43) && (b_ == 0)) (fun hc3 => ?_) (fun hc3 => ?_))
 ·
  refine E.sr (E.op (E.pt b) (E.vl (.agg #[E.i 6, E.u 0]) (fun w h => E.run_build #[E.i 6, E.u 0] (by kernel_rfl) w) (E.op (E.pt b) (E.op (.pointer (some ⟨b, 55, none⟩)) (E.st 0 (K.wk (⟨x.u, x.s, x.i, 6, 0⟩) m) rfl rfl (E.To.code (E.C.ret (E.P.rt (E.To.body (fn := Tryz.f53) [] ?_ ?_)))))))))
  · exact trivial
  intro w h
  have e : (K.arith x o b_) = ⟨x.u, x.s, x.i, 6, 0⟩ := by unfold K.arith; rw [hc3, cond_true] <;> rfl
  rw [e]
  exact ⟨(), trivial, rfl, A.dq [0] [] h⟩
 refine E.C.skip (E.To.code (E.C.joint (fun J up dn => ?_)))
 have rest : ∀ (g5 : Nat), J [(0, E.pt b), (6, .pointer (some ⟨b, 25 + (x.i.d).toNat, none⟩)), (7, E.pt g5)] (A.X w oo aa []) [(g5, [E.u ((K.res o (x.s.r ((x.i.d).toNat)) b_ (IntKind.wrap .i64 (bits .and .u32 (Int.fdiv x.u.f (2 ^ 1)) 1))).v), .bool ((K.res o (x.s.r ((x.i.d).toNat)) b_ (IntKind.wrap .i64 (bits .and .u32 (Int.fdiv x.u.f (2 ^ 1)) 1))).st), E.i ((K.res o (x.s.r ((x.i.d).toNat)) b_ (IntKind.wrap .i64 (bits .and .u32 (Int.fdiv x.u.f (2 ^ 1)) 1))).k), E.u ((K.res o (x.s.r ((x.i.d).toNat)) b_ (IntKind.wrap .i64 (bits .and .u32 (Int.fdiv x.u.f (2 ^ 1)) 1))).a), E.u ((K.res o (x.s.r ((x.i.d).toNat)) b_ (IntKind.wrap .i64 (bits .and .u32 (Int.fdiv x.u.f (2 ^ 1)) 1))).b)]), (b, (K.wk x m))] := by
  intro g5
  refine up _ _ _ (E.C.seq (E.sr (E.op (.pointer (some ⟨g5, 1, none⟩)) (E.li (.bool ((K.res o (x.s.r ((x.i.d).toNat)) b_ (IntKind.wrap .i64 (bits .and .u32 (Int.fdiv x.u.f (2 ^ 1)) 1))).st)) 0 rfl rfl (E.To.code (E.cd ((K.res o (x.s.r ((x.i.d).toNat)) b_ (IntKind.wrap .i64 (bits .and .u32 (Int.fdiv x.u.f (2 ^ 1)) 1))).st) (fun hc4 => ?_) (fun hc4 => ?_)))))))
  ·
   refine E.C.region (E.op (.pointer (some ⟨b, 25 + (x.i.d).toNat, none⟩)) (E.op (E.pt g5) (E.li (E.u ((K.res o (x.s.r ((x.i.d).toNat)) b_ (IntKind.wrap .i64 (bits .and .u32 (Int.fdiv x.u.f (2 ^ 1)) 1))).v)) 0 rfl rfl (E.op (.pointer (some ⟨b, 25 + (x.i.d).toNat, none⟩)) (E.G.store 1 (K.wk (⟨x.u, ⟨x.s.pc, (Q.up x.s.r (x.i.d).toNat ((K.res o (x.s.r ((x.i.d).toNat)) b_ (IntKind.wrap .i64 (bits .and .u32 (Int.fdiv x.u.f (2 ^ 1)) 1))).v)), x.s.f, x.s.c, x.s.st, x.s.du⟩, x.i, x.k, x.t⟩) m) rfl rfl (K.sto_s (x := x) (by kernel_rfl) (by have := hi.d; omega)) (by kernel_rfl) (E.tr (E.op (.pointer (some ⟨g5, 2, none⟩)) (E.li (E.i ((K.res o (x.s.r ((x.i.d).toNat)) b_ (IntKind.wrap .i64 (bits .and .u32 (Int.fdiv x.u.f (2 ^ 1)) 1))).k)) 0 rfl rfl (E.op (.bool (((K.res o (x.s.r ((x.i.d).toNat)) b_ (IntKind.wrap .i64 (bits .and .u32 (Int.fdiv x.u.f (2 ^ 1)) 1))).k) != 0)) (E.To.code (E.wk [(0, E.pt b), (7, E.pt g5), (52, .bool (((K.res o (x.s.r ((x.i.d).toNat)) b_ (IntKind.wrap .i64 (bits .and .u32 (Int.fdiv x.u.f (2 ^ 1)) 1))).k) != 0))] [(g5, [E.u ((K.res o (x.s.r ((x.i.d).toNat)) b_ (IntKind.wrap .i64 (bits .and .u32 (Int.fdiv x.u.f (2 ^ 1)) 1))).v), .bool ((K.res o (x.s.r ((x.i.d).toNat)) b_ (IntKind.wrap .i64 (bits .and .u32 (Int.fdiv x.u.f (2 ^ 1)) 1))).st), E.i ((K.res o (x.s.r ((x.i.d).toNat)) b_ (IntKind.wrap .i64 (bits .and .u32 (Int.fdiv x.u.f (2 ^ 1)) 1))).k), E.u ((K.res o (x.s.r ((x.i.d).toNat)) b_ (IntKind.wrap .i64 (bits .and .u32 (Int.fdiv x.u.f (2 ^ 1)) 1))).a), E.u ((K.res o (x.s.r ((x.i.d).toNat)) b_ (IntKind.wrap .i64 (bits .and .u32 (Int.fdiv x.u.f (2 ^ 1)) 1))).b)]), (b, (K.wk (⟨x.u, ⟨x.s.pc, (Q.up x.s.r (x.i.d).toNat ((K.res o (x.s.r ((x.i.d).toNat)) b_ (IntKind.wrap .i64 (bits .and .u32 (Int.fdiv x.u.f (2 ^ 1)) 1))).v)), x.s.f, x.s.c, x.s.st, x.s.du⟩, x.i, x.k, x.t⟩) m))] Nz.sub ?_)))))))))))
   refine E.cd (((K.res o (x.s.r ((x.i.d).toNat)) b_ (IntKind.wrap .i64 (bits .and .u32 (Int.fdiv x.u.f (2 ^ 1)) 1))).k) != 0) (fun hc5 => ?_) (fun hc5 => ?_)
   ·
    refine E.C.region (E.op (E.pt b) (E.op (.pointer (some ⟨g5, 2, none⟩)) (E.li (E.i ((K.res o (x.s.r ((x.i.d).toNat)) b_ (IntKind.wrap .i64 (bits .and .u32 (Int.fdiv x.u.f (2 ^ 1)) 1))).k)) 0 rfl rfl (E.op (.pointer (some ⟨g5, 3, none⟩)) (E.li (E.u ((K.res o (x.s.r ((x.i.d).toNat)) b_ (IntKind.wrap .i64 (bits .and .u32 (Int.fdiv x.u.f (2 ^ 1)) 1))).a)) 0 rfl rfl (E.op (.pointer (some ⟨g5, 4, none⟩)) (E.li (E.u ((K.res o (x.s.r ((x.i.d).toNat)) b_ (IntKind.wrap .i64 (bits .and .u32 (Int.fdiv x.u.f (2 ^ 1)) 1))).b)) 0 rfl rfl (A.G.call (I := Unit) (D := fun _ => True) (V := fun _ => .tuple #[]) (q := fun _ => [A.blk b (K.wk (K.flags (⟨x.u, ⟨x.s.pc, (Q.up x.s.r (x.i.d).toNat ((K.res o (x.s.r ((x.i.d).toNat)) b_ (IntKind.wrap .i64 (bits .and .u32 (Int.fdiv x.u.f (2 ^ 1)) 1))).v)), x.s.f, x.s.c, x.s.st, x.s.du⟩, x.i, x.k, x.t⟩ : K.W) ((K.res o (x.s.r ((x.i.d).toNat)) b_ (IntKind.wrap .i64 (bits .and .u32 (Int.fdiv x.u.f (2 ^ 1)) 1))).k) ((K.res o (x.s.r ((x.i.d).toNat)) b_ (IntKind.wrap .i64 (bits .and .u32 (Int.fdiv x.u.f (2 ^ 1)) 1))).a) ((K.res o (x.s.r ((x.i.d).toNat)) b_ (IntKind.wrap .i64 (bits .and .u32 (Int.fdiv x.u.f (2 ^ 1)) 1))).b)) m)]) [A.blk g5 ([E.u ((K.res o (x.s.r ((x.i.d).toNat)) b_ (IntKind.wrap .i64 (bits .and .u32 (Int.fdiv x.u.f (2 ^ 1)) 1))).v), .bool ((K.res o (x.s.r ((x.i.d).toNat)) b_ (IntKind.wrap .i64 (bits .and .u32 (Int.fdiv x.u.f (2 ^ 1)) 1))).st), E.i ((K.res o (x.s.r ((x.i.d).toNat)) b_ (IntKind.wrap .i64 (bits .and .u32 (Int.fdiv x.u.f (2 ^ 1)) 1))).k), E.u ((K.res o (x.s.r ((x.i.d).toNat)) b_ (IntKind.wrap .i64 (bits .and .u32 (Int.fdiv x.u.f (2 ^ 1)) 1))).a), E.u ((K.res o (x.s.r ((x.i.d).toNat)) b_ (IntKind.wrap .i64 (bits .and .u32 (Int.fdiv x.u.f (2 ^ 1)) 1))).b)])] (fun _ => [(b, (K.wk (K.flags (⟨x.u, ⟨x.s.pc, (Q.up x.s.r (x.i.d).toNat ((K.res o (x.s.r ((x.i.d).toNat)) b_ (IntKind.wrap .i64 (bits .and .u32 (Int.fdiv x.u.f (2 ^ 1)) 1))).v)), x.s.f, x.s.c, x.s.st, x.s.du⟩, x.i, x.k, x.t⟩ : K.W) ((K.res o (x.s.r ((x.i.d).toNat)) b_ (IntKind.wrap .i64 (bits .and .u32 (Int.fdiv x.u.f (2 ^ 1)) 1))).k) ((K.res o (x.s.r ((x.i.d).toNat)) b_ (IntKind.wrap .i64 (bits .and .u32 (Int.fdiv x.u.f (2 ^ 1)) 1))).a) ((K.res o (x.s.r ((x.i.d).toNat)) b_ (IntKind.wrap .i64 (bits .and .u32 (Int.fdiv x.u.f (2 ^ 1)) 1))).b)) m)), (g5, [E.u ((K.res o (x.s.r ((x.i.d).toNat)) b_ (IntKind.wrap .i64 (bits .and .u32 (Int.fdiv x.u.f (2 ^ 1)) 1))).v), .bool ((K.res o (x.s.r ((x.i.d).toNat)) b_ (IntKind.wrap .i64 (bits .and .u32 (Int.fdiv x.u.f (2 ^ 1)) 1))).st), E.i ((K.res o (x.s.r ((x.i.d).toNat)) b_ (IntKind.wrap .i64 (bits .and .u32 (Int.fdiv x.u.f (2 ^ 1)) 1))).k), E.u ((K.res o (x.s.r ((x.i.d).toNat)) b_ (IntKind.wrap .i64 (bits .and .u32 (Int.fdiv x.u.f (2 ^ 1)) 1))).a), E.u ((K.res o (x.s.r ((x.i.d).toNat)) b_ (IntKind.wrap .i64 (bits .and .u32 (Int.fdiv x.u.f (2 ^ 1)) 1))).b)])]) (fun _ => []) (Flags_w (b := b) (m := m) (⟨x.u, ⟨x.s.pc, (Q.up x.s.r (x.i.d).toNat ((K.res o (x.s.r ((x.i.d).toNat)) b_ (IntKind.wrap .i64 (bits .and .u32 (Int.fdiv x.u.f (2 ^ 1)) 1))).v)), x.s.f, x.s.c, x.s.st, x.s.du⟩, x.i, x.k, x.t⟩ : K.W) ((K.res o (x.s.r ((x.i.d).toNat)) b_ (IntKind.wrap .i64 (bits .and .u32 (Int.fdiv x.u.f (2 ^ 1)) 1))).k) ((K.res o (x.s.r ((x.i.d).toNat)) b_ (IntKind.wrap .i64 (bits .and .u32 (Int.fdiv x.u.f (2 ^ 1)) 1))).a) ((K.res o (x.s.r ((x.i.d).toNat)) b_ (IntKind.wrap .i64 (bits .and .u32 (Int.fdiv x.u.f (2 ^ 1)) 1))).b) (K.res_bd (hx.s.r _) hb).1 (K.res_bd (hx.s.r _) hb).2) (by kernel_rfl) (A.pn [1, 0]) (fun _ => A.pm [0, 1] (by kernel_rfl) (by kernel_rfl)) (fun w _ => by kernel_rfl) (by kernel_rfl) (fun _ hd6 => E.To.bodyN (fn := Tryz.f53) [] ?_ ?_)))))))))
    · exact trivial
    intro w h
    have e : (K.arith x o b_) = K.flags (⟨x.u, ⟨x.s.pc, (Q.up x.s.r (x.i.d).toNat ((K.res o (x.s.r ((x.i.d).toNat)) b_ (IntKind.wrap .i64 (bits .and .u32 (Int.fdiv x.u.f (2 ^ 1)) 1))).v)), x.s.f, x.s.c, x.s.st, x.s.du⟩, x.i, x.k, x.t⟩ : K.W) ((K.res o (x.s.r ((x.i.d).toNat)) b_ (IntKind.wrap .i64 (bits .and .u32 (Int.fdiv x.u.f (2 ^ 1)) 1))).k) ((K.res o (x.s.r ((x.i.d).toNat)) b_ (IntKind.wrap .i64 (bits .and .u32 (Int.fdiv x.u.f (2 ^ 1)) 1))).a) ((K.res o (x.s.r ((x.i.d).toNat)) b_ (IntKind.wrap .i64 (bits .and .u32 (Int.fdiv x.u.f (2 ^ 1)) 1))).b) := by unfold K.arith; rw [hc3, cond_false, hc4, cond_true, hc5, cond_true] <;> rfl
    rw [e]
    exact ⟨(), trivial, rfl, A.dq [0] [1] h⟩
   refine E.C.skip (E.To.bodyN (fn := Tryz.f53) [] ?_ ?_)
   · exact trivial
   intro w h
   have e : (K.arith x o b_) = ⟨x.u, ⟨x.s.pc, (Q.up x.s.r (x.i.d).toNat ((K.res o (x.s.r ((x.i.d).toNat)) b_ (IntKind.wrap .i64 (bits .and .u32 (Int.fdiv x.u.f (2 ^ 1)) 1))).v)), x.s.f, x.s.c, x.s.st, x.s.du⟩, x.i, x.k, x.t⟩ := by unfold K.arith; rw [hc3, cond_false, hc4, cond_true, hc5, cond_false] <;> rfl
   rw [e]
   exact ⟨(), trivial, rfl, A.dq [1] [0] h⟩
  refine E.C.skip (E.To.code (E.sr (E.op (.pointer (some ⟨g5, 2, none⟩)) (E.li (E.i ((K.res o (x.s.r ((x.i.d).toNat)) b_ (IntKind.wrap .i64 (bits .and .u32 (Int.fdiv x.u.f (2 ^ 1)) 1))).k)) 0 rfl rfl (E.op (.bool (((K.res o (x.s.r ((x.i.d).toNat)) b_ (IntKind.wrap .i64 (bits .and .u32 (Int.fdiv x.u.f (2 ^ 1)) 1))).k) != 0)) (E.To.code (E.cd (((K.res o (x.s.r ((x.i.d).toNat)) b_ (IntKind.wrap .i64 (bits .and .u32 (Int.fdiv x.u.f (2 ^ 1)) 1))).k) != 0) (fun hc7 => ?_) (fun hc7 => ?_))))))))
  ·
   refine E.C.region (E.op (E.pt b) (E.op (.pointer (some ⟨g5, 2, none⟩)) (E.li (E.i ((K.res o (x.s.r ((x.i.d).toNat)) b_ (IntKind.wrap .i64 (bits .and .u32 (Int.fdiv x.u.f (2 ^ 1)) 1))).k)) 0 rfl rfl (E.op (.pointer (some ⟨g5, 3, none⟩)) (E.li (E.u ((K.res o (x.s.r ((x.i.d).toNat)) b_ (IntKind.wrap .i64 (bits .and .u32 (Int.fdiv x.u.f (2 ^ 1)) 1))).a)) 0 rfl rfl (E.op (.pointer (some ⟨g5, 4, none⟩)) (E.li (E.u ((K.res o (x.s.r ((x.i.d).toNat)) b_ (IntKind.wrap .i64 (bits .and .u32 (Int.fdiv x.u.f (2 ^ 1)) 1))).b)) 0 rfl rfl (A.G.call (I := Unit) (D := fun _ => True) (V := fun _ => .tuple #[]) (q := fun _ => [A.blk b (K.wk (K.flags x ((K.res o (x.s.r ((x.i.d).toNat)) b_ (IntKind.wrap .i64 (bits .and .u32 (Int.fdiv x.u.f (2 ^ 1)) 1))).k) ((K.res o (x.s.r ((x.i.d).toNat)) b_ (IntKind.wrap .i64 (bits .and .u32 (Int.fdiv x.u.f (2 ^ 1)) 1))).a) ((K.res o (x.s.r ((x.i.d).toNat)) b_ (IntKind.wrap .i64 (bits .and .u32 (Int.fdiv x.u.f (2 ^ 1)) 1))).b)) m)]) [A.blk g5 ([E.u ((K.res o (x.s.r ((x.i.d).toNat)) b_ (IntKind.wrap .i64 (bits .and .u32 (Int.fdiv x.u.f (2 ^ 1)) 1))).v), .bool ((K.res o (x.s.r ((x.i.d).toNat)) b_ (IntKind.wrap .i64 (bits .and .u32 (Int.fdiv x.u.f (2 ^ 1)) 1))).st), E.i ((K.res o (x.s.r ((x.i.d).toNat)) b_ (IntKind.wrap .i64 (bits .and .u32 (Int.fdiv x.u.f (2 ^ 1)) 1))).k), E.u ((K.res o (x.s.r ((x.i.d).toNat)) b_ (IntKind.wrap .i64 (bits .and .u32 (Int.fdiv x.u.f (2 ^ 1)) 1))).a), E.u ((K.res o (x.s.r ((x.i.d).toNat)) b_ (IntKind.wrap .i64 (bits .and .u32 (Int.fdiv x.u.f (2 ^ 1)) 1))).b)])] (fun _ => [(b, (K.wk (K.flags x ((K.res o (x.s.r ((x.i.d).toNat)) b_ (IntKind.wrap .i64 (bits .and .u32 (Int.fdiv x.u.f (2 ^ 1)) 1))).k) ((K.res o (x.s.r ((x.i.d).toNat)) b_ (IntKind.wrap .i64 (bits .and .u32 (Int.fdiv x.u.f (2 ^ 1)) 1))).a) ((K.res o (x.s.r ((x.i.d).toNat)) b_ (IntKind.wrap .i64 (bits .and .u32 (Int.fdiv x.u.f (2 ^ 1)) 1))).b)) m)), (g5, [E.u ((K.res o (x.s.r ((x.i.d).toNat)) b_ (IntKind.wrap .i64 (bits .and .u32 (Int.fdiv x.u.f (2 ^ 1)) 1))).v), .bool ((K.res o (x.s.r ((x.i.d).toNat)) b_ (IntKind.wrap .i64 (bits .and .u32 (Int.fdiv x.u.f (2 ^ 1)) 1))).st), E.i ((K.res o (x.s.r ((x.i.d).toNat)) b_ (IntKind.wrap .i64 (bits .and .u32 (Int.fdiv x.u.f (2 ^ 1)) 1))).k), E.u ((K.res o (x.s.r ((x.i.d).toNat)) b_ (IntKind.wrap .i64 (bits .and .u32 (Int.fdiv x.u.f (2 ^ 1)) 1))).a), E.u ((K.res o (x.s.r ((x.i.d).toNat)) b_ (IntKind.wrap .i64 (bits .and .u32 (Int.fdiv x.u.f (2 ^ 1)) 1))).b)])]) (fun _ => []) (Flags_w (b := b) (m := m) x ((K.res o (x.s.r ((x.i.d).toNat)) b_ (IntKind.wrap .i64 (bits .and .u32 (Int.fdiv x.u.f (2 ^ 1)) 1))).k) ((K.res o (x.s.r ((x.i.d).toNat)) b_ (IntKind.wrap .i64 (bits .and .u32 (Int.fdiv x.u.f (2 ^ 1)) 1))).a) ((K.res o (x.s.r ((x.i.d).toNat)) b_ (IntKind.wrap .i64 (bits .and .u32 (Int.fdiv x.u.f (2 ^ 1)) 1))).b) (K.res_bd (hx.s.r _) hb).1 (K.res_bd (hx.s.r _) hb).2) (by kernel_rfl) (A.pn [1, 0]) (fun _ => A.pm [0, 1] (by kernel_rfl) (by kernel_rfl)) (fun w _ => by kernel_rfl) (by kernel_rfl) (fun _ hd8 => E.To.bodyN (fn := Tryz.f53) [] ?_ ?_)))))))))
   · exact trivial
   intro w h
   have e : (K.arith x o b_) = K.flags x ((K.res o (x.s.r ((x.i.d).toNat)) b_ (IntKind.wrap .i64 (bits .and .u32 (Int.fdiv x.u.f (2 ^ 1)) 1))).k) ((K.res o (x.s.r ((x.i.d).toNat)) b_ (IntKind.wrap .i64 (bits .and .u32 (Int.fdiv x.u.f (2 ^ 1)) 1))).a) ((K.res o (x.s.r ((x.i.d).toNat)) b_ (IntKind.wrap .i64 (bits .and .u32 (Int.fdiv x.u.f (2 ^ 1)) 1))).b) := by unfold K.arith; rw [hc3, cond_false, hc4, cond_false, hc7, cond_true] <;> rfl
   rw [e]
   exact ⟨(), trivial, rfl, A.dq [0] [1] h⟩
  refine E.C.skip (E.To.bodyN (fn := Tryz.f53) [] ?_ ?_)
  · exact trivial
  intro w h
  have e : (K.arith x o b_) = x := by unfold K.arith; rw [hc3, cond_false, hc4, cond_false, hc7, cond_false] <;> rfl
  rw [e]
  exact ⟨(), trivial, rfl, A.dq [1] [0] h⟩
 refine E.C.held (A.Y [A.blk b (K.wk x m)]) (by kernel_rfl) (E.tk 1 (E.i o) rfl (fun w h => A.hq [0] [] h) (E.tk 3 (.pointer (some ⟨b, 25 + (x.i.d).toNat, none⟩)) rfl (fun w h => A.hq [0] [] h) (E.tk 4 (.pointer (some ⟨b, 25 + (x.i.d).toNat, none⟩)) rfl (fun w h => A.hq [0] [] h) (E.tj 5 (E.u (x.s.r ((x.i.d).toNat))) rfl (fun w h => A.hq [0] [] h) (fun w h => A.Y.bld h (k := 0) (j := 25 + (x.i.d).toNat) rfl (by kernel_rfl) (K.ld_s (by kernel_rfl) (by have := hi.d; omega))) (E.tk 6 (E.u b_) rfl (fun w h => A.hq [0] [] h) (E.tk 7 (E.pt b) rfl (fun w h => A.hq [0] [] h) (E.tk 8 (E.pt b) rfl (fun w h => A.hq [0] [] h) (E.tk 9 (E.pt b) rfl (fun w h => A.hq [0] [] h) (E.tk 10 (.pointer (some ⟨b, 17, none⟩)) rfl (fun w h => A.hq [0] [] h) (E.tj 11 (E.u x.u.f) rfl (fun w h => A.hq [0] [] h) (fun w h => A.Y.bld h (k := 0) (j := 17) rfl (by kernel_rfl) (by kernel_rfl)) (E.tk 12 (E.u (Int.fdiv x.u.f (2 ^ 1))) rfl (fun w h => A.hq [0] [] h) ?_)))))))))))
 refine E.tk 13 (E.u (bits .and .u32 (Int.fdiv x.u.f (2 ^ 1)) 1)) rfl (fun w h => A.hq [0] [] h) (E.tk 14 (E.i (IntKind.wrap .i64 (bits .and .u32 (Int.fdiv x.u.f (2 ^ 1)) 1))) rfl (fun w h => A.hq [0] [] h) (E.al2 0 16 rfl rfl ?_ ?_))
 ·
  refine E.G.callX (I := Nat × Nat × (Nat → Nat)) (fun _ => True) (fun i => .map (some i.1)) (fun i u => (A.X w oo aa []) u ∧ E.Mp i.1 (K.opE i.2.1 i.2.2) 15 u) (fun i => K.opL i.2.1 i.2.2 ++ [(b, (K.wk x m))]) (fun w h => (operations_any w).mono fun e w1 ⟨i, he, hp⟩ => ⟨i, trivial, he, h.over hp (by kernel_rfl)⟩) (fun w _ => by kernel_rfl) (by kernel_rfl) (fun i4 _ => E.H.back (fun w h => A.hq [9] [0, 1, 2, 3, 4, 5, 6, 7, 8] (h.monoX fun _ k => k.1)) (E.al2 2 16 rfl rfl ?_ ?_))
  ·
   refine E.vl (K.opv i4.2.1 i4.2.2 o) (fun w h => E.look1 (by kernel_rfl) (by kernel_rfl) (K.look h.x.2 ho)) (E.G.monoX (fun _ k => k.1) (E.H.back (fun w h => A.hq [9] [0, 1, 2, 3, 4, 5, 6, 7, 8] h) (E.al2 15 16 rfl rfl ?_ ?_)))
   ·
    exact E.G.callv [E.u (x.s.r ((x.i.d).toNat)), E.u b_, E.i (IntKind.wrap .i64 (bits .and .u32 (Int.fdiv x.u.f (2 ^ 1)) 1))] (.agg #[E.u ((K.res o (x.s.r ((x.i.d).toNat)) b_ (IntKind.wrap .i64 (bits .and .u32 (Int.fdiv x.u.f (2 ^ 1)) 1))).v), .bool ((K.res o (x.s.r ((x.i.d).toNat)) b_ (IntKind.wrap .i64 (bits .and .u32 (Int.fdiv x.u.f (2 ^ 1)) 1))).st), E.i ((K.res o (x.s.r ((x.i.d).toNat)) b_ (IntKind.wrap .i64 (bits .and .u32 (Int.fdiv x.u.f (2 ^ 1)) 1))).k), E.u ((K.res o (x.s.r ((x.i.d).toNat)) b_ (IntKind.wrap .i64 (bits .and .u32 (Int.fdiv x.u.f (2 ^ 1)) 1))).a), E.u ((K.res o (x.s.r ((x.i.d).toNat)) b_ (IntKind.wrap .i64 (bits .and .u32 (Int.fdiv x.u.f (2 ^ 1)) 1))).b)]) rfl rfl (fun w _ => K.opgo ho _ w) (fun w h => K.opcall (l := i4.2.1) (c := i4.2.2) (L := [(b, (K.wk x m))]) h (x.s.r ((x.i.d).toNat)) b_ (IntKind.wrap .i64 (bits .and .u32 (Int.fdiv x.u.f (2 ^ 1)) 1)) ho (hx.s.r _) hb) (by kernel_rfl) (E.H.back (fun w h => A.hq [9] [0, 1, 2, 3, 4, 5, 6, 7, 8] h) (E.al 16 rfl (E.nw [E.u 0, .bool false, E.i 0, E.u 0, E.u 0] 144 (fun g5 => E.H.back (fun w h => A.hq [10] [0, 1, 2, 3, 4, 5, 6, 7, 8, 9] h) (E.al 17 rfl (E.st 0 [E.u ((K.res o (x.s.r ((x.i.d).toNat)) b_ (IntKind.wrap .i64 (bits .and .u32 (Int.fdiv x.u.f (2 ^ 1)) 1))).v), .bool ((K.res o (x.s.r ((x.i.d).toNat)) b_ (IntKind.wrap .i64 (bits .and .u32 (Int.fdiv x.u.f (2 ^ 1)) 1))).st), E.i ((K.res o (x.s.r ((x.i.d).toNat)) b_ (IntKind.wrap .i64 (bits .and .u32 (Int.fdiv x.u.f (2 ^ 1)) 1))).k), E.u ((K.res o (x.s.r ((x.i.d).toNat)) b_ (IntKind.wrap .i64 (bits .and .u32 (Int.fdiv x.u.f (2 ^ 1)) 1))).a), E.u ((K.res o (x.s.r ((x.i.d).toNat)) b_ (IntKind.wrap .i64 (bits .and .u32 (Int.fdiv x.u.f (2 ^ 1)) 1))).b)] rfl rfl (E.H.back (fun w h => A.hq [10] [0, 1, 2, 3, 4, 5, 6, 7, 8, 9] h) (E.H.done (by kernel_rfl) (fun a w h1 h2 => dn _ _ _ (rest g5) a w (h1.sub ⟨by kernel_rfl, by kernel_rfl⟩) (h2.less Nz.sub))))))))))
   exact E.nw [E.u 0, .bool false, E.i 0, E.u 0, E.u 0] 144 (fun g6 => E.H.back (fun w h => A.hq [10] [0, 1, 2, 3, 4, 5, 6, 7, 8, 9] h) (E.al 15 rfl (E.G.callv [E.u (x.s.r ((x.i.d).toNat)), E.u b_, E.i (IntKind.wrap .i64 (bits .and .u32 (Int.fdiv x.u.f (2 ^ 1)) 1))] (.agg #[E.u ((K.res o (x.s.r ((x.i.d).toNat)) b_ (IntKind.wrap .i64 (bits .and .u32 (Int.fdiv x.u.f (2 ^ 1)) 1))).v), .bool ((K.res o (x.s.r ((x.i.d).toNat)) b_ (IntKind.wrap .i64 (bits .and .u32 (Int.fdiv x.u.f (2 ^ 1)) 1))).st), E.i ((K.res o (x.s.r ((x.i.d).toNat)) b_ (IntKind.wrap .i64 (bits .and .u32 (Int.fdiv x.u.f (2 ^ 1)) 1))).k), E.u ((K.res o (x.s.r ((x.i.d).toNat)) b_ (IntKind.wrap .i64 (bits .and .u32 (Int.fdiv x.u.f (2 ^ 1)) 1))).a), E.u ((K.res o (x.s.r ((x.i.d).toNat)) b_ (IntKind.wrap .i64 (bits .and .u32 (Int.fdiv x.u.f (2 ^ 1)) 1))).b)]) rfl rfl (fun w _ => K.opgo ho _ w) (fun w h => K.opcall (l := i4.2.1) (c := i4.2.2) (L := [(b, (K.wk x m))]) (h.less Nz.sub) (x.s.r ((x.i.d).toNat)) b_ (IntKind.wrap .i64 (bits .and .u32 (Int.fdiv x.u.f (2 ^ 1)) 1)) ho (hx.s.r _) hb) (by kernel_rfl) (E.H.back (fun w h => A.hq [10] [0, 1, 2, 3, 4, 5, 6, 7, 8, 9] h) (E.al 17 rfl (E.st 0 [E.u ((K.res o (x.s.r ((x.i.d).toNat)) b_ (IntKind.wrap .i64 (bits .and .u32 (Int.fdiv x.u.f (2 ^ 1)) 1))).v), .bool ((K.res o (x.s.r ((x.i.d).toNat)) b_ (IntKind.wrap .i64 (bits .and .u32 (Int.fdiv x.u.f (2 ^ 1)) 1))).st), E.i ((K.res o (x.s.r ((x.i.d).toNat)) b_ (IntKind.wrap .i64 (bits .and .u32 (Int.fdiv x.u.f (2 ^ 1)) 1))).k), E.u ((K.res o (x.s.r ((x.i.d).toNat)) b_ (IntKind.wrap .i64 (bits .and .u32 (Int.fdiv x.u.f (2 ^ 1)) 1))).a), E.u ((K.res o (x.s.r ((x.i.d).toNat)) b_ (IntKind.wrap .i64 (bits .and .u32 (Int.fdiv x.u.f (2 ^ 1)) 1))).b)] rfl rfl (E.H.back (fun w h => A.hq [10] [0, 1, 2, 3, 4, 5, 6, 7, 8, 9] h) (E.H.done (by kernel_rfl) (fun a w h1 h2 => dn _ _ _ (rest g6) a w (h1.sub ⟨by kernel_rfl, by kernel_rfl⟩) (h2.less Nz.sub))))))))))
  refine E.nw [E.u 0, .bool false, E.i 0, E.u 0, E.u 0] 144 (fun g7 => E.H.back (fun w h => A.hq [10] [0, 1, 2, 3, 4, 5, 6, 7, 8, 9] (h.monoX fun _ k => k.1)) (E.al 2 rfl (E.vl (K.opv i4.2.1 i4.2.2 o) (fun w h => E.look1 (by kernel_rfl) (by kernel_rfl) (K.look h.x.2 ho)) (E.G.monoX (fun _ k => k.1) (E.H.back (fun w h => A.hq [10] [0, 1, 2, 3, 4, 5, 6, 7, 8, 9] h) (E.al 15 rfl (E.G.callv [E.u (x.s.r ((x.i.d).toNat)), E.u b_, E.i (IntKind.wrap .i64 (bits .and .u32 (Int.fdiv x.u.f (2 ^ 1)) 1))] (.agg #[E.u ((K.res o (x.s.r ((x.i.d).toNat)) b_ (IntKind.wrap .i64 (bits .and .u32 (Int.fdiv x.u.f (2 ^ 1)) 1))).v), .bool ((K.res o (x.s.r ((x.i.d).toNat)) b_ (IntKind.wrap .i64 (bits .and .u32 (Int.fdiv x.u.f (2 ^ 1)) 1))).st), E.i ((K.res o (x.s.r ((x.i.d).toNat)) b_ (IntKind.wrap .i64 (bits .and .u32 (Int.fdiv x.u.f (2 ^ 1)) 1))).k), E.u ((K.res o (x.s.r ((x.i.d).toNat)) b_ (IntKind.wrap .i64 (bits .and .u32 (Int.fdiv x.u.f (2 ^ 1)) 1))).a), E.u ((K.res o (x.s.r ((x.i.d).toNat)) b_ (IntKind.wrap .i64 (bits .and .u32 (Int.fdiv x.u.f (2 ^ 1)) 1))).b)]) rfl rfl (fun w _ => K.opgo ho _ w) (fun w h => K.opcall (l := i4.2.1) (c := i4.2.2) (L := [(b, (K.wk x m))]) (h.less Nz.sub) (x.s.r ((x.i.d).toNat)) b_ (IntKind.wrap .i64 (bits .and .u32 (Int.fdiv x.u.f (2 ^ 1)) 1)) ho (hx.s.r _) hb) (by kernel_rfl) (E.H.back (fun w h => A.hq [10] [0, 1, 2, 3, 4, 5, 6, 7, 8, 9] h) (E.al 17 rfl (E.st 0 [E.u ((K.res o (x.s.r ((x.i.d).toNat)) b_ (IntKind.wrap .i64 (bits .and .u32 (Int.fdiv x.u.f (2 ^ 1)) 1))).v), .bool ((K.res o (x.s.r ((x.i.d).toNat)) b_ (IntKind.wrap .i64 (bits .and .u32 (Int.fdiv x.u.f (2 ^ 1)) 1))).st), E.i ((K.res o (x.s.r ((x.i.d).toNat)) b_ (IntKind.wrap .i64 (bits .and .u32 (Int.fdiv x.u.f (2 ^ 1)) 1))).k), E.u ((K.res o (x.s.r ((x.i.d).toNat)) b_ (IntKind.wrap .i64 (bits .and .u32 (Int.fdiv x.u.f (2 ^ 1)) 1))).a), E.u ((K.res o (x.s.r ((x.i.d).toNat)) b_ (IntKind.wrap .i64 (bits .and .u32 (Int.fdiv x.u.f (2 ^ 1)) 1))).b)] rfl rfl (E.H.back (fun w h => A.hq [10] [0, 1, 2, 3, 4, 5, 6, 7, 8, 9] h) ?_)))))))))))
  exact E.H.done (by kernel_rfl) (fun a w h1 h2 => dn _ _ _ (rest g7) a w (h1.sub ⟨by kernel_rfl, by kernel_rfl⟩) (h2.less Nz.sub))
 refine E.nw [E.u 0, .bool false, E.i 0, E.u 0, E.u 0] 144 (fun g8 => E.H.back (fun w h => A.hq [1] [0] h) (E.al 0 rfl (E.G.callX (I := Nat × Nat × (Nat → Nat)) (fun _ => True) (fun i => .map (some i.1)) (fun i u => (A.X w oo aa []) u ∧ E.Mp i.1 (K.opE i.2.1 i.2.2) 15 u) (fun i => K.opL i.2.1 i.2.2 ++ [(g8, [E.u 0, .bool false, E.i 0, E.u 0, E.u 0]), (b, (K.wk x m))]) (fun w h => (operations_any w).mono fun e w1 ⟨i, he, hp⟩ => ⟨i, trivial, he, h.over hp (by kernel_rfl)⟩) (fun w _ => by kernel_rfl) (by kernel_rfl) (fun i9 _ => E.H.back (fun w h => A.hq [10] [0, 1, 2, 3, 4, 5, 6, 7, 8, 9] (h.monoX fun _ k => k.1)) (E.al 2 rfl (E.vl (K.opv i9.2.1 i9.2.2 o) (fun w h => E.look1 (by kernel_rfl) (by kernel_rfl) (K.look h.x.2 ho)) (E.G.monoX (fun _ k => k.1) (E.H.back (fun w h => A.hq [10] [0, 1, 2, 3, 4, 5, 6, 7, 8, 9] h) (E.al 15 rfl (E.G.callv [E.u (x.s.r ((x.i.d).toNat)), E.u b_, E.i (IntKind.wrap .i64 (bits .and .u32 (Int.fdiv x.u.f (2 ^ 1)) 1))] (.agg #[E.u ((K.res o (x.s.r ((x.i.d).toNat)) b_ (IntKind.wrap .i64 (bits .and .u32 (Int.fdiv x.u.f (2 ^ 1)) 1))).v), .bool ((K.res o (x.s.r ((x.i.d).toNat)) b_ (IntKind.wrap .i64 (bits .and .u32 (Int.fdiv x.u.f (2 ^ 1)) 1))).st), E.i ((K.res o (x.s.r ((x.i.d).toNat)) b_ (IntKind.wrap .i64 (bits .and .u32 (Int.fdiv x.u.f (2 ^ 1)) 1))).k), E.u ((K.res o (x.s.r ((x.i.d).toNat)) b_ (IntKind.wrap .i64 (bits .and .u32 (Int.fdiv x.u.f (2 ^ 1)) 1))).a), E.u ((K.res o (x.s.r ((x.i.d).toNat)) b_ (IntKind.wrap .i64 (bits .and .u32 (Int.fdiv x.u.f (2 ^ 1)) 1))).b)]) rfl rfl (fun w _ => K.opgo ho _ w) (fun w h => K.opcall (l := i9.2.1) (c := i9.2.2) (L := [(g8, [E.u 0, .bool false, E.i 0, E.u 0, E.u 0]), (b, (K.wk x m))]) h (x.s.r ((x.i.d).toNat)) b_ (IntKind.wrap .i64 (bits .and .u32 (Int.fdiv x.u.f (2 ^ 1)) 1)) ho (hx.s.r _) hb) (by kernel_rfl) (E.H.back (fun w h => A.hq [10] [0, 1, 2, 3, 4, 5, 6, 7, 8, 9] h) ?_)))))))))))
 exact E.al 17 rfl (E.st 9 [E.u ((K.res o (x.s.r ((x.i.d).toNat)) b_ (IntKind.wrap .i64 (bits .and .u32 (Int.fdiv x.u.f (2 ^ 1)) 1))).v), .bool ((K.res o (x.s.r ((x.i.d).toNat)) b_ (IntKind.wrap .i64 (bits .and .u32 (Int.fdiv x.u.f (2 ^ 1)) 1))).st), E.i ((K.res o (x.s.r ((x.i.d).toNat)) b_ (IntKind.wrap .i64 (bits .and .u32 (Int.fdiv x.u.f (2 ^ 1)) 1))).k), E.u ((K.res o (x.s.r ((x.i.d).toNat)) b_ (IntKind.wrap .i64 (bits .and .u32 (Int.fdiv x.u.f (2 ^ 1)) 1))).a), E.u ((K.res o (x.s.r ((x.i.d).toNat)) b_ (IntKind.wrap .i64 (bits .and .u32 (Int.fdiv x.u.f (2 ^ 1)) 1))).b)] rfl rfl (E.H.back (fun w h => A.hq [10] [0, 1, 2, 3, 4, 5, 6, 7, 8, 9] h) (E.H.done (by kernel_rfl) (fun a w h1 h2 => dn _ _ _ (rest g8) a w (h1.sub ⟨by kernel_rfl, by kernel_rfl⟩) (h2.less Nz.sub)))))
theorem K.wr_len (k : Nat) (hk : k < 11) (i : K.Ins) : ((K.wr k i).length : Int) + 1 = K.len k := by
  rcases (by omega : k = 0 ∨ k = 1 ∨ k = 2 ∨ k = 3 ∨ k = 4 ∨ k = 5 ∨ k = 6 ∨ k = 7 ∨ k = 8 ∨ k = 9 ∨ k = 10) with rfl | rfl | rfl | rfl | rfl | rfl | rfl | rfl | rfl | rfl | rfl <;> rfl
theorem K.len_bd (k : Nat) (hk : k < 11) : 1 ≤ K.len k ∧ K.len k ≤ 7 := by
  rcases (by omega : k = 0 ∨ k = 1 ∨ k = 2 ∨ k = 3 ∨ k = 4 ∨ k = 5 ∨ k = 6 ∨ k = 7 ∨ k = 8 ∨ k = 9 ∨ k = 10) with rfl | rfl | rfl | rfl | rfl | rfl | rfl | rfl | rfl | rfl | rfl <;> decide
theorem K.vs (k : Nat) (hk : k < 11) (i : K.Ins) : (strOfNums [IntKind.wrap .u8 i.op] ++ strOfNums (K.wr k i)).size ≤ maxLen ∧ K.len k ≤ ((strOfNums [IntKind.wrap .u8 i.op] ++ strOfNums (K.wr k i)).size : Int) := by
  have h1 := K.wr_len k hk i
  have h2 := K.len_bd k hk
  rw [ByteArray.size_append, strOfNums_size, strOfNums_size]
  unfold maxLen
  simp only [List.length_cons, List.length_nil]
  omega
theorem K.in_of {i : K.Ins} {b : Bool} (hm : 0 ≤ i.imm ∧ i.imm < 4294967296) (h : (b || (!(K.rng i))) = false) : K.In i := by
  have hr : K.rng i = true := by cases hq : K.rng i <;> simp_all
  unfold K.rng at hr
  simp only [K.in_one, Bool.and_eq_true, decide_eq_true_eq] at hr
  obtain ⟨⟨a0, a1⟩, ⟨b0, b1⟩, ⟨c0, c1⟩, d0, d1⟩ := hr
  have hmo : K.most i.op ≤ 7 := by unfold K.most; split <;> (try split) <;> omega
  exact ⟨a0, a1, b0, by omega, c0, c1, d0, d1, hm.1, hm.2⟩

def K.valid0 (i : K.Ins) : Bool := false
theorem Valid_none (i : K.Ins) (hk : K.fmt i.op = none) (w : World) : Calls Tryz.prog 108 #[.agg #[.int .i64 i.op, .int .i64 i.d, .int .i64 i.s, .int .i64 i.ix, .int .i64 i.sc, .int .u32 i.imm, .int .i64 i.sz]] w fun e w' => e = .returned (.bool (K.valid0 i)) ∧ Bel w w' := by
 refine E.enter (n := 39) (S := fun _ => False) Tryz.func108 rfl rfl (by kernel_rfl) (E.Hp.start w) (E.sr (E.nw [E.i i.op, E.i i.d, E.i i.s, E.i i.ix, E.i i.sc, E.u i.imm, E.i i.sz] 66 (fun g1 => E.op (.bool false) (E.tr (E.op (E.pt g1) (E.li (E.i i.op) 0 rfl rfl (E.ca (.tuple #[.agg #[E.i 0, E.i 0, E.i 0, .nilFunc, .nilFunc], .bool false]) (fun w h => find_none hk w) (E.op (.tuple #[.agg #[E.i 0, E.i 0, E.i 0, .nilFunc, .nilFunc], .bool false]) (E.op (.agg #[E.i 0, E.i 0, E.i 0, .nilFunc, .nilFunc]) (E.op (.bool false) (E.nw [E.i 0, E.i 0, E.i 0, .nilFunc, .nilFunc] 174 (fun g2 => ?_))))))))))))
 refine E.st 0 [E.i 0, E.i 0, E.i 0, .nilFunc, .nilFunc] rfl rfl (E.op (.bool false) (E.To.code (E.C.seq (E.sr (E.op (.bool false) (E.op (.bool true) (E.op (.bool true) (E.sk (E.sk (E.sk (E.sk ?_)))))))))))
 refine E.sk (E.op (.bool true) (E.op (.bool true) (E.sk (E.sk (E.sk (E.op (.bool true) (E.To.code (E.wk [(1, E.pt g1), (2, .bool false), (3, E.pt g2), (24, .bool true)] [(g2, [E.i 0, E.i 0, E.i 0, .nilFunc, .nilFunc]), (g1, [E.i i.op, E.i i.d, E.i i.s, E.i i.ix, E.i i.sc, E.u i.imm, E.i i.sz])] Nz.sub (E.C.condT (by kernel_rfl) (by kernel_rfl) (E.sr (E.op (.bool false) ?_)))))))))))
 exact E.To.code (E.C.ret (E.P.rt (E.bd Tryz.f108 [.bool false] (fun w h => ⟨rfl, h.ch.bel (fun _ h => h.elim)⟩))))

def K.valid1 (k : Nat) (i : K.Ins) : Bool := (bif ((i.sz != (K.len k)) || (!(K.rng i))) then false else ((((K.rd k (((strOfNums [(IntKind.wrap .u8 i.op)]) ++ (strOfNums (K.wr k i)))).data.toList (K.len k))).op == i.op) && (((K.rd k (((strOfNums [(IntKind.wrap .u8 i.op)]) ++ (strOfNums (K.wr k i)))).data.toList (K.len k))).d == i.d) && (((K.rd k (((strOfNums [(IntKind.wrap .u8 i.op)]) ++ (strOfNums (K.wr k i)))).data.toList (K.len k))).s == i.s) && (((K.rd k (((strOfNums [(IntKind.wrap .u8 i.op)]) ++ (strOfNums (K.wr k i)))).data.toList (K.len k))).ix == i.ix) && (((K.rd k (((strOfNums [(IntKind.wrap .u8 i.op)]) ++ (strOfNums (K.wr k i)))).data.toList (K.len k))).sc == i.sc) && (((K.rd k (((strOfNums [(IntKind.wrap .u8 i.op)]) ++ (strOfNums (K.wr k i)))).data.toList (K.len k))).imm == i.imm) && (((K.rd k (((strOfNums [(IntKind.wrap .u8 i.op)]) ++ (strOfNums (K.wr k i)))).data.toList (K.len k))).sz == i.sz)))
theorem Valid_some (k : Nat) (i : K.Ins) (hk : K.fmt i.op = some k) (hm : 0 ≤ i.imm ∧ i.imm < 4294967296) (w : World) : Calls Tryz.prog 108 #[.agg #[.int .i64 i.op, .int .i64 i.d, .int .i64 i.s, .int .i64 i.ix, .int .i64 i.sc, .int .u32 i.imm, .int .i64 i.sz]] w fun e w' => e = .returned (.bool (K.valid1 k i)) ∧ Bel w w' := by
 refine E.enter (n := 39) (S := fun _ => False) Tryz.func108 rfl rfl (by kernel_rfl) (E.Hp.start w) (E.sr (E.nw [E.i i.op, E.i i.d, E.i i.s, E.i i.ix, E.i i.sc, E.u i.imm, E.i i.sz] 66 (fun g1 => E.op (.bool false) (E.tr (E.op (E.pt g1) (E.li (E.i i.op) 0 rfl rfl (E.G.callX (I := FuncId × Array Value × FuncId × Array Value) (fun _ => True) (fun i => .tuple #[.agg #[E.i (K.lo k), E.i (K.hi k), E.i (K.len k), .func (.func i.1) #[] i.2.1, .func (.func i.2.2.1) #[] i.2.2.2], .bool true]) (fun i => fun w => (fun _ => True) w ∧ K.Fm k (.func (.func i.1) #[] i.2.1) (.func (.func i.2.2.1) #[] i.2.2.2) w) (fun _ => [(g1, [E.i i.op, E.i i.d, E.i i.s, E.i i.ix, E.i i.sc, E.u i.imm, E.i i.sz])]) (fun w h => find_hp hk (by unfold K.intB; simp [E.i]) w h) (fun w _ => by kernel_rfl) (by kernel_rfl) (fun i _ => ?_))))))))
 obtain ⟨Fq2, csq2, Gq2, dsq2⟩ := i
 refine E.op (.tuple #[.agg #[E.i (K.lo k), E.i (K.hi k), E.i (K.len k), .func (.func Fq2) #[] csq2, .func (.func Gq2) #[] dsq2], .bool true]) (E.op (.agg #[E.i (K.lo k), E.i (K.hi k), E.i (K.len k), .func (.func Fq2) #[] csq2, .func (.func Gq2) #[] dsq2]) (E.op (.bool true) (E.nw [E.i 0, E.i 0, E.i 0, .nilFunc, .nilFunc] 174 (fun g3 => E.st 0 [E.i (K.lo k), E.i (K.hi k), E.i (K.len k), .func (.func Fq2) #[] csq2, .func (.func Gq2) #[] dsq2] rfl rfl (E.op (.bool true) (E.To.code (E.C.seq (E.sr (E.op (.bool true) (E.op (.bool false) (E.op (.bool false) ?_)))))))))))
 refine E.op (.pointer (some ⟨g1, 6, none⟩)) (E.li (E.i i.sz) 1 rfl rfl (E.op (.pointer (some ⟨g3, 2, none⟩)) (E.li (E.i (K.len k)) 0 rfl rfl (E.op (.bool (i.sz != (K.len k))) (E.op (.bool (i.sz != (K.len k))) (E.op (.bool (i.sz != (K.len k))) (E.G.cut 4 [(1, E.pt g1), (2, .bool false), (3, E.pt g3), (24, .bool ((i.sz != (K.len k)) || (!(K.rng i))))] (fun w => (fun _ => True) w ∧ K.Fm k (.func (.func Fq2) #[] csq2) (.func (.func Gq2) #[] dsq2) w) [(g3, [E.i (K.lo k), E.i (K.hi k), E.i (K.len k), .func (.func Fq2) #[] csq2, .func (.func Gq2) #[] dsq2]), (g1, [E.i i.op, E.i i.d, E.i i.s, E.i i.ix, E.i i.sc, E.u i.imm, E.i i.sz])] ?_ ?_)))))))
 ·
  generalize hc4 : (i.sz != (K.len k)) = b5
  cases b5
  ·
   exact E.li (.agg #[E.i i.op, E.i i.d, E.i i.s, E.i i.ix, E.i i.sc, E.u i.imm, E.i i.sz]) 1 rfl rfl (E.ca (.bool (K.rng i)) (fun w h => ranges_any i w) (E.op (.bool (!(K.rng i))) (E.op (.bool (!(K.rng i))) (E.G.end_pst ⟨by kernel_rfl, by kernel_rfl⟩ Nz.sub (fun _ h => h)))))
  exact E.sk (E.sk (E.sk (E.op (.bool true) (E.G.end_pst ⟨by kernel_rfl, by kernel_rfl⟩ Nz.sub (fun _ h => h)))))
 refine E.To.code (E.cd ((i.sz != (K.len k)) || (!(K.rng i))) (fun hc6 => ?_) (fun hc6 => ?_))
 ·
  exact E.sr (E.op (.bool false) (E.To.code (E.C.ret (E.P.rt (E.bd Tryz.f108 [.bool false] (fun w h => ⟨by unfold K.valid1; rw [hc6, cond_true] <;> rfl, h.ch.bel (fun _ h => h.elim)⟩))))))
 refine E.C.skip (E.To.code (E.C.seq (E.C.held (E.Hp (fun _ => False) w (fun w => (fun _ => True) w ∧ K.Fm k (.func (.func Fq2) #[] csq2) (.func (.func Gq2) #[] dsq2) w) [(g3, [E.i (K.lo k), E.i (K.hi k), E.i (K.len k), .func (.func Fq2) #[] csq2, .func (.func Gq2) #[] dsq2]), (g1, [E.i i.op, E.i i.d, E.i i.s, E.i i.ix, E.i i.sc, E.u i.imm, E.i i.sz])]) (by kernel_rfl) (E.tj 0 (.agg #[E.i (K.lo k), E.i (K.hi k), E.i (K.len k), .func (.func Fq2) #[] csq2, .func (.func Gq2) #[] dsq2]) rfl (fun w h => h) (fun w h => E.run_load h 0 rfl rfl (by kernel_rfl)) (E.tk 1 (E.pt g1) rfl (fun w h => h) (E.tj 2 (E.i i.op) rfl (fun w h => h) (fun w h => E.run_load h 1 rfl rfl (by kernel_rfl)) (E.tk 3 (.int .u8 (IntKind.wrap .u8 i.op)) rfl (fun w h => h) (E.tk 6 (.pointer (some ⟨g3, 4, none⟩)) rfl (fun w h => h) (E.tj 7 (.func (.func Gq2) #[] dsq2) rfl (fun w h => h) (fun w h => E.run_load h 0 rfl rfl (by kernel_rfl)) (E.tj 8 (.agg #[E.i i.op, E.i i.d, E.i i.s, E.i i.ix, E.i i.sc, E.u i.imm, E.i i.sz]) rfl (fun w h => h) (fun w h => E.run_load h 1 rfl rfl (by kernel_rfl)) (E.tj 12 (.agg #[E.i i.op, E.i i.d, E.i i.s, E.i i.ix, E.i i.sc, E.u i.imm, E.i i.sz]) rfl (fun w h => h) (fun w h => E.run_load h 1 rfl rfl (by kernel_rfl)) (E.al2 4 9 rfl rfl ?_ ?_))))))))))))
 ·
  refine E.G.buildSlice [.int .u8 (IntKind.wrap .u8 i.op)] (by kernel_rfl) (by kernel_rfl) (fun g7 => E.bk (E.al2 5 9 rfl rfl ?_ ?_))
  ·
   refine E.vl (.string (strOfNums [(IntKind.wrap .u8 i.op)])) (fun w h => E.b2s h 0 g7 0 1 1 [(IntKind.wrap .u8 i.op)] (e := 5) (by kernel_rfl) (by kernel_rfl) (by kernel_rfl) (by kernel_rfl) rfl (by kernel_rfl) rfl) (E.bk (E.al 9 rfl (E.G.callv (G := Gq2) (ds := dsq2) [.agg #[E.i i.op, E.i i.d, E.i i.s, E.i i.ix, E.i i.sc, E.u i.imm, E.i i.sz]] (.string (strOfNums (K.wr k i))) (by kernel_rfl) (by kernel_rfl) (fun w h => K.enter_at (K.fmt_lt hk) h.x.2 _ _) (fun w h => kput_at (K.fmt_lt hk) h.x.2 (K.in_of hm hc6)) (by kernel_rfl) (E.bk (E.tb 10 (.string ((strOfNums [(IntKind.wrap .u8 i.op)]) ++ (strOfNums (K.wr k i)))) rfl (fun w h => E.cat (strOfNums [(IntKind.wrap .u8 i.op)]) (strOfNums (K.wr k i)) (by kernel_rfl) (by kernel_rfl) (by rw [strOfNums_size, strOfNums_size]; have := K.wr_len k (K.fmt_lt hk) i; have := K.len_bd k (K.fmt_lt hk); simp only [List.length_cons, List.length_nil]; omega) w) (E.al 11 rfl (E.ca (.agg #[E.i (((K.rd k (((strOfNums [(IntKind.wrap .u8 i.op)]) ++ (strOfNums (K.wr k i)))).data.toList (K.len k))).op), E.i (((K.rd k (((strOfNums [(IntKind.wrap .u8 i.op)]) ++ (strOfNums (K.wr k i)))).data.toList (K.len k))).d), E.i (((K.rd k (((strOfNums [(IntKind.wrap .u8 i.op)]) ++ (strOfNums (K.wr k i)))).data.toList (K.len k))).s), E.i (((K.rd k (((strOfNums [(IntKind.wrap .u8 i.op)]) ++ (strOfNums (K.wr k i)))).data.toList (K.len k))).ix), E.i (((K.rd k (((strOfNums [(IntKind.wrap .u8 i.op)]) ++ (strOfNums (K.wr k i)))).data.toList (K.len k))).sc), E.u (((K.rd k (((strOfNums [(IntKind.wrap .u8 i.op)]) ++ (strOfNums (K.wr k i)))).data.toList (K.len k))).imm), E.i (((K.rd k (((strOfNums [(IntKind.wrap .u8 i.op)]) ++ (strOfNums (K.wr k i)))).data.toList (K.len k))).sz)]) (fun w h => read_any k (K.fmt_lt hk) _ _ w h.x.2 ((strOfNums [(IntKind.wrap .u8 i.op)]) ++ (strOfNums (K.wr k i))) (K.vs k (K.fmt_lt hk) i).1 (K.vs k (K.fmt_lt hk) i).2) (E.bk (E.tb 13 (.bool ((((K.rd k (((strOfNums [(IntKind.wrap .u8 i.op)]) ++ (strOfNums (K.wr k i)))).data.toList (K.len k))).op == i.op) && (((K.rd k (((strOfNums [(IntKind.wrap .u8 i.op)]) ++ (strOfNums (K.wr k i)))).data.toList (K.len k))).d == i.d) && (((K.rd k (((strOfNums [(IntKind.wrap .u8 i.op)]) ++ (strOfNums (K.wr k i)))).data.toList (K.len k))).s == i.s) && (((K.rd k (((strOfNums [(IntKind.wrap .u8 i.op)]) ++ (strOfNums (K.wr k i)))).data.toList (K.len k))).ix == i.ix) && (((K.rd k (((strOfNums [(IntKind.wrap .u8 i.op)]) ++ (strOfNums (K.wr k i)))).data.toList (K.len k))).sc == i.sc) && (((K.rd k (((strOfNums [(IntKind.wrap .u8 i.op)]) ++ (strOfNums (K.wr k i)))).data.toList (K.len k))).imm == i.imm) && (((K.rd k (((strOfNums [(IntKind.wrap .u8 i.op)]) ++ (strOfNums (K.wr k i)))).data.toList (K.len k))).sz == i.sz))) rfl (fun w h => E.api_KIns_eql (by kernel_rfl) (by kernel_rfl)) (E.ta 14 (.bool ((((K.rd k (((strOfNums [(IntKind.wrap .u8 i.op)]) ++ (strOfNums (K.wr k i)))).data.toList (K.len k))).op == i.op) && (((K.rd k (((strOfNums [(IntKind.wrap .u8 i.op)]) ++ (strOfNums (K.wr k i)))).data.toList (K.len k))).d == i.d) && (((K.rd k (((strOfNums [(IntKind.wrap .u8 i.op)]) ++ (strOfNums (K.wr k i)))).data.toList (K.len k))).s == i.s) && (((K.rd k (((strOfNums [(IntKind.wrap .u8 i.op)]) ++ (strOfNums (K.wr k i)))).data.toList (K.len k))).ix == i.ix) && (((K.rd k (((strOfNums [(IntKind.wrap .u8 i.op)]) ++ (strOfNums (K.wr k i)))).data.toList (K.len k))).sc == i.sc) && (((K.rd k (((strOfNums [(IntKind.wrap .u8 i.op)]) ++ (strOfNums (K.wr k i)))).data.toList (K.len k))).imm == i.imm) && (((K.rd k (((strOfNums [(IntKind.wrap .u8 i.op)]) ++ (strOfNums (K.wr k i)))).data.toList (K.len k))).sz == i.sz))) rfl (E.H.done (by kernel_rfl) ?_)))))))))))
   exact E.To.code (E.wk [(2, .bool ((((K.rd k (((strOfNums [(IntKind.wrap .u8 i.op)]) ++ (strOfNums (K.wr k i)))).data.toList (K.len k))).op == i.op) && (((K.rd k (((strOfNums [(IntKind.wrap .u8 i.op)]) ++ (strOfNums (K.wr k i)))).data.toList (K.len k))).d == i.d) && (((K.rd k (((strOfNums [(IntKind.wrap .u8 i.op)]) ++ (strOfNums (K.wr k i)))).data.toList (K.len k))).s == i.s) && (((K.rd k (((strOfNums [(IntKind.wrap .u8 i.op)]) ++ (strOfNums (K.wr k i)))).data.toList (K.len k))).ix == i.ix) && (((K.rd k (((strOfNums [(IntKind.wrap .u8 i.op)]) ++ (strOfNums (K.wr k i)))).data.toList (K.len k))).sc == i.sc) && (((K.rd k (((strOfNums [(IntKind.wrap .u8 i.op)]) ++ (strOfNums (K.wr k i)))).data.toList (K.len k))).imm == i.imm) && (((K.rd k (((strOfNums [(IntKind.wrap .u8 i.op)]) ++ (strOfNums (K.wr k i)))).data.toList (K.len k))).sz == i.sz)))] [] Nz.sub (E.C.ret (E.bd Tryz.f108 [.bool ((((K.rd k (((strOfNums [(IntKind.wrap .u8 i.op)]) ++ (strOfNums (K.wr k i)))).data.toList (K.len k))).op == i.op) && (((K.rd k (((strOfNums [(IntKind.wrap .u8 i.op)]) ++ (strOfNums (K.wr k i)))).data.toList (K.len k))).d == i.d) && (((K.rd k (((strOfNums [(IntKind.wrap .u8 i.op)]) ++ (strOfNums (K.wr k i)))).data.toList (K.len k))).s == i.s) && (((K.rd k (((strOfNums [(IntKind.wrap .u8 i.op)]) ++ (strOfNums (K.wr k i)))).data.toList (K.len k))).ix == i.ix) && (((K.rd k (((strOfNums [(IntKind.wrap .u8 i.op)]) ++ (strOfNums (K.wr k i)))).data.toList (K.len k))).sc == i.sc) && (((K.rd k (((strOfNums [(IntKind.wrap .u8 i.op)]) ++ (strOfNums (K.wr k i)))).data.toList (K.len k))).imm == i.imm) && (((K.rd k (((strOfNums [(IntKind.wrap .u8 i.op)]) ++ (strOfNums (K.wr k i)))).data.toList (K.len k))).sz == i.sz))] (fun w h => ⟨by unfold K.valid1; rw [hc6, cond_false] <;> rfl, h.ch.bel (fun _ h => h.elim)⟩))))
  refine E.G.callv (G := Gq2) (ds := dsq2) [.agg #[E.i i.op, E.i i.d, E.i i.s, E.i i.ix, E.i i.sc, E.u i.imm, E.i i.sz]] (.string (strOfNums (K.wr k i))) (by kernel_rfl) (by kernel_rfl) (fun w h => K.enter_at (K.fmt_lt hk) h.x.2 _ _) (fun w h => kput_at (K.fmt_lt hk) h.x.2 (K.in_of hm hc6)) (by kernel_rfl) (E.bk (E.al 5 rfl (E.vl (.string (strOfNums [(IntKind.wrap .u8 i.op)])) (fun w h => E.b2s h 0 g7 0 1 1 [(IntKind.wrap .u8 i.op)] (e := 5) (by kernel_rfl) (by kernel_rfl) (by kernel_rfl) (by kernel_rfl) rfl (by kernel_rfl) rfl) (E.bk (E.tb 10 (.string ((strOfNums [(IntKind.wrap .u8 i.op)]) ++ (strOfNums (K.wr k i)))) rfl (fun w h => E.cat (strOfNums [(IntKind.wrap .u8 i.op)]) (strOfNums (K.wr k i)) (by kernel_rfl) (by kernel_rfl) (by rw [strOfNums_size, strOfNums_size]; have := K.wr_len k (K.fmt_lt hk) i; have := K.len_bd k (K.fmt_lt hk); simp only [List.length_cons, List.length_nil]; omega) w) (E.al 11 rfl (E.ca (.agg #[E.i (((K.rd k (((strOfNums [(IntKind.wrap .u8 i.op)]) ++ (strOfNums (K.wr k i)))).data.toList (K.len k))).op), E.i (((K.rd k (((strOfNums [(IntKind.wrap .u8 i.op)]) ++ (strOfNums (K.wr k i)))).data.toList (K.len k))).d), E.i (((K.rd k (((strOfNums [(IntKind.wrap .u8 i.op)]) ++ (strOfNums (K.wr k i)))).data.toList (K.len k))).s), E.i (((K.rd k (((strOfNums [(IntKind.wrap .u8 i.op)]) ++ (strOfNums (K.wr k i)))).data.toList (K.len k))).ix), E.i (((K.rd k (((strOfNums [(IntKind.wrap .u8 i.op)]) ++ (strOfNums (K.wr k i)))).data.toList (K.len k))).sc), E.u (((K.rd k (((strOfNums [(IntKind.wrap .u8 i.op)]) ++ (strOfNums (K.wr k i)))).data.toList (K.len k))).imm), E.i (((K.rd k (((strOfNums [(IntKind.wrap .u8 i.op)]) ++ (strOfNums (K.wr k i)))).data.toList (K.len k))).sz)]) (fun w h => read_any k (K.fmt_lt hk) _ _ w h.x.2 ((strOfNums [(IntKind.wrap .u8 i.op)]) ++ (strOfNums (K.wr k i))) (K.vs k (K.fmt_lt hk) i).1 (K.vs k (K.fmt_lt hk) i).2) (E.bk (E.tb 13 (.bool ((((K.rd k (((strOfNums [(IntKind.wrap .u8 i.op)]) ++ (strOfNums (K.wr k i)))).data.toList (K.len k))).op == i.op) && (((K.rd k (((strOfNums [(IntKind.wrap .u8 i.op)]) ++ (strOfNums (K.wr k i)))).data.toList (K.len k))).d == i.d) && (((K.rd k (((strOfNums [(IntKind.wrap .u8 i.op)]) ++ (strOfNums (K.wr k i)))).data.toList (K.len k))).s == i.s) && (((K.rd k (((strOfNums [(IntKind.wrap .u8 i.op)]) ++ (strOfNums (K.wr k i)))).data.toList (K.len k))).ix == i.ix) && (((K.rd k (((strOfNums [(IntKind.wrap .u8 i.op)]) ++ (strOfNums (K.wr k i)))).data.toList (K.len k))).sc == i.sc) && (((K.rd k (((strOfNums [(IntKind.wrap .u8 i.op)]) ++ (strOfNums (K.wr k i)))).data.toList (K.len k))).imm == i.imm) && (((K.rd k (((strOfNums [(IntKind.wrap .u8 i.op)]) ++ (strOfNums (K.wr k i)))).data.toList (K.len k))).sz == i.sz))) rfl (fun w h => E.api_KIns_eql (by kernel_rfl) (by kernel_rfl)) (E.ta 14 (.bool ((((K.rd k (((strOfNums [(IntKind.wrap .u8 i.op)]) ++ (strOfNums (K.wr k i)))).data.toList (K.len k))).op == i.op) && (((K.rd k (((strOfNums [(IntKind.wrap .u8 i.op)]) ++ (strOfNums (K.wr k i)))).data.toList (K.len k))).d == i.d) && (((K.rd k (((strOfNums [(IntKind.wrap .u8 i.op)]) ++ (strOfNums (K.wr k i)))).data.toList (K.len k))).s == i.s) && (((K.rd k (((strOfNums [(IntKind.wrap .u8 i.op)]) ++ (strOfNums (K.wr k i)))).data.toList (K.len k))).ix == i.ix) && (((K.rd k (((strOfNums [(IntKind.wrap .u8 i.op)]) ++ (strOfNums (K.wr k i)))).data.toList (K.len k))).sc == i.sc) && (((K.rd k (((strOfNums [(IntKind.wrap .u8 i.op)]) ++ (strOfNums (K.wr k i)))).data.toList (K.len k))).imm == i.imm) && (((K.rd k (((strOfNums [(IntKind.wrap .u8 i.op)]) ++ (strOfNums (K.wr k i)))).data.toList (K.len k))).sz == i.sz))) rfl (E.H.done (by kernel_rfl) ?_)))))))))))
  exact E.To.code (E.wk [(2, .bool ((((K.rd k (((strOfNums [(IntKind.wrap .u8 i.op)]) ++ (strOfNums (K.wr k i)))).data.toList (K.len k))).op == i.op) && (((K.rd k (((strOfNums [(IntKind.wrap .u8 i.op)]) ++ (strOfNums (K.wr k i)))).data.toList (K.len k))).d == i.d) && (((K.rd k (((strOfNums [(IntKind.wrap .u8 i.op)]) ++ (strOfNums (K.wr k i)))).data.toList (K.len k))).s == i.s) && (((K.rd k (((strOfNums [(IntKind.wrap .u8 i.op)]) ++ (strOfNums (K.wr k i)))).data.toList (K.len k))).ix == i.ix) && (((K.rd k (((strOfNums [(IntKind.wrap .u8 i.op)]) ++ (strOfNums (K.wr k i)))).data.toList (K.len k))).sc == i.sc) && (((K.rd k (((strOfNums [(IntKind.wrap .u8 i.op)]) ++ (strOfNums (K.wr k i)))).data.toList (K.len k))).imm == i.imm) && (((K.rd k (((strOfNums [(IntKind.wrap .u8 i.op)]) ++ (strOfNums (K.wr k i)))).data.toList (K.len k))).sz == i.sz)))] [] Nz.sub (E.C.ret (E.bd Tryz.f108 [.bool ((((K.rd k (((strOfNums [(IntKind.wrap .u8 i.op)]) ++ (strOfNums (K.wr k i)))).data.toList (K.len k))).op == i.op) && (((K.rd k (((strOfNums [(IntKind.wrap .u8 i.op)]) ++ (strOfNums (K.wr k i)))).data.toList (K.len k))).d == i.d) && (((K.rd k (((strOfNums [(IntKind.wrap .u8 i.op)]) ++ (strOfNums (K.wr k i)))).data.toList (K.len k))).s == i.s) && (((K.rd k (((strOfNums [(IntKind.wrap .u8 i.op)]) ++ (strOfNums (K.wr k i)))).data.toList (K.len k))).ix == i.ix) && (((K.rd k (((strOfNums [(IntKind.wrap .u8 i.op)]) ++ (strOfNums (K.wr k i)))).data.toList (K.len k))).sc == i.sc) && (((K.rd k (((strOfNums [(IntKind.wrap .u8 i.op)]) ++ (strOfNums (K.wr k i)))).data.toList (K.len k))).imm == i.imm) && (((K.rd k (((strOfNums [(IntKind.wrap .u8 i.op)]) ++ (strOfNums (K.wr k i)))).data.toList (K.len k))).sz == i.sz))] (fun w h => ⟨by unfold K.valid1; rw [hc6, cond_false] <;> rfl, h.ch.bel (fun _ h => h.elim)⟩))))
 refine E.G.callv (G := Gq2) (ds := dsq2) [.agg #[E.i i.op, E.i i.d, E.i i.s, E.i i.ix, E.i i.sc, E.u i.imm, E.i i.sz]] (.string (strOfNums (K.wr k i))) (by kernel_rfl) (by kernel_rfl) (fun w h => K.enter_at (K.fmt_lt hk) h.x.2 _ _) (fun w h => kput_at (K.fmt_lt hk) h.x.2 (K.in_of hm hc6)) (by kernel_rfl) (E.H.back (fun w h => h) (E.al 4 rfl (E.G.buildSlice [.int .u8 (IntKind.wrap .u8 i.op)] (by kernel_rfl) (by kernel_rfl) (fun g8 => E.bk (E.al 5 rfl (E.vl (.string (strOfNums [(IntKind.wrap .u8 i.op)])) (fun w h => E.b2s h 0 g8 0 1 1 [(IntKind.wrap .u8 i.op)] (e := 5) (by kernel_rfl) (by kernel_rfl) (by kernel_rfl) (by kernel_rfl) rfl (by kernel_rfl) rfl) (E.bk (E.tb 10 (.string ((strOfNums [(IntKind.wrap .u8 i.op)]) ++ (strOfNums (K.wr k i)))) rfl (fun w h => E.cat (strOfNums [(IntKind.wrap .u8 i.op)]) (strOfNums (K.wr k i)) (by kernel_rfl) (by kernel_rfl) (by rw [strOfNums_size, strOfNums_size]; have := K.wr_len k (K.fmt_lt hk) i; have := K.len_bd k (K.fmt_lt hk); simp only [List.length_cons, List.length_nil]; omega) w) (E.al 11 rfl (E.ca (.agg #[E.i (((K.rd k (((strOfNums [(IntKind.wrap .u8 i.op)]) ++ (strOfNums (K.wr k i)))).data.toList (K.len k))).op), E.i (((K.rd k (((strOfNums [(IntKind.wrap .u8 i.op)]) ++ (strOfNums (K.wr k i)))).data.toList (K.len k))).d), E.i (((K.rd k (((strOfNums [(IntKind.wrap .u8 i.op)]) ++ (strOfNums (K.wr k i)))).data.toList (K.len k))).s), E.i (((K.rd k (((strOfNums [(IntKind.wrap .u8 i.op)]) ++ (strOfNums (K.wr k i)))).data.toList (K.len k))).ix), E.i (((K.rd k (((strOfNums [(IntKind.wrap .u8 i.op)]) ++ (strOfNums (K.wr k i)))).data.toList (K.len k))).sc), E.u (((K.rd k (((strOfNums [(IntKind.wrap .u8 i.op)]) ++ (strOfNums (K.wr k i)))).data.toList (K.len k))).imm), E.i (((K.rd k (((strOfNums [(IntKind.wrap .u8 i.op)]) ++ (strOfNums (K.wr k i)))).data.toList (K.len k))).sz)]) (fun w h => read_any k (K.fmt_lt hk) _ _ w h.x.2 ((strOfNums [(IntKind.wrap .u8 i.op)]) ++ (strOfNums (K.wr k i))) (K.vs k (K.fmt_lt hk) i).1 (K.vs k (K.fmt_lt hk) i).2) (E.bk ?_)))))))))))
 exact E.tb 13 (.bool ((((K.rd k (((strOfNums [(IntKind.wrap .u8 i.op)]) ++ (strOfNums (K.wr k i)))).data.toList (K.len k))).op == i.op) && (((K.rd k (((strOfNums [(IntKind.wrap .u8 i.op)]) ++ (strOfNums (K.wr k i)))).data.toList (K.len k))).d == i.d) && (((K.rd k (((strOfNums [(IntKind.wrap .u8 i.op)]) ++ (strOfNums (K.wr k i)))).data.toList (K.len k))).s == i.s) && (((K.rd k (((strOfNums [(IntKind.wrap .u8 i.op)]) ++ (strOfNums (K.wr k i)))).data.toList (K.len k))).ix == i.ix) && (((K.rd k (((strOfNums [(IntKind.wrap .u8 i.op)]) ++ (strOfNums (K.wr k i)))).data.toList (K.len k))).sc == i.sc) && (((K.rd k (((strOfNums [(IntKind.wrap .u8 i.op)]) ++ (strOfNums (K.wr k i)))).data.toList (K.len k))).imm == i.imm) && (((K.rd k (((strOfNums [(IntKind.wrap .u8 i.op)]) ++ (strOfNums (K.wr k i)))).data.toList (K.len k))).sz == i.sz))) rfl (fun w h => E.api_KIns_eql (by kernel_rfl) (by kernel_rfl)) (E.ta 14 (.bool ((((K.rd k (((strOfNums [(IntKind.wrap .u8 i.op)]) ++ (strOfNums (K.wr k i)))).data.toList (K.len k))).op == i.op) && (((K.rd k (((strOfNums [(IntKind.wrap .u8 i.op)]) ++ (strOfNums (K.wr k i)))).data.toList (K.len k))).d == i.d) && (((K.rd k (((strOfNums [(IntKind.wrap .u8 i.op)]) ++ (strOfNums (K.wr k i)))).data.toList (K.len k))).s == i.s) && (((K.rd k (((strOfNums [(IntKind.wrap .u8 i.op)]) ++ (strOfNums (K.wr k i)))).data.toList (K.len k))).ix == i.ix) && (((K.rd k (((strOfNums [(IntKind.wrap .u8 i.op)]) ++ (strOfNums (K.wr k i)))).data.toList (K.len k))).sc == i.sc) && (((K.rd k (((strOfNums [(IntKind.wrap .u8 i.op)]) ++ (strOfNums (K.wr k i)))).data.toList (K.len k))).imm == i.imm) && (((K.rd k (((strOfNums [(IntKind.wrap .u8 i.op)]) ++ (strOfNums (K.wr k i)))).data.toList (K.len k))).sz == i.sz))) rfl (E.H.done (by kernel_rfl) (E.To.code (E.wk [(2, .bool ((((K.rd k (((strOfNums [(IntKind.wrap .u8 i.op)]) ++ (strOfNums (K.wr k i)))).data.toList (K.len k))).op == i.op) && (((K.rd k (((strOfNums [(IntKind.wrap .u8 i.op)]) ++ (strOfNums (K.wr k i)))).data.toList (K.len k))).d == i.d) && (((K.rd k (((strOfNums [(IntKind.wrap .u8 i.op)]) ++ (strOfNums (K.wr k i)))).data.toList (K.len k))).s == i.s) && (((K.rd k (((strOfNums [(IntKind.wrap .u8 i.op)]) ++ (strOfNums (K.wr k i)))).data.toList (K.len k))).ix == i.ix) && (((K.rd k (((strOfNums [(IntKind.wrap .u8 i.op)]) ++ (strOfNums (K.wr k i)))).data.toList (K.len k))).sc == i.sc) && (((K.rd k (((strOfNums [(IntKind.wrap .u8 i.op)]) ++ (strOfNums (K.wr k i)))).data.toList (K.len k))).imm == i.imm) && (((K.rd k (((strOfNums [(IntKind.wrap .u8 i.op)]) ++ (strOfNums (K.wr k i)))).data.toList (K.len k))).sz == i.sz)))] [] Nz.sub (E.C.ret (E.bd Tryz.f108 [.bool ((((K.rd k (((strOfNums [(IntKind.wrap .u8 i.op)]) ++ (strOfNums (K.wr k i)))).data.toList (K.len k))).op == i.op) && (((K.rd k (((strOfNums [(IntKind.wrap .u8 i.op)]) ++ (strOfNums (K.wr k i)))).data.toList (K.len k))).d == i.d) && (((K.rd k (((strOfNums [(IntKind.wrap .u8 i.op)]) ++ (strOfNums (K.wr k i)))).data.toList (K.len k))).s == i.s) && (((K.rd k (((strOfNums [(IntKind.wrap .u8 i.op)]) ++ (strOfNums (K.wr k i)))).data.toList (K.len k))).ix == i.ix) && (((K.rd k (((strOfNums [(IntKind.wrap .u8 i.op)]) ++ (strOfNums (K.wr k i)))).data.toList (K.len k))).sc == i.sc) && (((K.rd k (((strOfNums [(IntKind.wrap .u8 i.op)]) ++ (strOfNums (K.wr k i)))).data.toList (K.len k))).imm == i.imm) && (((K.rd k (((strOfNums [(IntKind.wrap .u8 i.op)]) ++ (strOfNums (K.wr k i)))).data.toList (K.len k))).sz == i.sz))] (fun w h => ⟨by unfold K.valid1; rw [hc6, cond_false] <;> rfl, h.ch.bel (fun _ h => h.elim)⟩)))))))

def K.valid (i : K.Ins) : Bool := match K.fmt i.op with
  | none => false
  | some k => K.valid1 k i
theorem Valid_any (i : K.Ins) (hm : 0 ≤ i.imm ∧ i.imm < 4294967296) (w : World) : Calls Tryz.prog 108 #[.agg #[.int .i64 i.op, .int .i64 i.d, .int .i64 i.s, .int .i64 i.ix, .int .i64 i.sc, .int .u32 i.imm, .int .i64 i.sz]] w fun e w' => e = .returned (.bool (K.valid i)) ∧ Bel w w' := by
  unfold K.valid
  cases hk : K.fmt i.op with
  | none => exact Valid_none i hk w
  | some k => exact Valid_some k i hk hm w
def K.size0 (x : Int) : Int := 0
theorem Size_none (x : Int) (hk : K.fmt (IntKind.wrap .i64 x) = none) (w : World) : Calls Tryz.prog 78 #[.int .u8 x] w fun e w' => e = .returned (.int .i64 (K.size0 x)) ∧ Bel w w' := by
 refine E.enter (n := 13) (S := fun _ => False) Tryz.func78 rfl rfl (by kernel_rfl) (E.Hp.start w) (E.sr (E.op (E.i 0) (E.tr (E.op (.int .u8 x) (E.op (E.i (IntKind.wrap .i64 x)) (E.ca (.tuple #[.agg #[E.i 0, E.i 0, E.i 0, .nilFunc, .nilFunc], .bool false]) (fun w h => find_none hk w) (E.op (.tuple #[.agg #[E.i 0, E.i 0, E.i 0, .nilFunc, .nilFunc], .bool false]) (E.op (.agg #[E.i 0, E.i 0, E.i 0, .nilFunc, .nilFunc]) (E.op (.bool false) (E.nw [E.i 0, E.i 0, E.i 0, .nilFunc, .nilFunc] 174 (fun g1 => E.st 0 [E.i 0, E.i 0, E.i 0, .nilFunc, .nilFunc] rfl rfl ?_)))))))))))
 exact E.op (.bool false) (E.To.code (E.wk [(2, E.i 0), (3, E.pt g1)] [(g1, [E.i 0, E.i 0, E.i 0, .nilFunc, .nilFunc])] Nz.sub (E.sr (E.op (.pointer (some ⟨g1, 2, none⟩)) (E.li (E.i 0) 0 rfl rfl (E.op (E.i 0) (E.To.code (E.C.ret (E.bd Tryz.f78 [E.i 0] (fun w h => ⟨rfl, h.ch.bel (fun _ h => h.elim)⟩))))))))))

def K.size1 (k : Nat) (x : Int) : Int := (K.len k)
theorem Size_some (k : Nat) (x : Int) (hk : K.fmt (IntKind.wrap .i64 x) = some k) (w : World) : Calls Tryz.prog 78 #[.int .u8 x] w fun e w' => e = .returned (.int .i64 (K.size1 k x)) ∧ Bel w w' := by
 refine E.enter (n := 13) (S := fun _ => False) Tryz.func78 rfl rfl (by kernel_rfl) (E.Hp.start w) (E.sr (E.op (E.i 0) (E.tr (E.op (.int .u8 x) (E.op (E.i (IntKind.wrap .i64 x)) (E.G.callX (I := FuncId × Array Value × FuncId × Array Value) (fun _ => True) (fun i => .tuple #[.agg #[E.i (K.lo k), E.i (K.hi k), E.i (K.len k), .func (.func i.1) #[] i.2.1, .func (.func i.2.2.1) #[] i.2.2.2], .bool true]) (fun i => fun w => (fun _ => True) w ∧ K.Fm k (.func (.func i.1) #[] i.2.1) (.func (.func i.2.2.1) #[] i.2.2.2) w) (fun _ => []) (fun w h => find_hp hk (by unfold K.intB; simp [E.i]) w h) (fun w _ => by kernel_rfl) (by kernel_rfl) (fun i _ => ?_)))))))
 obtain ⟨Fq1, csq1, Gq1, dsq1⟩ := i
 refine E.op (.tuple #[.agg #[E.i (K.lo k), E.i (K.hi k), E.i (K.len k), .func (.func Fq1) #[] csq1, .func (.func Gq1) #[] dsq1], .bool true]) (E.op (.agg #[E.i (K.lo k), E.i (K.hi k), E.i (K.len k), .func (.func Fq1) #[] csq1, .func (.func Gq1) #[] dsq1]) (E.op (.bool true) (E.nw [E.i 0, E.i 0, E.i 0, .nilFunc, .nilFunc] 174 (fun g2 => E.st 0 [E.i (K.lo k), E.i (K.hi k), E.i (K.len k), .func (.func Fq1) #[] csq1, .func (.func Gq1) #[] dsq1] rfl rfl (E.op (.bool true) (E.To.code (E.wk [(2, E.i 0), (3, E.pt g2)] [(g2, [E.i (K.lo k), E.i (K.hi k), E.i (K.len k), .func (.func Fq1) #[] csq1, .func (.func Gq1) #[] dsq1])] Nz.sub (E.sr (E.op (.pointer (some ⟨g2, 2, none⟩)) (E.li (E.i (K.len k)) 0 rfl rfl (E.op (E.i (K.len k)) ?_)))))))))))
 exact E.To.code (E.C.ret (E.bd Tryz.f78 [E.i (K.len k)] (fun w h => ⟨rfl, h.ch.bel (fun _ h => h.elim)⟩)))

def K.size (x : Int) : Int := match K.fmt (IntKind.wrap .i64 x) with
  | none => 0
  | some k => K.len k
theorem Size_any (x : Int) (w : World) : Calls Tryz.prog 78 #[.int .u8 x] w fun e w' => e = .returned (.int .i64 (K.size x)) ∧ Bel w w' := by
  unfold K.size
  cases hk : K.fmt (IntKind.wrap .i64 x) with
  | none => exact Size_none x hk w
  | some k => exact Size_some k x hk w

def K.target (i : K.Ins) (a : Int) : Int × Bool := (bif ((!(K.valid i)) || (!(K.inAny i.op [(96, 109), (112, 113)]))) then (0, false) else ((IntKind.wrap .u32 ((IntKind.wrap .u32 (a + (IntKind.wrap .u32 i.sz))) + i.imm)), true))
theorem K.rd_imm (k : Nat) (hk : k < 11) (l : List UInt8) (sz : Int) : 0 ≤ (K.rd k l sz).imm ∧ (K.rd k l sz).imm < 4294967296 := by
  have hb := fun n => W.byt_bd l n
  have hs : ∀ n, 0 ≤ W.sign (W.byt l n) 8 ∧ W.sign (W.byt l n) 8 < 4294967296 := fun n => W.sign_bd _ _ (hb n).1 (by have := hb n; omega)
  have hf : ∀ n, 0 ≤ K.four l n ∧ K.four l n < 4294967296 := fun n => by
    unfold K.four; have := hb n; have := hb (n + 1); have := hb (n + 2); have := hb (n + 3); omega
  have hix : ∀ n i, (K.t_index l n i).imm = i.imm := fun n i => by unfold K.t_index; split <;> rfl
  rcases (by omega : k = 0 ∨ k = 1 ∨ k = 2 ∨ k = 3 ∨ k = 4 ∨ k = 5 ∨ k = 6 ∨ k = 7 ∨ k = 8 ∨ k = 9 ∨ k = 10) with rfl | rfl | rfl | rfl | rfl | rfl | rfl | rfl | rfl | rfl | rfl
  · exact ⟨by show (0 : Int) ≤ 0; decide, by show (0 : Int) < 4294967296; decide⟩
  · exact ⟨by show (0 : Int) ≤ 0; decide, by show (0 : Int) < 4294967296; decide⟩
  · exact ⟨by show (0 : Int) ≤ 0; decide, by show (0 : Int) < 4294967296; decide⟩
  · exact hs _
  · exact hf _
  · exact hs _
  · exact hf _
  · exact hs _
  · exact hf _
  · have := hb 1; exact ⟨this.1, by show W.byt l 1 < _; omega⟩
  · exact ⟨by show (0 : Int) ≤ 0; decide, by show (0 : Int) < 4294967296; decide⟩

def K.decode0 (s : ByteArray) : K.Ins × Int := (bif (s.toList == (⟨#[]⟩ : ByteArray).toList) then (⟨0, 0, 0, 0, 0, 0, 0⟩, 10) else (⟨0, 0, 0, 0, 0, 0, 0⟩, 12))
theorem Decode_none (s : ByteArray) (hk : K.fmt (IntKind.wrap .i64 (W.byt s.data.toList 0)) = none) (w : World) : Calls Tryz.prog 79 #[.string s] w fun e w' => e = .returned (.tuple #[.agg #[.int .i64 (((((K.decode0 s)).1)).op), .int .i64 (((((K.decode0 s)).1)).d), .int .i64 (((((K.decode0 s)).1)).s), .int .i64 (((((K.decode0 s)).1)).ix), .int .i64 (((((K.decode0 s)).1)).sc), .int .u32 (((((K.decode0 s)).1)).imm), .int .i64 (((((K.decode0 s)).1)).sz)], .int .i64 (((K.decode0 s)).2)]) ∧ Bel w w' := by
 refine E.enter (n := 37) (S := fun _ => False) Tryz.func79 rfl rfl (by kernel_rfl) (E.Hp.start w) (E.sr (E.nw [E.i 0, E.i 0, E.i 0, E.i 0, E.i 0, E.u 0, E.i 0] 66 (fun g1 => E.op (E.i 0) (E.To.code (E.C.seq (E.sr (E.op (.string s) (E.op (.bool (s.toList == (⟨#[]⟩ : ByteArray).toList)) (E.To.code (E.cd (s.toList == (⟨#[]⟩ : ByteArray).toList) (fun hc2 => ?_) (fun hc2 => ?_)))))))))))
 ·
  refine E.sr (E.vl (.agg #[E.i 0, E.i 0, E.i 0, E.i 0, E.i 0, E.u 0, E.i 0]) (fun w h => E.run_build #[E.i 0, E.i 0, E.i 0, E.i 0, E.i 0, E.u 0, E.i 0] (by kernel_rfl) w) (E.st 0 [E.i 0, E.i 0, E.i 0, E.i 0, E.i 0, E.u 0, E.i 0] rfl rfl (E.op (E.i 10) (E.To.code (E.C.ret (E.P.rt (E.To.body (fn := Tryz.f79) [.agg #[E.i 0, E.i 0, E.i 0, E.i 0, E.i 0, E.u 0, E.i 0], E.i 10] ?_ ?_)))))))
  · exact ⟨⟨by kernel_rfl, _, _, 0, _, rfl, rfl, by kernel_rfl⟩, ⟨by kernel_rfl, by kernel_rfl⟩, trivial⟩
  intro w h
  exact ⟨by unfold K.decode0; rw [hc2, cond_true] <;> rfl, h.ch.bel (fun _ h => h.elim)⟩
 refine E.C.skip (E.To.code (E.sr (E.op (.string s) (E.vl (.int .u8 (W.byt s.data.toList 0)) (fun w h => E.sidx s .i64 0 (by kernel_rfl) (by kernel_rfl) (by kernel_rfl) Nz.szm Nz.szm w) (E.op (E.i (IntKind.wrap .i64 (W.byt s.data.toList 0))) (E.ca (.tuple #[.agg #[E.i 0, E.i 0, E.i 0, .nilFunc, .nilFunc], .bool false]) (fun w h => find_none hk w) (E.op (.tuple #[.agg #[E.i 0, E.i 0, E.i 0, .nilFunc, .nilFunc], .bool false]) (E.op (.agg #[E.i 0, E.i 0, E.i 0, .nilFunc, .nilFunc]) (E.op (.bool false) (E.nw [E.i 0, E.i 0, E.i 0, .nilFunc, .nilFunc] 174 (fun g3 => E.st 0 [E.i 0, E.i 0, E.i 0, .nilFunc, .nilFunc] rfl rfl (E.op (.bool false) ?_))))))))))))
 refine E.To.code (E.wk [(0, .string s), (2, E.pt g1), (3, E.i 0), (4, E.pt g3), (5, .bool false)] [(g3, [E.i 0, E.i 0, E.i 0, .nilFunc, .nilFunc]), (g1, [E.i 0, E.i 0, E.i 0, E.i 0, E.i 0, E.u 0, E.i 0])] Nz.sub (E.C.seq (E.sr (E.op (.bool false) (E.op (.bool true) (E.To.code (E.C.condT (by kernel_rfl) (by kernel_rfl) (E.sr (E.vl (.agg #[E.i 0, E.i 0, E.i 0, E.i 0, E.i 0, E.u 0, E.i 0]) (fun w h => E.run_build #[E.i 0, E.i 0, E.i 0, E.i 0, E.i 0, E.u 0, E.i 0] (by kernel_rfl) w) (E.st 1 [E.i 0, E.i 0, E.i 0, E.i 0, E.i 0, E.u 0, E.i 0] rfl rfl (E.op (E.i 12) ?_)))))))))))
 refine E.To.code (E.C.ret (E.P.rt (E.To.body (fn := Tryz.f79) [.agg #[E.i 0, E.i 0, E.i 0, E.i 0, E.i 0, E.u 0, E.i 0], E.i 12] ?_ ?_)))
 · exact ⟨⟨by kernel_rfl, _, _, 1, _, rfl, rfl, by kernel_rfl⟩, ⟨by kernel_rfl, by kernel_rfl⟩, trivial⟩
 intro w h
 exact ⟨by unfold K.decode0; rw [hc2, cond_false] <;> rfl, h.ch.bel (fun _ h => h.elim)⟩

def K.decode1 (k : Nat) (s : ByteArray) : K.Ins × Int := (bif (s.toList == (⟨#[]⟩ : ByteArray).toList) then (⟨0, 0, 0, 0, 0, 0, 0⟩, 10) else (bif (decide (((s.size : Nat) : Int) < (K.len k))) then (⟨0, 0, 0, 0, 0, 0, 0⟩, 10) else (bif (!(K.valid ((K.rd k ((s.extract 0 ((K.len k)).toNat)).data.toList (K.len k))))) then (⟨0, 0, 0, 0, 0, 0, 0⟩, 12) else (((K.rd k ((s.extract 0 ((K.len k)).toNat)).data.toList (K.len k))), 0))))
theorem Decode_some (k : Nat) (s : ByteArray) (hk : K.fmt (IntKind.wrap .i64 (W.byt s.data.toList 0)) = some k) (hs : s.size ≤ maxLen) (w : World) : Calls Tryz.prog 79 #[.string s] w fun e w' => e = .returned (.tuple #[.agg #[.int .i64 (((((K.decode1 k s)).1)).op), .int .i64 (((((K.decode1 k s)).1)).d), .int .i64 (((((K.decode1 k s)).1)).s), .int .i64 (((((K.decode1 k s)).1)).ix), .int .i64 (((((K.decode1 k s)).1)).sc), .int .u32 (((((K.decode1 k s)).1)).imm), .int .i64 (((((K.decode1 k s)).1)).sz)], .int .i64 (((K.decode1 k s)).2)]) ∧ Bel w w' := by
 have hl := K.len_bd k (K.fmt_lt hk)
 refine E.enter (n := 37) (S := fun _ => False) Tryz.func79 rfl rfl (by kernel_rfl) (E.Hp.start w) (E.sr (E.nw [E.i 0, E.i 0, E.i 0, E.i 0, E.i 0, E.u 0, E.i 0] 66 (fun g1 => E.op (E.i 0) (E.To.code (E.C.seq (E.sr (E.op (.string s) (E.op (.bool (s.toList == (⟨#[]⟩ : ByteArray).toList)) (E.To.code (E.cd (s.toList == (⟨#[]⟩ : ByteArray).toList) (fun hc2 => ?_) (fun hc2 => ?_)))))))))))
 ·
  refine E.sr (E.vl (.agg #[E.i 0, E.i 0, E.i 0, E.i 0, E.i 0, E.u 0, E.i 0]) (fun w h => E.run_build #[E.i 0, E.i 0, E.i 0, E.i 0, E.i 0, E.u 0, E.i 0] (by kernel_rfl) w) (E.st 0 [E.i 0, E.i 0, E.i 0, E.i 0, E.i 0, E.u 0, E.i 0] rfl rfl (E.op (E.i 10) (E.To.code (E.C.ret (E.P.rt (E.To.body (fn := Tryz.f79) [.agg #[E.i 0, E.i 0, E.i 0, E.i 0, E.i 0, E.u 0, E.i 0], E.i 10] ?_ ?_)))))))
  · exact ⟨⟨by kernel_rfl, _, _, 0, _, rfl, rfl, by kernel_rfl⟩, ⟨by kernel_rfl, by kernel_rfl⟩, trivial⟩
  intro w h
  exact ⟨by unfold K.decode1; rw [hc2, cond_true] <;> rfl, h.ch.bel (fun _ h => h.elim)⟩
 refine E.C.skip (E.To.code (E.sr (E.op (.string s) (E.vl (.int .u8 (W.byt s.data.toList 0)) (fun w h => E.sidx s .i64 0 (by kernel_rfl) (by kernel_rfl) (by kernel_rfl) Nz.szm Nz.szm w) (E.op (E.i (IntKind.wrap .i64 (W.byt s.data.toList 0))) (E.G.callX (I := FuncId × Array Value × FuncId × Array Value) (fun _ => True) (fun i => .tuple #[.agg #[E.i (K.lo k), E.i (K.hi k), E.i (K.len k), .func (.func i.1) #[] i.2.1, .func (.func i.2.2.1) #[] i.2.2.2], .bool true]) (fun i => fun w => (fun _ => True) w ∧ K.Fm k (.func (.func i.1) #[] i.2.1) (.func (.func i.2.2.1) #[] i.2.2.2) w) (fun _ => [(g1, [E.i 0, E.i 0, E.i 0, E.i 0, E.i 0, E.u 0, E.i 0])]) (fun w h => find_hp hk (by unfold K.intB; simp [E.i]) w h) (fun w _ => by kernel_rfl) (by kernel_rfl) (fun i _ => ?_)))))))
 obtain ⟨Fq3, csq3, Gq3, dsq3⟩ := i
 refine E.op (.tuple #[.agg #[E.i (K.lo k), E.i (K.hi k), E.i (K.len k), .func (.func Fq3) #[] csq3, .func (.func Gq3) #[] dsq3], .bool true]) (E.op (.agg #[E.i (K.lo k), E.i (K.hi k), E.i (K.len k), .func (.func Fq3) #[] csq3, .func (.func Gq3) #[] dsq3]) (E.op (.bool true) (E.nw [E.i 0, E.i 0, E.i 0, .nilFunc, .nilFunc] 174 (fun g4 => E.st 0 [E.i (K.lo k), E.i (K.hi k), E.i (K.len k), .func (.func Fq3) #[] csq3, .func (.func Gq3) #[] dsq3] rfl rfl (E.op (.bool true) (E.To.code (E.wk [(0, .string s), (2, E.pt g1), (3, E.i 0), (4, E.pt g4), (5, .bool true)] [(g4, [E.i (K.lo k), E.i (K.hi k), E.i (K.len k), .func (.func Fq3) #[] csq3, .func (.func Gq3) #[] dsq3]), (g1, [E.i 0, E.i 0, E.i 0, E.i 0, E.i 0, E.u 0, E.i 0])] Nz.sub (E.C.seq (E.sr (E.op (.bool true) (E.op (.bool false) ?_)))))))))))
 refine E.To.code (E.C.condF (by kernel_rfl) (by kernel_rfl) (E.C.skip (E.To.code (E.C.seq (E.sr (E.op (.string s) (E.op (E.i ((s.size : Nat) : Int)) (E.op (.pointer (some ⟨g4, 2, none⟩)) (E.li (E.i (K.len k)) 0 rfl rfl (E.op (.bool (decide (((s.size : Nat) : Int) < (K.len k)))) (E.To.code (E.cd (decide (((s.size : Nat) : Int) < (K.len k))) (fun hc5 => ?_) (fun hc5 => ?_)))))))))))))
 ·
  refine E.sr (E.vl (.agg #[E.i 0, E.i 0, E.i 0, E.i 0, E.i 0, E.u 0, E.i 0]) (fun w h => E.run_build #[E.i 0, E.i 0, E.i 0, E.i 0, E.i 0, E.u 0, E.i 0] (by kernel_rfl) w) (E.st 1 [E.i 0, E.i 0, E.i 0, E.i 0, E.i 0, E.u 0, E.i 0] rfl rfl (E.op (E.i 10) (E.To.code (E.wk [(0, .string s), (2, E.pt g1), (3, E.i 10), (4, E.pt g4)] [(g4, [E.i (K.lo k), E.i (K.hi k), E.i (K.len k), .func (.func Fq3) #[] csq3, .func (.func Gq3) #[] dsq3]), (g1, [E.i 0, E.i 0, E.i 0, E.i 0, E.i 0, E.u 0, E.i 0])] Nz.sub (E.C.ret (E.P.rt (E.To.body (fn := Tryz.f79) [.agg #[E.i 0, E.i 0, E.i 0, E.i 0, E.i 0, E.u 0, E.i 0], E.i 10] ?_ ?_))))))))
  · exact ⟨⟨by kernel_rfl, _, _, 1, _, rfl, rfl, by kernel_rfl⟩, ⟨by kernel_rfl, by kernel_rfl⟩, trivial⟩
  intro w h
  exact ⟨by unfold K.decode1; rw [hc2, cond_false, hc5, cond_true] <;> rfl, h.ch.bel (fun _ h => h.elim)⟩
 refine E.C.skip (E.To.code (E.wk [(0, .string s), (2, E.pt g1), (3, E.i 0), (4, E.pt g4)] [(g4, [E.i (K.lo k), E.i (K.hi k), E.i (K.len k), .func (.func Fq3) #[] csq3, .func (.func Gq3) #[] dsq3]), (g1, [E.i 0, E.i 0, E.i 0, E.i 0, E.i 0, E.u 0, E.i 0])] Nz.sub (E.C.seq (E.C.held (E.Hp (fun _ => False) w (fun w => (fun _ => True) w ∧ K.Fm k (.func (.func Fq3) #[] csq3) (.func (.func Gq3) #[] dsq3) w) [(g4, [E.i (K.lo k), E.i (K.hi k), E.i (K.len k), .func (.func Fq3) #[] csq3, .func (.func Gq3) #[] dsq3]), (g1, [E.i 0, E.i 0, E.i 0, E.i 0, E.i 0, E.u 0, E.i 0])]) (by kernel_rfl) (E.tj 0 (.agg #[E.i (K.lo k), E.i (K.hi k), E.i (K.len k), .func (.func Fq3) #[] csq3, .func (.func Gq3) #[] dsq3]) rfl (fun w h => h) (fun w h => E.run_load h 0 rfl rfl (by kernel_rfl)) (E.tk 1 (.string s) rfl (fun w h => h) (E.tk 2 (.pointer (some ⟨g4, 2, none⟩)) rfl (fun w h => h) (E.tj 3 (E.i (K.len k)) rfl (fun w h => h) (fun w h => E.run_load h 0 rfl rfl (by kernel_rfl)) (E.tj 4 (.string (s.extract 0 ((K.len k)).toNat)) rfl (fun w h => h) (fun w h => E.slTo s .i64 (K.len k) (by kernel_rfl) (by kernel_rfl) (by kernel_rfl) Nz.szm Nz.szm w) (E.al2 5 6 rfl rfl ?_ ?_))))))))))
 ·
  refine E.ca (.agg #[E.i (((K.rd k ((s.extract 0 ((K.len k)).toNat)).data.toList (K.len k))).op), E.i (((K.rd k ((s.extract 0 ((K.len k)).toNat)).data.toList (K.len k))).d), E.i (((K.rd k ((s.extract 0 ((K.len k)).toNat)).data.toList (K.len k))).s), E.i (((K.rd k ((s.extract 0 ((K.len k)).toNat)).data.toList (K.len k))).ix), E.i (((K.rd k ((s.extract 0 ((K.len k)).toNat)).data.toList (K.len k))).sc), E.u (((K.rd k ((s.extract 0 ((K.len k)).toNat)).data.toList (K.len k))).imm), E.i (((K.rd k ((s.extract 0 ((K.len k)).toNat)).data.toList (K.len k))).sz)]) (fun w h => read_any k (K.fmt_lt hk) _ _ w h.x.2 (s.extract 0 ((K.len k)).toNat) (by rw [ByteArray.size_extract]; unfold maxLen at *; first | (have hp := E.size_pos (by assumption); (try simp only [beq_iff_eq, bne_iff_ne, ne_eq, Bool.or_eq_true, Bool.and_eq_true, beq_eq_false_iff_ne, decide_eq_true_eq, decide_eq_false_iff_not, Bool.or_eq_false_iff, Bool.not_eq_true, gt_iff_lt] at *); omega) | ((try simp only [beq_iff_eq, bne_iff_ne, ne_eq, Bool.or_eq_true, Bool.and_eq_true, beq_eq_false_iff_ne, decide_eq_true_eq, decide_eq_false_iff_not, Bool.or_eq_false_iff, Bool.not_eq_true, gt_iff_lt] at *); omega)) (by rw [ByteArray.size_extract]; first | (have hp := E.size_pos (by assumption); (try simp only [beq_iff_eq, bne_iff_ne, ne_eq, Bool.or_eq_true, Bool.and_eq_true, beq_eq_false_iff_ne, decide_eq_true_eq, decide_eq_false_iff_not, Bool.or_eq_false_iff, Bool.not_eq_true, gt_iff_lt] at *); omega) | ((try simp only [beq_iff_eq, bne_iff_ne, ne_eq, Bool.or_eq_true, Bool.and_eq_true, beq_eq_false_iff_ne, decide_eq_true_eq, decide_eq_false_iff_not, Bool.or_eq_false_iff, Bool.not_eq_true, gt_iff_lt] at *); omega))) (E.H.back (fun w h => h) (E.al 6 rfl (E.nw [E.i 0, E.i 0, E.i 0, E.i 0, E.i 0, E.u 0, E.i 0] 66 (fun g6 => E.bk (E.al 7 rfl (E.st 0 [E.i (((K.rd k ((s.extract 0 ((K.len k)).toNat)).data.toList (K.len k))).op), E.i (((K.rd k ((s.extract 0 ((K.len k)).toNat)).data.toList (K.len k))).d), E.i (((K.rd k ((s.extract 0 ((K.len k)).toNat)).data.toList (K.len k))).s), E.i (((K.rd k ((s.extract 0 ((K.len k)).toNat)).data.toList (K.len k))).ix), E.i (((K.rd k ((s.extract 0 ((K.len k)).toNat)).data.toList (K.len k))).sc), E.u (((K.rd k ((s.extract 0 ((K.len k)).toNat)).data.toList (K.len k))).imm), E.i (((K.rd k ((s.extract 0 ((K.len k)).toNat)).data.toList (K.len k))).sz)] rfl rfl (E.bk (E.H.done (by kernel_rfl) (E.To.code (E.wk [(2, E.pt g1), (3, E.i 0), (6, E.pt g6)] [(g6, [E.i (((K.rd k ((s.extract 0 ((K.len k)).toNat)).data.toList (K.len k))).op), E.i (((K.rd k ((s.extract 0 ((K.len k)).toNat)).data.toList (K.len k))).d), E.i (((K.rd k ((s.extract 0 ((K.len k)).toNat)).data.toList (K.len k))).s), E.i (((K.rd k ((s.extract 0 ((K.len k)).toNat)).data.toList (K.len k))).ix), E.i (((K.rd k ((s.extract 0 ((K.len k)).toNat)).data.toList (K.len k))).sc), E.u (((K.rd k ((s.extract 0 ((K.len k)).toNat)).data.toList (K.len k))).imm), E.i (((K.rd k ((s.extract 0 ((K.len k)).toNat)).data.toList (K.len k))).sz)]), (g1, [E.i 0, E.i 0, E.i 0, E.i 0, E.i 0, E.u 0, E.i 0])] Nz.sub (E.C.seq ?_)))))))))))
  refine E.sr (E.li (.agg #[E.i (((K.rd k ((s.extract 0 ((K.len k)).toNat)).data.toList (K.len k))).op), E.i (((K.rd k ((s.extract 0 ((K.len k)).toNat)).data.toList (K.len k))).d), E.i (((K.rd k ((s.extract 0 ((K.len k)).toNat)).data.toList (K.len k))).s), E.i (((K.rd k ((s.extract 0 ((K.len k)).toNat)).data.toList (K.len k))).ix), E.i (((K.rd k ((s.extract 0 ((K.len k)).toNat)).data.toList (K.len k))).sc), E.u (((K.rd k ((s.extract 0 ((K.len k)).toNat)).data.toList (K.len k))).imm), E.i (((K.rd k ((s.extract 0 ((K.len k)).toNat)).data.toList (K.len k))).sz)]) 0 rfl rfl (E.ca (.bool (K.valid ((K.rd k ((s.extract 0 ((K.len k)).toNat)).data.toList (K.len k))))) (fun w h => Valid_any ((K.rd k ((s.extract 0 ((K.len k)).toNat)).data.toList (K.len k))) (K.rd_imm k (K.fmt_lt hk) _ _) w) (E.op (.bool (!(K.valid ((K.rd k ((s.extract 0 ((K.len k)).toNat)).data.toList (K.len k)))))) (E.To.code (E.cd (!(K.valid ((K.rd k ((s.extract 0 ((K.len k)).toNat)).data.toList (K.len k))))) (fun hc7 => ?_) (fun hc7 => ?_))))))
  ·
   refine E.sr (E.vl (.agg #[E.i 0, E.i 0, E.i 0, E.i 0, E.i 0, E.u 0, E.i 0]) (fun w h => E.run_build #[E.i 0, E.i 0, E.i 0, E.i 0, E.i 0, E.u 0, E.i 0] (by kernel_rfl) w) (E.st 1 [E.i 0, E.i 0, E.i 0, E.i 0, E.i 0, E.u 0, E.i 0] rfl rfl (E.op (E.i 12) (E.To.code (E.C.ret (E.P.rt (E.To.body (fn := Tryz.f79) [.agg #[E.i 0, E.i 0, E.i 0, E.i 0, E.i 0, E.u 0, E.i 0], E.i 12] ?_ ?_)))))))
   · exact ⟨⟨by kernel_rfl, _, _, 1, _, rfl, rfl, by kernel_rfl⟩, ⟨by kernel_rfl, by kernel_rfl⟩, trivial⟩
   intro w h
   exact ⟨by unfold K.decode1; rw [hc2, cond_false, hc5, cond_false, hc7, cond_true] <;> rfl, h.ch.bel (fun _ h => h.elim)⟩
  refine E.C.skip (E.To.code (E.sr (E.li (.agg #[E.i (((K.rd k ((s.extract 0 ((K.len k)).toNat)).data.toList (K.len k))).op), E.i (((K.rd k ((s.extract 0 ((K.len k)).toNat)).data.toList (K.len k))).d), E.i (((K.rd k ((s.extract 0 ((K.len k)).toNat)).data.toList (K.len k))).s), E.i (((K.rd k ((s.extract 0 ((K.len k)).toNat)).data.toList (K.len k))).ix), E.i (((K.rd k ((s.extract 0 ((K.len k)).toNat)).data.toList (K.len k))).sc), E.u (((K.rd k ((s.extract 0 ((K.len k)).toNat)).data.toList (K.len k))).imm), E.i (((K.rd k ((s.extract 0 ((K.len k)).toNat)).data.toList (K.len k))).sz)]) 0 rfl rfl (E.st 1 [E.i (((K.rd k ((s.extract 0 ((K.len k)).toNat)).data.toList (K.len k))).op), E.i (((K.rd k ((s.extract 0 ((K.len k)).toNat)).data.toList (K.len k))).d), E.i (((K.rd k ((s.extract 0 ((K.len k)).toNat)).data.toList (K.len k))).s), E.i (((K.rd k ((s.extract 0 ((K.len k)).toNat)).data.toList (K.len k))).ix), E.i (((K.rd k ((s.extract 0 ((K.len k)).toNat)).data.toList (K.len k))).sc), E.u (((K.rd k ((s.extract 0 ((K.len k)).toNat)).data.toList (K.len k))).imm), E.i (((K.rd k ((s.extract 0 ((K.len k)).toNat)).data.toList (K.len k))).sz)] rfl rfl (E.op (E.i 0) (E.To.code (E.C.ret (E.To.body (fn := Tryz.f79) [.agg #[E.i (((K.rd k ((s.extract 0 ((K.len k)).toNat)).data.toList (K.len k))).op), E.i (((K.rd k ((s.extract 0 ((K.len k)).toNat)).data.toList (K.len k))).d), E.i (((K.rd k ((s.extract 0 ((K.len k)).toNat)).data.toList (K.len k))).s), E.i (((K.rd k ((s.extract 0 ((K.len k)).toNat)).data.toList (K.len k))).ix), E.i (((K.rd k ((s.extract 0 ((K.len k)).toNat)).data.toList (K.len k))).sc), E.u (((K.rd k ((s.extract 0 ((K.len k)).toNat)).data.toList (K.len k))).imm), E.i (((K.rd k ((s.extract 0 ((K.len k)).toNat)).data.toList (K.len k))).sz)], E.i 0] ?_ ?_))))))))
  · exact ⟨⟨by kernel_rfl, _, _, 1, _, rfl, rfl, by kernel_rfl⟩, ⟨by kernel_rfl, by kernel_rfl⟩, trivial⟩
  intro w h
  exact ⟨by unfold K.decode1; rw [hc2, cond_false, hc5, cond_false, hc7, cond_false] <;> rfl, h.ch.bel (fun _ h => h.elim)⟩
 refine E.nw [E.i 0, E.i 0, E.i 0, E.i 0, E.i 0, E.u 0, E.i 0] 66 (fun g8 => E.bk (E.al 5 rfl (E.ca (.agg #[E.i (((K.rd k ((s.extract 0 ((K.len k)).toNat)).data.toList (K.len k))).op), E.i (((K.rd k ((s.extract 0 ((K.len k)).toNat)).data.toList (K.len k))).d), E.i (((K.rd k ((s.extract 0 ((K.len k)).toNat)).data.toList (K.len k))).s), E.i (((K.rd k ((s.extract 0 ((K.len k)).toNat)).data.toList (K.len k))).ix), E.i (((K.rd k ((s.extract 0 ((K.len k)).toNat)).data.toList (K.len k))).sc), E.u (((K.rd k ((s.extract 0 ((K.len k)).toNat)).data.toList (K.len k))).imm), E.i (((K.rd k ((s.extract 0 ((K.len k)).toNat)).data.toList (K.len k))).sz)]) (fun w h => read_any k (K.fmt_lt hk) _ _ w h.x.2 (s.extract 0 ((K.len k)).toNat) (by rw [ByteArray.size_extract]; unfold maxLen at *; first | (have hp := E.size_pos (by assumption); (try simp only [beq_iff_eq, bne_iff_ne, ne_eq, Bool.or_eq_true, Bool.and_eq_true, beq_eq_false_iff_ne, decide_eq_true_eq, decide_eq_false_iff_not, Bool.or_eq_false_iff, Bool.not_eq_true, gt_iff_lt] at *); omega) | ((try simp only [beq_iff_eq, bne_iff_ne, ne_eq, Bool.or_eq_true, Bool.and_eq_true, beq_eq_false_iff_ne, decide_eq_true_eq, decide_eq_false_iff_not, Bool.or_eq_false_iff, Bool.not_eq_true, gt_iff_lt] at *); omega)) (by rw [ByteArray.size_extract]; first | (have hp := E.size_pos (by assumption); (try simp only [beq_iff_eq, bne_iff_ne, ne_eq, Bool.or_eq_true, Bool.and_eq_true, beq_eq_false_iff_ne, decide_eq_true_eq, decide_eq_false_iff_not, Bool.or_eq_false_iff, Bool.not_eq_true, gt_iff_lt] at *); omega) | ((try simp only [beq_iff_eq, bne_iff_ne, ne_eq, Bool.or_eq_true, Bool.and_eq_true, beq_eq_false_iff_ne, decide_eq_true_eq, decide_eq_false_iff_not, Bool.or_eq_false_iff, Bool.not_eq_true, gt_iff_lt] at *); omega))) (E.bk (E.al 7 rfl (E.st 0 [E.i (((K.rd k ((s.extract 0 ((K.len k)).toNat)).data.toList (K.len k))).op), E.i (((K.rd k ((s.extract 0 ((K.len k)).toNat)).data.toList (K.len k))).d), E.i (((K.rd k ((s.extract 0 ((K.len k)).toNat)).data.toList (K.len k))).s), E.i (((K.rd k ((s.extract 0 ((K.len k)).toNat)).data.toList (K.len k))).ix), E.i (((K.rd k ((s.extract 0 ((K.len k)).toNat)).data.toList (K.len k))).sc), E.u (((K.rd k ((s.extract 0 ((K.len k)).toNat)).data.toList (K.len k))).imm), E.i (((K.rd k ((s.extract 0 ((K.len k)).toNat)).data.toList (K.len k))).sz)] rfl rfl (E.bk (E.H.done (by kernel_rfl) (E.To.code (E.wk [(2, E.pt g1), (3, E.i 0), (6, E.pt g8)] [(g8, [E.i (((K.rd k ((s.extract 0 ((K.len k)).toNat)).data.toList (K.len k))).op), E.i (((K.rd k ((s.extract 0 ((K.len k)).toNat)).data.toList (K.len k))).d), E.i (((K.rd k ((s.extract 0 ((K.len k)).toNat)).data.toList (K.len k))).s), E.i (((K.rd k ((s.extract 0 ((K.len k)).toNat)).data.toList (K.len k))).ix), E.i (((K.rd k ((s.extract 0 ((K.len k)).toNat)).data.toList (K.len k))).sc), E.u (((K.rd k ((s.extract 0 ((K.len k)).toNat)).data.toList (K.len k))).imm), E.i (((K.rd k ((s.extract 0 ((K.len k)).toNat)).data.toList (K.len k))).sz)]), (g1, [E.i 0, E.i 0, E.i 0, E.i 0, E.i 0, E.u 0, E.i 0])] Nz.sub (E.C.seq ?_)))))))))))
 refine E.sr (E.li (.agg #[E.i (((K.rd k ((s.extract 0 ((K.len k)).toNat)).data.toList (K.len k))).op), E.i (((K.rd k ((s.extract 0 ((K.len k)).toNat)).data.toList (K.len k))).d), E.i (((K.rd k ((s.extract 0 ((K.len k)).toNat)).data.toList (K.len k))).s), E.i (((K.rd k ((s.extract 0 ((K.len k)).toNat)).data.toList (K.len k))).ix), E.i (((K.rd k ((s.extract 0 ((K.len k)).toNat)).data.toList (K.len k))).sc), E.u (((K.rd k ((s.extract 0 ((K.len k)).toNat)).data.toList (K.len k))).imm), E.i (((K.rd k ((s.extract 0 ((K.len k)).toNat)).data.toList (K.len k))).sz)]) 0 rfl rfl (E.ca (.bool (K.valid ((K.rd k ((s.extract 0 ((K.len k)).toNat)).data.toList (K.len k))))) (fun w h => Valid_any ((K.rd k ((s.extract 0 ((K.len k)).toNat)).data.toList (K.len k))) (K.rd_imm k (K.fmt_lt hk) _ _) w) (E.op (.bool (!(K.valid ((K.rd k ((s.extract 0 ((K.len k)).toNat)).data.toList (K.len k)))))) (E.To.code (E.cd (!(K.valid ((K.rd k ((s.extract 0 ((K.len k)).toNat)).data.toList (K.len k))))) (fun hc9 => ?_) (fun hc9 => ?_))))))
 ·
  refine E.sr (E.vl (.agg #[E.i 0, E.i 0, E.i 0, E.i 0, E.i 0, E.u 0, E.i 0]) (fun w h => E.run_build #[E.i 0, E.i 0, E.i 0, E.i 0, E.i 0, E.u 0, E.i 0] (by kernel_rfl) w) (E.st 1 [E.i 0, E.i 0, E.i 0, E.i 0, E.i 0, E.u 0, E.i 0] rfl rfl (E.op (E.i 12) (E.To.code (E.C.ret (E.P.rt (E.To.body (fn := Tryz.f79) [.agg #[E.i 0, E.i 0, E.i 0, E.i 0, E.i 0, E.u 0, E.i 0], E.i 12] ?_ ?_)))))))
  · exact ⟨⟨by kernel_rfl, _, _, 1, _, rfl, rfl, by kernel_rfl⟩, ⟨by kernel_rfl, by kernel_rfl⟩, trivial⟩
  intro w h
  exact ⟨by unfold K.decode1; rw [hc2, cond_false, hc5, cond_false, hc9, cond_true] <;> rfl, h.ch.bel (fun _ h => h.elim)⟩
 refine E.C.skip (E.To.code (E.sr (E.li (.agg #[E.i (((K.rd k ((s.extract 0 ((K.len k)).toNat)).data.toList (K.len k))).op), E.i (((K.rd k ((s.extract 0 ((K.len k)).toNat)).data.toList (K.len k))).d), E.i (((K.rd k ((s.extract 0 ((K.len k)).toNat)).data.toList (K.len k))).s), E.i (((K.rd k ((s.extract 0 ((K.len k)).toNat)).data.toList (K.len k))).ix), E.i (((K.rd k ((s.extract 0 ((K.len k)).toNat)).data.toList (K.len k))).sc), E.u (((K.rd k ((s.extract 0 ((K.len k)).toNat)).data.toList (K.len k))).imm), E.i (((K.rd k ((s.extract 0 ((K.len k)).toNat)).data.toList (K.len k))).sz)]) 0 rfl rfl (E.st 1 [E.i (((K.rd k ((s.extract 0 ((K.len k)).toNat)).data.toList (K.len k))).op), E.i (((K.rd k ((s.extract 0 ((K.len k)).toNat)).data.toList (K.len k))).d), E.i (((K.rd k ((s.extract 0 ((K.len k)).toNat)).data.toList (K.len k))).s), E.i (((K.rd k ((s.extract 0 ((K.len k)).toNat)).data.toList (K.len k))).ix), E.i (((K.rd k ((s.extract 0 ((K.len k)).toNat)).data.toList (K.len k))).sc), E.u (((K.rd k ((s.extract 0 ((K.len k)).toNat)).data.toList (K.len k))).imm), E.i (((K.rd k ((s.extract 0 ((K.len k)).toNat)).data.toList (K.len k))).sz)] rfl rfl (E.op (E.i 0) (E.To.code (E.C.ret (E.To.body (fn := Tryz.f79) [.agg #[E.i (((K.rd k ((s.extract 0 ((K.len k)).toNat)).data.toList (K.len k))).op), E.i (((K.rd k ((s.extract 0 ((K.len k)).toNat)).data.toList (K.len k))).d), E.i (((K.rd k ((s.extract 0 ((K.len k)).toNat)).data.toList (K.len k))).s), E.i (((K.rd k ((s.extract 0 ((K.len k)).toNat)).data.toList (K.len k))).ix), E.i (((K.rd k ((s.extract 0 ((K.len k)).toNat)).data.toList (K.len k))).sc), E.u (((K.rd k ((s.extract 0 ((K.len k)).toNat)).data.toList (K.len k))).imm), E.i (((K.rd k ((s.extract 0 ((K.len k)).toNat)).data.toList (K.len k))).sz)], E.i 0] ?_ ?_))))))))
 · exact ⟨⟨by kernel_rfl, _, _, 1, _, rfl, rfl, by kernel_rfl⟩, ⟨by kernel_rfl, by kernel_rfl⟩, trivial⟩
 intro w h
 exact ⟨by unfold K.decode1; rw [hc2, cond_false, hc5, cond_false, hc9, cond_false] <;> rfl, h.ch.bel (fun _ h => h.elim)⟩

def K.decode (s : ByteArray) : K.Ins × Int := match K.fmt (IntKind.wrap .i64 (W.byt s.data.toList 0)) with
  | none => K.decode0 s
  | some k => K.decode1 k s
theorem Decode_any (s : ByteArray) (hs : s.size ≤ maxLen) (w : World) : Calls Tryz.prog 79 #[.string s] w fun e w' => e = .returned (.tuple #[.agg #[.int .i64 (K.decode s).1.op, .int .i64 (K.decode s).1.d, .int .i64 (K.decode s).1.s, .int .i64 (K.decode s).1.ix, .int .i64 (K.decode s).1.sc, .int .u32 (K.decode s).1.imm, .int .i64 (K.decode s).1.sz], .int .i64 (K.decode s).2]) ∧ Bel w w' := by
  unfold K.decode
  cases hk : K.fmt (IntKind.wrap .i64 (W.byt s.data.toList 0)) with
  | none => exact Decode_none s hk w
  | some k => exact Decode_some k s hk hs w
/-- The bytes at p. -/
def K.b0 (V : M.V) (p : Int) : Int := (V.fetch (p).toNat).1
def K.o0 (V : M.V) (p : Int) : Bool := (V.fetch (p).toNat).2
def K.b (V : M.V) (p k : Int) : Int := (V.fetch ((IntKind.wrap .u32 (p + k))).toNat).1
def K.o (V : M.V) (p k : Int) : Bool := (V.fetch ((IntKind.wrap .u32 (p + k))).toNat).2
def K.bl (V : M.V) (p : Int) (n : Nat) : List Int := (K.b0 V p :: [K.b V p 1, K.b V p 2, K.b V p 3, K.b V p 4, K.b V p 5, K.b V p 6]).take n
/-- The instruction of the first n of them. -/
def K.dc (V : M.V) (p : Int) (n : Nat) : K.Ins × Int := K.decode (strOfNums (K.bl V p n))
theorem K.size_le (x : Int) : K.size x ≤ 7 := by
  unfold K.size
  split
  · decide
  · next k hk => exact (K.len_bd k (K.fmt_lt hk)).2
def K.fetch (V : M.V) (p : Int) : K.Ins × Int × Int := (bif (!(K.o0 V p)) then (⟨0, 0, 0, 0, 0, 0, 0⟩, 5, p) else (bif ((K.size (K.b0 V p)) == 0) then (⟨0, 0, 0, 0, 0, 0, 0⟩, 7, 0) else (bif (decide (1 < (K.size (K.b0 V p)))) then (bif (!(K.o V p 1)) then (⟨0, 0, 0, 0, 0, 0, 0⟩, 5, (IntKind.wrap .u32 (p + 1))) else (bif (decide (2 < (K.size (K.b0 V p)))) then (bif (!(K.o V p 2)) then (⟨0, 0, 0, 0, 0, 0, 0⟩, 5, (IntKind.wrap .u32 (p + 2))) else (bif (decide (3 < (K.size (K.b0 V p)))) then (bif (!(K.o V p 3)) then (⟨0, 0, 0, 0, 0, 0, 0⟩, 5, (IntKind.wrap .u32 (p + 3))) else (bif (decide (4 < (K.size (K.b0 V p)))) then (bif (!(K.o V p 4)) then (⟨0, 0, 0, 0, 0, 0, 0⟩, 5, (IntKind.wrap .u32 (p + 4))) else (bif (decide (5 < (K.size (K.b0 V p)))) then (bif (!(K.o V p 5)) then (⟨0, 0, 0, 0, 0, 0, 0⟩, 5, (IntKind.wrap .u32 (p + 5))) else (bif (decide (6 < (K.size (K.b0 V p)))) then (bif (!(K.o V p 6)) then (⟨0, 0, 0, 0, 0, 0, 0⟩, 5, (IntKind.wrap .u32 (p + 6))) else (bif (((K.dc V p 7).2) != 0) then (((K.dc V p 7).1), 7, 0) else (((K.dc V p 7).1), 0, 0))) else (bif (((K.dc V p 6).2) != 0) then (((K.dc V p 6).1), 7, 0) else (((K.dc V p 6).1), 0, 0)))) else (bif (((K.dc V p 5).2) != 0) then (((K.dc V p 5).1), 7, 0) else (((K.dc V p 5).1), 0, 0)))) else (bif (((K.dc V p 4).2) != 0) then (((K.dc V p 4).1), 7, 0) else (((K.dc V p 4).1), 0, 0)))) else (bif (((K.dc V p 3).2) != 0) then (((K.dc V p 3).1), 7, 0) else (((K.dc V p 3).1), 0, 0)))) else (bif (((K.dc V p 2).2) != 0) then (((K.dc V p 2).1), 7, 0) else (((K.dc V p 2).1), 0, 0)))) else (bif (((K.dc V p 1).2) != 0) then (((K.dc V p 1).1), 7, 0) else (((K.dc V p 1).1), 0, 0)))))
/-- The bytes as cells. -/
def K.bv (V : M.V) (p : Int) (n : Nat) : List Value := (K.bl V p n).map (Value.int .u8)
theorem K.bl_len (V : M.V) (p : Int) {k : Nat} (h : k ≤ 7) : (K.bl V p k).length = k := by
  unfold K.bl; rw [List.length_take]; show min k 7 = k; omega
theorem K.bv_len (V : M.V) (p : Int) {k : Nat} (h : k ≤ 7) : (K.bv V p k).length = k * 1 := by unfold K.bv; rw [List.length_map, K.bl_len V p h, Nat.mul_one]
theorem K.bv_take (V : M.V) (p : Int) {k : Nat} (h : k ≤ 7) (r : List Value) : ((K.bv V p k ++ r).drop 0).take k = (K.bl V p k).map (Value.int .u8) := by
  rw [List.drop_zero, List.take_append_of_le_length (by rw [K.bv_len V p h]; omega), List.take_of_length_le (by rw [K.bv_len V p h]; omega)]; rfl
theorem K.bv_s (V : M.V) (p : Int) {k : Nat} (h1 : 1 ≤ k) (h : k < 7) : K.bv V p k ++ [Value.int .u8 (K.b V p ((k : Nat) : Int))] = K.bv V p (k + 1) := by
  rcases (by omega : k = 1 ∨ k = 2 ∨ k = 3 ∨ k = 4 ∨ k = 5 ∨ k = 6) with rfl | rfl | rfl | rfl | rfl | rfl <;> rfl
theorem K.bl_max (V : M.V) (p : Int) {k : Nat} (h : k ≤ 7) : (strOfNums (K.bl V p k)).size ≤ maxLen := by
  rw [strOfNums_size, K.bl_len V p h]; have : (7 : Nat) ≤ maxLen := (by decide); omega
theorem K.wk7 {k : Nat} (h : k ≤ 7) : IntKind.wrap .u32 ((k : Nat) : Int) = ((k : Nat) : Int) := by show ((k : Nat) : Int) % 4294967296 = _; omega
/-- What is fetched where k bytes have been read. -/
def K.fd (V : M.V) (p : Int) (k : Nat) : K.Ins × Int × Int := bif ((K.dc V p k).2 != 0) then ((K.dc V p k).1, 7, 0) else ((K.dc V p k).1, 0, 0)
def K.floop (V : M.V) (p : Int) : Nat → Nat → K.Ins × Int × Int
  | 0, k => K.fd V p k
  | f + 1, k => bif (decide (((k : Nat) : Int) < (K.size (K.b0 V p)))) then (bif (!(K.o V p ((k : Nat) : Int))) then (⟨0, 0, 0, 0, 0, 0, 0⟩, 5, IntKind.wrap .u32 (p + ((k : Nat) : Int))) else K.floop V p f (k + 1)) else K.fd V p k
theorem K.fetch_loop {V : M.V} {p : Int} (h1 : (!(K.o0 V p)) = false) (h2 : ((K.size (K.b0 V p)) == 0) = false) : K.fetch V p = K.floop V p 6 1 := by
  unfold K.fetch; rw [h1, h2, cond_false, cond_false]; rfl
theorem K.lt7 {k : Nat} {x : Int} (h : (decide (((k : Nat) : Int) < (K.size x))) = true) : k < 7 := by
  have := of_decide_eq_true h; have := K.size_le x; omega
section
variable {V : M.V} {p : Int} {k : Nat}
theorem K.fl_t (h1 : (decide (((k : Nat) : Int) < (K.size (K.b0 V p)))) = true) (h2 : (!(K.o V p ((k : Nat) : Int))) = false) : K.floop V p (7 - k) k = K.floop V p (7 - (k + 1)) (k + 1) := by
  have := K.lt7 h1
  rw [show 7 - k = (7 - (k + 1)) + 1 by omega, K.floop, h1, h2, cond_true, cond_false]
theorem K.fl_f (h1 : (decide (((k : Nat) : Int) < (K.size (K.b0 V p)))) = true) (h2 : (!(K.o V p ((k : Nat) : Int))) = true) : K.floop V p (7 - k) k = (⟨0, 0, 0, 0, 0, 0, 0⟩, 5, IntKind.wrap .u32 (p + ((k : Nat) : Int))) := by
  have := K.lt7 h1
  rw [show 7 - k = (7 - (k + 1)) + 1 by omega, K.floop, h1, h2, cond_true, cond_true]
theorem K.fl_d (h1 : (decide (((k : Nat) : Int) < (K.size (K.b0 V p)))) = false) : K.floop V p (7 - k) k = K.fd V p k := by
  cases e : 7 - k with
  | zero => rfl
  | succ f => rw [K.floop, h1, cond_false]
theorem K.fl_e (h1 : (decide (((k : Nat) : Int) < (K.size (K.b0 V p)))) = false) (h : ((K.dc V p k).2 != 0) = true) : K.floop V p (7 - k) k = ((K.dc V p k).1, 7, 0) := by rw [K.fl_d h1]; unfold K.fd; rw [h, cond_true]
theorem K.fl_g (h1 : (decide (((k : Nat) : Int) < (K.size (K.b0 V p)))) = false) (h : ((K.dc V p k).2 != 0) = false) : K.floop V p (7 - k) k = ((K.dc V p k).1, 0, 0) := by rw [K.fl_d h1]; unfold K.fd; rw [h, cond_false]
end
theorem Fetch_rd {m : Nat} {xs : List Value} (V : M.V) (p : Int) (hp : 0 ≤ p ∧ p < 4294967296) : A.Rd Tryz.prog 52 #[.int .u32 p, .func (.method "Fetch") #[.iface 35 (.pointer (some ⟨m, 0, none⟩))] #[]] [M.It m V xs] (.tuple #[.agg #[.int .i64 (((K.fetch V p).1).op), .int .i64 (((K.fetch V p).1).d), .int .i64 (((K.fetch V p).1).s), .int .i64 (((K.fetch V p).1).ix), .int .i64 (((K.fetch V p).1).sc), .int .u32 (((K.fetch V p).1).imm), .int .i64 (((K.fetch V p).1).sz)], .agg #[.int .i64 ((K.fetch V p).2.1), .int .u32 ((K.fetch V p).2.2)]]) := by
 intro w oo aa hh
 refine E.enter (n := 68) (S := fun _ => False) Tryz.func52 rfl rfl (by kernel_rfl) (A.startY hh) (E.sr (E.nw [E.i 0, E.i 0, E.i 0, E.i 0, E.i 0, E.u 0, E.i 0] 66 (fun g1 => E.nw [E.i 0, E.u 0] 47 (fun g2 => E.tr (E.op (.func (.method "Fetch") #[.iface 35 (E.pt m)] #[]) (E.op (E.u p) (E.ca (.tuple #[.int .u8 (K.b0 V p), .bool (K.o0 V p)]) (fun w h => A.Y.rd [] (I_Fetch p hp (m := m) (V := V) (xs := xs)) h.x (A.pn [0])) (E.op (.tuple #[.int .u8 (K.b0 V p), .bool (K.o0 V p)]) (E.op (.int .u8 (K.b0 V p)) (E.op (.bool (K.o0 V p)) (E.op (.int .u8 (K.b0 V p)) ?_)))))))))))
 refine E.op (.bool (K.o0 V p)) (E.To.code (E.C.seq (E.sr (E.op (.bool (K.o0 V p)) (E.op (.bool (!(K.o0 V p))) (E.To.code (E.cd (!(K.o0 V p)) (fun hc3 => ?_) (fun hc3 => ?_))))))))
 ·
  refine E.sr (E.vl (.agg #[E.i 0, E.i 0, E.i 0, E.i 0, E.i 0, E.u 0, E.i 0]) (fun w h => E.run_build #[E.i 0, E.i 0, E.i 0, E.i 0, E.i 0, E.u 0, E.i 0] (by kernel_rfl) w) (E.op (E.u p) (E.vl (.agg #[E.i 5, E.u p]) (fun w h => E.run_build #[E.i 5, E.u p] (by kernel_rfl) w) (E.st 1 [E.i 0, E.i 0, E.i 0, E.i 0, E.i 0, E.u 0, E.i 0] rfl rfl (E.st 0 [E.i 5, E.u p] rfl rfl (E.To.code (E.wk [(0, E.u p), (1, .func (.method "Fetch") #[.iface 35 (E.pt m)] #[]), (4, E.pt g1), (5, E.pt g2), (6, .int .u8 (K.b0 V p)), (7, .bool (K.o0 V p))] [(g2, [E.i 5, E.u p]), (g1, [E.i 0, E.i 0, E.i 0, E.i 0, E.i 0, E.u 0, E.i 0])] Nz.sub (E.C.ret (E.P.rt (E.To.body (fn := Tryz.f52) [.agg #[E.i 0, E.i 0, E.i 0, E.i 0, E.i 0, E.u 0, E.i 0], .agg #[E.i 5, E.u p]] ?_ ?_))))))))))
  · exact ⟨⟨by kernel_rfl, _, _, 1, _, rfl, rfl, by kernel_rfl⟩, ⟨by kernel_rfl, _, _, 0, _, rfl, rfl, by kernel_rfl⟩, trivial⟩
  intro w h
  exact ⟨by unfold K.fetch; rw [hc3, cond_true] <;> rfl, h.ch.bel (fun _ h => h.elim)⟩
 refine E.C.skip (E.To.code (E.wk [(0, E.u p), (1, .func (.method "Fetch") #[.iface 35 (E.pt m)] #[]), (4, E.pt g1), (5, E.pt g2), (6, .int .u8 (K.b0 V p)), (7, .bool (K.o0 V p))] [(g2, [E.i 0, E.u 0]), (g1, [E.i 0, E.i 0, E.i 0, E.i 0, E.i 0, E.u 0, E.i 0])] Nz.sub (E.sr (E.op (.int .u8 (K.b0 V p)) (E.ca (E.i (K.size (K.b0 V p))) (fun w h => Size_any (K.b0 V p) w) (E.op (E.i (K.size (K.b0 V p))) (E.To.code (E.C.seq (E.sr (E.op (E.i (K.size (K.b0 V p))) (E.op (.bool ((K.size (K.b0 V p)) == 0)) (E.To.code ?_))))))))))))
 refine E.cd ((K.size (K.b0 V p)) == 0) (fun hc4 => ?_) (fun hc4 => ?_)
 ·
  refine E.sr (E.vl (.agg #[E.i 0, E.i 0, E.i 0, E.i 0, E.i 0, E.u 0, E.i 0]) (fun w h => E.run_build #[E.i 0, E.i 0, E.i 0, E.i 0, E.i 0, E.u 0, E.i 0] (by kernel_rfl) w) (E.vl (.agg #[E.i 7, E.u 0]) (fun w h => E.run_build #[E.i 7, E.u 0] (by kernel_rfl) w) (E.st 1 [E.i 0, E.i 0, E.i 0, E.i 0, E.i 0, E.u 0, E.i 0] rfl rfl (E.st 0 [E.i 7, E.u 0] rfl rfl (E.To.code (E.C.ret (E.P.rt (E.To.body (fn := Tryz.f52) [.agg #[E.i 0, E.i 0, E.i 0, E.i 0, E.i 0, E.u 0, E.i 0], .agg #[E.i 7, E.u 0]] ?_ ?_))))))))
  · exact ⟨⟨by kernel_rfl, _, _, 1, _, rfl, rfl, by kernel_rfl⟩, ⟨by kernel_rfl, _, _, 0, _, rfl, rfl, by kernel_rfl⟩, trivial⟩
  intro w h
  exact ⟨by unfold K.fetch; rw [hc3, hc4, cond_false, cond_true] <;> rfl, h.ch.bel (fun _ h => h.elim)⟩
 refine E.C.skip (E.To.code (E.sr (E.op (.int .u8 (K.b0 V p)) (E.G.buildSlice [.int .u8 (K.b0 V p)] (by kernel_rfl) (by kernel_rfl) (fun g5 => E.op (.slice (some ⟨g5, 0, none⟩) 1 1) (E.To.code (E.C.seq (E.C.block (E.C.loop (I := Nat × Nat × Nat × List Value) (fun i => 7 - i.1) (fun i => 1 ≤ i.1 ∧ i.1 ≤ 7 ∧ i.1 ≤ i.2.2.1 ∧ i.2.2.2.length = (i.2.2.1 - i.1) * 1 ∧ K.fetch V p = K.floop V p (7 - i.1) i.1) (fun i => [(0, .int .u32 p), (1, .func (.method "Fetch") #[.iface 35 (.pointer (some ⟨m, 0, none⟩))] #[]), (4, .pointer (some ⟨g1, 0, none⟩)), (5, .pointer (some ⟨g2, 0, none⟩)), (8, .int .i64 (K.size (K.b0 V p))), (9, .slice (some ⟨i.2.1, 0, none⟩) i.1 i.2.2.1)]) (fun i => A.Y [M.It m V xs]) (fun i => [(i.2.1, (K.bv V p i.1 ++ i.2.2.2)), (g2, [.int .i64 0, .int .u32 0]), (g1, [.int .i64 0, .int .i64 0, .int .i64 0, .int .i64 0, .int .i64 0, .int .u32 0, .int .i64 0])]) (1, g5, 1, []) (⟨Nat.le_refl _, by show 1 ≤ 7; decide, Nat.le_refl _, rfl, K.fetch_loop hc3 hc4⟩) ⟨by kernel_rfl, by kernel_rfl⟩ Nz.sub (fun _ h => h) (fun i hk1 => E.C.seq (E.sr (E.op (.slice (some ⟨i.2.1, 0, none⟩) i.1 i.2.2.1) ?_))))))))))))
 refine E.op (E.i ((i.1 : Nat) : Int)) (E.op (E.i (K.size (K.b0 V p))) (E.op (.bool (decide (((i.1 : Nat) : Int) < (K.size (K.b0 V p))))) (E.To.code (E.cd (decide (((i.1 : Nat) : Int) < (K.size (K.b0 V p)))) (fun hc6 => ?_) (fun hc6 => ?_)))))
 ·
  refine E.C.skip (E.To.code (E.C.block (E.sr (E.op (E.u p) (E.op (.slice (some ⟨i.2.1, 0, none⟩) i.1 i.2.2.1) (E.op (E.i ((i.1 : Nat) : Int)) (E.vl (E.u ((i.1 : Nat) : Int)) (fun w h => E.run_as (a := E.u (IntKind.wrap .u32 ((i.1 : Nat) : Int))) (by kernel_rfl) (congrArg (Value.int .u32) (K.wk7 hk1.2.1))) (E.op (E.u (IntKind.wrap .u32 (p + ((i.1 : Nat) : Int)))) (E.op (E.u (IntKind.wrap .u32 (p + ((i.1 : Nat) : Int)))) (E.tr (E.op (.func (.method "Fetch") #[.iface 35 (E.pt m)] #[]) (E.op (E.u (IntKind.wrap .u32 (p + ((i.1 : Nat) : Int)))) ?_))))))))))))
  refine E.ca (.tuple #[.int .u8 (K.b V p ((i.1 : Nat) : Int)), .bool (K.o V p ((i.1 : Nat) : Int))]) (fun w h => A.Y.rd [] (I_Fetch (IntKind.wrap .u32 (p + ((i.1 : Nat) : Int))) (Q.wrap_bd _) (m := m) (V := V) (xs := xs)) h.x (A.pn [0])) (E.op (.tuple #[.int .u8 (K.b V p ((i.1 : Nat) : Int)), .bool (K.o V p ((i.1 : Nat) : Int))]) (E.op (.int .u8 (K.b V p ((i.1 : Nat) : Int))) (E.op (.bool (K.o V p ((i.1 : Nat) : Int))) (E.op (.int .u8 (K.b V p ((i.1 : Nat) : Int))) (E.op (.bool (K.o V p ((i.1 : Nat) : Int))) (E.To.code (E.C.seq (E.sr (E.op (.bool (K.o V p ((i.1 : Nat) : Int))) (E.op (.bool (!(K.o V p ((i.1 : Nat) : Int)))) (E.To.code ?_)))))))))))
  refine E.cd (!(K.o V p ((i.1 : Nat) : Int))) (fun hc7 => ?_) (fun hc7 => ?_)
  ·
   refine E.sr (E.vl (.agg #[E.i 0, E.i 0, E.i 0, E.i 0, E.i 0, E.u 0, E.i 0]) (fun w h => E.run_build #[E.i 0, E.i 0, E.i 0, E.i 0, E.i 0, E.u 0, E.i 0] (by kernel_rfl) w) (E.op (E.u (IntKind.wrap .u32 (p + ((i.1 : Nat) : Int)))) (E.vl (.agg #[E.i 5, E.u (IntKind.wrap .u32 (p + ((i.1 : Nat) : Int)))]) (fun w h => E.run_build #[E.i 5, E.u (IntKind.wrap .u32 (p + ((i.1 : Nat) : Int)))] (by kernel_rfl) w) (E.st 2 [E.i 0, E.i 0, E.i 0, E.i 0, E.i 0, E.u 0, E.i 0] rfl rfl (E.st 1 [E.i 5, E.u (IntKind.wrap .u32 (p + ((i.1 : Nat) : Int)))] rfl rfl (E.To.code (E.C.ret (E.P.rt (E.P.rb (E.P.rt (E.P.rb (E.P.rt (E.To.body (fn := Tryz.f52) [.agg #[E.i 0, E.i 0, E.i 0, E.i 0, E.i 0, E.u 0, E.i 0], .agg #[E.i 5, E.u (IntKind.wrap .u32 (p + ((i.1 : Nat) : Int)))]] ?_ ?_)))))))))))))
   · exact ⟨⟨by kernel_rfl, _, _, 2, _, rfl, rfl, by kernel_rfl⟩, ⟨by kernel_rfl, _, _, 1, _, rfl, rfl, by kernel_rfl⟩, trivial⟩
   intro w h
   exact ⟨by rw [hk1.2.2.2.2, K.fl_f hc6 hc7] <;> rfl, h.ch.bel (fun _ h => h.elim)⟩
  exact E.C.skip (E.To.code (E.C.region (E.op (.slice (some ⟨i.2.1, 0, none⟩) i.1 i.2.2.1) (E.op (.int .u8 (K.b V p ((i.1 : Nat) : Int))) (E.G.buildSlice [.int .u8 (K.b V p ((i.1 : Nat) : Int))] (by kernel_rfl) (by kernel_rfl) (fun g8 => E.G.append (e := 5) 1 i.2.1 i.1 i.2.2.1 0 g8 0 1 1 1 1 (K.bv V p i.1) i.2.2.2 [.int .u8 (K.b V p ((i.1 : Nat) : Int))] _ (by kernel_rfl) (by kernel_rfl) (by kernel_rfl) rfl (K.bv_len V p hk1.2.1) hk1.2.2.2.1 hk1.2.2.1 (by kernel_rfl) rfl (by kernel_rfl) rfl (by rfl) (by omega) (by omega) (by omega) (by kernel_rfl) (fun g9 c10 r11 hc12 hr13 => E.G.relist [(g9, (K.bv V p (i.1 + 1) ++ r11)), (g8, [.int .u8 (K.b V p ((i.1 : Nat) : Int))]), (g2, [E.i 0, E.u 0]), (g1, [E.i 0, E.i 0, E.i 0, E.i 0, E.i 0, E.u 0, E.i 0])] (by rw [← K.bv_s V p hk1.1 (K.lt7 hc6)] <;> rfl) (E.op (.slice (some ⟨g9, 0, none⟩) (i.1 + 1) c10) (E.P.nb (E.To.round (i.1 + 1, g9, c10, r11) (by show 7 - (i.1 + 1) < 7 - i.1; have := K.lt7 hc6; omega) (⟨by omega, by have := K.lt7 hc6; omega, hc12, hr13, hk1.2.2.2.2.trans (K.fl_t hc6 hc7)⟩) ⟨by kernel_rfl, by kernel_rfl⟩ Nz.sub (fun _ h => h)))))))))))
 refine E.C.exit (E.P.et (E.P.et (E.P.eh (E.To.code (E.sr (E.op (.slice (some ⟨i.2.1, 0, none⟩) i.1 i.2.2.1) (E.vl (.string (strOfNums (K.bl V p i.1))) (fun w h => E.b2s h 0 i.2.1 0 i.1 i.2.2.1 (K.bl V p i.1) (e := 5) (by kernel_rfl) (by kernel_rfl) (by kernel_rfl) (by kernel_rfl) rfl (K.bv_take V p hk1.2.1 _) (K.bl_len V p hk1.2.1)) (E.ca (.tuple #[.agg #[E.i (((K.dc V p i.1).1).op), E.i (((K.dc V p i.1).1).d), E.i (((K.dc V p i.1).1).s), E.i (((K.dc V p i.1).1).ix), E.i (((K.dc V p i.1).1).sc), E.u (((K.dc V p i.1).1).imm), E.i (((K.dc V p i.1).1).sz)], E.i ((K.dc V p i.1).2)]) (fun w h => Decode_any (strOfNums (K.bl V p i.1)) (K.bl_max V p hk1.2.1) w) (E.op (.tuple #[.agg #[E.i (((K.dc V p i.1).1).op), E.i (((K.dc V p i.1).1).d), E.i (((K.dc V p i.1).1).s), E.i (((K.dc V p i.1).1).ix), E.i (((K.dc V p i.1).1).sc), E.u (((K.dc V p i.1).1).imm), E.i (((K.dc V p i.1).1).sz)], E.i ((K.dc V p i.1).2)]) (E.op (.agg #[E.i (((K.dc V p i.1).1).op), E.i (((K.dc V p i.1).1).d), E.i (((K.dc V p i.1).1).s), E.i (((K.dc V p i.1).1).ix), E.i (((K.dc V p i.1).1).sc), E.u (((K.dc V p i.1).1).imm), E.i (((K.dc V p i.1).1).sz)]) (E.op (E.i ((K.dc V p i.1).2)) (E.nw [E.i 0, E.i 0, E.i 0, E.i 0, E.i 0, E.u 0, E.i 0] 66 (fun g14 => E.st 0 [E.i (((K.dc V p i.1).1).op), E.i (((K.dc V p i.1).1).d), E.i (((K.dc V p i.1).1).s), E.i (((K.dc V p i.1).1).ix), E.i (((K.dc V p i.1).1).sc), E.u (((K.dc V p i.1).1).imm), E.i (((K.dc V p i.1).1).sz)] rfl rfl (E.op (E.i ((K.dc V p i.1).2)) (E.To.code ?_)))))))))))))))
 refine E.wk [(4, E.pt g1), (5, E.pt g2), (11, E.pt g14), (12, E.i ((K.dc V p i.1).2))] [(g14, [E.i (((K.dc V p i.1).1).op), E.i (((K.dc V p i.1).1).d), E.i (((K.dc V p i.1).1).s), E.i (((K.dc V p i.1).1).ix), E.i (((K.dc V p i.1).1).sc), E.u (((K.dc V p i.1).1).imm), E.i (((K.dc V p i.1).1).sz)]), (g2, [E.i 0, E.u 0]), (g1, [E.i 0, E.i 0, E.i 0, E.i 0, E.i 0, E.u 0, E.i 0])] Nz.sub (E.C.seq (E.sr (E.op (E.i ((K.dc V p i.1).2)) (E.op (.bool (((K.dc V p i.1).2) != 0)) (E.To.code (E.cd (((K.dc V p i.1).2) != 0) (fun hc15 => ?_) (fun hc15 => ?_)))))))
 ·
  refine E.sr (E.li (.agg #[E.i (((K.dc V p i.1).1).op), E.i (((K.dc V p i.1).1).d), E.i (((K.dc V p i.1).1).s), E.i (((K.dc V p i.1).1).ix), E.i (((K.dc V p i.1).1).sc), E.u (((K.dc V p i.1).1).imm), E.i (((K.dc V p i.1).1).sz)]) 0 rfl rfl (E.vl (.agg #[E.i 7, E.u 0]) (fun w h => E.run_build #[E.i 7, E.u 0] (by kernel_rfl) w) (E.st 2 [E.i (((K.dc V p i.1).1).op), E.i (((K.dc V p i.1).1).d), E.i (((K.dc V p i.1).1).s), E.i (((K.dc V p i.1).1).ix), E.i (((K.dc V p i.1).1).sc), E.u (((K.dc V p i.1).1).imm), E.i (((K.dc V p i.1).1).sz)] rfl rfl (E.st 1 [E.i 7, E.u 0] rfl rfl (E.To.code (E.C.ret (E.P.rt (E.To.body (fn := Tryz.f52) [.agg #[E.i (((K.dc V p i.1).1).op), E.i (((K.dc V p i.1).1).d), E.i (((K.dc V p i.1).1).s), E.i (((K.dc V p i.1).1).ix), E.i (((K.dc V p i.1).1).sc), E.u (((K.dc V p i.1).1).imm), E.i (((K.dc V p i.1).1).sz)], .agg #[E.i 7, E.u 0]] ?_ ?_))))))))
  · exact ⟨⟨by kernel_rfl, _, _, 2, _, rfl, rfl, by kernel_rfl⟩, ⟨by kernel_rfl, _, _, 1, _, rfl, rfl, by kernel_rfl⟩, trivial⟩
  intro w h
  exact ⟨by rw [hk1.2.2.2.2, K.fl_e hc6 hc15] <;> rfl, h.ch.bel (fun _ h => h.elim)⟩
 refine E.C.skip (E.To.code (E.sr (E.li (.agg #[E.i (((K.dc V p i.1).1).op), E.i (((K.dc V p i.1).1).d), E.i (((K.dc V p i.1).1).s), E.i (((K.dc V p i.1).1).ix), E.i (((K.dc V p i.1).1).sc), E.u (((K.dc V p i.1).1).imm), E.i (((K.dc V p i.1).1).sz)]) 0 rfl rfl (E.vl (.agg #[E.i 0, E.u 0]) (fun w h => E.run_build #[E.i 0, E.u 0] (by kernel_rfl) w) (E.st 2 [E.i (((K.dc V p i.1).1).op), E.i (((K.dc V p i.1).1).d), E.i (((K.dc V p i.1).1).s), E.i (((K.dc V p i.1).1).ix), E.i (((K.dc V p i.1).1).sc), E.u (((K.dc V p i.1).1).imm), E.i (((K.dc V p i.1).1).sz)] rfl rfl (E.st 1 [E.i 0, E.u 0] rfl rfl (E.To.code (E.C.ret (E.To.body (fn := Tryz.f52) [.agg #[E.i (((K.dc V p i.1).1).op), E.i (((K.dc V p i.1).1).d), E.i (((K.dc V p i.1).1).s), E.i (((K.dc V p i.1).1).ix), E.i (((K.dc V p i.1).1).sc), E.u (((K.dc V p i.1).1).imm), E.i (((K.dc V p i.1).1).sz)], .agg #[E.i 0, E.u 0]] ?_ ?_)))))))))
 · exact ⟨⟨by kernel_rfl, _, _, 2, _, rfl, rfl, by kernel_rfl⟩, ⟨by kernel_rfl, _, _, 1, _, rfl, rfl, by kernel_rfl⟩, trivial⟩
 intro w h
 exact ⟨by rw [hk1.2.2.2.2, K.fl_g hc6 hc15] <;> rfl, h.ch.bel (fun _ h => h.elim)⟩
theorem wnames_any (w : World) : Calls Tryz.prog 91 #[] w fun e w' => e = .returned (.agg #[.string ⟨#[101, 113]⟩, .string ⟨#[110, 101]⟩, .string ⟨#[99, 115]⟩, .string ⟨#[99, 99]⟩, .string ⟨#[109, 105]⟩, .string ⟨#[112, 108]⟩, .string ⟨#[118, 115]⟩, .string ⟨#[118, 99]⟩, .string ⟨#[104, 105]⟩, .string ⟨#[108, 115]⟩, .string ⟨#[103, 101]⟩, .string ⟨#[108, 116]⟩, .string ⟨#[103, 116]⟩, .string ⟨#[108, 101]⟩]) ∧ Bel w w' := by
  go_enter Tryz.func91, Tryz.ntmps91
  go_wp2
  exact bodyPost_ret (v := .agg #[.string ⟨#[101, 113]⟩, .string ⟨#[110, 101]⟩, .string ⟨#[99, 115]⟩, .string ⟨#[99, 99]⟩, .string ⟨#[109, 105]⟩, .string ⟨#[112, 108]⟩, .string ⟨#[118, 115]⟩, .string ⟨#[118, 99]⟩, .string ⟨#[104, 105]⟩, .string ⟨#[108, 115]⟩, .string ⟨#[103, 101]⟩, .string ⟨#[108, 116]⟩, .string ⟨#[103, 116]⟩, .string ⟨#[108, 101]⟩]) (by simp [results, Tryz.results91, go_sem]) rfl ⟨rfl, Nz.bel⟩
theorem Cond_0 (f : Int) (w : World) : Calls Tryz.prog 56 #[.int .i64 0, .int .u32 f] w fun e w' => e = .returned (.bool (W.cond 0 f)) ∧ Bel w w' := by
  have hn : (bits .and .u32 f 8 != 0) = W.fN f := rfl
  have hz : (bits .and .u32 f 4 != 0) = W.fZ f := rfl
  have hc : (bits .and .u32 f 2 != 0) = W.fC f := rfl
  have hv : (bits .and .u32 f 1 != 0) = W.fV f := rfl
  go_enter Tryz.func56, Tryz.ntmps56
  go_wp2_with (go_at_call 91; refine (wnames_any _).mono ?_; rintro e w' ⟨rfl, hb⟩)
  all_goals
    go_ret
    exact ⟨ret_bool (by simp_all [W.cond, W.condB] <;> cases W.fN f <;> cases W.fV f <;> rfl), Nz.bel⟩
theorem Cond_1 (f : Int) (w : World) : Calls Tryz.prog 56 #[.int .i64 1, .int .u32 f] w fun e w' => e = .returned (.bool (W.cond 1 f)) ∧ Bel w w' := by
  have hn : (bits .and .u32 f 8 != 0) = W.fN f := rfl
  have hz : (bits .and .u32 f 4 != 0) = W.fZ f := rfl
  have hc : (bits .and .u32 f 2 != 0) = W.fC f := rfl
  have hv : (bits .and .u32 f 1 != 0) = W.fV f := rfl
  go_enter Tryz.func56, Tryz.ntmps56
  go_wp2_with (go_at_call 91; refine (wnames_any _).mono ?_; rintro e w' ⟨rfl, hb⟩)
  all_goals
    go_ret
    exact ⟨ret_bool (by simp_all [W.cond, W.condB] <;> cases W.fN f <;> cases W.fV f <;> rfl), Nz.bel⟩
theorem Cond_2 (f : Int) (w : World) : Calls Tryz.prog 56 #[.int .i64 2, .int .u32 f] w fun e w' => e = .returned (.bool (W.cond 2 f)) ∧ Bel w w' := by
  have hn : (bits .and .u32 f 8 != 0) = W.fN f := rfl
  have hz : (bits .and .u32 f 4 != 0) = W.fZ f := rfl
  have hc : (bits .and .u32 f 2 != 0) = W.fC f := rfl
  have hv : (bits .and .u32 f 1 != 0) = W.fV f := rfl
  go_enter Tryz.func56, Tryz.ntmps56
  go_wp2_with (go_at_call 91; refine (wnames_any _).mono ?_; rintro e w' ⟨rfl, hb⟩)
  all_goals
    go_ret
    exact ⟨ret_bool (by simp_all [W.cond, W.condB] <;> cases W.fN f <;> cases W.fV f <;> rfl), Nz.bel⟩
theorem Cond_3 (f : Int) (w : World) : Calls Tryz.prog 56 #[.int .i64 3, .int .u32 f] w fun e w' => e = .returned (.bool (W.cond 3 f)) ∧ Bel w w' := by
  have hn : (bits .and .u32 f 8 != 0) = W.fN f := rfl
  have hz : (bits .and .u32 f 4 != 0) = W.fZ f := rfl
  have hc : (bits .and .u32 f 2 != 0) = W.fC f := rfl
  have hv : (bits .and .u32 f 1 != 0) = W.fV f := rfl
  go_enter Tryz.func56, Tryz.ntmps56
  go_wp2_with (go_at_call 91; refine (wnames_any _).mono ?_; rintro e w' ⟨rfl, hb⟩)
  all_goals
    go_ret
    exact ⟨ret_bool (by simp_all [W.cond, W.condB] <;> cases W.fN f <;> cases W.fV f <;> rfl), Nz.bel⟩
theorem Cond_4 (f : Int) (w : World) : Calls Tryz.prog 56 #[.int .i64 4, .int .u32 f] w fun e w' => e = .returned (.bool (W.cond 4 f)) ∧ Bel w w' := by
  have hn : (bits .and .u32 f 8 != 0) = W.fN f := rfl
  have hz : (bits .and .u32 f 4 != 0) = W.fZ f := rfl
  have hc : (bits .and .u32 f 2 != 0) = W.fC f := rfl
  have hv : (bits .and .u32 f 1 != 0) = W.fV f := rfl
  go_enter Tryz.func56, Tryz.ntmps56
  go_wp2_with (go_at_call 91; refine (wnames_any _).mono ?_; rintro e w' ⟨rfl, hb⟩)
  all_goals
    go_ret
    exact ⟨ret_bool (by simp_all [W.cond, W.condB] <;> cases W.fN f <;> cases W.fV f <;> rfl), Nz.bel⟩
theorem Cond_5 (f : Int) (w : World) : Calls Tryz.prog 56 #[.int .i64 5, .int .u32 f] w fun e w' => e = .returned (.bool (W.cond 5 f)) ∧ Bel w w' := by
  have hn : (bits .and .u32 f 8 != 0) = W.fN f := rfl
  have hz : (bits .and .u32 f 4 != 0) = W.fZ f := rfl
  have hc : (bits .and .u32 f 2 != 0) = W.fC f := rfl
  have hv : (bits .and .u32 f 1 != 0) = W.fV f := rfl
  go_enter Tryz.func56, Tryz.ntmps56
  go_wp2_with (go_at_call 91; refine (wnames_any _).mono ?_; rintro e w' ⟨rfl, hb⟩)
  all_goals
    go_ret
    exact ⟨ret_bool (by simp_all [W.cond, W.condB] <;> cases W.fN f <;> cases W.fV f <;> rfl), Nz.bel⟩
theorem Cond_6 (f : Int) (w : World) : Calls Tryz.prog 56 #[.int .i64 6, .int .u32 f] w fun e w' => e = .returned (.bool (W.cond 6 f)) ∧ Bel w w' := by
  have hn : (bits .and .u32 f 8 != 0) = W.fN f := rfl
  have hz : (bits .and .u32 f 4 != 0) = W.fZ f := rfl
  have hc : (bits .and .u32 f 2 != 0) = W.fC f := rfl
  have hv : (bits .and .u32 f 1 != 0) = W.fV f := rfl
  go_enter Tryz.func56, Tryz.ntmps56
  go_wp2_with (go_at_call 91; refine (wnames_any _).mono ?_; rintro e w' ⟨rfl, hb⟩)
  all_goals
    go_ret
    exact ⟨ret_bool (by simp_all [W.cond, W.condB] <;> cases W.fN f <;> cases W.fV f <;> rfl), Nz.bel⟩
theorem Cond_7 (f : Int) (w : World) : Calls Tryz.prog 56 #[.int .i64 7, .int .u32 f] w fun e w' => e = .returned (.bool (W.cond 7 f)) ∧ Bel w w' := by
  have hn : (bits .and .u32 f 8 != 0) = W.fN f := rfl
  have hz : (bits .and .u32 f 4 != 0) = W.fZ f := rfl
  have hc : (bits .and .u32 f 2 != 0) = W.fC f := rfl
  have hv : (bits .and .u32 f 1 != 0) = W.fV f := rfl
  go_enter Tryz.func56, Tryz.ntmps56
  go_wp2_with (go_at_call 91; refine (wnames_any _).mono ?_; rintro e w' ⟨rfl, hb⟩)
  all_goals
    go_ret
    exact ⟨ret_bool (by simp_all [W.cond, W.condB] <;> cases W.fN f <;> cases W.fV f <;> rfl), Nz.bel⟩
theorem Cond_8 (f : Int) (w : World) : Calls Tryz.prog 56 #[.int .i64 8, .int .u32 f] w fun e w' => e = .returned (.bool (W.cond 8 f)) ∧ Bel w w' := by
  have hn : (bits .and .u32 f 8 != 0) = W.fN f := rfl
  have hz : (bits .and .u32 f 4 != 0) = W.fZ f := rfl
  have hc : (bits .and .u32 f 2 != 0) = W.fC f := rfl
  have hv : (bits .and .u32 f 1 != 0) = W.fV f := rfl
  go_enter Tryz.func56, Tryz.ntmps56
  go_wp2_with (go_at_call 91; refine (wnames_any _).mono ?_; rintro e w' ⟨rfl, hb⟩)
  all_goals
    go_ret
    exact ⟨ret_bool (by simp_all [W.cond, W.condB] <;> cases W.fN f <;> cases W.fV f <;> rfl), Nz.bel⟩
theorem Cond_9 (f : Int) (w : World) : Calls Tryz.prog 56 #[.int .i64 9, .int .u32 f] w fun e w' => e = .returned (.bool (W.cond 9 f)) ∧ Bel w w' := by
  have hn : (bits .and .u32 f 8 != 0) = W.fN f := rfl
  have hz : (bits .and .u32 f 4 != 0) = W.fZ f := rfl
  have hc : (bits .and .u32 f 2 != 0) = W.fC f := rfl
  have hv : (bits .and .u32 f 1 != 0) = W.fV f := rfl
  go_enter Tryz.func56, Tryz.ntmps56
  go_wp2_with (go_at_call 91; refine (wnames_any _).mono ?_; rintro e w' ⟨rfl, hb⟩)
  all_goals
    go_ret
    exact ⟨ret_bool (by simp_all [W.cond, W.condB] <;> cases W.fN f <;> cases W.fV f <;> rfl), Nz.bel⟩
theorem Cond_10 (f : Int) (w : World) : Calls Tryz.prog 56 #[.int .i64 10, .int .u32 f] w fun e w' => e = .returned (.bool (W.cond 10 f)) ∧ Bel w w' := by
  have hn : (bits .and .u32 f 8 != 0) = W.fN f := rfl
  have hz : (bits .and .u32 f 4 != 0) = W.fZ f := rfl
  have hc : (bits .and .u32 f 2 != 0) = W.fC f := rfl
  have hv : (bits .and .u32 f 1 != 0) = W.fV f := rfl
  go_enter Tryz.func56, Tryz.ntmps56
  go_wp2_with (go_at_call 91; refine (wnames_any _).mono ?_; rintro e w' ⟨rfl, hb⟩)
  all_goals
    go_ret
    exact ⟨ret_bool (by simp_all [W.cond, W.condB] <;> cases W.fN f <;> cases W.fV f <;> rfl), Nz.bel⟩
theorem Cond_11 (f : Int) (w : World) : Calls Tryz.prog 56 #[.int .i64 11, .int .u32 f] w fun e w' => e = .returned (.bool (W.cond 11 f)) ∧ Bel w w' := by
  have hn : (bits .and .u32 f 8 != 0) = W.fN f := rfl
  have hz : (bits .and .u32 f 4 != 0) = W.fZ f := rfl
  have hc : (bits .and .u32 f 2 != 0) = W.fC f := rfl
  have hv : (bits .and .u32 f 1 != 0) = W.fV f := rfl
  go_enter Tryz.func56, Tryz.ntmps56
  go_wp2_with (go_at_call 91; refine (wnames_any _).mono ?_; rintro e w' ⟨rfl, hb⟩)
  all_goals
    go_ret
    exact ⟨ret_bool (by simp_all [W.cond, W.condB] <;> cases W.fN f <;> cases W.fV f <;> rfl), Nz.bel⟩
theorem Cond_12 (f : Int) (w : World) : Calls Tryz.prog 56 #[.int .i64 12, .int .u32 f] w fun e w' => e = .returned (.bool (W.cond 12 f)) ∧ Bel w w' := by
  have hn : (bits .and .u32 f 8 != 0) = W.fN f := rfl
  have hz : (bits .and .u32 f 4 != 0) = W.fZ f := rfl
  have hc : (bits .and .u32 f 2 != 0) = W.fC f := rfl
  have hv : (bits .and .u32 f 1 != 0) = W.fV f := rfl
  go_enter Tryz.func56, Tryz.ntmps56
  go_wp2_with (go_at_call 91; refine (wnames_any _).mono ?_; rintro e w' ⟨rfl, hb⟩)
  all_goals
    go_ret
    exact ⟨ret_bool (by simp_all [W.cond, W.condB] <;> cases W.fN f <;> cases W.fV f <;> rfl), Nz.bel⟩
theorem Cond_13 (f : Int) (w : World) : Calls Tryz.prog 56 #[.int .i64 13, .int .u32 f] w fun e w' => e = .returned (.bool (W.cond 13 f)) ∧ Bel w w' := by
  have hn : (bits .and .u32 f 8 != 0) = W.fN f := rfl
  have hz : (bits .and .u32 f 4 != 0) = W.fZ f := rfl
  have hc : (bits .and .u32 f 2 != 0) = W.fC f := rfl
  have hv : (bits .and .u32 f 1 != 0) = W.fV f := rfl
  go_enter Tryz.func56, Tryz.ntmps56
  go_wp2_with (go_at_call 91; refine (wnames_any _).mono ?_; rintro e w' ⟨rfl, hb⟩)
  all_goals
    go_ret
    exact ⟨ret_bool (by simp_all [W.cond, W.condB] <;> cases W.fN f <;> cases W.fV f <;> rfl), Nz.bel⟩
theorem Cond_n (cc f : Int) (hk : cc < 0 ∨ 13 < cc) (w : World) : Calls Tryz.prog 56 #[.int .i64 cc, .int .u32 f] w fun e w' => e = .returned (.bool (W.cond cc f)) ∧ Bel w w' := by
  have HF := hid (W.cond_n cc f hk)
  rcases hk with h | h
  · have d : decide (cc < 0) = true := by simp; omega
    go_enter Tryz.func56, Tryz.ntmps56
    go_wp2_with fail
    go_ret
    exact ⟨ret_bool (by rw [HF.out]), Nz.bel⟩
  · have d : decide (cc < 0) = false := by simp; omega
    have d2 : decide (14 ≤ cc) = true := by simp; omega
    go_enter Tryz.func56, Tryz.ntmps56
    go_wp2_with (go_at_call 91; refine (wnames_any _).mono ?_; rintro e w' ⟨rfl, hb⟩)
    go_ret
    exact ⟨ret_bool (by rw [HF.out]), Nz.bel⟩
theorem Cond_any (cc f : Int) (w : World) : Calls Tryz.prog 56 #[.int .i64 cc, .int .u32 f] w fun e w' => e = .returned (.bool (W.cond cc f)) ∧ Bel w w' := by
  rcases (by omega : cc = 0 ∨ cc = 1 ∨ cc = 2 ∨ cc = 3 ∨ cc = 4 ∨ cc = 5 ∨ cc = 6 ∨ cc = 7 ∨ cc = 8 ∨ cc = 9 ∨ cc = 10 ∨ cc = 11 ∨ cc = 12 ∨ cc = 13 ∨ (cc < 0 ∨ 13 < cc)) with rfl | rfl | rfl | rfl | rfl | rfl | rfl | rfl | rfl | rfl | rfl | rfl | rfl | rfl | h
  · exact Cond_0 f w
  · exact Cond_1 f w
  · exact Cond_2 f w
  · exact Cond_3 f w
  · exact Cond_4 f w
  · exact Cond_5 f w
  · exact Cond_6 f w
  · exact Cond_7 f w
  · exact Cond_8 f w
  · exact Cond_9 f w
  · exact Cond_10 f w
  · exact Cond_11 f w
  · exact Cond_12 f w
  · exact Cond_13 f w
  · exact Cond_n cc f h w

end Go.Proofs.YtglidnmmeclneaaGreat
namespace Go.Proofs.YtglidnmmeclneaaGreat
set_option linter.unusedVariables false
set_option linter.unusedSimpArgs false
open Go.RowKit
/-- A row of marks. -/
def E.bits (n k : Nat) : Array Bool := ((List.range n).map (Nat.testBit k)).toArray
section
variable {P : Program} {n : Nat} {ops : Array Oper} {Q : Exit → Act → World → Prop} {S : Nat → Prop} {w0 : World} {X : World → Prop} {L : List (Nat × List Value)} {fr : E.Fr} {D : World → Prop} {fuel : Nat} {listed : Array Bool}
/-- Nodes of a region that draws its order. -/
theorem E.H.gen (h : ∀ (H : Nat → Array Bool → E.Fr → (World → Prop) → List (Nat × List Value) → Prop), (∀ f l fr X L, E.H P n ops Q D f l fr S w0 X L → H f l fr X L) → (∀ f l fr X L, H f l fr X L → E.H P n ops Q D f l fr S w0 X L) → H fuel listed fr X L) : E.H P n ops Q D fuel listed fr S w0 X L :=
  h (fun f l fr X L => E.H P n ops Q D f l fr S w0 X L) (fun _ _ _ _ _ h => h) (fun _ _ _ _ _ h => h)
theorem E.H.to (listed' : Array Bool) (fr' : E.Fr) (L' : List (Nat × List Value)) (he : listed = listed') (hs : E.sub fr' fr) (hl : L'.Sublist L) (k : E.H P n ops Q D fuel listed' fr' S w0 X L') : E.H P n ops Q D fuel listed fr S w0 X L :=
  he ▸ E.H.weak fr' L' hs hl k
theorem E.H.toP (listed' : Array Bool) (fr' : E.Fr) (L' : List (Nat × List Value)) (he : listed = listed') (hs : E.sub fr' fr) (hl : L.Perm L') (k : E.H P n ops Q D fuel listed' fr' S w0 X L') : E.H P n ops Q D fuel listed fr S w0 X L :=
  he ▸ fun a w h1 h2 => k a w (h1.sub hs) (h2.perm hl.symm)
end
theorem A.hpY0 {w0 w : World} {o0 a0 : Nat → Prop} {its : List A.It} {L : List (Nat × List Value)} (h : E.Hp o0 w0 (A.X w0 o0 a0 its) L w) (hne : A.ne L = true) : A.Y (A.bl L) w :=
  A.hpY (p := A.bl L) (r := its) h hne (List.Perm.refl _)
end Go.Proofs.YtglidnmmeclneaaGreat

/- Nodes: what is found by itself. -/
namespace Go.Proofs.YtglidnmmeclneaaGreat
section
variable {P : Program} {n : Nat} {ops : Array Oper} {Q : Exit → Act → World → Prop} {S : Nat → Prop} {w0 : World} {X : World → Prop} {L : List (Nat × List Value)} {fr : E.Fr} {D : World → Prop} {fuel : Nat} {listed : Array Bool}
theorem E.ho {listed' : Array Bool} {fr' : E.Fr} {L' : List (Nat × List Value)} (k : E.H P n ops Q D fuel listed' fr' S w0 X L') (he : listed = listed' := by kernel_rfl) (hs : E.sub fr' fr := by exact ⟨by kernel_rfl, by kernel_rfl⟩) (hl : L'.Sublist L := by exact Nz.sub) : E.H P n ops Q D fuel listed fr S w0 X L := E.H.to _ _ _ he hs hl k
theorem E.hb {listed' : Array Bool} {fr' : E.Fr} {L' : List (Nat × List Value)} (k : E.H P n ops Q D fuel listed' fr' S w0 X L') (he : listed = listed' := by kernel_rfl) (hs : E.sub fr' fr := by exact ⟨by kernel_rfl, by kernel_rfl⟩) (hl : L'.Sublist L := by exact Nz.sub) (hD : ∀ w, E.Hp S w0 X L w → D w := by exact (fun w h => A.hpY0 h (by kernel_rfl))) : E.G P n ops (Exit.then (fun a' w' => D w' ∧ wpAnyH P .any ops Q D fuel listed a' w') Q) [] fr S w0 X L := E.H.back hD (E.H.to _ _ _ he hs hl k)
end
end Go.Proofs.YtglidnmmeclneaaGreat
