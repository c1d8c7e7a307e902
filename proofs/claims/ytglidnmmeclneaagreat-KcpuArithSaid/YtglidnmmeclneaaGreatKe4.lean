/- Texts of the walk, merged (4): see the remark ahead of each. -/
import Derived.Test.YtglidnmmeclneaaGreatKe3
import Derived.Laws.EntriesVeiled
import Derived.Great.BuildSlice
import Derived.Deep.RegionWith
import Derived.Deep.CutRange
import Derived.Test.YtglidnmmeclneaaGreatProg
namespace Go.Proofs.YtglidnmmeclneaaGreat
set_option linter.unusedVariables false
set_option linter.unusedSimpArgs false
open Go.RowKit
theorem K.app (a b : List Int) : strOfNums a ++ strOfNums b = strOfNums (a ++ b) := by
  apply ByteArray.ext; simp [strOfNums]
theorem K.nil : (⟨#[]⟩ : ByteArray) = strOfNums [] := rfl
def K.p_Reg (i : K.Ins) : List Int := [i.d]
theorem putReg_t : PutOK 139 K.p_Reg := putReg_ok
def K.p_Byte (i : K.Ins) : List Int := [i.imm % 256]
theorem putByte_t : PutOK 145 K.p_Byte := putByte_ok
def K.p_Pair (i : K.Ins) : List Int := [i.d * 16 + i.s]
theorem putPair_t : PutOK 141 K.p_Pair := putPair_ok
def K.p_Full (i : K.Ins) : List Int := [i.imm % 256, i.imm / 256 % 256, i.imm / 65536 % 256, i.imm / 16777216 % 256]
theorem putFull_t : PutOK 147 K.p_Full := putFull_ok
def K.p_Index (i : K.Ins) : List Int := [if i.ix < 0 then 8 else i.sc * 16 + i.ix]
theorem putIndex_t : PutOK 149 K.p_Index := putIndex_ok
theorem puts_Reg_Byte (c h cap : Nat) (i : K.Ins) (w : World) : K.In i → w.cell? ⟨c, 0, none⟩ = some (.slice (some ⟨h, 0, none⟩) 2 cap) → w.cell? ⟨h, 0, none⟩ = some (.func (.func 139) #[] #[]) → w.cell? ⟨h, 1, none⟩ = some (.func (.func 145) #[] #[]) →
    Calls Tryz.prog 168 #[.agg #[.int .i64 i.op, .int .i64 i.d, .int .i64 i.s, .int .i64 i.ix, .int .i64 i.sc, .int .u32 i.imm, .int .i64 i.sz], .pointer (some ⟨c, 0, none⟩)] w fun e w' => e = .returned (.string (strOfNums (([] ++ K.p_Reg i) ++ K.p_Byte i))) ∧ Bel w w' := by
  intro hi hc q0 q1
  have hw1 : Bel w (w.alloc (.cells #[.int .i64 i.op, .int .i64 i.d, .int .i64 i.s, .int .i64 i.ix, .int .i64 i.sc, .int .u32 i.imm, .int .i64 i.sz] 66)) := Bel.alloc (Bel.refl _) _
  have hc1 := Bel.at hw1 hc
  go_enter Tryz.func168, Tryz.ntmps168
  go_wp2
  go_loopw [4, 9] (fun r j wr => ∃ k : Nat, j = .int .i64 k ∧ Bel (w.alloc (.cells #[.int .i64 i.op, .int .i64 i.d, .int .i64 i.s, .int .i64 i.ix, .int .i64 i.sc, .int .u32 i.imm, .int .i64 i.sz] 66)) wr ∧ ((k = 0 ∧ r = .string (strOfNums [])) ∨ (k = 1 ∧ r = .string (strOfNums ([] ++ K.p_Reg i))) ∨ (k = 2 ∧ r = .string (strOfNums (([] ++ K.p_Reg i) ++ K.p_Byte i))))) (fun _ j _ => 2 - (intOf j).toNat)
  case atStart => exact ⟨0, rfl, Bel.refl _, .inl ⟨rfl, by rw [K.nil]⟩⟩
  case round =>
    obtain ⟨k, rfl, hch, hrel⟩ := hrel
    have z0 := Bel.at hch (ad := ⟨w.heap.size, 0, none⟩) (v := .int .i64 i.op) (by go_simp)
    have z1 := Bel.at hch (ad := ⟨w.heap.size, 1, none⟩) (v := .int .i64 i.d) (by go_simp)
    have z2 := Bel.at hch (ad := ⟨w.heap.size, 2, none⟩) (v := .int .i64 i.s) (by go_simp)
    have z3 := Bel.at hch (ad := ⟨w.heap.size, 3, none⟩) (v := .int .i64 i.ix) (by go_simp)
    have z4 := Bel.at hch (ad := ⟨w.heap.size, 4, none⟩) (v := .int .i64 i.sc) (by go_simp)
    have z5 := Bel.at hch (ad := ⟨w.heap.size, 5, none⟩) (v := .int .u32 i.imm) (by go_simp)
    have z6 := Bel.at hch (ad := ⟨w.heap.size, 6, none⟩) (v := .int .i64 i.sz) (by go_simp)
    rcases hrel with ⟨rfl, rfl⟩ | ⟨rfl, rfl⟩ | ⟨rfl, rfl⟩
    · have p := Bel.at hch (Bel.at hw1 q0)
      clear hc hc1 q0 q1
      go_wp2_with (go_at_call 139; refine (putReg_t i _ hi).mono ?_; rintro e w1 ⟨rfl, hb1⟩)
      go_roundw
      case rel => exact ⟨1, by go_num, hch.trans hb1, .inr (.inl ⟨rfl, (by first | (rw [K.app]; done) | (rw [K.app]; rfl) | rfl | simp)⟩)⟩
      case measure => simp [intOf]
    · have p := Bel.at hch (Bel.at hw1 q1)
      clear hc hc1 q0 q1
      go_wp2_with (go_at_call 145; refine (putByte_t i _ hi).mono ?_; rintro e w1 ⟨rfl, hb1⟩)
      go_roundw
      case rel => exact ⟨2, by go_num, hch.trans hb1, .inr (.inr (⟨rfl, (by first | (rw [K.app]; done) | (rw [K.app]; rfl) | rfl | simp)⟩))⟩
      case measure => simp [intOf]
    · clear hc hc1 q0 q1
      go_wp2
      go_ret
      exact ⟨rfl, hw1.trans hch⟩
theorem puts_Reg_Full (c h cap : Nat) (i : K.Ins) (w : World) : K.In i → w.cell? ⟨c, 0, none⟩ = some (.slice (some ⟨h, 0, none⟩) 2 cap) → w.cell? ⟨h, 0, none⟩ = some (.func (.func 139) #[] #[]) → w.cell? ⟨h, 1, none⟩ = some (.func (.func 147) #[] #[]) →
    Calls Tryz.prog 168 #[.agg #[.int .i64 i.op, .int .i64 i.d, .int .i64 i.s, .int .i64 i.ix, .int .i64 i.sc, .int .u32 i.imm, .int .i64 i.sz], .pointer (some ⟨c, 0, none⟩)] w fun e w' => e = .returned (.string (strOfNums (([] ++ K.p_Reg i) ++ K.p_Full i))) ∧ Bel w w' := by
  intro hi hc q0 q1
  have hw1 : Bel w (w.alloc (.cells #[.int .i64 i.op, .int .i64 i.d, .int .i64 i.s, .int .i64 i.ix, .int .i64 i.sc, .int .u32 i.imm, .int .i64 i.sz] 66)) := Bel.alloc (Bel.refl _) _
  have hc1 := Bel.at hw1 hc
  go_enter Tryz.func168, Tryz.ntmps168
  go_wp2
  go_loopw [4, 9] (fun r j wr => ∃ k : Nat, j = .int .i64 k ∧ Bel (w.alloc (.cells #[.int .i64 i.op, .int .i64 i.d, .int .i64 i.s, .int .i64 i.ix, .int .i64 i.sc, .int .u32 i.imm, .int .i64 i.sz] 66)) wr ∧ ((k = 0 ∧ r = .string (strOfNums [])) ∨ (k = 1 ∧ r = .string (strOfNums ([] ++ K.p_Reg i))) ∨ (k = 2 ∧ r = .string (strOfNums (([] ++ K.p_Reg i) ++ K.p_Full i))))) (fun _ j _ => 2 - (intOf j).toNat)
  case atStart => exact ⟨0, rfl, Bel.refl _, .inl ⟨rfl, by rw [K.nil]⟩⟩
  case round =>
    obtain ⟨k, rfl, hch, hrel⟩ := hrel
    have z0 := Bel.at hch (ad := ⟨w.heap.size, 0, none⟩) (v := .int .i64 i.op) (by go_simp)
    have z1 := Bel.at hch (ad := ⟨w.heap.size, 1, none⟩) (v := .int .i64 i.d) (by go_simp)
    have z2 := Bel.at hch (ad := ⟨w.heap.size, 2, none⟩) (v := .int .i64 i.s) (by go_simp)
    have z3 := Bel.at hch (ad := ⟨w.heap.size, 3, none⟩) (v := .int .i64 i.ix) (by go_simp)
    have z4 := Bel.at hch (ad := ⟨w.heap.size, 4, none⟩) (v := .int .i64 i.sc) (by go_simp)
    have z5 := Bel.at hch (ad := ⟨w.heap.size, 5, none⟩) (v := .int .u32 i.imm) (by go_simp)
    have z6 := Bel.at hch (ad := ⟨w.heap.size, 6, none⟩) (v := .int .i64 i.sz) (by go_simp)
    rcases hrel with ⟨rfl, rfl⟩ | ⟨rfl, rfl⟩ | ⟨rfl, rfl⟩
    · have p := Bel.at hch (Bel.at hw1 q0)
      clear hc hc1 q0 q1
      go_wp2_with (go_at_call 139; refine (putReg_t i _ hi).mono ?_; rintro e w1 ⟨rfl, hb1⟩)
      go_roundw
      case rel => exact ⟨1, by go_num, hch.trans hb1, .inr (.inl ⟨rfl, (by first | (rw [K.app]; done) | (rw [K.app]; rfl) | rfl | simp)⟩)⟩
      case measure => simp [intOf]
    · have p := Bel.at hch (Bel.at hw1 q1)
      clear hc hc1 q0 q1
      go_wp2_with (go_at_call 147; refine (putFull_t i _ hi).mono ?_; rintro e w1 ⟨rfl, hb1⟩)
      go_roundw
      case rel => exact ⟨2, by go_num, hch.trans hb1, .inr (.inr (⟨rfl, (by first | (rw [K.app]; done) | (rw [K.app]; rfl) | rfl | simp)⟩))⟩
      case measure => simp [intOf]
    · clear hc hc1 q0 q1
      go_wp2
      go_ret
      exact ⟨rfl, hw1.trans hch⟩
theorem puts_Pair_Byte (c h cap : Nat) (i : K.Ins) (w : World) : K.In i → w.cell? ⟨c, 0, none⟩ = some (.slice (some ⟨h, 0, none⟩) 2 cap) → w.cell? ⟨h, 0, none⟩ = some (.func (.func 141) #[] #[]) → w.cell? ⟨h, 1, none⟩ = some (.func (.func 145) #[] #[]) →
    Calls Tryz.prog 168 #[.agg #[.int .i64 i.op, .int .i64 i.d, .int .i64 i.s, .int .i64 i.ix, .int .i64 i.sc, .int .u32 i.imm, .int .i64 i.sz], .pointer (some ⟨c, 0, none⟩)] w fun e w' => e = .returned (.string (strOfNums (([] ++ K.p_Pair i) ++ K.p_Byte i))) ∧ Bel w w' := by
  intro hi hc q0 q1
  have hw1 : Bel w (w.alloc (.cells #[.int .i64 i.op, .int .i64 i.d, .int .i64 i.s, .int .i64 i.ix, .int .i64 i.sc, .int .u32 i.imm, .int .i64 i.sz] 66)) := Bel.alloc (Bel.refl _) _
  have hc1 := Bel.at hw1 hc
  go_enter Tryz.func168, Tryz.ntmps168
  go_wp2
  go_loopw [4, 9] (fun r j wr => ∃ k : Nat, j = .int .i64 k ∧ Bel (w.alloc (.cells #[.int .i64 i.op, .int .i64 i.d, .int .i64 i.s, .int .i64 i.ix, .int .i64 i.sc, .int .u32 i.imm, .int .i64 i.sz] 66)) wr ∧ ((k = 0 ∧ r = .string (strOfNums [])) ∨ (k = 1 ∧ r = .string (strOfNums ([] ++ K.p_Pair i))) ∨ (k = 2 ∧ r = .string (strOfNums (([] ++ K.p_Pair i) ++ K.p_Byte i))))) (fun _ j _ => 2 - (intOf j).toNat)
  case atStart => exact ⟨0, rfl, Bel.refl _, .inl ⟨rfl, by rw [K.nil]⟩⟩
  case round =>
    obtain ⟨k, rfl, hch, hrel⟩ := hrel
    have z0 := Bel.at hch (ad := ⟨w.heap.size, 0, none⟩) (v := .int .i64 i.op) (by go_simp)
    have z1 := Bel.at hch (ad := ⟨w.heap.size, 1, none⟩) (v := .int .i64 i.d) (by go_simp)
    have z2 := Bel.at hch (ad := ⟨w.heap.size, 2, none⟩) (v := .int .i64 i.s) (by go_simp)
    have z3 := Bel.at hch (ad := ⟨w.heap.size, 3, none⟩) (v := .int .i64 i.ix) (by go_simp)
    have z4 := Bel.at hch (ad := ⟨w.heap.size, 4, none⟩) (v := .int .i64 i.sc) (by go_simp)
    have z5 := Bel.at hch (ad := ⟨w.heap.size, 5, none⟩) (v := .int .u32 i.imm) (by go_simp)
    have z6 := Bel.at hch (ad := ⟨w.heap.size, 6, none⟩) (v := .int .i64 i.sz) (by go_simp)
    rcases hrel with ⟨rfl, rfl⟩ | ⟨rfl, rfl⟩ | ⟨rfl, rfl⟩
    · have p := Bel.at hch (Bel.at hw1 q0)
      clear hc hc1 q0 q1
      go_wp2_with (go_at_call 141; refine (putPair_t i _ hi).mono ?_; rintro e w1 ⟨rfl, hb1⟩)
      go_roundw
      case rel => exact ⟨1, by go_num, hch.trans hb1, .inr (.inl ⟨rfl, (by first | (rw [K.app]; done) | (rw [K.app]; rfl) | rfl | simp)⟩)⟩
      case measure => simp [intOf]
    · have p := Bel.at hch (Bel.at hw1 q1)
      clear hc hc1 q0 q1
      go_wp2_with (go_at_call 145; refine (putByte_t i _ hi).mono ?_; rintro e w1 ⟨rfl, hb1⟩)
      go_roundw
      case rel => exact ⟨2, by go_num, hch.trans hb1, .inr (.inr (⟨rfl, (by first | (rw [K.app]; done) | (rw [K.app]; rfl) | rfl | simp)⟩))⟩
      case measure => simp [intOf]
    · clear hc hc1 q0 q1
      go_wp2
      go_ret
      exact ⟨rfl, hw1.trans hch⟩
theorem puts_Pair_Index_Full (c h cap : Nat) (i : K.Ins) (w : World) : K.In i → w.cell? ⟨c, 0, none⟩ = some (.slice (some ⟨h, 0, none⟩) 3 cap) → w.cell? ⟨h, 0, none⟩ = some (.func (.func 141) #[] #[]) → w.cell? ⟨h, 1, none⟩ = some (.func (.func 149) #[] #[]) → w.cell? ⟨h, 2, none⟩ = some (.func (.func 147) #[] #[]) →
    Calls Tryz.prog 168 #[.agg #[.int .i64 i.op, .int .i64 i.d, .int .i64 i.s, .int .i64 i.ix, .int .i64 i.sc, .int .u32 i.imm, .int .i64 i.sz], .pointer (some ⟨c, 0, none⟩)] w fun e w' => e = .returned (.string (strOfNums ((([] ++ K.p_Pair i) ++ K.p_Index i) ++ K.p_Full i))) ∧ Bel w w' := by
  intro hi hc q0 q1 q2
  have hw1 : Bel w (w.alloc (.cells #[.int .i64 i.op, .int .i64 i.d, .int .i64 i.s, .int .i64 i.ix, .int .i64 i.sc, .int .u32 i.imm, .int .i64 i.sz] 66)) := Bel.alloc (Bel.refl _) _
  have hc1 := Bel.at hw1 hc
  go_enter Tryz.func168, Tryz.ntmps168
  go_wp2
  go_loopw [4, 9] (fun r j wr => ∃ k : Nat, j = .int .i64 k ∧ Bel (w.alloc (.cells #[.int .i64 i.op, .int .i64 i.d, .int .i64 i.s, .int .i64 i.ix, .int .i64 i.sc, .int .u32 i.imm, .int .i64 i.sz] 66)) wr ∧ ((k = 0 ∧ r = .string (strOfNums [])) ∨ (k = 1 ∧ r = .string (strOfNums ([] ++ K.p_Pair i))) ∨ (k = 2 ∧ r = .string (strOfNums (([] ++ K.p_Pair i) ++ K.p_Index i))) ∨ (k = 3 ∧ r = .string (strOfNums ((([] ++ K.p_Pair i) ++ K.p_Index i) ++ K.p_Full i))))) (fun _ j _ => 3 - (intOf j).toNat)
  case atStart => exact ⟨0, rfl, Bel.refl _, .inl ⟨rfl, by rw [K.nil]⟩⟩
  case round =>
    obtain ⟨k, rfl, hch, hrel⟩ := hrel
    have z0 := Bel.at hch (ad := ⟨w.heap.size, 0, none⟩) (v := .int .i64 i.op) (by go_simp)
    have z1 := Bel.at hch (ad := ⟨w.heap.size, 1, none⟩) (v := .int .i64 i.d) (by go_simp)
    have z2 := Bel.at hch (ad := ⟨w.heap.size, 2, none⟩) (v := .int .i64 i.s) (by go_simp)
    have z3 := Bel.at hch (ad := ⟨w.heap.size, 3, none⟩) (v := .int .i64 i.ix) (by go_simp)
    have z4 := Bel.at hch (ad := ⟨w.heap.size, 4, none⟩) (v := .int .i64 i.sc) (by go_simp)
    have z5 := Bel.at hch (ad := ⟨w.heap.size, 5, none⟩) (v := .int .u32 i.imm) (by go_simp)
    have z6 := Bel.at hch (ad := ⟨w.heap.size, 6, none⟩) (v := .int .i64 i.sz) (by go_simp)
    rcases hrel with ⟨rfl, rfl⟩ | ⟨rfl, rfl⟩ | ⟨rfl, rfl⟩ | ⟨rfl, rfl⟩
    · have p := Bel.at hch (Bel.at hw1 q0)
      clear hc hc1 q0 q1 q2
      go_wp2_with (go_at_call 141; refine (putPair_t i _ hi).mono ?_; rintro e w1 ⟨rfl, hb1⟩)
      go_roundw
      case rel => exact ⟨1, by go_num, hch.trans hb1, .inr (.inl ⟨rfl, (by first | (rw [K.app]; done) | (rw [K.app]; rfl) | rfl | simp)⟩)⟩
      case measure => simp [intOf]
    · have p := Bel.at hch (Bel.at hw1 q1)
      clear hc hc1 q0 q1 q2
      go_wp2_with (go_at_call 149; refine (putIndex_t i _ hi).mono ?_; rintro e w1 ⟨rfl, hb1⟩)
      go_roundw
      case rel => exact ⟨2, by go_num, hch.trans hb1, .inr (.inr (.inl ⟨rfl, (by first | (rw [K.app]; done) | (rw [K.app]; rfl) | rfl | simp)⟩))⟩
      case measure => simp [intOf]
    · have p := Bel.at hch (Bel.at hw1 q2)
      clear hc hc1 q0 q1 q2
      go_wp2_with (go_at_call 147; refine (putFull_t i _ hi).mono ?_; rintro e w1 ⟨rfl, hb1⟩)
      go_roundw
      case rel => exact ⟨3, by go_num, hch.trans hb1, .inr (.inr (.inr (⟨rfl, (by first | (rw [K.app]; done) | (rw [K.app]; rfl) | rfl | simp)⟩)))⟩
      case measure => simp [intOf]
    · clear hc hc1 q0 q1 q2
      go_wp2
      go_ret
      exact ⟨rfl, hw1.trans hch⟩
/-- v is the closure F over a cell that holds a slice of the functions fs. -/
def K.Cl (F : FuncId) (fs : List FuncId) (v : Value) (w : World) : Prop := ∃ c h cap, v = .func (.func F) #[] #[.pointer (some ⟨c, 0, none⟩)] ∧ w.cell? ⟨c, 0, none⟩ = some (.slice (some ⟨h, 0, none⟩) fs.length cap) ∧ ∀ j, j < fs.length → w.cell? ⟨h, j, none⟩ = some (.func (.func (fs.getD j 0)) #[] #[])
theorem K.Cl.bel {F : FuncId} {fs : List FuncId} {v : Value} {w w' : World} (h : K.Cl F fs v w) (k : Bel w w') : K.Cl F fs v w' := by
  obtain ⟨c, b, cap, e, h1, h2⟩ := h
  exact ⟨c, b, cap, e, Bel.at k h1, fun j hj => Bel.at k (h2 j hj)⟩
theorem takes2_any (f1 f2 : FuncId) (w : World) (T : TypeId) :
    Calls Tryz.prog 142 #[.slice (some ⟨w.heap.size, 0, none⟩) 2 2] (w.alloc (.cells #[.func (.func f1) #[] #[], .func (.func f2) #[] #[]] T)) fun e w' => ∃ v, e = .returned v ∧ K.Cl 166 [f1, f2] v w' ∧ Bel w w' := by
  go_enter Tryz.func142, Tryz.ntmps142
  go_wp2
  go_ret
  refine ⟨_, rfl, ⟨w.heap.size + 1, w.heap.size, 2, rfl, by go_simp, ?_⟩, Nz.bel⟩
  intro j hj
  rcases (show j = 0 ∨ j = 1 by simp at hj; omega) with rfl | rfl <;> go_simp
theorem takes3_any (f1 f2 f3 : FuncId) (w : World) (T : TypeId) :
    Calls Tryz.prog 142 #[.slice (some ⟨w.heap.size, 0, none⟩) 3 3] (w.alloc (.cells #[.func (.func f1) #[] #[], .func (.func f2) #[] #[], .func (.func f3) #[] #[]] T)) fun e w' => ∃ v, e = .returned v ∧ K.Cl 166 [f1, f2, f3] v w' ∧ Bel w w' := by
  go_enter Tryz.func142, Tryz.ntmps142
  go_wp2
  go_ret
  refine ⟨_, rfl, ⟨w.heap.size + 1, w.heap.size, 3, rfl, by go_simp, ?_⟩, Nz.bel⟩
  intro j hj
  rcases (show j = 0 ∨ j = 1 ∨ j = 2 by simp at hj; omega) with rfl | rfl | rfl <;> go_simp
theorem puts2_any (f1 f2 : FuncId) (w : World) (T : TypeId) :
    Calls Tryz.prog 144 #[.slice (some ⟨w.heap.size, 0, none⟩) 2 2] (w.alloc (.cells #[.func (.func f1) #[] #[], .func (.func f2) #[] #[]] T)) fun e w' => ∃ v, e = .returned v ∧ K.Cl 168 [f1, f2] v w' ∧ Bel w w' := by
  go_enter Tryz.func144, Tryz.ntmps144
  go_wp2
  go_ret
  refine ⟨_, rfl, ⟨w.heap.size + 1, w.heap.size, 2, rfl, by go_simp, ?_⟩, Nz.bel⟩
  intro j hj
  rcases (show j = 0 ∨ j = 1 by simp at hj; omega) with rfl | rfl <;> go_simp
theorem puts3_any (f1 f2 f3 : FuncId) (w : World) (T : TypeId) :
    Calls Tryz.prog 144 #[.slice (some ⟨w.heap.size, 0, none⟩) 3 3] (w.alloc (.cells #[.func (.func f1) #[] #[], .func (.func f2) #[] #[], .func (.func f3) #[] #[]] T)) fun e w' => ∃ v, e = .returned v ∧ K.Cl 168 [f1, f2, f3] v w' ∧ Bel w w' := by
  go_enter Tryz.func144, Tryz.ntmps144
  go_wp2
  go_ret
  refine ⟨_, rfl, ⟨w.heap.size + 1, w.heap.size, 3, rfl, by go_simp, ?_⟩, Nz.bel⟩
  intro j hj
  rcases (show j = 0 ∨ j = 1 ∨ j = 2 by simp at hj; omega) with rfl | rfl | rfl <;> go_simp
def K.lo (k : Nat) : Int := [0, 16, 32, 48, 64, 80, 88, 96, 112, 128, 129].getD k 0
def K.hi (k : Nat) : Int := [4, 21, 46, 62, 78, 86, 94, 109, 113, 128, 130].getD k 0
def K.len (k : Nat) : Int := [1, 2, 2, 3, 6, 3, 7, 2, 5, 2, 2].getD k 0
/-- t and p are the reader and the writer of format k. -/
def K.Fm (k : Nat) (t p : Value) (w : World) : Prop := match k with
  | 0 => t = .func (.func 136) #[] #[] ∧ p = .func (.func 137) #[] #[]
  | 1 => t = .func (.func 138) #[] #[] ∧ p = .func (.func 139) #[] #[]
  | 2 => t = .func (.func 140) #[] #[] ∧ p = .func (.func 141) #[] #[]
  | 3 => K.Cl 166 [138, 143] t w ∧ K.Cl 168 [139, 145] p w
  | 4 => K.Cl 166 [138, 146] t w ∧ K.Cl 168 [139, 147] p w
  | 5 => K.Cl 166 [140, 143] t w ∧ K.Cl 168 [141, 145] p w
  | 6 => K.Cl 166 [140, 148, 146] t w ∧ K.Cl 168 [141, 149, 147] p w
  | 7 => t = .func (.func 143) #[] #[] ∧ p = .func (.func 145) #[] #[]
  | 8 => t = .func (.func 146) #[] #[] ∧ p = .func (.func 147) #[] #[]
  | 9 => t = .func (.func 150) #[] #[] ∧ p = .func (.func 145) #[] #[]
  | 10 => t = .func (.func 140) #[] #[] ∧ p = .func (.func 141) #[] #[]
  | _ => False
theorem K.Fm.bel {k : Nat} {t p : Value} {w w' : World} (h : K.Fm k t p w) (b : Bel w w') : K.Fm k t p w' := by
  unfold K.Fm at *
  split at h <;> first | exact h | exact ⟨h.1.bel b, h.2.bel b⟩
/-- The eleven formats lie at block g. -/
def K.Fms (g : Nat) (ts ps : Nat → Value) (w : World) : Prop := ∀ k, k < 11 → w.cell? ⟨g, k * 5, none⟩ = some (.int .i64 (K.lo k)) ∧ w.cell? ⟨g, k * 5 + 1, none⟩ = some (.int .i64 (K.hi k)) ∧ w.cell? ⟨g, k * 5 + 2, none⟩ = some (.int .i64 (K.len k)) ∧ w.cell? ⟨g, k * 5 + 3, none⟩ = some (ts k) ∧ w.cell? ⟨g, k * 5 + 4, none⟩ = some (ps k) ∧ K.Fm k (ts k) (ps k) w
def K.fmtF (op : Int) : Nat → Nat → Option Nat
  | 0, _ => none
  | m + 1, k => if K.lo k ≤ op ∧ op ≤ K.hi k then some k else K.fmtF op m (k + 1)
/-- The format of a first byte. -/
def K.fmt (op : Int) : Option Nat := K.fmtF op 11 0
/-- What kcode.formats returns. -/
def K.FmtsOK : Prop := ∀ w : World, Calls Tryz.prog 127 #[] w fun e w' => ∃ g ts ps, e = .returned (.slice (some ⟨g, 0, none⟩) 11 11) ∧ K.Fms g ts ps w' ∧ Bel w w'
theorem K.in_one (n a b : Int) : K.inAny n [(a, b)] = (decide (a ≤ n) && decide (n ≤ b)) := by simp [K.inAny]
theorem K.Fm.isf {k : Nat} {t p : Value} {w : World} (h : K.Fm k t p w) : (∃ F cs, t = .func (.func F) #[] cs) ∧ (∃ F cs, p = .func (.func F) #[] cs) := by
  unfold K.Fm K.Cl at h
  split at h <;> first | (obtain ⟨⟨_, _, _, h1, _, _⟩, ⟨_, _, _, h2, _, _⟩⟩ := h; exact ⟨⟨_, _, h1⟩, ⟨_, _, h2⟩⟩) | exact ⟨⟨_, _, h.1⟩, ⟨_, _, h.2⟩⟩ | exact h.elim
theorem Ch.put {g : Nat} {a b : World} (h : Ch (fun x => x = g) a b) (j : Nat) (v : Value) : Ch (fun x => x = g) a (b.setCell ⟨g, j, none⟩ v) := h.setCell (p := ⟨g, j, none⟩) (fun _ => rfl) v
theorem K.Cl.ch {S : Nat → Prop} {F : FuncId} {fs : List FuncId} {v : Value} {w w' : World} (h : K.Cl F fs v w) (k : Ch S w w') (hs : ∀ x, S x → ∃ n, w.cell? ⟨x, 0, none⟩ = some (.int .i64 n)) (hl : 0 < fs.length) : K.Cl F fs v w' := by
  obtain ⟨c, b, cap, e, h1, h2⟩ := h
  refine ⟨c, b, cap, e, (k.cell c 0 (lt_of_cell h1) fun q => ?_).trans h1, fun j hj => (k.cell b j (lt_of_cell (h2 j hj)) fun q => ?_).trans (h2 j hj)⟩
  · obtain ⟨n, hn⟩ := hs _ q; rw [h1] at hn; cases hn
  · obtain ⟨n, hn⟩ := hs _ q; rw [h2 0 hl] at hn; cases hn
theorem K.Fm.ch {S : Nat → Prop} {k : Nat} {t p : Value} {w w' : World} (h : K.Fm k t p w) (b : Ch S w w') (hs : ∀ x, S x → ∃ n, w.cell? ⟨x, 0, none⟩ = some (.int .i64 n)) : K.Fm k t p w' := by
  unfold K.Fm at *
  split at h <;> first | exact h | exact ⟨h.1.ch b hs (by simp), h.2.ch b hs (by simp)⟩
set_option maxHeartbeats 2000000 in
theorem find_of (HF : K.FmtsOK) (op : Int) (w : World) :
    Calls Tryz.prog 106 #[.int .i64 op] w fun e w' => (∃ k t p, k < 11 ∧ K.fmt op = some k ∧ e = .returned (.tuple #[.agg #[.int .i64 (K.lo k), .int .i64 (K.hi k), .int .i64 (K.len k), t, p], .bool true]) ∧ K.Fm k t p w' ∧ Bel w w') ∨
      (K.fmt op = none ∧ e = .returned (.tuple #[.agg #[.int .i64 0, .int .i64 0, .int .i64 0, .nilFunc, .nilFunc], .bool false]) ∧ Bel w w') := by
  have HI := hid (show K.fmt op = K.fmtF op 11 0 from rfl)
  go_enter Tryz.func106, Tryz.ntmps106
  go_wp2_with (go_at_call 127; refine (HF _).mono ?_; rintro e w1 ⟨g, ts, ps, rfl, hf, hb⟩)
  have hb0 : Bel w w1 := Bel.trans (Bel.alloc (Bel.refl _) _) hb
  go_loopw [8] (fun i wr => ∃ j : Nat, j ≤ 11 ∧ i = .int .i64 j ∧ Hid (K.fmt op = K.fmtF op (11 - j) j) ∧ Bel w1 wr) (fun i _ => 11 - (intOf i).toNat)
  case atStart => exact ⟨0, by omega, rfl, HI, Bel.refl _⟩
  case round =>
    clear HI
    obtain ⟨j, hj, rfl, HI, hbr⟩ := hrel
    have hbb := hb.trans hbr
    have z0 := Bel.at hbb (ad := ⟨w.heap.size, 0, none⟩) (v := .int .i64 0) (by go_simp)
    have z1 := Bel.at hbb (ad := ⟨w.heap.size, 1, none⟩) (v := .int .i64 0) (by go_simp)
    have z2 := Bel.at hbb (ad := ⟨w.heap.size, 2, none⟩) (v := .int .i64 0) (by go_simp)
    have z3 := Bel.at hbb (ad := ⟨w.heap.size, 3, none⟩) (v := .nilFunc) (by go_simp)
    have z4 := Bel.at hbb (ad := ⟨w.heap.size, 4, none⟩) (v := .nilFunc) (by go_simp)
    have zf : ∀ j, wr.frozen? ⟨w.heap.size, j, none⟩ = false := fun j => by rw [hbb.frozen _ _ (by simp)]; go_simp
    have hlt : w.heap.size < wr.heap.size := by have := hbb.size; simp at this; omega
    by_cases c1 : j < 11
    · obtain ⟨a0, a1, a2, a3, a4, a5⟩ := hf j c1
      have e0 := Bel.at hbr a0
      have e1 := Bel.at hbr a1
      have e2 := Bel.at hbr a2
      have e3 := Bel.at hbr a3
      have e4 := Bel.at hbr a4
      have HS : Hid (K.fmtF op (11 - j) j = if K.lo j ≤ op ∧ op ≤ K.hi j then some j else K.fmtF op (11 - (j + 1)) (j + 1)) := hid (by rw [show 11 - j = 11 - (j + 1) + 1 by omega]; rfl)
      obtain ⟨⟨F1, cs1, ht⟩, ⟨F2, cs2, hp⟩⟩ := a5.isf
      rw [ht] at e3; rw [hp] at e4; rw [ht, hp] at a5
      have HFm := hid (a5.bel hbr)
      clear ht hp a0 a1 a2 a3 a4 a5 hf
      cases hin : K.inAny op [(K.lo j, K.hi j)]
      · have HR : Hid (K.fmt op = K.fmtF op (11 - (j + 1)) (j + 1)) := hid (by
          rw [K.in_one] at hin
          rw [HI.out, HS.out, if_neg (by simp at hin; omega)])
        generalize K.lo j = lo at *
        generalize K.hi j = hi at *
        generalize K.len j = ln at *
        go_wp2_with (go_at_call 128; refine (within_any op _ 0 1 [(lo, hi)] (by simp) _ (fun i hi => ?_) (fun i hi => ?_)).mono ?_; (obtain rfl : i = 0 := by simpa using hi); go_simp; (obtain rfl : i = 0 := by simpa using hi); go_simp; rintro e w2 ⟨rfl, hb2⟩)
        go_roundw
        case rel => exact ⟨j + 1, by omega, by go_num, HR, Nz.bel⟩
        case measure => simp [intOf]; omega
      · have HR : Hid (K.fmt op = some j) := hid (by
          rw [K.in_one] at hin
          rw [HI.out, HS.out, if_pos (by simpa using hin)])
        have HL : Hid (∀ x, Ending.returned x = Ending.returned x) := hid fun _ => rfl
        generalize hlo : K.lo j = lo at *
        generalize hhi : K.hi j = hi at *
        generalize hln : K.len j = ln at *
        have HLO := hid hlo; have HHI := hid hhi; have HLN := hid hln
        clear hlo hhi hln
        go_wp2_with (go_at_call 128; refine (within_any op _ 0 1 [(lo, hi)] (by simp) _ (fun i hi => ?_) (fun i hi => ?_)).mono ?_; (obtain rfl : i = 0 := by simpa using hi); go_simp; (obtain rfl : i = 0 := by simpa using hi); go_simp; rintro e w2 ⟨rfl, hb2⟩; have y0 := Bel.at hb2 (ad := ⟨wr.heap.size, 0, none⟩) (v := .int .i64 lo) (by first | assumption | (go_simp)); have y1 := Bel.at hb2 (ad := ⟨wr.heap.size, 1, none⟩) (v := .int .i64 hi) (by first | assumption | (go_simp)); have y2 := Bel.at hb2 (ad := ⟨wr.heap.size, 2, none⟩) (v := .int .i64 ln) (by first | assumption | (go_simp)); have y3 := Bel.at hb2 (ad := ⟨wr.heap.size, 3, none⟩) (v := .func (.func F1) #[] cs1) (by first | assumption | (go_simp)); have y4 := Bel.at hb2 (ad := ⟨wr.heap.size, 4, none⟩) (v := .func (.func F2) #[] cs2) (by first | assumption | (go_simp)); have x0 := Bel.at hb2 (ad := ⟨w.heap.size, 0, none⟩) (v := .int .i64 0) (by first | assumption | (go_simp)); have x1 := Bel.at hb2 (ad := ⟨w.heap.size, 1, none⟩) (v := .int .i64 0) (by first | assumption | (go_simp)); have x2 := Bel.at hb2 (ad := ⟨w.heap.size, 2, none⟩) (v := .int .i64 0) (by first | assumption | (go_simp)); have x3 := Bel.at hb2 (ad := ⟨w.heap.size, 3, none⟩) (v := .nilFunc) (by first | assumption | (go_simp)); have x4 := Bel.at hb2 (ad := ⟨w.heap.size, 4, none⟩) (v := .nilFunc) (by first | assumption | (go_simp)); have xf : ∀ j, w2.frozen? ⟨w.heap.size, j, none⟩ = false := fun j => by rw [hb2.frozen _ _ (by simp; omega)]; go_simp)
        have HFm2 := HFm.out.bel (show Bel wr w2 from Nz.bel)
        have hbw : Bel w w2 := Nz.bel
        refine bodyPost_ret (v := .tuple #[.agg #[.int .i64 lo, .int .i64 hi, .int .i64 ln, .func (.func F1) #[] cs1, .func (.func F2) #[] cs2], .bool true]) (by simp [results, Tryz.results106, go_sem, x0, x1, x2, x3, x4]) rfl (.inl ⟨j, _, _, c1, HR.out, by rw [HLO.out, HHI.out, HLN.out], ?_, ?_⟩)
        · refine HFm2.ch (S := fun x => x = w.heap.size) (by repeat (first | refine Ch.put ?_ _ _ | exact Ch.refl _ _)) (by rintro x rfl; exact ⟨_, x0⟩)
        · repeat (first | refine Bel.setCell ?_ (Nat.le_refl _) _ | exact hbw)
    · have HR : Hid (K.fmt op = none) := hid (by rw [HI.out, show 11 - j = 0 by omega]; rfl)
      clear hf
      go_wp2
      refine bodyPost_ret (v := .tuple #[.agg #[.int .i64 0, .int .i64 0, .int .i64 0, .nilFunc, .nilFunc], .bool false]) (by simp [results, Tryz.results106, go_sem, z0, z1, z2, z3, z4]) rfl (.inr ⟨HR.out, rfl, ?_⟩)
      repeat (first | refine Bel.setCell ?_ (Nat.le_refl _) _ | exact hb0.trans hbr)
theorem takes2_c (f1 f2 : FuncId) (w : World) (T : TypeId) :
    Calls Tryz.prog 142 #[.slice (some ⟨w.heap.size, 0, none⟩) 2 2] (w.alloc (.cells #[.func (.func f1) #[] #[], .func (.func f2) #[] #[]] T)) fun e w' => ∃ c, e = .returned (.func (.func 166) #[] #[.pointer (some ⟨c, 0, none⟩)]) ∧ K.Cl 166 [f1, f2] (.func (.func 166) #[] #[.pointer (some ⟨c, 0, none⟩)]) w' ∧ Bel w w' :=
  (takes2_any f1 f2 w T).mono fun e w' ⟨v, he, ⟨c, h, cap, hv, h1, h2⟩, hb⟩ => ⟨c, by rw [he, hv], ⟨c, h, cap, rfl, h1, h2⟩, hb⟩
theorem puts2_c (f1 f2 : FuncId) (w : World) (T : TypeId) :
    Calls Tryz.prog 144 #[.slice (some ⟨w.heap.size, 0, none⟩) 2 2] (w.alloc (.cells #[.func (.func f1) #[] #[], .func (.func f2) #[] #[]] T)) fun e w' => ∃ c, e = .returned (.func (.func 168) #[] #[.pointer (some ⟨c, 0, none⟩)]) ∧ K.Cl 168 [f1, f2] (.func (.func 168) #[] #[.pointer (some ⟨c, 0, none⟩)]) w' ∧ Bel w w' :=
  (puts2_any f1 f2 w T).mono fun e w' ⟨v, he, ⟨c, h, cap, hv, h1, h2⟩, hb⟩ => ⟨c, by rw [he, hv], ⟨c, h, cap, rfl, h1, h2⟩, hb⟩
theorem takes3_c (f1 f2 f3 : FuncId) (w : World) (T : TypeId) :
    Calls Tryz.prog 142 #[.slice (some ⟨w.heap.size, 0, none⟩) 3 3] (w.alloc (.cells #[.func (.func f1) #[] #[], .func (.func f2) #[] #[], .func (.func f3) #[] #[]] T)) fun e w' => ∃ c, e = .returned (.func (.func 166) #[] #[.pointer (some ⟨c, 0, none⟩)]) ∧ K.Cl 166 [f1, f2, f3] (.func (.func 166) #[] #[.pointer (some ⟨c, 0, none⟩)]) w' ∧ Bel w w' :=
  (takes3_any f1 f2 f3 w T).mono fun e w' ⟨v, he, ⟨c, h, cap, hv, h1, h2⟩, hb⟩ => ⟨c, by rw [he, hv], ⟨c, h, cap, rfl, h1, h2⟩, hb⟩
theorem puts3_c (f1 f2 f3 : FuncId) (w : World) (T : TypeId) :
    Calls Tryz.prog 144 #[.slice (some ⟨w.heap.size, 0, none⟩) 3 3] (w.alloc (.cells #[.func (.func f1) #[] #[], .func (.func f2) #[] #[], .func (.func f3) #[] #[]] T)) fun e w' => ∃ c, e = .returned (.func (.func 168) #[] #[.pointer (some ⟨c, 0, none⟩)]) ∧ K.Cl 168 [f1, f2, f3] (.func (.func 168) #[] #[.pointer (some ⟨c, 0, none⟩)]) w' ∧ Bel w w' :=
  (puts3_any f1 f2 f3 w T).mono fun e w' ⟨v, he, ⟨c, h, cap, hv, h1, h2⟩, hb⟩ => ⟨c, by rw [he, hv], ⟨c, h, cap, rfl, h1, h2⟩, hb⟩
theorem cell_new (w : World) (cs : Array Value) (T : TypeId) (j : Nat) (v : Value) (h : cs[j]? = some v) : (w.alloc (.cells cs T)).cell? ⟨w.heap.size, j, none⟩ = some v := by
  rw [← h]; unfold World.cell? World.alloc; simp
set_option maxHeartbeats 2000000 in
theorem formats_any : K.FmtsOK := by
  intro w
  go_enter Tryz.func127, Tryz.ntmps127
  go_wp2_with fail
  refine (takes2_c _ _ _ _).mono ?_
  rintro e w1 ⟨c1, rfl, hv1, hb1⟩
  have H1 := hid hv1; have B1 := hid hb1; clear hv1 hb1
  go_wp2_with fail
  refine (puts2_c _ _ _ _).mono ?_
  rintro e w2 ⟨c2, rfl, hv2, hb2⟩
  have H2 := hid hv2; have B2 := hid hb2; clear hv2 hb2
  go_wp2_with fail
  refine (takes2_c _ _ _ _).mono ?_
  rintro e w3 ⟨c3, rfl, hv3, hb3⟩
  have H3 := hid hv3; have B3 := hid hb3; clear hv3 hb3
  go_wp2_with fail
  refine (puts2_c _ _ _ _).mono ?_
  rintro e w4 ⟨c4, rfl, hv4, hb4⟩
  have H4 := hid hv4; have B4 := hid hb4; clear hv4 hb4
  go_wp2_with fail
  refine (takes2_c _ _ _ _).mono ?_
  rintro e w5 ⟨c5, rfl, hv5, hb5⟩
  have H5 := hid hv5; have B5 := hid hb5; clear hv5 hb5
  go_wp2_with fail
  refine (puts2_c _ _ _ _).mono ?_
  rintro e w6 ⟨c6, rfl, hv6, hb6⟩
  have H6 := hid hv6; have B6 := hid hb6; clear hv6 hb6
  go_wp2_with fail
  refine (takes3_c _ _ _ _ _).mono ?_
  rintro e w7 ⟨c7, rfl, hv7, hb7⟩
  have H7 := hid hv7; have B7 := hid hb7; clear hv7 hb7
  go_wp2_with fail
  refine (puts3_c _ _ _ _ _).mono ?_
  rintro e w8 ⟨c8, rfl, hv8, hb8⟩
  have H8 := hid hv8; have B8 := hid hb8; clear hv8 hb8
  go_wp2_with fail
  go_ret
  refine ⟨w8.heap.size, fun k => [.func (.func 136) #[] #[], .func (.func 138) #[] #[], .func (.func 140) #[] #[], .func (.func 166) #[] #[.pointer (some ⟨c1, 0, none⟩)], .func (.func 166) #[] #[.pointer (some ⟨c3, 0, none⟩)], .func (.func 166) #[] #[.pointer (some ⟨c5, 0, none⟩)], .func (.func 166) #[] #[.pointer (some ⟨c7, 0, none⟩)], .func (.func 143) #[] #[], .func (.func 146) #[] #[], .func (.func 150) #[] #[], .func (.func 140) #[] #[]].getD k .nilFunc, fun k => [.func (.func 137) #[] #[], .func (.func 139) #[] #[], .func (.func 141) #[] #[], .func (.func 168) #[] #[.pointer (some ⟨c2, 0, none⟩)], .func (.func 168) #[] #[.pointer (some ⟨c4, 0, none⟩)], .func (.func 168) #[] #[.pointer (some ⟨c6, 0, none⟩)], .func (.func 168) #[] #[.pointer (some ⟨c8, 0, none⟩)], .func (.func 145) #[] #[], .func (.func 147) #[] #[], .func (.func 145) #[] #[], .func (.func 141) #[] #[]].getD k .nilFunc, rfl, ?_, ?_⟩
  · have b8 : ∀ o, Bel w8 (w8.alloc o) := fun o => Bel.alloc (Bel.refl _) o
    have b7 := fun o => B8.out.trans (b8 o)
    have b6 := fun o => B7.out.trans (b7 o)
    have b5 := fun o => B6.out.trans (b6 o)
    have b4 := fun o => B5.out.trans (b5 o)
    have b3 := fun o => B4.out.trans (b4 o)
    have b2 := fun o => B3.out.trans (b3 o)
    have b1 := fun o => B2.out.trans (b2 o)
    intro k hk
    rcases (by omega : k = 0 ∨ k = 1 ∨ k = 2 ∨ k = 3 ∨ k = 4 ∨ k = 5 ∨ k = 6 ∨ k = 7 ∨ k = 8 ∨ k = 9 ∨ k = 10) with rfl | rfl | rfl | rfl | rfl | rfl | rfl | rfl | rfl | rfl | rfl
    · exact ⟨cell_new _ _ _ _ _ rfl, cell_new _ _ _ _ _ rfl, cell_new _ _ _ _ _ rfl, cell_new _ _ _ _ _ rfl, cell_new _ _ _ _ _ rfl, ⟨rfl, rfl⟩⟩
    · exact ⟨cell_new _ _ _ _ _ rfl, cell_new _ _ _ _ _ rfl, cell_new _ _ _ _ _ rfl, cell_new _ _ _ _ _ rfl, cell_new _ _ _ _ _ rfl, ⟨rfl, rfl⟩⟩
    · exact ⟨cell_new _ _ _ _ _ rfl, cell_new _ _ _ _ _ rfl, cell_new _ _ _ _ _ rfl, cell_new _ _ _ _ _ rfl, cell_new _ _ _ _ _ rfl, ⟨rfl, rfl⟩⟩
    · exact ⟨cell_new _ _ _ _ _ rfl, cell_new _ _ _ _ _ rfl, cell_new _ _ _ _ _ rfl, cell_new _ _ _ _ _ rfl, cell_new _ _ _ _ _ rfl, ⟨H1.out.bel (b1 _), H2.out.bel (b2 _)⟩⟩
    · exact ⟨cell_new _ _ _ _ _ rfl, cell_new _ _ _ _ _ rfl, cell_new _ _ _ _ _ rfl, cell_new _ _ _ _ _ rfl, cell_new _ _ _ _ _ rfl, ⟨H3.out.bel (b3 _), H4.out.bel (b4 _)⟩⟩
    · exact ⟨cell_new _ _ _ _ _ rfl, cell_new _ _ _ _ _ rfl, cell_new _ _ _ _ _ rfl, cell_new _ _ _ _ _ rfl, cell_new _ _ _ _ _ rfl, ⟨H5.out.bel (b5 _), H6.out.bel (b6 _)⟩⟩
    · exact ⟨cell_new _ _ _ _ _ rfl, cell_new _ _ _ _ _ rfl, cell_new _ _ _ _ _ rfl, cell_new _ _ _ _ _ rfl, cell_new _ _ _ _ _ rfl, ⟨H7.out.bel (b7 _), H8.out.bel (b8 _)⟩⟩
    · exact ⟨cell_new _ _ _ _ _ rfl, cell_new _ _ _ _ _ rfl, cell_new _ _ _ _ _ rfl, cell_new _ _ _ _ _ rfl, cell_new _ _ _ _ _ rfl, ⟨rfl, rfl⟩⟩
    · exact ⟨cell_new _ _ _ _ _ rfl, cell_new _ _ _ _ _ rfl, cell_new _ _ _ _ _ rfl, cell_new _ _ _ _ _ rfl, cell_new _ _ _ _ _ rfl, ⟨rfl, rfl⟩⟩
    · exact ⟨cell_new _ _ _ _ _ rfl, cell_new _ _ _ _ _ rfl, cell_new _ _ _ _ _ rfl, cell_new _ _ _ _ _ rfl, cell_new _ _ _ _ _ rfl, ⟨rfl, rfl⟩⟩
    · exact ⟨cell_new _ _ _ _ _ rfl, cell_new _ _ _ _ _ rfl, cell_new _ _ _ _ _ rfl, cell_new _ _ _ _ _ rfl, cell_new _ _ _ _ _ rfl, ⟨rfl, rfl⟩⟩
  · exact (((((((B1.out.trans B2.out).trans B3.out).trans B4.out).trans B5.out).trans B6.out).trans B7.out).trans B8.out).alloc _
theorem Ch.kept1 {ga g j : Nat} {a b : World} {v : Value} (k : Ch (fun x => x = ga) a b) (h : g ≠ ga) (hc : a.cell? ⟨g, j, none⟩ = some v) : b.cell? ⟨g, j, none⟩ = some v := (k.cell g j (lt_of_cell hc) h).trans hc
theorem Ki.new (x : World) : Ki x.heap.size ⟨0, 0, 0, 0, 0, 0, 0⟩ (x.alloc (.cells #[.int .i64 0, .int .i64 0, .int .i64 0, .int .i64 0, .int .i64 0, .int .u32 0, .int .i64 0] 66)) := ⟨by go_simp, by go_simp, by go_simp, by go_simp, by go_simp, by go_simp, by go_simp, fun j => by go_simp⟩
theorem Ki.new7 (x : World) (i : K.Ins) : Ki x.heap.size i (x.alloc (.cells #[.int .i64 i.op, .int .i64 i.d, .int .i64 i.s, .int .i64 i.ix, .int .i64 i.sc, .int .u32 i.imm, .int .i64 i.sz] 66)) := ⟨by go_simp, by go_simp, by go_simp, by go_simp, by go_simp, by go_simp, by go_simp, fun j => by go_simp⟩
theorem Ki.put7 {g : Nat} {i : K.Ins} {w : World} (h : Ki g i w) (k : K.Ins) : Ki g k (((((((w.setCell ⟨g, 0, none⟩ (.int .i64 k.op)).setCell ⟨g, 1, none⟩ (.int .i64 k.d)).setCell ⟨g, 2, none⟩ (.int .i64 k.s)).setCell ⟨g, 3, none⟩ (.int .i64 k.ix)).setCell ⟨g, 4, none⟩ (.int .i64 k.sc)).setCell ⟨g, 5, none⟩ (.int .u32 k.imm)).setCell ⟨g, 6, none⟩ (.int .i64 k.sz)) := by
  obtain ⟨c0, c1, c2, c3, c4, c5, c6, fz⟩ := h
  have hh : ∀ {x : World} {j j' : Nat} {v : Value} {u : Value}, j ≠ j' → x.cell? ⟨g, j', none⟩ = some u → (x.setCell ⟨g, j, none⟩ v).cell? ⟨g, j', none⟩ = some u := fun hn hc => (other_cell _ _ (.inr hn)).trans hc
  have s0 := cell_set (v := .int .i64 k.op) c0
  have s1 := cell_set (v := .int .i64 k.d) (hh (v := .int .i64 k.op) (show 0 ≠ 1 by decide) c1)
  refine ⟨?_, ?_, ?_, ?_, ?_, ?_, ?_, fun j => by simp only [frozen_set]; exact fz j⟩
  · exact hh (by decide) (hh (by decide) (hh (by decide) (hh (by decide) (hh (by decide) (hh (by decide) (cell_set c0))))))
  · exact hh (by decide) (hh (by decide) (hh (by decide) (hh (by decide) (hh (by decide) (cell_set (hh (by decide) c1))))))
  · exact hh (by decide) (hh (by decide) (hh (by decide) (hh (by decide) (cell_set (hh (by decide) (hh (by decide) c2))))))
  · exact hh (by decide) (hh (by decide) (hh (by decide) (cell_set (hh (by decide) (hh (by decide) (hh (by decide) c3))))))
  · exact hh (by decide) (hh (by decide) (cell_set (hh (by decide) (hh (by decide) (hh (by decide) (hh (by decide) c4))))))
  · exact hh (by decide) (cell_set (hh (by decide) (hh (by decide) (hh (by decide) (hh (by decide) (hh (by decide) c5))))))
  · exact cell_set (hh (by decide) (hh (by decide) (hh (by decide) (hh (by decide) (hh (by decide) (hh (by decide) c6))))))
theorem Ch.undrew {S : Nat → Prop} {a b : World} (h : Ch S a.drew b) : Ch S a b := ⟨h.os, h.tape, h.output, h.size, h.block⟩
theorem Ch.unalloc {S : Nat → Prop} {a b : World} {o : Obj} (h : Ch S (a.alloc o) b) : Ch S a b := ((Bel.alloc (Bel.refl a) o).ch S).trans h
theorem Ch.at_new {ga g j : Nat} {a b : World} {v : Value} (h : Ch (fun x => x = ga) a b) (hg : a.heap.size ≤ g) : Ch (fun x => x = ga) a (b.setCell ⟨g, j, none⟩ v) := h.setCell (p := ⟨g, j, none⟩) (fun hl => absurd hl (Nat.not_lt.2 hg)) v
set_option maxHeartbeats 2000000 in
theorem read_of (lo hi sz : Int) (F G : FuncId) (cs ds : Array Value) (s : ByteArray) (j : K.Ins) (w : World) (hs : s.size ≤ maxLen) (h0 : 0 < s.size) (HE : ∀ (args : Array Value) (w : World), (callFunc F args).run Tryz.prog w = .ok (.enter F args) w)
    (HT : ∀ (ga gs gi : Nat) (wx : World), Rd ga gs s 1 wx → Ki gi ⟨W.byt s.data.toList 0, 0, 0, -1, 0, 0, sz⟩ wx → ga ≠ gi → gs ≠ gi → w.heap.size ≤ ga → w.heap.size ≤ gi → Bel w wx →
      Calls Tryz.prog F (#[.func (.func 129) #[] #[.pointer (some ⟨ga, 0, none⟩), .pointer (some ⟨gs, 0, none⟩)], .pointer (some ⟨gi, 0, none⟩)] ++ cs) wx fun e w' => e = .returned (.tuple #[]) ∧ Ki gi j w' ∧ Ch (fun x => x = ga ∨ x = gi) wx w') :
    Calls Tryz.prog 107 #[.agg #[.int .i64 lo, .int .i64 hi, .int .i64 sz, .func (.func F) #[] cs, .func (.func G) #[] ds], .string s] w fun e w' => e = .returned (.agg #[.int .i64 j.op, .int .i64 j.d, .int .i64 j.s, .int .i64 j.ix, .int .i64 j.sc, .int .u32 j.imm, .int .i64 j.sz]) ∧ Bel w w' := by
  go_enter Tryz.func107, Tryz.ntmps107
  go_upto_region 3 with fail
  obtain ⟨ga, hga⟩ : ∃ x, x = w.heap.size + 1 + 1 + 1 := ⟨_, rfl⟩
  obtain ⟨gs, hgs⟩ : ∃ x, x = w.heap.size + 1 := ⟨_, rfl⟩
  obtain ⟨gr, hgr⟩ : ∃ x, x = w.heap.size + 1 + 1 := ⟨_, rfl⟩
  have hi1 : w.heap.size ≠ ga := by omega
  have hi2 : gs ≠ ga := by omega
  have hi3 : gr ≠ ga := by omega
  have hi4 : gr ≠ gs := by omega
  have hi5 : w.heap.size ≤ ga := by omega
  have hi6 : w.heap.size ≤ gr := by omega
  have R0 : Rd (w.heap.size + 1 + 1 + 1) (w.heap.size + 1) s 0 ((((w.alloc (.cells #[.int .i64 lo, .int .i64 hi, .int .i64 sz, .func (.func F) #[] cs, .func (.func G) #[] ds] 174)).alloc (.cells #[.string s] 9)).alloc (.cells #[.int .i64 0, .int .i64 0, .int .i64 0, .int .i64 0, .int .i64 0, .int .u32 0, .int .i64 0] 66)).alloc (.cells #[.int .i64 0] 3)) := ⟨by go_simp, by go_simp, by go_simp, by omega⟩
  have Q0 : Ki (w.heap.size + 1 + 1) ⟨0, 0, 0, 0, 0, 0, 0⟩ ((((w.alloc (.cells #[.int .i64 lo, .int .i64 hi, .int .i64 sz, .func (.func F) #[] cs, .func (.func G) #[] ds] 174)).alloc (.cells #[.string s] 9)).alloc (.cells #[.int .i64 0, .int .i64 0, .int .i64 0, .int .i64 0, .int .i64 0, .int .u32 0, .int .i64 0] 66)).alloc (.cells #[.int .i64 0] 3)) := ⟨by go_simp, by go_simp, by go_simp, by go_simp, by go_simp, by go_simp, by go_simp, fun j => by go_simp⟩
  have B2 : ((((w.alloc (.cells #[.int .i64 lo, .int .i64 hi, .int .i64 sz, .func (.func F) #[] cs, .func (.func G) #[] ds] 174)).alloc (.cells #[.string s] 9)).alloc (.cells #[.int .i64 0, .int .i64 0, .int .i64 0, .int .i64 0, .int .i64 0, .int .u32 0, .int .i64 0] 66)).alloc (.cells #[.int .i64 0] 3)).cell? ⟨w.heap.size, 2, none⟩ = some (.int .i64 sz) := by go_simp
  have B3 : ((((w.alloc (.cells #[.int .i64 lo, .int .i64 hi, .int .i64 sz, .func (.func F) #[] cs, .func (.func G) #[] ds] 174)).alloc (.cells #[.string s] 9)).alloc (.cells #[.int .i64 0, .int .i64 0, .int .i64 0, .int .i64 0, .int .i64 0, .int .u32 0, .int .i64 0] 66)).alloc (.cells #[.int .i64 0] 3)).cell? ⟨w.heap.size, 3, none⟩ = some (.func (.func F) #[] cs) := by go_simp
  have hb : Bel w ((((w.alloc (.cells #[.int .i64 lo, .int .i64 hi, .int .i64 sz, .func (.func F) #[] cs, .func (.func G) #[] ds] 174)).alloc (.cells #[.string s] 9)).alloc (.cells #[.int .i64 0, .int .i64 0, .int .i64 0, .int .i64 0, .int .i64 0, .int .u32 0, .int .i64 0] 66)).alloc (.cells #[.int .i64 0] 3)) := Nz.bel
  generalize ((((w.alloc (.cells #[.int .i64 lo, .int .i64 hi, .int .i64 sz, .func (.func F) #[] cs, .func (.func G) #[] ds] 174)).alloc (.cells #[.string s] 9)).alloc (.cells #[.int .i64 0, .int .i64 0, .int .i64 0, .int .i64 0, .int .i64 0, .int .u32 0, .int .i64 0] 66)).alloc (.cells #[.int .i64 0] 3)) = wA at *
  rw [← hga, ← hgr, ← hgs] at *
  have hA : ga < wA.heap.size := lt_of_cell R0.at'
  have hS : gs < wA.heap.size := lt_of_cell R0.str
  have hR : gr < wA.heap.size := lt_of_cell Q0.c0
  have hF : w.heap.size < wA.heap.size := lt_of_cell B2
  have hwr : IntKind.i64.wrap (W.byt s.data.toList 0) = W.byt s.data.toList 0 := IntWalk.i64_in _ (by have := W.byt_bd s.data.toList 0; omega)
  have hgB : ga ≠ wA.heap.size := by omega
  have hgC : gs ≠ wA.heap.size := by omega
  have hgA : ¬ wA.heap.size = ga := by omega
  clear hga hgr hgs
  have B2d : ∀ o, (wA.drew.alloc o).cell? ⟨w.heap.size, 2, none⟩ = some (.int .i64 sz) := fun o => Bel.at (Bel.alloc (Bel.drew (Bel.refl _)) o) B2
  have B2e : wA.drew.cell? ⟨w.heap.size, 2, none⟩ = some (.int .i64 sz) := Bel.at (Bel.drew (Bel.refl _)) B2
  go_cut [7] from 9 to 14 (fun s7 wx => ∃ gi, s7 = .pointer (some ⟨gi, 0, none⟩) ∧ wA.heap.size ≤ gi ∧ Rd ga gs s 1 wx ∧ Ki gi ⟨W.byt s.data.toList 0, 0, 0, -1, 0, 0, sz⟩ wx ∧ Ch (fun x => x = ga) wA wx)
  case first =>
    go_region_with (go_at_call 129; refine (next_any _ _ _ 0 _ ?_ h0 hs).mono ?_; (first | exact R0 | exact R0.bel (Bel.alloc (Bel.drew (Bel.refl _)) _) | exact R0.bel (Bel.alloc (Bel.refl _) _) | exact R0.bel (Bel.drew (Bel.refl _))); rintro e w2 ⟨rfl, hr1, hch⟩; (first | (have B2' : w2.cell? ⟨w.heap.size, 2, none⟩ = some (.int .i64 sz) := Ch.kept1 hch hi1 B2) | (have B2' : w2.cell? ⟨w.heap.size, 2, none⟩ = some (.int .i64 sz) := Ch.kept1 hch hi1 (Bel.at (Bel.alloc (Bel.refl _) _) B2)) | (have B2' : w2.cell? ⟨w.heap.size, 2, none⟩ = some (.int .i64 sz) := Ch.kept1 hch hi1 (Bel.at (Bel.drew (Bel.refl _)) B2)) | (have B2' : w2.cell? ⟨w.heap.size, 2, none⟩ = some (.int .i64 sz) := Ch.kept1 hch hi1 (Bel.at (Bel.alloc (Bel.drew (Bel.refl _)) _) B2))); have B2'' : ∀ o, (w2.alloc o).cell? ⟨w.heap.size, 2, none⟩ = some (.int .i64 sz) := (fun o => Bel.at (Bel.alloc (Bel.refl _) o) B2'); try (obtain ⟨A0, A1, A2, A3, A4, A5, A6, AF⟩ := (show Ki wA.heap.size _ (wA.drew.alloc _) from Ki.new wA.drew).ch hch hgA))
    all_goals
      go_wp2_with fail
      go_meet
      first
        | exact ⟨w2.heap.size, rfl, hch.size, hr1.bel (Bel.alloc (Bel.refl _) _), Ki.new7 w2 ⟨W.byt s.data.toList 0, 0, 0, -1, 0, 0, sz⟩, hch.undrew.alloc _⟩
        | exact ⟨wA.heap.size, rfl, Nat.le_refl _, ((((((hr1.set hgB hgC).set hgB hgC).set hgB hgC).set hgB hgC).set hgB hgC).set hgB hgC).set hgB hgC, Ki.put7 (i := ⟨0, 0, 0, 0, 0, 0, 0⟩) ⟨A0, A1, A2, A3, A4, A5, A6, AF⟩ ⟨W.byt s.data.toList 0, 0, 0, -1, 0, 0, sz⟩, ((((((hch.unalloc.undrew.at_new (Nat.le_refl _)).at_new (Nat.le_refl _)).at_new (Nat.le_refl _)).at_new (Nat.le_refl _)).at_new (Nat.le_refl _)).at_new (Nat.le_refl _)).at_new (Nat.le_refl _)⟩
  case rest =>
    obtain ⟨gi, rfl, hgi, hr, hk, hch⟩ := hcut
    have b3 := Ch.kept1 hch hi1 B3
    have Q1 := Q0.ch hch hi3
    have hbc : Bel w wc := Bel.then hb hch (by rintro x rfl; exact hi5)
    have n1 : ga ≠ gi := by omega
    have n2 : gs ≠ gi := by omega
    have n3 : ¬ (gr = ga ∨ gr = gi) := by omega
    have n4 : w.heap.size ≤ gi := by omega
    clear B2 B3 B2d B2e R0 Q0 hgA hgB hgC hA hS hR hF hb hch
    go_wp2_with (refine (HT ga gs gi wc hr hk n1 n2 hi5 n4 hbc).mono ?_; rintro e w3 ⟨rfl, hk3, hch3⟩; obtain ⟨q0, q1, q2, q3, q4, q5, q6, qf⟩ := hk3; obtain ⟨r0, r1, r2, r3, r4, r5, r6, rf⟩ := Q1.ch hch3 n3)
    have hb3 : Bel w w3 := Bel.then hbc hch3 (fun x hx => hx.elim (fun e => e ▸ hi5) (fun e => e ▸ n4))
    refine bodyPost_ret (v := .agg #[.int .i64 j.op, .int .i64 j.d, .int .i64 j.s, .int .i64 j.ix, .int .i64 j.sc, .int .u32 j.imm, .int .i64 j.sz]) (by simp [results, Tryz.results107, go_sem, r0, r1, r2, r3, r4, r5, r6]) rfl ⟨rfl, ?_⟩
    repeat (first | refine Bel.setCell ?_ hi6 _ | exact hb3)
def K.t_plain (l : List UInt8) (n : Nat) (i : K.Ins) : K.Ins := { i with imm := W.byt l n }
theorem plain_t : TakeOK 150 1 K.t_plain := plain_ok
def K.t_none (l : List UInt8) (n : Nat) (i : K.Ins) : K.Ins := i
theorem none_t : TakeOK 136 0 K.t_none := none_ok
def K.i0 (l : List UInt8) (sz : Int) : K.Ins := ⟨W.byt l 0, 0, 0, -1, 0, 0, sz⟩
/-- The instruction that format k reads. -/
def K.rd (k : Nat) (l : List UInt8) (sz : Int) : K.Ins := match k with
  | 0 => K.t_none l 1 (K.i0 l sz)
  | 1 => K.t_reg l 1 (K.i0 l sz)
  | 2 => K.t_pair l 1 (K.i0 l sz)
  | 3 => (K.t_small l (1 + 1) (K.t_reg l (1 + 0) (K.i0 l sz)))
  | 4 => (K.t_full l (1 + 1) (K.t_reg l (1 + 0) (K.i0 l sz)))
  | 5 => (K.t_small l (1 + 1) (K.t_pair l (1 + 0) (K.i0 l sz)))
  | 6 => (K.t_full l (1 + 2) (K.t_index l (1 + 1) (K.t_pair l (1 + 0) (K.i0 l sz))))
  | 7 => K.t_small l 1 (K.i0 l sz)
  | 8 => K.t_full l 1 (K.i0 l sz)
  | 9 => K.t_plain l 1 (K.i0 l sz)
  | 10 => K.t_pair l 1 (K.i0 l sz)
  | _ => K.i0 l sz
theorem K.enter_full (args : Array Value) (w : World) : (callFunc 146 args).run Tryz.prog w = .ok (.enter 146 args) w := by go_simp
theorem K.enter_none (args : Array Value) (w : World) : (callFunc 136 args).run Tryz.prog w = .ok (.enter 136 args) w := by go_simp
theorem K.enter_pair (args : Array Value) (w : World) : (callFunc 140 args).run Tryz.prog w = .ok (.enter 140 args) w := by go_simp
theorem K.enter_plain (args : Array Value) (w : World) : (callFunc 150 args).run Tryz.prog w = .ok (.enter 150 args) w := by go_simp
theorem K.enter_reg (args : Array Value) (w : World) : (callFunc 138 args).run Tryz.prog w = .ok (.enter 138 args) w := by go_simp
theorem K.enter_small (args : Array Value) (w : World) : (callFunc 143 args).run Tryz.prog w = .ok (.enter 143 args) w := by go_simp
theorem K.enter_takes_1 (args : Array Value) (w : World) : (callFunc 166 args).run Tryz.prog w = .ok (.enter 166 args) w := by go_simp
theorem read_0 (t p : Value) (w : World) (h : K.Fm 0 t p w) (s : ByteArray) (hs : s.size ≤ maxLen) (hl : 1 ≤ s.size) :
    Calls Tryz.prog 107 #[.agg #[.int .i64 (K.lo 0), .int .i64 (K.hi 0), .int .i64 (K.len 0), t, p], .string s] w fun e w' => e = .returned (.agg #[.int .i64 (K.rd 0 s.data.toList (K.len 0)).op, .int .i64 (K.rd 0 s.data.toList (K.len 0)).d, .int .i64 (K.rd 0 s.data.toList (K.len 0)).s, .int .i64 (K.rd 0 s.data.toList (K.len 0)).ix, .int .i64 (K.rd 0 s.data.toList (K.len 0)).sc, .int .u32 (K.rd 0 s.data.toList (K.len 0)).imm, .int .i64 (K.rd 0 s.data.toList (K.len 0)).sz]) ∧ Bel w w' := by
  obtain ⟨rfl, rfl⟩ := h
  refine read_of _ _ _ _ _ #[] #[] s (K.rd 0 s.data.toList (K.len 0)) w hs (by omega) K.enter_none ?_
  intro ga gs gi wx hr hk n1 n2 h5 h4 hb
  rw [Array.append_empty]
  exact (none_t ga gs gi s 1 _ wx hr hk n1 n2 (by omega) hs).mono fun e w' ⟨a, _, b, c⟩ => ⟨a, b, c⟩
theorem read_1 (t p : Value) (w : World) (h : K.Fm 1 t p w) (s : ByteArray) (hs : s.size ≤ maxLen) (hl : 2 ≤ s.size) :
    Calls Tryz.prog 107 #[.agg #[.int .i64 (K.lo 1), .int .i64 (K.hi 1), .int .i64 (K.len 1), t, p], .string s] w fun e w' => e = .returned (.agg #[.int .i64 (K.rd 1 s.data.toList (K.len 1)).op, .int .i64 (K.rd 1 s.data.toList (K.len 1)).d, .int .i64 (K.rd 1 s.data.toList (K.len 1)).s, .int .i64 (K.rd 1 s.data.toList (K.len 1)).ix, .int .i64 (K.rd 1 s.data.toList (K.len 1)).sc, .int .u32 (K.rd 1 s.data.toList (K.len 1)).imm, .int .i64 (K.rd 1 s.data.toList (K.len 1)).sz]) ∧ Bel w w' := by
  obtain ⟨rfl, rfl⟩ := h
  refine read_of _ _ _ _ _ #[] #[] s (K.rd 1 s.data.toList (K.len 1)) w hs (by omega) K.enter_reg ?_
  intro ga gs gi wx hr hk n1 n2 h5 h4 hb
  rw [Array.append_empty]
  exact (reg_t ga gs gi s 1 _ wx hr hk n1 n2 (by omega) hs).mono fun e w' ⟨a, _, b, c⟩ => ⟨a, b, c⟩
theorem read_2 (t p : Value) (w : World) (h : K.Fm 2 t p w) (s : ByteArray) (hs : s.size ≤ maxLen) (hl : 2 ≤ s.size) :
    Calls Tryz.prog 107 #[.agg #[.int .i64 (K.lo 2), .int .i64 (K.hi 2), .int .i64 (K.len 2), t, p], .string s] w fun e w' => e = .returned (.agg #[.int .i64 (K.rd 2 s.data.toList (K.len 2)).op, .int .i64 (K.rd 2 s.data.toList (K.len 2)).d, .int .i64 (K.rd 2 s.data.toList (K.len 2)).s, .int .i64 (K.rd 2 s.data.toList (K.len 2)).ix, .int .i64 (K.rd 2 s.data.toList (K.len 2)).sc, .int .u32 (K.rd 2 s.data.toList (K.len 2)).imm, .int .i64 (K.rd 2 s.data.toList (K.len 2)).sz]) ∧ Bel w w' := by
  obtain ⟨rfl, rfl⟩ := h
  refine read_of _ _ _ _ _ #[] #[] s (K.rd 2 s.data.toList (K.len 2)) w hs (by omega) K.enter_pair ?_
  intro ga gs gi wx hr hk n1 n2 h5 h4 hb
  rw [Array.append_empty]
  exact (pair_t ga gs gi s 1 _ wx hr hk n1 n2 (by omega) hs).mono fun e w' ⟨a, _, b, c⟩ => ⟨a, b, c⟩
theorem read_3 (t p : Value) (w : World) (h : K.Fm 3 t p w) (s : ByteArray) (hs : s.size ≤ maxLen) (hl : 3 ≤ s.size) :
    Calls Tryz.prog 107 #[.agg #[.int .i64 (K.lo 3), .int .i64 (K.hi 3), .int .i64 (K.len 3), t, p], .string s] w fun e w' => e = .returned (.agg #[.int .i64 (K.rd 3 s.data.toList (K.len 3)).op, .int .i64 (K.rd 3 s.data.toList (K.len 3)).d, .int .i64 (K.rd 3 s.data.toList (K.len 3)).s, .int .i64 (K.rd 3 s.data.toList (K.len 3)).ix, .int .i64 (K.rd 3 s.data.toList (K.len 3)).sc, .int .u32 (K.rd 3 s.data.toList (K.len 3)).imm, .int .i64 (K.rd 3 s.data.toList (K.len 3)).sz]) ∧ Bel w w' := by
  obtain ⟨⟨c, b, cap, rfl, g1, g2⟩, ⟨c', b', cap', rfl, _, _⟩⟩ := h
  refine read_of _ _ _ _ _ #[.pointer (some ⟨c, 0, none⟩)] _ s (K.rd 3 s.data.toList (K.len 3)) w hs (by omega) K.enter_takes_1 ?_
  intro ga gs gi wx hr hk n1 n2 h5 h4 hb
  have hbl := lt_of_cell (g2 0 (by simp))
  have hq : ∀ j, j < 2 → wx.cell? ⟨b, j, none⟩ = _ := fun j hj => Bel.at hb (g2 j hj)
  have key := takes_reg_small ga gs gi c b cap s 1 _ wx hr hk n1 n2 (by omega) hs (Bel.at hb g1) (hq 0 (by decide)) (hq 1 (by decide)) (by simp at hbl; omega) (by simp at hbl; omega)
  exact key.mono fun e w' ⟨a, _, b, c⟩ => ⟨a, b, c⟩
theorem read_4 (t p : Value) (w : World) (h : K.Fm 4 t p w) (s : ByteArray) (hs : s.size ≤ maxLen) (hl : 6 ≤ s.size) :
    Calls Tryz.prog 107 #[.agg #[.int .i64 (K.lo 4), .int .i64 (K.hi 4), .int .i64 (K.len 4), t, p], .string s] w fun e w' => e = .returned (.agg #[.int .i64 (K.rd 4 s.data.toList (K.len 4)).op, .int .i64 (K.rd 4 s.data.toList (K.len 4)).d, .int .i64 (K.rd 4 s.data.toList (K.len 4)).s, .int .i64 (K.rd 4 s.data.toList (K.len 4)).ix, .int .i64 (K.rd 4 s.data.toList (K.len 4)).sc, .int .u32 (K.rd 4 s.data.toList (K.len 4)).imm, .int .i64 (K.rd 4 s.data.toList (K.len 4)).sz]) ∧ Bel w w' := by
  obtain ⟨⟨c, b, cap, rfl, g1, g2⟩, ⟨c', b', cap', rfl, _, _⟩⟩ := h
  refine read_of _ _ _ _ _ #[.pointer (some ⟨c, 0, none⟩)] _ s (K.rd 4 s.data.toList (K.len 4)) w hs (by omega) K.enter_takes_1 ?_
  intro ga gs gi wx hr hk n1 n2 h5 h4 hb
  have hbl := lt_of_cell (g2 0 (by simp))
  have hq : ∀ j, j < 2 → wx.cell? ⟨b, j, none⟩ = _ := fun j hj => Bel.at hb (g2 j hj)
  have key := takes_reg_full ga gs gi c b cap s 1 _ wx hr hk n1 n2 (by omega) hs (Bel.at hb g1) (hq 0 (by decide)) (hq 1 (by decide)) (by simp at hbl; omega) (by simp at hbl; omega)
  exact key.mono fun e w' ⟨a, _, b, c⟩ => ⟨a, b, c⟩
theorem read_5 (t p : Value) (w : World) (h : K.Fm 5 t p w) (s : ByteArray) (hs : s.size ≤ maxLen) (hl : 3 ≤ s.size) :
    Calls Tryz.prog 107 #[.agg #[.int .i64 (K.lo 5), .int .i64 (K.hi 5), .int .i64 (K.len 5), t, p], .string s] w fun e w' => e = .returned (.agg #[.int .i64 (K.rd 5 s.data.toList (K.len 5)).op, .int .i64 (K.rd 5 s.data.toList (K.len 5)).d, .int .i64 (K.rd 5 s.data.toList (K.len 5)).s, .int .i64 (K.rd 5 s.data.toList (K.len 5)).ix, .int .i64 (K.rd 5 s.data.toList (K.len 5)).sc, .int .u32 (K.rd 5 s.data.toList (K.len 5)).imm, .int .i64 (K.rd 5 s.data.toList (K.len 5)).sz]) ∧ Bel w w' := by
  obtain ⟨⟨c, b, cap, rfl, g1, g2⟩, ⟨c', b', cap', rfl, _, _⟩⟩ := h
  refine read_of _ _ _ _ _ #[.pointer (some ⟨c, 0, none⟩)] _ s (K.rd 5 s.data.toList (K.len 5)) w hs (by omega) K.enter_takes_1 ?_
  intro ga gs gi wx hr hk n1 n2 h5 h4 hb
  have hbl := lt_of_cell (g2 0 (by simp))
  have hq : ∀ j, j < 2 → wx.cell? ⟨b, j, none⟩ = _ := fun j hj => Bel.at hb (g2 j hj)
  have key := takes_pair_small ga gs gi c b cap s 1 _ wx hr hk n1 n2 (by omega) hs (Bel.at hb g1) (hq 0 (by decide)) (hq 1 (by decide)) (by simp at hbl; omega) (by simp at hbl; omega)
  exact key.mono fun e w' ⟨a, _, b, c⟩ => ⟨a, b, c⟩
theorem read_6 (t p : Value) (w : World) (h : K.Fm 6 t p w) (s : ByteArray) (hs : s.size ≤ maxLen) (hl : 7 ≤ s.size) :
    Calls Tryz.prog 107 #[.agg #[.int .i64 (K.lo 6), .int .i64 (K.hi 6), .int .i64 (K.len 6), t, p], .string s] w fun e w' => e = .returned (.agg #[.int .i64 (K.rd 6 s.data.toList (K.len 6)).op, .int .i64 (K.rd 6 s.data.toList (K.len 6)).d, .int .i64 (K.rd 6 s.data.toList (K.len 6)).s, .int .i64 (K.rd 6 s.data.toList (K.len 6)).ix, .int .i64 (K.rd 6 s.data.toList (K.len 6)).sc, .int .u32 (K.rd 6 s.data.toList (K.len 6)).imm, .int .i64 (K.rd 6 s.data.toList (K.len 6)).sz]) ∧ Bel w w' := by
  obtain ⟨⟨c, b, cap, rfl, g1, g2⟩, ⟨c', b', cap', rfl, _, _⟩⟩ := h
  refine read_of _ _ _ _ _ #[.pointer (some ⟨c, 0, none⟩)] _ s (K.rd 6 s.data.toList (K.len 6)) w hs (by omega) K.enter_takes_1 ?_
  intro ga gs gi wx hr hk n1 n2 h5 h4 hb
  have hbl := lt_of_cell (g2 0 (by simp))
  have hq : ∀ j, j < 3 → wx.cell? ⟨b, j, none⟩ = _ := fun j hj => Bel.at hb (g2 j hj)
  have key := takes_pair_index_full ga gs gi c b cap s 1 _ wx hr hk n1 n2 (by omega) hs (Bel.at hb g1) (hq 0 (by decide)) (hq 1 (by decide)) (hq 2 (by decide)) (by simp at hbl; omega) (by simp at hbl; omega)
  exact key.mono fun e w' ⟨a, _, b, c⟩ => ⟨a, b, c⟩
theorem read_7 (t p : Value) (w : World) (h : K.Fm 7 t p w) (s : ByteArray) (hs : s.size ≤ maxLen) (hl : 2 ≤ s.size) :
    Calls Tryz.prog 107 #[.agg #[.int .i64 (K.lo 7), .int .i64 (K.hi 7), .int .i64 (K.len 7), t, p], .string s] w fun e w' => e = .returned (.agg #[.int .i64 (K.rd 7 s.data.toList (K.len 7)).op, .int .i64 (K.rd 7 s.data.toList (K.len 7)).d, .int .i64 (K.rd 7 s.data.toList (K.len 7)).s, .int .i64 (K.rd 7 s.data.toList (K.len 7)).ix, .int .i64 (K.rd 7 s.data.toList (K.len 7)).sc, .int .u32 (K.rd 7 s.data.toList (K.len 7)).imm, .int .i64 (K.rd 7 s.data.toList (K.len 7)).sz]) ∧ Bel w w' := by
  obtain ⟨rfl, rfl⟩ := h
  refine read_of _ _ _ _ _ #[] #[] s (K.rd 7 s.data.toList (K.len 7)) w hs (by omega) K.enter_small ?_
  intro ga gs gi wx hr hk n1 n2 h5 h4 hb
  rw [Array.append_empty]
  exact (small_t ga gs gi s 1 _ wx hr hk n1 n2 (by omega) hs).mono fun e w' ⟨a, _, b, c⟩ => ⟨a, b, c⟩
theorem read_8 (t p : Value) (w : World) (h : K.Fm 8 t p w) (s : ByteArray) (hs : s.size ≤ maxLen) (hl : 5 ≤ s.size) :
    Calls Tryz.prog 107 #[.agg #[.int .i64 (K.lo 8), .int .i64 (K.hi 8), .int .i64 (K.len 8), t, p], .string s] w fun e w' => e = .returned (.agg #[.int .i64 (K.rd 8 s.data.toList (K.len 8)).op, .int .i64 (K.rd 8 s.data.toList (K.len 8)).d, .int .i64 (K.rd 8 s.data.toList (K.len 8)).s, .int .i64 (K.rd 8 s.data.toList (K.len 8)).ix, .int .i64 (K.rd 8 s.data.toList (K.len 8)).sc, .int .u32 (K.rd 8 s.data.toList (K.len 8)).imm, .int .i64 (K.rd 8 s.data.toList (K.len 8)).sz]) ∧ Bel w w' := by
  obtain ⟨rfl, rfl⟩ := h
  refine read_of _ _ _ _ _ #[] #[] s (K.rd 8 s.data.toList (K.len 8)) w hs (by omega) K.enter_full ?_
  intro ga gs gi wx hr hk n1 n2 h5 h4 hb
  rw [Array.append_empty]
  exact (full_t ga gs gi s 1 _ wx hr hk n1 n2 (by omega) hs).mono fun e w' ⟨a, _, b, c⟩ => ⟨a, b, c⟩
theorem read_9 (t p : Value) (w : World) (h : K.Fm 9 t p w) (s : ByteArray) (hs : s.size ≤ maxLen) (hl : 2 ≤ s.size) :
    Calls Tryz.prog 107 #[.agg #[.int .i64 (K.lo 9), .int .i64 (K.hi 9), .int .i64 (K.len 9), t, p], .string s] w fun e w' => e = .returned (.agg #[.int .i64 (K.rd 9 s.data.toList (K.len 9)).op, .int .i64 (K.rd 9 s.data.toList (K.len 9)).d, .int .i64 (K.rd 9 s.data.toList (K.len 9)).s, .int .i64 (K.rd 9 s.data.toList (K.len 9)).ix, .int .i64 (K.rd 9 s.data.toList (K.len 9)).sc, .int .u32 (K.rd 9 s.data.toList (K.len 9)).imm, .int .i64 (K.rd 9 s.data.toList (K.len 9)).sz]) ∧ Bel w w' := by
  obtain ⟨rfl, rfl⟩ := h
  refine read_of _ _ _ _ _ #[] #[] s (K.rd 9 s.data.toList (K.len 9)) w hs (by omega) K.enter_plain ?_
  intro ga gs gi wx hr hk n1 n2 h5 h4 hb
  rw [Array.append_empty]
  exact (plain_t ga gs gi s 1 _ wx hr hk n1 n2 (by omega) hs).mono fun e w' ⟨a, _, b, c⟩ => ⟨a, b, c⟩
theorem read_10 (t p : Value) (w : World) (h : K.Fm 10 t p w) (s : ByteArray) (hs : s.size ≤ maxLen) (hl : 2 ≤ s.size) :
    Calls Tryz.prog 107 #[.agg #[.int .i64 (K.lo 10), .int .i64 (K.hi 10), .int .i64 (K.len 10), t, p], .string s] w fun e w' => e = .returned (.agg #[.int .i64 (K.rd 10 s.data.toList (K.len 10)).op, .int .i64 (K.rd 10 s.data.toList (K.len 10)).d, .int .i64 (K.rd 10 s.data.toList (K.len 10)).s, .int .i64 (K.rd 10 s.data.toList (K.len 10)).ix, .int .i64 (K.rd 10 s.data.toList (K.len 10)).sc, .int .u32 (K.rd 10 s.data.toList (K.len 10)).imm, .int .i64 (K.rd 10 s.data.toList (K.len 10)).sz]) ∧ Bel w w' := by
  obtain ⟨rfl, rfl⟩ := h
  refine read_of _ _ _ _ _ #[] #[] s (K.rd 10 s.data.toList (K.len 10)) w hs (by omega) K.enter_pair ?_
  intro ga gs gi wx hr hk n1 n2 h5 h4 hb
  rw [Array.append_empty]
  exact (pair_t ga gs gi s 1 _ wx hr hk n1 n2 (by omega) hs).mono fun e w' ⟨a, _, b, c⟩ => ⟨a, b, c⟩
theorem read_any (k : Nat) (hk : k < 11) (t p : Value) (w : World) (h : K.Fm k t p w) (s : ByteArray) (hs : s.size ≤ maxLen) (hl : K.len k ≤ (s.size : Int)) :
    Calls Tryz.prog 107 #[.agg #[.int .i64 (K.lo k), .int .i64 (K.hi k), .int .i64 (K.len k), t, p], .string s] w fun e w' => e = .returned (.agg #[.int .i64 (K.rd k s.data.toList (K.len k)).op, .int .i64 (K.rd k s.data.toList (K.len k)).d, .int .i64 (K.rd k s.data.toList (K.len k)).s, .int .i64 (K.rd k s.data.toList (K.len k)).ix, .int .i64 (K.rd k s.data.toList (K.len k)).sc, .int .u32 (K.rd k s.data.toList (K.len k)).imm, .int .i64 (K.rd k s.data.toList (K.len k)).sz]) ∧ Bel w w' := by
  rcases (by omega : k = 0 ∨ k = 1 ∨ k = 2 ∨ k = 3 ∨ k = 4 ∨ k = 5 ∨ k = 6 ∨ k = 7 ∨ k = 8 ∨ k = 9 ∨ k = 10) with rfl | rfl | rfl | rfl | rfl | rfl | rfl | rfl | rfl | rfl | rfl
  · exact read_0 t p w h s hs (by have : K.len 0 = 1 := rfl; omega)
  · exact read_1 t p w h s hs (by have : K.len 1 = 2 := rfl; omega)
  · exact read_2 t p w h s hs (by have : K.len 2 = 2 := rfl; omega)
  · exact read_3 t p w h s hs (by have : K.len 3 = 3 := rfl; omega)
  · exact read_4 t p w h s hs (by have : K.len 4 = 6 := rfl; omega)
  · exact read_5 t p w h s hs (by have : K.len 5 = 3 := rfl; omega)
  · exact read_6 t p w h s hs (by have : K.len 6 = 7 := rfl; omega)
  · exact read_7 t p w h s hs (by have : K.len 7 = 2 := rfl; omega)
  · exact read_8 t p w h s hs (by have : K.len 8 = 5 := rfl; omega)
  · exact read_9 t p w h s hs (by have : K.len 9 = 2 := rfl; omega)
  · exact read_10 t p w h s hs (by have : K.len 10 = 2 := rfl; omega)
def K.p_None (i : K.Ins) : List Int := []
theorem putNone_t : PutOK 137 K.p_None := putNone_ok
/-- The bytes behind the first one that format k writes. -/
def K.wr (k : Nat) (i : K.Ins) : List Int := match k with
  | 0 => K.p_None i
  | 1 => K.p_Reg i
  | 2 => K.p_Pair i
  | 3 => (([] ++ K.p_Reg i) ++ K.p_Byte i)
  | 4 => (([] ++ K.p_Reg i) ++ K.p_Full i)
  | 5 => (([] ++ K.p_Pair i) ++ K.p_Byte i)
  | 6 => ((([] ++ K.p_Pair i) ++ K.p_Index i) ++ K.p_Full i)
  | 7 => K.p_Byte i
  | 8 => K.p_Full i
  | 9 => K.p_Byte i
  | 10 => K.p_Pair i
  | _ => []
theorem K.enter_putByte (args : Array Value) (w : World) : (callFunc 145 args).run Tryz.prog w = .ok (.enter 145 args) w := by go_simp
theorem K.enter_putFull (args : Array Value) (w : World) : (callFunc 147 args).run Tryz.prog w = .ok (.enter 147 args) w := by go_simp
theorem K.enter_putNone (args : Array Value) (w : World) : (callFunc 137 args).run Tryz.prog w = .ok (.enter 137 args) w := by go_simp
theorem K.enter_putPair (args : Array Value) (w : World) : (callFunc 141 args).run Tryz.prog w = .ok (.enter 141 args) w := by go_simp
theorem K.enter_putReg (args : Array Value) (w : World) : (callFunc 139 args).run Tryz.prog w = .ok (.enter 139 args) w := by go_simp
theorem K.enter_puts_1 (args : Array Value) (w : World) : (callFunc 168 args).run Tryz.prog w = .ok (.enter 168 args) w := by go_simp
theorem put_0 (t p : Value) (w0 : World) (h : K.Fm 0 t p w0) (i : K.Ins) (hi : K.In i) : ∃ G ds, p = .func (.func G) #[] ds ∧ (∀ (args : Array Value) (w : World), (callFunc G args).run Tryz.prog w = .ok (.enter G args) w) ∧
    ∀ w, Bel w0 w → Calls Tryz.prog G (#[.agg #[.int .i64 i.op, .int .i64 i.d, .int .i64 i.s, .int .i64 i.ix, .int .i64 i.sc, .int .u32 i.imm, .int .i64 i.sz]] ++ ds) w fun e w' => e = .returned (.string (strOfNums (K.wr 0 i))) ∧ Bel w w' := by
  obtain ⟨rfl, rfl⟩ := h
  refine ⟨_, #[], rfl, K.enter_putNone, fun w hb => ?_⟩
  rw [Array.append_empty]
  exact putNone_t i w hi
theorem put_1 (t p : Value) (w0 : World) (h : K.Fm 1 t p w0) (i : K.Ins) (hi : K.In i) : ∃ G ds, p = .func (.func G) #[] ds ∧ (∀ (args : Array Value) (w : World), (callFunc G args).run Tryz.prog w = .ok (.enter G args) w) ∧
    ∀ w, Bel w0 w → Calls Tryz.prog G (#[.agg #[.int .i64 i.op, .int .i64 i.d, .int .i64 i.s, .int .i64 i.ix, .int .i64 i.sc, .int .u32 i.imm, .int .i64 i.sz]] ++ ds) w fun e w' => e = .returned (.string (strOfNums (K.wr 1 i))) ∧ Bel w w' := by
  obtain ⟨rfl, rfl⟩ := h
  refine ⟨_, #[], rfl, K.enter_putReg, fun w hb => ?_⟩
  rw [Array.append_empty]
  exact putReg_t i w hi
theorem put_2 (t p : Value) (w0 : World) (h : K.Fm 2 t p w0) (i : K.Ins) (hi : K.In i) : ∃ G ds, p = .func (.func G) #[] ds ∧ (∀ (args : Array Value) (w : World), (callFunc G args).run Tryz.prog w = .ok (.enter G args) w) ∧
    ∀ w, Bel w0 w → Calls Tryz.prog G (#[.agg #[.int .i64 i.op, .int .i64 i.d, .int .i64 i.s, .int .i64 i.ix, .int .i64 i.sc, .int .u32 i.imm, .int .i64 i.sz]] ++ ds) w fun e w' => e = .returned (.string (strOfNums (K.wr 2 i))) ∧ Bel w w' := by
  obtain ⟨rfl, rfl⟩ := h
  refine ⟨_, #[], rfl, K.enter_putPair, fun w hb => ?_⟩
  rw [Array.append_empty]
  exact putPair_t i w hi
theorem put_3 (t p : Value) (w0 : World) (h : K.Fm 3 t p w0) (i : K.Ins) (hi : K.In i) : ∃ G ds, p = .func (.func G) #[] ds ∧ (∀ (args : Array Value) (w : World), (callFunc G args).run Tryz.prog w = .ok (.enter G args) w) ∧
    ∀ w, Bel w0 w → Calls Tryz.prog G (#[.agg #[.int .i64 i.op, .int .i64 i.d, .int .i64 i.s, .int .i64 i.ix, .int .i64 i.sc, .int .u32 i.imm, .int .i64 i.sz]] ++ ds) w fun e w' => e = .returned (.string (strOfNums (K.wr 3 i))) ∧ Bel w w' := by
  obtain ⟨⟨c', b', cap', rfl, _, _⟩, ⟨c, b, cap, rfl, g1, g2⟩⟩ := h
  refine ⟨_, #[.pointer (some ⟨c, 0, none⟩)], rfl, K.enter_puts_1, fun w hb => ?_⟩
  have hq : ∀ j, j < 2 → w.cell? ⟨b, j, none⟩ = _ := fun j hj => Bel.at hb (g2 j hj)
  exact puts_Reg_Byte c b cap i w hi (Bel.at hb g1) (hq 0 (by decide)) (hq 1 (by decide))
theorem put_4 (t p : Value) (w0 : World) (h : K.Fm 4 t p w0) (i : K.Ins) (hi : K.In i) : ∃ G ds, p = .func (.func G) #[] ds ∧ (∀ (args : Array Value) (w : World), (callFunc G args).run Tryz.prog w = .ok (.enter G args) w) ∧
    ∀ w, Bel w0 w → Calls Tryz.prog G (#[.agg #[.int .i64 i.op, .int .i64 i.d, .int .i64 i.s, .int .i64 i.ix, .int .i64 i.sc, .int .u32 i.imm, .int .i64 i.sz]] ++ ds) w fun e w' => e = .returned (.string (strOfNums (K.wr 4 i))) ∧ Bel w w' := by
  obtain ⟨⟨c', b', cap', rfl, _, _⟩, ⟨c, b, cap, rfl, g1, g2⟩⟩ := h
  refine ⟨_, #[.pointer (some ⟨c, 0, none⟩)], rfl, K.enter_puts_1, fun w hb => ?_⟩
  have hq : ∀ j, j < 2 → w.cell? ⟨b, j, none⟩ = _ := fun j hj => Bel.at hb (g2 j hj)
  exact puts_Reg_Full c b cap i w hi (Bel.at hb g1) (hq 0 (by decide)) (hq 1 (by decide))
theorem put_5 (t p : Value) (w0 : World) (h : K.Fm 5 t p w0) (i : K.Ins) (hi : K.In i) : ∃ G ds, p = .func (.func G) #[] ds ∧ (∀ (args : Array Value) (w : World), (callFunc G args).run Tryz.prog w = .ok (.enter G args) w) ∧
    ∀ w, Bel w0 w → Calls Tryz.prog G (#[.agg #[.int .i64 i.op, .int .i64 i.d, .int .i64 i.s, .int .i64 i.ix, .int .i64 i.sc, .int .u32 i.imm, .int .i64 i.sz]] ++ ds) w fun e w' => e = .returned (.string (strOfNums (K.wr 5 i))) ∧ Bel w w' := by
  obtain ⟨⟨c', b', cap', rfl, _, _⟩, ⟨c, b, cap, rfl, g1, g2⟩⟩ := h
  refine ⟨_, #[.pointer (some ⟨c, 0, none⟩)], rfl, K.enter_puts_1, fun w hb => ?_⟩
  have hq : ∀ j, j < 2 → w.cell? ⟨b, j, none⟩ = _ := fun j hj => Bel.at hb (g2 j hj)
  exact puts_Pair_Byte c b cap i w hi (Bel.at hb g1) (hq 0 (by decide)) (hq 1 (by decide))
theorem put_6 (t p : Value) (w0 : World) (h : K.Fm 6 t p w0) (i : K.Ins) (hi : K.In i) : ∃ G ds, p = .func (.func G) #[] ds ∧ (∀ (args : Array Value) (w : World), (callFunc G args).run Tryz.prog w = .ok (.enter G args) w) ∧
    ∀ w, Bel w0 w → Calls Tryz.prog G (#[.agg #[.int .i64 i.op, .int .i64 i.d, .int .i64 i.s, .int .i64 i.ix, .int .i64 i.sc, .int .u32 i.imm, .int .i64 i.sz]] ++ ds) w fun e w' => e = .returned (.string (strOfNums (K.wr 6 i))) ∧ Bel w w' := by
  obtain ⟨⟨c', b', cap', rfl, _, _⟩, ⟨c, b, cap, rfl, g1, g2⟩⟩ := h
  refine ⟨_, #[.pointer (some ⟨c, 0, none⟩)], rfl, K.enter_puts_1, fun w hb => ?_⟩
  have hq : ∀ j, j < 3 → w.cell? ⟨b, j, none⟩ = _ := fun j hj => Bel.at hb (g2 j hj)
  exact puts_Pair_Index_Full c b cap i w hi (Bel.at hb g1) (hq 0 (by decide)) (hq 1 (by decide)) (hq 2 (by decide))
theorem put_7 (t p : Value) (w0 : World) (h : K.Fm 7 t p w0) (i : K.Ins) (hi : K.In i) : ∃ G ds, p = .func (.func G) #[] ds ∧ (∀ (args : Array Value) (w : World), (callFunc G args).run Tryz.prog w = .ok (.enter G args) w) ∧
    ∀ w, Bel w0 w → Calls Tryz.prog G (#[.agg #[.int .i64 i.op, .int .i64 i.d, .int .i64 i.s, .int .i64 i.ix, .int .i64 i.sc, .int .u32 i.imm, .int .i64 i.sz]] ++ ds) w fun e w' => e = .returned (.string (strOfNums (K.wr 7 i))) ∧ Bel w w' := by
  obtain ⟨rfl, rfl⟩ := h
  refine ⟨_, #[], rfl, K.enter_putByte, fun w hb => ?_⟩
  rw [Array.append_empty]
  exact putByte_t i w hi
theorem put_8 (t p : Value) (w0 : World) (h : K.Fm 8 t p w0) (i : K.Ins) (hi : K.In i) : ∃ G ds, p = .func (.func G) #[] ds ∧ (∀ (args : Array Value) (w : World), (callFunc G args).run Tryz.prog w = .ok (.enter G args) w) ∧
    ∀ w, Bel w0 w → Calls Tryz.prog G (#[.agg #[.int .i64 i.op, .int .i64 i.d, .int .i64 i.s, .int .i64 i.ix, .int .i64 i.sc, .int .u32 i.imm, .int .i64 i.sz]] ++ ds) w fun e w' => e = .returned (.string (strOfNums (K.wr 8 i))) ∧ Bel w w' := by
  obtain ⟨rfl, rfl⟩ := h
  refine ⟨_, #[], rfl, K.enter_putFull, fun w hb => ?_⟩
  rw [Array.append_empty]
  exact putFull_t i w hi
theorem put_9 (t p : Value) (w0 : World) (h : K.Fm 9 t p w0) (i : K.Ins) (hi : K.In i) : ∃ G ds, p = .func (.func G) #[] ds ∧ (∀ (args : Array Value) (w : World), (callFunc G args).run Tryz.prog w = .ok (.enter G args) w) ∧
    ∀ w, Bel w0 w → Calls Tryz.prog G (#[.agg #[.int .i64 i.op, .int .i64 i.d, .int .i64 i.s, .int .i64 i.ix, .int .i64 i.sc, .int .u32 i.imm, .int .i64 i.sz]] ++ ds) w fun e w' => e = .returned (.string (strOfNums (K.wr 9 i))) ∧ Bel w w' := by
  obtain ⟨rfl, rfl⟩ := h
  refine ⟨_, #[], rfl, K.enter_putByte, fun w hb => ?_⟩
  rw [Array.append_empty]
  exact putByte_t i w hi
theorem put_10 (t p : Value) (w0 : World) (h : K.Fm 10 t p w0) (i : K.Ins) (hi : K.In i) : ∃ G ds, p = .func (.func G) #[] ds ∧ (∀ (args : Array Value) (w : World), (callFunc G args).run Tryz.prog w = .ok (.enter G args) w) ∧
    ∀ w, Bel w0 w → Calls Tryz.prog G (#[.agg #[.int .i64 i.op, .int .i64 i.d, .int .i64 i.s, .int .i64 i.ix, .int .i64 i.sc, .int .u32 i.imm, .int .i64 i.sz]] ++ ds) w fun e w' => e = .returned (.string (strOfNums (K.wr 10 i))) ∧ Bel w w' := by
  obtain ⟨rfl, rfl⟩ := h
  refine ⟨_, #[], rfl, K.enter_putPair, fun w hb => ?_⟩
  rw [Array.append_empty]
  exact putPair_t i w hi
theorem put_any (k : Nat) (hk : k < 11) (t p : Value) (w0 : World) (h : K.Fm k t p w0) (i : K.Ins) (hi : K.In i) : ∃ G ds, p = .func (.func G) #[] ds ∧ (∀ (args : Array Value) (w : World), (callFunc G args).run Tryz.prog w = .ok (.enter G args) w) ∧
    ∀ w, Bel w0 w → Calls Tryz.prog G (#[.agg #[.int .i64 i.op, .int .i64 i.d, .int .i64 i.s, .int .i64 i.ix, .int .i64 i.sc, .int .u32 i.imm, .int .i64 i.sz]] ++ ds) w fun e w' => e = .returned (.string (strOfNums (K.wr k i))) ∧ Bel w w' := by
  rcases (by omega : k = 0 ∨ k = 1 ∨ k = 2 ∨ k = 3 ∨ k = 4 ∨ k = 5 ∨ k = 6 ∨ k = 7 ∨ k = 8 ∨ k = 9 ∨ k = 10) with rfl | rfl | rfl | rfl | rfl | rfl | rfl | rfl | rfl | rfl | rfl
  · exact put_0 t p w0 h i hi
  · exact put_1 t p w0 h i hi
  · exact put_2 t p w0 h i hi
  · exact put_3 t p w0 h i hi
  · exact put_4 t p w0 h i hi
  · exact put_5 t p w0 h i hi
  · exact put_6 t p w0 h i hi
  · exact put_7 t p w0 h i hi
  · exact put_8 t p w0 h i hi
  · exact put_9 t p w0 h i hi
  · exact put_10 t p w0 h i hi
theorem within1_any (n a b : Int) (g : Nat) (w : World) (h0 : w.cell? ⟨g, 0, none⟩ = some (.int .i64 a)) (h1 : w.cell? ⟨g, 1, none⟩ = some (.int .i64 b)) :
    Calls Tryz.prog 128 #[.int .i64 n, .slice (some ⟨g, 0, none⟩) 1 1] w fun e w' => e = .returned (.bool (K.inAny n [(a, b)])) ∧ Bel w w' :=
  within_any n g 0 1 [(a, b)] (by simp) w (fun j hj => by obtain rfl : j = 0 := by simpa using hj
                                                          exact h0) (fun j hj => by obtain rfl : j = 0 := by simpa using hj
                                                                                    exact h1)
def K.most (op : Int) : Int := if op = 129 then 3 else if op = 130 then 4 else 7
/-- The fields are in their ranges. -/
def K.rng (i : K.Ins) : Bool := K.inAny i.d [(0, 7)] && (K.inAny i.s [(0, K.most i.op)] && (K.inAny i.ix [(-1, 7)] && K.inAny i.sc [(0, 3)]))
set_option maxHeartbeats 4000000 in
theorem ranges_1_3 (i : K.Ins) (ho : (i.op == 129) = true) (h0 : K.inAny i.d [(0, 7)] = false) (w : World) :
    Calls Tryz.prog 130 #[.agg #[.int .i64 i.op, .int .i64 i.d, .int .i64 i.s, .int .i64 i.ix, .int .i64 i.sc, .int .u32 i.imm, .int .i64 i.sz]] w fun e w' => e = .returned (.bool false) ∧ Bel w w' := by
  go_enter Tryz.func130, Tryz.ntmps130
  go_wp2_with (first
    | (go_at_call 128; with_reducible refine (within1_any i.d 0 7 _ _ ?_ ?_).mono ?_; go_simp; go_simp; rintro e w2 ⟨rfl, hb2⟩; have hs2 := hb2.size; simp at hs2; have y2 := Bel.at hb2 (ad := ⟨w.heap.size, 2, none⟩) (v := .int .i64 i.s) (by first | assumption | (go_simp)); have y3 := Bel.at hb2 (ad := ⟨w.heap.size, 3, none⟩) (v := .int .i64 i.ix) (by first | assumption | (go_simp)); have y4 := Bel.at hb2 (ad := ⟨w.heap.size, 4, none⟩) (v := .int .i64 i.sc) (by first | assumption | (go_simp)); have hl2 : w.heap.size < w2.heap.size := by omega)
    | (go_at_call 128; with_reducible refine (within1_any i.s 0 3 _ _ ?_ ?_).mono ?_; go_simp; go_simp; rintro e w3 ⟨rfl, hb3⟩; have hs3 := hb3.size; simp at hs3; have z3 := Bel.at hb3 (ad := ⟨w.heap.size, 3, none⟩) (v := .int .i64 i.ix) (by first | assumption | (go_simp)); have z4 := Bel.at hb3 (ad := ⟨w.heap.size, 4, none⟩) (v := .int .i64 i.sc) (by first | assumption | (go_simp)); have hl3 : w.heap.size < w3.heap.size := by omega)
    | (go_at_call 128; with_reducible refine (within1_any i.ix (-1) 7 _ _ ?_ ?_).mono ?_; go_simp; go_simp; rintro e w4 ⟨rfl, hb4⟩; have hs4 := hb4.size; simp at hs4; have x4 := Bel.at hb4 (ad := ⟨w.heap.size, 4, none⟩) (v := .int .i64 i.sc) (by first | assumption | (go_simp)); have hl4 : w.heap.size < w4.heap.size := by omega)
    | (go_at_call 128; with_reducible refine (within1_any i.sc 0 3 _ _ ?_ ?_).mono ?_; go_simp; go_simp; rintro e w5 ⟨rfl, hb5⟩))
  go_ret
  exact ⟨rfl, Nz.bel⟩
set_option maxHeartbeats 4000000 in
theorem ranges_1_4 (i : K.Ins) (ho : (i.op == 129) = false) (ho2 : (i.op == 130) = true) (h0 : K.inAny i.d [(0, 7)] = false) (w : World) :
    Calls Tryz.prog 130 #[.agg #[.int .i64 i.op, .int .i64 i.d, .int .i64 i.s, .int .i64 i.ix, .int .i64 i.sc, .int .u32 i.imm, .int .i64 i.sz]] w fun e w' => e = .returned (.bool false) ∧ Bel w w' := by
  go_enter Tryz.func130, Tryz.ntmps130
  go_wp2_with (first
    | (go_at_call 128; with_reducible refine (within1_any i.d 0 7 _ _ ?_ ?_).mono ?_; go_simp; go_simp; rintro e w2 ⟨rfl, hb2⟩; have hs2 := hb2.size; simp at hs2; have y2 := Bel.at hb2 (ad := ⟨w.heap.size, 2, none⟩) (v := .int .i64 i.s) (by first | assumption | (go_simp)); have y3 := Bel.at hb2 (ad := ⟨w.heap.size, 3, none⟩) (v := .int .i64 i.ix) (by first | assumption | (go_simp)); have y4 := Bel.at hb2 (ad := ⟨w.heap.size, 4, none⟩) (v := .int .i64 i.sc) (by first | assumption | (go_simp)); have hl2 : w.heap.size < w2.heap.size := by omega)
    | (go_at_call 128; with_reducible refine (within1_any i.s 0 4 _ _ ?_ ?_).mono ?_; go_simp; go_simp; rintro e w3 ⟨rfl, hb3⟩; have hs3 := hb3.size; simp at hs3; have z3 := Bel.at hb3 (ad := ⟨w.heap.size, 3, none⟩) (v := .int .i64 i.ix) (by first | assumption | (go_simp)); have z4 := Bel.at hb3 (ad := ⟨w.heap.size, 4, none⟩) (v := .int .i64 i.sc) (by first | assumption | (go_simp)); have hl3 : w.heap.size < w3.heap.size := by omega)
    | (go_at_call 128; with_reducible refine (within1_any i.ix (-1) 7 _ _ ?_ ?_).mono ?_; go_simp; go_simp; rintro e w4 ⟨rfl, hb4⟩; have hs4 := hb4.size; simp at hs4; have x4 := Bel.at hb4 (ad := ⟨w.heap.size, 4, none⟩) (v := .int .i64 i.sc) (by first | assumption | (go_simp)); have hl4 : w.heap.size < w4.heap.size := by omega)
    | (go_at_call 128; with_reducible refine (within1_any i.sc 0 3 _ _ ?_ ?_).mono ?_; go_simp; go_simp; rintro e w5 ⟨rfl, hb5⟩))
  go_ret
  exact ⟨rfl, Nz.bel⟩
set_option maxHeartbeats 4000000 in
theorem ranges_1_7 (i : K.Ins) (ho : (i.op == 129) = false) (ho2 : (i.op == 130) = false) (h0 : K.inAny i.d [(0, 7)] = false) (w : World) :
    Calls Tryz.prog 130 #[.agg #[.int .i64 i.op, .int .i64 i.d, .int .i64 i.s, .int .i64 i.ix, .int .i64 i.sc, .int .u32 i.imm, .int .i64 i.sz]] w fun e w' => e = .returned (.bool false) ∧ Bel w w' := by
  go_enter Tryz.func130, Tryz.ntmps130
  go_wp2_with (first
    | (go_at_call 128; with_reducible refine (within1_any i.d 0 7 _ _ ?_ ?_).mono ?_; go_simp; go_simp; rintro e w2 ⟨rfl, hb2⟩; have hs2 := hb2.size; simp at hs2; have y2 := Bel.at hb2 (ad := ⟨w.heap.size, 2, none⟩) (v := .int .i64 i.s) (by first | assumption | (go_simp)); have y3 := Bel.at hb2 (ad := ⟨w.heap.size, 3, none⟩) (v := .int .i64 i.ix) (by first | assumption | (go_simp)); have y4 := Bel.at hb2 (ad := ⟨w.heap.size, 4, none⟩) (v := .int .i64 i.sc) (by first | assumption | (go_simp)); have hl2 : w.heap.size < w2.heap.size := by omega)
    | (go_at_call 128; with_reducible refine (within1_any i.s 0 7 _ _ ?_ ?_).mono ?_; go_simp; go_simp; rintro e w3 ⟨rfl, hb3⟩; have hs3 := hb3.size; simp at hs3; have z3 := Bel.at hb3 (ad := ⟨w.heap.size, 3, none⟩) (v := .int .i64 i.ix) (by first | assumption | (go_simp)); have z4 := Bel.at hb3 (ad := ⟨w.heap.size, 4, none⟩) (v := .int .i64 i.sc) (by first | assumption | (go_simp)); have hl3 : w.heap.size < w3.heap.size := by omega)
    | (go_at_call 128; with_reducible refine (within1_any i.ix (-1) 7 _ _ ?_ ?_).mono ?_; go_simp; go_simp; rintro e w4 ⟨rfl, hb4⟩; have hs4 := hb4.size; simp at hs4; have x4 := Bel.at hb4 (ad := ⟨w.heap.size, 4, none⟩) (v := .int .i64 i.sc) (by first | assumption | (go_simp)); have hl4 : w.heap.size < w4.heap.size := by omega)
    | (go_at_call 128; with_reducible refine (within1_any i.sc 0 3 _ _ ?_ ?_).mono ?_; go_simp; go_simp; rintro e w5 ⟨rfl, hb5⟩))
  go_ret
  exact ⟨rfl, Nz.bel⟩
set_option maxHeartbeats 4000000 in
theorem ranges_2_3 (i : K.Ins) (ho : (i.op == 129) = true) (h0 : K.inAny i.d [(0, 7)] = true) (h1 : K.inAny i.s [(0, 3)] = false) (w : World) :
    Calls Tryz.prog 130 #[.agg #[.int .i64 i.op, .int .i64 i.d, .int .i64 i.s, .int .i64 i.ix, .int .i64 i.sc, .int .u32 i.imm, .int .i64 i.sz]] w fun e w' => e = .returned (.bool false) ∧ Bel w w' := by
  go_enter Tryz.func130, Tryz.ntmps130
  go_wp2_with (first
    | (go_at_call 128; with_reducible refine (within1_any i.d 0 7 _ _ ?_ ?_).mono ?_; go_simp; go_simp; rintro e w2 ⟨rfl, hb2⟩; have hs2 := hb2.size; simp at hs2; have y2 := Bel.at hb2 (ad := ⟨w.heap.size, 2, none⟩) (v := .int .i64 i.s) (by first | assumption | (go_simp)); have y3 := Bel.at hb2 (ad := ⟨w.heap.size, 3, none⟩) (v := .int .i64 i.ix) (by first | assumption | (go_simp)); have y4 := Bel.at hb2 (ad := ⟨w.heap.size, 4, none⟩) (v := .int .i64 i.sc) (by first | assumption | (go_simp)); have hl2 : w.heap.size < w2.heap.size := by omega)
    | (go_at_call 128; with_reducible refine (within1_any i.s 0 3 _ _ ?_ ?_).mono ?_; go_simp; go_simp; rintro e w3 ⟨rfl, hb3⟩; have hs3 := hb3.size; simp at hs3; have z3 := Bel.at hb3 (ad := ⟨w.heap.size, 3, none⟩) (v := .int .i64 i.ix) (by first | assumption | (go_simp)); have z4 := Bel.at hb3 (ad := ⟨w.heap.size, 4, none⟩) (v := .int .i64 i.sc) (by first | assumption | (go_simp)); have hl3 : w.heap.size < w3.heap.size := by omega)
    | (go_at_call 128; with_reducible refine (within1_any i.ix (-1) 7 _ _ ?_ ?_).mono ?_; go_simp; go_simp; rintro e w4 ⟨rfl, hb4⟩; have hs4 := hb4.size; simp at hs4; have x4 := Bel.at hb4 (ad := ⟨w.heap.size, 4, none⟩) (v := .int .i64 i.sc) (by first | assumption | (go_simp)); have hl4 : w.heap.size < w4.heap.size := by omega)
    | (go_at_call 128; with_reducible refine (within1_any i.sc 0 3 _ _ ?_ ?_).mono ?_; go_simp; go_simp; rintro e w5 ⟨rfl, hb5⟩))
  go_ret
  exact ⟨rfl, Nz.bel⟩
set_option maxHeartbeats 4000000 in
theorem ranges_2_4 (i : K.Ins) (ho : (i.op == 129) = false) (ho2 : (i.op == 130) = true) (h0 : K.inAny i.d [(0, 7)] = true) (h1 : K.inAny i.s [(0, 4)] = false) (w : World) :
    Calls Tryz.prog 130 #[.agg #[.int .i64 i.op, .int .i64 i.d, .int .i64 i.s, .int .i64 i.ix, .int .i64 i.sc, .int .u32 i.imm, .int .i64 i.sz]] w fun e w' => e = .returned (.bool false) ∧ Bel w w' := by
  go_enter Tryz.func130, Tryz.ntmps130
  go_wp2_with (first
    | (go_at_call 128; with_reducible refine (within1_any i.d 0 7 _ _ ?_ ?_).mono ?_; go_simp; go_simp; rintro e w2 ⟨rfl, hb2⟩; have hs2 := hb2.size; simp at hs2; have y2 := Bel.at hb2 (ad := ⟨w.heap.size, 2, none⟩) (v := .int .i64 i.s) (by first | assumption | (go_simp)); have y3 := Bel.at hb2 (ad := ⟨w.heap.size, 3, none⟩) (v := .int .i64 i.ix) (by first | assumption | (go_simp)); have y4 := Bel.at hb2 (ad := ⟨w.heap.size, 4, none⟩) (v := .int .i64 i.sc) (by first | assumption | (go_simp)); have hl2 : w.heap.size < w2.heap.size := by omega)
    | (go_at_call 128; with_reducible refine (within1_any i.s 0 4 _ _ ?_ ?_).mono ?_; go_simp; go_simp; rintro e w3 ⟨rfl, hb3⟩; have hs3 := hb3.size; simp at hs3; have z3 := Bel.at hb3 (ad := ⟨w.heap.size, 3, none⟩) (v := .int .i64 i.ix) (by first | assumption | (go_simp)); have z4 := Bel.at hb3 (ad := ⟨w.heap.size, 4, none⟩) (v := .int .i64 i.sc) (by first | assumption | (go_simp)); have hl3 : w.heap.size < w3.heap.size := by omega)
    | (go_at_call 128; with_reducible refine (within1_any i.ix (-1) 7 _ _ ?_ ?_).mono ?_; go_simp; go_simp; rintro e w4 ⟨rfl, hb4⟩; have hs4 := hb4.size; simp at hs4; have x4 := Bel.at hb4 (ad := ⟨w.heap.size, 4, none⟩) (v := .int .i64 i.sc) (by first | assumption | (go_simp)); have hl4 : w.heap.size < w4.heap.size := by omega)
    | (go_at_call 128; with_reducible refine (within1_any i.sc 0 3 _ _ ?_ ?_).mono ?_; go_simp; go_simp; rintro e w5 ⟨rfl, hb5⟩))
  go_ret
  exact ⟨rfl, Nz.bel⟩
set_option maxHeartbeats 4000000 in
theorem ranges_2_7 (i : K.Ins) (ho : (i.op == 129) = false) (ho2 : (i.op == 130) = false) (h0 : K.inAny i.d [(0, 7)] = true) (h1 : K.inAny i.s [(0, 7)] = false) (w : World) :
    Calls Tryz.prog 130 #[.agg #[.int .i64 i.op, .int .i64 i.d, .int .i64 i.s, .int .i64 i.ix, .int .i64 i.sc, .int .u32 i.imm, .int .i64 i.sz]] w fun e w' => e = .returned (.bool false) ∧ Bel w w' := by
  go_enter Tryz.func130, Tryz.ntmps130
  go_wp2_with (first
    | (go_at_call 128; with_reducible refine (within1_any i.d 0 7 _ _ ?_ ?_).mono ?_; go_simp; go_simp; rintro e w2 ⟨rfl, hb2⟩; have hs2 := hb2.size; simp at hs2; have y2 := Bel.at hb2 (ad := ⟨w.heap.size, 2, none⟩) (v := .int .i64 i.s) (by first | assumption | (go_simp)); have y3 := Bel.at hb2 (ad := ⟨w.heap.size, 3, none⟩) (v := .int .i64 i.ix) (by first | assumption | (go_simp)); have y4 := Bel.at hb2 (ad := ⟨w.heap.size, 4, none⟩) (v := .int .i64 i.sc) (by first | assumption | (go_simp)); have hl2 : w.heap.size < w2.heap.size := by omega)
    | (go_at_call 128; with_reducible refine (within1_any i.s 0 7 _ _ ?_ ?_).mono ?_; go_simp; go_simp; rintro e w3 ⟨rfl, hb3⟩; have hs3 := hb3.size; simp at hs3; have z3 := Bel.at hb3 (ad := ⟨w.heap.size, 3, none⟩) (v := .int .i64 i.ix) (by first | assumption | (go_simp)); have z4 := Bel.at hb3 (ad := ⟨w.heap.size, 4, none⟩) (v := .int .i64 i.sc) (by first | assumption | (go_simp)); have hl3 : w.heap.size < w3.heap.size := by omega)
    | (go_at_call 128; with_reducible refine (within1_any i.ix (-1) 7 _ _ ?_ ?_).mono ?_; go_simp; go_simp; rintro e w4 ⟨rfl, hb4⟩; have hs4 := hb4.size; simp at hs4; have x4 := Bel.at hb4 (ad := ⟨w.heap.size, 4, none⟩) (v := .int .i64 i.sc) (by first | assumption | (go_simp)); have hl4 : w.heap.size < w4.heap.size := by omega)
    | (go_at_call 128; with_reducible refine (within1_any i.sc 0 3 _ _ ?_ ?_).mono ?_; go_simp; go_simp; rintro e w5 ⟨rfl, hb5⟩))
  go_ret
  exact ⟨rfl, Nz.bel⟩
set_option maxHeartbeats 4000000 in
theorem ranges_3_3 (i : K.Ins) (ho : (i.op == 129) = true) (h0 : K.inAny i.d [(0, 7)] = true) (h1 : K.inAny i.s [(0, 3)] = true) (h2 : K.inAny i.ix [(-1, 7)] = false) (w : World) :
    Calls Tryz.prog 130 #[.agg #[.int .i64 i.op, .int .i64 i.d, .int .i64 i.s, .int .i64 i.ix, .int .i64 i.sc, .int .u32 i.imm, .int .i64 i.sz]] w fun e w' => e = .returned (.bool false) ∧ Bel w w' := by
  go_enter Tryz.func130, Tryz.ntmps130
  go_wp2_with (first
    | (go_at_call 128; with_reducible refine (within1_any i.d 0 7 _ _ ?_ ?_).mono ?_; go_simp; go_simp; rintro e w2 ⟨rfl, hb2⟩; have hs2 := hb2.size; simp at hs2; have y2 := Bel.at hb2 (ad := ⟨w.heap.size, 2, none⟩) (v := .int .i64 i.s) (by first | assumption | (go_simp)); have y3 := Bel.at hb2 (ad := ⟨w.heap.size, 3, none⟩) (v := .int .i64 i.ix) (by first | assumption | (go_simp)); have y4 := Bel.at hb2 (ad := ⟨w.heap.size, 4, none⟩) (v := .int .i64 i.sc) (by first | assumption | (go_simp)); have hl2 : w.heap.size < w2.heap.size := by omega)
    | (go_at_call 128; with_reducible refine (within1_any i.s 0 3 _ _ ?_ ?_).mono ?_; go_simp; go_simp; rintro e w3 ⟨rfl, hb3⟩; have hs3 := hb3.size; simp at hs3; have z3 := Bel.at hb3 (ad := ⟨w.heap.size, 3, none⟩) (v := .int .i64 i.ix) (by first | assumption | (go_simp)); have z4 := Bel.at hb3 (ad := ⟨w.heap.size, 4, none⟩) (v := .int .i64 i.sc) (by first | assumption | (go_simp)); have hl3 : w.heap.size < w3.heap.size := by omega)
    | (go_at_call 128; with_reducible refine (within1_any i.ix (-1) 7 _ _ ?_ ?_).mono ?_; go_simp; go_simp; rintro e w4 ⟨rfl, hb4⟩; have hs4 := hb4.size; simp at hs4; have x4 := Bel.at hb4 (ad := ⟨w.heap.size, 4, none⟩) (v := .int .i64 i.sc) (by first | assumption | (go_simp)); have hl4 : w.heap.size < w4.heap.size := by omega)
    | (go_at_call 128; with_reducible refine (within1_any i.sc 0 3 _ _ ?_ ?_).mono ?_; go_simp; go_simp; rintro e w5 ⟨rfl, hb5⟩))
  go_ret
  exact ⟨rfl, Nz.bel⟩
set_option maxHeartbeats 4000000 in
theorem ranges_3_4 (i : K.Ins) (ho : (i.op == 129) = false) (ho2 : (i.op == 130) = true) (h0 : K.inAny i.d [(0, 7)] = true) (h1 : K.inAny i.s [(0, 4)] = true) (h2 : K.inAny i.ix [(-1, 7)] = false) (w : World) :
    Calls Tryz.prog 130 #[.agg #[.int .i64 i.op, .int .i64 i.d, .int .i64 i.s, .int .i64 i.ix, .int .i64 i.sc, .int .u32 i.imm, .int .i64 i.sz]] w fun e w' => e = .returned (.bool false) ∧ Bel w w' := by
  go_enter Tryz.func130, Tryz.ntmps130
  go_wp2_with (first
    | (go_at_call 128; with_reducible refine (within1_any i.d 0 7 _ _ ?_ ?_).mono ?_; go_simp; go_simp; rintro e w2 ⟨rfl, hb2⟩; have hs2 := hb2.size; simp at hs2; have y2 := Bel.at hb2 (ad := ⟨w.heap.size, 2, none⟩) (v := .int .i64 i.s) (by first | assumption | (go_simp)); have y3 := Bel.at hb2 (ad := ⟨w.heap.size, 3, none⟩) (v := .int .i64 i.ix) (by first | assumption | (go_simp)); have y4 := Bel.at hb2 (ad := ⟨w.heap.size, 4, none⟩) (v := .int .i64 i.sc) (by first | assumption | (go_simp)); have hl2 : w.heap.size < w2.heap.size := by omega)
    | (go_at_call 128; with_reducible refine (within1_any i.s 0 4 _ _ ?_ ?_).mono ?_; go_simp; go_simp; rintro e w3 ⟨rfl, hb3⟩; have hs3 := hb3.size; simp at hs3; have z3 := Bel.at hb3 (ad := ⟨w.heap.size, 3, none⟩) (v := .int .i64 i.ix) (by first | assumption | (go_simp)); have z4 := Bel.at hb3 (ad := ⟨w.heap.size, 4, none⟩) (v := .int .i64 i.sc) (by first | assumption | (go_simp)); have hl3 : w.heap.size < w3.heap.size := by omega)
    | (go_at_call 128; with_reducible refine (within1_any i.ix (-1) 7 _ _ ?_ ?_).mono ?_; go_simp; go_simp; rintro e w4 ⟨rfl, hb4⟩; have hs4 := hb4.size; simp at hs4; have x4 := Bel.at hb4 (ad := ⟨w.heap.size, 4, none⟩) (v := .int .i64 i.sc) (by first | assumption | (go_simp)); have hl4 : w.heap.size < w4.heap.size := by omega)
    | (go_at_call 128; with_reducible refine (within1_any i.sc 0 3 _ _ ?_ ?_).mono ?_; go_simp; go_simp; rintro e w5 ⟨rfl, hb5⟩))
  go_ret
  exact ⟨rfl, Nz.bel⟩
set_option maxHeartbeats 4000000 in
theorem ranges_3_7 (i : K.Ins) (ho : (i.op == 129) = false) (ho2 : (i.op == 130) = false) (h0 : K.inAny i.d [(0, 7)] = true) (h1 : K.inAny i.s [(0, 7)] = true) (h2 : K.inAny i.ix [(-1, 7)] = false) (w : World) :
    Calls Tryz.prog 130 #[.agg #[.int .i64 i.op, .int .i64 i.d, .int .i64 i.s, .int .i64 i.ix, .int .i64 i.sc, .int .u32 i.imm, .int .i64 i.sz]] w fun e w' => e = .returned (.bool false) ∧ Bel w w' := by
  go_enter Tryz.func130, Tryz.ntmps130
  go_wp2_with (first
    | (go_at_call 128; with_reducible refine (within1_any i.d 0 7 _ _ ?_ ?_).mono ?_; go_simp; go_simp; rintro e w2 ⟨rfl, hb2⟩; have hs2 := hb2.size; simp at hs2; have y2 := Bel.at hb2 (ad := ⟨w.heap.size, 2, none⟩) (v := .int .i64 i.s) (by first | assumption | (go_simp)); have y3 := Bel.at hb2 (ad := ⟨w.heap.size, 3, none⟩) (v := .int .i64 i.ix) (by first | assumption | (go_simp)); have y4 := Bel.at hb2 (ad := ⟨w.heap.size, 4, none⟩) (v := .int .i64 i.sc) (by first | assumption | (go_simp)); have hl2 : w.heap.size < w2.heap.size := by omega)
    | (go_at_call 128; with_reducible refine (within1_any i.s 0 7 _ _ ?_ ?_).mono ?_; go_simp; go_simp; rintro e w3 ⟨rfl, hb3⟩; have hs3 := hb3.size; simp at hs3; have z3 := Bel.at hb3 (ad := ⟨w.heap.size, 3, none⟩) (v := .int .i64 i.ix) (by first | assumption | (go_simp)); have z4 := Bel.at hb3 (ad := ⟨w.heap.size, 4, none⟩) (v := .int .i64 i.sc) (by first | assumption | (go_simp)); have hl3 : w.heap.size < w3.heap.size := by omega)
    | (go_at_call 128; with_reducible refine (within1_any i.ix (-1) 7 _ _ ?_ ?_).mono ?_; go_simp; go_simp; rintro e w4 ⟨rfl, hb4⟩; have hs4 := hb4.size; simp at hs4; have x4 := Bel.at hb4 (ad := ⟨w.heap.size, 4, none⟩) (v := .int .i64 i.sc) (by first | assumption | (go_simp)); have hl4 : w.heap.size < w4.heap.size := by omega)
    | (go_at_call 128; with_reducible refine (within1_any i.sc 0 3 _ _ ?_ ?_).mono ?_; go_simp; go_simp; rintro e w5 ⟨rfl, hb5⟩))
  go_ret
  exact ⟨rfl, Nz.bel⟩
set_option maxHeartbeats 4000000 in
theorem ranges_4_3 (i : K.Ins) (ho : (i.op == 129) = true) (h0 : K.inAny i.d [(0, 7)] = true) (h1 : K.inAny i.s [(0, 3)] = true) (h2 : K.inAny i.ix [(-1, 7)] = true) (h3 : K.inAny i.sc [(0, 3)] = false) (w : World) :
    Calls Tryz.prog 130 #[.agg #[.int .i64 i.op, .int .i64 i.d, .int .i64 i.s, .int .i64 i.ix, .int .i64 i.sc, .int .u32 i.imm, .int .i64 i.sz]] w fun e w' => e = .returned (.bool false) ∧ Bel w w' := by
  go_enter Tryz.func130, Tryz.ntmps130
  go_wp2_with (first
    | (go_at_call 128; with_reducible refine (within1_any i.d 0 7 _ _ ?_ ?_).mono ?_; go_simp; go_simp; rintro e w2 ⟨rfl, hb2⟩; have hs2 := hb2.size; simp at hs2; have y2 := Bel.at hb2 (ad := ⟨w.heap.size, 2, none⟩) (v := .int .i64 i.s) (by first | assumption | (go_simp)); have y3 := Bel.at hb2 (ad := ⟨w.heap.size, 3, none⟩) (v := .int .i64 i.ix) (by first | assumption | (go_simp)); have y4 := Bel.at hb2 (ad := ⟨w.heap.size, 4, none⟩) (v := .int .i64 i.sc) (by first | assumption | (go_simp)); have hl2 : w.heap.size < w2.heap.size := by omega)
    | (go_at_call 128; with_reducible refine (within1_any i.s 0 3 _ _ ?_ ?_).mono ?_; go_simp; go_simp; rintro e w3 ⟨rfl, hb3⟩; have hs3 := hb3.size; simp at hs3; have z3 := Bel.at hb3 (ad := ⟨w.heap.size, 3, none⟩) (v := .int .i64 i.ix) (by first | assumption | (go_simp)); have z4 := Bel.at hb3 (ad := ⟨w.heap.size, 4, none⟩) (v := .int .i64 i.sc) (by first | assumption | (go_simp)); have hl3 : w.heap.size < w3.heap.size := by omega)
    | (go_at_call 128; with_reducible refine (within1_any i.ix (-1) 7 _ _ ?_ ?_).mono ?_; go_simp; go_simp; rintro e w4 ⟨rfl, hb4⟩; have hs4 := hb4.size; simp at hs4; have x4 := Bel.at hb4 (ad := ⟨w.heap.size, 4, none⟩) (v := .int .i64 i.sc) (by first | assumption | (go_simp)); have hl4 : w.heap.size < w4.heap.size := by omega)
    | (go_at_call 128; with_reducible refine (within1_any i.sc 0 3 _ _ ?_ ?_).mono ?_; go_simp; go_simp; rintro e w5 ⟨rfl, hb5⟩))
  go_ret
  exact ⟨rfl, Nz.bel⟩
set_option maxHeartbeats 4000000 in
theorem ranges_4_4 (i : K.Ins) (ho : (i.op == 129) = false) (ho2 : (i.op == 130) = true) (h0 : K.inAny i.d [(0, 7)] = true) (h1 : K.inAny i.s [(0, 4)] = true) (h2 : K.inAny i.ix [(-1, 7)] = true) (h3 : K.inAny i.sc [(0, 3)] = false) (w : World) :
    Calls Tryz.prog 130 #[.agg #[.int .i64 i.op, .int .i64 i.d, .int .i64 i.s, .int .i64 i.ix, .int .i64 i.sc, .int .u32 i.imm, .int .i64 i.sz]] w fun e w' => e = .returned (.bool false) ∧ Bel w w' := by
  go_enter Tryz.func130, Tryz.ntmps130
  go_wp2_with (first
    | (go_at_call 128; with_reducible refine (within1_any i.d 0 7 _ _ ?_ ?_).mono ?_; go_simp; go_simp; rintro e w2 ⟨rfl, hb2⟩; have hs2 := hb2.size; simp at hs2; have y2 := Bel.at hb2 (ad := ⟨w.heap.size, 2, none⟩) (v := .int .i64 i.s) (by first | assumption | (go_simp)); have y3 := Bel.at hb2 (ad := ⟨w.heap.size, 3, none⟩) (v := .int .i64 i.ix) (by first | assumption | (go_simp)); have y4 := Bel.at hb2 (ad := ⟨w.heap.size, 4, none⟩) (v := .int .i64 i.sc) (by first | assumption | (go_simp)); have hl2 : w.heap.size < w2.heap.size := by omega)
    | (go_at_call 128; with_reducible refine (within1_any i.s 0 4 _ _ ?_ ?_).mono ?_; go_simp; go_simp; rintro e w3 ⟨rfl, hb3⟩; have hs3 := hb3.size; simp at hs3; have z3 := Bel.at hb3 (ad := ⟨w.heap.size, 3, none⟩) (v := .int .i64 i.ix) (by first | assumption | (go_simp)); have z4 := Bel.at hb3 (ad := ⟨w.heap.size, 4, none⟩) (v := .int .i64 i.sc) (by first | assumption | (go_simp)); have hl3 : w.heap.size < w3.heap.size := by omega)
    | (go_at_call 128; with_reducible refine (within1_any i.ix (-1) 7 _ _ ?_ ?_).mono ?_; go_simp; go_simp; rintro e w4 ⟨rfl, hb4⟩; have hs4 := hb4.size; simp at hs4; have x4 := Bel.at hb4 (ad := ⟨w.heap.size, 4, none⟩) (v := .int .i64 i.sc) (by first | assumption | (go_simp)); have hl4 : w.heap.size < w4.heap.size := by omega)
    | (go_at_call 128; with_reducible refine (within1_any i.sc 0 3 _ _ ?_ ?_).mono ?_; go_simp; go_simp; rintro e w5 ⟨rfl, hb5⟩))
  go_ret
  exact ⟨rfl, Nz.bel⟩
set_option maxHeartbeats 4000000 in
theorem ranges_4_7 (i : K.Ins) (ho : (i.op == 129) = false) (ho2 : (i.op == 130) = false) (h0 : K.inAny i.d [(0, 7)] = true) (h1 : K.inAny i.s [(0, 7)] = true) (h2 : K.inAny i.ix [(-1, 7)] = true) (h3 : K.inAny i.sc [(0, 3)] = false) (w : World) :
    Calls Tryz.prog 130 #[.agg #[.int .i64 i.op, .int .i64 i.d, .int .i64 i.s, .int .i64 i.ix, .int .i64 i.sc, .int .u32 i.imm, .int .i64 i.sz]] w fun e w' => e = .returned (.bool false) ∧ Bel w w' := by
  go_enter Tryz.func130, Tryz.ntmps130
  go_wp2_with (first
    | (go_at_call 128; with_reducible refine (within1_any i.d 0 7 _ _ ?_ ?_).mono ?_; go_simp; go_simp; rintro e w2 ⟨rfl, hb2⟩; have hs2 := hb2.size; simp at hs2; have y2 := Bel.at hb2 (ad := ⟨w.heap.size, 2, none⟩) (v := .int .i64 i.s) (by first | assumption | (go_simp)); have y3 := Bel.at hb2 (ad := ⟨w.heap.size, 3, none⟩) (v := .int .i64 i.ix) (by first | assumption | (go_simp)); have y4 := Bel.at hb2 (ad := ⟨w.heap.size, 4, none⟩) (v := .int .i64 i.sc) (by first | assumption | (go_simp)); have hl2 : w.heap.size < w2.heap.size := by omega)
    | (go_at_call 128; with_reducible refine (within1_any i.s 0 7 _ _ ?_ ?_).mono ?_; go_simp; go_simp; rintro e w3 ⟨rfl, hb3⟩; have hs3 := hb3.size; simp at hs3; have z3 := Bel.at hb3 (ad := ⟨w.heap.size, 3, none⟩) (v := .int .i64 i.ix) (by first | assumption | (go_simp)); have z4 := Bel.at hb3 (ad := ⟨w.heap.size, 4, none⟩) (v := .int .i64 i.sc) (by first | assumption | (go_simp)); have hl3 : w.heap.size < w3.heap.size := by omega)
    | (go_at_call 128; with_reducible refine (within1_any i.ix (-1) 7 _ _ ?_ ?_).mono ?_; go_simp; go_simp; rintro e w4 ⟨rfl, hb4⟩; have hs4 := hb4.size; simp at hs4; have x4 := Bel.at hb4 (ad := ⟨w.heap.size, 4, none⟩) (v := .int .i64 i.sc) (by first | assumption | (go_simp)); have hl4 : w.heap.size < w4.heap.size := by omega)
    | (go_at_call 128; with_reducible refine (within1_any i.sc 0 3 _ _ ?_ ?_).mono ?_; go_simp; go_simp; rintro e w5 ⟨rfl, hb5⟩))
  go_ret
  exact ⟨rfl, Nz.bel⟩
set_option maxHeartbeats 4000000 in
theorem ranges_5_3 (i : K.Ins) (ho : (i.op == 129) = true) (h0 : K.inAny i.d [(0, 7)] = true) (h1 : K.inAny i.s [(0, 3)] = true) (h2 : K.inAny i.ix [(-1, 7)] = true) (h3 : K.inAny i.sc [(0, 3)] = true) (w : World) :
    Calls Tryz.prog 130 #[.agg #[.int .i64 i.op, .int .i64 i.d, .int .i64 i.s, .int .i64 i.ix, .int .i64 i.sc, .int .u32 i.imm, .int .i64 i.sz]] w fun e w' => e = .returned (.bool true) ∧ Bel w w' := by
  go_enter Tryz.func130, Tryz.ntmps130
  go_wp2_with (first
    | (go_at_call 128; with_reducible refine (within1_any i.d 0 7 _ _ ?_ ?_).mono ?_; go_simp; go_simp; rintro e w2 ⟨rfl, hb2⟩; have hs2 := hb2.size; simp at hs2; have y2 := Bel.at hb2 (ad := ⟨w.heap.size, 2, none⟩) (v := .int .i64 i.s) (by first | assumption | (go_simp)); have y3 := Bel.at hb2 (ad := ⟨w.heap.size, 3, none⟩) (v := .int .i64 i.ix) (by first | assumption | (go_simp)); have y4 := Bel.at hb2 (ad := ⟨w.heap.size, 4, none⟩) (v := .int .i64 i.sc) (by first | assumption | (go_simp)); have hl2 : w.heap.size < w2.heap.size := by omega)
    | (go_at_call 128; with_reducible refine (within1_any i.s 0 3 _ _ ?_ ?_).mono ?_; go_simp; go_simp; rintro e w3 ⟨rfl, hb3⟩; have hs3 := hb3.size; simp at hs3; have z3 := Bel.at hb3 (ad := ⟨w.heap.size, 3, none⟩) (v := .int .i64 i.ix) (by first | assumption | (go_simp)); have z4 := Bel.at hb3 (ad := ⟨w.heap.size, 4, none⟩) (v := .int .i64 i.sc) (by first | assumption | (go_simp)); have hl3 : w.heap.size < w3.heap.size := by omega)
    | (go_at_call 128; with_reducible refine (within1_any i.ix (-1) 7 _ _ ?_ ?_).mono ?_; go_simp; go_simp; rintro e w4 ⟨rfl, hb4⟩; have hs4 := hb4.size; simp at hs4; have x4 := Bel.at hb4 (ad := ⟨w.heap.size, 4, none⟩) (v := .int .i64 i.sc) (by first | assumption | (go_simp)); have hl4 : w.heap.size < w4.heap.size := by omega)
    | (go_at_call 128; with_reducible refine (within1_any i.sc 0 3 _ _ ?_ ?_).mono ?_; go_simp; go_simp; rintro e w5 ⟨rfl, hb5⟩))
  go_ret
  exact ⟨rfl, Nz.bel⟩
set_option maxHeartbeats 4000000 in
theorem ranges_5_4 (i : K.Ins) (ho : (i.op == 129) = false) (ho2 : (i.op == 130) = true) (h0 : K.inAny i.d [(0, 7)] = true) (h1 : K.inAny i.s [(0, 4)] = true) (h2 : K.inAny i.ix [(-1, 7)] = true) (h3 : K.inAny i.sc [(0, 3)] = true) (w : World) :
    Calls Tryz.prog 130 #[.agg #[.int .i64 i.op, .int .i64 i.d, .int .i64 i.s, .int .i64 i.ix, .int .i64 i.sc, .int .u32 i.imm, .int .i64 i.sz]] w fun e w' => e = .returned (.bool true) ∧ Bel w w' := by
  go_enter Tryz.func130, Tryz.ntmps130
  go_wp2_with (first
    | (go_at_call 128; with_reducible refine (within1_any i.d 0 7 _ _ ?_ ?_).mono ?_; go_simp; go_simp; rintro e w2 ⟨rfl, hb2⟩; have hs2 := hb2.size; simp at hs2; have y2 := Bel.at hb2 (ad := ⟨w.heap.size, 2, none⟩) (v := .int .i64 i.s) (by first | assumption | (go_simp)); have y3 := Bel.at hb2 (ad := ⟨w.heap.size, 3, none⟩) (v := .int .i64 i.ix) (by first | assumption | (go_simp)); have y4 := Bel.at hb2 (ad := ⟨w.heap.size, 4, none⟩) (v := .int .i64 i.sc) (by first | assumption | (go_simp)); have hl2 : w.heap.size < w2.heap.size := by omega)
    | (go_at_call 128; with_reducible refine (within1_any i.s 0 4 _ _ ?_ ?_).mono ?_; go_simp; go_simp; rintro e w3 ⟨rfl, hb3⟩; have hs3 := hb3.size; simp at hs3; have z3 := Bel.at hb3 (ad := ⟨w.heap.size, 3, none⟩) (v := .int .i64 i.ix) (by first | assumption | (go_simp)); have z4 := Bel.at hb3 (ad := ⟨w.heap.size, 4, none⟩) (v := .int .i64 i.sc) (by first | assumption | (go_simp)); have hl3 : w.heap.size < w3.heap.size := by omega)
    | (go_at_call 128; with_reducible refine (within1_any i.ix (-1) 7 _ _ ?_ ?_).mono ?_; go_simp; go_simp; rintro e w4 ⟨rfl, hb4⟩; have hs4 := hb4.size; simp at hs4; have x4 := Bel.at hb4 (ad := ⟨w.heap.size, 4, none⟩) (v := .int .i64 i.sc) (by first | assumption | (go_simp)); have hl4 : w.heap.size < w4.heap.size := by omega)
    | (go_at_call 128; with_reducible refine (within1_any i.sc 0 3 _ _ ?_ ?_).mono ?_; go_simp; go_simp; rintro e w5 ⟨rfl, hb5⟩))
  go_ret
  exact ⟨rfl, Nz.bel⟩
set_option maxHeartbeats 4000000 in
theorem ranges_5_7 (i : K.Ins) (ho : (i.op == 129) = false) (ho2 : (i.op == 130) = false) (h0 : K.inAny i.d [(0, 7)] = true) (h1 : K.inAny i.s [(0, 7)] = true) (h2 : K.inAny i.ix [(-1, 7)] = true) (h3 : K.inAny i.sc [(0, 3)] = true) (w : World) :
    Calls Tryz.prog 130 #[.agg #[.int .i64 i.op, .int .i64 i.d, .int .i64 i.s, .int .i64 i.ix, .int .i64 i.sc, .int .u32 i.imm, .int .i64 i.sz]] w fun e w' => e = .returned (.bool true) ∧ Bel w w' := by
  go_enter Tryz.func130, Tryz.ntmps130
  go_wp2_with (first
    | (go_at_call 128; with_reducible refine (within1_any i.d 0 7 _ _ ?_ ?_).mono ?_; go_simp; go_simp; rintro e w2 ⟨rfl, hb2⟩; have hs2 := hb2.size; simp at hs2; have y2 := Bel.at hb2 (ad := ⟨w.heap.size, 2, none⟩) (v := .int .i64 i.s) (by first | assumption | (go_simp)); have y3 := Bel.at hb2 (ad := ⟨w.heap.size, 3, none⟩) (v := .int .i64 i.ix) (by first | assumption | (go_simp)); have y4 := Bel.at hb2 (ad := ⟨w.heap.size, 4, none⟩) (v := .int .i64 i.sc) (by first | assumption | (go_simp)); have hl2 : w.heap.size < w2.heap.size := by omega)
    | (go_at_call 128; with_reducible refine (within1_any i.s 0 7 _ _ ?_ ?_).mono ?_; go_simp; go_simp; rintro e w3 ⟨rfl, hb3⟩; have hs3 := hb3.size; simp at hs3; have z3 := Bel.at hb3 (ad := ⟨w.heap.size, 3, none⟩) (v := .int .i64 i.ix) (by first | assumption | (go_simp)); have z4 := Bel.at hb3 (ad := ⟨w.heap.size, 4, none⟩) (v := .int .i64 i.sc) (by first | assumption | (go_simp)); have hl3 : w.heap.size < w3.heap.size := by omega)
    | (go_at_call 128; with_reducible refine (within1_any i.ix (-1) 7 _ _ ?_ ?_).mono ?_; go_simp; go_simp; rintro e w4 ⟨rfl, hb4⟩; have hs4 := hb4.size; simp at hs4; have x4 := Bel.at hb4 (ad := ⟨w.heap.size, 4, none⟩) (v := .int .i64 i.sc) (by first | assumption | (go_simp)); have hl4 : w.heap.size < w4.heap.size := by omega)
    | (go_at_call 128; with_reducible refine (within1_any i.sc 0 3 _ _ ?_ ?_).mono ?_; go_simp; go_simp; rintro e w5 ⟨rfl, hb5⟩))
  go_ret
  exact ⟨rfl, Nz.bel⟩
theorem ranges_m (i : K.Ins) (m : Int) (hm : (i.op == 129) = true ∧ m = 3 ∨ (i.op == 129) = false ∧ (i.op == 130) = true ∧ m = 4 ∨ (i.op == 129) = false ∧ (i.op == 130) = false ∧ m = 7) (w : World) :
    Calls Tryz.prog 130 #[.agg #[.int .i64 i.op, .int .i64 i.d, .int .i64 i.s, .int .i64 i.ix, .int .i64 i.sc, .int .u32 i.imm, .int .i64 i.sz]] w fun e w' => e = .returned (.bool (K.inAny i.d [(0, 7)] && (K.inAny i.s [(0, m)] && (K.inAny i.ix [(-1, 7)] && K.inAny i.sc [(0, 3)])))) ∧ Bel w w' := by
  cases h0 : K.inAny i.d [(0, 7)]
  · rcases hm with ⟨ho, rfl⟩ | ⟨ho, ho2, rfl⟩ | ⟨ho, ho2, rfl⟩
    · exact ranges_1_3 i ho h0 w
    · exact ranges_1_4 i ho ho2 h0 w
    · exact ranges_1_7 i ho ho2 h0 w
  · cases h1 : K.inAny i.s [(0, m)]
    · rcases hm with ⟨ho, rfl⟩ | ⟨ho, ho2, rfl⟩ | ⟨ho, ho2, rfl⟩
      · exact ranges_2_3 i ho h0 h1 w
      · exact ranges_2_4 i ho ho2 h0 h1 w
      · exact ranges_2_7 i ho ho2 h0 h1 w
    · cases h2 : K.inAny i.ix [(-1, 7)]
      · rcases hm with ⟨ho, rfl⟩ | ⟨ho, ho2, rfl⟩ | ⟨ho, ho2, rfl⟩
        · exact ranges_3_3 i ho h0 h1 h2 w
        · exact ranges_3_4 i ho ho2 h0 h1 h2 w
        · exact ranges_3_7 i ho ho2 h0 h1 h2 w
      · cases h3 : K.inAny i.sc [(0, 3)]
        · rcases hm with ⟨ho, rfl⟩ | ⟨ho, ho2, rfl⟩ | ⟨ho, ho2, rfl⟩
          · exact ranges_4_3 i ho h0 h1 h2 h3 w
          · exact ranges_4_4 i ho ho2 h0 h1 h2 h3 w
          · exact ranges_4_7 i ho ho2 h0 h1 h2 h3 w
        · rcases hm with ⟨ho, rfl⟩ | ⟨ho, ho2, rfl⟩ | ⟨ho, ho2, rfl⟩
          · exact ranges_5_3 i ho h0 h1 h2 h3 w
          · exact ranges_5_4 i ho ho2 h0 h1 h2 h3 w
          · exact ranges_5_7 i ho ho2 h0 h1 h2 h3 w
theorem ranges_any (i : K.Ins) (w : World) : Calls Tryz.prog 130 #[.agg #[.int .i64 i.op, .int .i64 i.d, .int .i64 i.s, .int .i64 i.ix, .int .i64 i.sc, .int .u32 i.imm, .int .i64 i.sz]] w fun e w' => e = .returned (.bool (K.rng i)) ∧ Bel w w' := by
  unfold K.rng K.most
  by_cases h1 : i.op = 129
  · rw [if_pos h1]; exact ranges_m i 3 (.inl ⟨by simp [h1], rfl⟩) w
  · rw [if_neg h1]
    by_cases h2 : i.op = 130
    · rw [if_pos h2]; exact ranges_m i 4 (.inr (.inl ⟨by simp [h1], by simp [h2], rfl⟩)) w
    · rw [if_neg h2]; exact ranges_m i 7 (.inr (.inr ⟨by simp [h1], by simp [h2], rfl⟩)) w
def R2.reg (x : Int) : Bool := ((decide (x ≥ 0)) && (decide (x < 8)))
theorem R2_reg (x : Int) (w : World) : Calls Tryz.prog 104 #[.int .i64 x] w fun e w' => e = .returned (.bool (R2.reg x)) ∧ Bel w w' := by
 refine E.enter (n := 9) (S := fun _ => False) Tryz.func104 rfl rfl (by kernel_rfl) (E.Hp.start w) (E.sr (E.op (.bool false) (E.tr (E.op (E.i x) (E.op (.bool (decide (x ≥ 0))) (E.op (.bool (decide (x ≥ 0))) (E.G.cut 3 [(2, .bool false), (8, .bool ((decide (x ≥ 0)) && (decide (x < 8))))] (fun _ => True) [] ?_ ?_)))))))
 ·
  generalize hc1 : (decide (x ≥ 0)) = b2
  cases b2
  ·
   exact E.sk (E.sk (E.op (.bool false) (E.G.end_pst ⟨by kernel_rfl, by kernel_rfl⟩ Nz.sub (fun _ h => h))))
  exact E.op (E.i x) (E.op (.bool (decide (x < 8))) (E.op (.bool (decide (x < 8))) (E.G.end_pst ⟨by kernel_rfl, by kernel_rfl⟩ Nz.sub (fun _ h => h))))
 exact E.op (.bool ((decide (x ≥ 0)) && (decide (x < 8)))) (E.To.code (E.C.ret (E.bd Tryz.f104 [.bool ((decide (x ≥ 0)) && (decide (x < 8)))] (fun w h => ⟨rfl, h.ch.bel (fun _ h => h.elim)⟩))))

def R2.signed (x : Int) : Bool := ((decide (x < 128)) || (decide (x ≥ 4294967168)))
theorem R2_signed (x : Int) (w : World) : Calls Tryz.prog 105 #[.int .u32 x] w fun e w' => e = .returned (.bool (R2.signed x)) ∧ Bel w w' := by
 refine E.enter (n := 9) (S := fun _ => False) Tryz.func105 rfl rfl (by kernel_rfl) (E.Hp.start w) (E.sr (E.op (.bool false) (E.tr (E.op (E.u x) (E.op (.bool (decide (x < 128))) (E.op (.bool (decide (x < 128))) (E.G.cut 3 [(2, .bool false), (8, .bool ((decide (x < 128)) || (decide (x ≥ 4294967168))))] (fun _ => True) [] ?_ ?_)))))))
 ·
  generalize hc1 : (decide (x < 128)) = b2
  cases b2
  ·
   exact E.op (E.u x) (E.op (.bool (decide (x ≥ 4294967168))) (E.op (.bool (decide (x ≥ 4294967168))) (E.G.end_pst ⟨by kernel_rfl, by kernel_rfl⟩ Nz.sub (fun _ h => h))))
  exact E.sk (E.sk (E.op (.bool true) (E.G.end_pst ⟨by kernel_rfl, by kernel_rfl⟩ Nz.sub (fun _ h => h))))
 exact E.op (.bool ((decide (x < 128)) || (decide (x ≥ 4294967168)))) (E.To.code (E.C.ret (E.bd Tryz.f105 [.bool ((decide (x < 128)) || (decide (x ≥ 4294967168)))] (fun w h => ⟨rfl, h.ch.bel (fun _ h => h.elim)⟩))))

def R2.Format (x : Int) : Int := (bif ((decide (x ≥ 0)) && (decide (x ≤ 4))) then 1 else (bif ((decide (x ≥ 16)) && (decide (x ≤ 21))) then 2 else (bif ((decide (x ≥ 32)) && (decide (x ≤ 46))) then 3 else (bif ((decide (x ≥ 48)) && (decide (x ≤ 62))) then 4 else (bif ((decide (x ≥ 64)) && (decide (x ≤ 78))) then 5 else (bif ((decide (x ≥ 80)) && (decide (x ≤ 86))) then 6 else (bif ((decide (x ≥ 88)) && (decide (x ≤ 94))) then 7 else (bif ((decide (x ≥ 96)) && (decide (x ≤ 109))) then 8 else (bif ((x == 112) || (x == 113)) then 9 else (bif ((decide (x ≥ 128)) && (decide (x ≤ 130))) then (IntKind.wrap .i64 ((IntKind.wrap .i64 (x - 128)) + 10)) else 0))))))))))
theorem R2_Format (x : Int) (w : World) : Calls Tryz.prog 59 #[.int .i64 x] w fun e w' => e = .returned (.int .i64 (R2.Format x)) ∧ Bel w w' := by
 refine E.enter (n := 66) (S := fun _ => False) Tryz.func59 rfl rfl (by kernel_rfl) (E.Hp.start w) (E.sr (E.op (E.i 0) (E.To.code (E.C.seq (E.sr (E.op (E.i x) (E.op (.bool (decide (x ≥ 0))) (E.op (.bool (decide (x ≥ 0))) (E.G.cut 3 [(0, E.i x), (2, E.i 0), (8, .bool ((decide (x ≥ 0)) && (decide (x ≤ 4))))] (fun _ => True) [] ?_ ?_)))))))))
 ·
  generalize hc1 : (decide (x ≥ 0)) = b2
  cases b2
  ·
   exact E.sk (E.sk (E.op (.bool false) (E.G.end_pst ⟨by kernel_rfl, by kernel_rfl⟩ Nz.sub (fun _ h => h))))
  exact E.op (E.i x) (E.op (.bool (decide (x ≤ 4))) (E.op (.bool (decide (x ≤ 4))) (E.G.end_pst ⟨by kernel_rfl, by kernel_rfl⟩ Nz.sub (fun _ h => h))))
 refine E.To.code (E.cd ((decide (x ≥ 0)) && (decide (x ≤ 4))) (fun hc3 => ?_) (fun hc3 => ?_))
 ·
  exact E.sr (E.op (E.i 1) (E.To.code (E.C.ret (E.P.rt (E.bd Tryz.f59 [E.i 1] (fun w h => ⟨by unfold R2.Format; rw [hc3, cond_true] <;> rfl, h.ch.bel (fun _ h => h.elim)⟩))))))
 refine E.C.skip (E.To.code (E.C.seq (E.sr (E.op (E.i x) (E.op (.bool (decide (x ≥ 16))) (E.op (.bool (decide (x ≥ 16))) (E.G.cut 3 [(0, E.i x), (2, E.i 0), (14, .bool ((decide (x ≥ 16)) && (decide (x ≤ 21))))] (fun _ => True) [] ?_ ?_)))))))
 ·
  generalize hc4 : (decide (x ≥ 16)) = b5
  cases b5
  ·
   exact E.sk (E.sk (E.op (.bool false) (E.G.end_pst ⟨by kernel_rfl, by kernel_rfl⟩ Nz.sub (fun _ h => h))))
  exact E.op (E.i x) (E.op (.bool (decide (x ≤ 21))) (E.op (.bool (decide (x ≤ 21))) (E.G.end_pst ⟨by kernel_rfl, by kernel_rfl⟩ Nz.sub (fun _ h => h))))
 refine E.To.code (E.cd ((decide (x ≥ 16)) && (decide (x ≤ 21))) (fun hc6 => ?_) (fun hc6 => ?_))
 ·
  exact E.sr (E.op (E.i 2) (E.To.code (E.C.ret (E.P.rt (E.bd Tryz.f59 [E.i 2] (fun w h => ⟨by unfold R2.Format; rw [hc3, cond_false, hc6, cond_true] <;> rfl, h.ch.bel (fun _ h => h.elim)⟩))))))
 refine E.C.skip (E.To.code (E.C.seq (E.sr (E.op (E.i x) (E.op (.bool (decide (x ≥ 32))) (E.op (.bool (decide (x ≥ 32))) (E.G.cut 3 [(0, E.i x), (2, E.i 0), (20, .bool ((decide (x ≥ 32)) && (decide (x ≤ 46))))] (fun _ => True) [] ?_ ?_)))))))
 ·
  generalize hc7 : (decide (x ≥ 32)) = b8
  cases b8
  ·
   exact E.sk (E.sk (E.op (.bool false) (E.G.end_pst ⟨by kernel_rfl, by kernel_rfl⟩ Nz.sub (fun _ h => h))))
  exact E.op (E.i x) (E.op (.bool (decide (x ≤ 46))) (E.op (.bool (decide (x ≤ 46))) (E.G.end_pst ⟨by kernel_rfl, by kernel_rfl⟩ Nz.sub (fun _ h => h))))
 refine E.To.code (E.cd ((decide (x ≥ 32)) && (decide (x ≤ 46))) (fun hc9 => ?_) (fun hc9 => ?_))
 ·
  exact E.sr (E.op (E.i 3) (E.To.code (E.C.ret (E.P.rt (E.bd Tryz.f59 [E.i 3] (fun w h => ⟨by unfold R2.Format; rw [hc3, cond_false, hc6, cond_false, hc9, cond_true] <;> rfl, h.ch.bel (fun _ h => h.elim)⟩))))))
 refine E.C.skip (E.To.code (E.C.seq (E.sr (E.op (E.i x) (E.op (.bool (decide (x ≥ 48))) (E.op (.bool (decide (x ≥ 48))) (E.G.cut 3 [(0, E.i x), (2, E.i 0), (26, .bool ((decide (x ≥ 48)) && (decide (x ≤ 62))))] (fun _ => True) [] ?_ ?_)))))))
 ·
  generalize hc10 : (decide (x ≥ 48)) = b11
  cases b11
  ·
   exact E.sk (E.sk (E.op (.bool false) (E.G.end_pst ⟨by kernel_rfl, by kernel_rfl⟩ Nz.sub (fun _ h => h))))
  exact E.op (E.i x) (E.op (.bool (decide (x ≤ 62))) (E.op (.bool (decide (x ≤ 62))) (E.G.end_pst ⟨by kernel_rfl, by kernel_rfl⟩ Nz.sub (fun _ h => h))))
 refine E.To.code (E.cd ((decide (x ≥ 48)) && (decide (x ≤ 62))) (fun hc12 => ?_) (fun hc12 => ?_))
 ·
  exact E.sr (E.op (E.i 4) (E.To.code (E.C.ret (E.P.rt (E.bd Tryz.f59 [E.i 4] (fun w h => ⟨by unfold R2.Format; rw [hc3, cond_false, hc6, cond_false, hc9, cond_false, hc12, cond_true] <;> rfl, h.ch.bel (fun _ h => h.elim)⟩))))))
 refine E.C.skip (E.To.code (E.C.seq (E.sr (E.op (E.i x) (E.op (.bool (decide (x ≥ 64))) (E.op (.bool (decide (x ≥ 64))) (E.G.cut 3 [(0, E.i x), (2, E.i 0), (32, .bool ((decide (x ≥ 64)) && (decide (x ≤ 78))))] (fun _ => True) [] ?_ ?_)))))))
 ·
  generalize hc13 : (decide (x ≥ 64)) = b14
  cases b14
  ·
   exact E.sk (E.sk (E.op (.bool false) (E.G.end_pst ⟨by kernel_rfl, by kernel_rfl⟩ Nz.sub (fun _ h => h))))
  exact E.op (E.i x) (E.op (.bool (decide (x ≤ 78))) (E.op (.bool (decide (x ≤ 78))) (E.G.end_pst ⟨by kernel_rfl, by kernel_rfl⟩ Nz.sub (fun _ h => h))))
 refine E.To.code (E.cd ((decide (x ≥ 64)) && (decide (x ≤ 78))) (fun hc15 => ?_) (fun hc15 => ?_))
 ·
  exact E.sr (E.op (E.i 5) (E.To.code (E.C.ret (E.P.rt (E.bd Tryz.f59 [E.i 5] (fun w h => ⟨by unfold R2.Format; rw [hc3, cond_false, hc6, cond_false, hc9, cond_false, hc12, cond_false, hc15, cond_true] <;> rfl, h.ch.bel (fun _ h => h.elim)⟩))))))
 refine E.C.skip (E.To.code (E.C.seq (E.sr (E.op (E.i x) (E.op (.bool (decide (x ≥ 80))) (E.op (.bool (decide (x ≥ 80))) (E.G.cut 3 [(0, E.i x), (2, E.i 0), (38, .bool ((decide (x ≥ 80)) && (decide (x ≤ 86))))] (fun _ => True) [] ?_ ?_)))))))
 ·
  generalize hc16 : (decide (x ≥ 80)) = b17
  cases b17
  ·
   exact E.sk (E.sk (E.op (.bool false) (E.G.end_pst ⟨by kernel_rfl, by kernel_rfl⟩ Nz.sub (fun _ h => h))))
  exact E.op (E.i x) (E.op (.bool (decide (x ≤ 86))) (E.op (.bool (decide (x ≤ 86))) (E.G.end_pst ⟨by kernel_rfl, by kernel_rfl⟩ Nz.sub (fun _ h => h))))
 refine E.To.code (E.cd ((decide (x ≥ 80)) && (decide (x ≤ 86))) (fun hc18 => ?_) (fun hc18 => ?_))
 ·
  exact E.sr (E.op (E.i 6) (E.To.code (E.C.ret (E.P.rt (E.bd Tryz.f59 [E.i 6] (fun w h => ⟨by unfold R2.Format; rw [hc3, cond_false, hc6, cond_false, hc9, cond_false, hc12, cond_false, hc15, cond_false, hc18, cond_true] <;> rfl, h.ch.bel (fun _ h => h.elim)⟩))))))
 refine E.C.skip (E.To.code (E.C.seq (E.sr (E.op (E.i x) (E.op (.bool (decide (x ≥ 88))) (E.op (.bool (decide (x ≥ 88))) (E.G.cut 3 [(0, E.i x), (2, E.i 0), (44, .bool ((decide (x ≥ 88)) && (decide (x ≤ 94))))] (fun _ => True) [] ?_ ?_)))))))
 ·
  generalize hc19 : (decide (x ≥ 88)) = b20
  cases b20
  ·
   exact E.sk (E.sk (E.op (.bool false) (E.G.end_pst ⟨by kernel_rfl, by kernel_rfl⟩ Nz.sub (fun _ h => h))))
  exact E.op (E.i x) (E.op (.bool (decide (x ≤ 94))) (E.op (.bool (decide (x ≤ 94))) (E.G.end_pst ⟨by kernel_rfl, by kernel_rfl⟩ Nz.sub (fun _ h => h))))
 refine E.To.code (E.cd ((decide (x ≥ 88)) && (decide (x ≤ 94))) (fun hc21 => ?_) (fun hc21 => ?_))
 ·
  exact E.sr (E.op (E.i 7) (E.To.code (E.C.ret (E.P.rt (E.bd Tryz.f59 [E.i 7] (fun w h => ⟨by unfold R2.Format; rw [hc3, cond_false, hc6, cond_false, hc9, cond_false, hc12, cond_false, hc15, cond_false, hc18, cond_false, hc21, cond_true] <;> rfl, h.ch.bel (fun _ h => h.elim)⟩))))))
 refine E.C.skip (E.To.code (E.C.seq (E.sr (E.op (E.i x) (E.op (.bool (decide (x ≥ 96))) (E.op (.bool (decide (x ≥ 96))) (E.G.cut 3 [(0, E.i x), (2, E.i 0), (50, .bool ((decide (x ≥ 96)) && (decide (x ≤ 109))))] (fun _ => True) [] ?_ ?_)))))))
 ·
  generalize hc22 : (decide (x ≥ 96)) = b23
  cases b23
  ·
   exact E.sk (E.sk (E.op (.bool false) (E.G.end_pst ⟨by kernel_rfl, by kernel_rfl⟩ Nz.sub (fun _ h => h))))
  exact E.op (E.i x) (E.op (.bool (decide (x ≤ 109))) (E.op (.bool (decide (x ≤ 109))) (E.G.end_pst ⟨by kernel_rfl, by kernel_rfl⟩ Nz.sub (fun _ h => h))))
 refine E.To.code (E.cd ((decide (x ≥ 96)) && (decide (x ≤ 109))) (fun hc24 => ?_) (fun hc24 => ?_))
 ·
  exact E.sr (E.op (E.i 8) (E.To.code (E.C.ret (E.P.rt (E.bd Tryz.f59 [E.i 8] (fun w h => ⟨by unfold R2.Format; rw [hc3, cond_false, hc6, cond_false, hc9, cond_false, hc12, cond_false, hc15, cond_false, hc18, cond_false, hc21, cond_false, hc24, cond_true] <;> rfl, h.ch.bel (fun _ h => h.elim)⟩))))))
 refine E.C.skip (E.To.code (E.C.seq (E.sr (E.op (E.i x) (E.op (.bool (x == 112)) (E.op (.bool (x == 112)) (E.G.cut 3 [(0, E.i x), (2, E.i 0), (56, .bool ((x == 112) || (x == 113)))] (fun _ => True) [] ?_ ?_)))))))
 ·
  generalize hc25 : (x == 112) = b26
  cases b26
  ·
   exact E.op (E.i x) (E.op (.bool (x == 113)) (E.op (.bool (x == 113)) (E.G.end_pst ⟨by kernel_rfl, by kernel_rfl⟩ Nz.sub (fun _ h => h))))
  exact E.sk (E.sk (E.op (.bool true) (E.G.end_pst ⟨by kernel_rfl, by kernel_rfl⟩ Nz.sub (fun _ h => h))))
 refine E.To.code (E.cd ((x == 112) || (x == 113)) (fun hc27 => ?_) (fun hc27 => ?_))
 ·
  exact E.sr (E.op (E.i 9) (E.To.code (E.C.ret (E.P.rt (E.bd Tryz.f59 [E.i 9] (fun w h => ⟨by unfold R2.Format; rw [hc3, cond_false, hc6, cond_false, hc9, cond_false, hc12, cond_false, hc15, cond_false, hc18, cond_false, hc21, cond_false, hc24, cond_false, hc27, cond_true] <;> rfl, h.ch.bel (fun _ h => h.elim)⟩))))))
 refine E.C.skip (E.To.code (E.C.seq (E.sr (E.op (E.i x) (E.op (.bool (decide (x ≥ 128))) (E.op (.bool (decide (x ≥ 128))) (E.G.cut 3 [(0, E.i x), (2, E.i 0), (62, .bool ((decide (x ≥ 128)) && (decide (x ≤ 130))))] (fun _ => True) [] ?_ ?_)))))))
 ·
  generalize hc28 : (decide (x ≥ 128)) = b29
  cases b29
  ·
   exact E.sk (E.sk (E.op (.bool false) (E.G.end_pst ⟨by kernel_rfl, by kernel_rfl⟩ Nz.sub (fun _ h => h))))
  exact E.op (E.i x) (E.op (.bool (decide (x ≤ 130))) (E.op (.bool (decide (x ≤ 130))) (E.G.end_pst ⟨by kernel_rfl, by kernel_rfl⟩ Nz.sub (fun _ h => h))))
 refine E.To.code (E.cd ((decide (x ≥ 128)) && (decide (x ≤ 130))) (fun hc30 => ?_) (fun hc30 => ?_))
 ·
  exact E.sr (E.op (E.i x) (E.op (E.i (IntKind.wrap .i64 (x - 128))) (E.op (E.i (IntKind.wrap .i64 ((IntKind.wrap .i64 (x - 128)) + 10))) (E.op (E.i (IntKind.wrap .i64 ((IntKind.wrap .i64 (x - 128)) + 10))) (E.To.code (E.C.ret (E.P.rt (E.bd Tryz.f59 [E.i (IntKind.wrap .i64 ((IntKind.wrap .i64 (x - 128)) + 10))] (fun w h => ⟨by unfold R2.Format; rw [hc3, cond_false, hc6, cond_false, hc9, cond_false, hc12, cond_false, hc15, cond_false, hc18, cond_false, hc21, cond_false, hc24, cond_false, hc27, cond_false, hc30, cond_true] <;> rfl, h.ch.bel (fun _ h => h.elim)⟩)))))))))
 exact E.C.skip (E.To.code (E.sr (E.op (E.i 0) (E.To.code (E.C.ret (E.bd Tryz.f59 [E.i 0] (fun w h => ⟨by unfold R2.Format; rw [hc3, cond_false, hc6, cond_false, hc9, cond_false, hc12, cond_false, hc15, cond_false, hc18, cond_false, hc21, cond_false, hc24, cond_false, hc27, cond_false, hc30, cond_false] <;> rfl, h.ch.bel (fun _ h => h.elim)⟩)))))))

theorem E.bif_all {p : Int → Prop} {c : Bool} {a b : Int} (ha : c = true → p a) (hb : c = false → p b) : p (bif c then a else b) := by cases c <;> simp_all
theorem R2.Format_bd (x : Int) : 0 ≤ R2.Format x ∧ R2.Format x ≤ 12 := by
  unfold R2.Format
  repeat (refine E.bif_all (p := fun y => 0 ≤ y ∧ y ≤ 12) (fun _ => by decide) (fun _ => ?_))
  refine E.bif_all (p := fun y => 0 ≤ y ∧ y ≤ 12) (fun h => ?_) (fun _ => by decide)
  have h1 : x = 128 ∨ x = 129 ∨ x = 130 := by simp at h; omega
  rcases h1 with rfl | rfl | rfl <;> decide

def R2.Size (x : Int) : Int := ([0, 1, 2, 2, 3, 6, 3, 7, 2, 5, 2, 2, 2].getD (0 + ((R2.Format (IntKind.wrap .i64 x))).toNat * 1) 0)
theorem R2_Size (x : Int) (w : World) : Calls Tryz.prog 71 #[.int .u8 x] w fun e w' => e = .returned (.int .i64 (R2.Size x)) ∧ Bel w w' := by
 have hb := R2.Format_bd (IntKind.wrap .i64 x)
 refine E.enter (n := 10) (S := fun _ => False) Tryz.func71 rfl rfl (by kernel_rfl) (E.Hp.start w) (E.sr (E.op (E.i 0) (E.tr (E.vl (.agg #[E.i 0, E.i 1, E.i 2, E.i 2, E.i 3, E.i 6, E.i 3, E.i 7, E.i 2, E.i 5, E.i 2, E.i 2, E.i 2]) (fun w h => E.run_build #[E.i 0, E.i 1, E.i 2, E.i 2, E.i 3, E.i 6, E.i 3, E.i 7, E.i 2, E.i 5, E.i 2, E.i 2, E.i 2] (by kernel_rfl) w) (E.nw [E.i 0, E.i 0, E.i 0, E.i 0, E.i 0, E.i 0, E.i 0, E.i 0, E.i 0, E.i 0, E.i 0, E.i 0, E.i 0] 169 (fun g1 => E.st 0 [E.i 0, E.i 1, E.i 2, E.i 2, E.i 3, E.i 6, E.i 3, E.i 7, E.i 2, E.i 5, E.i 2, E.i 2, E.i 2] rfl rfl (E.tr (E.op (.int .u8 x) (E.op (E.i (IntKind.wrap .i64 x)) (E.ca (E.i (R2.Format (IntKind.wrap .i64 x))) (fun w h => R2_Format _ w) (E.vl (.pointer (some ⟨g1, 0 + ((R2.Format (IntKind.wrap .i64 x))).toNat * 1, none⟩)) (fun w h => E.idxA (e := 3) g1 0 13 1 .i64 ((R2.Format (IntKind.wrap .i64 x))) (by kernel_rfl) (by kernel_rfl) (by kernel_rfl) (by kernel_rfl) (by omega) (by omega) w) ?_)))))))))))
 exact E.vl (E.i ([0, 1, 2, 2, 3, 6, 3, 7, 2, 5, 2, 2, 2].getD (0 + ((R2.Format (IntKind.wrap .i64 x))).toNat * 1) 0)) (fun w h => E.run_load h 0 rfl rfl (E.ld_row (xs := [0, 1, 2, 2, 3, 6, 3, 7, 2, 5, 2, 2, 2]) (by kernel_rfl) (by simp only [List.length_cons, List.length_nil]; omega))) (E.op (E.i ([0, 1, 2, 2, 3, 6, 3, 7, 2, 5, 2, 2, 2].getD (0 + ((R2.Format (IntKind.wrap .i64 x))).toNat * 1) 0)) (E.To.code (E.wk [(2, E.i ([0, 1, 2, 2, 3, 6, 3, 7, 2, 5, 2, 2, 2].getD (0 + ((R2.Format (IntKind.wrap .i64 x))).toNat * 1) 0))] [] Nz.sub (E.C.ret (E.bd Tryz.f71 [E.i ([0, 1, 2, 2, 3, 6, 3, 7, 2, 5, 2, 2, 2].getD (0 + ((R2.Format (IntKind.wrap .i64 x))).toNat * 1) 0)] (fun w h => ⟨rfl, h.ch.bel (fun _ h => h.elim)⟩))))))

def R2.extend (x : Int) : Int := (bif (decide (x ≥ 128)) then (IntKind.wrap .u32 ((IntKind.wrap .u32 x) + 4294967040)) else (IntKind.wrap .u32 x))
def R2.long (s : ByteArray) : Int := (IntKind.wrap .u32 ((IntKind.wrap .u32 ((IntKind.wrap .u32 ((IntKind.wrap .u32 (W.byt s.data.toList 0)) + (IntKind.wrap .u32 (256 * (IntKind.wrap .u32 (W.byt s.data.toList 1)))))) + (IntKind.wrap .u32 (65536 * (IntKind.wrap .u32 (W.byt s.data.toList 2)))))) + (IntKind.wrap .u32 (16777216 * (IntKind.wrap .u32 (W.byt s.data.toList 3))))))
def R2.Valid (i : K.Ins) : Bool := (bif (((R2.Format i.op) == 0) || (i.sz != (R2.Size (IntKind.wrap .u8 i.op)))) then false else ((((bif (((((R2.Format i.op) == 1) || ((R2.Format i.op) == 8)) || ((R2.Format i.op) == 9)) || ((R2.Format i.op) == 10)) then (i.d == 0) else (R2.reg i.d)) && (bif ((R2.Format i.op) == 12) then ((decide (i.s ≥ 0)) && (decide (i.s ≤ 4))) else (bif ((R2.Format i.op) == 11) then ((decide (i.s ≥ 0)) && (decide (i.s ≤ 3))) else (bif ((((R2.Format i.op) != 3) && ((R2.Format i.op) != 6)) && ((R2.Format i.op) != 7)) then (i.s == 0) else (R2.reg i.s))))) && (bif (((R2.Format i.op) == 7) && (i.ix != (-1))) then (((R2.reg i.ix) && (decide (i.sc ≥ 0))) && (decide (i.sc ≤ 3))) else ((i.ix == (-1)) && (i.sc == 0)))) && (bif ((R2.Format i.op) == 10) then (decide (i.imm < 256)) else (((((R2.Format i.op) == 5) || ((R2.Format i.op) == 7)) || ((R2.Format i.op) == 9)) || (bif ((((R2.Format i.op) == 4) || ((R2.Format i.op) == 6)) || ((R2.Format i.op) == 8)) then (R2.signed i.imm) else (i.imm == 0))))))
theorem R2_Valid (i : K.Ins) (w : World) : Calls Tryz.prog 69 #[.agg #[.int .i64 i.op, .int .i64 i.d, .int .i64 i.s, .int .i64 i.ix, .int .i64 i.sc, .int .u32 i.imm, .int .i64 i.sz]] w fun e w' => e = .returned (.bool (R2.Valid i)) ∧ Bel w w' := by
 refine E.enter (n := 147) (S := fun _ => False) Tryz.func69 rfl rfl (by kernel_rfl) (E.Hp.start w) (E.sr (E.nw [E.i i.op, E.i i.d, E.i i.s, E.i i.ix, E.i i.sc, E.u i.imm, E.i i.sz] 66 (fun g1 => E.op (.bool false) (E.tr (E.op (E.pt g1) (E.li (E.i i.op) 0 rfl rfl (E.ca (E.i (R2.Format i.op)) (fun w h => R2_Format _ w) (E.op (E.i (R2.Format i.op)) (E.To.code (E.C.seq (E.C.seq ?_)))))))))))
 refine E.C.quiet (by kernel_rfl) (by kernel_rfl) (E.wo (E.i (R2.Format i.op)) (E.wo (.bool ((R2.Format i.op) == 0)) (E.wo (.bool ((R2.Format i.op) == 0)) (E.W.cut 8 [(1, E.pt g1), (2, .bool false), (3, E.i (R2.Format i.op)), (21, .bool (((R2.Format i.op) == 0) || (i.sz != (R2.Size (IntKind.wrap .u8 i.op)))))] ?_ ?_))))
 ·
  generalize hc2 : ((R2.Format i.op) == 0) = b3
  cases b3
  ·
   exact E.wo (.pointer (some ⟨g1, 6, none⟩)) (E.wv (E.i i.sz) (fun w h => E.run_load h 0 rfl rfl (by kernel_rfl)) (E.wo (E.pt g1) (E.wv (E.i i.op) (fun w h => E.run_load h 0 rfl rfl (by kernel_rfl)) (E.wo (.int .u8 (IntKind.wrap .u8 i.op)) (E.W.call (E.i (R2.Size (IntKind.wrap .u8 i.op))) (fun w h => R2_Size _ w) (fun w _ => by kernel_rfl) (by kernel_rfl) (E.wo (.bool (i.sz != (R2.Size (IntKind.wrap .u8 i.op)))) (E.wo (.bool (i.sz != (R2.Size (IntKind.wrap .u8 i.op)))) (E.W.end_cut ⟨by kernel_rfl, by kernel_rfl⟩))))))))
  exact E.ws (E.ws (E.ws (E.ws (E.ws (E.ws (E.ws (E.wo (.bool true) (E.W.end_cut ⟨by kernel_rfl, by kernel_rfl⟩))))))))
 refine E.W.done (E.To.code (E.cd (((R2.Format i.op) == 0) || (i.sz != (R2.Size (IntKind.wrap .u8 i.op)))) (fun hc4 => ?_) (fun hc4 => ?_)))
 ·
  exact E.sr (E.op (.bool false) (E.To.code (E.C.ret (E.P.rt (E.bd Tryz.f69 [.bool false] (fun w h => ⟨by unfold R2.Valid; rw [hc4, cond_true] <;> rfl, h.ch.bel (fun _ h => h.elim)⟩))))))
 refine E.C.skip (E.To.code (E.sr (E.op (.pointer (some ⟨g1, 1, none⟩)) (E.li (E.i i.d) 0 rfl rfl (E.ca (.bool (R2.reg i.d)) (fun w h => R2_reg _ w) (E.op (.bool (R2.reg i.d)) (E.tr (E.op (.pointer (some ⟨g1, 2, none⟩)) (E.li (E.i i.s) 0 rfl rfl (E.ca (.bool (R2.reg i.s)) (fun w h => R2_reg _ w) (E.op (.bool (R2.reg i.s)) (E.To.code ?_))))))))))))
 refine E.C.seq (E.sr (E.op (E.i (R2.Format i.op)) (E.op (.bool ((R2.Format i.op) == 1)) (E.op (.bool ((R2.Format i.op) == 1)) (E.G.cut 3 [(1, E.pt g1), (2, .bool false), (3, E.i (R2.Format i.op)), (4, .bool (R2.reg i.d)), (5, .bool (R2.reg i.s)), (33, .bool (((R2.Format i.op) == 1) || ((R2.Format i.op) == 8)))] (fun _ => True) [(g1, [E.i i.op, E.i i.d, E.i i.s, E.i i.ix, E.i i.sc, E.u i.imm, E.i i.sz])] ?_ ?_)))))
 ·
  generalize hc5 : ((R2.Format i.op) == 1) = b6
  cases b6
  ·
   exact E.op (E.i (R2.Format i.op)) (E.op (.bool ((R2.Format i.op) == 8)) (E.op (.bool ((R2.Format i.op) == 8)) (E.G.end_pst ⟨by kernel_rfl, by kernel_rfl⟩ Nz.sub (fun _ h => h))))
  exact E.sk (E.sk (E.op (.bool true) (E.G.end_pst ⟨by kernel_rfl, by kernel_rfl⟩ Nz.sub (fun _ h => h))))
 refine E.op (.bool (((R2.Format i.op) == 1) || ((R2.Format i.op) == 8))) (E.G.cut 3 [(1, E.pt g1), (2, .bool false), (3, E.i (R2.Format i.op)), (4, .bool (R2.reg i.d)), (5, .bool (R2.reg i.s)), (37, .bool ((((R2.Format i.op) == 1) || ((R2.Format i.op) == 8)) || ((R2.Format i.op) == 9)))] (fun _ => True) [(g1, [E.i i.op, E.i i.d, E.i i.s, E.i i.ix, E.i i.sc, E.u i.imm, E.i i.sz])] ?_ ?_)
 ·
  generalize hc7 : (((R2.Format i.op) == 1) || ((R2.Format i.op) == 8)) = b8
  cases b8
  ·
   exact E.op (E.i (R2.Format i.op)) (E.op (.bool ((R2.Format i.op) == 9)) (E.op (.bool ((R2.Format i.op) == 9)) (E.G.end_pst ⟨by kernel_rfl, by kernel_rfl⟩ Nz.sub (fun _ h => h))))
  exact E.sk (E.sk (E.op (.bool true) (E.G.end_pst ⟨by kernel_rfl, by kernel_rfl⟩ Nz.sub (fun _ h => h))))
 refine E.op (.bool ((((R2.Format i.op) == 1) || ((R2.Format i.op) == 8)) || ((R2.Format i.op) == 9))) (E.G.cut 3 [(1, E.pt g1), (2, .bool false), (3, E.i (R2.Format i.op)), (4, .bool (R2.reg i.d)), (5, .bool (R2.reg i.s)), (41, .bool (((((R2.Format i.op) == 1) || ((R2.Format i.op) == 8)) || ((R2.Format i.op) == 9)) || ((R2.Format i.op) == 10)))] (fun _ => True) [(g1, [E.i i.op, E.i i.d, E.i i.s, E.i i.ix, E.i i.sc, E.u i.imm, E.i i.sz])] ?_ ?_)
 ·
  generalize hc9 : ((((R2.Format i.op) == 1) || ((R2.Format i.op) == 8)) || ((R2.Format i.op) == 9)) = b10
  cases b10
  ·
   exact E.op (E.i (R2.Format i.op)) (E.op (.bool ((R2.Format i.op) == 10)) (E.op (.bool ((R2.Format i.op) == 10)) (E.G.end_pst ⟨by kernel_rfl, by kernel_rfl⟩ Nz.sub (fun _ h => h))))
  exact E.sk (E.sk (E.op (.bool true) (E.G.end_pst ⟨by kernel_rfl, by kernel_rfl⟩ Nz.sub (fun _ h => h))))
 refine E.To.code (E.C.thencut [(1, E.pt g1), (2, .bool false), (3, E.i (R2.Format i.op)), (4, .bool (bif (((((R2.Format i.op) == 1) || ((R2.Format i.op) == 8)) || ((R2.Format i.op) == 9)) || ((R2.Format i.op) == 10)) then (i.d == 0) else (R2.reg i.d))), (5, .bool (R2.reg i.s))] (fun _ => True) [(g1, [E.i i.op, E.i i.d, E.i i.s, E.i i.ix, E.i i.sc, E.u i.imm, E.i i.sz])] ?_ ?_)
 ·
  generalize hc11 : (((((R2.Format i.op) == 1) || ((R2.Format i.op) == 8)) || ((R2.Format i.op) == 9)) || ((R2.Format i.op) == 10)) = b12
  cases b12
  ·
   exact E.C.condF (by kernel_rfl) (by kernel_rfl) (E.C.skip (E.To.pst ⟨by kernel_rfl, by kernel_rfl⟩ Nz.sub (fun _ h => h)))
  exact E.C.condT (by kernel_rfl) (by kernel_rfl) (E.C.region (E.op (.pointer (some ⟨g1, 1, none⟩)) (E.li (E.i i.d) 0 rfl rfl (E.op (.bool (i.d == 0)) (E.op (.bool (i.d == 0)) (E.To.pst ⟨by kernel_rfl, by kernel_rfl⟩ Nz.sub (fun _ h => h)))))))
 refine E.C.seq (E.sr (E.op (E.i (R2.Format i.op)) (E.op (.bool ((R2.Format i.op) != 3)) (E.op (.bool ((R2.Format i.op) != 3)) (E.G.cut 3 [(1, E.pt g1), (2, .bool false), (3, E.i (R2.Format i.op)), (4, .bool (bif (((((R2.Format i.op) == 1) || ((R2.Format i.op) == 8)) || ((R2.Format i.op) == 9)) || ((R2.Format i.op) == 10)) then (i.d == 0) else (R2.reg i.d))), (5, .bool (R2.reg i.s)), (50, .bool (((R2.Format i.op) != 3) && ((R2.Format i.op) != 6)))] (fun _ => True) [(g1, [E.i i.op, E.i i.d, E.i i.s, E.i i.ix, E.i i.sc, E.u i.imm, E.i i.sz])] ?_ ?_)))))
 ·
  generalize hc13 : ((R2.Format i.op) != 3) = b14
  cases b14
  ·
   exact E.sk (E.sk (E.op (.bool false) (E.G.end_pst ⟨by kernel_rfl, by kernel_rfl⟩ Nz.sub (fun _ h => h))))
  exact E.op (E.i (R2.Format i.op)) (E.op (.bool ((R2.Format i.op) != 6)) (E.op (.bool ((R2.Format i.op) != 6)) (E.G.end_pst ⟨by kernel_rfl, by kernel_rfl⟩ Nz.sub (fun _ h => h))))
 refine E.op (.bool (((R2.Format i.op) != 3) && ((R2.Format i.op) != 6))) (E.G.cut 3 [(1, E.pt g1), (2, .bool false), (3, E.i (R2.Format i.op)), (4, .bool (bif (((((R2.Format i.op) == 1) || ((R2.Format i.op) == 8)) || ((R2.Format i.op) == 9)) || ((R2.Format i.op) == 10)) then (i.d == 0) else (R2.reg i.d))), (5, .bool (R2.reg i.s)), (54, .bool ((((R2.Format i.op) != 3) && ((R2.Format i.op) != 6)) && ((R2.Format i.op) != 7)))] (fun _ => True) [(g1, [E.i i.op, E.i i.d, E.i i.s, E.i i.ix, E.i i.sc, E.u i.imm, E.i i.sz])] ?_ ?_)
 ·
  generalize hc15 : (((R2.Format i.op) != 3) && ((R2.Format i.op) != 6)) = b16
  cases b16
  ·
   exact E.sk (E.sk (E.op (.bool false) (E.G.end_pst ⟨by kernel_rfl, by kernel_rfl⟩ Nz.sub (fun _ h => h))))
  exact E.op (E.i (R2.Format i.op)) (E.op (.bool ((R2.Format i.op) != 7)) (E.op (.bool ((R2.Format i.op) != 7)) (E.G.end_pst ⟨by kernel_rfl, by kernel_rfl⟩ Nz.sub (fun _ h => h))))
 refine E.To.code (E.C.thencut [(1, E.pt g1), (2, .bool false), (3, E.i (R2.Format i.op)), (4, .bool (bif (((((R2.Format i.op) == 1) || ((R2.Format i.op) == 8)) || ((R2.Format i.op) == 9)) || ((R2.Format i.op) == 10)) then (i.d == 0) else (R2.reg i.d))), (5, .bool (bif ((((R2.Format i.op) != 3) && ((R2.Format i.op) != 6)) && ((R2.Format i.op) != 7)) then (i.s == 0) else (R2.reg i.s)))] (fun _ => True) [(g1, [E.i i.op, E.i i.d, E.i i.s, E.i i.ix, E.i i.sc, E.u i.imm, E.i i.sz])] ?_ ?_)
 ·
  generalize hc17 : ((((R2.Format i.op) != 3) && ((R2.Format i.op) != 6)) && ((R2.Format i.op) != 7)) = b18
  cases b18
  ·
   exact E.C.condF (by kernel_rfl) (by kernel_rfl) (E.C.skip (E.To.pst ⟨by kernel_rfl, by kernel_rfl⟩ Nz.sub (fun _ h => h)))
  exact E.C.condT (by kernel_rfl) (by kernel_rfl) (E.C.region (E.op (.pointer (some ⟨g1, 2, none⟩)) (E.li (E.i i.s) 0 rfl rfl (E.op (.bool (i.s == 0)) (E.op (.bool (i.s == 0)) (E.To.pst ⟨by kernel_rfl, by kernel_rfl⟩ Nz.sub (fun _ h => h)))))))
 refine E.C.seq (E.sr (E.op (E.i (R2.Format i.op)) (E.op (.bool ((R2.Format i.op) == 11)) (E.To.code (E.C.thencut [(1, E.pt g1), (2, .bool false), (3, E.i (R2.Format i.op)), (4, .bool (bif (((((R2.Format i.op) == 1) || ((R2.Format i.op) == 8)) || ((R2.Format i.op) == 9)) || ((R2.Format i.op) == 10)) then (i.d == 0) else (R2.reg i.d))), (5, .bool (bif ((R2.Format i.op) == 11) then ((decide (i.s ≥ 0)) && (decide (i.s ≤ 3))) else (bif ((((R2.Format i.op) != 3) && ((R2.Format i.op) != 6)) && ((R2.Format i.op) != 7)) then (i.s == 0) else (R2.reg i.s))))] (fun _ => True) [(g1, [E.i i.op, E.i i.d, E.i i.s, E.i i.ix, E.i i.sc, E.u i.imm, E.i i.sz])] ?_ ?_)))))
 ·
  generalize hc19 : ((R2.Format i.op) == 11) = b20
  cases b20
  ·
   exact E.C.condF (by kernel_rfl) (by kernel_rfl) (E.C.skip (E.To.pst ⟨by kernel_rfl, by kernel_rfl⟩ Nz.sub (fun _ h => h)))
  refine E.C.condT (by kernel_rfl) (by kernel_rfl) (E.C.region (E.op (.pointer (some ⟨g1, 2, none⟩)) (E.li (E.i i.s) 0 rfl rfl (E.op (.bool (decide (i.s ≥ 0))) (E.op (.bool (decide (i.s ≥ 0))) (E.G.cut 4 [(1, E.pt g1), (2, .bool false), (3, E.i (R2.Format i.op)), (4, .bool (bif (((((R2.Format i.op) == 1) || ((R2.Format i.op) == 8)) || ((R2.Format i.op) == 9)) || ((R2.Format i.op) == 10)) then (i.d == 0) else (R2.reg i.d))), (5, .bool (bif ((((R2.Format i.op) != 3) && ((R2.Format i.op) != 6)) && ((R2.Format i.op) != 7)) then (i.s == 0) else (R2.reg i.s))), (67, .bool ((decide (i.s ≥ 0)) && (decide (i.s ≤ 3))))] (fun _ => True) [(g1, [E.i i.op, E.i i.d, E.i i.s, E.i i.ix, E.i i.sc, E.u i.imm, E.i i.sz])] ?_ ?_))))))
  ·
   generalize hc21 : (decide (i.s ≥ 0)) = b22
   cases b22
   ·
    exact E.sk (E.sk (E.sk (E.op (.bool false) (E.G.end_pst ⟨by kernel_rfl, by kernel_rfl⟩ Nz.sub (fun _ h => h)))))
   exact E.op (.pointer (some ⟨g1, 2, none⟩)) (E.li (E.i i.s) 0 rfl rfl (E.op (.bool (decide (i.s ≤ 3))) (E.op (.bool (decide (i.s ≤ 3))) (E.G.end_pst ⟨by kernel_rfl, by kernel_rfl⟩ Nz.sub (fun _ h => h)))))
  exact E.op (.bool ((decide (i.s ≥ 0)) && (decide (i.s ≤ 3)))) (E.To.pst ⟨by kernel_rfl, by kernel_rfl⟩ Nz.sub (fun _ h => h))
 refine E.C.seq (E.sr (E.op (E.i (R2.Format i.op)) (E.op (.bool ((R2.Format i.op) == 12)) (E.To.code (E.C.thencut [(1, E.pt g1), (2, .bool false), (3, E.i (R2.Format i.op)), (4, .bool (bif (((((R2.Format i.op) == 1) || ((R2.Format i.op) == 8)) || ((R2.Format i.op) == 9)) || ((R2.Format i.op) == 10)) then (i.d == 0) else (R2.reg i.d))), (5, .bool (bif ((R2.Format i.op) == 12) then ((decide (i.s ≥ 0)) && (decide (i.s ≤ 4))) else (bif ((R2.Format i.op) == 11) then ((decide (i.s ≥ 0)) && (decide (i.s ≤ 3))) else (bif ((((R2.Format i.op) != 3) && ((R2.Format i.op) != 6)) && ((R2.Format i.op) != 7)) then (i.s == 0) else (R2.reg i.s)))))] (fun _ => True) [(g1, [E.i i.op, E.i i.d, E.i i.s, E.i i.ix, E.i i.sc, E.u i.imm, E.i i.sz])] ?_ ?_)))))
 ·
  generalize hc23 : ((R2.Format i.op) == 12) = b24
  cases b24
  ·
   exact E.C.condF (by kernel_rfl) (by kernel_rfl) (E.C.skip (E.To.pst ⟨by kernel_rfl, by kernel_rfl⟩ Nz.sub (fun _ h => h)))
  refine E.C.condT (by kernel_rfl) (by kernel_rfl) (E.C.region (E.op (.pointer (some ⟨g1, 2, none⟩)) (E.li (E.i i.s) 0 rfl rfl (E.op (.bool (decide (i.s ≥ 0))) (E.op (.bool (decide (i.s ≥ 0))) (E.G.cut 4 [(1, E.pt g1), (2, .bool false), (3, E.i (R2.Format i.op)), (4, .bool (bif (((((R2.Format i.op) == 1) || ((R2.Format i.op) == 8)) || ((R2.Format i.op) == 9)) || ((R2.Format i.op) == 10)) then (i.d == 0) else (R2.reg i.d))), (5, .bool (bif ((R2.Format i.op) == 11) then ((decide (i.s ≥ 0)) && (decide (i.s ≤ 3))) else (bif ((((R2.Format i.op) != 3) && ((R2.Format i.op) != 6)) && ((R2.Format i.op) != 7)) then (i.s == 0) else (R2.reg i.s)))), (77, .bool ((decide (i.s ≥ 0)) && (decide (i.s ≤ 4))))] (fun _ => True) [(g1, [E.i i.op, E.i i.d, E.i i.s, E.i i.ix, E.i i.sc, E.u i.imm, E.i i.sz])] ?_ ?_))))))
  ·
   generalize hc25 : (decide (i.s ≥ 0)) = b26
   cases b26
   ·
    exact E.sk (E.sk (E.sk (E.op (.bool false) (E.G.end_pst ⟨by kernel_rfl, by kernel_rfl⟩ Nz.sub (fun _ h => h)))))
   exact E.op (.pointer (some ⟨g1, 2, none⟩)) (E.li (E.i i.s) 0 rfl rfl (E.op (.bool (decide (i.s ≤ 4))) (E.op (.bool (decide (i.s ≤ 4))) (E.G.end_pst ⟨by kernel_rfl, by kernel_rfl⟩ Nz.sub (fun _ h => h)))))
  exact E.op (.bool ((decide (i.s ≥ 0)) && (decide (i.s ≤ 4)))) (E.To.pst ⟨by kernel_rfl, by kernel_rfl⟩ Nz.sub (fun _ h => h))
 refine E.sr (E.op (.pointer (some ⟨g1, 3, none⟩)) (E.li (E.i i.ix) 0 rfl rfl (E.op (.bool (i.ix == (-1))) (E.op (.bool (i.ix == (-1))) (E.G.cut 4 [(1, E.pt g1), (2, .bool false), (3, E.i (R2.Format i.op)), (4, .bool (bif (((((R2.Format i.op) == 1) || ((R2.Format i.op) == 8)) || ((R2.Format i.op) == 9)) || ((R2.Format i.op) == 10)) then (i.d == 0) else (R2.reg i.d))), (5, .bool (bif ((R2.Format i.op) == 12) then ((decide (i.s ≥ 0)) && (decide (i.s ≤ 4))) else (bif ((R2.Format i.op) == 11) then ((decide (i.s ≥ 0)) && (decide (i.s ≤ 3))) else (bif ((((R2.Format i.op) != 3) && ((R2.Format i.op) != 6)) && ((R2.Format i.op) != 7)) then (i.s == 0) else (R2.reg i.s))))), (85, .bool ((i.ix == (-1)) && (i.sc == 0)))] (fun _ => True) [(g1, [E.i i.op, E.i i.d, E.i i.s, E.i i.ix, E.i i.sc, E.u i.imm, E.i i.sz])] ?_ ?_)))))
 ·
  generalize hc27 : (i.ix == (-1)) = b28
  cases b28
  ·
   exact E.sk (E.sk (E.sk (E.op (.bool false) (E.G.end_pst ⟨by kernel_rfl, by kernel_rfl⟩ Nz.sub (fun _ h => h)))))
  exact E.op (.pointer (some ⟨g1, 4, none⟩)) (E.li (E.i i.sc) 0 rfl rfl (E.op (.bool (i.sc == 0)) (E.op (.bool (i.sc == 0)) (E.G.end_pst ⟨by kernel_rfl, by kernel_rfl⟩ Nz.sub (fun _ h => h)))))
 refine E.op (.bool ((i.ix == (-1)) && (i.sc == 0))) (E.To.code (E.C.seq (E.sr (E.op (E.i (R2.Format i.op)) (E.op (.bool ((R2.Format i.op) == 7)) (E.op (.bool ((R2.Format i.op) == 7)) (E.G.cut 4 [(1, E.pt g1), (2, .bool false), (3, E.i (R2.Format i.op)), (4, .bool (bif (((((R2.Format i.op) == 1) || ((R2.Format i.op) == 8)) || ((R2.Format i.op) == 9)) || ((R2.Format i.op) == 10)) then (i.d == 0) else (R2.reg i.d))), (5, .bool (bif ((R2.Format i.op) == 12) then ((decide (i.s ≥ 0)) && (decide (i.s ≤ 4))) else (bif ((R2.Format i.op) == 11) then ((decide (i.s ≥ 0)) && (decide (i.s ≤ 3))) else (bif ((((R2.Format i.op) != 3) && ((R2.Format i.op) != 6)) && ((R2.Format i.op) != 7)) then (i.s == 0) else (R2.reg i.s))))), (6, .bool ((i.ix == (-1)) && (i.sc == 0))), (92, .bool (((R2.Format i.op) == 7) && (i.ix != (-1))))] (fun _ => True) [(g1, [E.i i.op, E.i i.d, E.i i.s, E.i i.ix, E.i i.sc, E.u i.imm, E.i i.sz])] ?_ ?_)))))))
 ·
  generalize hc29 : ((R2.Format i.op) == 7) = b30
  cases b30
  ·
   exact E.sk (E.sk (E.sk (E.op (.bool false) (E.G.end_pst ⟨by kernel_rfl, by kernel_rfl⟩ Nz.sub (fun _ h => h)))))
  exact E.op (.pointer (some ⟨g1, 3, none⟩)) (E.li (E.i i.ix) 0 rfl rfl (E.op (.bool (i.ix != (-1))) (E.op (.bool (i.ix != (-1))) (E.G.end_pst ⟨by kernel_rfl, by kernel_rfl⟩ Nz.sub (fun _ h => h)))))
 refine E.To.code (E.C.thencut [(1, E.pt g1), (2, .bool false), (3, E.i (R2.Format i.op)), (4, .bool (bif (((((R2.Format i.op) == 1) || ((R2.Format i.op) == 8)) || ((R2.Format i.op) == 9)) || ((R2.Format i.op) == 10)) then (i.d == 0) else (R2.reg i.d))), (5, .bool (bif ((R2.Format i.op) == 12) then ((decide (i.s ≥ 0)) && (decide (i.s ≤ 4))) else (bif ((R2.Format i.op) == 11) then ((decide (i.s ≥ 0)) && (decide (i.s ≤ 3))) else (bif ((((R2.Format i.op) != 3) && ((R2.Format i.op) != 6)) && ((R2.Format i.op) != 7)) then (i.s == 0) else (R2.reg i.s))))), (6, .bool (bif (((R2.Format i.op) == 7) && (i.ix != (-1))) then (((R2.reg i.ix) && (decide (i.sc ≥ 0))) && (decide (i.sc ≤ 3))) else ((i.ix == (-1)) && (i.sc == 0))))] (fun _ => True) [(g1, [E.i i.op, E.i i.d, E.i i.s, E.i i.ix, E.i i.sc, E.u i.imm, E.i i.sz])] ?_ ?_)
 ·
  generalize hc31 : (((R2.Format i.op) == 7) && (i.ix != (-1))) = b32
  cases b32
  ·
   exact E.C.condF (by kernel_rfl) (by kernel_rfl) (E.C.skip (E.To.pst ⟨by kernel_rfl, by kernel_rfl⟩ Nz.sub (fun _ h => h)))
  refine E.C.condT (by kernel_rfl) (by kernel_rfl) (E.C.region (E.op (.pointer (some ⟨g1, 3, none⟩)) (E.li (E.i i.ix) 0 rfl rfl (E.ca (.bool (R2.reg i.ix)) (fun w h => R2_reg _ w) (E.op (.bool (R2.reg i.ix)) (E.G.cut 4 [(1, E.pt g1), (2, .bool false), (3, E.i (R2.Format i.op)), (4, .bool (bif (((((R2.Format i.op) == 1) || ((R2.Format i.op) == 8)) || ((R2.Format i.op) == 9)) || ((R2.Format i.op) == 10)) then (i.d == 0) else (R2.reg i.d))), (5, .bool (bif ((R2.Format i.op) == 12) then ((decide (i.s ≥ 0)) && (decide (i.s ≤ 4))) else (bif ((R2.Format i.op) == 11) then ((decide (i.s ≥ 0)) && (decide (i.s ≤ 3))) else (bif ((((R2.Format i.op) != 3) && ((R2.Format i.op) != 6)) && ((R2.Format i.op) != 7)) then (i.s == 0) else (R2.reg i.s))))), (6, .bool ((i.ix == (-1)) && (i.sc == 0))), (100, .bool ((R2.reg i.ix) && (decide (i.sc ≥ 0))))] (fun _ => True) [(g1, [E.i i.op, E.i i.d, E.i i.s, E.i i.ix, E.i i.sc, E.u i.imm, E.i i.sz])] ?_ ?_))))))
  ·
   generalize hc33 : (R2.reg i.ix) = b34
   cases b34
   ·
    exact E.sk (E.sk (E.sk (E.op (.bool false) (E.G.end_pst ⟨by kernel_rfl, by kernel_rfl⟩ Nz.sub (fun _ h => h)))))
   exact E.op (.pointer (some ⟨g1, 4, none⟩)) (E.li (E.i i.sc) 0 rfl rfl (E.op (.bool (decide (i.sc ≥ 0))) (E.op (.bool (decide (i.sc ≥ 0))) (E.G.end_pst ⟨by kernel_rfl, by kernel_rfl⟩ Nz.sub (fun _ h => h)))))
  refine E.op (.bool ((R2.reg i.ix) && (decide (i.sc ≥ 0)))) (E.G.cut 4 [(1, E.pt g1), (2, .bool false), (3, E.i (R2.Format i.op)), (4, .bool (bif (((((R2.Format i.op) == 1) || ((R2.Format i.op) == 8)) || ((R2.Format i.op) == 9)) || ((R2.Format i.op) == 10)) then (i.d == 0) else (R2.reg i.d))), (5, .bool (bif ((R2.Format i.op) == 12) then ((decide (i.s ≥ 0)) && (decide (i.s ≤ 4))) else (bif ((R2.Format i.op) == 11) then ((decide (i.s ≥ 0)) && (decide (i.s ≤ 3))) else (bif ((((R2.Format i.op) != 3) && ((R2.Format i.op) != 6)) && ((R2.Format i.op) != 7)) then (i.s == 0) else (R2.reg i.s))))), (6, .bool ((i.ix == (-1)) && (i.sc == 0))), (105, .bool (((R2.reg i.ix) && (decide (i.sc ≥ 0))) && (decide (i.sc ≤ 3))))] (fun _ => True) [(g1, [E.i i.op, E.i i.d, E.i i.s, E.i i.ix, E.i i.sc, E.u i.imm, E.i i.sz])] ?_ ?_)
  ·
   generalize hc35 : ((R2.reg i.ix) && (decide (i.sc ≥ 0))) = b36
   cases b36
   ·
    exact E.sk (E.sk (E.sk (E.op (.bool false) (E.G.end_pst ⟨by kernel_rfl, by kernel_rfl⟩ Nz.sub (fun _ h => h)))))
   exact E.op (.pointer (some ⟨g1, 4, none⟩)) (E.li (E.i i.sc) 0 rfl rfl (E.op (.bool (decide (i.sc ≤ 3))) (E.op (.bool (decide (i.sc ≤ 3))) (E.G.end_pst ⟨by kernel_rfl, by kernel_rfl⟩ Nz.sub (fun _ h => h)))))
  exact E.op (.bool (((R2.reg i.ix) && (decide (i.sc ≥ 0))) && (decide (i.sc ≤ 3)))) (E.To.pst ⟨by kernel_rfl, by kernel_rfl⟩ Nz.sub (fun _ h => h))
 refine E.sr (E.op (.pointer (some ⟨g1, 5, none⟩)) (E.li (E.u i.imm) 0 rfl rfl (E.op (.bool (i.imm == 0)) (E.op (.bool (i.imm == 0)) (E.To.code (E.C.seq (E.sr (E.op (E.i (R2.Format i.op)) (E.op (.bool ((R2.Format i.op) == 4)) (E.op (.bool ((R2.Format i.op) == 4)) (E.G.cut 3 [(1, E.pt g1), (2, .bool false), (3, E.i (R2.Format i.op)), (4, .bool (bif (((((R2.Format i.op) == 1) || ((R2.Format i.op) == 8)) || ((R2.Format i.op) == 9)) || ((R2.Format i.op) == 10)) then (i.d == 0) else (R2.reg i.d))), (5, .bool (bif ((R2.Format i.op) == 12) then ((decide (i.s ≥ 0)) && (decide (i.s ≤ 4))) else (bif ((R2.Format i.op) == 11) then ((decide (i.s ≥ 0)) && (decide (i.s ≤ 3))) else (bif ((((R2.Format i.op) != 3) && ((R2.Format i.op) != 6)) && ((R2.Format i.op) != 7)) then (i.s == 0) else (R2.reg i.s))))), (6, .bool (bif (((R2.Format i.op) == 7) && (i.ix != (-1))) then (((R2.reg i.ix) && (decide (i.sc ≥ 0))) && (decide (i.sc ≤ 3))) else ((i.ix == (-1)) && (i.sc == 0)))), (7, .bool (i.imm == 0)), (114, .bool (((R2.Format i.op) == 4) || ((R2.Format i.op) == 6)))] (fun _ => True) [(g1, [E.i i.op, E.i i.d, E.i i.s, E.i i.ix, E.i i.sc, E.u i.imm, E.i i.sz])] ?_ ?_)))))))))))
 ·
  generalize hc37 : ((R2.Format i.op) == 4) = b38
  cases b38
  ·
   exact E.op (E.i (R2.Format i.op)) (E.op (.bool ((R2.Format i.op) == 6)) (E.op (.bool ((R2.Format i.op) == 6)) (E.G.end_pst ⟨by kernel_rfl, by kernel_rfl⟩ Nz.sub (fun _ h => h))))
  exact E.sk (E.sk (E.op (.bool true) (E.G.end_pst ⟨by kernel_rfl, by kernel_rfl⟩ Nz.sub (fun _ h => h))))
 refine E.op (.bool (((R2.Format i.op) == 4) || ((R2.Format i.op) == 6))) (E.G.cut 3 [(1, E.pt g1), (2, .bool false), (3, E.i (R2.Format i.op)), (4, .bool (bif (((((R2.Format i.op) == 1) || ((R2.Format i.op) == 8)) || ((R2.Format i.op) == 9)) || ((R2.Format i.op) == 10)) then (i.d == 0) else (R2.reg i.d))), (5, .bool (bif ((R2.Format i.op) == 12) then ((decide (i.s ≥ 0)) && (decide (i.s ≤ 4))) else (bif ((R2.Format i.op) == 11) then ((decide (i.s ≥ 0)) && (decide (i.s ≤ 3))) else (bif ((((R2.Format i.op) != 3) && ((R2.Format i.op) != 6)) && ((R2.Format i.op) != 7)) then (i.s == 0) else (R2.reg i.s))))), (6, .bool (bif (((R2.Format i.op) == 7) && (i.ix != (-1))) then (((R2.reg i.ix) && (decide (i.sc ≥ 0))) && (decide (i.sc ≤ 3))) else ((i.ix == (-1)) && (i.sc == 0)))), (7, .bool (i.imm == 0)), (118, .bool ((((R2.Format i.op) == 4) || ((R2.Format i.op) == 6)) || ((R2.Format i.op) == 8)))] (fun _ => True) [(g1, [E.i i.op, E.i i.d, E.i i.s, E.i i.ix, E.i i.sc, E.u i.imm, E.i i.sz])] ?_ ?_)
 ·
  generalize hc39 : (((R2.Format i.op) == 4) || ((R2.Format i.op) == 6)) = b40
  cases b40
  ·
   exact E.op (E.i (R2.Format i.op)) (E.op (.bool ((R2.Format i.op) == 8)) (E.op (.bool ((R2.Format i.op) == 8)) (E.G.end_pst ⟨by kernel_rfl, by kernel_rfl⟩ Nz.sub (fun _ h => h))))
  exact E.sk (E.sk (E.op (.bool true) (E.G.end_pst ⟨by kernel_rfl, by kernel_rfl⟩ Nz.sub (fun _ h => h))))
 refine E.To.code (E.C.thencut [(1, E.pt g1), (2, .bool false), (3, E.i (R2.Format i.op)), (4, .bool (bif (((((R2.Format i.op) == 1) || ((R2.Format i.op) == 8)) || ((R2.Format i.op) == 9)) || ((R2.Format i.op) == 10)) then (i.d == 0) else (R2.reg i.d))), (5, .bool (bif ((R2.Format i.op) == 12) then ((decide (i.s ≥ 0)) && (decide (i.s ≤ 4))) else (bif ((R2.Format i.op) == 11) then ((decide (i.s ≥ 0)) && (decide (i.s ≤ 3))) else (bif ((((R2.Format i.op) != 3) && ((R2.Format i.op) != 6)) && ((R2.Format i.op) != 7)) then (i.s == 0) else (R2.reg i.s))))), (6, .bool (bif (((R2.Format i.op) == 7) && (i.ix != (-1))) then (((R2.reg i.ix) && (decide (i.sc ≥ 0))) && (decide (i.sc ≤ 3))) else ((i.ix == (-1)) && (i.sc == 0)))), (7, .bool (bif ((((R2.Format i.op) == 4) || ((R2.Format i.op) == 6)) || ((R2.Format i.op) == 8)) then (R2.signed i.imm) else (i.imm == 0)))] (fun _ => True) [(g1, [E.i i.op, E.i i.d, E.i i.s, E.i i.ix, E.i i.sc, E.u i.imm, E.i i.sz])] ?_ ?_)
 ·
  generalize hc41 : ((((R2.Format i.op) == 4) || ((R2.Format i.op) == 6)) || ((R2.Format i.op) == 8)) = b42
  cases b42
  ·
   exact E.C.condF (by kernel_rfl) (by kernel_rfl) (E.C.skip (E.To.pst ⟨by kernel_rfl, by kernel_rfl⟩ Nz.sub (fun _ h => h)))
  exact E.C.condT (by kernel_rfl) (by kernel_rfl) (E.C.region (E.op (.pointer (some ⟨g1, 5, none⟩)) (E.li (E.u i.imm) 0 rfl rfl (E.ca (.bool (R2.signed i.imm)) (fun w h => R2_signed _ w) (E.op (.bool (R2.signed i.imm)) (E.To.pst ⟨by kernel_rfl, by kernel_rfl⟩ Nz.sub (fun _ h => h)))))))
 refine E.C.seq (E.sr (E.op (E.i (R2.Format i.op)) (E.op (.bool ((R2.Format i.op) == 5)) (E.op (.bool ((R2.Format i.op) == 5)) (E.G.cut 3 [(1, E.pt g1), (2, .bool false), (3, E.i (R2.Format i.op)), (4, .bool (bif (((((R2.Format i.op) == 1) || ((R2.Format i.op) == 8)) || ((R2.Format i.op) == 9)) || ((R2.Format i.op) == 10)) then (i.d == 0) else (R2.reg i.d))), (5, .bool (bif ((R2.Format i.op) == 12) then ((decide (i.s ≥ 0)) && (decide (i.s ≤ 4))) else (bif ((R2.Format i.op) == 11) then ((decide (i.s ≥ 0)) && (decide (i.s ≤ 3))) else (bif ((((R2.Format i.op) != 3) && ((R2.Format i.op) != 6)) && ((R2.Format i.op) != 7)) then (i.s == 0) else (R2.reg i.s))))), (6, .bool (bif (((R2.Format i.op) == 7) && (i.ix != (-1))) then (((R2.reg i.ix) && (decide (i.sc ≥ 0))) && (decide (i.sc ≤ 3))) else ((i.ix == (-1)) && (i.sc == 0)))), (7, .bool (bif ((((R2.Format i.op) == 4) || ((R2.Format i.op) == 6)) || ((R2.Format i.op) == 8)) then (R2.signed i.imm) else (i.imm == 0))), (127, .bool (((R2.Format i.op) == 5) || ((R2.Format i.op) == 7)))] (fun _ => True) [(g1, [E.i i.op, E.i i.d, E.i i.s, E.i i.ix, E.i i.sc, E.u i.imm, E.i i.sz])] ?_ ?_)))))
 ·
  generalize hc43 : ((R2.Format i.op) == 5) = b44
  cases b44
  ·
   exact E.op (E.i (R2.Format i.op)) (E.op (.bool ((R2.Format i.op) == 7)) (E.op (.bool ((R2.Format i.op) == 7)) (E.G.end_pst ⟨by kernel_rfl, by kernel_rfl⟩ Nz.sub (fun _ h => h))))
  exact E.sk (E.sk (E.op (.bool true) (E.G.end_pst ⟨by kernel_rfl, by kernel_rfl⟩ Nz.sub (fun _ h => h))))
 refine E.op (.bool (((R2.Format i.op) == 5) || ((R2.Format i.op) == 7))) (E.G.cut 3 [(1, E.pt g1), (2, .bool false), (3, E.i (R2.Format i.op)), (4, .bool (bif (((((R2.Format i.op) == 1) || ((R2.Format i.op) == 8)) || ((R2.Format i.op) == 9)) || ((R2.Format i.op) == 10)) then (i.d == 0) else (R2.reg i.d))), (5, .bool (bif ((R2.Format i.op) == 12) then ((decide (i.s ≥ 0)) && (decide (i.s ≤ 4))) else (bif ((R2.Format i.op) == 11) then ((decide (i.s ≥ 0)) && (decide (i.s ≤ 3))) else (bif ((((R2.Format i.op) != 3) && ((R2.Format i.op) != 6)) && ((R2.Format i.op) != 7)) then (i.s == 0) else (R2.reg i.s))))), (6, .bool (bif (((R2.Format i.op) == 7) && (i.ix != (-1))) then (((R2.reg i.ix) && (decide (i.sc ≥ 0))) && (decide (i.sc ≤ 3))) else ((i.ix == (-1)) && (i.sc == 0)))), (7, .bool (bif ((((R2.Format i.op) == 4) || ((R2.Format i.op) == 6)) || ((R2.Format i.op) == 8)) then (R2.signed i.imm) else (i.imm == 0))), (131, .bool ((((R2.Format i.op) == 5) || ((R2.Format i.op) == 7)) || ((R2.Format i.op) == 9)))] (fun _ => True) [(g1, [E.i i.op, E.i i.d, E.i i.s, E.i i.ix, E.i i.sc, E.u i.imm, E.i i.sz])] ?_ ?_)
 ·
  generalize hc45 : (((R2.Format i.op) == 5) || ((R2.Format i.op) == 7)) = b46
  cases b46
  ·
   exact E.op (E.i (R2.Format i.op)) (E.op (.bool ((R2.Format i.op) == 9)) (E.op (.bool ((R2.Format i.op) == 9)) (E.G.end_pst ⟨by kernel_rfl, by kernel_rfl⟩ Nz.sub (fun _ h => h))))
  exact E.sk (E.sk (E.op (.bool true) (E.G.end_pst ⟨by kernel_rfl, by kernel_rfl⟩ Nz.sub (fun _ h => h))))
 refine E.To.code (E.C.thencut [(1, E.pt g1), (2, .bool false), (3, E.i (R2.Format i.op)), (4, .bool (bif (((((R2.Format i.op) == 1) || ((R2.Format i.op) == 8)) || ((R2.Format i.op) == 9)) || ((R2.Format i.op) == 10)) then (i.d == 0) else (R2.reg i.d))), (5, .bool (bif ((R2.Format i.op) == 12) then ((decide (i.s ≥ 0)) && (decide (i.s ≤ 4))) else (bif ((R2.Format i.op) == 11) then ((decide (i.s ≥ 0)) && (decide (i.s ≤ 3))) else (bif ((((R2.Format i.op) != 3) && ((R2.Format i.op) != 6)) && ((R2.Format i.op) != 7)) then (i.s == 0) else (R2.reg i.s))))), (6, .bool (bif (((R2.Format i.op) == 7) && (i.ix != (-1))) then (((R2.reg i.ix) && (decide (i.sc ≥ 0))) && (decide (i.sc ≤ 3))) else ((i.ix == (-1)) && (i.sc == 0)))), (7, .bool (((((R2.Format i.op) == 5) || ((R2.Format i.op) == 7)) || ((R2.Format i.op) == 9)) || (bif ((((R2.Format i.op) == 4) || ((R2.Format i.op) == 6)) || ((R2.Format i.op) == 8)) then (R2.signed i.imm) else (i.imm == 0))))] (fun _ => True) [(g1, [E.i i.op, E.i i.d, E.i i.s, E.i i.ix, E.i i.sc, E.u i.imm, E.i i.sz])] ?_ ?_)
 ·
  generalize hc47 : ((((R2.Format i.op) == 5) || ((R2.Format i.op) == 7)) || ((R2.Format i.op) == 9)) = b48
  cases b48
  ·
   exact E.C.condF (by kernel_rfl) (by kernel_rfl) (E.C.skip (E.To.pst ⟨by kernel_rfl, by kernel_rfl⟩ Nz.sub (fun _ h => h)))
  exact E.C.condT (by kernel_rfl) (by kernel_rfl) (E.C.region (E.op (.bool true) (E.To.pst ⟨by kernel_rfl, by kernel_rfl⟩ Nz.sub (fun _ h => h))))
 refine E.C.seq (E.sr (E.op (E.i (R2.Format i.op)) (E.op (.bool ((R2.Format i.op) == 10)) (E.To.code (E.C.thencut [(2, .bool false), (4, .bool (bif (((((R2.Format i.op) == 1) || ((R2.Format i.op) == 8)) || ((R2.Format i.op) == 9)) || ((R2.Format i.op) == 10)) then (i.d == 0) else (R2.reg i.d))), (5, .bool (bif ((R2.Format i.op) == 12) then ((decide (i.s ≥ 0)) && (decide (i.s ≤ 4))) else (bif ((R2.Format i.op) == 11) then ((decide (i.s ≥ 0)) && (decide (i.s ≤ 3))) else (bif ((((R2.Format i.op) != 3) && ((R2.Format i.op) != 6)) && ((R2.Format i.op) != 7)) then (i.s == 0) else (R2.reg i.s))))), (6, .bool (bif (((R2.Format i.op) == 7) && (i.ix != (-1))) then (((R2.reg i.ix) && (decide (i.sc ≥ 0))) && (decide (i.sc ≤ 3))) else ((i.ix == (-1)) && (i.sc == 0)))), (7, .bool (bif ((R2.Format i.op) == 10) then (decide (i.imm < 256)) else (((((R2.Format i.op) == 5) || ((R2.Format i.op) == 7)) || ((R2.Format i.op) == 9)) || (bif ((((R2.Format i.op) == 4) || ((R2.Format i.op) == 6)) || ((R2.Format i.op) == 8)) then (R2.signed i.imm) else (i.imm == 0)))))] (fun _ => True) [(g1, [E.i i.op, E.i i.d, E.i i.s, E.i i.ix, E.i i.sc, E.u i.imm, E.i i.sz])] ?_ ?_)))))
 ·
  generalize hc49 : ((R2.Format i.op) == 10) = b50
  cases b50
  ·
   exact E.C.condF (by kernel_rfl) (by kernel_rfl) (E.C.skip (E.To.pst ⟨by kernel_rfl, by kernel_rfl⟩ Nz.sub (fun _ h => h)))
  exact E.C.condT (by kernel_rfl) (by kernel_rfl) (E.C.region (E.op (.pointer (some ⟨g1, 5, none⟩)) (E.li (E.u i.imm) 0 rfl rfl (E.op (.bool (decide (i.imm < 256))) (E.op (.bool (decide (i.imm < 256))) (E.To.pst ⟨by kernel_rfl, by kernel_rfl⟩ Nz.sub (fun _ h => h)))))))
 refine E.sr (E.op (.bool (bif (((((R2.Format i.op) == 1) || ((R2.Format i.op) == 8)) || ((R2.Format i.op) == 9)) || ((R2.Format i.op) == 10)) then (i.d == 0) else (R2.reg i.d))) (E.op (.bool (bif (((((R2.Format i.op) == 1) || ((R2.Format i.op) == 8)) || ((R2.Format i.op) == 9)) || ((R2.Format i.op) == 10)) then (i.d == 0) else (R2.reg i.d))) (E.G.cut 2 [(2, .bool false), (6, .bool (bif (((R2.Format i.op) == 7) && (i.ix != (-1))) then (((R2.reg i.ix) && (decide (i.sc ≥ 0))) && (decide (i.sc ≤ 3))) else ((i.ix == (-1)) && (i.sc == 0)))), (7, .bool (bif ((R2.Format i.op) == 10) then (decide (i.imm < 256)) else (((((R2.Format i.op) == 5) || ((R2.Format i.op) == 7)) || ((R2.Format i.op) == 9)) || (bif ((((R2.Format i.op) == 4) || ((R2.Format i.op) == 6)) || ((R2.Format i.op) == 8)) then (R2.signed i.imm) else (i.imm == 0))))), (140, .bool ((bif (((((R2.Format i.op) == 1) || ((R2.Format i.op) == 8)) || ((R2.Format i.op) == 9)) || ((R2.Format i.op) == 10)) then (i.d == 0) else (R2.reg i.d)) && (bif ((R2.Format i.op) == 12) then ((decide (i.s ≥ 0)) && (decide (i.s ≤ 4))) else (bif ((R2.Format i.op) == 11) then ((decide (i.s ≥ 0)) && (decide (i.s ≤ 3))) else (bif ((((R2.Format i.op) != 3) && ((R2.Format i.op) != 6)) && ((R2.Format i.op) != 7)) then (i.s == 0) else (R2.reg i.s))))))] (fun _ => True) [(g1, [E.i i.op, E.i i.d, E.i i.s, E.i i.ix, E.i i.sc, E.u i.imm, E.i i.sz])] ?_ ?_)))
 ·
  generalize hc51 : (bif (((((R2.Format i.op) == 1) || ((R2.Format i.op) == 8)) || ((R2.Format i.op) == 9)) || ((R2.Format i.op) == 10)) then (i.d == 0) else (R2.reg i.d)) = b52
  cases b52
  ·
   exact E.sk (E.op (.bool false) (E.G.end_pst ⟨by kernel_rfl, by kernel_rfl⟩ Nz.sub (fun _ h => h)))
  exact E.op (.bool (bif ((R2.Format i.op) == 12) then ((decide (i.s ≥ 0)) && (decide (i.s ≤ 4))) else (bif ((R2.Format i.op) == 11) then ((decide (i.s ≥ 0)) && (decide (i.s ≤ 3))) else (bif ((((R2.Format i.op) != 3) && ((R2.Format i.op) != 6)) && ((R2.Format i.op) != 7)) then (i.s == 0) else (R2.reg i.s))))) (E.op (.bool (bif ((R2.Format i.op) == 12) then ((decide (i.s ≥ 0)) && (decide (i.s ≤ 4))) else (bif ((R2.Format i.op) == 11) then ((decide (i.s ≥ 0)) && (decide (i.s ≤ 3))) else (bif ((((R2.Format i.op) != 3) && ((R2.Format i.op) != 6)) && ((R2.Format i.op) != 7)) then (i.s == 0) else (R2.reg i.s))))) (E.G.end_pst ⟨by kernel_rfl, by kernel_rfl⟩ Nz.sub (fun _ h => h)))
 refine E.op (.bool ((bif (((((R2.Format i.op) == 1) || ((R2.Format i.op) == 8)) || ((R2.Format i.op) == 9)) || ((R2.Format i.op) == 10)) then (i.d == 0) else (R2.reg i.d)) && (bif ((R2.Format i.op) == 12) then ((decide (i.s ≥ 0)) && (decide (i.s ≤ 4))) else (bif ((R2.Format i.op) == 11) then ((decide (i.s ≥ 0)) && (decide (i.s ≤ 3))) else (bif ((((R2.Format i.op) != 3) && ((R2.Format i.op) != 6)) && ((R2.Format i.op) != 7)) then (i.s == 0) else (R2.reg i.s)))))) (E.G.cut 2 [(2, .bool false), (7, .bool (bif ((R2.Format i.op) == 10) then (decide (i.imm < 256)) else (((((R2.Format i.op) == 5) || ((R2.Format i.op) == 7)) || ((R2.Format i.op) == 9)) || (bif ((((R2.Format i.op) == 4) || ((R2.Format i.op) == 6)) || ((R2.Format i.op) == 8)) then (R2.signed i.imm) else (i.imm == 0))))), (143, .bool (((bif (((((R2.Format i.op) == 1) || ((R2.Format i.op) == 8)) || ((R2.Format i.op) == 9)) || ((R2.Format i.op) == 10)) then (i.d == 0) else (R2.reg i.d)) && (bif ((R2.Format i.op) == 12) then ((decide (i.s ≥ 0)) && (decide (i.s ≤ 4))) else (bif ((R2.Format i.op) == 11) then ((decide (i.s ≥ 0)) && (decide (i.s ≤ 3))) else (bif ((((R2.Format i.op) != 3) && ((R2.Format i.op) != 6)) && ((R2.Format i.op) != 7)) then (i.s == 0) else (R2.reg i.s))))) && (bif (((R2.Format i.op) == 7) && (i.ix != (-1))) then (((R2.reg i.ix) && (decide (i.sc ≥ 0))) && (decide (i.sc ≤ 3))) else ((i.ix == (-1)) && (i.sc == 0)))))] (fun _ => True) [(g1, [E.i i.op, E.i i.d, E.i i.s, E.i i.ix, E.i i.sc, E.u i.imm, E.i i.sz])] ?_ ?_)
 ·
  generalize hc53 : ((bif (((((R2.Format i.op) == 1) || ((R2.Format i.op) == 8)) || ((R2.Format i.op) == 9)) || ((R2.Format i.op) == 10)) then (i.d == 0) else (R2.reg i.d)) && (bif ((R2.Format i.op) == 12) then ((decide (i.s ≥ 0)) && (decide (i.s ≤ 4))) else (bif ((R2.Format i.op) == 11) then ((decide (i.s ≥ 0)) && (decide (i.s ≤ 3))) else (bif ((((R2.Format i.op) != 3) && ((R2.Format i.op) != 6)) && ((R2.Format i.op) != 7)) then (i.s == 0) else (R2.reg i.s))))) = b54
  cases b54
  ·
   exact E.sk (E.op (.bool false) (E.G.end_pst ⟨by kernel_rfl, by kernel_rfl⟩ Nz.sub (fun _ h => h)))
  exact E.op (.bool (bif (((R2.Format i.op) == 7) && (i.ix != (-1))) then (((R2.reg i.ix) && (decide (i.sc ≥ 0))) && (decide (i.sc ≤ 3))) else ((i.ix == (-1)) && (i.sc == 0)))) (E.op (.bool (bif (((R2.Format i.op) == 7) && (i.ix != (-1))) then (((R2.reg i.ix) && (decide (i.sc ≥ 0))) && (decide (i.sc ≤ 3))) else ((i.ix == (-1)) && (i.sc == 0)))) (E.G.end_pst ⟨by kernel_rfl, by kernel_rfl⟩ Nz.sub (fun _ h => h)))
 refine E.op (.bool (((bif (((((R2.Format i.op) == 1) || ((R2.Format i.op) == 8)) || ((R2.Format i.op) == 9)) || ((R2.Format i.op) == 10)) then (i.d == 0) else (R2.reg i.d)) && (bif ((R2.Format i.op) == 12) then ((decide (i.s ≥ 0)) && (decide (i.s ≤ 4))) else (bif ((R2.Format i.op) == 11) then ((decide (i.s ≥ 0)) && (decide (i.s ≤ 3))) else (bif ((((R2.Format i.op) != 3) && ((R2.Format i.op) != 6)) && ((R2.Format i.op) != 7)) then (i.s == 0) else (R2.reg i.s))))) && (bif (((R2.Format i.op) == 7) && (i.ix != (-1))) then (((R2.reg i.ix) && (decide (i.sc ≥ 0))) && (decide (i.sc ≤ 3))) else ((i.ix == (-1)) && (i.sc == 0))))) (E.G.cut 2 [(2, .bool false), (146, .bool ((((bif (((((R2.Format i.op) == 1) || ((R2.Format i.op) == 8)) || ((R2.Format i.op) == 9)) || ((R2.Format i.op) == 10)) then (i.d == 0) else (R2.reg i.d)) && (bif ((R2.Format i.op) == 12) then ((decide (i.s ≥ 0)) && (decide (i.s ≤ 4))) else (bif ((R2.Format i.op) == 11) then ((decide (i.s ≥ 0)) && (decide (i.s ≤ 3))) else (bif ((((R2.Format i.op) != 3) && ((R2.Format i.op) != 6)) && ((R2.Format i.op) != 7)) then (i.s == 0) else (R2.reg i.s))))) && (bif (((R2.Format i.op) == 7) && (i.ix != (-1))) then (((R2.reg i.ix) && (decide (i.sc ≥ 0))) && (decide (i.sc ≤ 3))) else ((i.ix == (-1)) && (i.sc == 0)))) && (bif ((R2.Format i.op) == 10) then (decide (i.imm < 256)) else (((((R2.Format i.op) == 5) || ((R2.Format i.op) == 7)) || ((R2.Format i.op) == 9)) || (bif ((((R2.Format i.op) == 4) || ((R2.Format i.op) == 6)) || ((R2.Format i.op) == 8)) then (R2.signed i.imm) else (i.imm == 0))))))] (fun _ => True) [(g1, [E.i i.op, E.i i.d, E.i i.s, E.i i.ix, E.i i.sc, E.u i.imm, E.i i.sz])] ?_ ?_)
 ·
  generalize hc55 : (((bif (((((R2.Format i.op) == 1) || ((R2.Format i.op) == 8)) || ((R2.Format i.op) == 9)) || ((R2.Format i.op) == 10)) then (i.d == 0) else (R2.reg i.d)) && (bif ((R2.Format i.op) == 12) then ((decide (i.s ≥ 0)) && (decide (i.s ≤ 4))) else (bif ((R2.Format i.op) == 11) then ((decide (i.s ≥ 0)) && (decide (i.s ≤ 3))) else (bif ((((R2.Format i.op) != 3) && ((R2.Format i.op) != 6)) && ((R2.Format i.op) != 7)) then (i.s == 0) else (R2.reg i.s))))) && (bif (((R2.Format i.op) == 7) && (i.ix != (-1))) then (((R2.reg i.ix) && (decide (i.sc ≥ 0))) && (decide (i.sc ≤ 3))) else ((i.ix == (-1)) && (i.sc == 0)))) = b56
  cases b56
  ·
   exact E.sk (E.op (.bool false) (E.G.end_pst ⟨by kernel_rfl, by kernel_rfl⟩ Nz.sub (fun _ h => h)))
  exact E.op (.bool (bif ((R2.Format i.op) == 10) then (decide (i.imm < 256)) else (((((R2.Format i.op) == 5) || ((R2.Format i.op) == 7)) || ((R2.Format i.op) == 9)) || (bif ((((R2.Format i.op) == 4) || ((R2.Format i.op) == 6)) || ((R2.Format i.op) == 8)) then (R2.signed i.imm) else (i.imm == 0))))) (E.op (.bool (bif ((R2.Format i.op) == 10) then (decide (i.imm < 256)) else (((((R2.Format i.op) == 5) || ((R2.Format i.op) == 7)) || ((R2.Format i.op) == 9)) || (bif ((((R2.Format i.op) == 4) || ((R2.Format i.op) == 6)) || ((R2.Format i.op) == 8)) then (R2.signed i.imm) else (i.imm == 0))))) (E.G.end_pst ⟨by kernel_rfl, by kernel_rfl⟩ Nz.sub (fun _ h => h)))
 exact E.op (.bool ((((bif (((((R2.Format i.op) == 1) || ((R2.Format i.op) == 8)) || ((R2.Format i.op) == 9)) || ((R2.Format i.op) == 10)) then (i.d == 0) else (R2.reg i.d)) && (bif ((R2.Format i.op) == 12) then ((decide (i.s ≥ 0)) && (decide (i.s ≤ 4))) else (bif ((R2.Format i.op) == 11) then ((decide (i.s ≥ 0)) && (decide (i.s ≤ 3))) else (bif ((((R2.Format i.op) != 3) && ((R2.Format i.op) != 6)) && ((R2.Format i.op) != 7)) then (i.s == 0) else (R2.reg i.s))))) && (bif (((R2.Format i.op) == 7) && (i.ix != (-1))) then (((R2.reg i.ix) && (decide (i.sc ≥ 0))) && (decide (i.sc ≤ 3))) else ((i.ix == (-1)) && (i.sc == 0)))) && (bif ((R2.Format i.op) == 10) then (decide (i.imm < 256)) else (((((R2.Format i.op) == 5) || ((R2.Format i.op) == 7)) || ((R2.Format i.op) == 9)) || (bif ((((R2.Format i.op) == 4) || ((R2.Format i.op) == 6)) || ((R2.Format i.op) == 8)) then (R2.signed i.imm) else (i.imm == 0)))))) (E.To.code (E.C.ret (E.bd Tryz.f69 [.bool ((((bif (((((R2.Format i.op) == 1) || ((R2.Format i.op) == 8)) || ((R2.Format i.op) == 9)) || ((R2.Format i.op) == 10)) then (i.d == 0) else (R2.reg i.d)) && (bif ((R2.Format i.op) == 12) then ((decide (i.s ≥ 0)) && (decide (i.s ≤ 4))) else (bif ((R2.Format i.op) == 11) then ((decide (i.s ≥ 0)) && (decide (i.s ≤ 3))) else (bif ((((R2.Format i.op) != 3) && ((R2.Format i.op) != 6)) && ((R2.Format i.op) != 7)) then (i.s == 0) else (R2.reg i.s))))) && (bif (((R2.Format i.op) == 7) && (i.ix != (-1))) then (((R2.reg i.ix) && (decide (i.sc ≥ 0))) && (decide (i.sc ≤ 3))) else ((i.ix == (-1)) && (i.sc == 0)))) && (bif ((R2.Format i.op) == 10) then (decide (i.imm < 256)) else (((((R2.Format i.op) == 5) || ((R2.Format i.op) == 7)) || ((R2.Format i.op) == 9)) || (bif ((((R2.Format i.op) == 4) || ((R2.Format i.op) == 6)) || ((R2.Format i.op) == 8)) then (R2.signed i.imm) else (i.imm == 0)))))] (fun w h => ⟨by unfold R2.Valid; rw [hc4, cond_false] <;> rfl, h.ch.bel (fun _ h => h.elim)⟩))))

def R2.read (s : ByteArray) : K.Ins := (bif (((R2.Format (IntKind.wrap .i64 (W.byt s.data.toList 0))) == 4) || ((R2.Format (IntKind.wrap .i64 (W.byt s.data.toList 0))) == 6)) then ⟨(IntKind.wrap .i64 (W.byt s.data.toList 0)), (bif ((((R2.Format (IntKind.wrap .i64 (W.byt s.data.toList 0))) == 2) || ((R2.Format (IntKind.wrap .i64 (W.byt s.data.toList 0))) == 4)) || ((R2.Format (IntKind.wrap .i64 (W.byt s.data.toList 0))) == 5)) then (IntKind.wrap .i64 (W.byt s.data.toList 1)) else (bif (decide (((s.size : Nat) : Int) > 1)) then (IntKind.wrap .i64 (Int.tdiv (IntKind.wrap .i64 (W.byt s.data.toList 1)) 16)) else 0)), (bif ((((R2.Format (IntKind.wrap .i64 (W.byt s.data.toList 0))) == 2) || ((R2.Format (IntKind.wrap .i64 (W.byt s.data.toList 0))) == 4)) || ((R2.Format (IntKind.wrap .i64 (W.byt s.data.toList 0))) == 5)) then 0 else (bif (decide (((s.size : Nat) : Int) > 1)) then (Int.tmod (IntKind.wrap .i64 (W.byt s.data.toList 1)) 16) else 0)), -1, 0, (R2.extend (W.byt s.data.toList 2)), ((s.size : Nat) : Int)⟩ else (bif ((R2.Format (IntKind.wrap .i64 (W.byt s.data.toList 0))) == 5) then ⟨(IntKind.wrap .i64 (W.byt s.data.toList 0)), (bif ((((R2.Format (IntKind.wrap .i64 (W.byt s.data.toList 0))) == 2) || ((R2.Format (IntKind.wrap .i64 (W.byt s.data.toList 0))) == 4)) || ((R2.Format (IntKind.wrap .i64 (W.byt s.data.toList 0))) == 5)) then (IntKind.wrap .i64 (W.byt s.data.toList 1)) else (bif (decide (((s.size : Nat) : Int) > 1)) then (IntKind.wrap .i64 (Int.tdiv (IntKind.wrap .i64 (W.byt s.data.toList 1)) 16)) else 0)), (bif ((((R2.Format (IntKind.wrap .i64 (W.byt s.data.toList 0))) == 2) || ((R2.Format (IntKind.wrap .i64 (W.byt s.data.toList 0))) == 4)) || ((R2.Format (IntKind.wrap .i64 (W.byt s.data.toList 0))) == 5)) then 0 else (bif (decide (((s.size : Nat) : Int) > 1)) then (Int.tmod (IntKind.wrap .i64 (W.byt s.data.toList 1)) 16) else 0)), -1, 0, (R2.long (s.extract 2 s.size)), ((s.size : Nat) : Int)⟩ else (bif ((R2.Format (IntKind.wrap .i64 (W.byt s.data.toList 0))) == 7) then (bif ((W.byt s.data.toList 2) != 8) then ⟨(IntKind.wrap .i64 (W.byt s.data.toList 0)), (bif ((((R2.Format (IntKind.wrap .i64 (W.byt s.data.toList 0))) == 2) || ((R2.Format (IntKind.wrap .i64 (W.byt s.data.toList 0))) == 4)) || ((R2.Format (IntKind.wrap .i64 (W.byt s.data.toList 0))) == 5)) then (IntKind.wrap .i64 (W.byt s.data.toList 1)) else (bif (decide (((s.size : Nat) : Int) > 1)) then (IntKind.wrap .i64 (Int.tdiv (IntKind.wrap .i64 (W.byt s.data.toList 1)) 16)) else 0)), (bif ((((R2.Format (IntKind.wrap .i64 (W.byt s.data.toList 0))) == 2) || ((R2.Format (IntKind.wrap .i64 (W.byt s.data.toList 0))) == 4)) || ((R2.Format (IntKind.wrap .i64 (W.byt s.data.toList 0))) == 5)) then 0 else (bif (decide (((s.size : Nat) : Int) > 1)) then (Int.tmod (IntKind.wrap .i64 (W.byt s.data.toList 1)) 16) else 0)), (Int.tmod (IntKind.wrap .i64 (W.byt s.data.toList 2)) 16), (IntKind.wrap .i64 (Int.tdiv (IntKind.wrap .i64 (W.byt s.data.toList 2)) 16)), (R2.long (s.extract 3 s.size)), ((s.size : Nat) : Int)⟩ else ⟨(IntKind.wrap .i64 (W.byt s.data.toList 0)), (bif ((((R2.Format (IntKind.wrap .i64 (W.byt s.data.toList 0))) == 2) || ((R2.Format (IntKind.wrap .i64 (W.byt s.data.toList 0))) == 4)) || ((R2.Format (IntKind.wrap .i64 (W.byt s.data.toList 0))) == 5)) then (IntKind.wrap .i64 (W.byt s.data.toList 1)) else (bif (decide (((s.size : Nat) : Int) > 1)) then (IntKind.wrap .i64 (Int.tdiv (IntKind.wrap .i64 (W.byt s.data.toList 1)) 16)) else 0)), (bif ((((R2.Format (IntKind.wrap .i64 (W.byt s.data.toList 0))) == 2) || ((R2.Format (IntKind.wrap .i64 (W.byt s.data.toList 0))) == 4)) || ((R2.Format (IntKind.wrap .i64 (W.byt s.data.toList 0))) == 5)) then 0 else (bif (decide (((s.size : Nat) : Int) > 1)) then (Int.tmod (IntKind.wrap .i64 (W.byt s.data.toList 1)) 16) else 0)), -1, 0, (R2.long (s.extract 3 s.size)), ((s.size : Nat) : Int)⟩) else (bif (((R2.Format (IntKind.wrap .i64 (W.byt s.data.toList 0))) == 8) || (((R2.Format (IntKind.wrap .i64 (W.byt s.data.toList 0))) == 10) || ((R2.Format (IntKind.wrap .i64 (W.byt s.data.toList 0))) == 9))) then (bif ((R2.Format (IntKind.wrap .i64 (W.byt s.data.toList 0))) == 9) then ⟨(IntKind.wrap .i64 (W.byt s.data.toList 0)), 0, 0, -1, 0, (R2.long (s.extract 1 s.size)), ((s.size : Nat) : Int)⟩ else ⟨(IntKind.wrap .i64 (W.byt s.data.toList 0)), 0, 0, -1, 0, (bif ((R2.Format (IntKind.wrap .i64 (W.byt s.data.toList 0))) == 8) then (R2.extend (W.byt s.data.toList 1)) else (IntKind.wrap .u32 (W.byt s.data.toList 1))), ((s.size : Nat) : Int)⟩) else ⟨(IntKind.wrap .i64 (W.byt s.data.toList 0)), (bif ((((R2.Format (IntKind.wrap .i64 (W.byt s.data.toList 0))) == 2) || ((R2.Format (IntKind.wrap .i64 (W.byt s.data.toList 0))) == 4)) || ((R2.Format (IntKind.wrap .i64 (W.byt s.data.toList 0))) == 5)) then (IntKind.wrap .i64 (W.byt s.data.toList 1)) else (bif (decide (((s.size : Nat) : Int) > 1)) then (IntKind.wrap .i64 (Int.tdiv (IntKind.wrap .i64 (W.byt s.data.toList 1)) 16)) else 0)), (bif ((((R2.Format (IntKind.wrap .i64 (W.byt s.data.toList 0))) == 2) || ((R2.Format (IntKind.wrap .i64 (W.byt s.data.toList 0))) == 4)) || ((R2.Format (IntKind.wrap .i64 (W.byt s.data.toList 0))) == 5)) then 0 else (bif (decide (((s.size : Nat) : Int) > 1)) then (Int.tmod (IntKind.wrap .i64 (W.byt s.data.toList 1)) 16) else 0)), -1, 0, 0, ((s.size : Nat) : Int)⟩))))
theorem R2_four {S : Nat → Prop} {w0 : World} {X : World → Prop} {L : List (Nat × List Value)} (x : Int)  (w : World) (hh : E.Hp S w0 X L w) : Calls Tryz.prog 70 #[.int .u32 x] w fun e w' => ∃ g, e = .returned (.slice (some ⟨g, 0, none⟩) 4 4) ∧ E.Hp S w0 X ((g, [.int .u8 (IntKind.wrap .u8 x), .int .u8 (IntKind.wrap .u8 (IntKind.wrap .u32 (Int.tdiv x 256))), .int .u8 (IntKind.wrap .u8 (IntKind.wrap .u32 (Int.tdiv x 65536))), .int .u8 (IntKind.wrap .u8 (IntKind.wrap .u32 (Int.tdiv x 16777216)))]) :: L) w' := by
 refine E.enter (n := 15) (S := S) Tryz.func70 rfl rfl (by kernel_rfl) (hh) (E.sr (E.op (.slice none 0 0) (E.tr (E.op (E.u x) (E.op (.int .u8 (IntKind.wrap .u8 x)) (E.op (E.u x) (E.op (E.u (IntKind.wrap .u32 (Int.tdiv x 256))) (E.op (.int .u8 (IntKind.wrap .u8 (IntKind.wrap .u32 (Int.tdiv x 256)))) (E.op (E.u x) (E.op (E.u (IntKind.wrap .u32 (Int.tdiv x 65536))) (E.op (.int .u8 (IntKind.wrap .u8 (IntKind.wrap .u32 (Int.tdiv x 65536)))) ?_)))))))))))
 exact E.op (E.u x) (E.op (E.u (IntKind.wrap .u32 (Int.tdiv x 16777216))) (E.op (.int .u8 (IntKind.wrap .u8 (IntKind.wrap .u32 (Int.tdiv x 16777216)))) (E.G.buildSlice [.int .u8 (IntKind.wrap .u8 x), .int .u8 (IntKind.wrap .u8 (IntKind.wrap .u32 (Int.tdiv x 256))), .int .u8 (IntKind.wrap .u8 (IntKind.wrap .u32 (Int.tdiv x 65536))), .int .u8 (IntKind.wrap .u8 (IntKind.wrap .u32 (Int.tdiv x 16777216)))] (by kernel_rfl) (by kernel_rfl) (fun g1 => E.op (.slice (some ⟨g1, 0, none⟩) 4 4) (E.To.code (E.wk [(2, .slice (some ⟨g1, 0, none⟩) 4 4)] ((g1, [.int .u8 (IntKind.wrap .u8 x), .int .u8 (IntKind.wrap .u8 (IntKind.wrap .u32 (Int.tdiv x 256))), .int .u8 (IntKind.wrap .u8 (IntKind.wrap .u32 (Int.tdiv x 65536))), .int .u8 (IntKind.wrap .u8 (IntKind.wrap .u32 (Int.tdiv x 16777216)))]) :: L) Nz.sub (E.C.ret (E.bd Tryz.f70 [.slice (some ⟨g1, 0, none⟩) 4 4] (fun w h => ⟨g1, rfl, h.less Nz.sub⟩)))))))))

theorem R2.byt_extract (s : ByteArray) (m j : Nat) (h : j < m) (hm : m ≤ s.size) : W.byt (s.extract 0 m).data.toList j = W.byt s.data.toList j := by
  unfold W.byt
  congr 2
  simp [ByteArray.data_extract, List.getElem?_take, h]
def R2.Decode (s : ByteArray) : K.Ins × Int := (bif (s.toList == (⟨#[]⟩ : ByteArray).toList) then (⟨0, 0, 0, 0, 0, 0, 0⟩, 10) else (bif ((R2.Size (W.byt s.data.toList 0)) == 0) then (⟨0, 0, 0, 0, 0, 0, 0⟩, 12) else (bif (decide (((s.size : Nat) : Int) < (R2.Size (W.byt s.data.toList 0)))) then (⟨0, 0, 0, 0, 0, 0, 0⟩, 10) else (bif (!(R2.Valid ((R2.read (s.extract 0 ((R2.Size (W.byt s.data.toList 0))).toNat))))) then (⟨0, 0, 0, 0, 0, 0, 0⟩, 12) else (⟨((R2.read (s.extract 0 ((R2.Size (W.byt s.data.toList 0))).toNat))).op, ((R2.read (s.extract 0 ((R2.Size (W.byt s.data.toList 0))).toNat))).d, ((R2.read (s.extract 0 ((R2.Size (W.byt s.data.toList 0))).toNat))).s, ((R2.read (s.extract 0 ((R2.Size (W.byt s.data.toList 0))).toNat))).ix, ((R2.read (s.extract 0 ((R2.Size (W.byt s.data.toList 0))).toNat))).sc, ((R2.read (s.extract 0 ((R2.Size (W.byt s.data.toList 0))).toNat))).imm, ((R2.read (s.extract 0 ((R2.Size (W.byt s.data.toList 0))).toNat))).sz⟩, 0)))))
def R2.Encode (i : K.Ins) : ByteArray × Int := (bif (!(R2.Valid i)) then ((⟨#[]⟩ : ByteArray), 12) else (bif ((R2.Format i.op) == 2) then ((strOfNums [(IntKind.wrap .u8 i.op), (IntKind.wrap .u8 i.d)]), 0) else (bif ((R2.Format i.op) == 3) then ((strOfNums [(IntKind.wrap .u8 i.op), (IntKind.wrap .u8 (IntKind.wrap .i64 ((IntKind.wrap .i64 (16 * i.d)) + i.s)))]), 0) else (bif ((R2.Format i.op) == 11) then ((strOfNums [(IntKind.wrap .u8 i.op), (IntKind.wrap .u8 (IntKind.wrap .i64 ((IntKind.wrap .i64 (16 * i.d)) + i.s)))]), 0) else (bif ((R2.Format i.op) == 12) then ((strOfNums [(IntKind.wrap .u8 i.op), (IntKind.wrap .u8 (IntKind.wrap .i64 ((IntKind.wrap .i64 (16 * i.d)) + i.s)))]), 0) else (bif ((R2.Format i.op) == 4) then ((strOfNums [(IntKind.wrap .u8 i.op), (IntKind.wrap .u8 i.d), (IntKind.wrap .u8 i.imm)]), 0) else (bif ((R2.Format i.op) == 5) then ((strOfNums [(IntKind.wrap .u8 i.op), (IntKind.wrap .u8 i.d), (IntKind.wrap .u8 i.imm), (IntKind.wrap .u8 (IntKind.wrap .u32 (Int.tdiv i.imm 256))), (IntKind.wrap .u8 (IntKind.wrap .u32 (Int.tdiv i.imm 65536))), (IntKind.wrap .u8 (IntKind.wrap .u32 (Int.tdiv i.imm 16777216)))]), 0) else (bif ((R2.Format i.op) == 6) then ((strOfNums [(IntKind.wrap .u8 i.op), (IntKind.wrap .u8 (IntKind.wrap .i64 ((IntKind.wrap .i64 (16 * i.d)) + i.s))), (IntKind.wrap .u8 i.imm)]), 0) else (bif ((R2.Format i.op) == 7) then (bif (decide (i.ix ≥ 0)) then ((strOfNums [(IntKind.wrap .u8 i.op), (IntKind.wrap .u8 (IntKind.wrap .i64 ((IntKind.wrap .i64 (16 * i.d)) + i.s))), (IntKind.wrap .u8 (IntKind.wrap .i64 (i.ix + (IntKind.wrap .i64 (16 * i.sc))))), (IntKind.wrap .u8 i.imm), (IntKind.wrap .u8 (IntKind.wrap .u32 (Int.tdiv i.imm 256))), (IntKind.wrap .u8 (IntKind.wrap .u32 (Int.tdiv i.imm 65536))), (IntKind.wrap .u8 (IntKind.wrap .u32 (Int.tdiv i.imm 16777216)))]), 0) else ((strOfNums [(IntKind.wrap .u8 i.op), (IntKind.wrap .u8 (IntKind.wrap .i64 ((IntKind.wrap .i64 (16 * i.d)) + i.s))), 8, (IntKind.wrap .u8 i.imm), (IntKind.wrap .u8 (IntKind.wrap .u32 (Int.tdiv i.imm 256))), (IntKind.wrap .u8 (IntKind.wrap .u32 (Int.tdiv i.imm 65536))), (IntKind.wrap .u8 (IntKind.wrap .u32 (Int.tdiv i.imm 16777216)))]), 0)) else (bif ((R2.Format i.op) == 8) then ((strOfNums [(IntKind.wrap .u8 i.op), (IntKind.wrap .u8 i.imm)]), 0) else (bif ((R2.Format i.op) == 10) then ((strOfNums [(IntKind.wrap .u8 i.op), (IntKind.wrap .u8 i.imm)]), 0) else (bif ((R2.Format i.op) == 9) then ((strOfNums [(IntKind.wrap .u8 i.op), (IntKind.wrap .u8 i.imm), (IntKind.wrap .u8 (IntKind.wrap .u32 (Int.tdiv i.imm 256))), (IntKind.wrap .u8 (IntKind.wrap .u32 (Int.tdiv i.imm 65536))), (IntKind.wrap .u8 (IntKind.wrap .u32 (Int.tdiv i.imm 16777216)))]), 0) else ((strOfNums [(IntKind.wrap .u8 i.op)]), 0)))))))))))))
theorem R2_Encode (i : K.Ins) (w : World) : Calls Tryz.prog 29 #[.agg #[.int .i64 i.op, .int .i64 i.d, .int .i64 i.s, .int .i64 i.ix, .int .i64 i.sc, .int .u32 i.imm, .int .i64 i.sz]] w fun e w' => e = .returned (.agg #[.string (((R2.Encode i)).1), .int .i64 (((R2.Encode i)).2)]) ∧ Bel w w' := by
 refine E.enter (n := 112) (S := fun _ => False) Tryz.func29 rfl rfl (by kernel_rfl) (E.Hp.start w) (E.sr (E.nw [E.i i.op, E.i i.d, E.i i.s, E.i i.ix, E.i i.sc, E.u i.imm, E.i i.sz] 66 (fun g1 => E.nw [.string (⟨#[]⟩ : ByteArray), E.i 0] 70 (fun g2 => E.To.code (E.C.seq (E.sr (E.li (.agg #[E.i i.op, E.i i.d, E.i i.s, E.i i.ix, E.i i.sc, E.u i.imm, E.i i.sz]) 1 rfl rfl (E.ca (.bool (R2.Valid i)) (fun w h => R2_Valid i w) (E.op (.bool (!(R2.Valid i))) (E.To.code (E.cd (!(R2.Valid i)) (fun hc3 => ?_) (fun hc3 => ?_))))))))))))
 ·
  exact E.sr (E.vl (.agg #[.string (⟨#[]⟩ : ByteArray), E.i 12]) (fun w h => E.run_build #[.string (⟨#[]⟩ : ByteArray), E.i 12] (by kernel_rfl) w) (E.st 0 [.string (⟨#[]⟩ : ByteArray), E.i 12] rfl rfl (E.To.code (E.C.ret (E.P.rt (E.b0 Tryz.f29 [.agg #[.string (⟨#[]⟩ : ByteArray), E.i 12]] (fun w h => ⟨by unfold R2.Encode; rw [hc3, cond_true] <;> rfl, h.ch.bel (fun _ h => h.elim)⟩)))))))
 refine E.C.skip (E.To.code (E.sr (E.op (E.pt g1) (E.li (E.i i.op) 1 rfl rfl (E.op (.int .u8 (IntKind.wrap .u8 i.op)) (E.G.buildSlice [.int .u8 (IntKind.wrap .u8 i.op)] (by kernel_rfl) (by kernel_rfl) (fun g4 => E.op (.slice (some ⟨g4, 0, none⟩) 1 1) (E.To.code (E.wk [(1, E.pt g1), (2, E.pt g2), (3, .slice (some ⟨g4, 0, none⟩) 1 1)] [(g4, [.int .u8 (IntKind.wrap .u8 i.op)]), (g2, [.string (⟨#[]⟩ : ByteArray), E.i 0]), (g1, [E.i i.op, E.i i.d, E.i i.s, E.i i.ix, E.i i.sc, E.u i.imm, E.i i.sz])] Nz.sub (E.sr (E.op (.pointer (some ⟨g1, 1, none⟩)) (E.li (E.i i.d) 2 rfl rfl ?_))))))))))))
 refine E.op (E.i (IntKind.wrap .i64 (16 * i.d))) (E.op (.pointer (some ⟨g1, 2, none⟩)) (E.li (E.i i.s) 2 rfl rfl (E.op (E.i (IntKind.wrap .i64 ((IntKind.wrap .i64 (16 * i.d)) + i.s))) (E.op (.int .u8 (IntKind.wrap .u8 (IntKind.wrap .i64 ((IntKind.wrap .i64 (16 * i.d)) + i.s)))) (E.op (.int .u8 (IntKind.wrap .u8 (IntKind.wrap .i64 ((IntKind.wrap .i64 (16 * i.d)) + i.s)))) (E.To.code (E.C.seq (E.sr (E.op (E.pt g1) (E.li (E.i i.op) 2 rfl rfl (E.ca (E.i (R2.Format i.op)) (fun w h => R2_Format _ w) ?_)))))))))))
 refine E.To.code (E.wk [(1, E.pt g1), (2, E.pt g2), (3, .slice (some ⟨g4, 0, none⟩) 1 1), (4, .int .u8 (IntKind.wrap .u8 (IntKind.wrap .i64 ((IntKind.wrap .i64 (16 * i.d)) + i.s)))), (23, E.i (R2.Format i.op))] [(g4, [.int .u8 (IntKind.wrap .u8 i.op)]), (g2, [.string (⟨#[]⟩ : ByteArray), E.i 0]), (g1, [E.i i.op, E.i i.d, E.i i.s, E.i i.ix, E.i i.sc, E.u i.imm, E.i i.sz])] Nz.sub (E.C.block (E.sr (E.op (.bool ((R2.Format i.op) == 2)) (E.op (.bool ((R2.Format i.op) == 2)) (E.To.code (E.cd ((R2.Format i.op) == 2) (fun hc5 => ?_) (fun hc5 => ?_))))))))
 ·
  refine E.C.region (E.op (.slice (some ⟨g4, 0, none⟩) 1 1) (E.op (.pointer (some ⟨g1, 1, none⟩)) (E.li (E.i i.d) 2 rfl rfl (E.op (.int .u8 (IntKind.wrap .u8 i.d)) (E.G.buildSlice [.int .u8 (IntKind.wrap .u8 i.d)] (by kernel_rfl) (by kernel_rfl) (fun g6 => E.G.append (e := 5) 1 g4 1 1 0 g6 0 1 1 1 1 [.int .u8 (IntKind.wrap .u8 i.op)] [] [.int .u8 (IntKind.wrap .u8 i.d)] _ (by kernel_rfl) (by kernel_rfl) (by kernel_rfl) rfl (by kernel_rfl) (by first | rfl | omega | assumption) (by first | omega | decide) (by kernel_rfl) rfl (by kernel_rfl) rfl (by rfl) (by omega) (by omega) (by omega) (by kernel_rfl) (fun g7 c8 r9 hc10 hr11 => E.op (.slice (some ⟨g7, 0, none⟩) 2 c8) (E.P.nb (E.To.code (E.wk [(2, E.pt g2), (3, .slice (some ⟨g7, 0, none⟩) 2 c8)] [(g7, ([.int .u8 (IntKind.wrap .u8 i.op), .int .u8 (IntKind.wrap .u8 i.d)] ++ r9)), (g2, [.string (⟨#[]⟩ : ByteArray), E.i 0])] Nz.sub (E.sr (E.op (.slice (some ⟨g7, 0, none⟩) 2 c8) ?_))))))))))))
  exact E.vl (.string (strOfNums [(IntKind.wrap .u8 i.op), (IntKind.wrap .u8 i.d)])) (fun w h => E.b2s h 0 g7 0 2 c8 [(IntKind.wrap .u8 i.op), (IntKind.wrap .u8 i.d)] (e := 5) (by kernel_rfl) (by kernel_rfl) (by kernel_rfl) (by kernel_rfl) rfl (by kernel_rfl) rfl) (E.vl (.agg #[.string (strOfNums [(IntKind.wrap .u8 i.op), (IntKind.wrap .u8 i.d)]), E.i 0]) (fun w h => E.run_build #[.string (strOfNums [(IntKind.wrap .u8 i.op), (IntKind.wrap .u8 i.d)]), E.i 0] (by kernel_rfl) w) (E.st 1 [.string (strOfNums [(IntKind.wrap .u8 i.op), (IntKind.wrap .u8 i.d)]), E.i 0] rfl rfl (E.To.code (E.C.ret (E.b1 Tryz.f29 [.agg #[.string (strOfNums [(IntKind.wrap .u8 i.op), (IntKind.wrap .u8 i.d)]), E.i 0]] (fun w h => ⟨by unfold R2.Encode; rw [hc3, cond_false, hc5, cond_true] <;> rfl, h.ch.bel (fun _ h => h.elim)⟩))))))
 refine E.C.seq (E.sr (E.op (.bool ((R2.Format i.op) == 3)) (E.op (.bool ((R2.Format i.op) == 3)) (E.To.code (E.cd ((R2.Format i.op) == 3) (fun hc12 => ?_) (fun hc12 => ?_))))))
 ·
  refine E.C.skip (E.To.code (E.cd ((R2.Format i.op) == 3) (fun hc13 => ?_) (fun hc13 => absurd (hc12.symm.trans hc13) (by decide))))
  refine E.C.region (E.op (.slice (some ⟨g4, 0, none⟩) 1 1) (E.op (.int .u8 (IntKind.wrap .u8 (IntKind.wrap .i64 ((IntKind.wrap .i64 (16 * i.d)) + i.s)))) (E.G.buildSlice [.int .u8 (IntKind.wrap .u8 (IntKind.wrap .i64 ((IntKind.wrap .i64 (16 * i.d)) + i.s)))] (by kernel_rfl) (by kernel_rfl) (fun g14 => E.G.append (e := 5) 1 g4 1 1 0 g14 0 1 1 1 1 [.int .u8 (IntKind.wrap .u8 i.op)] [] [.int .u8 (IntKind.wrap .u8 (IntKind.wrap .i64 ((IntKind.wrap .i64 (16 * i.d)) + i.s)))] _ (by kernel_rfl) (by kernel_rfl) (by kernel_rfl) rfl (by kernel_rfl) (by first | rfl | omega | assumption) (by first | omega | decide) (by kernel_rfl) rfl (by kernel_rfl) rfl (by rfl) (by omega) (by omega) (by omega) (by kernel_rfl) (fun g15 c16 r17 hc18 hr19 => E.op (.slice (some ⟨g15, 0, none⟩) 2 c16) (E.P.nb (E.To.code (E.wk [(2, E.pt g2), (3, .slice (some ⟨g15, 0, none⟩) 2 c16)] [(g15, ([.int .u8 (IntKind.wrap .u8 i.op), .int .u8 (IntKind.wrap .u8 (IntKind.wrap .i64 ((IntKind.wrap .i64 (16 * i.d)) + i.s)))] ++ r17)), (g2, [.string (⟨#[]⟩ : ByteArray), E.i 0])] Nz.sub (E.sr (E.op (.slice (some ⟨g15, 0, none⟩) 2 c16) (E.vl (.string (strOfNums [(IntKind.wrap .u8 i.op), (IntKind.wrap .u8 (IntKind.wrap .i64 ((IntKind.wrap .i64 (16 * i.d)) + i.s)))])) (fun w h => E.b2s h 0 g15 0 2 c16 [(IntKind.wrap .u8 i.op), (IntKind.wrap .u8 (IntKind.wrap .i64 ((IntKind.wrap .i64 (16 * i.d)) + i.s)))] (e := 5) (by kernel_rfl) (by kernel_rfl) (by kernel_rfl) (by kernel_rfl) rfl (by kernel_rfl) rfl) (E.vl (.agg #[.string (strOfNums [(IntKind.wrap .u8 i.op), (IntKind.wrap .u8 (IntKind.wrap .i64 ((IntKind.wrap .i64 (16 * i.d)) + i.s)))]), E.i 0]) (fun w h => E.run_build #[.string (strOfNums [(IntKind.wrap .u8 i.op), (IntKind.wrap .u8 (IntKind.wrap .i64 ((IntKind.wrap .i64 (16 * i.d)) + i.s)))]), E.i 0] (by kernel_rfl) w) ?_))))))))))))
  exact E.st 1 [.string (strOfNums [(IntKind.wrap .u8 i.op), (IntKind.wrap .u8 (IntKind.wrap .i64 ((IntKind.wrap .i64 (16 * i.d)) + i.s)))]), E.i 0] rfl rfl (E.To.code (E.C.ret (E.b1 Tryz.f29 [.agg #[.string (strOfNums [(IntKind.wrap .u8 i.op), (IntKind.wrap .u8 (IntKind.wrap .i64 ((IntKind.wrap .i64 (16 * i.d)) + i.s)))]), E.i 0]] (fun w h => ⟨by unfold R2.Encode; rw [hc3, cond_false, hc5, cond_false, hc12, cond_true] <;> rfl, h.ch.bel (fun _ h => h.elim)⟩))))
 refine E.sr (E.op (.bool ((R2.Format i.op) == 11)) (E.op (.bool ((R2.Format i.op) == 11)) (E.To.code (E.cd ((R2.Format i.op) == 11) (fun hc20 => ?_) (fun hc20 => ?_)))))
 ·
  refine E.C.skip (E.To.code (E.cd ((R2.Format i.op) == 11) (fun hc21 => ?_) (fun hc21 => absurd (hc20.symm.trans hc21) (by decide))))
  refine E.C.region (E.op (.slice (some ⟨g4, 0, none⟩) 1 1) (E.op (.int .u8 (IntKind.wrap .u8 (IntKind.wrap .i64 ((IntKind.wrap .i64 (16 * i.d)) + i.s)))) (E.G.buildSlice [.int .u8 (IntKind.wrap .u8 (IntKind.wrap .i64 ((IntKind.wrap .i64 (16 * i.d)) + i.s)))] (by kernel_rfl) (by kernel_rfl) (fun g22 => E.G.append (e := 5) 1 g4 1 1 0 g22 0 1 1 1 1 [.int .u8 (IntKind.wrap .u8 i.op)] [] [.int .u8 (IntKind.wrap .u8 (IntKind.wrap .i64 ((IntKind.wrap .i64 (16 * i.d)) + i.s)))] _ (by kernel_rfl) (by kernel_rfl) (by kernel_rfl) rfl (by kernel_rfl) (by first | rfl | omega | assumption) (by first | omega | decide) (by kernel_rfl) rfl (by kernel_rfl) rfl (by rfl) (by omega) (by omega) (by omega) (by kernel_rfl) (fun g23 c24 r25 hc26 hr27 => E.op (.slice (some ⟨g23, 0, none⟩) 2 c24) (E.P.nb (E.To.code (E.wk [(2, E.pt g2), (3, .slice (some ⟨g23, 0, none⟩) 2 c24)] [(g23, ([.int .u8 (IntKind.wrap .u8 i.op), .int .u8 (IntKind.wrap .u8 (IntKind.wrap .i64 ((IntKind.wrap .i64 (16 * i.d)) + i.s)))] ++ r25)), (g2, [.string (⟨#[]⟩ : ByteArray), E.i 0])] Nz.sub (E.sr (E.op (.slice (some ⟨g23, 0, none⟩) 2 c24) (E.vl (.string (strOfNums [(IntKind.wrap .u8 i.op), (IntKind.wrap .u8 (IntKind.wrap .i64 ((IntKind.wrap .i64 (16 * i.d)) + i.s)))])) (fun w h => E.b2s h 0 g23 0 2 c24 [(IntKind.wrap .u8 i.op), (IntKind.wrap .u8 (IntKind.wrap .i64 ((IntKind.wrap .i64 (16 * i.d)) + i.s)))] (e := 5) (by kernel_rfl) (by kernel_rfl) (by kernel_rfl) (by kernel_rfl) rfl (by kernel_rfl) rfl) (E.vl (.agg #[.string (strOfNums [(IntKind.wrap .u8 i.op), (IntKind.wrap .u8 (IntKind.wrap .i64 ((IntKind.wrap .i64 (16 * i.d)) + i.s)))]), E.i 0]) (fun w h => E.run_build #[.string (strOfNums [(IntKind.wrap .u8 i.op), (IntKind.wrap .u8 (IntKind.wrap .i64 ((IntKind.wrap .i64 (16 * i.d)) + i.s)))]), E.i 0] (by kernel_rfl) w) ?_))))))))))))
  exact E.st 1 [.string (strOfNums [(IntKind.wrap .u8 i.op), (IntKind.wrap .u8 (IntKind.wrap .i64 ((IntKind.wrap .i64 (16 * i.d)) + i.s)))]), E.i 0] rfl rfl (E.To.code (E.C.ret (E.b1 Tryz.f29 [.agg #[.string (strOfNums [(IntKind.wrap .u8 i.op), (IntKind.wrap .u8 (IntKind.wrap .i64 ((IntKind.wrap .i64 (16 * i.d)) + i.s)))]), E.i 0]] (fun w h => ⟨by unfold R2.Encode; rw [hc3, cond_false, hc5, cond_false, hc12, cond_false, hc20, cond_true] <;> rfl, h.ch.bel (fun _ h => h.elim)⟩))))
 refine E.C.region (E.op (.bool ((R2.Format i.op) == 12)) (E.op (.bool ((R2.Format i.op) == 12)) (E.To.code (E.cd ((R2.Format i.op) == 12) (fun hc28 => ?_) (fun hc28 => ?_)))))
 ·
  refine E.C.region (E.op (.slice (some ⟨g4, 0, none⟩) 1 1) (E.op (.int .u8 (IntKind.wrap .u8 (IntKind.wrap .i64 ((IntKind.wrap .i64 (16 * i.d)) + i.s)))) (E.G.buildSlice [.int .u8 (IntKind.wrap .u8 (IntKind.wrap .i64 ((IntKind.wrap .i64 (16 * i.d)) + i.s)))] (by kernel_rfl) (by kernel_rfl) (fun g29 => E.G.append (e := 5) 1 g4 1 1 0 g29 0 1 1 1 1 [.int .u8 (IntKind.wrap .u8 i.op)] [] [.int .u8 (IntKind.wrap .u8 (IntKind.wrap .i64 ((IntKind.wrap .i64 (16 * i.d)) + i.s)))] _ (by kernel_rfl) (by kernel_rfl) (by kernel_rfl) rfl (by kernel_rfl) (by first | rfl | omega | assumption) (by first | omega | decide) (by kernel_rfl) rfl (by kernel_rfl) rfl (by rfl) (by omega) (by omega) (by omega) (by kernel_rfl) (fun g30 c31 r32 hc33 hr34 => E.op (.slice (some ⟨g30, 0, none⟩) 2 c31) (E.P.nb (E.To.code (E.wk [(2, E.pt g2), (3, .slice (some ⟨g30, 0, none⟩) 2 c31)] [(g30, ([.int .u8 (IntKind.wrap .u8 i.op), .int .u8 (IntKind.wrap .u8 (IntKind.wrap .i64 ((IntKind.wrap .i64 (16 * i.d)) + i.s)))] ++ r32)), (g2, [.string (⟨#[]⟩ : ByteArray), E.i 0])] Nz.sub (E.sr (E.op (.slice (some ⟨g30, 0, none⟩) 2 c31) (E.vl (.string (strOfNums [(IntKind.wrap .u8 i.op), (IntKind.wrap .u8 (IntKind.wrap .i64 ((IntKind.wrap .i64 (16 * i.d)) + i.s)))])) (fun w h => E.b2s h 0 g30 0 2 c31 [(IntKind.wrap .u8 i.op), (IntKind.wrap .u8 (IntKind.wrap .i64 ((IntKind.wrap .i64 (16 * i.d)) + i.s)))] (e := 5) (by kernel_rfl) (by kernel_rfl) (by kernel_rfl) (by kernel_rfl) rfl (by kernel_rfl) rfl) (E.vl (.agg #[.string (strOfNums [(IntKind.wrap .u8 i.op), (IntKind.wrap .u8 (IntKind.wrap .i64 ((IntKind.wrap .i64 (16 * i.d)) + i.s)))]), E.i 0]) (fun w h => E.run_build #[.string (strOfNums [(IntKind.wrap .u8 i.op), (IntKind.wrap .u8 (IntKind.wrap .i64 ((IntKind.wrap .i64 (16 * i.d)) + i.s)))]), E.i 0] (by kernel_rfl) w) ?_))))))))))))
  exact E.st 1 [.string (strOfNums [(IntKind.wrap .u8 i.op), (IntKind.wrap .u8 (IntKind.wrap .i64 ((IntKind.wrap .i64 (16 * i.d)) + i.s)))]), E.i 0] rfl rfl (E.To.code (E.C.ret (E.b1 Tryz.f29 [.agg #[.string (strOfNums [(IntKind.wrap .u8 i.op), (IntKind.wrap .u8 (IntKind.wrap .i64 ((IntKind.wrap .i64 (16 * i.d)) + i.s)))]), E.i 0]] (fun w h => ⟨by unfold R2.Encode; rw [hc3, cond_false, hc5, cond_false, hc12, cond_false, hc20, cond_false, hc28, cond_true] <;> rfl, h.ch.bel (fun _ h => h.elim)⟩))))
 refine E.sr (E.op (.bool ((R2.Format i.op) == 4)) (E.op (.bool ((R2.Format i.op) == 4)) (E.To.code (E.cd ((R2.Format i.op) == 4) (fun hc35 => ?_) (fun hc35 => ?_)))))
 ·
  refine E.C.region (E.op (.slice (some ⟨g4, 0, none⟩) 1 1) (E.op (.pointer (some ⟨g1, 1, none⟩)) (E.li (E.i i.d) 2 rfl rfl (E.op (.int .u8 (IntKind.wrap .u8 i.d)) (E.op (.pointer (some ⟨g1, 5, none⟩)) (E.li (E.u i.imm) 2 rfl rfl (E.op (.int .u8 (IntKind.wrap .u8 i.imm)) (E.G.buildSlice [.int .u8 (IntKind.wrap .u8 i.d), .int .u8 (IntKind.wrap .u8 i.imm)] (by kernel_rfl) (by kernel_rfl) (fun g36 => E.G.append (e := 5) 1 g4 1 1 0 g36 0 2 2 1 1 [.int .u8 (IntKind.wrap .u8 i.op)] [] [.int .u8 (IntKind.wrap .u8 i.d), .int .u8 (IntKind.wrap .u8 i.imm)] _ (by kernel_rfl) (by kernel_rfl) (by kernel_rfl) rfl (by kernel_rfl) (by first | rfl | omega | assumption) (by first | omega | decide) (by kernel_rfl) rfl (by kernel_rfl) rfl (by rfl) (by omega) (by omega) (by omega) (by kernel_rfl) (fun g37 c38 r39 hc40 hr41 => E.op (.slice (some ⟨g37, 0, none⟩) 3 c38) (E.P.nb (E.To.code ?_))))))))))))
  exact E.wk [(2, E.pt g2), (3, .slice (some ⟨g37, 0, none⟩) 3 c38)] [(g37, ([.int .u8 (IntKind.wrap .u8 i.op), .int .u8 (IntKind.wrap .u8 i.d), .int .u8 (IntKind.wrap .u8 i.imm)] ++ r39)), (g2, [.string (⟨#[]⟩ : ByteArray), E.i 0])] Nz.sub (E.sr (E.op (.slice (some ⟨g37, 0, none⟩) 3 c38) (E.vl (.string (strOfNums [(IntKind.wrap .u8 i.op), (IntKind.wrap .u8 i.d), (IntKind.wrap .u8 i.imm)])) (fun w h => E.b2s h 0 g37 0 3 c38 [(IntKind.wrap .u8 i.op), (IntKind.wrap .u8 i.d), (IntKind.wrap .u8 i.imm)] (e := 5) (by kernel_rfl) (by kernel_rfl) (by kernel_rfl) (by kernel_rfl) rfl (by kernel_rfl) rfl) (E.vl (.agg #[.string (strOfNums [(IntKind.wrap .u8 i.op), (IntKind.wrap .u8 i.d), (IntKind.wrap .u8 i.imm)]), E.i 0]) (fun w h => E.run_build #[.string (strOfNums [(IntKind.wrap .u8 i.op), (IntKind.wrap .u8 i.d), (IntKind.wrap .u8 i.imm)]), E.i 0] (by kernel_rfl) w) (E.st 1 [.string (strOfNums [(IntKind.wrap .u8 i.op), (IntKind.wrap .u8 i.d), (IntKind.wrap .u8 i.imm)]), E.i 0] rfl rfl (E.To.code (E.C.ret (E.b1 Tryz.f29 [.agg #[.string (strOfNums [(IntKind.wrap .u8 i.op), (IntKind.wrap .u8 i.d), (IntKind.wrap .u8 i.imm)]), E.i 0]] (fun w h => ⟨by unfold R2.Encode; rw [hc3, cond_false, hc5, cond_false, hc12, cond_false, hc20, cond_false, hc28, cond_false, hc35, cond_true] <;> rfl, h.ch.bel (fun _ h => h.elim)⟩)))))))))
 refine E.sr (E.op (.bool ((R2.Format i.op) == 5)) (E.op (.bool ((R2.Format i.op) == 5)) (E.To.code (E.wk [(1, E.pt g1), (2, E.pt g2), (3, .slice (some ⟨g4, 0, none⟩) 1 1), (4, .int .u8 (IntKind.wrap .u8 (IntKind.wrap .i64 ((IntKind.wrap .i64 (16 * i.d)) + i.s)))), (23, E.i (R2.Format i.op)), (51, .bool ((R2.Format i.op) == 5))] [(g4, [.int .u8 (IntKind.wrap .u8 i.op)]), (g2, [.string (⟨#[]⟩ : ByteArray), E.i 0]), (g1, [E.i i.op, E.i i.d, E.i i.s, E.i i.ix, E.i i.sc, E.u i.imm, E.i i.sz])] Nz.sub (E.cd ((R2.Format i.op) == 5) (fun hc42 => ?_) (fun hc42 => ?_))))))
 ·
  refine E.C.held (E.Hp (fun _ => False) w (fun _ => True) [(g2, [.string (⟨#[]⟩ : ByteArray), E.i 0]), (g1, [E.i i.op, E.i i.d, E.i i.s, E.i i.ix, E.i i.sc, E.u i.imm, E.i i.sz])]) (by kernel_rfl) (E.ta 0 (.slice (some ⟨g4, 0, none⟩) 1 1) rfl (E.ta 1 (.pointer (some ⟨g1, 1, none⟩)) rfl (E.tb 2 (E.i i.d) rfl (fun w h => E.run_load h 1 rfl rfl (by kernel_rfl)) (E.ta 3 (.int .u8 (IntKind.wrap .u8 i.d)) rfl (E.ta 6 (.pointer (some ⟨g1, 5, none⟩)) rfl (E.tb 7 (E.u i.imm) rfl (fun w h => E.run_load h 1 rfl rfl (by kernel_rfl)) (E.al 4 rfl (E.G.buildSlice [.int .u8 (IntKind.wrap .u8 i.d)] (by kernel_rfl) (by kernel_rfl) (fun g43 => E.bk (E.al 5 rfl (E.G.append (e := 5) 1 g4 1 1 0 g43 0 1 1 1 1 [.int .u8 (IntKind.wrap .u8 i.op)] [] [.int .u8 (IntKind.wrap .u8 i.d)] _ (by kernel_rfl) (by kernel_rfl) (by kernel_rfl) rfl (by kernel_rfl) (by first | rfl | omega | assumption) (by first | omega | decide) (by kernel_rfl) rfl (by kernel_rfl) rfl (by rfl) (by omega) (by omega) (by omega) (by kernel_rfl) (fun g44 c45 r46 hc47 hr48 => ?_))))))))))))
  refine E.bk (E.al 8 rfl (E.G.callX (I := Nat) (fun _ => True) (fun g => .slice (some ⟨g, 0, none⟩) 4 4) (fun _ => fun _ => True) (fun g => (g, [.int .u8 (IntKind.wrap .u8 i.imm), .int .u8 (IntKind.wrap .u8 (IntKind.wrap .u32 (Int.tdiv i.imm 256))), .int .u8 (IntKind.wrap .u8 (IntKind.wrap .u32 (Int.tdiv i.imm 65536))), .int .u8 (IntKind.wrap .u8 (IntKind.wrap .u32 (Int.tdiv i.imm 16777216)))]) :: [(g44, ([.int .u8 (IntKind.wrap .u8 i.op), .int .u8 (IntKind.wrap .u8 i.d)] ++ r46)), (g43, [.int .u8 (IntKind.wrap .u8 i.d)]), (g2, [.string (⟨#[]⟩ : ByteArray), E.i 0]), (g1, [E.i i.op, E.i i.d, E.i i.s, E.i i.ix, E.i i.sc, E.u i.imm, E.i i.sz])]) (fun w h => (R2_four i.imm w h).mono fun e w1 ⟨g, he, hh⟩ => ⟨g, trivial, he, hh⟩) (fun w _ => by kernel_rfl) (by kernel_rfl) (fun g49 _ => E.bk (E.al 9 rfl (E.G.append (e := 5) 1 g44 2 c45 0 g49 0 4 4 1 1 [.int .u8 (IntKind.wrap .u8 i.op), .int .u8 (IntKind.wrap .u8 i.d)] r46 [.int .u8 (IntKind.wrap .u8 i.imm), .int .u8 (IntKind.wrap .u8 (IntKind.wrap .u32 (Int.tdiv i.imm 256))), .int .u8 (IntKind.wrap .u8 (IntKind.wrap .u32 (Int.tdiv i.imm 65536))), .int .u8 (IntKind.wrap .u8 (IntKind.wrap .u32 (Int.tdiv i.imm 16777216)))] _ (by kernel_rfl) (by kernel_rfl) (by kernel_rfl) rfl (by kernel_rfl) (by first | rfl | omega | assumption) (by first | omega | decide) (by kernel_rfl) rfl (by kernel_rfl) rfl (by rfl) (by omega) (by omega) (by omega) (by kernel_rfl) (fun g50 c51 r52 hc53 hr54 => E.bk (E.ta 10 (.slice (some ⟨g50, 0, none⟩) 6 c51) rfl (E.H.done (by kernel_rfl) (E.P.nb (E.To.code (E.wk [(2, E.pt g2), (3, .slice (some ⟨g50, 0, none⟩) 6 c51)] [(g50, ([.int .u8 (IntKind.wrap .u8 i.op), .int .u8 (IntKind.wrap .u8 i.d), .int .u8 (IntKind.wrap .u8 i.imm), .int .u8 (IntKind.wrap .u8 (IntKind.wrap .u32 (Int.tdiv i.imm 256))), .int .u8 (IntKind.wrap .u8 (IntKind.wrap .u32 (Int.tdiv i.imm 65536))), .int .u8 (IntKind.wrap .u8 (IntKind.wrap .u32 (Int.tdiv i.imm 16777216)))] ++ r52)), (g2, [.string (⟨#[]⟩ : ByteArray), E.i 0])] Nz.sub (E.sr ?_))))))))))))
  exact E.op (.slice (some ⟨g50, 0, none⟩) 6 c51) (E.vl (.string (strOfNums [(IntKind.wrap .u8 i.op), (IntKind.wrap .u8 i.d), (IntKind.wrap .u8 i.imm), (IntKind.wrap .u8 (IntKind.wrap .u32 (Int.tdiv i.imm 256))), (IntKind.wrap .u8 (IntKind.wrap .u32 (Int.tdiv i.imm 65536))), (IntKind.wrap .u8 (IntKind.wrap .u32 (Int.tdiv i.imm 16777216)))])) (fun w h => E.b2s h 0 g50 0 6 c51 [(IntKind.wrap .u8 i.op), (IntKind.wrap .u8 i.d), (IntKind.wrap .u8 i.imm), (IntKind.wrap .u8 (IntKind.wrap .u32 (Int.tdiv i.imm 256))), (IntKind.wrap .u8 (IntKind.wrap .u32 (Int.tdiv i.imm 65536))), (IntKind.wrap .u8 (IntKind.wrap .u32 (Int.tdiv i.imm 16777216)))] (e := 5) (by kernel_rfl) (by kernel_rfl) (by kernel_rfl) (by kernel_rfl) rfl (by kernel_rfl) rfl) (E.vl (.agg #[.string (strOfNums [(IntKind.wrap .u8 i.op), (IntKind.wrap .u8 i.d), (IntKind.wrap .u8 i.imm), (IntKind.wrap .u8 (IntKind.wrap .u32 (Int.tdiv i.imm 256))), (IntKind.wrap .u8 (IntKind.wrap .u32 (Int.tdiv i.imm 65536))), (IntKind.wrap .u8 (IntKind.wrap .u32 (Int.tdiv i.imm 16777216)))]), E.i 0]) (fun w h => E.run_build #[.string (strOfNums [(IntKind.wrap .u8 i.op), (IntKind.wrap .u8 i.d), (IntKind.wrap .u8 i.imm), (IntKind.wrap .u8 (IntKind.wrap .u32 (Int.tdiv i.imm 256))), (IntKind.wrap .u8 (IntKind.wrap .u32 (Int.tdiv i.imm 65536))), (IntKind.wrap .u8 (IntKind.wrap .u32 (Int.tdiv i.imm 16777216)))]), E.i 0] (by kernel_rfl) w) (E.st 1 [.string (strOfNums [(IntKind.wrap .u8 i.op), (IntKind.wrap .u8 i.d), (IntKind.wrap .u8 i.imm), (IntKind.wrap .u8 (IntKind.wrap .u32 (Int.tdiv i.imm 256))), (IntKind.wrap .u8 (IntKind.wrap .u32 (Int.tdiv i.imm 65536))), (IntKind.wrap .u8 (IntKind.wrap .u32 (Int.tdiv i.imm 16777216)))]), E.i 0] rfl rfl (E.To.code (E.C.ret (E.b1 Tryz.f29 [.agg #[.string (strOfNums [(IntKind.wrap .u8 i.op), (IntKind.wrap .u8 i.d), (IntKind.wrap .u8 i.imm), (IntKind.wrap .u8 (IntKind.wrap .u32 (Int.tdiv i.imm 256))), (IntKind.wrap .u8 (IntKind.wrap .u32 (Int.tdiv i.imm 65536))), (IntKind.wrap .u8 (IntKind.wrap .u32 (Int.tdiv i.imm 16777216)))]), E.i 0]] (fun w h => ⟨by unfold R2.Encode; rw [hc3, cond_false, hc5, cond_false, hc12, cond_false, hc20, cond_false, hc28, cond_false, hc35, cond_false, hc42, cond_true] <;> rfl, h.ch.bel (fun _ h => h.elim)⟩)))))))
 refine E.sr (E.op (.bool ((R2.Format i.op) == 6)) (E.op (.bool ((R2.Format i.op) == 6)) (E.To.code (E.cd ((R2.Format i.op) == 6) (fun hc55 => ?_) (fun hc55 => ?_)))))
 ·
  refine E.C.region (E.op (.slice (some ⟨g4, 0, none⟩) 1 1) (E.op (.int .u8 (IntKind.wrap .u8 (IntKind.wrap .i64 ((IntKind.wrap .i64 (16 * i.d)) + i.s)))) (E.op (.pointer (some ⟨g1, 5, none⟩)) (E.li (E.u i.imm) 2 rfl rfl (E.op (.int .u8 (IntKind.wrap .u8 i.imm)) (E.G.buildSlice [.int .u8 (IntKind.wrap .u8 (IntKind.wrap .i64 ((IntKind.wrap .i64 (16 * i.d)) + i.s))), .int .u8 (IntKind.wrap .u8 i.imm)] (by kernel_rfl) (by kernel_rfl) (fun g56 => E.G.append (e := 5) 1 g4 1 1 0 g56 0 2 2 1 1 [.int .u8 (IntKind.wrap .u8 i.op)] [] [.int .u8 (IntKind.wrap .u8 (IntKind.wrap .i64 ((IntKind.wrap .i64 (16 * i.d)) + i.s))), .int .u8 (IntKind.wrap .u8 i.imm)] _ (by kernel_rfl) (by kernel_rfl) (by kernel_rfl) rfl (by kernel_rfl) (by first | rfl | omega | assumption) (by first | omega | decide) (by kernel_rfl) rfl (by kernel_rfl) rfl (by rfl) (by omega) (by omega) (by omega) (by kernel_rfl) (fun g57 c58 r59 hc60 hr61 => E.op (.slice (some ⟨g57, 0, none⟩) 3 c58) (E.P.nb (E.To.code (E.wk [(2, E.pt g2), (3, .slice (some ⟨g57, 0, none⟩) 3 c58)] [(g57, ([.int .u8 (IntKind.wrap .u8 i.op), .int .u8 (IntKind.wrap .u8 (IntKind.wrap .i64 ((IntKind.wrap .i64 (16 * i.d)) + i.s))), .int .u8 (IntKind.wrap .u8 i.imm)] ++ r59)), (g2, [.string (⟨#[]⟩ : ByteArray), E.i 0])] Nz.sub (E.sr ?_))))))))))))
  exact E.op (.slice (some ⟨g57, 0, none⟩) 3 c58) (E.vl (.string (strOfNums [(IntKind.wrap .u8 i.op), (IntKind.wrap .u8 (IntKind.wrap .i64 ((IntKind.wrap .i64 (16 * i.d)) + i.s))), (IntKind.wrap .u8 i.imm)])) (fun w h => E.b2s h 0 g57 0 3 c58 [(IntKind.wrap .u8 i.op), (IntKind.wrap .u8 (IntKind.wrap .i64 ((IntKind.wrap .i64 (16 * i.d)) + i.s))), (IntKind.wrap .u8 i.imm)] (e := 5) (by kernel_rfl) (by kernel_rfl) (by kernel_rfl) (by kernel_rfl) rfl (by kernel_rfl) rfl) (E.vl (.agg #[.string (strOfNums [(IntKind.wrap .u8 i.op), (IntKind.wrap .u8 (IntKind.wrap .i64 ((IntKind.wrap .i64 (16 * i.d)) + i.s))), (IntKind.wrap .u8 i.imm)]), E.i 0]) (fun w h => E.run_build #[.string (strOfNums [(IntKind.wrap .u8 i.op), (IntKind.wrap .u8 (IntKind.wrap .i64 ((IntKind.wrap .i64 (16 * i.d)) + i.s))), (IntKind.wrap .u8 i.imm)]), E.i 0] (by kernel_rfl) w) (E.st 1 [.string (strOfNums [(IntKind.wrap .u8 i.op), (IntKind.wrap .u8 (IntKind.wrap .i64 ((IntKind.wrap .i64 (16 * i.d)) + i.s))), (IntKind.wrap .u8 i.imm)]), E.i 0] rfl rfl (E.To.code (E.C.ret (E.b1 Tryz.f29 [.agg #[.string (strOfNums [(IntKind.wrap .u8 i.op), (IntKind.wrap .u8 (IntKind.wrap .i64 ((IntKind.wrap .i64 (16 * i.d)) + i.s))), (IntKind.wrap .u8 i.imm)]), E.i 0]] (fun w h => ⟨by unfold R2.Encode; rw [hc3, cond_false, hc5, cond_false, hc12, cond_false, hc20, cond_false, hc28, cond_false, hc35, cond_false, hc42, cond_false, hc55, cond_true] <;> rfl, h.ch.bel (fun _ h => h.elim)⟩)))))))
 refine E.sr (E.op (.bool ((R2.Format i.op) == 7)) (E.op (.bool ((R2.Format i.op) == 7)) (E.To.code (E.cd ((R2.Format i.op) == 7) (fun hc62 => ?_) (fun hc62 => ?_)))))
 ·
  refine E.sr (E.op (.int .u8 8) (E.To.code (E.C.seq (E.sr (E.op (.pointer (some ⟨g1, 3, none⟩)) (E.li (E.i i.ix) 2 rfl rfl (E.op (.bool (decide (i.ix ≥ 0))) (E.To.code (E.wk [(1, E.pt g1), (2, E.pt g2), (3, .slice (some ⟨g4, 0, none⟩) 1 1), (4, .int .u8 (IntKind.wrap .u8 (IntKind.wrap .i64 ((IntKind.wrap .i64 (16 * i.d)) + i.s)))), (5, .int .u8 8), (76, .bool (decide (i.ix ≥ 0)))] [(g4, [.int .u8 (IntKind.wrap .u8 i.op)]), (g2, [.string (⟨#[]⟩ : ByteArray), E.i 0]), (g1, [E.i i.op, E.i i.d, E.i i.s, E.i i.ix, E.i i.sc, E.u i.imm, E.i i.sz])] Nz.sub (E.cd (decide (i.ix ≥ 0)) (fun hc63 => ?_) (fun hc63 => ?_)))))))))))
  ·
   refine E.C.region (E.op (.pointer (some ⟨g1, 3, none⟩)) (E.li (E.i i.ix) 2 rfl rfl (E.op (.pointer (some ⟨g1, 4, none⟩)) (E.li (E.i i.sc) 2 rfl rfl (E.op (E.i (IntKind.wrap .i64 (16 * i.sc))) (E.op (E.i (IntKind.wrap .i64 (i.ix + (IntKind.wrap .i64 (16 * i.sc))))) (E.op (.int .u8 (IntKind.wrap .u8 (IntKind.wrap .i64 (i.ix + (IntKind.wrap .i64 (16 * i.sc)))))) (E.op (.int .u8 (IntKind.wrap .u8 (IntKind.wrap .i64 (i.ix + (IntKind.wrap .i64 (16 * i.sc)))))) (E.To.code (E.wk [(1, E.pt g1), (2, E.pt g2), (3, .slice (some ⟨g4, 0, none⟩) 1 1), (4, .int .u8 (IntKind.wrap .u8 (IntKind.wrap .i64 ((IntKind.wrap .i64 (16 * i.d)) + i.s)))), (5, .int .u8 (IntKind.wrap .u8 (IntKind.wrap .i64 (i.ix + (IntKind.wrap .i64 (16 * i.sc))))))] [(g4, [.int .u8 (IntKind.wrap .u8 i.op)]), (g2, [.string (⟨#[]⟩ : ByteArray), E.i 0]), (g1, [E.i i.op, E.i i.d, E.i i.s, E.i i.ix, E.i i.sc, E.u i.imm, E.i i.sz])] Nz.sub (E.C.held (E.Hp (fun _ => False) w (fun _ => True) [(g2, [.string (⟨#[]⟩ : ByteArray), E.i 0]), (g1, [E.i i.op, E.i i.d, E.i i.s, E.i i.ix, E.i i.sc, E.u i.imm, E.i i.sz])]) (by kernel_rfl) ?_)))))))))))
   refine E.ta 0 (.slice (some ⟨g4, 0, none⟩) 1 1) rfl (E.ta 1 (.int .u8 (IntKind.wrap .u8 (IntKind.wrap .i64 ((IntKind.wrap .i64 (16 * i.d)) + i.s)))) rfl (E.ta 2 (.int .u8 (IntKind.wrap .u8 (IntKind.wrap .i64 (i.ix + (IntKind.wrap .i64 (16 * i.sc)))))) rfl (E.ta 5 (.pointer (some ⟨g1, 5, none⟩)) rfl (E.tb 6 (E.u i.imm) rfl (fun w h => E.run_load h 1 rfl rfl (by kernel_rfl)) (E.al 3 rfl (E.G.buildSlice [.int .u8 (IntKind.wrap .u8 (IntKind.wrap .i64 ((IntKind.wrap .i64 (16 * i.d)) + i.s))), .int .u8 (IntKind.wrap .u8 (IntKind.wrap .i64 (i.ix + (IntKind.wrap .i64 (16 * i.sc)))))] (by kernel_rfl) (by kernel_rfl) (fun g64 => E.bk (E.al 4 rfl (E.G.append (e := 5) 1 g4 1 1 0 g64 0 2 2 1 1 [.int .u8 (IntKind.wrap .u8 i.op)] [] [.int .u8 (IntKind.wrap .u8 (IntKind.wrap .i64 ((IntKind.wrap .i64 (16 * i.d)) + i.s))), .int .u8 (IntKind.wrap .u8 (IntKind.wrap .i64 (i.ix + (IntKind.wrap .i64 (16 * i.sc)))))] _ (by kernel_rfl) (by kernel_rfl) (by kernel_rfl) rfl (by kernel_rfl) (by first | rfl | omega | assumption) (by first | omega | decide) (by kernel_rfl) rfl (by kernel_rfl) rfl (by rfl) (by omega) (by omega) (by omega) (by kernel_rfl) (fun g65 c66 r67 hc68 hr69 => E.bk (E.al 7 rfl ?_)))))))))))
   refine E.G.callX (I := Nat) (fun _ => True) (fun g => .slice (some ⟨g, 0, none⟩) 4 4) (fun _ => fun _ => True) (fun g => (g, [.int .u8 (IntKind.wrap .u8 i.imm), .int .u8 (IntKind.wrap .u8 (IntKind.wrap .u32 (Int.tdiv i.imm 256))), .int .u8 (IntKind.wrap .u8 (IntKind.wrap .u32 (Int.tdiv i.imm 65536))), .int .u8 (IntKind.wrap .u8 (IntKind.wrap .u32 (Int.tdiv i.imm 16777216)))]) :: [(g65, ([.int .u8 (IntKind.wrap .u8 i.op), .int .u8 (IntKind.wrap .u8 (IntKind.wrap .i64 ((IntKind.wrap .i64 (16 * i.d)) + i.s))), .int .u8 (IntKind.wrap .u8 (IntKind.wrap .i64 (i.ix + (IntKind.wrap .i64 (16 * i.sc)))))] ++ r67)), (g64, [.int .u8 (IntKind.wrap .u8 (IntKind.wrap .i64 ((IntKind.wrap .i64 (16 * i.d)) + i.s))), .int .u8 (IntKind.wrap .u8 (IntKind.wrap .i64 (i.ix + (IntKind.wrap .i64 (16 * i.sc)))))]), (g2, [.string (⟨#[]⟩ : ByteArray), E.i 0]), (g1, [E.i i.op, E.i i.d, E.i i.s, E.i i.ix, E.i i.sc, E.u i.imm, E.i i.sz])]) (fun w h => (R2_four i.imm w h).mono fun e w1 ⟨g, he, hh⟩ => ⟨g, trivial, he, hh⟩) (fun w _ => by kernel_rfl) (by kernel_rfl) (fun g70 _ => E.bk (E.al 8 rfl (E.G.append (e := 5) 1 g65 3 c66 0 g70 0 4 4 1 1 [.int .u8 (IntKind.wrap .u8 i.op), .int .u8 (IntKind.wrap .u8 (IntKind.wrap .i64 ((IntKind.wrap .i64 (16 * i.d)) + i.s))), .int .u8 (IntKind.wrap .u8 (IntKind.wrap .i64 (i.ix + (IntKind.wrap .i64 (16 * i.sc)))))] r67 [.int .u8 (IntKind.wrap .u8 i.imm), .int .u8 (IntKind.wrap .u8 (IntKind.wrap .u32 (Int.tdiv i.imm 256))), .int .u8 (IntKind.wrap .u8 (IntKind.wrap .u32 (Int.tdiv i.imm 65536))), .int .u8 (IntKind.wrap .u8 (IntKind.wrap .u32 (Int.tdiv i.imm 16777216)))] _ (by kernel_rfl) (by kernel_rfl) (by kernel_rfl) rfl (by kernel_rfl) (by first | rfl | omega | assumption) (by first | omega | decide) (by kernel_rfl) rfl (by kernel_rfl) rfl (by rfl) (by omega) (by omega) (by omega) (by kernel_rfl) (fun g71 c72 r73 hc74 hr75 => E.bk (E.ta 9 (.slice (some ⟨g71, 0, none⟩) 7 c72) rfl (E.H.done (by kernel_rfl) (E.P.nb (E.To.code (E.wk [(2, E.pt g2), (3, .slice (some ⟨g71, 0, none⟩) 7 c72)] [(g71, ([.int .u8 (IntKind.wrap .u8 i.op), .int .u8 (IntKind.wrap .u8 (IntKind.wrap .i64 ((IntKind.wrap .i64 (16 * i.d)) + i.s))), .int .u8 (IntKind.wrap .u8 (IntKind.wrap .i64 (i.ix + (IntKind.wrap .i64 (16 * i.sc))))), .int .u8 (IntKind.wrap .u8 i.imm), .int .u8 (IntKind.wrap .u8 (IntKind.wrap .u32 (Int.tdiv i.imm 256))), .int .u8 (IntKind.wrap .u8 (IntKind.wrap .u32 (Int.tdiv i.imm 65536))), .int .u8 (IntKind.wrap .u8 (IntKind.wrap .u32 (Int.tdiv i.imm 16777216)))] ++ r73)), (g2, [.string (⟨#[]⟩ : ByteArray), E.i 0])] Nz.sub (E.sr (E.op (.slice (some ⟨g71, 0, none⟩) 7 c72) (E.vl (.string (strOfNums [(IntKind.wrap .u8 i.op), (IntKind.wrap .u8 (IntKind.wrap .i64 ((IntKind.wrap .i64 (16 * i.d)) + i.s))), (IntKind.wrap .u8 (IntKind.wrap .i64 (i.ix + (IntKind.wrap .i64 (16 * i.sc))))), (IntKind.wrap .u8 i.imm), (IntKind.wrap .u8 (IntKind.wrap .u32 (Int.tdiv i.imm 256))), (IntKind.wrap .u8 (IntKind.wrap .u32 (Int.tdiv i.imm 65536))), (IntKind.wrap .u8 (IntKind.wrap .u32 (Int.tdiv i.imm 16777216)))])) (fun w h => E.b2s h 0 g71 0 7 c72 [(IntKind.wrap .u8 i.op), (IntKind.wrap .u8 (IntKind.wrap .i64 ((IntKind.wrap .i64 (16 * i.d)) + i.s))), (IntKind.wrap .u8 (IntKind.wrap .i64 (i.ix + (IntKind.wrap .i64 (16 * i.sc))))), (IntKind.wrap .u8 i.imm), (IntKind.wrap .u8 (IntKind.wrap .u32 (Int.tdiv i.imm 256))), (IntKind.wrap .u8 (IntKind.wrap .u32 (Int.tdiv i.imm 65536))), (IntKind.wrap .u8 (IntKind.wrap .u32 (Int.tdiv i.imm 16777216)))] (e := 5) (by kernel_rfl) (by kernel_rfl) (by kernel_rfl) (by kernel_rfl) rfl (by kernel_rfl) rfl) ?_))))))))))))
   exact E.vl (.agg #[.string (strOfNums [(IntKind.wrap .u8 i.op), (IntKind.wrap .u8 (IntKind.wrap .i64 ((IntKind.wrap .i64 (16 * i.d)) + i.s))), (IntKind.wrap .u8 (IntKind.wrap .i64 (i.ix + (IntKind.wrap .i64 (16 * i.sc))))), (IntKind.wrap .u8 i.imm), (IntKind.wrap .u8 (IntKind.wrap .u32 (Int.tdiv i.imm 256))), (IntKind.wrap .u8 (IntKind.wrap .u32 (Int.tdiv i.imm 65536))), (IntKind.wrap .u8 (IntKind.wrap .u32 (Int.tdiv i.imm 16777216)))]), E.i 0]) (fun w h => E.run_build #[.string (strOfNums [(IntKind.wrap .u8 i.op), (IntKind.wrap .u8 (IntKind.wrap .i64 ((IntKind.wrap .i64 (16 * i.d)) + i.s))), (IntKind.wrap .u8 (IntKind.wrap .i64 (i.ix + (IntKind.wrap .i64 (16 * i.sc))))), (IntKind.wrap .u8 i.imm), (IntKind.wrap .u8 (IntKind.wrap .u32 (Int.tdiv i.imm 256))), (IntKind.wrap .u8 (IntKind.wrap .u32 (Int.tdiv i.imm 65536))), (IntKind.wrap .u8 (IntKind.wrap .u32 (Int.tdiv i.imm 16777216)))]), E.i 0] (by kernel_rfl) w) (E.st 1 [.string (strOfNums [(IntKind.wrap .u8 i.op), (IntKind.wrap .u8 (IntKind.wrap .i64 ((IntKind.wrap .i64 (16 * i.d)) + i.s))), (IntKind.wrap .u8 (IntKind.wrap .i64 (i.ix + (IntKind.wrap .i64 (16 * i.sc))))), (IntKind.wrap .u8 i.imm), (IntKind.wrap .u8 (IntKind.wrap .u32 (Int.tdiv i.imm 256))), (IntKind.wrap .u8 (IntKind.wrap .u32 (Int.tdiv i.imm 65536))), (IntKind.wrap .u8 (IntKind.wrap .u32 (Int.tdiv i.imm 16777216)))]), E.i 0] rfl rfl (E.To.code (E.C.ret (E.b1 Tryz.f29 [.agg #[.string (strOfNums [(IntKind.wrap .u8 i.op), (IntKind.wrap .u8 (IntKind.wrap .i64 ((IntKind.wrap .i64 (16 * i.d)) + i.s))), (IntKind.wrap .u8 (IntKind.wrap .i64 (i.ix + (IntKind.wrap .i64 (16 * i.sc))))), (IntKind.wrap .u8 i.imm), (IntKind.wrap .u8 (IntKind.wrap .u32 (Int.tdiv i.imm 256))), (IntKind.wrap .u8 (IntKind.wrap .u32 (Int.tdiv i.imm 65536))), (IntKind.wrap .u8 (IntKind.wrap .u32 (Int.tdiv i.imm 16777216)))]), E.i 0]] (fun w h => ⟨by unfold R2.Encode; rw [hc3, cond_false, hc5, cond_false, hc12, cond_false, hc20, cond_false, hc28, cond_false, hc35, cond_false, hc42, cond_false, hc55, cond_false, hc62, cond_true, hc63, cond_true] <;> rfl, h.ch.bel (fun _ h => h.elim)⟩)))))
  refine E.C.skip (E.To.code (E.C.held (E.Hp (fun _ => False) w (fun _ => True) [(g2, [.string (⟨#[]⟩ : ByteArray), E.i 0]), (g1, [E.i i.op, E.i i.d, E.i i.s, E.i i.ix, E.i i.sc, E.u i.imm, E.i i.sz])]) (by kernel_rfl) (E.ta 0 (.slice (some ⟨g4, 0, none⟩) 1 1) rfl (E.ta 1 (.int .u8 (IntKind.wrap .u8 (IntKind.wrap .i64 ((IntKind.wrap .i64 (16 * i.d)) + i.s)))) rfl (E.ta 2 (.int .u8 8) rfl (E.ta 5 (.pointer (some ⟨g1, 5, none⟩)) rfl (E.tb 6 (E.u i.imm) rfl (fun w h => E.run_load h 1 rfl rfl (by kernel_rfl)) (E.al 3 rfl (E.G.buildSlice [.int .u8 (IntKind.wrap .u8 (IntKind.wrap .i64 ((IntKind.wrap .i64 (16 * i.d)) + i.s))), .int .u8 8] (by kernel_rfl) (by kernel_rfl) (fun g76 => E.bk (E.al 4 rfl (E.G.append (e := 5) 1 g4 1 1 0 g76 0 2 2 1 1 [.int .u8 (IntKind.wrap .u8 i.op)] [] [.int .u8 (IntKind.wrap .u8 (IntKind.wrap .i64 ((IntKind.wrap .i64 (16 * i.d)) + i.s))), .int .u8 8] _ (by kernel_rfl) (by kernel_rfl) (by kernel_rfl) rfl (by kernel_rfl) (by first | rfl | omega | assumption) (by first | omega | decide) (by kernel_rfl) rfl (by kernel_rfl) rfl (by rfl) (by omega) (by omega) (by omega) (by kernel_rfl) (fun g77 c78 r79 hc80 hr81 => ?_)))))))))))))
  refine E.bk (E.al 7 rfl (E.G.callX (I := Nat) (fun _ => True) (fun g => .slice (some ⟨g, 0, none⟩) 4 4) (fun _ => fun _ => True) (fun g => (g, [.int .u8 (IntKind.wrap .u8 i.imm), .int .u8 (IntKind.wrap .u8 (IntKind.wrap .u32 (Int.tdiv i.imm 256))), .int .u8 (IntKind.wrap .u8 (IntKind.wrap .u32 (Int.tdiv i.imm 65536))), .int .u8 (IntKind.wrap .u8 (IntKind.wrap .u32 (Int.tdiv i.imm 16777216)))]) :: [(g77, ([.int .u8 (IntKind.wrap .u8 i.op), .int .u8 (IntKind.wrap .u8 (IntKind.wrap .i64 ((IntKind.wrap .i64 (16 * i.d)) + i.s))), .int .u8 8] ++ r79)), (g76, [.int .u8 (IntKind.wrap .u8 (IntKind.wrap .i64 ((IntKind.wrap .i64 (16 * i.d)) + i.s))), .int .u8 8]), (g2, [.string (⟨#[]⟩ : ByteArray), E.i 0]), (g1, [E.i i.op, E.i i.d, E.i i.s, E.i i.ix, E.i i.sc, E.u i.imm, E.i i.sz])]) (fun w h => (R2_four i.imm w h).mono fun e w1 ⟨g, he, hh⟩ => ⟨g, trivial, he, hh⟩) (fun w _ => by kernel_rfl) (by kernel_rfl) (fun g82 _ => E.bk (E.al 8 rfl (E.G.append (e := 5) 1 g77 3 c78 0 g82 0 4 4 1 1 [.int .u8 (IntKind.wrap .u8 i.op), .int .u8 (IntKind.wrap .u8 (IntKind.wrap .i64 ((IntKind.wrap .i64 (16 * i.d)) + i.s))), .int .u8 8] r79 [.int .u8 (IntKind.wrap .u8 i.imm), .int .u8 (IntKind.wrap .u8 (IntKind.wrap .u32 (Int.tdiv i.imm 256))), .int .u8 (IntKind.wrap .u8 (IntKind.wrap .u32 (Int.tdiv i.imm 65536))), .int .u8 (IntKind.wrap .u8 (IntKind.wrap .u32 (Int.tdiv i.imm 16777216)))] _ (by kernel_rfl) (by kernel_rfl) (by kernel_rfl) rfl (by kernel_rfl) (by first | rfl | omega | assumption) (by first | omega | decide) (by kernel_rfl) rfl (by kernel_rfl) rfl (by rfl) (by omega) (by omega) (by omega) (by kernel_rfl) (fun g83 c84 r85 hc86 hr87 => E.bk (E.ta 9 (.slice (some ⟨g83, 0, none⟩) 7 c84) rfl (E.H.done (by kernel_rfl) (E.P.nb (E.To.code (E.wk [(2, E.pt g2), (3, .slice (some ⟨g83, 0, none⟩) 7 c84)] [(g83, ([.int .u8 (IntKind.wrap .u8 i.op), .int .u8 (IntKind.wrap .u8 (IntKind.wrap .i64 ((IntKind.wrap .i64 (16 * i.d)) + i.s))), .int .u8 8, .int .u8 (IntKind.wrap .u8 i.imm), .int .u8 (IntKind.wrap .u8 (IntKind.wrap .u32 (Int.tdiv i.imm 256))), .int .u8 (IntKind.wrap .u8 (IntKind.wrap .u32 (Int.tdiv i.imm 65536))), .int .u8 (IntKind.wrap .u8 (IntKind.wrap .u32 (Int.tdiv i.imm 16777216)))] ++ r85)), (g2, [.string (⟨#[]⟩ : ByteArray), E.i 0])] Nz.sub (E.sr ?_))))))))))))
  exact E.op (.slice (some ⟨g83, 0, none⟩) 7 c84) (E.vl (.string (strOfNums [(IntKind.wrap .u8 i.op), (IntKind.wrap .u8 (IntKind.wrap .i64 ((IntKind.wrap .i64 (16 * i.d)) + i.s))), 8, (IntKind.wrap .u8 i.imm), (IntKind.wrap .u8 (IntKind.wrap .u32 (Int.tdiv i.imm 256))), (IntKind.wrap .u8 (IntKind.wrap .u32 (Int.tdiv i.imm 65536))), (IntKind.wrap .u8 (IntKind.wrap .u32 (Int.tdiv i.imm 16777216)))])) (fun w h => E.b2s h 0 g83 0 7 c84 [(IntKind.wrap .u8 i.op), (IntKind.wrap .u8 (IntKind.wrap .i64 ((IntKind.wrap .i64 (16 * i.d)) + i.s))), 8, (IntKind.wrap .u8 i.imm), (IntKind.wrap .u8 (IntKind.wrap .u32 (Int.tdiv i.imm 256))), (IntKind.wrap .u8 (IntKind.wrap .u32 (Int.tdiv i.imm 65536))), (IntKind.wrap .u8 (IntKind.wrap .u32 (Int.tdiv i.imm 16777216)))] (e := 5) (by kernel_rfl) (by kernel_rfl) (by kernel_rfl) (by kernel_rfl) rfl (by kernel_rfl) rfl) (E.vl (.agg #[.string (strOfNums [(IntKind.wrap .u8 i.op), (IntKind.wrap .u8 (IntKind.wrap .i64 ((IntKind.wrap .i64 (16 * i.d)) + i.s))), 8, (IntKind.wrap .u8 i.imm), (IntKind.wrap .u8 (IntKind.wrap .u32 (Int.tdiv i.imm 256))), (IntKind.wrap .u8 (IntKind.wrap .u32 (Int.tdiv i.imm 65536))), (IntKind.wrap .u8 (IntKind.wrap .u32 (Int.tdiv i.imm 16777216)))]), E.i 0]) (fun w h => E.run_build #[.string (strOfNums [(IntKind.wrap .u8 i.op), (IntKind.wrap .u8 (IntKind.wrap .i64 ((IntKind.wrap .i64 (16 * i.d)) + i.s))), 8, (IntKind.wrap .u8 i.imm), (IntKind.wrap .u8 (IntKind.wrap .u32 (Int.tdiv i.imm 256))), (IntKind.wrap .u8 (IntKind.wrap .u32 (Int.tdiv i.imm 65536))), (IntKind.wrap .u8 (IntKind.wrap .u32 (Int.tdiv i.imm 16777216)))]), E.i 0] (by kernel_rfl) w) (E.st 1 [.string (strOfNums [(IntKind.wrap .u8 i.op), (IntKind.wrap .u8 (IntKind.wrap .i64 ((IntKind.wrap .i64 (16 * i.d)) + i.s))), 8, (IntKind.wrap .u8 i.imm), (IntKind.wrap .u8 (IntKind.wrap .u32 (Int.tdiv i.imm 256))), (IntKind.wrap .u8 (IntKind.wrap .u32 (Int.tdiv i.imm 65536))), (IntKind.wrap .u8 (IntKind.wrap .u32 (Int.tdiv i.imm 16777216)))]), E.i 0] rfl rfl (E.To.code (E.C.ret (E.b1 Tryz.f29 [.agg #[.string (strOfNums [(IntKind.wrap .u8 i.op), (IntKind.wrap .u8 (IntKind.wrap .i64 ((IntKind.wrap .i64 (16 * i.d)) + i.s))), 8, (IntKind.wrap .u8 i.imm), (IntKind.wrap .u8 (IntKind.wrap .u32 (Int.tdiv i.imm 256))), (IntKind.wrap .u8 (IntKind.wrap .u32 (Int.tdiv i.imm 65536))), (IntKind.wrap .u8 (IntKind.wrap .u32 (Int.tdiv i.imm 16777216)))]), E.i 0]] (fun w h => ⟨by unfold R2.Encode; rw [hc3, cond_false, hc5, cond_false, hc12, cond_false, hc20, cond_false, hc28, cond_false, hc35, cond_false, hc42, cond_false, hc55, cond_false, hc62, cond_true, hc63, cond_false] <;> rfl, h.ch.bel (fun _ h => h.elim)⟩)))))))
 refine E.C.seq (E.sr (E.op (.bool ((R2.Format i.op) == 8)) (E.op (.bool ((R2.Format i.op) == 8)) (E.To.code (E.cd ((R2.Format i.op) == 8) (fun hc88 => ?_) (fun hc88 => ?_))))))
 ·
  refine E.C.skip (E.To.code (E.cd ((R2.Format i.op) == 8) (fun hc89 => ?_) (fun hc89 => absurd (hc88.symm.trans hc89) (by decide))))
  refine E.C.region (E.op (.slice (some ⟨g4, 0, none⟩) 1 1) (E.op (.pointer (some ⟨g1, 5, none⟩)) (E.li (E.u i.imm) 2 rfl rfl (E.op (.int .u8 (IntKind.wrap .u8 i.imm)) (E.G.buildSlice [.int .u8 (IntKind.wrap .u8 i.imm)] (by kernel_rfl) (by kernel_rfl) (fun g90 => E.G.append (e := 5) 1 g4 1 1 0 g90 0 1 1 1 1 [.int .u8 (IntKind.wrap .u8 i.op)] [] [.int .u8 (IntKind.wrap .u8 i.imm)] _ (by kernel_rfl) (by kernel_rfl) (by kernel_rfl) rfl (by kernel_rfl) (by first | rfl | omega | assumption) (by first | omega | decide) (by kernel_rfl) rfl (by kernel_rfl) rfl (by rfl) (by omega) (by omega) (by omega) (by kernel_rfl) (fun g91 c92 r93 hc94 hr95 => E.op (.slice (some ⟨g91, 0, none⟩) 2 c92) (E.P.nb (E.To.code (E.wk [(2, E.pt g2), (3, .slice (some ⟨g91, 0, none⟩) 2 c92)] [(g91, ([.int .u8 (IntKind.wrap .u8 i.op), .int .u8 (IntKind.wrap .u8 i.imm)] ++ r93)), (g2, [.string (⟨#[]⟩ : ByteArray), E.i 0])] Nz.sub (E.sr (E.op (.slice (some ⟨g91, 0, none⟩) 2 c92) ?_))))))))))))
  exact E.vl (.string (strOfNums [(IntKind.wrap .u8 i.op), (IntKind.wrap .u8 i.imm)])) (fun w h => E.b2s h 0 g91 0 2 c92 [(IntKind.wrap .u8 i.op), (IntKind.wrap .u8 i.imm)] (e := 5) (by kernel_rfl) (by kernel_rfl) (by kernel_rfl) (by kernel_rfl) rfl (by kernel_rfl) rfl) (E.vl (.agg #[.string (strOfNums [(IntKind.wrap .u8 i.op), (IntKind.wrap .u8 i.imm)]), E.i 0]) (fun w h => E.run_build #[.string (strOfNums [(IntKind.wrap .u8 i.op), (IntKind.wrap .u8 i.imm)]), E.i 0] (by kernel_rfl) w) (E.st 1 [.string (strOfNums [(IntKind.wrap .u8 i.op), (IntKind.wrap .u8 i.imm)]), E.i 0] rfl rfl (E.To.code (E.C.ret (E.b1 Tryz.f29 [.agg #[.string (strOfNums [(IntKind.wrap .u8 i.op), (IntKind.wrap .u8 i.imm)]), E.i 0]] (fun w h => ⟨by unfold R2.Encode; rw [hc3, cond_false, hc5, cond_false, hc12, cond_false, hc20, cond_false, hc28, cond_false, hc35, cond_false, hc42, cond_false, hc55, cond_false, hc62, cond_false, hc88, cond_true] <;> rfl, h.ch.bel (fun _ h => h.elim)⟩))))))
 refine E.C.region (E.op (.bool ((R2.Format i.op) == 10)) (E.op (.bool ((R2.Format i.op) == 10)) (E.To.code (E.wk [(1, E.pt g1), (2, E.pt g2), (3, .slice (some ⟨g4, 0, none⟩) 1 1), (23, E.i (R2.Format i.op)), (93, .bool ((R2.Format i.op) == 10))] [(g4, [.int .u8 (IntKind.wrap .u8 i.op)]), (g2, [.string (⟨#[]⟩ : ByteArray), E.i 0]), (g1, [E.i i.op, E.i i.d, E.i i.s, E.i i.ix, E.i i.sc, E.u i.imm, E.i i.sz])] Nz.sub (E.cd ((R2.Format i.op) == 10) (fun hc96 => ?_) (fun hc96 => ?_))))))
 ·
  refine E.C.region (E.op (.slice (some ⟨g4, 0, none⟩) 1 1) (E.op (.pointer (some ⟨g1, 5, none⟩)) (E.li (E.u i.imm) 2 rfl rfl (E.op (.int .u8 (IntKind.wrap .u8 i.imm)) (E.G.buildSlice [.int .u8 (IntKind.wrap .u8 i.imm)] (by kernel_rfl) (by kernel_rfl) (fun g97 => E.G.append (e := 5) 1 g4 1 1 0 g97 0 1 1 1 1 [.int .u8 (IntKind.wrap .u8 i.op)] [] [.int .u8 (IntKind.wrap .u8 i.imm)] _ (by kernel_rfl) (by kernel_rfl) (by kernel_rfl) rfl (by kernel_rfl) (by first | rfl | omega | assumption) (by first | omega | decide) (by kernel_rfl) rfl (by kernel_rfl) rfl (by rfl) (by omega) (by omega) (by omega) (by kernel_rfl) (fun g98 c99 r100 hc101 hr102 => E.op (.slice (some ⟨g98, 0, none⟩) 2 c99) (E.P.nb (E.To.code (E.wk [(2, E.pt g2), (3, .slice (some ⟨g98, 0, none⟩) 2 c99)] [(g98, ([.int .u8 (IntKind.wrap .u8 i.op), .int .u8 (IntKind.wrap .u8 i.imm)] ++ r100)), (g2, [.string (⟨#[]⟩ : ByteArray), E.i 0])] Nz.sub (E.sr (E.op (.slice (some ⟨g98, 0, none⟩) 2 c99) ?_))))))))))))
  exact E.vl (.string (strOfNums [(IntKind.wrap .u8 i.op), (IntKind.wrap .u8 i.imm)])) (fun w h => E.b2s h 0 g98 0 2 c99 [(IntKind.wrap .u8 i.op), (IntKind.wrap .u8 i.imm)] (e := 5) (by kernel_rfl) (by kernel_rfl) (by kernel_rfl) (by kernel_rfl) rfl (by kernel_rfl) rfl) (E.vl (.agg #[.string (strOfNums [(IntKind.wrap .u8 i.op), (IntKind.wrap .u8 i.imm)]), E.i 0]) (fun w h => E.run_build #[.string (strOfNums [(IntKind.wrap .u8 i.op), (IntKind.wrap .u8 i.imm)]), E.i 0] (by kernel_rfl) w) (E.st 1 [.string (strOfNums [(IntKind.wrap .u8 i.op), (IntKind.wrap .u8 i.imm)]), E.i 0] rfl rfl (E.To.code (E.C.ret (E.b1 Tryz.f29 [.agg #[.string (strOfNums [(IntKind.wrap .u8 i.op), (IntKind.wrap .u8 i.imm)]), E.i 0]] (fun w h => ⟨by unfold R2.Encode; rw [hc3, cond_false, hc5, cond_false, hc12, cond_false, hc20, cond_false, hc28, cond_false, hc35, cond_false, hc42, cond_false, hc55, cond_false, hc62, cond_false, hc88, cond_false, hc96, cond_true] <;> rfl, h.ch.bel (fun _ h => h.elim)⟩))))))
 refine E.sr (E.op (.bool ((R2.Format i.op) == 9)) (E.op (.bool ((R2.Format i.op) == 9)) (E.To.code (E.cd ((R2.Format i.op) == 9) (fun hc103 => ?_) (fun hc103 => ?_)))))
 ·
  refine E.C.region (E.op (.slice (some ⟨g4, 0, none⟩) 1 1) (E.op (.pointer (some ⟨g1, 5, none⟩)) (E.li (E.u i.imm) 2 rfl rfl (E.G.callX (I := Nat) (fun _ => True) (fun g => .slice (some ⟨g, 0, none⟩) 4 4) (fun _ => fun _ => True) (fun g => (g, [.int .u8 (IntKind.wrap .u8 i.imm), .int .u8 (IntKind.wrap .u8 (IntKind.wrap .u32 (Int.tdiv i.imm 256))), .int .u8 (IntKind.wrap .u8 (IntKind.wrap .u32 (Int.tdiv i.imm 65536))), .int .u8 (IntKind.wrap .u8 (IntKind.wrap .u32 (Int.tdiv i.imm 16777216)))]) :: [(g4, [.int .u8 (IntKind.wrap .u8 i.op)]), (g2, [.string (⟨#[]⟩ : ByteArray), E.i 0]), (g1, [E.i i.op, E.i i.d, E.i i.s, E.i i.ix, E.i i.sc, E.u i.imm, E.i i.sz])]) (fun w h => (R2_four i.imm w h).mono fun e w1 ⟨g, he, hh⟩ => ⟨g, trivial, he, hh⟩) (fun w _ => by kernel_rfl) (by kernel_rfl) (fun g104 _ => E.G.append (e := 5) 1 g4 1 1 0 g104 0 4 4 1 1 [.int .u8 (IntKind.wrap .u8 i.op)] [] [.int .u8 (IntKind.wrap .u8 i.imm), .int .u8 (IntKind.wrap .u8 (IntKind.wrap .u32 (Int.tdiv i.imm 256))), .int .u8 (IntKind.wrap .u8 (IntKind.wrap .u32 (Int.tdiv i.imm 65536))), .int .u8 (IntKind.wrap .u8 (IntKind.wrap .u32 (Int.tdiv i.imm 16777216)))] _ (by kernel_rfl) (by kernel_rfl) (by kernel_rfl) rfl (by kernel_rfl) (by first | rfl | omega | assumption) (by first | omega | decide) (by kernel_rfl) rfl (by kernel_rfl) rfl (by rfl) (by omega) (by omega) (by omega) (by kernel_rfl) (fun g105 c106 r107 hc108 hr109 => E.op (.slice (some ⟨g105, 0, none⟩) 5 c106) (E.P.nb (E.To.code (E.wk [(2, E.pt g2), (3, .slice (some ⟨g105, 0, none⟩) 5 c106)] [(g105, ([.int .u8 (IntKind.wrap .u8 i.op), .int .u8 (IntKind.wrap .u8 i.imm), .int .u8 (IntKind.wrap .u8 (IntKind.wrap .u32 (Int.tdiv i.imm 256))), .int .u8 (IntKind.wrap .u8 (IntKind.wrap .u32 (Int.tdiv i.imm 65536))), .int .u8 (IntKind.wrap .u8 (IntKind.wrap .u32 (Int.tdiv i.imm 16777216)))] ++ r107)), (g2, [.string (⟨#[]⟩ : ByteArray), E.i 0])] Nz.sub (E.sr (E.op (.slice (some ⟨g105, 0, none⟩) 5 c106) (E.vl (.string (strOfNums [(IntKind.wrap .u8 i.op), (IntKind.wrap .u8 i.imm), (IntKind.wrap .u8 (IntKind.wrap .u32 (Int.tdiv i.imm 256))), (IntKind.wrap .u8 (IntKind.wrap .u32 (Int.tdiv i.imm 65536))), (IntKind.wrap .u8 (IntKind.wrap .u32 (Int.tdiv i.imm 16777216)))])) (fun w h => E.b2s h 0 g105 0 5 c106 [(IntKind.wrap .u8 i.op), (IntKind.wrap .u8 i.imm), (IntKind.wrap .u8 (IntKind.wrap .u32 (Int.tdiv i.imm 256))), (IntKind.wrap .u8 (IntKind.wrap .u32 (Int.tdiv i.imm 65536))), (IntKind.wrap .u8 (IntKind.wrap .u32 (Int.tdiv i.imm 16777216)))] (e := 5) (by kernel_rfl) (by kernel_rfl) (by kernel_rfl) (by kernel_rfl) rfl (by kernel_rfl) rfl) ?_))))))))))))
  exact E.vl (.agg #[.string (strOfNums [(IntKind.wrap .u8 i.op), (IntKind.wrap .u8 i.imm), (IntKind.wrap .u8 (IntKind.wrap .u32 (Int.tdiv i.imm 256))), (IntKind.wrap .u8 (IntKind.wrap .u32 (Int.tdiv i.imm 65536))), (IntKind.wrap .u8 (IntKind.wrap .u32 (Int.tdiv i.imm 16777216)))]), E.i 0]) (fun w h => E.run_build #[.string (strOfNums [(IntKind.wrap .u8 i.op), (IntKind.wrap .u8 i.imm), (IntKind.wrap .u8 (IntKind.wrap .u32 (Int.tdiv i.imm 256))), (IntKind.wrap .u8 (IntKind.wrap .u32 (Int.tdiv i.imm 65536))), (IntKind.wrap .u8 (IntKind.wrap .u32 (Int.tdiv i.imm 16777216)))]), E.i 0] (by kernel_rfl) w) (E.st 1 [.string (strOfNums [(IntKind.wrap .u8 i.op), (IntKind.wrap .u8 i.imm), (IntKind.wrap .u8 (IntKind.wrap .u32 (Int.tdiv i.imm 256))), (IntKind.wrap .u8 (IntKind.wrap .u32 (Int.tdiv i.imm 65536))), (IntKind.wrap .u8 (IntKind.wrap .u32 (Int.tdiv i.imm 16777216)))]), E.i 0] rfl rfl (E.To.code (E.C.ret (E.b1 Tryz.f29 [.agg #[.string (strOfNums [(IntKind.wrap .u8 i.op), (IntKind.wrap .u8 i.imm), (IntKind.wrap .u8 (IntKind.wrap .u32 (Int.tdiv i.imm 256))), (IntKind.wrap .u8 (IntKind.wrap .u32 (Int.tdiv i.imm 65536))), (IntKind.wrap .u8 (IntKind.wrap .u32 (Int.tdiv i.imm 16777216)))]), E.i 0]] (fun w h => ⟨by unfold R2.Encode; rw [hc3, cond_false, hc5, cond_false, hc12, cond_false, hc20, cond_false, hc28, cond_false, hc35, cond_false, hc42, cond_false, hc55, cond_false, hc62, cond_false, hc88, cond_false, hc96, cond_false, hc103, cond_true] <;> rfl, h.ch.bel (fun _ h => h.elim)⟩)))))
 exact E.C.skip (E.P.nb (E.To.code (E.sr (E.op (.slice (some ⟨g4, 0, none⟩) 1 1) (E.vl (.string (strOfNums [(IntKind.wrap .u8 i.op)])) (fun w h => E.b2s h 0 g4 0 1 1 [(IntKind.wrap .u8 i.op)] (e := 5) (by kernel_rfl) (by kernel_rfl) (by kernel_rfl) (by kernel_rfl) rfl (by kernel_rfl) rfl) (E.vl (.agg #[.string (strOfNums [(IntKind.wrap .u8 i.op)]), E.i 0]) (fun w h => E.run_build #[.string (strOfNums [(IntKind.wrap .u8 i.op)]), E.i 0] (by kernel_rfl) w) (E.st 1 [.string (strOfNums [(IntKind.wrap .u8 i.op)]), E.i 0] rfl rfl (E.To.code (E.wk [(2, E.pt g2)] [(g2, [.string (strOfNums [(IntKind.wrap .u8 i.op)]), E.i 0])] Nz.sub (E.C.ret (E.b0 Tryz.f29 [.agg #[.string (strOfNums [(IntKind.wrap .u8 i.op)]), E.i 0]] (fun w h => ⟨by unfold R2.Encode; rw [hc3, cond_false, hc5, cond_false, hc12, cond_false, hc20, cond_false, hc28, cond_false, hc35, cond_false, hc42, cond_false, hc55, cond_false, hc62, cond_false, hc88, cond_false, hc96, cond_false, hc103, cond_false] <;> rfl, h.ch.bel (fun _ h => h.elim)⟩))))))))))))
def R2.ops : List Int := [0, 1, 2, 3, 4, 96, 100, 106, 109, 112, 113, 128, 129, 130, 32, 48, 64, 16, 80, 88, 33, 49, 65, 17, 81, 89, 34, 50, 66, 18, 82, 90, 35, 51, 67, 19, 83, 91, 36, 52, 68, 20, 84, 92, 37, 53, 69, 21, 85, 93, 38, 54, 70, 86, 94, 39, 55, 71, 40, 56, 72, 41, 57, 73, 42, 58, 74, 43, 59, 75, 44, 60, 76, 45, 61, 77, 46, 62, 78]
def R2.ix (a : Int) : Int := Int.tmod (bits .and .i64 a 65535) 79

def R2.c24 : List Value := [.int .i64 0, .int .i64 1, .int .i64 2, .int .i64 3, .int .i64 4, .int .i64 96, .int .i64 100, .int .i64 106, .int .i64 109, .int .i64 112, .int .i64 113, .int .i64 128, .int .i64 129, .int .i64 130, .int .i64 32, .int .i64 48, .int .i64 64, .int .i64 16, .int .i64 80, .int .i64 88, .int .i64 33, .int .i64 49, .int .i64 65, .int .i64 17]
def R2.c38 : List Value := [.int .i64 0, .int .i64 1, .int .i64 2, .int .i64 3, .int .i64 4, .int .i64 96, .int .i64 100, .int .i64 106, .int .i64 109, .int .i64 112, .int .i64 113, .int .i64 128, .int .i64 129, .int .i64 130, .int .i64 32, .int .i64 48, .int .i64 64, .int .i64 16, .int .i64 80, .int .i64 88, .int .i64 33, .int .i64 49, .int .i64 65, .int .i64 17, .int .i64 81, .int .i64 89, .int .i64 34, .int .i64 50, .int .i64 66, .int .i64 18, .int .i64 82, .int .i64 90, .int .i64 35, .int .i64 51, .int .i64 67, .int .i64 19, .int .i64 83, .int .i64 91]
def R2.c58 : List Value := [.int .i64 0, .int .i64 1, .int .i64 2, .int .i64 3, .int .i64 4, .int .i64 96, .int .i64 100, .int .i64 106, .int .i64 109, .int .i64 112, .int .i64 113, .int .i64 128, .int .i64 129, .int .i64 130, .int .i64 32, .int .i64 48, .int .i64 64, .int .i64 16, .int .i64 80, .int .i64 88, .int .i64 33, .int .i64 49, .int .i64 65, .int .i64 17, .int .i64 81, .int .i64 89, .int .i64 34, .int .i64 50, .int .i64 66, .int .i64 18, .int .i64 82, .int .i64 90, .int .i64 35, .int .i64 51, .int .i64 67, .int .i64 19, .int .i64 83, .int .i64 91, .int .i64 36, .int .i64 52, .int .i64 68, .int .i64 20, .int .i64 84, .int .i64 92, .int .i64 37, .int .i64 53, .int .i64 69, .int .i64 21, .int .i64 85, .int .i64 93, .int .i64 38, .int .i64 54, .int .i64 70, .int .i64 86, .int .i64 94, .int .i64 39, .int .i64 55, .int .i64 71]
theorem K.fmtF_lt (op : Int) : ∀ (m j k : Nat), K.fmtF op m j = some k → j ≤ k ∧ k < j + m
  | 0, _, _, h => by cases h
  | m + 1, j, k, h => by
    unfold K.fmtF at h
    split at h
    · cases h; omega
    · have := K.fmtF_lt op m (j + 1) k h; omega
theorem K.fmt_lt {op : Int} {k : Nat} (h : K.fmt op = some k) : k < 11 := by
  have := K.fmtF_lt op 11 0 k h; omega
theorem find_some {op : Int} {k : Nat} (hk : K.fmt op = some k) (w : World) : Calls Tryz.prog 106 #[.int .i64 op] w fun e w' => ∃ F cs G ds, e = .returned (.tuple #[.agg #[.int .i64 (K.lo k), .int .i64 (K.hi k), .int .i64 (K.len k), .func (.func F) #[] cs, .func (.func G) #[] ds], .bool true]) ∧ K.Fm k (.func (.func F) #[] cs) (.func (.func G) #[] ds) w' ∧ Bel w w' :=
  (find_of formats_any op w).mono fun e w' h => by
    rcases h with ⟨k', t, p, hlt, hk', he, hf, hb⟩ | ⟨hn, _⟩
    · rw [hk] at hk'; cases hk'
      obtain ⟨⟨F, cs, rfl⟩, ⟨G, ds, rfl⟩⟩ := hf.isf
      exact ⟨F, cs, G, ds, he, hf, hb⟩
    · rw [hk] at hn; cases hn
theorem find_none {op : Int} (hk : K.fmt op = none) (w : World) : Calls Tryz.prog 106 #[.int .i64 op] w fun e w' => e = .returned (.tuple #[.agg #[.int .i64 0, .int .i64 0, .int .i64 0, .nilFunc, .nilFunc], .bool false]) ∧ Bel w w' :=
  (find_of formats_any op w).mono fun e w' h => by
    rcases h with ⟨k', t, p, hlt, hk', _⟩ | ⟨_, he, hb⟩
    · rw [hk] at hk'; cases hk'
    · exact ⟨he, hb⟩
theorem K.Cl.ext {Ls : List Nat} {F : FuncId} {fs : List FuncId} {v : Value} {w w' : World} (h : K.Cl F fs v w) (hl : 0 < fs.length) (hs : ∀ x ∈ Ls, ∃ n, w.cell? ⟨x, 0, none⟩ = some (.int .i64 n)) (hw : ∀ b, b < w.heap.size → b ∉ Ls → w'.heap[b]? = w.heap[b]?) : K.Cl F fs v w' := by
  obtain ⟨c, b, cap, e, h1, h2⟩ := h
  refine ⟨c, b, cap, e, ?_, fun j hj => ?_⟩
  · rw [World.cell?_of_block (w := w) (a := ⟨c, 0, none⟩) (hw c (lt_of_cell h1) fun q => ?_)]; exact h1
    obtain ⟨n, hn⟩ := hs _ q; rw [h1] at hn; cases hn
  · rw [World.cell?_of_block (w := w) (a := ⟨b, j, none⟩) (hw b (lt_of_cell (h2 j hj)) fun q => ?_)]; exact h2 j hj
    obtain ⟨n, hn⟩ := hs _ q; rw [h2 0 hl] at hn; cases hn
theorem K.Fm.ext {Ls : List Nat} {k : Nat} {t p : Value} {w w' : World} (h : K.Fm k t p w) (hs : ∀ x ∈ Ls, ∃ n, w.cell? ⟨x, 0, none⟩ = some (.int .i64 n)) (hw : ∀ b, b < w.heap.size → b ∉ Ls → w'.heap[b]? = w.heap[b]?) : K.Fm k t p w' := by
  unfold K.Fm at *
  split at h <;> first | exact h | exact ⟨h.1.ext (by simp) hs hw, h.2.ext (by simp) hs hw⟩
/-- A block whose first cell is an integer. -/
def K.intB (L : List (Nat × List Value)) : Prop := ∀ p ∈ L, ∃ n, p.2[0]? = some (.int .i64 n)
theorem find_hp {S : Nat → Prop} {w0 : World} {X : World → Prop} {L : List (Nat × List Value)} {op : Int} {k : Nat} (hk : K.fmt op = some k) (hL : K.intB L) (w : World) (h : E.Hp S w0 X L w) :
    Calls Tryz.prog 106 #[.int .i64 op] w fun e w' => ∃ i : FuncId × Array Value × FuncId × Array Value, True ∧ e = .returned (.tuple #[.agg #[.int .i64 (K.lo k), .int .i64 (K.hi k), .int .i64 (K.len k), .func (.func i.1) #[] i.2.1, .func (.func i.2.2.1) #[] i.2.2.2], .bool true]) ∧
      E.Hp S w0 (fun w => X w ∧ K.Fm k (.func (.func i.1) #[] i.2.1) (.func (.func i.2.2.1) #[] i.2.2.2) w) L w' :=
  (find_some hk w).mono fun e w' ⟨F, cs, G, ds, he, hf, hb⟩ => ⟨(F, cs, G, ds), trivial, he, by
    have h1 := h.bel hb
    refine h1.addX fun w2 hs hw => hf.ext (Ls := L.map (·.1)) (fun x hx => ?_) hw
    obtain ⟨p, hp, rfl⟩ := List.mem_map.1 hx
    obtain ⟨n, hn⟩ := hL p hp
    exact ⟨n, h1.mem p hp 0 _ hn⟩⟩
set_option maxRecDepth 100000 in
theorem kput_at {k : Nat} (hk : k < 11) {t : Value} {G : FuncId} {ds : Array Value} {w : World} (h : K.Fm k t (.func (.func G) #[] ds) w) {i : K.Ins} (hi : K.In i) : Calls Tryz.prog G (#[.agg #[.int .i64 i.op, .int .i64 i.d, .int .i64 i.s, .int .i64 i.ix, .int .i64 i.sc, .int .u32 i.imm, .int .i64 i.sz]] ++ ds) w fun e w' => e = .returned (.string (strOfNums (K.wr k i))) ∧ Bel w w' := by
  obtain ⟨G', ds', e, _, hc⟩ := put_any k hk t _ w h i hi
  injection e with e1 _ e2
  injection e1 with e1
  subst e1; subst e2
  exact hc w (Bel.refl w)
set_option maxRecDepth 100000 in
theorem K.enter_at {k : Nat} (hk : k < 11) {t : Value} {G : FuncId} {ds : Array Value} {w : World} (h : K.Fm k t (.func (.func G) #[] ds) w) (args : Array Value) (w' : World) : (callFunc G args).run Tryz.prog w' = .ok (.enter G args) w' := by
  obtain ⟨G', ds', e, he, _⟩ := put_any k hk t _ w h ⟨0, 0, 0, 0, 0, 0, 0⟩ ⟨by decide, by decide, by decide, by decide, by decide, by decide, by decide, by decide, by decide, by decide⟩
  injection e with e1 _ e2
  injection e1 with e1
  subst e1
  exact he args w'
theorem E.run_callv {P : Program} {fr : E.Fr} {x : Operand} {args : Array Operand} {ts : Array TypeId} {T : TypeId} {d : Option Nat} {pos : String} {af : Array Edge} {gd : Option (Nat × Bool)} {G : FuncId} {ds : Array Value} (vals : List Value) (hf : E.ev fr x = .func (.func G) #[] ds) (ha : args.toList.map (E.ev fr) = vals) (w : World) :
    (execOp (E.ev fr) ⟨d, .call { callee := .value x, args := args, argTypes := ts }, T, pos, af, gd⟩).run P w = (callFunc G (vals.toArray ++ ds)).run P w := by
  have e : args.map (E.ev fr) = vals.toArray := by rw [← ha]; exact Array.toList_inj.1 (by rw [Array.toList_map])
  show (do let d ← resolve (E.ev fr) { callee := .value x, args := args, argTypes := ts } T; invoke d.target d.args).run P w = _
  simp only [resolve, hf, Deferred.ofValue, e]
  simp [invoke]
/-- A call of a function value with what it captured. -/
theorem E.G.callv {P : Program} {n : Nat} {ops : Array Oper} {Q : Exit → Act → World → Prop} {S : Nat → Prop} {w0 : World} {X : World → Prop} {L : List (Nat × List Value)} {l : List Oper} {fr : E.Fr} {x : Operand} {args : Array Operand} {ts : Array TypeId} {T : TypeId} {d : Option Nat} {pos : String} {af : Array Edge} {gd : Option (Nat × Bool)} {G : FuncId} {ds : Array Value} (vals : List Value) (v : Value)
    (hf : E.ev fr x = .func (.func G) #[] ds) (ha : args.toList.map (E.ev fr) = vals) (he : ∀ w, E.Hp S w0 X L w → (callFunc G (vals.toArray ++ ds)).run P w = .ok (.enter G (vals.toArray ++ ds)) w)
    (hc : ∀ w, E.Hp S w0 X L w → Calls P G (vals.toArray ++ ds) w fun e w' => e = .returned v ∧ Bel w w') (hck : E.ck n ops fr ⟨d, .call { callee := .value x, args := args, argTypes := ts }, T, pos, af, gd⟩ = true)
    (k : E.G P n ops Q l (E.upd fr d v) S w0 X L) : E.G P n ops Q (⟨d, .call { callee := .value x, args := args, argTypes := ts }, T, pos, af, gd⟩ :: l) fr S w0 X L :=
  E.G.call (o := ⟨d, .call { callee := .value x, args := args, argTypes := ts }, T, pos, af, gd⟩) v hc (fun w h => (E.run_callv vals hf ha w).trans (he w h)) hck k
theorem E.api_KIns_eql {fr : E.Fr} {x y : Operand} {u T : TypeId} {d : Option Nat} {pos : String} {af : Array Edge} {gd : Option (Nat × Bool)} {a0 a1 a2 a3 a4 a5 a6 b0 b1 b2 b3 b4 b5 b6 : Int} {w : World}
    (hx : E.ev fr x = .agg #[.int .i64 a0, .int .i64 a1, .int .i64 a2, .int .i64 a3, .int .i64 a4, .int .u32 a5, .int .i64 a6]) (hy : E.ev fr y = .agg #[.int .i64 b0, .int .i64 b1, .int .i64 b2, .int .i64 b3, .int .i64 b4, .int .u32 b5, .int .i64 b6]) :
    (execOp (E.ev fr) ⟨d, .binOp .eql 66 x y u, T, pos, af, gd⟩).run Tryz.prog w = .ok (.value (.bool (a0 == b0 && a1 == b1 && a2 == b2 && a3 == b3 && a4 == b4 && a5 == b5 && a6 == b6))) w := by
  show (do let r ← (do eqGuard .eql 66 x y (E.ev fr x) (E.ev fr y); binOp .eql 66 (E.ev fr x) (E.ev fr y)); pure (Next.value r) : Sem Next).run Tryz.prog w = _
  rw [hx, hy]
  go_simp
  (repeat' split) <;> simp_all
end Go.Proofs.YtglidnmmeclneaaGreat
