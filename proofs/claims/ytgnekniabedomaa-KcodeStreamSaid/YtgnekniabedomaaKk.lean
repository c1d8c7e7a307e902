/- Walks: the writer of each of the eleven formats, for fields in their ranges. -/
import Derived.Test.YtgnekniabedomaaKj
namespace Go.Proofs.Ytgnekniabedomaa
set_option linter.unusedVariables false
set_option linter.unusedSimpArgs false
open Go.RowKit
def K.p_None (i : K.Ins) : List Int := []
theorem putNone_t : PutOK 41 K.p_None := putNone_ok
/-- The bytes behind the first one that format k writes. -/
def K.wr (k : Nat) (i : K.Ins) : List Int := match k with
  | 0 => K.p_None i
  | 1 => K.p_Reg i
  | 2 => K.p_Pair i
  | 3 => (([] ++ K.p_Reg i) ++ K.p_Byte i)
  | 4 => (([] ++ K.p_Reg i) ++ K.p_Full i)
  | 5 => (([] ++ K.p_Pair i) ++ K.p_Byte i)
  | 6 => ((([] ++ K.p_Pair i) ++ K.p_Index i) ++ K.p_Full i)
  | 7 => K.p_Byte i
  | 8 => K.p_Full i
  | 9 => K.p_Byte i
  | 10 => K.p_Pair i
  | _ => []
theorem K.enter_putByte (args : Array Value) (w : World) : (callFunc 49 args).run Try.prog w = .ok (.enter 49 args) w := by go_simp
theorem K.enter_putFull (args : Array Value) (w : World) : (callFunc 51 args).run Try.prog w = .ok (.enter 51 args) w := by go_simp
theorem K.enter_putNone (args : Array Value) (w : World) : (callFunc 41 args).run Try.prog w = .ok (.enter 41 args) w := by go_simp
theorem K.enter_putPair (args : Array Value) (w : World) : (callFunc 45 args).run Try.prog w = .ok (.enter 45 args) w := by go_simp
theorem K.enter_putReg (args : Array Value) (w : World) : (callFunc 43 args).run Try.prog w = .ok (.enter 43 args) w := by go_simp
theorem K.enter_puts_1 (args : Array Value) (w : World) : (callFunc 57 args).run Try.prog w = .ok (.enter 57 args) w := by go_simp
theorem put_0 (t p : Value) (w0 : World) (h : K.Fm 0 t p w0) (i : K.Ins) (hi : K.In i) : ∃ G ds, p = .func (.func G) #[] ds ∧ (∀ (args : Array Value) (w : World), (callFunc G args).run Try.prog w = .ok (.enter G args) w) ∧
    ∀ w, Bel w0 w → Calls Try.prog G (#[.agg #[.int .i64 i.op, .int .i64 i.d, .int .i64 i.s, .int .i64 i.ix, .int .i64 i.sc, .int .u32 i.imm, .int .i64 i.sz]] ++ ds) w fun e w' => e = .returned (.string (strOfNums (K.wr 0 i))) ∧ Bel w w' := by
  obtain ⟨rfl, rfl⟩ := h
  refine ⟨_, #[], rfl, K.enter_putNone, fun w hb => ?_⟩
  rw [Array.append_empty]
  exact putNone_t i w hi
theorem put_1 (t p : Value) (w0 : World) (h : K.Fm 1 t p w0) (i : K.Ins) (hi : K.In i) : ∃ G ds, p = .func (.func G) #[] ds ∧ (∀ (args : Array Value) (w : World), (callFunc G args).run Try.prog w = .ok (.enter G args) w) ∧
    ∀ w, Bel w0 w → Calls Try.prog G (#[.agg #[.int .i64 i.op, .int .i64 i.d, .int .i64 i.s, .int .i64 i.ix, .int .i64 i.sc, .int .u32 i.imm, .int .i64 i.sz]] ++ ds) w fun e w' => e = .returned (.string (strOfNums (K.wr 1 i))) ∧ Bel w w' := by
  obtain ⟨rfl, rfl⟩ := h
  refine ⟨_, #[], rfl, K.enter_putReg, fun w hb => ?_⟩
  rw [Array.append_empty]
  exact putReg_t i w hi
theorem put_2 (t p : Value) (w0 : World) (h : K.Fm 2 t p w0) (i : K.Ins) (hi : K.In i) : ∃ G ds, p = .func (.func G) #[] ds ∧ (∀ (args : Array Value) (w : World), (callFunc G args).run Try.prog w = .ok (.enter G args) w) ∧
    ∀ w, Bel w0 w → Calls Try.prog G (#[.agg #[.int .i64 i.op, .int .i64 i.d, .int .i64 i.s, .int .i64 i.ix, .int .i64 i.sc, .int .u32 i.imm, .int .i64 i.sz]] ++ ds) w fun e w' => e = .returned (.string (strOfNums (K.wr 2 i))) ∧ Bel w w' := by
  obtain ⟨rfl, rfl⟩ := h
  refine ⟨_, #[], rfl, K.enter_putPair, fun w hb => ?_⟩
  rw [Array.append_empty]
  exact putPair_t i w hi
theorem put_3 (t p : Value) (w0 : World) (h : K.Fm 3 t p w0) (i : K.Ins) (hi : K.In i) : ∃ G ds, p = .func (.func G) #[] ds ∧ (∀ (args : Array Value) (w : World), (callFunc G args).run Try.prog w = .ok (.enter G args) w) ∧
    ∀ w, Bel w0 w → Calls Try.prog G (#[.agg #[.int .i64 i.op, .int .i64 i.d, .int .i64 i.s, .int .i64 i.ix, .int .i64 i.sc, .int .u32 i.imm, .int .i64 i.sz]] ++ ds) w fun e w' => e = .returned (.string (strOfNums (K.wr 3 i))) ∧ Bel w w' := by
  obtain ⟨⟨c', b', cap', rfl, _, _⟩, ⟨c, b, cap, rfl, g1, g2⟩⟩ := h
  refine ⟨_, #[.pointer (some ⟨c, 0, none⟩)], rfl, K.enter_puts_1, fun w hb => ?_⟩
  have hq : ∀ j, j < 2 → w.cell? ⟨b, j, none⟩ = _ := fun j hj => Bel.at hb (g2 j hj)
  exact puts_Reg_Byte c b cap i w hi (Bel.at hb g1) (hq 0 (by decide)) (hq 1 (by decide))
theorem put_4 (t p : Value) (w0 : World) (h : K.Fm 4 t p w0) (i : K.Ins) (hi : K.In i) : ∃ G ds, p = .func (.func G) #[] ds ∧ (∀ (args : Array Value) (w : World), (callFunc G args).run Try.prog w = .ok (.enter G args) w) ∧
    ∀ w, Bel w0 w → Calls Try.prog G (#[.agg #[.int .i64 i.op, .int .i64 i.d, .int .i64 i.s, .int .i64 i.ix, .int .i64 i.sc, .int .u32 i.imm, .int .i64 i.sz]] ++ ds) w fun e w' => e = .returned (.string (strOfNums (K.wr 4 i))) ∧ Bel w w' := by
  obtain ⟨⟨c', b', cap', rfl, _, _⟩, ⟨c, b, cap, rfl, g1, g2⟩⟩ := h
  refine ⟨_, #[.pointer (some ⟨c, 0, none⟩)], rfl, K.enter_puts_1, fun w hb => ?_⟩
  have hq : ∀ j, j < 2 → w.cell? ⟨b, j, none⟩ = _ := fun j hj => Bel.at hb (g2 j hj)
  exact puts_Reg_Full c b cap i w hi (Bel.at hb g1) (hq 0 (by decide)) (hq 1 (by decide))
theorem put_5 (t p : Value) (w0 : World) (h : K.Fm 5 t p w0) (i : K.Ins) (hi : K.In i) : ∃ G ds, p = .func (.func G) #[] ds ∧ (∀ (args : Array Value) (w : World), (callFunc G args).run Try.prog w = .ok (.enter G args) w) ∧
    ∀ w, Bel w0 w → Calls Try.prog G (#[.agg #[.int .i64 i.op, .int .i64 i.d, .int .i64 i.s, .int .i64 i.ix, .int .i64 i.sc, .int .u32 i.imm, .int .i64 i.sz]] ++ ds) w fun e w' => e = .returned (.string (strOfNums (K.wr 5 i))) ∧ Bel w w' := by
  obtain ⟨⟨c', b', cap', rfl, _, _⟩, ⟨c, b, cap, rfl, g1, g2⟩⟩ := h
  refine ⟨_, #[.pointer (some ⟨c, 0, none⟩)], rfl, K.enter_puts_1, fun w hb => ?_⟩
  have hq : ∀ j, j < 2 → w.cell? ⟨b, j, none⟩ = _ := fun j hj => Bel.at hb (g2 j hj)
  exact puts_Pair_Byte c b cap i w hi (Bel.at hb g1) (hq 0 (by decide)) (hq 1 (by decide))
theorem put_6 (t p : Value) (w0 : World) (h : K.Fm 6 t p w0) (i : K.Ins) (hi : K.In i) : ∃ G ds, p = .func (.func G) #[] ds ∧ (∀ (args : Array Value) (w : World), (callFunc G args).run Try.prog w = .ok (.enter G args) w) ∧
    ∀ w, Bel w0 w → Calls Try.prog G (#[.agg #[.int .i64 i.op, .int .i64 i.d, .int .i64 i.s, .int .i64 i.ix, .int .i64 i.sc, .int .u32 i.imm, .int .i64 i.sz]] ++ ds) w fun e w' => e = .returned (.string (strOfNums (K.wr 6 i))) ∧ Bel w w' := by
  obtain ⟨⟨c', b', cap', rfl, _, _⟩, ⟨c, b, cap, rfl, g1, g2⟩⟩ := h
  refine ⟨_, #[.pointer (some ⟨c, 0, none⟩)], rfl, K.enter_puts_1, fun w hb => ?_⟩
  have hq : ∀ j, j < 3 → w.cell? ⟨b, j, none⟩ = _ := fun j hj => Bel.at hb (g2 j hj)
  exact puts_Pair_Index_Full c b cap i w hi (Bel.at hb g1) (hq 0 (by decide)) (hq 1 (by decide)) (hq 2 (by decide))
theorem put_7 (t p : Value) (w0 : World) (h : K.Fm 7 t p w0) (i : K.Ins) (hi : K.In i) : ∃ G ds, p = .func (.func G) #[] ds ∧ (∀ (args : Array Value) (w : World), (callFunc G args).run Try.prog w = .ok (.enter G args) w) ∧
    ∀ w, Bel w0 w → Calls Try.prog G (#[.agg #[.int .i64 i.op, .int .i64 i.d, .int .i64 i.s, .int .i64 i.ix, .int .i64 i.sc, .int .u32 i.imm, .int .i64 i.sz]] ++ ds) w fun e w' => e = .returned (.string (strOfNums (K.wr 7 i))) ∧ Bel w w' := by
  obtain ⟨rfl, rfl⟩ := h
  refine ⟨_, #[], rfl, K.enter_putByte, fun w hb => ?_⟩
  rw [Array.append_empty]
  exact putByte_t i w hi
theorem put_8 (t p : Value) (w0 : World) (h : K.Fm 8 t p w0) (i : K.Ins) (hi : K.In i) : ∃ G ds, p = .func (.func G) #[] ds ∧ (∀ (args : Array Value) (w : World), (callFunc G args).run Try.prog w = .ok (.enter G args) w) ∧
    ∀ w, Bel w0 w → Calls Try.prog G (#[.agg #[.int .i64 i.op, .int .i64 i.d, .int .i64 i.s, .int .i64 i.ix, .int .i64 i.sc, .int .u32 i.imm, .int .i64 i.sz]] ++ ds) w fun e w' => e = .returned (.string (strOfNums (K.wr 8 i))) ∧ Bel w w' := by
  obtain ⟨rfl, rfl⟩ := h
  refine ⟨_, #[], rfl, K.enter_putFull, fun w hb => ?_⟩
  rw [Array.append_empty]
  exact putFull_t i w hi
theorem put_9 (t p : Value) (w0 : World) (h : K.Fm 9 t p w0) (i : K.Ins) (hi : K.In i) : ∃ G ds, p = .func (.func G) #[] ds ∧ (∀ (args : Array Value) (w : World), (callFunc G args).run Try.prog w = .ok (.enter G args) w) ∧
    ∀ w, Bel w0 w → Calls Try.prog G (#[.agg #[.int .i64 i.op, .int .i64 i.d, .int .i64 i.s, .int .i64 i.ix, .int .i64 i.sc, .int .u32 i.imm, .int .i64 i.sz]] ++ ds) w fun e w' => e = .returned (.string (strOfNums (K.wr 9 i))) ∧ Bel w w' := by
  obtain ⟨rfl, rfl⟩ := h
  refine ⟨_, #[], rfl, K.enter_putByte, fun w hb => ?_⟩
  rw [Array.append_empty]
  exact putByte_t i w hi
theorem put_10 (t p : Value) (w0 : World) (h : K.Fm 10 t p w0) (i : K.Ins) (hi : K.In i) : ∃ G ds, p = .func (.func G) #[] ds ∧ (∀ (args : Array Value) (w : World), (callFunc G args).run Try.prog w = .ok (.enter G args) w) ∧
    ∀ w, Bel w0 w → Calls Try.prog G (#[.agg #[.int .i64 i.op, .int .i64 i.d, .int .i64 i.s, .int .i64 i.ix, .int .i64 i.sc, .int .u32 i.imm, .int .i64 i.sz]] ++ ds) w fun e w' => e = .returned (.string (strOfNums (K.wr 10 i))) ∧ Bel w w' := by
  obtain ⟨rfl, rfl⟩ := h
  refine ⟨_, #[], rfl, K.enter_putPair, fun w hb => ?_⟩
  rw [Array.append_empty]
  exact putPair_t i w hi
theorem put_any (k : Nat) (hk : k < 11) (t p : Value) (w0 : World) (h : K.Fm k t p w0) (i : K.Ins) (hi : K.In i) : ∃ G ds, p = .func (.func G) #[] ds ∧ (∀ (args : Array Value) (w : World), (callFunc G args).run Try.prog w = .ok (.enter G args) w) ∧
    ∀ w, Bel w0 w → Calls Try.prog G (#[.agg #[.int .i64 i.op, .int .i64 i.d, .int .i64 i.s, .int .i64 i.ix, .int .i64 i.sc, .int .u32 i.imm, .int .i64 i.sz]] ++ ds) w fun e w' => e = .returned (.string (strOfNums (K.wr k i))) ∧ Bel w w' := by
  rcases (by omega : k = 0 ∨ k = 1 ∨ k = 2 ∨ k = 3 ∨ k = 4 ∨ k = 5 ∨ k = 6 ∨ k = 7 ∨ k = 8 ∨ k = 9 ∨ k = 10) with rfl | rfl | rfl | rfl | rfl | rfl | rfl | rfl | rfl | rfl | rfl
  · exact put_0 t p w0 h i hi
  · exact put_1 t p w0 h i hi
  · exact put_2 t p w0 h i hi
  · exact put_3 t p w0 h i hi
  · exact put_4 t p w0 h i hi
  · exact put_5 t p w0 h i hi
  · exact put_6 t p w0 h i hi
  · exact put_7 t p w0 h i hi
  · exact put_8 t p w0 h i hi
  · exact put_9 t p w0 h i hi
  · exact put_10 t p w0 h i hi
end Go.Proofs.Ytgnekniabedomaa
