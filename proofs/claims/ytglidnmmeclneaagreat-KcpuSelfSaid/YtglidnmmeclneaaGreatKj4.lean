/- Texts of the walk, merged (4): see the remark ahead of each. -/
import Derived.Test.YtglidnmmeclneaaGreatKj3
import Derived.Test.YtglidnmmeclneaaGreatProg
namespace Go.Proofs.YtglidnmmeclneaaGreat
set_option linter.unusedVariables false
set_option linter.unusedSimpArgs false
open Go.RowKit
def K.t_plain (l : List UInt8) (n : Nat) (i : K.Ins) : K.Ins := { i with imm := W.byt l n }
theorem plain_t : TakeOK 150 1 K.t_plain := plain_ok
def K.t_none (l : List UInt8) (n : Nat) (i : K.Ins) : K.Ins := i
theorem none_t : TakeOK 136 0 K.t_none := none_ok
def K.i0 (l : List UInt8) (sz : Int) : K.Ins := ⟨W.byt l 0, 0, 0, -1, 0, 0, sz⟩
/-- The instruction that format k reads. -/
def K.rd (k : Nat) (l : List UInt8) (sz : Int) : K.Ins := match k with
  | 0 => K.t_none l 1 (K.i0 l sz)
  | 1 => K.t_reg l 1 (K.i0 l sz)
  | 2 => K.t_pair l 1 (K.i0 l sz)
  | 3 => (K.t_small l (1 + 1) (K.t_reg l (1 + 0) (K.i0 l sz)))
  | 4 => (K.t_full l (1 + 1) (K.t_reg l (1 + 0) (K.i0 l sz)))
  | 5 => (K.t_small l (1 + 1) (K.t_pair l (1 + 0) (K.i0 l sz)))
  | 6 => (K.t_full l (1 + 2) (K.t_index l (1 + 1) (K.t_pair l (1 + 0) (K.i0 l sz))))
  | 7 => K.t_small l 1 (K.i0 l sz)
  | 8 => K.t_full l 1 (K.i0 l sz)
  | 9 => K.t_plain l 1 (K.i0 l sz)
  | 10 => K.t_pair l 1 (K.i0 l sz)
  | _ => K.i0 l sz
theorem K.enter_full (args : Array Value) (w : World) : (callFunc 146 args).run Tryz.prog w = .ok (.enter 146 args) w := by go_simp
theorem K.enter_none (args : Array Value) (w : World) : (callFunc 136 args).run Tryz.prog w = .ok (.enter 136 args) w := by go_simp
theorem K.enter_pair (args : Array Value) (w : World) : (callFunc 140 args).run Tryz.prog w = .ok (.enter 140 args) w := by go_simp
theorem K.enter_plain (args : Array Value) (w : World) : (callFunc 150 args).run Tryz.prog w = .ok (.enter 150 args) w := by go_simp
theorem K.enter_reg (args : Array Value) (w : World) : (callFunc 138 args).run Tryz.prog w = .ok (.enter 138 args) w := by go_simp
theorem K.enter_small (args : Array Value) (w : World) : (callFunc 143 args).run Tryz.prog w = .ok (.enter 143 args) w := by go_simp
theorem K.enter_takes_1 (args : Array Value) (w : World) : (callFunc 166 args).run Tryz.prog w = .ok (.enter 166 args) w := by go_simp
theorem read_0 (t p : Value) (w : World) (h : K.Fm 0 t p w) (s : ByteArray) (hs : s.size ≤ maxLen) (hl : 1 ≤ s.size) :
    Calls Tryz.prog 107 #[.agg #[.int .i64 (K.lo 0), .int .i64 (K.hi 0), .int .i64 (K.len 0), t, p], .string s] w fun e w' => e = .returned (.agg #[.int .i64 (K.rd 0 s.data.toList (K.len 0)).op, .int .i64 (K.rd 0 s.data.toList (K.len 0)).d, .int .i64 (K.rd 0 s.data.toList (K.len 0)).s, .int .i64 (K.rd 0 s.data.toList (K.len 0)).ix, .int .i64 (K.rd 0 s.data.toList (K.len 0)).sc, .int .u32 (K.rd 0 s.data.toList (K.len 0)).imm, .int .i64 (K.rd 0 s.data.toList (K.len 0)).sz]) ∧ Bel w w' := by
  obtain ⟨rfl, rfl⟩ := h
  refine read_of _ _ _ _ _ #[] #[] s (K.rd 0 s.data.toList (K.len 0)) w hs (by omega) K.enter_none ?_
  intro ga gs gi wx hr hk n1 n2 h5 h4 hb
  rw [Array.append_empty]
  exact (none_t ga gs gi s 1 _ wx hr hk n1 n2 (by omega) hs).mono fun e w' ⟨a, _, b, c⟩ => ⟨a, b, c⟩
theorem read_1 (t p : Value) (w : World) (h : K.Fm 1 t p w) (s : ByteArray) (hs : s.size ≤ maxLen) (hl : 2 ≤ s.size) :
    Calls Tryz.prog 107 #[.agg #[.int .i64 (K.lo 1), .int .i64 (K.hi 1), .int .i64 (K.len 1), t, p], .string s] w fun e w' => e = .returned (.agg #[.int .i64 (K.rd 1 s.data.toList (K.len 1)).op, .int .i64 (K.rd 1 s.data.toList (K.len 1)).d, .int .i64 (K.rd 1 s.data.toList (K.len 1)).s, .int .i64 (K.rd 1 s.data.toList (K.len 1)).ix, .int .i64 (K.rd 1 s.data.toList (K.len 1)).sc, .int .u32 (K.rd 1 s.data.toList (K.len 1)).imm, .int .i64 (K.rd 1 s.data.toList (K.len 1)).sz]) ∧ Bel w w' := by
  obtain ⟨rfl, rfl⟩ := h
  refine read_of _ _ _ _ _ #[] #[] s (K.rd 1 s.data.toList (K.len 1)) w hs (by omega) K.enter_reg ?_
  intro ga gs gi wx hr hk n1 n2 h5 h4 hb
  rw [Array.append_empty]
  exact (reg_t ga gs gi s 1 _ wx hr hk n1 n2 (by omega) hs).mono fun e w' ⟨a, _, b, c⟩ => ⟨a, b, c⟩
theorem read_2 (t p : Value) (w : World) (h : K.Fm 2 t p w) (s : ByteArray) (hs : s.size ≤ maxLen) (hl : 2 ≤ s.size) :
    Calls Tryz.prog 107 #[.agg #[.int .i64 (K.lo 2), .int .i64 (K.hi 2), .int .i64 (K.len 2), t, p], .string s] w fun e w' => e = .returned (.agg #[.int .i64 (K.rd 2 s.data.toList (K.len 2)).op, .int .i64 (K.rd 2 s.data.toList (K.len 2)).d, .int .i64 (K.rd 2 s.data.toList (K.len 2)).s, .int .i64 (K.rd 2 s.data.toList (K.len 2)).ix, .int .i64 (K.rd 2 s.data.toList (K.len 2)).sc, .int .u32 (K.rd 2 s.data.toList (K.len 2)).imm, .int .i64 (K.rd 2 s.data.toList (K.len 2)).sz]) ∧ Bel w w' := by
  obtain ⟨rfl, rfl⟩ := h
  refine read_of _ _ _ _ _ #[] #[] s (K.rd 2 s.data.toList (K.len 2)) w hs (by omega) K.enter_pair ?_
  intro ga gs gi wx hr hk n1 n2 h5 h4 hb
  rw [Array.append_empty]
  exact (pair_t ga gs gi s 1 _ wx hr hk n1 n2 (by omega) hs).mono fun e w' ⟨a, _, b, c⟩ => ⟨a, b, c⟩
theorem read_3 (t p : Value) (w : World) (h : K.Fm 3 t p w) (s : ByteArray) (hs : s.size ≤ maxLen) (hl : 3 ≤ s.size) :
    Calls Tryz.prog 107 #[.agg #[.int .i64 (K.lo 3), .int .i64 (K.hi 3), .int .i64 (K.len 3), t, p], .string s] w fun e w' => e = .returned (.agg #[.int .i64 (K.rd 3 s.data.toList (K.len 3)).op, .int .i64 (K.rd 3 s.data.toList (K.len 3)).d, .int .i64 (K.rd 3 s.data.toList (K.len 3)).s, .int .i64 (K.rd 3 s.data.toList (K.len 3)).ix, .int .i64 (K.rd 3 s.data.toList (K.len 3)).sc, .int .u32 (K.rd 3 s.data.toList (K.len 3)).imm, .int .i64 (K.rd 3 s.data.toList (K.len 3)).sz]) ∧ Bel w w' := by
  obtain ⟨⟨c, b, cap, rfl, g1, g2⟩, ⟨c', b', cap', rfl, _, _⟩⟩ := h
  refine read_of _ _ _ _ _ #[.pointer (some ⟨c, 0, none⟩)] _ s (K.rd 3 s.data.toList (K.len 3)) w hs (by omega) K.enter_takes_1 ?_
  intro ga gs gi wx hr hk n1 n2 h5 h4 hb
  have hbl := lt_of_cell (g2 0 (by simp))
  have hq : ∀ j, j < 2 → wx.cell? ⟨b, j, none⟩ = _ := fun j hj => Bel.at hb (g2 j hj)
  have key := takes_reg_small ga gs gi c b cap s 1 _ wx hr hk n1 n2 (by omega) hs (Bel.at hb g1) (hq 0 (by decide)) (hq 1 (by decide)) (by simp at hbl; omega) (by simp at hbl; omega)
  exact key.mono fun e w' ⟨a, _, b, c⟩ => ⟨a, b, c⟩
theorem read_4 (t p : Value) (w : World) (h : K.Fm 4 t p w) (s : ByteArray) (hs : s.size ≤ maxLen) (hl : 6 ≤ s.size) :
    Calls Tryz.prog 107 #[.agg #[.int .i64 (K.lo 4), .int .i64 (K.hi 4), .int .i64 (K.len 4), t, p], .string s] w fun e w' => e = .returned (.agg #[.int .i64 (K.rd 4 s.data.toList (K.len 4)).op, .int .i64 (K.rd 4 s.data.toList (K.len 4)).d, .int .i64 (K.rd 4 s.data.toList (K.len 4)).s, .int .i64 (K.rd 4 s.data.toList (K.len 4)).ix, .int .i64 (K.rd 4 s.data.toList (K.len 4)).sc, .int .u32 (K.rd 4 s.data.toList (K.len 4)).imm, .int .i64 (K.rd 4 s.data.toList (K.len 4)).sz]) ∧ Bel w w' := by
  obtain ⟨⟨c, b, cap, rfl, g1, g2⟩, ⟨c', b', cap', rfl, _, _⟩⟩ := h
  refine read_of _ _ _ _ _ #[.pointer (some ⟨c, 0, none⟩)] _ s (K.rd 4 s.data.toList (K.len 4)) w hs (by omega) K.enter_takes_1 ?_
  intro ga gs gi wx hr hk n1 n2 h5 h4 hb
  have hbl := lt_of_cell (g2 0 (by simp))
  have hq : ∀ j, j < 2 → wx.cell? ⟨b, j, none⟩ = _ := fun j hj => Bel.at hb (g2 j hj)
  have key := takes_reg_full ga gs gi c b cap s 1 _ wx hr hk n1 n2 (by omega) hs (Bel.at hb g1) (hq 0 (by decide)) (hq 1 (by decide)) (by simp at hbl; omega) (by simp at hbl; omega)
  exact key.mono fun e w' ⟨a, _, b, c⟩ => ⟨a, b, c⟩
theorem read_5 (t p : Value) (w : World) (h : K.Fm 5 t p w) (s : ByteArray) (hs : s.size ≤ maxLen) (hl : 3 ≤ s.size) :
    Calls Tryz.prog 107 #[.agg #[.int .i64 (K.lo 5), .int .i64 (K.hi 5), .int .i64 (K.len 5), t, p], .string s] w fun e w' => e = .returned (.agg #[.int .i64 (K.rd 5 s.data.toList (K.len 5)).op, .int .i64 (K.rd 5 s.data.toList (K.len 5)).d, .int .i64 (K.rd 5 s.data.toList (K.len 5)).s, .int .i64 (K.rd 5 s.data.toList (K.len 5)).ix, .int .i64 (K.rd 5 s.data.toList (K.len 5)).sc, .int .u32 (K.rd 5 s.data.toList (K.len 5)).imm, .int .i64 (K.rd 5 s.data.toList (K.len 5)).sz]) ∧ Bel w w' := by
  obtain ⟨⟨c, b, cap, rfl, g1, g2⟩, ⟨c', b', cap', rfl, _, _⟩⟩ := h
  refine read_of _ _ _ _ _ #[.pointer (some ⟨c, 0, none⟩)] _ s (K.rd 5 s.data.toList (K.len 5)) w hs (by omega) K.enter_takes_1 ?_
  intro ga gs gi wx hr hk n1 n2 h5 h4 hb
  have hbl := lt_of_cell (g2 0 (by simp))
  have hq : ∀ j, j < 2 → wx.cell? ⟨b, j, none⟩ = _ := fun j hj => Bel.at hb (g2 j hj)
  have key := takes_pair_small ga gs gi c b cap s 1 _ wx hr hk n1 n2 (by omega) hs (Bel.at hb g1) (hq 0 (by decide)) (hq 1 (by decide)) (by simp at hbl; omega) (by simp at hbl; omega)
  exact key.mono fun e w' ⟨a, _, b, c⟩ => ⟨a, b, c⟩
theorem read_6 (t p : Value) (w : World) (h : K.Fm 6 t p w) (s : ByteArray) (hs : s.size ≤ maxLen) (hl : 7 ≤ s.size) :
    Calls Tryz.prog 107 #[.agg #[.int .i64 (K.lo 6), .int .i64 (K.hi 6), .int .i64 (K.len 6), t, p], .string s] w fun e w' => e = .returned (.agg #[.int .i64 (K.rd 6 s.data.toList (K.len 6)).op, .int .i64 (K.rd 6 s.data.toList (K.len 6)).d, .int .i64 (K.rd 6 s.data.toList (K.len 6)).s, .int .i64 (K.rd 6 s.data.toList (K.len 6)).ix, .int .i64 (K.rd 6 s.data.toList (K.len 6)).sc, .int .u32 (K.rd 6 s.data.toList (K.len 6)).imm, .int .i64 (K.rd 6 s.data.toList (K.len 6)).sz]) ∧ Bel w w' := by
  obtain ⟨⟨c, b, cap, rfl, g1, g2⟩, ⟨c', b', cap', rfl, _, _⟩⟩ := h
  refine read_of _ _ _ _ _ #[.pointer (some ⟨c, 0, none⟩)] _ s (K.rd 6 s.data.toList (K.len 6)) w hs (by omega) K.enter_takes_1 ?_
  intro ga gs gi wx hr hk n1 n2 h5 h4 hb
  have hbl := lt_of_cell (g2 0 (by simp))
  have hq : ∀ j, j < 3 → wx.cell? ⟨b, j, none⟩ = _ := fun j hj => Bel.at hb (g2 j hj)
  have key := takes_pair_index_full ga gs gi c b cap s 1 _ wx hr hk n1 n2 (by omega) hs (Bel.at hb g1) (hq 0 (by decide)) (hq 1 (by decide)) (hq 2 (by decide)) (by simp at hbl; omega) (by simp at hbl; omega)
  exact key.mono fun e w' ⟨a, _, b, c⟩ => ⟨a, b, c⟩
theorem read_7 (t p : Value) (w : World) (h : K.Fm 7 t p w) (s : ByteArray) (hs : s.size ≤ maxLen) (hl : 2 ≤ s.size) :
    Calls Tryz.prog 107 #[.agg #[.int .i64 (K.lo 7), .int .i64 (K.hi 7), .int .i64 (K.len 7), t, p], .string s] w fun e w' => e = .returned (.agg #[.int .i64 (K.rd 7 s.data.toList (K.len 7)).op, .int .i64 (K.rd 7 s.data.toList (K.len 7)).d, .int .i64 (K.rd 7 s.data.toList (K.len 7)).s, .int .i64 (K.rd 7 s.data.toList (K.len 7)).ix, .int .i64 (K.rd 7 s.data.toList (K.len 7)).sc, .int .u32 (K.rd 7 s.data.toList (K.len 7)).imm, .int .i64 (K.rd 7 s.data.toList (K.len 7)).sz]) ∧ Bel w w' := by
  obtain ⟨rfl, rfl⟩ := h
  refine read_of _ _ _ _ _ #[] #[] s (K.rd 7 s.data.toList (K.len 7)) w hs (by omega) K.enter_small ?_
  intro ga gs gi wx hr hk n1 n2 h5 h4 hb
  rw [Array.append_empty]
  exact (small_t ga gs gi s 1 _ wx hr hk n1 n2 (by omega) hs).mono fun e w' ⟨a, _, b, c⟩ => ⟨a, b, c⟩
theorem read_8 (t p : Value) (w : World) (h : K.Fm 8 t p w) (s : ByteArray) (hs : s.size ≤ maxLen) (hl : 5 ≤ s.size) :
    Calls Tryz.prog 107 #[.agg #[.int .i64 (K.lo 8), .int .i64 (K.hi 8), .int .i64 (K.len 8), t, p], .string s] w fun e w' => e = .returned (.agg #[.int .i64 (K.rd 8 s.data.toList (K.len 8)).op, .int .i64 (K.rd 8 s.data.toList (K.len 8)).d, .int .i64 (K.rd 8 s.data.toList (K.len 8)).s, .int .i64 (K.rd 8 s.data.toList (K.len 8)).ix, .int .i64 (K.rd 8 s.data.toList (K.len 8)).sc, .int .u32 (K.rd 8 s.data.toList (K.len 8)).imm, .int .i64 (K.rd 8 s.data.toList (K.len 8)).sz]) ∧ Bel w w' := by
  obtain ⟨rfl, rfl⟩ := h
  refine read_of _ _ _ _ _ #[] #[] s (K.rd 8 s.data.toList (K.len 8)) w hs (by omega) K.enter_full ?_
  intro ga gs gi wx hr hk n1 n2 h5 h4 hb
  rw [Array.append_empty]
  exact (full_t ga gs gi s 1 _ wx hr hk n1 n2 (by omega) hs).mono fun e w' ⟨a, _, b, c⟩ => ⟨a, b, c⟩
theorem read_9 (t p : Value) (w : World) (h : K.Fm 9 t p w) (s : ByteArray) (hs : s.size ≤ maxLen) (hl : 2 ≤ s.size) :
    Calls Tryz.prog 107 #[.agg #[.int .i64 (K.lo 9), .int .i64 (K.hi 9), .int .i64 (K.len 9), t, p], .string s] w fun e w' => e = .returned (.agg #[.int .i64 (K.rd 9 s.data.toList (K.len 9)).op, .int .i64 (K.rd 9 s.data.toList (K.len 9)).d, .int .i64 (K.rd 9 s.data.toList (K.len 9)).s, .int .i64 (K.rd 9 s.data.toList (K.len 9)).ix, .int .i64 (K.rd 9 s.data.toList (K.len 9)).sc, .int .u32 (K.rd 9 s.data.toList (K.len 9)).imm, .int .i64 (K.rd 9 s.data.toList (K.len 9)).sz]) ∧ Bel w w' := by
  obtain ⟨rfl, rfl⟩ := h
  refine read_of _ _ _ _ _ #[] #[] s (K.rd 9 s.data.toList (K.len 9)) w hs (by omega) K.enter_plain ?_
  intro ga gs gi wx hr hk n1 n2 h5 h4 hb
  rw [Array.append_empty]
  exact (plain_t ga gs gi s 1 _ wx hr hk n1 n2 (by omega) hs).mono fun e w' ⟨a, _, b, c⟩ => ⟨a, b, c⟩
theorem read_10 (t p : Value) (w : World) (h : K.Fm 10 t p w) (s : ByteArray) (hs : s.size ≤ maxLen) (hl : 2 ≤ s.size) :
    Calls Tryz.prog 107 #[.agg #[.int .i64 (K.lo 10), .int .i64 (K.hi 10), .int .i64 (K.len 10), t, p], .string s] w fun e w' => e = .returned (.agg #[.int .i64 (K.rd 10 s.data.toList (K.len 10)).op, .int .i64 (K.rd 10 s.data.toList (K.len 10)).d, .int .i64 (K.rd 10 s.data.toList (K.len 10)).s, .int .i64 (K.rd 10 s.data.toList (K.len 10)).ix, .int .i64 (K.rd 10 s.data.toList (K.len 10)).sc, .int .u32 (K.rd 10 s.data.toList (K.len 10)).imm, .int .i64 (K.rd 10 s.data.toList (K.len 10)).sz]) ∧ Bel w w' := by
  obtain ⟨rfl, rfl⟩ := h
  refine read_of _ _ _ _ _ #[] #[] s (K.rd 10 s.data.toList (K.len 10)) w hs (by omega) K.enter_pair ?_
  intro ga gs gi wx hr hk n1 n2 h5 h4 hb
  rw [Array.append_empty]
  exact (pair_t ga gs gi s 1 _ wx hr hk n1 n2 (by omega) hs).mono fun e w' ⟨a, _, b, c⟩ => ⟨a, b, c⟩
theorem read_any (k : Nat) (hk : k < 11) (t p : Value) (w : World) (h : K.Fm k t p w) (s : ByteArray) (hs : s.size ≤ maxLen) (hl : K.len k ≤ (s.size : Int)) :
    Calls Tryz.prog 107 #[.agg #[.int .i64 (K.lo k), .int .i64 (K.hi k), .int .i64 (K.len k), t, p], .string s] w fun e w' => e = .returned (.agg #[.int .i64 (K.rd k s.data.toList (K.len k)).op, .int .i64 (K.rd k s.data.toList (K.len k)).d, .int .i64 (K.rd k s.data.toList (K.len k)).s, .int .i64 (K.rd k s.data.toList (K.len k)).ix, .int .i64 (K.rd k s.data.toList (K.len k)).sc, .int .u32 (K.rd k s.data.toList (K.len k)).imm, .int .i64 (K.rd k s.data.toList (K.len k)).sz]) ∧ Bel w w' := by
  rcases (by omega : k = 0 ∨ k = 1 ∨ k = 2 ∨ k = 3 ∨ k = 4 ∨ k = 5 ∨ k = 6 ∨ k = 7 ∨ k = 8 ∨ k = 9 ∨ k = 10) with rfl | rfl | rfl | rfl | rfl | rfl | rfl | rfl | rfl | rfl | rfl
  · exact read_0 t p w h s hs (by have : K.len 0 = 1 := rfl; omega)
  · exact read_1 t p w h s hs (by have : K.len 1 = 2 := rfl; omega)
  · exact read_2 t p w h s hs (by have : K.len 2 = 2 := rfl; omega)
  · exact read_3 t p w h s hs (by have : K.len 3 = 3 := rfl; omega)
  · exact read_4 t p w h s hs (by have : K.len 4 = 6 := rfl; omega)
  · exact read_5 t p w h s hs (by have : K.len 5 = 3 := rfl; omega)
  · exact read_6 t p w h s hs (by have : K.len 6 = 7 := rfl; omega)
  · exact read_7 t p w h s hs (by have : K.len 7 = 2 := rfl; omega)
  · exact read_8 t p w h s hs (by have : K.len 8 = 5 := rfl; omega)
  · exact read_9 t p w h s hs (by have : K.len 9 = 2 := rfl; omega)
  · exact read_10 t p w h s hs (by have : K.len 10 = 2 := rfl; omega)
def K.p_None (i : K.Ins) : List Int := []
theorem putNone_t : PutOK 137 K.p_None := putNone_ok
/-- The bytes behind the first one that format k writes. -/
def K.wr (k : Nat) (i : K.Ins) : List Int := match k with
  | 0 => K.p_None i
  | 1 => K.p_Reg i
  | 2 => K.p_Pair i
  | 3 => (([] ++ K.p_Reg i) ++ K.p_Byte i)
  | 4 => (([] ++ K.p_Reg i) ++ K.p_Full i)
  | 5 => (([] ++ K.p_Pair i) ++ K.p_Byte i)
  | 6 => ((([] ++ K.p_Pair i) ++ K.p_Index i) ++ K.p_Full i)
  | 7 => K.p_Byte i
  | 8 => K.p_Full i
  | 9 => K.p_Byte i
  | 10 => K.p_Pair i
  | _ => []
theorem K.enter_putByte (args : Array Value) (w : World) : (callFunc 145 args).run Tryz.prog w = .ok (.enter 145 args) w := by go_simp
theorem K.enter_putFull (args : Array Value) (w : World) : (callFunc 147 args).run Tryz.prog w = .ok (.enter 147 args) w := by go_simp
theorem K.enter_putNone (args : Array Value) (w : World) : (callFunc 137 args).run Tryz.prog w = .ok (.enter 137 args) w := by go_simp
theorem K.enter_putPair (args : Array Value) (w : World) : (callFunc 141 args).run Tryz.prog w = .ok (.enter 141 args) w := by go_simp
theorem K.enter_putReg (args : Array Value) (w : World) : (callFunc 139 args).run Tryz.prog w = .ok (.enter 139 args) w := by go_simp
theorem K.enter_puts_1 (args : Array Value) (w : World) : (callFunc 168 args).run Tryz.prog w = .ok (.enter 168 args) w := by go_simp
theorem put_0 (t p : Value) (w0 : World) (h : K.Fm 0 t p w0) (i : K.Ins) (hi : K.In i) : ∃ G ds, p = .func (.func G) #[] ds ∧ (∀ (args : Array Value) (w : World), (callFunc G args).run Tryz.prog w = .ok (.enter G args) w) ∧
    ∀ w, Bel w0 w → Calls Tryz.prog G (#[.agg #[.int .i64 i.op, .int .i64 i.d, .int .i64 i.s, .int .i64 i.ix, .int .i64 i.sc, .int .u32 i.imm, .int .i64 i.sz]] ++ ds) w fun e w' => e = .returned (.string (strOfNums (K.wr 0 i))) ∧ Bel w w' := by
  obtain ⟨rfl, rfl⟩ := h
  refine ⟨_, #[], rfl, K.enter_putNone, fun w hb => ?_⟩
  rw [Array.append_empty]
  exact putNone_t i w hi
theorem put_1 (t p : Value) (w0 : World) (h : K.Fm 1 t p w0) (i : K.Ins) (hi : K.In i) : ∃ G ds, p = .func (.func G) #[] ds ∧ (∀ (args : Array Value) (w : World), (callFunc G args).run Tryz.prog w = .ok (.enter G args) w) ∧
    ∀ w, Bel w0 w → Calls Tryz.prog G (#[.agg #[.int .i64 i.op, .int .i64 i.d, .int .i64 i.s, .int .i64 i.ix, .int .i64 i.sc, .int .u32 i.imm, .int .i64 i.sz]] ++ ds) w fun e w' => e = .returned (.string (strOfNums (K.wr 1 i))) ∧ Bel w w' := by
  obtain ⟨rfl, rfl⟩ := h
  refine ⟨_, #[], rfl, K.enter_putReg, fun w hb => ?_⟩
  rw [Array.append_empty]
  exact putReg_t i w hi
theorem put_2 (t p : Value) (w0 : World) (h : K.Fm 2 t p w0) (i : K.Ins) (hi : K.In i) : ∃ G ds, p = .func (.func G) #[] ds ∧ (∀ (args : Array Value) (w : World), (callFunc G args).run Tryz.prog w = .ok (.enter G args) w) ∧
    ∀ w, Bel w0 w → Calls Tryz.prog G (#[.agg #[.int .i64 i.op, .int .i64 i.d, .int .i64 i.s, .int .i64 i.ix, .int .i64 i.sc, .int .u32 i.imm, .int .i64 i.sz]] ++ ds) w fun e w' => e = .returned (.string (strOfNums (K.wr 2 i))) ∧ Bel w w' := by
  obtain ⟨rfl, rfl⟩ := h
  refine ⟨_, #[], rfl, K.enter_putPair, fun w hb => ?_⟩
  rw [Array.append_empty]
  exact putPair_t i w hi
theorem put_3 (t p : Value) (w0 : World) (h : K.Fm 3 t p w0) (i : K.Ins) (hi : K.In i) : ∃ G ds, p = .func (.func G) #[] ds ∧ (∀ (args : Array Value) (w : World), (callFunc G args).run Tryz.prog w = .ok (.enter G args) w) ∧
    ∀ w, Bel w0 w → Calls Tryz.prog G (#[.agg #[.int .i64 i.op, .int .i64 i.d, .int .i64 i.s, .int .i64 i.ix, .int .i64 i.sc, .int .u32 i.imm, .int .i64 i.sz]] ++ ds) w fun e w' => e = .returned (.string (strOfNums (K.wr 3 i))) ∧ Bel w w' := by
  obtain ⟨⟨c', b', cap', rfl, _, _⟩, ⟨c, b, cap, rfl, g1, g2⟩⟩ := h
  refine ⟨_, #[.pointer (some ⟨c, 0, none⟩)], rfl, K.enter_puts_1, fun w hb => ?_⟩
  have hq : ∀ j, j < 2 → w.cell? ⟨b, j, none⟩ = _ := fun j hj => Bel.at hb (g2 j hj)
  exact puts_Reg_Byte c b cap i w hi (Bel.at hb g1) (hq 0 (by decide)) (hq 1 (by decide))
theorem put_4 (t p : Value) (w0 : World) (h : K.Fm 4 t p w0) (i : K.Ins) (hi : K.In i) : ∃ G ds, p = .func (.func G) #[] ds ∧ (∀ (args : Array Value) (w : World), (callFunc G args).run Tryz.prog w = .ok (.enter G args) w) ∧
    ∀ w, Bel w0 w → Calls Tryz.prog G (#[.agg #[.int .i64 i.op, .int .i64 i.d, .int .i64 i.s, .int .i64 i.ix, .int .i64 i.sc, .int .u32 i.imm, .int .i64 i.sz]] ++ ds) w fun e w' => e = .returned (.string (strOfNums (K.wr 4 i))) ∧ Bel w w' := by
  obtain ⟨⟨c', b', cap', rfl, _, _⟩, ⟨c, b, cap, rfl, g1, g2⟩⟩ := h
  refine ⟨_, #[.pointer (some ⟨c, 0, none⟩)], rfl, K.enter_puts_1, fun w hb => ?_⟩
  have hq : ∀ j, j < 2 → w.cell? ⟨b, j, none⟩ = _ := fun j hj => Bel.at hb (g2 j hj)
  exact puts_Reg_Full c b cap i w hi (Bel.at hb g1) (hq 0 (by decide)) (hq 1 (by decide))
theorem put_5 (t p : Value) (w0 : World) (h : K.Fm 5 t p w0) (i : K.Ins) (hi : K.In i) : ∃ G ds, p = .func (.func G) #[] ds ∧ (∀ (args : Array Value) (w : World), (callFunc G args).run Tryz.prog w = .ok (.enter G args) w) ∧
    ∀ w, Bel w0 w → Calls Tryz.prog G (#[.agg #[.int .i64 i.op, .int .i64 i.d, .int .i64 i.s, .int .i64 i.ix, .int .i64 i.sc, .int .u32 i.imm, .int .i64 i.sz]] ++ ds) w fun e w' => e = .returned (.string (strOfNums (K.wr 5 i))) ∧ Bel w w' := by
  obtain ⟨⟨c', b', cap', rfl, _, _⟩, ⟨c, b, cap, rfl, g1, g2⟩⟩ := h
  refine ⟨_, #[.pointer (some ⟨c, 0, none⟩)], rfl, K.enter_puts_1, fun w hb => ?_⟩
  have hq : ∀ j, j < 2 → w.cell? ⟨b, j, none⟩ = _ := fun j hj => Bel.at hb (g2 j hj)
  exact puts_Pair_Byte c b cap i w hi (Bel.at hb g1) (hq 0 (by decide)) (hq 1 (by decide))
theorem put_6 (t p : Value) (w0 : World) (h : K.Fm 6 t p w0) (i : K.Ins) (hi : K.In i) : ∃ G ds, p = .func (.func G) #[] ds ∧ (∀ (args : Array Value) (w : World), (callFunc G args).run Tryz.prog w = .ok (.enter G args) w) ∧
    ∀ w, Bel w0 w → Calls Tryz.prog G (#[.agg #[.int .i64 i.op, .int .i64 i.d, .int .i64 i.s, .int .i64 i.ix, .int .i64 i.sc, .int .u32 i.imm, .int .i64 i.sz]] ++ ds) w fun e w' => e = .returned (.string (strOfNums (K.wr 6 i))) ∧ Bel w w' := by
  obtain ⟨⟨c', b', cap', rfl, _, _⟩, ⟨c, b, cap, rfl, g1, g2⟩⟩ := h
  refine ⟨_, #[.pointer (some ⟨c, 0, none⟩)], rfl, K.enter_puts_1, fun w hb => ?_⟩
  have hq : ∀ j, j < 3 → w.cell? ⟨b, j, none⟩ = _ := fun j hj => Bel.at hb (g2 j hj)
  exact puts_Pair_Index_Full c b cap i w hi (Bel.at hb g1) (hq 0 (by decide)) (hq 1 (by decide)) (hq 2 (by decide))
theorem put_7 (t p : Value) (w0 : World) (h : K.Fm 7 t p w0) (i : K.Ins) (hi : K.In i) : ∃ G ds, p = .func (.func G) #[] ds ∧ (∀ (args : Array Value) (w : World), (callFunc G args).run Tryz.prog w = .ok (.enter G args) w) ∧
    ∀ w, Bel w0 w → Calls Tryz.prog G (#[.agg #[.int .i64 i.op, .int .i64 i.d, .int .i64 i.s, .int .i64 i.ix, .int .i64 i.sc, .int .u32 i.imm, .int .i64 i.sz]] ++ ds) w fun e w' => e = .returned (.string (strOfNums (K.wr 7 i))) ∧ Bel w w' := by
  obtain ⟨rfl, rfl⟩ := h
  refine ⟨_, #[], rfl, K.enter_putByte, fun w hb => ?_⟩
  rw [Array.append_empty]
  exact putByte_t i w hi
theorem put_8 (t p : Value) (w0 : World) (h : K.Fm 8 t p w0) (i : K.Ins) (hi : K.In i) : ∃ G ds, p = .func (.func G) #[] ds ∧ (∀ (args : Array Value) (w : World), (callFunc G args).run Tryz.prog w = .ok (.enter G args) w) ∧
    ∀ w, Bel w0 w → Calls Tryz.prog G (#[.agg #[.int .i64 i.op, .int .i64 i.d, .int .i64 i.s, .int .i64 i.ix, .int .i64 i.sc, .int .u32 i.imm, .int .i64 i.sz]] ++ ds) w fun e w' => e = .returned (.string (strOfNums (K.wr 8 i))) ∧ Bel w w' := by
  obtain ⟨rfl, rfl⟩ := h
  refine ⟨_, #[], rfl, K.enter_putFull, fun w hb => ?_⟩
  rw [Array.append_empty]
  exact putFull_t i w hi
theorem put_9 (t p : Value) (w0 : World) (h : K.Fm 9 t p w0) (i : K.Ins) (hi : K.In i) : ∃ G ds, p = .func (.func G) #[] ds ∧ (∀ (args : Array Value) (w : World), (callFunc G args).run Tryz.prog w = .ok (.enter G args) w) ∧
    ∀ w, Bel w0 w → Calls Tryz.prog G (#[.agg #[.int .i64 i.op, .int .i64 i.d, .int .i64 i.s, .int .i64 i.ix, .int .i64 i.sc, .int .u32 i.imm, .int .i64 i.sz]] ++ ds) w fun e w' => e = .returned (.string (strOfNums (K.wr 9 i))) ∧ Bel w w' := by
  obtain ⟨rfl, rfl⟩ := h
  refine ⟨_, #[], rfl, K.enter_putByte, fun w hb => ?_⟩
  rw [Array.append_empty]
  exact putByte_t i w hi
theorem put_10 (t p : Value) (w0 : World) (h : K.Fm 10 t p w0) (i : K.Ins) (hi : K.In i) : ∃ G ds, p = .func (.func G) #[] ds ∧ (∀ (args : Array Value) (w : World), (callFunc G args).run Tryz.prog w = .ok (.enter G args) w) ∧
    ∀ w, Bel w0 w → Calls Tryz.prog G (#[.agg #[.int .i64 i.op, .int .i64 i.d, .int .i64 i.s, .int .i64 i.ix, .int .i64 i.sc, .int .u32 i.imm, .int .i64 i.sz]] ++ ds) w fun e w' => e = .returned (.string (strOfNums (K.wr 10 i))) ∧ Bel w w' := by
  obtain ⟨rfl, rfl⟩ := h
  refine ⟨_, #[], rfl, K.enter_putPair, fun w hb => ?_⟩
  rw [Array.append_empty]
  exact putPair_t i w hi
theorem put_any (k : Nat) (hk : k < 11) (t p : Value) (w0 : World) (h : K.Fm k t p w0) (i : K.Ins) (hi : K.In i) : ∃ G ds, p = .func (.func G) #[] ds ∧ (∀ (args : Array Value) (w : World), (callFunc G args).run Tryz.prog w = .ok (.enter G args) w) ∧
    ∀ w, Bel w0 w → Calls Tryz.prog G (#[.agg #[.int .i64 i.op, .int .i64 i.d, .int .i64 i.s, .int .i64 i.ix, .int .i64 i.sc, .int .u32 i.imm, .int .i64 i.sz]] ++ ds) w fun e w' => e = .returned (.string (strOfNums (K.wr k i))) ∧ Bel w w' := by
  rcases (by omega : k = 0 ∨ k = 1 ∨ k = 2 ∨ k = 3 ∨ k = 4 ∨ k = 5 ∨ k = 6 ∨ k = 7 ∨ k = 8 ∨ k = 9 ∨ k = 10) with rfl | rfl | rfl | rfl | rfl | rfl | rfl | rfl | rfl | rfl | rfl
  · exact put_0 t p w0 h i hi
  · exact put_1 t p w0 h i hi
  · exact put_2 t p w0 h i hi
  · exact put_3 t p w0 h i hi
  · exact put_4 t p w0 h i hi
  · exact put_5 t p w0 h i hi
  · exact put_6 t p w0 h i hi
  · exact put_7 t p w0 h i hi
  · exact put_8 t p w0 h i hi
  · exact put_9 t p w0 h i hi
  · exact put_10 t p w0 h i hi
theorem within1_any (n a b : Int) (g : Nat) (w : World) (h0 : w.cell? ⟨g, 0, none⟩ = some (.int .i64 a)) (h1 : w.cell? ⟨g, 1, none⟩ = some (.int .i64 b)) :
    Calls Tryz.prog 128 #[.int .i64 n, .slice (some ⟨g, 0, none⟩) 1 1] w fun e w' => e = .returned (.bool (K.inAny n [(a, b)])) ∧ Bel w w' :=
  within_any n g 0 1 [(a, b)] (by simp) w (fun j hj => by obtain rfl : j = 0 := by simpa using hj
                                                          exact h0) (fun j hj => by obtain rfl : j = 0 := by simpa using hj
                                                                                    exact h1)
def K.most (op : Int) : Int := if op = 129 then 3 else if op = 130 then 4 else 7
/-- The fields are in their ranges. -/
def K.rng (i : K.Ins) : Bool := K.inAny i.d [(0, 7)] && (K.inAny i.s [(0, K.most i.op)] && (K.inAny i.ix [(-1, 7)] && K.inAny i.sc [(0, 3)]))
set_option maxHeartbeats 4000000 in
theorem ranges_1_3 (i : K.Ins) (ho : (i.op == 129) = true) (h0 : K.inAny i.d [(0, 7)] = false) (w : World) :
    Calls Tryz.prog 130 #[.agg #[.int .i64 i.op, .int .i64 i.d, .int .i64 i.s, .int .i64 i.ix, .int .i64 i.sc, .int .u32 i.imm, .int .i64 i.sz]] w fun e w' => e = .returned (.bool false) ∧ Bel w w' := by
  go_enter Tryz.func130, Tryz.ntmps130
  go_wp2_with (first
    | (go_at_call 128; with_reducible refine (within1_any i.d 0 7 _ _ ?_ ?_).mono ?_; go_simp; go_simp; rintro e w2 ⟨rfl, hb2⟩; have hs2 := hb2.size; simp at hs2; have y2 := Bel.at hb2 (ad := ⟨w.heap.size, 2, none⟩) (v := .int .i64 i.s) (by first | assumption | (go_simp)); have y3 := Bel.at hb2 (ad := ⟨w.heap.size, 3, none⟩) (v := .int .i64 i.ix) (by first | assumption | (go_simp)); have y4 := Bel.at hb2 (ad := ⟨w.heap.size, 4, none⟩) (v := .int .i64 i.sc) (by first | assumption | (go_simp)); have hl2 : w.heap.size < w2.heap.size := by omega)
    | (go_at_call 128; with_reducible refine (within1_any i.s 0 3 _ _ ?_ ?_).mono ?_; go_simp; go_simp; rintro e w3 ⟨rfl, hb3⟩; have hs3 := hb3.size; simp at hs3; have z3 := Bel.at hb3 (ad := ⟨w.heap.size, 3, none⟩) (v := .int .i64 i.ix) (by first | assumption | (go_simp)); have z4 := Bel.at hb3 (ad := ⟨w.heap.size, 4, none⟩) (v := .int .i64 i.sc) (by first | assumption | (go_simp)); have hl3 : w.heap.size < w3.heap.size := by omega)
    | (go_at_call 128; with_reducible refine (within1_any i.ix (-1) 7 _ _ ?_ ?_).mono ?_; go_simp; go_simp; rintro e w4 ⟨rfl, hb4⟩; have hs4 := hb4.size; simp at hs4; have x4 := Bel.at hb4 (ad := ⟨w.heap.size, 4, none⟩) (v := .int .i64 i.sc) (by first | assumption | (go_simp)); have hl4 : w.heap.size < w4.heap.size := by omega)
    | (go_at_call 128; with_reducible refine (within1_any i.sc 0 3 _ _ ?_ ?_).mono ?_; go_simp; go_simp; rintro e w5 ⟨rfl, hb5⟩))
  go_ret
  exact ⟨rfl, Nz.bel⟩
set_option maxHeartbeats 4000000 in
theorem ranges_1_4 (i : K.Ins) (ho : (i.op == 129) = false) (ho2 : (i.op == 130) = true) (h0 : K.inAny i.d [(0, 7)] = false) (w : World) :
    Calls Tryz.prog 130 #[.agg #[.int .i64 i.op, .int .i64 i.d, .int .i64 i.s, .int .i64 i.ix, .int .i64 i.sc, .int .u32 i.imm, .int .i64 i.sz]] w fun e w' => e = .returned (.bool false) ∧ Bel w w' := by
  go_enter Tryz.func130, Tryz.ntmps130
  go_wp2_with (first
    | (go_at_call 128; with_reducible refine (within1_any i.d 0 7 _ _ ?_ ?_).mono ?_; go_simp; go_simp; rintro e w2 ⟨rfl, hb2⟩; have hs2 := hb2.size; simp at hs2; have y2 := Bel.at hb2 (ad := ⟨w.heap.size, 2, none⟩) (v := .int .i64 i.s) (by first | assumption | (go_simp)); have y3 := Bel.at hb2 (ad := ⟨w.heap.size, 3, none⟩) (v := .int .i64 i.ix) (by first | assumption | (go_simp)); have y4 := Bel.at hb2 (ad := ⟨w.heap.size, 4, none⟩) (v := .int .i64 i.sc) (by first | assumption | (go_simp)); have hl2 : w.heap.size < w2.heap.size := by omega)
    | (go_at_call 128; with_reducible refine (within1_any i.s 0 4 _ _ ?_ ?_).mono ?_; go_simp; go_simp; rintro e w3 ⟨rfl, hb3⟩; have hs3 := hb3.size; simp at hs3; have z3 := Bel.at hb3 (ad := ⟨w.heap.size, 3, none⟩) (v := .int .i64 i.ix) (by first | assumption | (go_simp)); have z4 := Bel.at hb3 (ad := ⟨w.heap.size, 4, none⟩) (v := .int .i64 i.sc) (by first | assumption | (go_simp)); have hl3 : w.heap.size < w3.heap.size := by omega)
    | (go_at_call 128; with_reducible refine (within1_any i.ix (-1) 7 _ _ ?_ ?_).mono ?_; go_simp; go_simp; rintro e w4 ⟨rfl, hb4⟩; have hs4 := hb4.size; simp at hs4; have x4 := Bel.at hb4 (ad := ⟨w.heap.size, 4, none⟩) (v := .int .i64 i.sc) (by first | assumption | (go_simp)); have hl4 : w.heap.size < w4.heap.size := by omega)
    | (go_at_call 128; with_reducible refine (within1_any i.sc 0 3 _ _ ?_ ?_).mono ?_; go_simp; go_simp; rintro e w5 ⟨rfl, hb5⟩))
  go_ret
  exact ⟨rfl, Nz.bel⟩
set_option maxHeartbeats 4000000 in
theorem ranges_1_7 (i : K.Ins) (ho : (i.op == 129) = false) (ho2 : (i.op == 130) = false) (h0 : K.inAny i.d [(0, 7)] = false) (w : World) :
    Calls Tryz.prog 130 #[.agg #[.int .i64 i.op, .int .i64 i.d, .int .i64 i.s, .int .i64 i.ix, .int .i64 i.sc, .int .u32 i.imm, .int .i64 i.sz]] w fun e w' => e = .returned (.bool false) ∧ Bel w w' := by
  go_enter Tryz.func130, Tryz.ntmps130
  go_wp2_with (first
    | (go_at_call 128; with_reducible refine (within1_any i.d 0 7 _ _ ?_ ?_).mono ?_; go_simp; go_simp; rintro e w2 ⟨rfl, hb2⟩; have hs2 := hb2.size; simp at hs2; have y2 := Bel.at hb2 (ad := ⟨w.heap.size, 2, none⟩) (v := .int .i64 i.s) (by first | assumption | (go_simp)); have y3 := Bel.at hb2 (ad := ⟨w.heap.size, 3, none⟩) (v := .int .i64 i.ix) (by first | assumption | (go_simp)); have y4 := Bel.at hb2 (ad := ⟨w.heap.size, 4, none⟩) (v := .int .i64 i.sc) (by first | assumption | (go_simp)); have hl2 : w.heap.size < w2.heap.size := by omega)
    | (go_at_call 128; with_reducible refine (within1_any i.s 0 7 _ _ ?_ ?_).mono ?_; go_simp; go_simp; rintro e w3 ⟨rfl, hb3⟩; have hs3 := hb3.size; simp at hs3; have z3 := Bel.at hb3 (ad := ⟨w.heap.size, 3, none⟩) (v := .int .i64 i.ix) (by first | assumption | (go_simp)); have z4 := Bel.at hb3 (ad := ⟨w.heap.size, 4, none⟩) (v := .int .i64 i.sc) (by first | assumption | (go_simp)); have hl3 : w.heap.size < w3.heap.size := by omega)
    | (go_at_call 128; with_reducible refine (within1_any i.ix (-1) 7 _ _ ?_ ?_).mono ?_; go_simp; go_simp; rintro e w4 ⟨rfl, hb4⟩; have hs4 := hb4.size; simp at hs4; have x4 := Bel.at hb4 (ad := ⟨w.heap.size, 4, none⟩) (v := .int .i64 i.sc) (by first | assumption | (go_simp)); have hl4 : w.heap.size < w4.heap.size := by omega)
    | (go_at_call 128; with_reducible refine (within1_any i.sc 0 3 _ _ ?_ ?_).mono ?_; go_simp; go_simp; rintro e w5 ⟨rfl, hb5⟩))
  go_ret
  exact ⟨rfl, Nz.bel⟩
set_option maxHeartbeats 4000000 in
theorem ranges_2_3 (i : K.Ins) (ho : (i.op == 129) = true) (h0 : K.inAny i.d [(0, 7)] = true) (h1 : K.inAny i.s [(0, 3)] = false) (w : World) :
    Calls Tryz.prog 130 #[.agg #[.int .i64 i.op, .int .i64 i.d, .int .i64 i.s, .int .i64 i.ix, .int .i64 i.sc, .int .u32 i.imm, .int .i64 i.sz]] w fun e w' => e = .returned (.bool false) ∧ Bel w w' := by
  go_enter Tryz.func130, Tryz.ntmps130
  go_wp2_with (first
    | (go_at_call 128; with_reducible refine (within1_any i.d 0 7 _ _ ?_ ?_).mono ?_; go_simp; go_simp; rintro e w2 ⟨rfl, hb2⟩; have hs2 := hb2.size; simp at hs2; have y2 := Bel.at hb2 (ad := ⟨w.heap.size, 2, none⟩) (v := .int .i64 i.s) (by first | assumption | (go_simp)); have y3 := Bel.at hb2 (ad := ⟨w.heap.size, 3, none⟩) (v := .int .i64 i.ix) (by first | assumption | (go_simp)); have y4 := Bel.at hb2 (ad := ⟨w.heap.size, 4, none⟩) (v := .int .i64 i.sc) (by first | assumption | (go_simp)); have hl2 : w.heap.size < w2.heap.size := by omega)
    | (go_at_call 128; with_reducible refine (within1_any i.s 0 3 _ _ ?_ ?_).mono ?_; go_simp; go_simp; rintro e w3 ⟨rfl, hb3⟩; have hs3 := hb3.size; simp at hs3; have z3 := Bel.at hb3 (ad := ⟨w.heap.size, 3, none⟩) (v := .int .i64 i.ix) (by first | assumption | (go_simp)); have z4 := Bel.at hb3 (ad := ⟨w.heap.size, 4, none⟩) (v := .int .i64 i.sc) (by first | assumption | (go_simp)); have hl3 : w.heap.size < w3.heap.size := by omega)
    | (go_at_call 128; with_reducible refine (within1_any i.ix (-1) 7 _ _ ?_ ?_).mono ?_; go_simp; go_simp; rintro e w4 ⟨rfl, hb4⟩; have hs4 := hb4.size; simp at hs4; have x4 := Bel.at hb4 (ad := ⟨w.heap.size, 4, none⟩) (v := .int .i64 i.sc) (by first | assumption | (go_simp)); have hl4 : w.heap.size < w4.heap.size := by omega)
    | (go_at_call 128; with_reducible refine (within1_any i.sc 0 3 _ _ ?_ ?_).mono ?_; go_simp; go_simp; rintro e w5 ⟨rfl, hb5⟩))
  go_ret
  exact ⟨rfl, Nz.bel⟩
set_option maxHeartbeats 4000000 in
theorem ranges_2_4 (i : K.Ins) (ho : (i.op == 129) = false) (ho2 : (i.op == 130) = true) (h0 : K.inAny i.d [(0, 7)] = true) (h1 : K.inAny i.s [(0, 4)] = false) (w : World) :
    Calls Tryz.prog 130 #[.agg #[.int .i64 i.op, .int .i64 i.d, .int .i64 i.s, .int .i64 i.ix, .int .i64 i.sc, .int .u32 i.imm, .int .i64 i.sz]] w fun e w' => e = .returned (.bool false) ∧ Bel w w' := by
  go_enter Tryz.func130, Tryz.ntmps130
  go_wp2_with (first
    | (go_at_call 128; with_reducible refine (within1_any i.d 0 7 _ _ ?_ ?_).mono ?_; go_simp; go_simp; rintro e w2 ⟨rfl, hb2⟩; have hs2 := hb2.size; simp at hs2; have y2 := Bel.at hb2 (ad := ⟨w.heap.size, 2, none⟩) (v := .int .i64 i.s) (by first | assumption | (go_simp)); have y3 := Bel.at hb2 (ad := ⟨w.heap.size, 3, none⟩) (v := .int .i64 i.ix) (by first | assumption | (go_simp)); have y4 := Bel.at hb2 (ad := ⟨w.heap.size, 4, none⟩) (v := .int .i64 i.sc) (by first | assumption | (go_simp)); have hl2 : w.heap.size < w2.heap.size := by omega)
    | (go_at_call 128; with_reducible refine (within1_any i.s 0 4 _ _ ?_ ?_).mono ?_; go_simp; go_simp; rintro e w3 ⟨rfl, hb3⟩; have hs3 := hb3.size; simp at hs3; have z3 := Bel.at hb3 (ad := ⟨w.heap.size, 3, none⟩) (v := .int .i64 i.ix) (by first | assumption | (go_simp)); have z4 := Bel.at hb3 (ad := ⟨w.heap.size, 4, none⟩) (v := .int .i64 i.sc) (by first | assumption | (go_simp)); have hl3 : w.heap.size < w3.heap.size := by omega)
    | (go_at_call 128; with_reducible refine (within1_any i.ix (-1) 7 _ _ ?_ ?_).mono ?_; go_simp; go_simp; rintro e w4 ⟨rfl, hb4⟩; have hs4 := hb4.size; simp at hs4; have x4 := Bel.at hb4 (ad := ⟨w.heap.size, 4, none⟩) (v := .int .i64 i.sc) (by first | assumption | (go_simp)); have hl4 : w.heap.size < w4.heap.size := by omega)
    | (go_at_call 128; with_reducible refine (within1_any i.sc 0 3 _ _ ?_ ?_).mono ?_; go_simp; go_simp; rintro e w5 ⟨rfl, hb5⟩))
  go_ret
  exact ⟨rfl, Nz.bel⟩
set_option maxHeartbeats 4000000 in
theorem ranges_2_7 (i : K.Ins) (ho : (i.op == 129) = false) (ho2 : (i.op == 130) = false) (h0 : K.inAny i.d [(0, 7)] = true) (h1 : K.inAny i.s [(0, 7)] = false) (w : World) :
    Calls Tryz.prog 130 #[.agg #[.int .i64 i.op, .int .i64 i.d, .int .i64 i.s, .int .i64 i.ix, .int .i64 i.sc, .int .u32 i.imm, .int .i64 i.sz]] w fun e w' => e = .returned (.bool false) ∧ Bel w w' := by
  go_enter Tryz.func130, Tryz.ntmps130
  go_wp2_with (first
    | (go_at_call 128; with_reducible refine (within1_any i.d 0 7 _ _ ?_ ?_).mono ?_; go_simp; go_simp; rintro e w2 ⟨rfl, hb2⟩; have hs2 := hb2.size; simp at hs2; have y2 := Bel.at hb2 (ad := ⟨w.heap.size, 2, none⟩) (v := .int .i64 i.s) (by first | assumption | (go_simp)); have y3 := Bel.at hb2 (ad := ⟨w.heap.size, 3, none⟩) (v := .int .i64 i.ix) (by first | assumption | (go_simp)); have y4 := Bel.at hb2 (ad := ⟨w.heap.size, 4, none⟩) (v := .int .i64 i.sc) (by first | assumption | (go_simp)); have hl2 : w.heap.size < w2.heap.size := by omega)
    | (go_at_call 128; with_reducible refine (within1_any i.s 0 7 _ _ ?_ ?_).mono ?_; go_simp; go_simp; rintro e w3 ⟨rfl, hb3⟩; have hs3 := hb3.size; simp at hs3; have z3 := Bel.at hb3 (ad := ⟨w.heap.size, 3, none⟩) (v := .int .i64 i.ix) (by first | assumption | (go_simp)); have z4 := Bel.at hb3 (ad := ⟨w.heap.size, 4, none⟩) (v := .int .i64 i.sc) (by first | assumption | (go_simp)); have hl3 : w.heap.size < w3.heap.size := by omega)
    | (go_at_call 128; with_reducible refine (within1_any i.ix (-1) 7 _ _ ?_ ?_).mono ?_; go_simp; go_simp; rintro e w4 ⟨rfl, hb4⟩; have hs4 := hb4.size; simp at hs4; have x4 := Bel.at hb4 (ad := ⟨w.heap.size, 4, none⟩) (v := .int .i64 i.sc) (by first | assumption | (go_simp)); have hl4 : w.heap.size < w4.heap.size := by omega)
    | (go_at_call 128; with_reducible refine (within1_any i.sc 0 3 _ _ ?_ ?_).mono ?_; go_simp; go_simp; rintro e w5 ⟨rfl, hb5⟩))
  go_ret
  exact ⟨rfl, Nz.bel⟩
set_option maxHeartbeats 4000000 in
theorem ranges_3_3 (i : K.Ins) (ho : (i.op == 129) = true) (h0 : K.inAny i.d [(0, 7)] = true) (h1 : K.inAny i.s [(0, 3)] = true) (h2 : K.inAny i.ix [(-1, 7)] = false) (w : World) :
    Calls Tryz.prog 130 #[.agg #[.int .i64 i.op, .int .i64 i.d, .int .i64 i.s, .int .i64 i.ix, .int .i64 i.sc, .int .u32 i.imm, .int .i64 i.sz]] w fun e w' => e = .returned (.bool false) ∧ Bel w w' := by
  go_enter Tryz.func130, Tryz.ntmps130
  go_wp2_with (first
    | (go_at_call 128; with_reducible refine (within1_any i.d 0 7 _ _ ?_ ?_).mono ?_; go_simp; go_simp; rintro e w2 ⟨rfl, hb2⟩; have hs2 := hb2.size; simp at hs2; have y2 := Bel.at hb2 (ad := ⟨w.heap.size, 2, none⟩) (v := .int .i64 i.s) (by first | assumption | (go_simp)); have y3 := Bel.at hb2 (ad := ⟨w.heap.size, 3, none⟩) (v := .int .i64 i.ix) (by first | assumption | (go_simp)); have y4 := Bel.at hb2 (ad := ⟨w.heap.size, 4, none⟩) (v := .int .i64 i.sc) (by first | assumption | (go_simp)); have hl2 : w.heap.size < w2.heap.size := by omega)
    | (go_at_call 128; with_reducible refine (within1_any i.s 0 3 _ _ ?_ ?_).mono ?_; go_simp; go_simp; rintro e w3 ⟨rfl, hb3⟩; have hs3 := hb3.size; simp at hs3; have z3 := Bel.at hb3 (ad := ⟨w.heap.size, 3, none⟩) (v := .int .i64 i.ix) (by first | assumption | (go_simp)); have z4 := Bel.at hb3 (ad := ⟨w.heap.size, 4, none⟩) (v := .int .i64 i.sc) (by first | assumption | (go_simp)); have hl3 : w.heap.size < w3.heap.size := by omega)
    | (go_at_call 128; with_reducible refine (within1_any i.ix (-1) 7 _ _ ?_ ?_).mono ?_; go_simp; go_simp; rintro e w4 ⟨rfl, hb4⟩; have hs4 := hb4.size; simp at hs4; have x4 := Bel.at hb4 (ad := ⟨w.heap.size, 4, none⟩) (v := .int .i64 i.sc) (by first | assumption | (go_simp)); have hl4 : w.heap.size < w4.heap.size := by omega)
    | (go_at_call 128; with_reducible refine (within1_any i.sc 0 3 _ _ ?_ ?_).mono ?_; go_simp; go_simp; rintro e w5 ⟨rfl, hb5⟩))
  go_ret
  exact ⟨rfl, Nz.bel⟩
set_option maxHeartbeats 4000000 in
theorem ranges_3_4 (i : K.Ins) (ho : (i.op == 129) = false) (ho2 : (i.op == 130) = true) (h0 : K.inAny i.d [(0, 7)] = true) (h1 : K.inAny i.s [(0, 4)] = true) (h2 : K.inAny i.ix [(-1, 7)] = false) (w : World) :
    Calls Tryz.prog 130 #[.agg #[.int .i64 i.op, .int .i64 i.d, .int .i64 i.s, .int .i64 i.ix, .int .i64 i.sc, .int .u32 i.imm, .int .i64 i.sz]] w fun e w' => e = .returned (.bool false) ∧ Bel w w' := by
  go_enter Tryz.func130, Tryz.ntmps130
  go_wp2_with (first
    | (go_at_call 128; with_reducible refine (within1_any i.d 0 7 _ _ ?_ ?_).mono ?_; go_simp; go_simp; rintro e w2 ⟨rfl, hb2⟩; have hs2 := hb2.size; simp at hs2; have y2 := Bel.at hb2 (ad := ⟨w.heap.size, 2, none⟩) (v := .int .i64 i.s) (by first | assumption | (go_simp)); have y3 := Bel.at hb2 (ad := ⟨w.heap.size, 3, none⟩) (v := .int .i64 i.ix) (by first | assumption | (go_simp)); have y4 := Bel.at hb2 (ad := ⟨w.heap.size, 4, none⟩) (v := .int .i64 i.sc) (by first | assumption | (go_simp)); have hl2 : w.heap.size < w2.heap.size := by omega)
    | (go_at_call 128; with_reducible refine (within1_any i.s 0 4 _ _ ?_ ?_).mono ?_; go_simp; go_simp; rintro e w3 ⟨rfl, hb3⟩; have hs3 := hb3.size; simp at hs3; have z3 := Bel.at hb3 (ad := ⟨w.heap.size, 3, none⟩) (v := .int .i64 i.ix) (by first | assumption | (go_simp)); have z4 := Bel.at hb3 (ad := ⟨w.heap.size, 4, none⟩) (v := .int .i64 i.sc) (by first | assumption | (go_simp)); have hl3 : w.heap.size < w3.heap.size := by omega)
    | (go_at_call 128; with_reducible refine (within1_any i.ix (-1) 7 _ _ ?_ ?_).mono ?_; go_simp; go_simp; rintro e w4 ⟨rfl, hb4⟩; have hs4 := hb4.size; simp at hs4; have x4 := Bel.at hb4 (ad := ⟨w.heap.size, 4, none⟩) (v := .int .i64 i.sc) (by first | assumption | (go_simp)); have hl4 : w.heap.size < w4.heap.size := by omega)
    | (go_at_call 128; with_reducible refine (within1_any i.sc 0 3 _ _ ?_ ?_).mono ?_; go_simp; go_simp; rintro e w5 ⟨rfl, hb5⟩))
  go_ret
  exact ⟨rfl, Nz.bel⟩
set_option maxHeartbeats 4000000 in
theorem ranges_3_7 (i : K.Ins) (ho : (i.op == 129) = false) (ho2 : (i.op == 130) = false) (h0 : K.inAny i.d [(0, 7)] = true) (h1 : K.inAny i.s [(0, 7)] = true) (h2 : K.inAny i.ix [(-1, 7)] = false) (w : World) :
    Calls Tryz.prog 130 #[.agg #[.int .i64 i.op, .int .i64 i.d, .int .i64 i.s, .int .i64 i.ix, .int .i64 i.sc, .int .u32 i.imm, .int .i64 i.sz]] w fun e w' => e = .returned (.bool false) ∧ Bel w w' := by
  go_enter Tryz.func130, Tryz.ntmps130
  go_wp2_with (first
    | (go_at_call 128; with_reducible refine (within1_any i.d 0 7 _ _ ?_ ?_).mono ?_; go_simp; go_simp; rintro e w2 ⟨rfl, hb2⟩; have hs2 := hb2.size; simp at hs2; have y2 := Bel.at hb2 (ad := ⟨w.heap.size, 2, none⟩) (v := .int .i64 i.s) (by first | assumption | (go_simp)); have y3 := Bel.at hb2 (ad := ⟨w.heap.size, 3, none⟩) (v := .int .i64 i.ix) (by first | assumption | (go_simp)); have y4 := Bel.at hb2 (ad := ⟨w.heap.size, 4, none⟩) (v := .int .i64 i.sc) (by first | assumption | (go_simp)); have hl2 : w.heap.size < w2.heap.size := by omega)
    | (go_at_call 128; with_reducible refine (within1_any i.s 0 7 _ _ ?_ ?_).mono ?_; go_simp; go_simp; rintro e w3 ⟨rfl, hb3⟩; have hs3 := hb3.size; simp at hs3; have z3 := Bel.at hb3 (ad := ⟨w.heap.size, 3, none⟩) (v := .int .i64 i.ix) (by first | assumption | (go_simp)); have z4 := Bel.at hb3 (ad := ⟨w.heap.size, 4, none⟩) (v := .int .i64 i.sc) (by first | assumption | (go_simp)); have hl3 : w.heap.size < w3.heap.size := by omega)
    | (go_at_call 128; with_reducible refine (within1_any i.ix (-1) 7 _ _ ?_ ?_).mono ?_; go_simp; go_simp; rintro e w4 ⟨rfl, hb4⟩; have hs4 := hb4.size; simp at hs4; have x4 := Bel.at hb4 (ad := ⟨w.heap.size, 4, none⟩) (v := .int .i64 i.sc) (by first | assumption | (go_simp)); have hl4 : w.heap.size < w4.heap.size := by omega)
    | (go_at_call 128; with_reducible refine (within1_any i.sc 0 3 _ _ ?_ ?_).mono ?_; go_simp; go_simp; rintro e w5 ⟨rfl, hb5⟩))
  go_ret
  exact ⟨rfl, Nz.bel⟩
set_option maxHeartbeats 4000000 in
theorem ranges_4_3 (i : K.Ins) (ho : (i.op == 129) = true) (h0 : K.inAny i.d [(0, 7)] = true) (h1 : K.inAny i.s [(0, 3)] = true) (h2 : K.inAny i.ix [(-1, 7)] = true) (h3 : K.inAny i.sc [(0, 3)] = false) (w : World) :
    Calls Tryz.prog 130 #[.agg #[.int .i64 i.op, .int .i64 i.d, .int .i64 i.s, .int .i64 i.ix, .int .i64 i.sc, .int .u32 i.imm, .int .i64 i.sz]] w fun e w' => e = .returned (.bool false) ∧ Bel w w' := by
  go_enter Tryz.func130, Tryz.ntmps130
  go_wp2_with (first
    | (go_at_call 128; with_reducible refine (within1_any i.d 0 7 _ _ ?_ ?_).mono ?_; go_simp; go_simp; rintro e w2 ⟨rfl, hb2⟩; have hs2 := hb2.size; simp at hs2; have y2 := Bel.at hb2 (ad := ⟨w.heap.size, 2, none⟩) (v := .int .i64 i.s) (by first | assumption | (go_simp)); have y3 := Bel.at hb2 (ad := ⟨w.heap.size, 3, none⟩) (v := .int .i64 i.ix) (by first | assumption | (go_simp)); have y4 := Bel.at hb2 (ad := ⟨w.heap.size, 4, none⟩) (v := .int .i64 i.sc) (by first | assumption | (go_simp)); have hl2 : w.heap.size < w2.heap.size := by omega)
    | (go_at_call 128; with_reducible refine (within1_any i.s 0 3 _ _ ?_ ?_).mono ?_; go_simp; go_simp; rintro e w3 ⟨rfl, hb3⟩; have hs3 := hb3.size; simp at hs3; have z3 := Bel.at hb3 (ad := ⟨w.heap.size, 3, none⟩) (v := .int .i64 i.ix) (by first | assumption | (go_simp)); have z4 := Bel.at hb3 (ad := ⟨w.heap.size, 4, none⟩) (v := .int .i64 i.sc) (by first | assumption | (go_simp)); have hl3 : w.heap.size < w3.heap.size := by omega)
    | (go_at_call 128; with_reducible refine (within1_any i.ix (-1) 7 _ _ ?_ ?_).mono ?_; go_simp; go_simp; rintro e w4 ⟨rfl, hb4⟩; have hs4 := hb4.size; simp at hs4; have x4 := Bel.at hb4 (ad := ⟨w.heap.size, 4, none⟩) (v := .int .i64 i.sc) (by first | assumption | (go_simp)); have hl4 : w.heap.size < w4.heap.size := by omega)
    | (go_at_call 128; with_reducible refine (within1_any i.sc 0 3 _ _ ?_ ?_).mono ?_; go_simp; go_simp; rintro e w5 ⟨rfl, hb5⟩))
  go_ret
  exact ⟨rfl, Nz.bel⟩
set_option maxHeartbeats 4000000 in
theorem ranges_4_4 (i : K.Ins) (ho : (i.op == 129) = false) (ho2 : (i.op == 130) = true) (h0 : K.inAny i.d [(0, 7)] = true) (h1 : K.inAny i.s [(0, 4)] = true) (h2 : K.inAny i.ix [(-1, 7)] = true) (h3 : K.inAny i.sc [(0, 3)] = false) (w : World) :
    Calls Tryz.prog 130 #[.agg #[.int .i64 i.op, .int .i64 i.d, .int .i64 i.s, .int .i64 i.ix, .int .i64 i.sc, .int .u32 i.imm, .int .i64 i.sz]] w fun e w' => e = .returned (.bool false) ∧ Bel w w' := by
  go_enter Tryz.func130, Tryz.ntmps130
  go_wp2_with (first
    | (go_at_call 128; with_reducible refine (within1_any i.d 0 7 _ _ ?_ ?_).mono ?_; go_simp; go_simp; rintro e w2 ⟨rfl, hb2⟩; have hs2 := hb2.size; simp at hs2; have y2 := Bel.at hb2 (ad := ⟨w.heap.size, 2, none⟩) (v := .int .i64 i.s) (by first | assumption | (go_simp)); have y3 := Bel.at hb2 (ad := ⟨w.heap.size, 3, none⟩) (v := .int .i64 i.ix) (by first | assumption | (go_simp)); have y4 := Bel.at hb2 (ad := ⟨w.heap.size, 4, none⟩) (v := .int .i64 i.sc) (by first | assumption | (go_simp)); have hl2 : w.heap.size < w2.heap.size := by omega)
    | (go_at_call 128; with_reducible refine (within1_any i.s 0 4 _ _ ?_ ?_).mono ?_; go_simp; go_simp; rintro e w3 ⟨rfl, hb3⟩; have hs3 := hb3.size; simp at hs3; have z3 := Bel.at hb3 (ad := ⟨w.heap.size, 3, none⟩) (v := .int .i64 i.ix) (by first | assumption | (go_simp)); have z4 := Bel.at hb3 (ad := ⟨w.heap.size, 4, none⟩) (v := .int .i64 i.sc) (by first | assumption | (go_simp)); have hl3 : w.heap.size < w3.heap.size := by omega)
    | (go_at_call 128; with_reducible refine (within1_any i.ix (-1) 7 _ _ ?_ ?_).mono ?_; go_simp; go_simp; rintro e w4 ⟨rfl, hb4⟩; have hs4 := hb4.size; simp at hs4; have x4 := Bel.at hb4 (ad := ⟨w.heap.size, 4, none⟩) (v := .int .i64 i.sc) (by first | assumption | (go_simp)); have hl4 : w.heap.size < w4.heap.size := by omega)
    | (go_at_call 128; with_reducible refine (within1_any i.sc 0 3 _ _ ?_ ?_).mono ?_; go_simp; go_simp; rintro e w5 ⟨rfl, hb5⟩))
  go_ret
  exact ⟨rfl, Nz.bel⟩
set_option maxHeartbeats 4000000 in
theorem ranges_4_7 (i : K.Ins) (ho : (i.op == 129) = false) (ho2 : (i.op == 130) = false) (h0 : K.inAny i.d [(0, 7)] = true) (h1 : K.inAny i.s [(0, 7)] = true) (h2 : K.inAny i.ix [(-1, 7)] = true) (h3 : K.inAny i.sc [(0, 3)] = false) (w : World) :
    Calls Tryz.prog 130 #[.agg #[.int .i64 i.op, .int .i64 i.d, .int .i64 i.s, .int .i64 i.ix, .int .i64 i.sc, .int .u32 i.imm, .int .i64 i.sz]] w fun e w' => e = .returned (.bool false) ∧ Bel w w' := by
  go_enter Tryz.func130, Tryz.ntmps130
  go_wp2_with (first
    | (go_at_call 128; with_reducible refine (within1_any i.d 0 7 _ _ ?_ ?_).mono ?_; go_simp; go_simp; rintro e w2 ⟨rfl, hb2⟩; have hs2 := hb2.size; simp at hs2; have y2 := Bel.at hb2 (ad := ⟨w.heap.size, 2, none⟩) (v := .int .i64 i.s) (by first | assumption | (go_simp)); have y3 := Bel.at hb2 (ad := ⟨w.heap.size, 3, none⟩) (v := .int .i64 i.ix) (by first | assumption | (go_simp)); have y4 := Bel.at hb2 (ad := ⟨w.heap.size, 4, none⟩) (v := .int .i64 i.sc) (by first | assumption | (go_simp)); have hl2 : w.heap.size < w2.heap.size := by omega)
    | (go_at_call 128; with_reducible refine (within1_any i.s 0 7 _ _ ?_ ?_).mono ?_; go_simp; go_simp; rintro e w3 ⟨rfl, hb3⟩; have hs3 := hb3.size; simp at hs3; have z3 := Bel.at hb3 (ad := ⟨w.heap.size, 3, none⟩) (v := .int .i64 i.ix) (by first | assumption | (go_simp)); have z4 := Bel.at hb3 (ad := ⟨w.heap.size, 4, none⟩) (v := .int .i64 i.sc) (by first | assumption | (go_simp)); have hl3 : w.heap.size < w3.heap.size := by omega)
    | (go_at_call 128; with_reducible refine (within1_any i.ix (-1) 7 _ _ ?_ ?_).mono ?_; go_simp; go_simp; rintro e w4 ⟨rfl, hb4⟩; have hs4 := hb4.size; simp at hs4; have x4 := Bel.at hb4 (ad := ⟨w.heap.size, 4, none⟩) (v := .int .i64 i.sc) (by first | assumption | (go_simp)); have hl4 : w.heap.size < w4.heap.size := by omega)
    | (go_at_call 128; with_reducible refine (within1_any i.sc 0 3 _ _ ?_ ?_).mono ?_; go_simp; go_simp; rintro e w5 ⟨rfl, hb5⟩))
  go_ret
  exact ⟨rfl, Nz.bel⟩
set_option maxHeartbeats 4000000 in
theorem ranges_5_3 (i : K.Ins) (ho : (i.op == 129) = true) (h0 : K.inAny i.d [(0, 7)] = true) (h1 : K.inAny i.s [(0, 3)] = true) (h2 : K.inAny i.ix [(-1, 7)] = true) (h3 : K.inAny i.sc [(0, 3)] = true) (w : World) :
    Calls Tryz.prog 130 #[.agg #[.int .i64 i.op, .int .i64 i.d, .int .i64 i.s, .int .i64 i.ix, .int .i64 i.sc, .int .u32 i.imm, .int .i64 i.sz]] w fun e w' => e = .returned (.bool true) ∧ Bel w w' := by
  go_enter Tryz.func130, Tryz.ntmps130
  go_wp2_with (first
    | (go_at_call 128; with_reducible refine (within1_any i.d 0 7 _ _ ?_ ?_).mono ?_; go_simp; go_simp; rintro e w2 ⟨rfl, hb2⟩; have hs2 := hb2.size; simp at hs2; have y2 := Bel.at hb2 (ad := ⟨w.heap.size, 2, none⟩) (v := .int .i64 i.s) (by first | assumption | (go_simp)); have y3 := Bel.at hb2 (ad := ⟨w.heap.size, 3, none⟩) (v := .int .i64 i.ix) (by first | assumption | (go_simp)); have y4 := Bel.at hb2 (ad := ⟨w.heap.size, 4, none⟩) (v := .int .i64 i.sc) (by first | assumption | (go_simp)); have hl2 : w.heap.size < w2.heap.size := by omega)
    | (go_at_call 128; with_reducible refine (within1_any i.s 0 3 _ _ ?_ ?_).mono ?_; go_simp; go_simp; rintro e w3 ⟨rfl, hb3⟩; have hs3 := hb3.size; simp at hs3; have z3 := Bel.at hb3 (ad := ⟨w.heap.size, 3, none⟩) (v := .int .i64 i.ix) (by first | assumption | (go_simp)); have z4 := Bel.at hb3 (ad := ⟨w.heap.size, 4, none⟩) (v := .int .i64 i.sc) (by first | assumption | (go_simp)); have hl3 : w.heap.size < w3.heap.size := by omega)
    | (go_at_call 128; with_reducible refine (within1_any i.ix (-1) 7 _ _ ?_ ?_).mono ?_; go_simp; go_simp; rintro e w4 ⟨rfl, hb4⟩; have hs4 := hb4.size; simp at hs4; have x4 := Bel.at hb4 (ad := ⟨w.heap.size, 4, none⟩) (v := .int .i64 i.sc) (by first | assumption | (go_simp)); have hl4 : w.heap.size < w4.heap.size := by omega)
    | (go_at_call 128; with_reducible refine (within1_any i.sc 0 3 _ _ ?_ ?_).mono ?_; go_simp; go_simp; rintro e w5 ⟨rfl, hb5⟩))
  go_ret
  exact ⟨rfl, Nz.bel⟩
set_option maxHeartbeats 4000000 in
theorem ranges_5_4 (i : K.Ins) (ho : (i.op == 129) = false) (ho2 : (i.op == 130) = true) (h0 : K.inAny i.d [(0, 7)] = true) (h1 : K.inAny i.s [(0, 4)] = true) (h2 : K.inAny i.ix [(-1, 7)] = true) (h3 : K.inAny i.sc [(0, 3)] = true) (w : World) :
    Calls Tryz.prog 130 #[.agg #[.int .i64 i.op, .int .i64 i.d, .int .i64 i.s, .int .i64 i.ix, .int .i64 i.sc, .int .u32 i.imm, .int .i64 i.sz]] w fun e w' => e = .returned (.bool true) ∧ Bel w w' := by
  go_enter Tryz.func130, Tryz.ntmps130
  go_wp2_with (first
    | (go_at_call 128; with_reducible refine (within1_any i.d 0 7 _ _ ?_ ?_).mono ?_; go_simp; go_simp; rintro e w2 ⟨rfl, hb2⟩; have hs2 := hb2.size; simp at hs2; have y2 := Bel.at hb2 (ad := ⟨w.heap.size, 2, none⟩) (v := .int .i64 i.s) (by first | assumption | (go_simp)); have y3 := Bel.at hb2 (ad := ⟨w.heap.size, 3, none⟩) (v := .int .i64 i.ix) (by first | assumption | (go_simp)); have y4 := Bel.at hb2 (ad := ⟨w.heap.size, 4, none⟩) (v := .int .i64 i.sc) (by first | assumption | (go_simp)); have hl2 : w.heap.size < w2.heap.size := by omega)
    | (go_at_call 128; with_reducible refine (within1_any i.s 0 4 _ _ ?_ ?_).mono ?_; go_simp; go_simp; rintro e w3 ⟨rfl, hb3⟩; have hs3 := hb3.size; simp at hs3; have z3 := Bel.at hb3 (ad := ⟨w.heap.size, 3, none⟩) (v := .int .i64 i.ix) (by first | assumption | (go_simp)); have z4 := Bel.at hb3 (ad := ⟨w.heap.size, 4, none⟩) (v := .int .i64 i.sc) (by first | assumption | (go_simp)); have hl3 : w.heap.size < w3.heap.size := by omega)
    | (go_at_call 128; with_reducible refine (within1_any i.ix (-1) 7 _ _ ?_ ?_).mono ?_; go_simp; go_simp; rintro e w4 ⟨rfl, hb4⟩; have hs4 := hb4.size; simp at hs4; have x4 := Bel.at hb4 (ad := ⟨w.heap.size, 4, none⟩) (v := .int .i64 i.sc) (by first | assumption | (go_simp)); have hl4 : w.heap.size < w4.heap.size := by omega)
    | (go_at_call 128; with_reducible refine (within1_any i.sc 0 3 _ _ ?_ ?_).mono ?_; go_simp; go_simp; rintro e w5 ⟨rfl, hb5⟩))
  go_ret
  exact ⟨rfl, Nz.bel⟩
set_option maxHeartbeats 4000000 in
theorem ranges_5_7 (i : K.Ins) (ho : (i.op == 129) = false) (ho2 : (i.op == 130) = false) (h0 : K.inAny i.d [(0, 7)] = true) (h1 : K.inAny i.s [(0, 7)] = true) (h2 : K.inAny i.ix [(-1, 7)] = true) (h3 : K.inAny i.sc [(0, 3)] = true) (w : World) :
    Calls Tryz.prog 130 #[.agg #[.int .i64 i.op, .int .i64 i.d, .int .i64 i.s, .int .i64 i.ix, .int .i64 i.sc, .int .u32 i.imm, .int .i64 i.sz]] w fun e w' => e = .returned (.bool true) ∧ Bel w w' := by
  go_enter Tryz.func130, Tryz.ntmps130
  go_wp2_with (first
    | (go_at_call 128; with_reducible refine (within1_any i.d 0 7 _ _ ?_ ?_).mono ?_; go_simp; go_simp; rintro e w2 ⟨rfl, hb2⟩; have hs2 := hb2.size; simp at hs2; have y2 := Bel.at hb2 (ad := ⟨w.heap.size, 2, none⟩) (v := .int .i64 i.s) (by first | assumption | (go_simp)); have y3 := Bel.at hb2 (ad := ⟨w.heap.size, 3, none⟩) (v := .int .i64 i.ix) (by first | assumption | (go_simp)); have y4 := Bel.at hb2 (ad := ⟨w.heap.size, 4, none⟩) (v := .int .i64 i.sc) (by first | assumption | (go_simp)); have hl2 : w.heap.size < w2.heap.size := by omega)
    | (go_at_call 128; with_reducible refine (within1_any i.s 0 7 _ _ ?_ ?_).mono ?_; go_simp; go_simp; rintro e w3 ⟨rfl, hb3⟩; have hs3 := hb3.size; simp at hs3; have z3 := Bel.at hb3 (ad := ⟨w.heap.size, 3, none⟩) (v := .int .i64 i.ix) (by first | assumption | (go_simp)); have z4 := Bel.at hb3 (ad := ⟨w.heap.size, 4, none⟩) (v := .int .i64 i.sc) (by first | assumption | (go_simp)); have hl3 : w.heap.size < w3.heap.size := by omega)
    | (go_at_call 128; with_reducible refine (within1_any i.ix (-1) 7 _ _ ?_ ?_).mono ?_; go_simp; go_simp; rintro e w4 ⟨rfl, hb4⟩; have hs4 := hb4.size; simp at hs4; have x4 := Bel.at hb4 (ad := ⟨w.heap.size, 4, none⟩) (v := .int .i64 i.sc) (by first | assumption | (go_simp)); have hl4 : w.heap.size < w4.heap.size := by omega)
    | (go_at_call 128; with_reducible refine (within1_any i.sc 0 3 _ _ ?_ ?_).mono ?_; go_simp; go_simp; rintro e w5 ⟨rfl, hb5⟩))
  go_ret
  exact ⟨rfl, Nz.bel⟩
theorem ranges_m (i : K.Ins) (m : Int) (hm : (i.op == 129) = true ∧ m = 3 ∨ (i.op == 129) = false ∧ (i.op == 130) = true ∧ m = 4 ∨ (i.op == 129) = false ∧ (i.op == 130) = false ∧ m = 7) (w : World) :
    Calls Tryz.prog 130 #[.agg #[.int .i64 i.op, .int .i64 i.d, .int .i64 i.s, .int .i64 i.ix, .int .i64 i.sc, .int .u32 i.imm, .int .i64 i.sz]] w fun e w' => e = .returned (.bool (K.inAny i.d [(0, 7)] && (K.inAny i.s [(0, m)] && (K.inAny i.ix [(-1, 7)] && K.inAny i.sc [(0, 3)])))) ∧ Bel w w' := by
  cases h0 : K.inAny i.d [(0, 7)]
  · rcases hm with ⟨ho, rfl⟩ | ⟨ho, ho2, rfl⟩ | ⟨ho, ho2, rfl⟩
    · exact ranges_1_3 i ho h0 w
    · exact ranges_1_4 i ho ho2 h0 w
    · exact ranges_1_7 i ho ho2 h0 w
  · cases h1 : K.inAny i.s [(0, m)]
    · rcases hm with ⟨ho, rfl⟩ | ⟨ho, ho2, rfl⟩ | ⟨ho, ho2, rfl⟩
      · exact ranges_2_3 i ho h0 h1 w
      · exact ranges_2_4 i ho ho2 h0 h1 w
      · exact ranges_2_7 i ho ho2 h0 h1 w
    · cases h2 : K.inAny i.ix [(-1, 7)]
      · rcases hm with ⟨ho, rfl⟩ | ⟨ho, ho2, rfl⟩ | ⟨ho, ho2, rfl⟩
        · exact ranges_3_3 i ho h0 h1 h2 w
        · exact ranges_3_4 i ho ho2 h0 h1 h2 w
        · exact ranges_3_7 i ho ho2 h0 h1 h2 w
      · cases h3 : K.inAny i.sc [(0, 3)]
        · rcases hm with ⟨ho, rfl⟩ | ⟨ho, ho2, rfl⟩ | ⟨ho, ho2, rfl⟩
          · exact ranges_4_3 i ho h0 h1 h2 h3 w
          · exact ranges_4_4 i ho ho2 h0 h1 h2 h3 w
          · exact ranges_4_7 i ho ho2 h0 h1 h2 h3 w
        · rcases hm with ⟨ho, rfl⟩ | ⟨ho, ho2, rfl⟩ | ⟨ho, ho2, rfl⟩
          · exact ranges_5_3 i ho h0 h1 h2 h3 w
          · exact ranges_5_4 i ho ho2 h0 h1 h2 h3 w
          · exact ranges_5_7 i ho ho2 h0 h1 h2 h3 w
theorem ranges_any (i : K.Ins) (w : World) : Calls Tryz.prog 130 #[.agg #[.int .i64 i.op, .int .i64 i.d, .int .i64 i.s, .int .i64 i.ix, .int .i64 i.sc, .int .u32 i.imm, .int .i64 i.sz]] w fun e w' => e = .returned (.bool (K.rng i)) ∧ Bel w w' := by
  unfold K.rng K.most
  by_cases h1 : i.op = 129
  · rw [if_pos h1]; exact ranges_m i 3 (.inl ⟨by simp [h1], rfl⟩) w
  · rw [if_neg h1]
    by_cases h2 : i.op = 130
    · rw [if_pos h2]; exact ranges_m i 4 (.inr (.inl ⟨by simp [h1], by simp [h2], rfl⟩)) w
    · rw [if_neg h2]; exact ranges_m i 7 (.inr (.inr ⟨by simp [h1], by simp [h2], rfl⟩)) w
def R2.reg (x : Int) : Bool := ((decide (x ≥ 0)) && (decide (x < 8)))
theorem R2_reg (x : Int) (w : World) : Calls Tryz.prog 104 #[.int .i64 x] w fun e w' => e = .returned (.bool (R2.reg x)) ∧ Bel w w' := by
 refine E.enter (n := 9) (S := fun _ => False) Tryz.func104 rfl rfl Nz.k (E.Hp.start w) (E.sr (E.op (.bool false) (E.tr (E.op (E.i x) (E.op (.bool (decide (x ≥ 0))) (E.op (.bool (decide (x ≥ 0))) (E.G.cut 3 [(2, .bool false), (8, .bool ((decide (x ≥ 0)) && (decide (x < 8))))] (fun _ => True) [] ?_ ?_)))))))
 ·
  generalize hc1 : (decide (x ≥ 0)) = b2
  cases b2
  ·
   exact E.sk (E.sk (E.op (.bool false) (E.G.end_pst ⟨Nz.k, Nz.k⟩ Nz.sub (fun _ h => h))))
  exact E.op (E.i x) (E.op (.bool (decide (x < 8))) (E.op (.bool (decide (x < 8))) (E.G.end_pst ⟨Nz.k, Nz.k⟩ Nz.sub (fun _ h => h))))
 exact E.op (.bool ((decide (x ≥ 0)) && (decide (x < 8)))) (E.To.code (E.C.ret (E.bd Tryz.f104 [.bool ((decide (x ≥ 0)) && (decide (x < 8)))] (fun w h => ⟨rfl, h.ch.bel (fun _ h => h.elim)⟩))))

def R2.signed (x : Int) : Bool := ((decide (x < 128)) || (decide (x ≥ 4294967168)))
theorem R2_signed (x : Int) (w : World) : Calls Tryz.prog 105 #[.int .u32 x] w fun e w' => e = .returned (.bool (R2.signed x)) ∧ Bel w w' := by
 refine E.enter (n := 9) (S := fun _ => False) Tryz.func105 rfl rfl Nz.k (E.Hp.start w) (E.sr (E.op (.bool false) (E.tr (E.op (E.u x) (E.op (.bool (decide (x < 128))) (E.op (.bool (decide (x < 128))) (E.G.cut 3 [(2, .bool false), (8, .bool ((decide (x < 128)) || (decide (x ≥ 4294967168))))] (fun _ => True) [] ?_ ?_)))))))
 ·
  generalize hc1 : (decide (x < 128)) = b2
  cases b2
  ·
   exact E.op (E.u x) (E.op (.bool (decide (x ≥ 4294967168))) (E.op (.bool (decide (x ≥ 4294967168))) (E.G.end_pst ⟨Nz.k, Nz.k⟩ Nz.sub (fun _ h => h))))
  exact E.sk (E.sk (E.op (.bool true) (E.G.end_pst ⟨Nz.k, Nz.k⟩ Nz.sub (fun _ h => h))))
 exact E.op (.bool ((decide (x < 128)) || (decide (x ≥ 4294967168)))) (E.To.code (E.C.ret (E.bd Tryz.f105 [.bool ((decide (x < 128)) || (decide (x ≥ 4294967168)))] (fun w h => ⟨rfl, h.ch.bel (fun _ h => h.elim)⟩))))

def R2.Format (x : Int) : Int := (bif ((decide (x ≥ 0)) && (decide (x ≤ 4))) then 1 else (bif ((decide (x ≥ 16)) && (decide (x ≤ 21))) then 2 else (bif ((decide (x ≥ 32)) && (decide (x ≤ 46))) then 3 else (bif ((decide (x ≥ 48)) && (decide (x ≤ 62))) then 4 else (bif ((decide (x ≥ 64)) && (decide (x ≤ 78))) then 5 else (bif ((decide (x ≥ 80)) && (decide (x ≤ 86))) then 6 else (bif ((decide (x ≥ 88)) && (decide (x ≤ 94))) then 7 else (bif ((decide (x ≥ 96)) && (decide (x ≤ 109))) then 8 else (bif ((x == 112) || (x == 113)) then 9 else (bif ((decide (x ≥ 128)) && (decide (x ≤ 130))) then (IntKind.wrap .i64 ((IntKind.wrap .i64 (x - 128)) + 10)) else 0))))))))))
abbrev Zizga (x : Int) := IntKind.wrap .i64 ((IntKind.wrap .i64 (x - 128)) + 10)
set_option maxHeartbeats 1000000 in
theorem R2_Format (x : Int) (w : World) : Calls Tryz.prog 59 #[.int .i64 x] w fun e w' => e = .returned (.int .i64 (R2.Format x)) ∧ Bel w w' := by
 refine E.enter (n := 66) (S := fun _ => False) Tryz.func59 rfl rfl Nz.k (E.Hp.start w) (E.sr (E.op (E.i 0) (E.To.code (E.C.seq (E.sr (E.op (E.i x) (E.op (.bool (decide (x ≥ 0))) (E.op (.bool (decide (x ≥ 0))) (E.G.cut 3 [(0, E.i x), (2, E.i 0), (8, .bool ((decide (x ≥ 0)) && (decide (x ≤ 4))))] (fun _ => True) [] ?_ ?_)))))))))
 ·
  generalize hc1 : (decide (x ≥ 0)) = b2
  cases b2
  ·
   exact E.sk (E.sk (E.op (.bool false) E.ep))
  exact E.op (E.i x) (E.op (.bool (decide (x ≤ 4))) (E.op (.bool (decide (x ≤ 4))) E.ep))
 refine E.To.code (E.cd ((decide (x ≥ 0)) && (decide (x ≤ 4))) (fun hc3 => ?_) (fun hc3 => ?_))
 ·
  exact E.sr (E.op (E.i 1) (E.To.code (E.C.ret (E.P.rt (E.bd Tryz.f59 [E.i 1] (fun w h => ⟨by unfold R2.Format; rw [hc3, N1] <;> rfl, h.ch.bel (fun _ h => h.elim)⟩))))))
 refine E.C.skip (E.To.code (E.C.seq (E.sr (E.op (E.i x) (E.op (.bool (decide (x ≥ 16))) (E.op (.bool (decide (x ≥ 16))) (E.G.cut 3 [(0, E.i x), (2, E.i 0), (14, .bool ((decide (x ≥ 16)) && (decide (x ≤ 21))))] (fun _ => True) [] ?_ ?_)))))))
 ·
  generalize hc4 : (decide (x ≥ 16)) = b5
  cases b5
  ·
   exact E.sk (E.sk (E.op (.bool false) E.ep))
  exact E.op (E.i x) (E.op (.bool (decide (x ≤ 21))) (E.op (.bool (decide (x ≤ 21))) E.ep))
 refine E.To.code (E.cd ((decide (x ≥ 16)) && (decide (x ≤ 21))) (fun hc6 => ?_) (fun hc6 => ?_))
 ·
  exact E.sr (E.op (E.i 2) (E.To.code (E.C.ret (E.P.rt (E.bd Tryz.f59 [E.i 2] (fun w h => ⟨by unfold R2.Format; rw [hc3, N0, hc6, N1] <;> rfl, h.ch.bel (fun _ h => h.elim)⟩))))))
 refine E.C.skip (E.To.code (E.C.seq (E.sr (E.op (E.i x) (E.op (.bool (decide (x ≥ 32))) (E.op (.bool (decide (x ≥ 32))) (E.G.cut 3 [(0, E.i x), (2, E.i 0), (20, .bool ((decide (x ≥ 32)) && (decide (x ≤ 46))))] (fun _ => True) [] ?_ ?_)))))))
 ·
  generalize hc7 : (decide (x ≥ 32)) = b8
  cases b8
  ·
   exact E.sk (E.sk (E.op (.bool false) E.ep))
  exact E.op (E.i x) (E.op (.bool (decide (x ≤ 46))) (E.op (.bool (decide (x ≤ 46))) E.ep))
 refine E.To.code (E.cd ((decide (x ≥ 32)) && (decide (x ≤ 46))) (fun hc9 => ?_) (fun hc9 => ?_))
 ·
  exact E.sr (E.op (E.i 3) (E.To.code (E.C.ret (E.P.rt (E.bd Tryz.f59 [E.i 3] (fun w h => ⟨by unfold R2.Format; rw [hc3, N0, hc6, N0, hc9, N1] <;> rfl, h.ch.bel (fun _ h => h.elim)⟩))))))
 refine E.C.skip (E.To.code (E.C.seq (E.sr (E.op (E.i x) (E.op (.bool (decide (x ≥ 48))) (E.op (.bool (decide (x ≥ 48))) (E.G.cut 3 [(0, E.i x), (2, E.i 0), (26, .bool ((decide (x ≥ 48)) && (decide (x ≤ 62))))] (fun _ => True) [] ?_ ?_)))))))
 ·
  generalize hc10 : (decide (x ≥ 48)) = b11
  cases b11
  ·
   exact E.sk (E.sk (E.op (.bool false) E.ep))
  exact E.op (E.i x) (E.op (.bool (decide (x ≤ 62))) (E.op (.bool (decide (x ≤ 62))) E.ep))
 refine E.To.code (E.cd ((decide (x ≥ 48)) && (decide (x ≤ 62))) (fun hc12 => ?_) (fun hc12 => ?_))
 ·
  exact E.sr (E.op (E.i 4) (E.To.code (E.C.ret (E.P.rt (E.bd Tryz.f59 [E.i 4] (fun w h => ⟨by unfold R2.Format; rw [hc3, N0, hc6, N0, hc9, N0, hc12, N1] <;> rfl, h.ch.bel (fun _ h => h.elim)⟩))))))
 refine E.C.skip (E.To.code (E.C.seq (E.sr (E.op (E.i x) (E.op (.bool (decide (x ≥ 64))) (E.op (.bool (decide (x ≥ 64))) (E.G.cut 3 [(0, E.i x), (2, E.i 0), (32, .bool ((decide (x ≥ 64)) && (decide (x ≤ 78))))] (fun _ => True) [] ?_ ?_)))))))
 ·
  generalize hc13 : (decide (x ≥ 64)) = b14
  cases b14
  ·
   exact E.sk (E.sk (E.op (.bool false) E.ep))
  exact E.op (E.i x) (E.op (.bool (decide (x ≤ 78))) (E.op (.bool (decide (x ≤ 78))) E.ep))
 refine E.To.code (E.cd ((decide (x ≥ 64)) && (decide (x ≤ 78))) (fun hc15 => ?_) (fun hc15 => ?_))
 ·
  exact E.sr (E.op (E.i 5) (E.To.code (E.C.ret (E.P.rt (E.bd Tryz.f59 [E.i 5] (fun w h => ⟨by unfold R2.Format; rw [hc3, N0, hc6, N0, hc9, N0, hc12, N0, hc15, N1] <;> rfl, h.ch.bel (fun _ h => h.elim)⟩))))))
 refine E.C.skip (E.To.code (E.C.seq (E.sr (E.op (E.i x) (E.op (.bool (decide (x ≥ 80))) (E.op (.bool (decide (x ≥ 80))) (E.G.cut 3 [(0, E.i x), (2, E.i 0), (38, .bool ((decide (x ≥ 80)) && (decide (x ≤ 86))))] (fun _ => True) [] ?_ ?_)))))))
 ·
  generalize hc16 : (decide (x ≥ 80)) = b17
  cases b17
  ·
   exact E.sk (E.sk (E.op (.bool false) E.ep))
  exact E.op (E.i x) (E.op (.bool (decide (x ≤ 86))) (E.op (.bool (decide (x ≤ 86))) E.ep))
 refine E.To.code (E.cd ((decide (x ≥ 80)) && (decide (x ≤ 86))) (fun hc18 => ?_) (fun hc18 => ?_))
 ·
  exact E.sr (E.op (E.i 6) (E.To.code (E.C.ret (E.P.rt (E.bd Tryz.f59 [E.i 6] (fun w h => ⟨by unfold R2.Format; rw [hc3, N0, hc6, N0, hc9, N0, hc12, N0, hc15, N0, hc18, N1] <;> rfl, h.ch.bel (fun _ h => h.elim)⟩))))))
 refine E.C.skip (E.To.code (E.C.seq (E.sr (E.op (E.i x) (E.op (.bool (decide (x ≥ 88))) (E.op (.bool (decide (x ≥ 88))) (E.G.cut 3 [(0, E.i x), (2, E.i 0), (44, .bool ((decide (x ≥ 88)) && (decide (x ≤ 94))))] (fun _ => True) [] ?_ ?_)))))))
 ·
  generalize hc19 : (decide (x ≥ 88)) = b20
  cases b20
  ·
   exact E.sk (E.sk (E.op (.bool false) E.ep))
  exact E.op (E.i x) (E.op (.bool (decide (x ≤ 94))) (E.op (.bool (decide (x ≤ 94))) E.ep))
 refine E.To.code (E.cd ((decide (x ≥ 88)) && (decide (x ≤ 94))) (fun hc21 => ?_) (fun hc21 => ?_))
 ·
  exact E.sr (E.op (E.i 7) (E.To.code (E.C.ret (E.P.rt (E.bd Tryz.f59 [E.i 7] (fun w h => ⟨by unfold R2.Format; rw [hc3, N0, hc6, N0, hc9, N0, hc12, N0, hc15, N0, hc18, N0, hc21, N1] <;> rfl, h.ch.bel (fun _ h => h.elim)⟩))))))
 refine E.C.skip (E.To.code (E.C.seq (E.sr (E.op (E.i x) (E.op (.bool (decide (x ≥ 96))) (E.op (.bool (decide (x ≥ 96))) (E.G.cut 3 [(0, E.i x), (2, E.i 0), (50, .bool ((decide (x ≥ 96)) && (decide (x ≤ 109))))] (fun _ => True) [] ?_ ?_)))))))
 ·
  generalize hc22 : (decide (x ≥ 96)) = b23
  cases b23
  ·
   exact E.sk (E.sk (E.op (.bool false) E.ep))
  exact E.op (E.i x) (E.op (.bool (decide (x ≤ 109))) (E.op (.bool (decide (x ≤ 109))) E.ep))
 refine E.To.code (E.cd ((decide (x ≥ 96)) && (decide (x ≤ 109))) (fun hc24 => ?_) (fun hc24 => ?_))
 ·
  exact E.sr (E.op (E.i 8) (E.To.code (E.C.ret (E.P.rt (E.bd Tryz.f59 [E.i 8] (fun w h => ⟨by unfold R2.Format; rw [hc3, N0, hc6, N0, hc9, N0, hc12, N0, hc15, N0, hc18, N0, hc21, N0, hc24, N1] <;> rfl, h.ch.bel (fun _ h => h.elim)⟩))))))
 refine E.C.skip (E.To.code (E.C.seq (E.sr (E.op (E.i x) (E.op (.bool (x == 112)) (E.op (.bool (x == 112)) (E.G.cut 3 [(0, E.i x), (2, E.i 0), (56, .bool ((x == 112) || (x == 113)))] (fun _ => True) [] ?_ ?_)))))))
 ·
  generalize hc25 : (x == 112) = b26
  cases b26
  ·
   exact E.op (E.i x) (E.op (.bool (x == 113)) (E.op (.bool (x == 113)) E.ep))
  exact E.sk (E.sk (E.op (.bool true) E.ep))
 refine E.To.code (E.cd ((x == 112) || (x == 113)) (fun hc27 => ?_) (fun hc27 => ?_))
 ·
  exact E.sr (E.op (E.i 9) (E.To.code (E.C.ret (E.P.rt (E.bd Tryz.f59 [E.i 9] (fun w h => ⟨by unfold R2.Format; rw [hc3, N0, hc6, N0, hc9, N0, hc12, N0, hc15, N0, hc18, N0, hc21, N0, hc24, N0, hc27, N1] <;> rfl, h.ch.bel (fun _ h => h.elim)⟩))))))
 refine E.C.skip (E.To.code (E.C.seq (E.sr (E.op (E.i x) (E.op (.bool (decide (x ≥ 128))) (E.op (.bool (decide (x ≥ 128))) (E.G.cut 3 [(0, E.i x), (2, E.i 0), (62, .bool ((decide (x ≥ 128)) && (decide (x ≤ 130))))] (fun _ => True) [] ?_ ?_)))))))
 ·
  generalize hc28 : (decide (x ≥ 128)) = b29
  cases b29
  ·
   exact E.sk (E.sk (E.op (.bool false) E.ep))
  exact E.op (E.i x) (E.op (.bool (decide (x ≤ 130))) (E.op (.bool (decide (x ≤ 130))) E.ep))
 refine E.To.code (E.cd ((decide (x ≥ 128)) && (decide (x ≤ 130))) (fun hc30 => ?_) (fun hc30 => ?_))
 ·
  exact E.sr (E.op (E.i x) (E.op (E.i (IntKind.wrap .i64 (x - 128))) (E.op (E.i (Zizga x)) (E.op (E.i (Zizga x)) (E.To.code (E.C.ret (E.P.rt (E.bd Tryz.f59 [E.i (Zizga x)] (fun w h => ⟨by unfold R2.Format; rw [hc3, N0, hc6, N0, hc9, N0, hc12, N0, hc15, N0, hc18, N0, hc21, N0, hc24, N0, hc27, N0, hc30, N1] <;> rfl, h.ch.bel (fun _ h => h.elim)⟩)))))))))
 exact E.C.skip (E.To.code (E.sr (E.op (E.i 0) (E.To.code (E.C.ret (E.bd Tryz.f59 [E.i 0] (fun w h => ⟨by unfold R2.Format; rw [hc3, N0, hc6, N0, hc9, N0, hc12, N0, hc15, N0, hc18, N0, hc21, N0, hc24, N0, hc27, N0, hc30, N0] <;> rfl, h.ch.bel (fun _ h => h.elim)⟩)))))))

theorem E.bif_all {p : Int → Prop} {c : Bool} {a b : Int} (ha : c = true → p a) (hb : c = false → p b) : p (bif c then a else b) := by cases c <;> simp_all
theorem R2.Format_bd (x : Int) : 0 ≤ R2.Format x ∧ R2.Format x ≤ 12 := by
  unfold R2.Format
  repeat (refine E.bif_all (p := fun y => 0 ≤ y ∧ y ≤ 12) (fun _ => by decide) (fun _ => ?_))
  refine E.bif_all (p := fun y => 0 ≤ y ∧ y ≤ 12) (fun h => ?_) (fun _ => by decide)
  have h1 : x = 128 ∨ x = 129 ∨ x = 130 := by simp at h; omega
  rcases h1 with rfl | rfl | rfl <;> decide

def R2.Size (x : Int) : Int := ([0, 1, 2, 2, 3, 6, 3, 7, 2, 5, 2, 2, 2].getD (0 + ((R2.Format (IntKind.wrap .i64 x))).toNat * 1) 0)
theorem R2_Size (x : Int) (w : World) : Calls Tryz.prog 71 #[.int .u8 x] w fun e w' => e = .returned (.int .i64 (R2.Size x)) ∧ Bel w w' := by
 have hb := R2.Format_bd (IntKind.wrap .i64 x)
 refine E.enter (n := 10) (S := fun _ => False) Tryz.func71 rfl rfl Nz.k (E.Hp.start w) (E.sr (E.op (E.i 0) (E.tr (E.vl (.agg #[E.i 0, E.i 1, E.i 2, E.i 2, E.i 3, E.i 6, E.i 3, E.i 7, E.i 2, E.i 5, E.i 2, E.i 2, E.i 2]) (fun w h => E.run_build #[E.i 0, E.i 1, E.i 2, E.i 2, E.i 3, E.i 6, E.i 3, E.i 7, E.i 2, E.i 5, E.i 2, E.i 2, E.i 2] Nz.k w) (E.nw [E.i 0, E.i 0, E.i 0, E.i 0, E.i 0, E.i 0, E.i 0, E.i 0, E.i 0, E.i 0, E.i 0, E.i 0, E.i 0] 169 (fun g1 => E.st 0 [E.i 0, E.i 1, E.i 2, E.i 2, E.i 3, E.i 6, E.i 3, E.i 7, E.i 2, E.i 5, E.i 2, E.i 2, E.i 2] rfl rfl (E.tr (E.op (.int .u8 x) (E.op (E.i (IntKind.wrap .i64 x)) (E.ca (E.i (R2.Format (IntKind.wrap .i64 x))) (fun w h => R2_Format _ w) (E.vl (.pointer (some ⟨g1, 0 + ((R2.Format (IntKind.wrap .i64 x))).toNat * 1, none⟩)) (fun w h => E.idxA (e := 3) g1 0 13 1 .i64 ((R2.Format (IntKind.wrap .i64 x))) Nz.k Nz.k Nz.k Nz.k (by omega) (by omega) w) ?_)))))))))))
 exact E.vl (E.i ([0, 1, 2, 2, 3, 6, 3, 7, 2, 5, 2, 2, 2].getD (0 + ((R2.Format (IntKind.wrap .i64 x))).toNat * 1) 0)) (fun w h => E.run_load h 0 rfl rfl (E.ld_row (xs := [0, 1, 2, 2, 3, 6, 3, 7, 2, 5, 2, 2, 2]) Nz.k (by simp only [List.length_cons, List.length_nil]; omega))) (E.op (E.i ([0, 1, 2, 2, 3, 6, 3, 7, 2, 5, 2, 2, 2].getD (0 + ((R2.Format (IntKind.wrap .i64 x))).toNat * 1) 0)) (E.To.code (E.wk [(2, E.i ([0, 1, 2, 2, 3, 6, 3, 7, 2, 5, 2, 2, 2].getD (0 + ((R2.Format (IntKind.wrap .i64 x))).toNat * 1) 0))] [] Nz.sub (E.C.ret (E.bd Tryz.f71 [E.i ([0, 1, 2, 2, 3, 6, 3, 7, 2, 5, 2, 2, 2].getD (0 + ((R2.Format (IntKind.wrap .i64 x))).toNat * 1) 0)] (fun w h => ⟨rfl, h.ch.bel (fun _ h => h.elim)⟩))))))

def R2.extend (x : Int) : Int := (bif (decide (x ≥ 128)) then (IntKind.wrap .u32 ((IntKind.wrap .u32 x) + 4294967040)) else (IntKind.wrap .u32 x))
theorem R2_extend (x : Int) (w : World) : Calls Tryz.prog 72 #[.int .u8 x] w fun e w' => e = .returned (.int .u32 (R2.extend x)) ∧ Bel w w' := by
 refine E.enter (n := 10) (S := fun _ => False) Tryz.func72 rfl rfl Nz.k (E.Hp.start w) (E.sr (E.op (E.u 0) (E.To.code (E.C.seq (E.sr (E.op (.int .u8 x) (E.op (.bool (decide (x ≥ 128))) (E.To.code (E.cd (decide (x ≥ 128)) (fun hc1 => ?_) (fun hc1 => ?_))))))))))
 ·
  exact E.sr (E.op (.int .u8 x) (E.op (E.u (IntKind.wrap .u32 x)) (E.op (E.u (IntKind.wrap .u32 ((IntKind.wrap .u32 x) + 4294967040))) (E.op (E.u (IntKind.wrap .u32 ((IntKind.wrap .u32 x) + 4294967040))) (E.To.code (E.C.ret (E.P.rt (E.bd Tryz.f72 [E.u (IntKind.wrap .u32 ((IntKind.wrap .u32 x) + 4294967040))] (fun w h => ⟨by unfold R2.extend; rw [hc1, N1] <;> rfl, h.ch.bel (fun _ h => h.elim)⟩)))))))))
 exact E.C.skip (E.To.code (E.sr (E.op (.int .u8 x) (E.op (E.u (IntKind.wrap .u32 x)) (E.op (E.u (IntKind.wrap .u32 x)) (E.To.code (E.C.ret (E.bd Tryz.f72 [E.u (IntKind.wrap .u32 x)] (fun w h => ⟨by unfold R2.extend; rw [hc1, N0] <;> rfl, h.ch.bel (fun _ h => h.elim)⟩)))))))))

def R2.long (s : ByteArray) : Int := (IntKind.wrap .u32 ((IntKind.wrap .u32 ((IntKind.wrap .u32 ((IntKind.wrap .u32 (W.byt s.data.toList 0)) + (IntKind.wrap .u32 (256 * (IntKind.wrap .u32 (W.byt s.data.toList 1)))))) + (IntKind.wrap .u32 (65536 * (IntKind.wrap .u32 (W.byt s.data.toList 2)))))) + (IntKind.wrap .u32 (16777216 * (IntKind.wrap .u32 (W.byt s.data.toList 3))))))
def R2.Valid (i : K.Ins) : Bool := (bif (((R2.Format i.op) == 0) || (i.sz != (R2.Size (IntKind.wrap .u8 i.op)))) then false else ((((bif (((((R2.Format i.op) == 1) || ((R2.Format i.op) == 8)) || ((R2.Format i.op) == 9)) || ((R2.Format i.op) == 10)) then (i.d == 0) else (R2.reg i.d)) && (bif ((R2.Format i.op) == 12) then ((decide (i.s ≥ 0)) && (decide (i.s ≤ 4))) else (bif ((R2.Format i.op) == 11) then ((decide (i.s ≥ 0)) && (decide (i.s ≤ 3))) else (bif ((((R2.Format i.op) != 3) && ((R2.Format i.op) != 6)) && ((R2.Format i.op) != 7)) then (i.s == 0) else (R2.reg i.s))))) && (bif (((R2.Format i.op) == 7) && (i.ix != (-1))) then (((R2.reg i.ix) && (decide (i.sc ≥ 0))) && (decide (i.sc ≤ 3))) else ((i.ix == (-1)) && (i.sc == 0)))) && (bif ((R2.Format i.op) == 10) then (decide (i.imm < 256)) else (((((R2.Format i.op) == 5) || ((R2.Format i.op) == 7)) || ((R2.Format i.op) == 9)) || (bif ((((R2.Format i.op) == 4) || ((R2.Format i.op) == 6)) || ((R2.Format i.op) == 8)) then (R2.signed i.imm) else (i.imm == 0))))))
abbrev Zti6e (i : K.Ins) : List Value := [E.i i.op, E.i i.d, E.i i.s, E.i i.ix, E.i i.sc, E.u i.imm, E.i i.sz]
abbrev Zti6f (i : K.Ins) := bif ((((R2.Format i.op) == 4) || ((R2.Format i.op) == 6)) || ((R2.Format i.op) == 8)) then (R2.signed i.imm) else (i.imm == 0)
abbrev Zti6g (i : K.Ins) := bif ((((R2.Format i.op) != 3) && ((R2.Format i.op) != 6)) && ((R2.Format i.op) != 7)) then (i.s == 0) else (R2.reg i.s)
abbrev Zti6a (i : K.Ins) := bif ((R2.Format i.op) == 12) then ((decide (i.s ≥ 0)) && (decide (i.s ≤ 4))) else (bif ((R2.Format i.op) == 11) then ((decide (i.s ≥ 0)) && (decide (i.s ≤ 3))) else (Zti6g i))
abbrev Zti6h (i : K.Ins) := (R2.Format i.op) == 10
abbrev Zti6i (i : K.Ins) := (i.ix == (-1)) && (i.sc == 0)
abbrev Zti6b (i : K.Ins) := bif (((R2.Format i.op) == 7) && (i.ix != (-1))) then (((R2.reg i.ix) && (decide (i.sc ≥ 0))) && (decide (i.sc ≤ 3))) else (Zti6i i)
abbrev Zti6j (i : K.Ins) := ((R2.Format i.op) == 1) || ((R2.Format i.op) == 8)
abbrev Zti6c (i : K.Ins) := (Zti6j i) || ((R2.Format i.op) == 9)
abbrev Zti6k (i : K.Ins) := ((R2.Format i.op) == 5) || ((R2.Format i.op) == 7)
abbrev Zti6d (i : K.Ins) := bif (Zti6h i) then (decide (i.imm < 256)) else (((Zti6k i) || ((R2.Format i.op) == 9)) || (Zti6f i))
set_option maxHeartbeats 1000000 in
theorem R2_Valid (i : K.Ins) (w : World) : Calls Tryz.prog 69 #[.agg #[.int .i64 i.op, .int .i64 i.d, .int .i64 i.s, .int .i64 i.ix, .int .i64 i.sc, .int .u32 i.imm, .int .i64 i.sz]] w fun e w' => e = .returned (.bool (R2.Valid i)) ∧ Bel w w' := by
 refine E.enter (n := 147) (S := fun _ => False) Tryz.func69 rfl rfl Nz.k (E.Hp.start w) (E.sr (E.nw (Zti6e i) 66 (fun g1 => E.op (.bool false) (E.tr (E.op (E.pt g1) (E.li (E.i i.op) 0 rfl rfl (E.ca (E.i (R2.Format i.op)) (fun w h => R2_Format _ w) (E.op (E.i (R2.Format i.op)) (E.To.code (E.C.seq (E.C.seq ?_)))))))))))
 refine E.C.quiet Nz.k Nz.k (E.wo (E.i (R2.Format i.op)) (E.wo (.bool ((R2.Format i.op) == 0)) (E.wo (.bool ((R2.Format i.op) == 0)) (E.W.cut 8 [(1, E.pt g1), (2, .bool false), (3, E.i (R2.Format i.op)), (21, .bool (((R2.Format i.op) == 0) || (i.sz != (R2.Size (IntKind.wrap .u8 i.op)))))] ?_ ?_))))
 ·
  generalize hc2 : ((R2.Format i.op) == 0) = b3
  cases b3
  ·
   exact E.wo (E.pj g1 6) (E.wv (E.i i.sz) (fun w h => E.run_load h 0 rfl rfl Nz.k) (E.wo (E.pt g1) (E.wv (E.i i.op) (fun w h => E.run_load h 0 rfl rfl Nz.k) (E.wo (.int .u8 (IntKind.wrap .u8 i.op)) (E.W.call (E.i (R2.Size (IntKind.wrap .u8 i.op))) (fun w h => R2_Size _ w) (fun w _ => Nz.k) Nz.k (E.wo (.bool (i.sz != (R2.Size (IntKind.wrap .u8 i.op)))) (E.wo (.bool (i.sz != (R2.Size (IntKind.wrap .u8 i.op)))) (E.W.end_cut ⟨Nz.k, Nz.k⟩))))))))
  exact E.ws (E.ws (E.ws (E.ws (E.ws (E.ws (E.ws (E.wo (.bool true) (E.W.end_cut ⟨Nz.k, Nz.k⟩))))))))
 refine E.W.done (E.To.code (E.cd (((R2.Format i.op) == 0) || (i.sz != (R2.Size (IntKind.wrap .u8 i.op)))) (fun hc4 => ?_) (fun hc4 => ?_)))
 ·
  exact E.sr (E.op (.bool false) (E.To.code (E.C.ret (E.P.rt (E.bd Tryz.f69 [.bool false] (fun w h => ⟨by unfold R2.Valid; rw [hc4, N1] <;> rfl, h.ch.bel (fun _ h => h.elim)⟩))))))
 refine E.C.skip (E.To.code (E.sr (E.op (E.pj g1 1) (E.li (E.i i.d) 0 rfl rfl (E.ca (.bool (R2.reg i.d)) (fun w h => R2_reg _ w) (E.op (.bool (R2.reg i.d)) (E.tr (E.op (E.pj g1 2) (E.li (E.i i.s) 0 rfl rfl (E.ca (.bool (R2.reg i.s)) (fun w h => R2_reg _ w) (E.op (.bool (R2.reg i.s)) (E.To.code ?_))))))))))))
 refine E.C.seq (E.sr (E.op (E.i (R2.Format i.op)) (E.op (.bool ((R2.Format i.op) == 1)) (E.op (.bool ((R2.Format i.op) == 1)) (E.G.cut 3 [(1, E.pt g1), (2, .bool false), (3, E.i (R2.Format i.op)), (4, .bool (R2.reg i.d)), (5, .bool (R2.reg i.s)), (33, .bool (((R2.Format i.op) == 1) || ((R2.Format i.op) == 8)))] (fun _ => True) [(g1, (Zti6e i))] ?_ ?_)))))
 ·
  generalize hc5 : ((R2.Format i.op) == 1) = b6
  cases b6
  ·
   exact E.op (E.i (R2.Format i.op)) (E.op (.bool ((R2.Format i.op) == 8)) (E.op (.bool ((R2.Format i.op) == 8)) E.ep))
  exact E.sk (E.sk (E.op (.bool true) E.ep))
 refine E.op (.bool (((R2.Format i.op) == 1) || ((R2.Format i.op) == 8))) (E.G.cut 3 [(1, E.pt g1), (2, .bool false), (3, E.i (R2.Format i.op)), (4, .bool (R2.reg i.d)), (5, .bool (R2.reg i.s)), (37, .bool ((((R2.Format i.op) == 1) || ((R2.Format i.op) == 8)) || ((R2.Format i.op) == 9)))] (fun _ => True) [(g1, (Zti6e i))] ?_ ?_)
 ·
  generalize hc7 : (((R2.Format i.op) == 1) || ((R2.Format i.op) == 8)) = b8
  cases b8
  ·
   exact E.op (E.i (R2.Format i.op)) (E.op (.bool ((R2.Format i.op) == 9)) (E.op (.bool ((R2.Format i.op) == 9)) E.ep))
  exact E.sk (E.sk (E.op (.bool true) E.ep))
 refine E.op (.bool ((Zti6j i) || ((R2.Format i.op) == 9))) (E.G.cut 3 [(1, E.pt g1), (2, .bool false), (3, E.i (R2.Format i.op)), (4, .bool (R2.reg i.d)), (5, .bool (R2.reg i.s)), (41, .bool (((Zti6j i) || ((R2.Format i.op) == 9)) || ((R2.Format i.op) == 10)))] (fun _ => True) [(g1, (Zti6e i))] ?_ ?_)
 ·
  generalize hc9 : ((((R2.Format i.op) == 1) || ((R2.Format i.op) == 8)) || ((R2.Format i.op) == 9)) = b10
  cases b10
  ·
   exact E.op (E.i (R2.Format i.op)) (E.op (.bool ((R2.Format i.op) == 10)) (E.op (.bool ((R2.Format i.op) == 10)) E.ep))
  exact E.sk (E.sk (E.op (.bool true) E.ep))
 refine E.To.code (E.C.thencut [(1, E.pt g1), (2, .bool false), (3, E.i (R2.Format i.op)), (4, .bool (bif ((Zti6c i) || ((R2.Format i.op) == 10)) then (i.d == 0) else (R2.reg i.d))), (5, .bool (R2.reg i.s))] (fun _ => True) [(g1, (Zti6e i))] ?_ ?_)
 ·
  generalize hc11 : (((((R2.Format i.op) == 1) || ((R2.Format i.op) == 8)) || ((R2.Format i.op) == 9)) || ((R2.Format i.op) == 10)) = b12
  cases b12
  ·
   exact E.C.condF Nz.k Nz.k (E.C.skip (E.To.pst ⟨Nz.k, Nz.k⟩ Nz.sub (fun _ h => h)))
  exact E.C.condT Nz.k Nz.k (E.C.region (E.op (E.pj g1 1) (E.li (E.i i.d) 0 rfl rfl (E.op (.bool (i.d == 0)) (E.op (.bool (i.d == 0)) (E.To.pst ⟨Nz.k, Nz.k⟩ Nz.sub (fun _ h => h)))))))
 refine E.C.seq (E.sr (E.op (E.i (R2.Format i.op)) (E.op (.bool ((R2.Format i.op) != 3)) (E.op (.bool ((R2.Format i.op) != 3)) (E.G.cut 3 [(1, E.pt g1), (2, .bool false), (3, E.i (R2.Format i.op)), (4, .bool (bif ((Zti6c i) || ((R2.Format i.op) == 10)) then (i.d == 0) else (R2.reg i.d))), (5, .bool (R2.reg i.s)), (50, .bool (((R2.Format i.op) != 3) && ((R2.Format i.op) != 6)))] (fun _ => True) [(g1, (Zti6e i))] ?_ ?_)))))
 ·
  generalize hc13 : ((R2.Format i.op) != 3) = b14
  cases b14
  ·
   exact E.sk (E.sk (E.op (.bool false) E.ep))
  exact E.op (E.i (R2.Format i.op)) (E.op (.bool ((R2.Format i.op) != 6)) (E.op (.bool ((R2.Format i.op) != 6)) E.ep))
 refine E.op (.bool (((R2.Format i.op) != 3) && ((R2.Format i.op) != 6))) (E.G.cut 3 [(1, E.pt g1), (2, .bool false), (3, E.i (R2.Format i.op)), (4, .bool (bif ((Zti6c i) || ((R2.Format i.op) == 10)) then (i.d == 0) else (R2.reg i.d))), (5, .bool (R2.reg i.s)), (54, .bool ((((R2.Format i.op) != 3) && ((R2.Format i.op) != 6)) && ((R2.Format i.op) != 7)))] (fun _ => True) [(g1, (Zti6e i))] ?_ ?_)
 ·
  generalize hc15 : (((R2.Format i.op) != 3) && ((R2.Format i.op) != 6)) = b16
  cases b16
  ·
   exact E.sk (E.sk (E.op (.bool false) E.ep))
  exact E.op (E.i (R2.Format i.op)) (E.op (.bool ((R2.Format i.op) != 7)) (E.op (.bool ((R2.Format i.op) != 7)) E.ep))
 refine E.To.code (E.C.thencut [(1, E.pt g1), (2, .bool false), (3, E.i (R2.Format i.op)), (4, .bool (bif ((Zti6c i) || ((R2.Format i.op) == 10)) then (i.d == 0) else (R2.reg i.d))), (5, .bool (bif ((((R2.Format i.op) != 3) && ((R2.Format i.op) != 6)) && ((R2.Format i.op) != 7)) then (i.s == 0) else (R2.reg i.s)))] (fun _ => True) [(g1, (Zti6e i))] ?_ ?_)
 ·
  generalize hc17 : ((((R2.Format i.op) != 3) && ((R2.Format i.op) != 6)) && ((R2.Format i.op) != 7)) = b18
  cases b18
  ·
   exact E.C.condF Nz.k Nz.k (E.C.skip (E.To.pst ⟨Nz.k, Nz.k⟩ Nz.sub (fun _ h => h)))
  exact E.C.condT Nz.k Nz.k (E.C.region (E.op (E.pj g1 2) (E.li (E.i i.s) 0 rfl rfl (E.op (.bool (i.s == 0)) (E.op (.bool (i.s == 0)) (E.To.pst ⟨Nz.k, Nz.k⟩ Nz.sub (fun _ h => h)))))))
 refine E.C.seq (E.sr (E.op (E.i (R2.Format i.op)) (E.op (.bool ((R2.Format i.op) == 11)) (E.To.code (E.C.thencut [(1, E.pt g1), (2, .bool false), (3, E.i (R2.Format i.op)), (4, .bool (bif ((Zti6c i) || ((R2.Format i.op) == 10)) then (i.d == 0) else (R2.reg i.d))), (5, .bool (bif ((R2.Format i.op) == 11) then ((decide (i.s ≥ 0)) && (decide (i.s ≤ 3))) else (Zti6g i)))] (fun _ => True) [(g1, (Zti6e i))] ?_ ?_)))))
 ·
  generalize hc19 : ((R2.Format i.op) == 11) = b20
  cases b20
  ·
   exact E.C.condF Nz.k Nz.k (E.C.skip (E.To.pst ⟨Nz.k, Nz.k⟩ Nz.sub (fun _ h => h)))
  refine E.C.condT Nz.k Nz.k (E.C.region (E.op (E.pj g1 2) (E.li (E.i i.s) 0 rfl rfl (E.op (.bool (decide (i.s ≥ 0))) (E.op (.bool (decide (i.s ≥ 0))) (E.G.cut 4 [(1, E.pt g1), (2, .bool false), (3, E.i (R2.Format i.op)), (4, .bool (bif ((Zti6c i) || ((R2.Format i.op) == 10)) then (i.d == 0) else (R2.reg i.d))), (5, .bool (Zti6g i)), (67, .bool ((decide (i.s ≥ 0)) && (decide (i.s ≤ 3))))] (fun _ => True) [(g1, (Zti6e i))] ?_ ?_))))))
  ·
   generalize hc21 : (decide (i.s ≥ 0)) = b22
   cases b22
   ·
    exact E.sk (E.sk (E.sk (E.op (.bool false) E.ep)))
   exact E.op (E.pj g1 2) (E.li (E.i i.s) 0 rfl rfl (E.op (.bool (decide (i.s ≤ 3))) (E.op (.bool (decide (i.s ≤ 3))) E.ep)))
  exact E.op (.bool ((decide (i.s ≥ 0)) && (decide (i.s ≤ 3)))) (E.To.pst ⟨Nz.k, Nz.k⟩ Nz.sub (fun _ h => h))
 refine E.C.seq (E.sr (E.op (E.i (R2.Format i.op)) (E.op (.bool ((R2.Format i.op) == 12)) (E.To.code (E.C.thencut [(1, E.pt g1), (2, .bool false), (3, E.i (R2.Format i.op)), (4, .bool (bif ((Zti6c i) || ((R2.Format i.op) == 10)) then (i.d == 0) else (R2.reg i.d))), (5, .bool (bif ((R2.Format i.op) == 12) then ((decide (i.s ≥ 0)) && (decide (i.s ≤ 4))) else (bif ((R2.Format i.op) == 11) then ((decide (i.s ≥ 0)) && (decide (i.s ≤ 3))) else (Zti6g i))))] (fun _ => True) [(g1, (Zti6e i))] ?_ ?_)))))
 ·
  generalize hc23 : ((R2.Format i.op) == 12) = b24
  cases b24
  ·
   exact E.C.condF Nz.k Nz.k (E.C.skip (E.To.pst ⟨Nz.k, Nz.k⟩ Nz.sub (fun _ h => h)))
  refine E.C.condT Nz.k Nz.k (E.C.region (E.op (E.pj g1 2) (E.li (E.i i.s) 0 rfl rfl (E.op (.bool (decide (i.s ≥ 0))) (E.op (.bool (decide (i.s ≥ 0))) (E.G.cut 4 [(1, E.pt g1), (2, .bool false), (3, E.i (R2.Format i.op)), (4, .bool (bif ((Zti6c i) || ((R2.Format i.op) == 10)) then (i.d == 0) else (R2.reg i.d))), (5, .bool (bif ((R2.Format i.op) == 11) then ((decide (i.s ≥ 0)) && (decide (i.s ≤ 3))) else (Zti6g i))), (77, .bool ((decide (i.s ≥ 0)) && (decide (i.s ≤ 4))))] (fun _ => True) [(g1, (Zti6e i))] ?_ ?_))))))
  ·
   generalize hc25 : (decide (i.s ≥ 0)) = b26
   cases b26
   ·
    exact E.sk (E.sk (E.sk (E.op (.bool false) E.ep)))
   exact E.op (E.pj g1 2) (E.li (E.i i.s) 0 rfl rfl (E.op (.bool (decide (i.s ≤ 4))) (E.op (.bool (decide (i.s ≤ 4))) E.ep)))
  exact E.op (.bool ((decide (i.s ≥ 0)) && (decide (i.s ≤ 4)))) (E.To.pst ⟨Nz.k, Nz.k⟩ Nz.sub (fun _ h => h))
 refine E.sr (E.op (E.pj g1 3) (E.li (E.i i.ix) 0 rfl rfl (E.op (.bool (i.ix == (-1))) (E.op (.bool (i.ix == (-1))) (E.G.cut 4 [(1, E.pt g1), (2, .bool false), (3, E.i (R2.Format i.op)), (4, .bool (bif ((Zti6c i) || ((R2.Format i.op) == 10)) then (i.d == 0) else (R2.reg i.d))), (5, .bool (Zti6a i)), (85, .bool ((i.ix == (-1)) && (i.sc == 0)))] (fun _ => True) [(g1, (Zti6e i))] ?_ ?_)))))
 ·
  generalize hc27 : (i.ix == (-1)) = b28
  cases b28
  ·
   exact E.sk (E.sk (E.sk (E.op (.bool false) E.ep)))
  exact E.op (E.pj g1 4) (E.li (E.i i.sc) 0 rfl rfl (E.op (.bool (i.sc == 0)) (E.op (.bool (i.sc == 0)) E.ep)))
 refine E.op (.bool (Zti6i i)) (E.To.code (E.C.seq (E.sr (E.op (E.i (R2.Format i.op)) (E.op (.bool ((R2.Format i.op) == 7)) (E.op (.bool ((R2.Format i.op) == 7)) (E.G.cut 4 [(1, E.pt g1), (2, .bool false), (3, E.i (R2.Format i.op)), (4, .bool (bif ((Zti6c i) || ((R2.Format i.op) == 10)) then (i.d == 0) else (R2.reg i.d))), (5, .bool (Zti6a i)), (6, .bool (Zti6i i)), (92, .bool (((R2.Format i.op) == 7) && (i.ix != (-1))))] (fun _ => True) [(g1, (Zti6e i))] ?_ ?_)))))))
 ·
  generalize hc29 : ((R2.Format i.op) == 7) = b30
  cases b30
  ·
   exact E.sk (E.sk (E.sk (E.op (.bool false) E.ep)))
  exact E.op (E.pj g1 3) (E.li (E.i i.ix) 0 rfl rfl (E.op (.bool (i.ix != (-1))) (E.op (.bool (i.ix != (-1))) E.ep)))
 refine E.To.code (E.C.thencut [(1, E.pt g1), (2, .bool false), (3, E.i (R2.Format i.op)), (4, .bool (bif ((Zti6c i) || ((R2.Format i.op) == 10)) then (i.d == 0) else (R2.reg i.d))), (5, .bool (Zti6a i)), (6, .bool (bif (((R2.Format i.op) == 7) && (i.ix != (-1))) then (((R2.reg i.ix) && (decide (i.sc ≥ 0))) && (decide (i.sc ≤ 3))) else (Zti6i i)))] (fun _ => True) [(g1, (Zti6e i))] ?_ ?_)
 ·
  generalize hc31 : (((R2.Format i.op) == 7) && (i.ix != (-1))) = b32
  cases b32
  ·
   exact E.C.condF Nz.k Nz.k (E.C.skip (E.To.pst ⟨Nz.k, Nz.k⟩ Nz.sub (fun _ h => h)))
  refine E.C.condT Nz.k Nz.k (E.C.region (E.op (E.pj g1 3) (E.li (E.i i.ix) 0 rfl rfl (E.ca (.bool (R2.reg i.ix)) (fun w h => R2_reg _ w) (E.op (.bool (R2.reg i.ix)) (E.G.cut 4 [(1, E.pt g1), (2, .bool false), (3, E.i (R2.Format i.op)), (4, .bool (bif ((Zti6c i) || ((R2.Format i.op) == 10)) then (i.d == 0) else (R2.reg i.d))), (5, .bool (Zti6a i)), (6, .bool (Zti6i i)), (100, .bool ((R2.reg i.ix) && (decide (i.sc ≥ 0))))] (fun _ => True) [(g1, (Zti6e i))] ?_ ?_))))))
  ·
   generalize hc33 : (R2.reg i.ix) = b34
   cases b34
   ·
    exact E.sk (E.sk (E.sk (E.op (.bool false) E.ep)))
   exact E.op (E.pj g1 4) (E.li (E.i i.sc) 0 rfl rfl (E.op (.bool (decide (i.sc ≥ 0))) (E.op (.bool (decide (i.sc ≥ 0))) E.ep)))
  refine E.op (.bool ((R2.reg i.ix) && (decide (i.sc ≥ 0)))) (E.G.cut 4 [(1, E.pt g1), (2, .bool false), (3, E.i (R2.Format i.op)), (4, .bool (bif ((Zti6c i) || ((R2.Format i.op) == 10)) then (i.d == 0) else (R2.reg i.d))), (5, .bool (Zti6a i)), (6, .bool (Zti6i i)), (105, .bool (((R2.reg i.ix) && (decide (i.sc ≥ 0))) && (decide (i.sc ≤ 3))))] (fun _ => True) [(g1, (Zti6e i))] ?_ ?_)
  ·
   generalize hc35 : ((R2.reg i.ix) && (decide (i.sc ≥ 0))) = b36
   cases b36
   ·
    exact E.sk (E.sk (E.sk (E.op (.bool false) E.ep)))
   exact E.op (E.pj g1 4) (E.li (E.i i.sc) 0 rfl rfl (E.op (.bool (decide (i.sc ≤ 3))) (E.op (.bool (decide (i.sc ≤ 3))) E.ep)))
  exact E.op (.bool (((R2.reg i.ix) && (decide (i.sc ≥ 0))) && (decide (i.sc ≤ 3)))) (E.To.pst ⟨Nz.k, Nz.k⟩ Nz.sub (fun _ h => h))
 refine E.sr (E.op (E.pj g1 5) (E.li (E.u i.imm) 0 rfl rfl (E.op (.bool (i.imm == 0)) (E.op (.bool (i.imm == 0)) (E.To.code (E.C.seq (E.sr (E.op (E.i (R2.Format i.op)) (E.op (.bool ((R2.Format i.op) == 4)) (E.op (.bool ((R2.Format i.op) == 4)) (E.G.cut 3 [(1, E.pt g1), (2, .bool false), (3, E.i (R2.Format i.op)), (4, .bool (bif ((Zti6c i) || ((R2.Format i.op) == 10)) then (i.d == 0) else (R2.reg i.d))), (5, .bool (Zti6a i)), (6, .bool (Zti6b i)), (7, .bool (i.imm == 0)), (114, .bool (((R2.Format i.op) == 4) || ((R2.Format i.op) == 6)))] (fun _ => True) [(g1, (Zti6e i))] ?_ ?_)))))))))))
 ·
  generalize hc37 : ((R2.Format i.op) == 4) = b38
  cases b38
  ·
   exact E.op (E.i (R2.Format i.op)) (E.op (.bool ((R2.Format i.op) == 6)) (E.op (.bool ((R2.Format i.op) == 6)) E.ep))
  exact E.sk (E.sk (E.op (.bool true) E.ep))
 refine E.op (.bool (((R2.Format i.op) == 4) || ((R2.Format i.op) == 6))) (E.G.cut 3 [(1, E.pt g1), (2, .bool false), (3, E.i (R2.Format i.op)), (4, .bool (bif ((Zti6c i) || ((R2.Format i.op) == 10)) then (i.d == 0) else (R2.reg i.d))), (5, .bool (Zti6a i)), (6, .bool (Zti6b i)), (7, .bool (i.imm == 0)), (118, .bool ((((R2.Format i.op) == 4) || ((R2.Format i.op) == 6)) || ((R2.Format i.op) == 8)))] (fun _ => True) [(g1, (Zti6e i))] ?_ ?_)
 ·
  generalize hc39 : (((R2.Format i.op) == 4) || ((R2.Format i.op) == 6)) = b40
  cases b40
  ·
   exact E.op (E.i (R2.Format i.op)) (E.op (.bool ((R2.Format i.op) == 8)) (E.op (.bool ((R2.Format i.op) == 8)) E.ep))
  exact E.sk (E.sk (E.op (.bool true) E.ep))
 refine E.To.code (E.C.thencut [(1, E.pt g1), (2, .bool false), (3, E.i (R2.Format i.op)), (4, .bool (bif ((Zti6c i) || ((R2.Format i.op) == 10)) then (i.d == 0) else (R2.reg i.d))), (5, .bool (Zti6a i)), (6, .bool (Zti6b i)), (7, .bool (bif ((((R2.Format i.op) == 4) || ((R2.Format i.op) == 6)) || ((R2.Format i.op) == 8)) then (R2.signed i.imm) else (i.imm == 0)))] (fun _ => True) [(g1, (Zti6e i))] ?_ ?_)
 ·
  generalize hc41 : ((((R2.Format i.op) == 4) || ((R2.Format i.op) == 6)) || ((R2.Format i.op) == 8)) = b42
  cases b42
  ·
   exact E.C.condF Nz.k Nz.k (E.C.skip (E.To.pst ⟨Nz.k, Nz.k⟩ Nz.sub (fun _ h => h)))
  exact E.C.condT Nz.k Nz.k (E.C.region (E.op (E.pj g1 5) (E.li (E.u i.imm) 0 rfl rfl (E.ca (.bool (R2.signed i.imm)) (fun w h => R2_signed _ w) (E.op (.bool (R2.signed i.imm)) (E.To.pst ⟨Nz.k, Nz.k⟩ Nz.sub (fun _ h => h)))))))
 refine E.C.seq (E.sr (E.op (E.i (R2.Format i.op)) (E.op (.bool ((R2.Format i.op) == 5)) (E.op (.bool ((R2.Format i.op) == 5)) (E.G.cut 3 [(1, E.pt g1), (2, .bool false), (3, E.i (R2.Format i.op)), (4, .bool (bif ((Zti6c i) || ((R2.Format i.op) == 10)) then (i.d == 0) else (R2.reg i.d))), (5, .bool (Zti6a i)), (6, .bool (Zti6b i)), (7, .bool (Zti6f i)), (127, .bool (((R2.Format i.op) == 5) || ((R2.Format i.op) == 7)))] (fun _ => True) [(g1, (Zti6e i))] ?_ ?_)))))
 ·
  generalize hc43 : ((R2.Format i.op) == 5) = b44
  cases b44
  ·
   exact E.op (E.i (R2.Format i.op)) (E.op (.bool ((R2.Format i.op) == 7)) (E.op (.bool ((R2.Format i.op) == 7)) E.ep))
  exact E.sk (E.sk (E.op (.bool true) E.ep))
 refine E.op (.bool (((R2.Format i.op) == 5) || ((R2.Format i.op) == 7))) (E.G.cut 3 [(1, E.pt g1), (2, .bool false), (3, E.i (R2.Format i.op)), (4, .bool (bif ((Zti6c i) || ((R2.Format i.op) == 10)) then (i.d == 0) else (R2.reg i.d))), (5, .bool (Zti6a i)), (6, .bool (Zti6b i)), (7, .bool (Zti6f i)), (131, .bool ((((R2.Format i.op) == 5) || ((R2.Format i.op) == 7)) || ((R2.Format i.op) == 9)))] (fun _ => True) [(g1, (Zti6e i))] ?_ ?_)
 ·
  generalize hc45 : (((R2.Format i.op) == 5) || ((R2.Format i.op) == 7)) = b46
  cases b46
  ·
   exact E.op (E.i (R2.Format i.op)) (E.op (.bool ((R2.Format i.op) == 9)) (E.op (.bool ((R2.Format i.op) == 9)) E.ep))
  exact E.sk (E.sk (E.op (.bool true) E.ep))
 refine E.To.code (E.C.thencut [(1, E.pt g1), (2, .bool false), (3, E.i (R2.Format i.op)), (4, .bool (bif ((Zti6c i) || ((R2.Format i.op) == 10)) then (i.d == 0) else (R2.reg i.d))), (5, .bool (Zti6a i)), (6, .bool (Zti6b i)), (7, .bool (((Zti6k i) || ((R2.Format i.op) == 9)) || (Zti6f i)))] (fun _ => True) [(g1, (Zti6e i))] ?_ ?_)
 ·
  generalize hc47 : ((((R2.Format i.op) == 5) || ((R2.Format i.op) == 7)) || ((R2.Format i.op) == 9)) = b48
  cases b48
  ·
   exact E.C.condF Nz.k Nz.k (E.C.skip (E.To.pst ⟨Nz.k, Nz.k⟩ Nz.sub (fun _ h => h)))
  exact E.C.condT Nz.k Nz.k (E.C.region (E.op (.bool true) (E.To.pst ⟨Nz.k, Nz.k⟩ Nz.sub (fun _ h => h))))
 refine E.C.seq (E.sr (E.op (E.i (R2.Format i.op)) (E.op (.bool ((R2.Format i.op) == 10)) (E.To.code (E.C.thencut [(2, .bool false), (4, .bool (bif ((Zti6c i) || ((R2.Format i.op) == 10)) then (i.d == 0) else (R2.reg i.d))), (5, .bool (Zti6a i)), (6, .bool (Zti6b i)), (7, .bool (bif ((R2.Format i.op) == 10) then (decide (i.imm < 256)) else (((Zti6k i) || ((R2.Format i.op) == 9)) || (Zti6f i))))] (fun _ => True) [(g1, (Zti6e i))] ?_ ?_)))))
 ·
  generalize hc49 : ((R2.Format i.op) == 10) = b50
  cases b50
  ·
   exact E.C.condF Nz.k Nz.k (E.C.skip (E.To.pst ⟨Nz.k, Nz.k⟩ Nz.sub (fun _ h => h)))
  exact E.C.condT Nz.k Nz.k (E.C.region (E.op (E.pj g1 5) (E.li (E.u i.imm) 0 rfl rfl (E.op (.bool (decide (i.imm < 256))) (E.op (.bool (decide (i.imm < 256))) (E.To.pst ⟨Nz.k, Nz.k⟩ Nz.sub (fun _ h => h)))))))
 refine E.sr (E.op (.bool (bif ((Zti6c i) || (Zti6h i)) then (i.d == 0) else (R2.reg i.d))) (E.op (.bool (bif ((Zti6c i) || (Zti6h i)) then (i.d == 0) else (R2.reg i.d))) (E.G.cut 2 [(2, .bool false), (6, .bool (Zti6b i)), (7, .bool (Zti6d i)), (140, .bool ((bif ((Zti6c i) || (Zti6h i)) then (i.d == 0) else (R2.reg i.d)) && (Zti6a i)))] (fun _ => True) [(g1, (Zti6e i))] ?_ ?_)))
 ·
  generalize hc51 : (bif (((((R2.Format i.op) == 1) || ((R2.Format i.op) == 8)) || ((R2.Format i.op) == 9)) || ((R2.Format i.op) == 10)) then (i.d == 0) else (R2.reg i.d)) = b52
  cases b52
  ·
   exact E.sk (E.op (.bool false) E.ep)
  exact E.op (.bool (Zti6a i)) (E.op (.bool (Zti6a i)) E.ep)
 refine E.op (.bool ((bif ((Zti6c i) || (Zti6h i)) then (i.d == 0) else (R2.reg i.d)) && (Zti6a i))) (E.G.cut 2 [(2, .bool false), (7, .bool (Zti6d i)), (143, .bool (((bif ((Zti6c i) || (Zti6h i)) then (i.d == 0) else (R2.reg i.d)) && (Zti6a i)) && (Zti6b i)))] (fun _ => True) [(g1, (Zti6e i))] ?_ ?_)
 ·
  generalize hc53 : ((bif (((((R2.Format i.op) == 1) || ((R2.Format i.op) == 8)) || ((R2.Format i.op) == 9)) || ((R2.Format i.op) == 10)) then (i.d == 0) else (R2.reg i.d)) && (bif ((R2.Format i.op) == 12) then ((decide (i.s ≥ 0)) && (decide (i.s ≤ 4))) else (bif ((R2.Format i.op) == 11) then ((decide (i.s ≥ 0)) && (decide (i.s ≤ 3))) else (bif ((((R2.Format i.op) != 3) && ((R2.Format i.op) != 6)) && ((R2.Format i.op) != 7)) then (i.s == 0) else (R2.reg i.s))))) = b54
  cases b54
  ·
   exact E.sk (E.op (.bool false) E.ep)
  exact E.op (.bool (Zti6b i)) (E.op (.bool (Zti6b i)) E.ep)
 refine E.op (.bool (((bif ((Zti6c i) || (Zti6h i)) then (i.d == 0) else (R2.reg i.d)) && (Zti6a i)) && (Zti6b i))) (E.G.cut 2 [(2, .bool false), (146, .bool ((((bif ((Zti6c i) || (Zti6h i)) then (i.d == 0) else (R2.reg i.d)) && (Zti6a i)) && (Zti6b i)) && (Zti6d i)))] (fun _ => True) [(g1, (Zti6e i))] ?_ ?_)
 ·
  generalize hc55 : (((bif (((((R2.Format i.op) == 1) || ((R2.Format i.op) == 8)) || ((R2.Format i.op) == 9)) || ((R2.Format i.op) == 10)) then (i.d == 0) else (R2.reg i.d)) && (bif ((R2.Format i.op) == 12) then ((decide (i.s ≥ 0)) && (decide (i.s ≤ 4))) else (bif ((R2.Format i.op) == 11) then ((decide (i.s ≥ 0)) && (decide (i.s ≤ 3))) else (bif ((((R2.Format i.op) != 3) && ((R2.Format i.op) != 6)) && ((R2.Format i.op) != 7)) then (i.s == 0) else (R2.reg i.s))))) && (bif (((R2.Format i.op) == 7) && (i.ix != (-1))) then (((R2.reg i.ix) && (decide (i.sc ≥ 0))) && (decide (i.sc ≤ 3))) else ((i.ix == (-1)) && (i.sc == 0)))) = b56
  cases b56
  ·
   exact E.sk (E.op (.bool false) E.ep)
  exact E.op (.bool (Zti6d i)) (E.op (.bool (Zti6d i)) E.ep)
 exact E.op (.bool ((((bif ((Zti6c i) || (Zti6h i)) then (i.d == 0) else (R2.reg i.d)) && (Zti6a i)) && (Zti6b i)) && (Zti6d i))) (E.To.code (E.C.ret (E.bd Tryz.f69 [.bool ((((bif ((Zti6c i) || (Zti6h i)) then (i.d == 0) else (R2.reg i.d)) && (Zti6a i)) && (Zti6b i)) && (Zti6d i))] (fun w h => ⟨by unfold R2.Valid; rw [hc4, N0] <;> rfl, h.ch.bel (fun _ h => h.elim)⟩))))

def R2.read (s : ByteArray) : K.Ins := (bif (((R2.Format (IntKind.wrap .i64 (W.byt s.data.toList 0))) == 4) || ((R2.Format (IntKind.wrap .i64 (W.byt s.data.toList 0))) == 6)) then ⟨(IntKind.wrap .i64 (W.byt s.data.toList 0)), (bif ((((R2.Format (IntKind.wrap .i64 (W.byt s.data.toList 0))) == 2) || ((R2.Format (IntKind.wrap .i64 (W.byt s.data.toList 0))) == 4)) || ((R2.Format (IntKind.wrap .i64 (W.byt s.data.toList 0))) == 5)) then (IntKind.wrap .i64 (W.byt s.data.toList 1)) else (bif (decide (((s.size : Nat) : Int) > 1)) then (IntKind.wrap .i64 (Int.tdiv (IntKind.wrap .i64 (W.byt s.data.toList 1)) 16)) else 0)), (bif ((((R2.Format (IntKind.wrap .i64 (W.byt s.data.toList 0))) == 2) || ((R2.Format (IntKind.wrap .i64 (W.byt s.data.toList 0))) == 4)) || ((R2.Format (IntKind.wrap .i64 (W.byt s.data.toList 0))) == 5)) then 0 else (bif (decide (((s.size : Nat) : Int) > 1)) then (Int.tmod (IntKind.wrap .i64 (W.byt s.data.toList 1)) 16) else 0)), -1, 0, (R2.extend (W.byt s.data.toList 2)), ((s.size : Nat) : Int)⟩ else (bif ((R2.Format (IntKind.wrap .i64 (W.byt s.data.toList 0))) == 5) then ⟨(IntKind.wrap .i64 (W.byt s.data.toList 0)), (bif ((((R2.Format (IntKind.wrap .i64 (W.byt s.data.toList 0))) == 2) || ((R2.Format (IntKind.wrap .i64 (W.byt s.data.toList 0))) == 4)) || ((R2.Format (IntKind.wrap .i64 (W.byt s.data.toList 0))) == 5)) then (IntKind.wrap .i64 (W.byt s.data.toList 1)) else (bif (decide (((s.size : Nat) : Int) > 1)) then (IntKind.wrap .i64 (Int.tdiv (IntKind.wrap .i64 (W.byt s.data.toList 1)) 16)) else 0)), (bif ((((R2.Format (IntKind.wrap .i64 (W.byt s.data.toList 0))) == 2) || ((R2.Format (IntKind.wrap .i64 (W.byt s.data.toList 0))) == 4)) || ((R2.Format (IntKind.wrap .i64 (W.byt s.data.toList 0))) == 5)) then 0 else (bif (decide (((s.size : Nat) : Int) > 1)) then (Int.tmod (IntKind.wrap .i64 (W.byt s.data.toList 1)) 16) else 0)), -1, 0, (R2.long (s.extract 2 s.size)), ((s.size : Nat) : Int)⟩ else (bif ((R2.Format (IntKind.wrap .i64 (W.byt s.data.toList 0))) == 7) then (bif ((W.byt s.data.toList 2) != 8) then ⟨(IntKind.wrap .i64 (W.byt s.data.toList 0)), (bif ((((R2.Format (IntKind.wrap .i64 (W.byt s.data.toList 0))) == 2) || ((R2.Format (IntKind.wrap .i64 (W.byt s.data.toList 0))) == 4)) || ((R2.Format (IntKind.wrap .i64 (W.byt s.data.toList 0))) == 5)) then (IntKind.wrap .i64 (W.byt s.data.toList 1)) else (bif (decide (((s.size : Nat) : Int) > 1)) then (IntKind.wrap .i64 (Int.tdiv (IntKind.wrap .i64 (W.byt s.data.toList 1)) 16)) else 0)), (bif ((((R2.Format (IntKind.wrap .i64 (W.byt s.data.toList 0))) == 2) || ((R2.Format (IntKind.wrap .i64 (W.byt s.data.toList 0))) == 4)) || ((R2.Format (IntKind.wrap .i64 (W.byt s.data.toList 0))) == 5)) then 0 else (bif (decide (((s.size : Nat) : Int) > 1)) then (Int.tmod (IntKind.wrap .i64 (W.byt s.data.toList 1)) 16) else 0)), (Int.tmod (IntKind.wrap .i64 (W.byt s.data.toList 2)) 16), (IntKind.wrap .i64 (Int.tdiv (IntKind.wrap .i64 (W.byt s.data.toList 2)) 16)), (R2.long (s.extract 3 s.size)), ((s.size : Nat) : Int)⟩ else ⟨(IntKind.wrap .i64 (W.byt s.data.toList 0)), (bif ((((R2.Format (IntKind.wrap .i64 (W.byt s.data.toList 0))) == 2) || ((R2.Format (IntKind.wrap .i64 (W.byt s.data.toList 0))) == 4)) || ((R2.Format (IntKind.wrap .i64 (W.byt s.data.toList 0))) == 5)) then (IntKind.wrap .i64 (W.byt s.data.toList 1)) else (bif (decide (((s.size : Nat) : Int) > 1)) then (IntKind.wrap .i64 (Int.tdiv (IntKind.wrap .i64 (W.byt s.data.toList 1)) 16)) else 0)), (bif ((((R2.Format (IntKind.wrap .i64 (W.byt s.data.toList 0))) == 2) || ((R2.Format (IntKind.wrap .i64 (W.byt s.data.toList 0))) == 4)) || ((R2.Format (IntKind.wrap .i64 (W.byt s.data.toList 0))) == 5)) then 0 else (bif (decide (((s.size : Nat) : Int) > 1)) then (Int.tmod (IntKind.wrap .i64 (W.byt s.data.toList 1)) 16) else 0)), -1, 0, (R2.long (s.extract 3 s.size)), ((s.size : Nat) : Int)⟩) else (bif (((R2.Format (IntKind.wrap .i64 (W.byt s.data.toList 0))) == 8) || (((R2.Format (IntKind.wrap .i64 (W.byt s.data.toList 0))) == 10) || ((R2.Format (IntKind.wrap .i64 (W.byt s.data.toList 0))) == 9))) then (bif ((R2.Format (IntKind.wrap .i64 (W.byt s.data.toList 0))) == 9) then ⟨(IntKind.wrap .i64 (W.byt s.data.toList 0)), 0, 0, -1, 0, (R2.long (s.extract 1 s.size)), ((s.size : Nat) : Int)⟩ else ⟨(IntKind.wrap .i64 (W.byt s.data.toList 0)), 0, 0, -1, 0, (bif ((R2.Format (IntKind.wrap .i64 (W.byt s.data.toList 0))) == 8) then (R2.extend (W.byt s.data.toList 1)) else (IntKind.wrap .u32 (W.byt s.data.toList 1))), ((s.size : Nat) : Int)⟩) else ⟨(IntKind.wrap .i64 (W.byt s.data.toList 0)), (bif ((((R2.Format (IntKind.wrap .i64 (W.byt s.data.toList 0))) == 2) || ((R2.Format (IntKind.wrap .i64 (W.byt s.data.toList 0))) == 4)) || ((R2.Format (IntKind.wrap .i64 (W.byt s.data.toList 0))) == 5)) then (IntKind.wrap .i64 (W.byt s.data.toList 1)) else (bif (decide (((s.size : Nat) : Int) > 1)) then (IntKind.wrap .i64 (Int.tdiv (IntKind.wrap .i64 (W.byt s.data.toList 1)) 16)) else 0)), (bif ((((R2.Format (IntKind.wrap .i64 (W.byt s.data.toList 0))) == 2) || ((R2.Format (IntKind.wrap .i64 (W.byt s.data.toList 0))) == 4)) || ((R2.Format (IntKind.wrap .i64 (W.byt s.data.toList 0))) == 5)) then 0 else (bif (decide (((s.size : Nat) : Int) > 1)) then (Int.tmod (IntKind.wrap .i64 (W.byt s.data.toList 1)) 16) else 0)), -1, 0, 0, ((s.size : Nat) : Int)⟩))))
theorem R2_four {S : Nat → Prop} {w0 : World} {X : World → Prop} {L : List (Nat × List Value)} (x : Int)  (w : World) (hh : E.Hp S w0 X L w) : Calls Tryz.prog 70 #[.int .u32 x] w fun e w' => ∃ g, e = .returned (.slice (some ⟨g, 0, none⟩) 4 4) ∧ E.Hp S w0 X ((g, [.int .u8 (IntKind.wrap .u8 x), .int .u8 (IntKind.wrap .u8 (IntKind.wrap .u32 (Int.tdiv x 256))), .int .u8 (IntKind.wrap .u8 (IntKind.wrap .u32 (Int.tdiv x 65536))), .int .u8 (IntKind.wrap .u8 (IntKind.wrap .u32 (Int.tdiv x 16777216)))]) :: L) w' := by
 refine E.enter (n := 15) (S := S) Tryz.func70 rfl rfl Nz.k (hh) (E.sr (E.op (.slice none 0 0) (E.tr (E.op (E.u x) (E.op (.int .u8 (IntKind.wrap .u8 x)) (E.op (E.u x) (E.op (E.u (IntKind.wrap .u32 (Int.tdiv x 256))) (E.op (.int .u8 (IntKind.wrap .u8 (IntKind.wrap .u32 (Int.tdiv x 256)))) (E.op (E.u x) (E.op (E.u (IntKind.wrap .u32 (Int.tdiv x 65536))) (E.op (.int .u8 (IntKind.wrap .u8 (IntKind.wrap .u32 (Int.tdiv x 65536)))) ?_)))))))))))
 exact E.op (E.u x) (E.op (E.u (IntKind.wrap .u32 (Int.tdiv x 16777216))) (E.op (.int .u8 (IntKind.wrap .u8 (IntKind.wrap .u32 (Int.tdiv x 16777216)))) (E.G.buildSlice [.int .u8 (IntKind.wrap .u8 x), .int .u8 (IntKind.wrap .u8 (IntKind.wrap .u32 (Int.tdiv x 256))), .int .u8 (IntKind.wrap .u8 (IntKind.wrap .u32 (Int.tdiv x 65536))), .int .u8 (IntKind.wrap .u8 (IntKind.wrap .u32 (Int.tdiv x 16777216)))] Nz.k Nz.k (fun g1 => E.op (.slice (some ⟨g1, 0, none⟩) 4 4) (E.To.code (E.wk [(2, .slice (some ⟨g1, 0, none⟩) 4 4)] ((g1, [.int .u8 (IntKind.wrap .u8 x), .int .u8 (IntKind.wrap .u8 (IntKind.wrap .u32 (Int.tdiv x 256))), .int .u8 (IntKind.wrap .u8 (IntKind.wrap .u32 (Int.tdiv x 65536))), .int .u8 (IntKind.wrap .u8 (IntKind.wrap .u32 (Int.tdiv x 16777216)))]) :: L) Nz.sub (E.C.ret (E.bd Tryz.f70 [.slice (some ⟨g1, 0, none⟩) 4 4] (fun w h => ⟨g1, rfl, h.less Nz.sub⟩)))))))))

theorem R2.byt_extract (s : ByteArray) (m j : Nat) (h : j < m) (hm : m ≤ s.size) : W.byt (s.extract 0 m).data.toList j = W.byt s.data.toList j := by
  unfold W.byt
  congr 2
  simp [ByteArray.data_extract, List.getElem?_take, h]
theorem R2.pre (s : ByteArray) (m : Nat) (h1 : 0 < m) (h2 : m ≤ s.size) (hn : (m : Int) = R2.Size (W.byt s.data.toList 0)) : 0 < (s.extract 0 m).size ∧ ((s.extract 0 m).size : Int) = R2.Size (W.byt (s.extract 0 m).data.toList 0) := by
  have e : (s.extract 0 m).size = m := by rw [ByteArray.size_extract]; omega
  rw [e, R2.byt_extract s m 0 h1 h2]
  exact ⟨h1, hn⟩

def R2.Decode (s : ByteArray) : K.Ins × Int := (bif (s.toList == (⟨#[]⟩ : ByteArray).toList) then (⟨0, 0, 0, 0, 0, 0, 0⟩, 10) else (bif ((R2.Size (W.byt s.data.toList 0)) == 0) then (⟨0, 0, 0, 0, 0, 0, 0⟩, 12) else (bif (decide (((s.size : Nat) : Int) < (R2.Size (W.byt s.data.toList 0)))) then (⟨0, 0, 0, 0, 0, 0, 0⟩, 10) else (bif (!(R2.Valid ((R2.read (s.extract 0 ((R2.Size (W.byt s.data.toList 0))).toNat))))) then (⟨0, 0, 0, 0, 0, 0, 0⟩, 12) else (⟨((R2.read (s.extract 0 ((R2.Size (W.byt s.data.toList 0))).toNat))).op, ((R2.read (s.extract 0 ((R2.Size (W.byt s.data.toList 0))).toNat))).d, ((R2.read (s.extract 0 ((R2.Size (W.byt s.data.toList 0))).toNat))).s, ((R2.read (s.extract 0 ((R2.Size (W.byt s.data.toList 0))).toNat))).ix, ((R2.read (s.extract 0 ((R2.Size (W.byt s.data.toList 0))).toNat))).sc, ((R2.read (s.extract 0 ((R2.Size (W.byt s.data.toList 0))).toNat))).imm, ((R2.read (s.extract 0 ((R2.Size (W.byt s.data.toList 0))).toNat))).sz⟩, 0)))))
def R2.Encode (i : K.Ins) : ByteArray × Int := (bif (!(R2.Valid i)) then ((⟨#[]⟩ : ByteArray), 12) else (bif ((R2.Format i.op) == 2) then ((strOfNums [(IntKind.wrap .u8 i.op), (IntKind.wrap .u8 i.d)]), 0) else (bif ((R2.Format i.op) == 3) then ((strOfNums [(IntKind.wrap .u8 i.op), (IntKind.wrap .u8 (IntKind.wrap .i64 ((IntKind.wrap .i64 (16 * i.d)) + i.s)))]), 0) else (bif ((R2.Format i.op) == 11) then ((strOfNums [(IntKind.wrap .u8 i.op), (IntKind.wrap .u8 (IntKind.wrap .i64 ((IntKind.wrap .i64 (16 * i.d)) + i.s)))]), 0) else (bif ((R2.Format i.op) == 12) then ((strOfNums [(IntKind.wrap .u8 i.op), (IntKind.wrap .u8 (IntKind.wrap .i64 ((IntKind.wrap .i64 (16 * i.d)) + i.s)))]), 0) else (bif ((R2.Format i.op) == 4) then ((strOfNums [(IntKind.wrap .u8 i.op), (IntKind.wrap .u8 i.d), (IntKind.wrap .u8 i.imm)]), 0) else (bif ((R2.Format i.op) == 5) then ((strOfNums [(IntKind.wrap .u8 i.op), (IntKind.wrap .u8 i.d), (IntKind.wrap .u8 i.imm), (IntKind.wrap .u8 (IntKind.wrap .u32 (Int.tdiv i.imm 256))), (IntKind.wrap .u8 (IntKind.wrap .u32 (Int.tdiv i.imm 65536))), (IntKind.wrap .u8 (IntKind.wrap .u32 (Int.tdiv i.imm 16777216)))]), 0) else (bif ((R2.Format i.op) == 6) then ((strOfNums [(IntKind.wrap .u8 i.op), (IntKind.wrap .u8 (IntKind.wrap .i64 ((IntKind.wrap .i64 (16 * i.d)) + i.s))), (IntKind.wrap .u8 i.imm)]), 0) else (bif ((R2.Format i.op) == 7) then (bif (decide (i.ix ≥ 0)) then ((strOfNums [(IntKind.wrap .u8 i.op), (IntKind.wrap .u8 (IntKind.wrap .i64 ((IntKind.wrap .i64 (16 * i.d)) + i.s))), (IntKind.wrap .u8 (IntKind.wrap .i64 (i.ix + (IntKind.wrap .i64 (16 * i.sc))))), (IntKind.wrap .u8 i.imm), (IntKind.wrap .u8 (IntKind.wrap .u32 (Int.tdiv i.imm 256))), (IntKind.wrap .u8 (IntKind.wrap .u32 (Int.tdiv i.imm 65536))), (IntKind.wrap .u8 (IntKind.wrap .u32 (Int.tdiv i.imm 16777216)))]), 0) else ((strOfNums [(IntKind.wrap .u8 i.op), (IntKind.wrap .u8 (IntKind.wrap .i64 ((IntKind.wrap .i64 (16 * i.d)) + i.s))), 8, (IntKind.wrap .u8 i.imm), (IntKind.wrap .u8 (IntKind.wrap .u32 (Int.tdiv i.imm 256))), (IntKind.wrap .u8 (IntKind.wrap .u32 (Int.tdiv i.imm 65536))), (IntKind.wrap .u8 (IntKind.wrap .u32 (Int.tdiv i.imm 16777216)))]), 0)) else (bif ((R2.Format i.op) == 8) then ((strOfNums [(IntKind.wrap .u8 i.op), (IntKind.wrap .u8 i.imm)]), 0) else (bif ((R2.Format i.op) == 10) then ((strOfNums [(IntKind.wrap .u8 i.op), (IntKind.wrap .u8 i.imm)]), 0) else (bif ((R2.Format i.op) == 9) then ((strOfNums [(IntKind.wrap .u8 i.op), (IntKind.wrap .u8 i.imm), (IntKind.wrap .u8 (IntKind.wrap .u32 (Int.tdiv i.imm 256))), (IntKind.wrap .u8 (IntKind.wrap .u32 (Int.tdiv i.imm 65536))), (IntKind.wrap .u8 (IntKind.wrap .u32 (Int.tdiv i.imm 16777216)))]), 0) else ((strOfNums [(IntKind.wrap .u8 i.op)]), 0)))))))))))))
abbrev Z5a2a (i : K.Ins) := strOfNums [(IntKind.wrap .u8 i.op), (IntKind.wrap .u8 (IntKind.wrap .i64 ((IntKind.wrap .i64 (16 * i.d)) + i.s))), (IntKind.wrap .u8 (IntKind.wrap .i64 (i.ix + (IntKind.wrap .i64 (16 * i.sc))))), (IntKind.wrap .u8 i.imm), (IntKind.wrap .u8 (IntKind.wrap .u32 (Int.tdiv i.imm 256))), (IntKind.wrap .u8 (IntKind.wrap .u32 (Int.tdiv i.imm 65536))), (IntKind.wrap .u8 (IntKind.wrap .u32 (Int.tdiv i.imm 16777216)))]
abbrev Z5a2b (i : K.Ins) := strOfNums [(IntKind.wrap .u8 i.op), (IntKind.wrap .u8 (IntKind.wrap .i64 ((IntKind.wrap .i64 (16 * i.d)) + i.s)))]
abbrev Z5a2c (i : K.Ins) := strOfNums [(IntKind.wrap .u8 i.op), (IntKind.wrap .u8 (IntKind.wrap .i64 ((IntKind.wrap .i64 (16 * i.d)) + i.s))), 8, (IntKind.wrap .u8 i.imm), (IntKind.wrap .u8 (IntKind.wrap .u32 (Int.tdiv i.imm 256))), (IntKind.wrap .u8 (IntKind.wrap .u32 (Int.tdiv i.imm 65536))), (IntKind.wrap .u8 (IntKind.wrap .u32 (Int.tdiv i.imm 16777216)))]
abbrev Z5a2d (i : K.Ins) := strOfNums [(IntKind.wrap .u8 i.op), (IntKind.wrap .u8 i.d), (IntKind.wrap .u8 i.imm), (IntKind.wrap .u8 (IntKind.wrap .u32 (Int.tdiv i.imm 256))), (IntKind.wrap .u8 (IntKind.wrap .u32 (Int.tdiv i.imm 65536))), (IntKind.wrap .u8 (IntKind.wrap .u32 (Int.tdiv i.imm 16777216)))]
abbrev Z5a2e (i : K.Ins) := strOfNums [(IntKind.wrap .u8 i.op), (IntKind.wrap .u8 i.imm), (IntKind.wrap .u8 (IntKind.wrap .u32 (Int.tdiv i.imm 256))), (IntKind.wrap .u8 (IntKind.wrap .u32 (Int.tdiv i.imm 65536))), (IntKind.wrap .u8 (IntKind.wrap .u32 (Int.tdiv i.imm 16777216)))]
abbrev Z5a2f (i : K.Ins) : List Value := [E.i i.op, E.i i.d, E.i i.s, E.i i.ix, E.i i.sc, E.u i.imm, E.i i.sz]
abbrev Z5a2g (i : K.Ins) : Value := (.int .u8 (IntKind.wrap .u8 (IntKind.wrap .i64 ((IntKind.wrap .i64 (16 * i.d)) + i.s))))
abbrev Z5a2h (i : K.Ins) := strOfNums [(IntKind.wrap .u8 i.op), (IntKind.wrap .u8 (IntKind.wrap .i64 ((IntKind.wrap .i64 (16 * i.d)) + i.s))), (IntKind.wrap .u8 i.imm)]
abbrev Z5a2i (i : K.Ins) := strOfNums [(IntKind.wrap .u8 i.op), (IntKind.wrap .u8 i.imm)]
abbrev Z5a2j (i : K.Ins) : List Value := [.int .u8 (IntKind.wrap .u8 (IntKind.wrap .i64 ((IntKind.wrap .i64 (16 * i.d)) + i.s)))]
abbrev Z5a2k := fun g4 => ((.slice (some ⟨g4, 0, none⟩) 1 1) : Value)
abbrev Z5a2l (i : K.Ins) := strOfNums [(IntKind.wrap .u8 i.op), (IntKind.wrap .u8 i.d), (IntKind.wrap .u8 i.imm)]
abbrev Z5a2m (i : K.Ins) : List Value := [.int .u8 (IntKind.wrap .u8 i.op), .int .u8 (IntKind.wrap .u8 (IntKind.wrap .i64 ((IntKind.wrap .i64 (16 * i.d)) + i.s)))]
abbrev Z5a2n (i : K.Ins) := strOfNums [(IntKind.wrap .u8 i.op), (IntKind.wrap .u8 i.d)]
abbrev Z5a2o (i : K.Ins) : List Value := [.int .u8 (IntKind.wrap .u8 i.op), .int .u8 (IntKind.wrap .u8 (IntKind.wrap .i64 ((IntKind.wrap .i64 (16 * i.d)) + i.s))), .int .u8 (IntKind.wrap .u8 (IntKind.wrap .i64 (i.ix + (IntKind.wrap .i64 (16 * i.sc)))))]
abbrev Z5a2p (i : K.Ins) : Value := (.int .u8 (IntKind.wrap .u8 (IntKind.wrap .i64 (i.ix + (IntKind.wrap .i64 (16 * i.sc))))))
abbrev Z5a2q (i : K.Ins) := strOfNums [(IntKind.wrap .u8 i.op)]
set_option maxHeartbeats 1000000 in
theorem R2_Encode (i : K.Ins) (w : World) : Calls Tryz.prog 29 #[.agg #[.int .i64 i.op, .int .i64 i.d, .int .i64 i.s, .int .i64 i.ix, .int .i64 i.sc, .int .u32 i.imm, .int .i64 i.sz]] w fun e w' => e = .returned (.agg #[.string (((R2.Encode i)).1), .int .i64 (((R2.Encode i)).2)]) ∧ Bel w w' := by
 refine E.enter (n := 112) (S := fun _ => False) Tryz.func29 rfl rfl Nz.k (E.Hp.start w) (E.sr (E.nw (Z5a2f i) 66 (fun g1 => E.nw [.string (⟨#[]⟩ : ByteArray), E.i 0] 70 (fun g2 => E.To.code (E.C.seq (E.sr (E.li (.agg #[E.i i.op, E.i i.d, E.i i.s, E.i i.ix, E.i i.sc, E.u i.imm, E.i i.sz]) 1 rfl rfl (E.ca (.bool (R2.Valid i)) (fun w h => R2_Valid i w) (E.op (.bool (!(R2.Valid i))) (E.To.code (E.cd (!(R2.Valid i)) (fun hc3 => ?_) (fun hc3 => ?_))))))))))))
 ·
  exact E.sr (E.vl (.agg #[.string (⟨#[]⟩ : ByteArray), E.i 12]) (fun w h => E.run_build #[.string (⟨#[]⟩ : ByteArray), E.i 12] Nz.k w) (E.st 0 [.string (⟨#[]⟩ : ByteArray), E.i 12] rfl rfl (E.To.code (E.C.ret (E.P.rt (E.b0 Tryz.f29 [.agg #[.string (⟨#[]⟩ : ByteArray), E.i 12]] (fun w h => ⟨by unfold R2.Encode; rw [hc3, N1] <;> rfl, h.ch.bel (fun _ h => h.elim)⟩)))))))
 refine E.C.skip (E.To.code (E.sr (E.op (E.pt g1) (E.li (E.i i.op) 1 rfl rfl (E.op (.int .u8 (IntKind.wrap .u8 i.op)) (E.G.buildSlice [.int .u8 (IntKind.wrap .u8 i.op)] Nz.k Nz.k (fun g4 => E.op (Z5a2k g4) (E.To.code (E.wk [(1, E.pt g1), (2, E.pt g2), (3, .slice (some ⟨g4, 0, none⟩) 1 1)] [(g4, [.int .u8 (IntKind.wrap .u8 i.op)]), (g2, [.string (⟨#[]⟩ : ByteArray), E.i 0]), (g1, (Z5a2f i))] Nz.sub (E.sr (E.op (E.pj g1 1) (E.li (E.i i.d) 2 rfl rfl ?_))))))))))))
 refine E.op (E.i (IntKind.wrap .i64 (16 * i.d))) (E.op (E.pj g1 2) (E.li (E.i i.s) 2 rfl rfl (E.op (E.i (IntKind.wrap .i64 ((IntKind.wrap .i64 (16 * i.d)) + i.s))) (E.op (Z5a2g i) (E.op (Z5a2g i) (E.To.code (E.C.seq (E.sr (E.op (E.pt g1) (E.li (E.i i.op) 2 rfl rfl (E.ca (E.i (R2.Format i.op)) (fun w h => R2_Format _ w) ?_)))))))))))
 refine E.To.code (E.wk [(1, E.pt g1), (2, E.pt g2), (3, .slice (some ⟨g4, 0, none⟩) 1 1), (4, .int .u8 (IntKind.wrap .u8 (IntKind.wrap .i64 ((IntKind.wrap .i64 (16 * i.d)) + i.s)))), (23, E.i (R2.Format i.op))] [(g4, [.int .u8 (IntKind.wrap .u8 i.op)]), (g2, [.string (⟨#[]⟩ : ByteArray), E.i 0]), (g1, (Z5a2f i))] Nz.sub (E.C.block (E.sr (E.op (.bool ((R2.Format i.op) == 2)) (E.op (.bool ((R2.Format i.op) == 2)) (E.To.code (E.cd ((R2.Format i.op) == 2) (fun hc5 => ?_) (fun hc5 => ?_))))))))
 ·
  refine E.C.region (E.op (Z5a2k g4) (E.op (E.pj g1 1) (E.li (E.i i.d) 2 rfl rfl (E.op (.int .u8 (IntKind.wrap .u8 i.d)) (E.G.buildSlice [.int .u8 (IntKind.wrap .u8 i.d)] Nz.k Nz.k (fun g6 => E.G.append (e := 5) 1 g4 1 1 0 g6 0 1 1 1 1 [.int .u8 (IntKind.wrap .u8 i.op)] [] [.int .u8 (IntKind.wrap .u8 i.d)] _ Nz.k Nz.k Nz.k rfl Nz.k (by first | rfl | omega | assumption) (by first | omega | decide) Nz.k rfl Nz.k rfl (by rfl) (by omega) (by omega) (by omega) Nz.k (fun g7 c8 r9 hc10 hr11 => E.op (.slice (some ⟨g7, 0, none⟩) 2 c8) (E.P.nb (E.To.code (E.wk [(2, E.pt g2), (3, .slice (some ⟨g7, 0, none⟩) 2 c8)] [(g7, ([.int .u8 (IntKind.wrap .u8 i.op), .int .u8 (IntKind.wrap .u8 i.d)] ++ r9)), (g2, [.string (⟨#[]⟩ : ByteArray), E.i 0])] Nz.sub (E.sr (E.op (.slice (some ⟨g7, 0, none⟩) 2 c8) ?_))))))))))))
  exact E.vl (.string (Z5a2n i)) (fun w h => E.b2s h 0 g7 0 2 c8 [(IntKind.wrap .u8 i.op), (IntKind.wrap .u8 i.d)] (e := 5) Nz.k Nz.k Nz.k Nz.k rfl Nz.k rfl) (E.vl (.agg #[.string (Z5a2n i), E.i 0]) (fun w h => E.run_build #[.string (Z5a2n i), E.i 0] Nz.k w) (E.st 1 [.string (Z5a2n i), E.i 0] rfl rfl (E.To.code (E.C.ret (E.b1 Tryz.f29 [.agg #[.string (Z5a2n i), E.i 0]] (fun w h => ⟨by unfold R2.Encode; rw [hc3, N0, hc5, N1] <;> rfl, h.ch.bel (fun _ h => h.elim)⟩))))))
 refine E.C.seq (E.sr (E.op (.bool ((R2.Format i.op) == 3)) (E.op (.bool ((R2.Format i.op) == 3)) (E.To.code (E.cd ((R2.Format i.op) == 3) (fun hc12 => ?_) (fun hc12 => ?_))))))
 ·
  refine E.C.skip (E.To.code (E.cd ((R2.Format i.op) == 3) (fun hc13 => ?_) (fun hc13 => absurd (hc12.symm.trans hc13) (by decide))))
  refine E.C.region (E.op (Z5a2k g4) (E.op (Z5a2g i) (E.G.buildSlice (Z5a2j i) Nz.k Nz.k (fun g14 => E.G.append (e := 5) 1 g4 1 1 0 g14 0 1 1 1 1 [.int .u8 (IntKind.wrap .u8 i.op)] [] (Z5a2j i) _ Nz.k Nz.k Nz.k rfl Nz.k (by first | rfl | omega | assumption) (by first | omega | decide) Nz.k rfl Nz.k rfl (by rfl) (by omega) (by omega) (by omega) Nz.k (fun g15 c16 r17 hc18 hr19 => E.op (.slice (some ⟨g15, 0, none⟩) 2 c16) (E.P.nb (E.To.code (E.wk [(2, E.pt g2), (3, .slice (some ⟨g15, 0, none⟩) 2 c16)] [(g15, ((Z5a2m i) ++ r17)), (g2, [.string (⟨#[]⟩ : ByteArray), E.i 0])] Nz.sub (E.sr (E.op (.slice (some ⟨g15, 0, none⟩) 2 c16) (E.vl (.string (Z5a2b i)) (fun w h => E.b2s h 0 g15 0 2 c16 [(IntKind.wrap .u8 i.op), (IntKind.wrap .u8 (IntKind.wrap .i64 ((IntKind.wrap .i64 (16 * i.d)) + i.s)))] (e := 5) Nz.k Nz.k Nz.k Nz.k rfl Nz.k rfl) (E.vl (.agg #[.string (Z5a2b i), E.i 0]) (fun w h => E.run_build #[.string (Z5a2b i), E.i 0] Nz.k w) ?_))))))))))))
  exact E.st 1 [.string (Z5a2b i), E.i 0] rfl rfl (E.To.code (E.C.ret (E.b1 Tryz.f29 [.agg #[.string (Z5a2b i), E.i 0]] (fun w h => ⟨by unfold R2.Encode; rw [hc3, N0, hc5, N0, hc12, N1] <;> rfl, h.ch.bel (fun _ h => h.elim)⟩))))
 refine E.sr (E.op (.bool ((R2.Format i.op) == 11)) (E.op (.bool ((R2.Format i.op) == 11)) (E.To.code (E.cd ((R2.Format i.op) == 11) (fun hc20 => ?_) (fun hc20 => ?_)))))
 ·
  refine E.C.skip (E.To.code (E.cd ((R2.Format i.op) == 11) (fun hc21 => ?_) (fun hc21 => absurd (hc20.symm.trans hc21) (by decide))))
  refine E.C.region (E.op (Z5a2k g4) (E.op (Z5a2g i) (E.G.buildSlice (Z5a2j i) Nz.k Nz.k (fun g22 => E.G.append (e := 5) 1 g4 1 1 0 g22 0 1 1 1 1 [.int .u8 (IntKind.wrap .u8 i.op)] [] (Z5a2j i) _ Nz.k Nz.k Nz.k rfl Nz.k (by first | rfl | omega | assumption) (by first | omega | decide) Nz.k rfl Nz.k rfl (by rfl) (by omega) (by omega) (by omega) Nz.k (fun g23 c24 r25 hc26 hr27 => E.op (.slice (some ⟨g23, 0, none⟩) 2 c24) (E.P.nb (E.To.code (E.wk [(2, E.pt g2), (3, .slice (some ⟨g23, 0, none⟩) 2 c24)] [(g23, ((Z5a2m i) ++ r25)), (g2, [.string (⟨#[]⟩ : ByteArray), E.i 0])] Nz.sub (E.sr (E.op (.slice (some ⟨g23, 0, none⟩) 2 c24) (E.vl (.string (Z5a2b i)) (fun w h => E.b2s h 0 g23 0 2 c24 [(IntKind.wrap .u8 i.op), (IntKind.wrap .u8 (IntKind.wrap .i64 ((IntKind.wrap .i64 (16 * i.d)) + i.s)))] (e := 5) Nz.k Nz.k Nz.k Nz.k rfl Nz.k rfl) (E.vl (.agg #[.string (Z5a2b i), E.i 0]) (fun w h => E.run_build #[.string (Z5a2b i), E.i 0] Nz.k w) ?_))))))))))))
  exact E.st 1 [.string (Z5a2b i), E.i 0] rfl rfl (E.To.code (E.C.ret (E.b1 Tryz.f29 [.agg #[.string (Z5a2b i), E.i 0]] (fun w h => ⟨by unfold R2.Encode; rw [hc3, N0, hc5, N0, hc12, N0, hc20, N1] <;> rfl, h.ch.bel (fun _ h => h.elim)⟩))))
 refine E.C.region (E.op (.bool ((R2.Format i.op) == 12)) (E.op (.bool ((R2.Format i.op) == 12)) (E.To.code (E.cd ((R2.Format i.op) == 12) (fun hc28 => ?_) (fun hc28 => ?_)))))
 ·
  refine E.C.region (E.op (Z5a2k g4) (E.op (Z5a2g i) (E.G.buildSlice (Z5a2j i) Nz.k Nz.k (fun g29 => E.G.append (e := 5) 1 g4 1 1 0 g29 0 1 1 1 1 [.int .u8 (IntKind.wrap .u8 i.op)] [] (Z5a2j i) _ Nz.k Nz.k Nz.k rfl Nz.k (by first | rfl | omega | assumption) (by first | omega | decide) Nz.k rfl Nz.k rfl (by rfl) (by omega) (by omega) (by omega) Nz.k (fun g30 c31 r32 hc33 hr34 => E.op (.slice (some ⟨g30, 0, none⟩) 2 c31) (E.P.nb (E.To.code (E.wk [(2, E.pt g2), (3, .slice (some ⟨g30, 0, none⟩) 2 c31)] [(g30, ((Z5a2m i) ++ r32)), (g2, [.string (⟨#[]⟩ : ByteArray), E.i 0])] Nz.sub (E.sr (E.op (.slice (some ⟨g30, 0, none⟩) 2 c31) (E.vl (.string (Z5a2b i)) (fun w h => E.b2s h 0 g30 0 2 c31 [(IntKind.wrap .u8 i.op), (IntKind.wrap .u8 (IntKind.wrap .i64 ((IntKind.wrap .i64 (16 * i.d)) + i.s)))] (e := 5) Nz.k Nz.k Nz.k Nz.k rfl Nz.k rfl) (E.vl (.agg #[.string (Z5a2b i), E.i 0]) (fun w h => E.run_build #[.string (Z5a2b i), E.i 0] Nz.k w) ?_))))))))))))
  exact E.st 1 [.string (Z5a2b i), E.i 0] rfl rfl (E.To.code (E.C.ret (E.b1 Tryz.f29 [.agg #[.string (Z5a2b i), E.i 0]] (fun w h => ⟨by unfold R2.Encode; rw [hc3, N0, hc5, N0, hc12, N0, hc20, N0, hc28, N1] <;> rfl, h.ch.bel (fun _ h => h.elim)⟩))))
 refine E.sr (E.op (.bool ((R2.Format i.op) == 4)) (E.op (.bool ((R2.Format i.op) == 4)) (E.To.code (E.cd ((R2.Format i.op) == 4) (fun hc35 => ?_) (fun hc35 => ?_)))))
 ·
  refine E.C.region (E.op (Z5a2k g4) (E.op (E.pj g1 1) (E.li (E.i i.d) 2 rfl rfl (E.op (.int .u8 (IntKind.wrap .u8 i.d)) (E.op (E.pj g1 5) (E.li (E.u i.imm) 2 rfl rfl (E.op (.int .u8 (IntKind.wrap .u8 i.imm)) (E.G.buildSlice [.int .u8 (IntKind.wrap .u8 i.d), .int .u8 (IntKind.wrap .u8 i.imm)] Nz.k Nz.k (fun g36 => E.G.append (e := 5) 1 g4 1 1 0 g36 0 2 2 1 1 [.int .u8 (IntKind.wrap .u8 i.op)] [] [.int .u8 (IntKind.wrap .u8 i.d), .int .u8 (IntKind.wrap .u8 i.imm)] _ Nz.k Nz.k Nz.k rfl Nz.k (by first | rfl | omega | assumption) (by first | omega | decide) Nz.k rfl Nz.k rfl (by rfl) (by omega) (by omega) (by omega) Nz.k (fun g37 c38 r39 hc40 hr41 => E.op (.slice (some ⟨g37, 0, none⟩) 3 c38) (E.P.nb (E.To.code ?_))))))))))))
  exact E.wk [(2, E.pt g2), (3, .slice (some ⟨g37, 0, none⟩) 3 c38)] [(g37, ([.int .u8 (IntKind.wrap .u8 i.op), .int .u8 (IntKind.wrap .u8 i.d), .int .u8 (IntKind.wrap .u8 i.imm)] ++ r39)), (g2, [.string (⟨#[]⟩ : ByteArray), E.i 0])] Nz.sub (E.sr (E.op (.slice (some ⟨g37, 0, none⟩) 3 c38) (E.vl (.string (Z5a2l i)) (fun w h => E.b2s h 0 g37 0 3 c38 [(IntKind.wrap .u8 i.op), (IntKind.wrap .u8 i.d), (IntKind.wrap .u8 i.imm)] (e := 5) Nz.k Nz.k Nz.k Nz.k rfl Nz.k rfl) (E.vl (.agg #[.string (Z5a2l i), E.i 0]) (fun w h => E.run_build #[.string (Z5a2l i), E.i 0] Nz.k w) (E.st 1 [.string (Z5a2l i), E.i 0] rfl rfl (E.To.code (E.C.ret (E.b1 Tryz.f29 [.agg #[.string (Z5a2l i), E.i 0]] (fun w h => ⟨by unfold R2.Encode; rw [hc3, N0, hc5, N0, hc12, N0, hc20, N0, hc28, N0, hc35, N1] <;> rfl, h.ch.bel (fun _ h => h.elim)⟩)))))))))
 refine E.sr (E.op (.bool ((R2.Format i.op) == 5)) (E.op (.bool ((R2.Format i.op) == 5)) (E.To.code (E.wk [(1, E.pt g1), (2, E.pt g2), (3, .slice (some ⟨g4, 0, none⟩) 1 1), (4, .int .u8 (IntKind.wrap .u8 (IntKind.wrap .i64 ((IntKind.wrap .i64 (16 * i.d)) + i.s)))), (23, E.i (R2.Format i.op)), (51, .bool ((R2.Format i.op) == 5))] [(g4, [.int .u8 (IntKind.wrap .u8 i.op)]), (g2, [.string (⟨#[]⟩ : ByteArray), E.i 0]), (g1, (Z5a2f i))] Nz.sub (E.cd ((R2.Format i.op) == 5) (fun hc42 => ?_) (fun hc42 => ?_))))))
 ·
  refine E.C.held (E.Hp (fun _ => False) w (fun _ => True) [(g2, [.string (⟨#[]⟩ : ByteArray), E.i 0]), (g1, (Z5a2f i))]) Nz.k (E.ta 0 (Z5a2k g4) rfl (E.ta 1 (E.pj g1 1) rfl (E.tb 2 (E.i i.d) rfl (fun w h => E.run_load h 1 rfl rfl Nz.k) (E.ta 3 (.int .u8 (IntKind.wrap .u8 i.d)) rfl (E.ta 6 (E.pj g1 5) rfl (E.tb 7 (E.u i.imm) rfl (fun w h => E.run_load h 1 rfl rfl Nz.k) (E.al 4 rfl (E.G.buildSlice [.int .u8 (IntKind.wrap .u8 i.d)] Nz.k Nz.k (fun g43 => E.bk (E.al 5 rfl (E.G.append (e := 5) 1 g4 1 1 0 g43 0 1 1 1 1 [.int .u8 (IntKind.wrap .u8 i.op)] [] [.int .u8 (IntKind.wrap .u8 i.d)] _ Nz.k Nz.k Nz.k rfl Nz.k (by first | rfl | omega | assumption) (by first | omega | decide) Nz.k rfl Nz.k rfl (by rfl) (by omega) (by omega) (by omega) Nz.k (fun g44 c45 r46 hc47 hr48 => ?_))))))))))))
  refine E.bk (E.al 8 rfl (E.G.callX (I := Nat) (fun _ => True) (fun g => .slice (some ⟨g, 0, none⟩) 4 4) (fun _ => fun _ => True) (fun g => (g, [.int .u8 (IntKind.wrap .u8 i.imm), .int .u8 (IntKind.wrap .u8 (IntKind.wrap .u32 (Int.tdiv i.imm 256))), .int .u8 (IntKind.wrap .u8 (IntKind.wrap .u32 (Int.tdiv i.imm 65536))), .int .u8 (IntKind.wrap .u8 (IntKind.wrap .u32 (Int.tdiv i.imm 16777216)))]) :: [(g44, ([.int .u8 (IntKind.wrap .u8 i.op), .int .u8 (IntKind.wrap .u8 i.d)] ++ r46)), (g43, [.int .u8 (IntKind.wrap .u8 i.d)]), (g2, [.string (⟨#[]⟩ : ByteArray), E.i 0]), (g1, (Z5a2f i))]) (fun w h => (R2_four i.imm w h).mono fun e w1 ⟨g, he, hh⟩ => ⟨g, trivial, he, hh⟩) (fun w _ => Nz.k) Nz.k (fun g49 _ => E.bk (E.al 9 rfl (E.G.append (e := 5) 1 g44 2 c45 0 g49 0 4 4 1 1 [.int .u8 (IntKind.wrap .u8 i.op), .int .u8 (IntKind.wrap .u8 i.d)] r46 [.int .u8 (IntKind.wrap .u8 i.imm), .int .u8 (IntKind.wrap .u8 (IntKind.wrap .u32 (Int.tdiv i.imm 256))), .int .u8 (IntKind.wrap .u8 (IntKind.wrap .u32 (Int.tdiv i.imm 65536))), .int .u8 (IntKind.wrap .u8 (IntKind.wrap .u32 (Int.tdiv i.imm 16777216)))] _ Nz.k Nz.k Nz.k rfl Nz.k (by first | rfl | omega | assumption) (by first | omega | decide) Nz.k rfl Nz.k rfl (by rfl) (by omega) (by omega) (by omega) Nz.k (fun g50 c51 r52 hc53 hr54 => E.bk (E.ta 10 (.slice (some ⟨g50, 0, none⟩) 6 c51) rfl (E.H.done Nz.k (E.P.nb (E.To.code (E.wk [(2, E.pt g2), (3, .slice (some ⟨g50, 0, none⟩) 6 c51)] [(g50, ([.int .u8 (IntKind.wrap .u8 i.op), .int .u8 (IntKind.wrap .u8 i.d), .int .u8 (IntKind.wrap .u8 i.imm), .int .u8 (IntKind.wrap .u8 (IntKind.wrap .u32 (Int.tdiv i.imm 256))), .int .u8 (IntKind.wrap .u8 (IntKind.wrap .u32 (Int.tdiv i.imm 65536))), .int .u8 (IntKind.wrap .u8 (IntKind.wrap .u32 (Int.tdiv i.imm 16777216)))] ++ r52)), (g2, [.string (⟨#[]⟩ : ByteArray), E.i 0])] Nz.sub (E.sr ?_))))))))))))
  exact E.op (.slice (some ⟨g50, 0, none⟩) 6 c51) (E.vl (.string (Z5a2d i)) (fun w h => E.b2s h 0 g50 0 6 c51 [(IntKind.wrap .u8 i.op), (IntKind.wrap .u8 i.d), (IntKind.wrap .u8 i.imm), (IntKind.wrap .u8 (IntKind.wrap .u32 (Int.tdiv i.imm 256))), (IntKind.wrap .u8 (IntKind.wrap .u32 (Int.tdiv i.imm 65536))), (IntKind.wrap .u8 (IntKind.wrap .u32 (Int.tdiv i.imm 16777216)))] (e := 5) Nz.k Nz.k Nz.k Nz.k rfl Nz.k rfl) (E.vl (.agg #[.string (Z5a2d i), E.i 0]) (fun w h => E.run_build #[.string (Z5a2d i), E.i 0] Nz.k w) (E.st 1 [.string (Z5a2d i), E.i 0] rfl rfl (E.To.code (E.C.ret (E.b1 Tryz.f29 [.agg #[.string (Z5a2d i), E.i 0]] (fun w h => ⟨by unfold R2.Encode; rw [hc3, N0, hc5, N0, hc12, N0, hc20, N0, hc28, N0, hc35, N0, hc42, N1] <;> rfl, h.ch.bel (fun _ h => h.elim)⟩)))))))
 refine E.sr (E.op (.bool ((R2.Format i.op) == 6)) (E.op (.bool ((R2.Format i.op) == 6)) (E.To.code (E.cd ((R2.Format i.op) == 6) (fun hc55 => ?_) (fun hc55 => ?_)))))
 ·
  refine E.C.region (E.op (Z5a2k g4) (E.op (Z5a2g i) (E.op (E.pj g1 5) (E.li (E.u i.imm) 2 rfl rfl (E.op (.int .u8 (IntKind.wrap .u8 i.imm)) (E.G.buildSlice [.int .u8 (IntKind.wrap .u8 (IntKind.wrap .i64 ((IntKind.wrap .i64 (16 * i.d)) + i.s))), .int .u8 (IntKind.wrap .u8 i.imm)] Nz.k Nz.k (fun g56 => E.G.append (e := 5) 1 g4 1 1 0 g56 0 2 2 1 1 [.int .u8 (IntKind.wrap .u8 i.op)] [] [.int .u8 (IntKind.wrap .u8 (IntKind.wrap .i64 ((IntKind.wrap .i64 (16 * i.d)) + i.s))), .int .u8 (IntKind.wrap .u8 i.imm)] _ Nz.k Nz.k Nz.k rfl Nz.k (by first | rfl | omega | assumption) (by first | omega | decide) Nz.k rfl Nz.k rfl (by rfl) (by omega) (by omega) (by omega) Nz.k (fun g57 c58 r59 hc60 hr61 => E.op (.slice (some ⟨g57, 0, none⟩) 3 c58) (E.P.nb (E.To.code (E.wk [(2, E.pt g2), (3, .slice (some ⟨g57, 0, none⟩) 3 c58)] [(g57, ([.int .u8 (IntKind.wrap .u8 i.op), .int .u8 (IntKind.wrap .u8 (IntKind.wrap .i64 ((IntKind.wrap .i64 (16 * i.d)) + i.s))), .int .u8 (IntKind.wrap .u8 i.imm)] ++ r59)), (g2, [.string (⟨#[]⟩ : ByteArray), E.i 0])] Nz.sub (E.sr ?_))))))))))))
  exact E.op (.slice (some ⟨g57, 0, none⟩) 3 c58) (E.vl (.string (Z5a2h i)) (fun w h => E.b2s h 0 g57 0 3 c58 [(IntKind.wrap .u8 i.op), (IntKind.wrap .u8 (IntKind.wrap .i64 ((IntKind.wrap .i64 (16 * i.d)) + i.s))), (IntKind.wrap .u8 i.imm)] (e := 5) Nz.k Nz.k Nz.k Nz.k rfl Nz.k rfl) (E.vl (.agg #[.string (Z5a2h i), E.i 0]) (fun w h => E.run_build #[.string (Z5a2h i), E.i 0] Nz.k w) (E.st 1 [.string (Z5a2h i), E.i 0] rfl rfl (E.To.code (E.C.ret (E.b1 Tryz.f29 [.agg #[.string (Z5a2h i), E.i 0]] (fun w h => ⟨by unfold R2.Encode; rw [hc3, N0, hc5, N0, hc12, N0, hc20, N0, hc28, N0, hc35, N0, hc42, N0, hc55, N1] <;> rfl, h.ch.bel (fun _ h => h.elim)⟩)))))))
 refine E.sr (E.op (.bool ((R2.Format i.op) == 7)) (E.op (.bool ((R2.Format i.op) == 7)) (E.To.code (E.cd ((R2.Format i.op) == 7) (fun hc62 => ?_) (fun hc62 => ?_)))))
 ·
  refine E.sr (E.op (.int .u8 8) (E.To.code (E.C.seq (E.sr (E.op (E.pj g1 3) (E.li (E.i i.ix) 2 rfl rfl (E.op (.bool (decide (i.ix ≥ 0))) (E.To.code (E.wk [(1, E.pt g1), (2, E.pt g2), (3, .slice (some ⟨g4, 0, none⟩) 1 1), (4, .int .u8 (IntKind.wrap .u8 (IntKind.wrap .i64 ((IntKind.wrap .i64 (16 * i.d)) + i.s)))), (5, .int .u8 8), (76, .bool (decide (i.ix ≥ 0)))] [(g4, [.int .u8 (IntKind.wrap .u8 i.op)]), (g2, [.string (⟨#[]⟩ : ByteArray), E.i 0]), (g1, (Z5a2f i))] Nz.sub (E.cd (decide (i.ix ≥ 0)) (fun hc63 => ?_) (fun hc63 => ?_)))))))))))
  ·
   refine E.C.region (E.op (E.pj g1 3) (E.li (E.i i.ix) 2 rfl rfl (E.op (E.pj g1 4) (E.li (E.i i.sc) 2 rfl rfl (E.op (E.i (IntKind.wrap .i64 (16 * i.sc))) (E.op (E.i (IntKind.wrap .i64 (i.ix + (IntKind.wrap .i64 (16 * i.sc))))) (E.op (Z5a2p i) (E.op (Z5a2p i) (E.To.code (E.wk [(1, E.pt g1), (2, E.pt g2), (3, .slice (some ⟨g4, 0, none⟩) 1 1), (4, .int .u8 (IntKind.wrap .u8 (IntKind.wrap .i64 ((IntKind.wrap .i64 (16 * i.d)) + i.s)))), (5, .int .u8 (IntKind.wrap .u8 (IntKind.wrap .i64 (i.ix + (IntKind.wrap .i64 (16 * i.sc))))))] [(g4, [.int .u8 (IntKind.wrap .u8 i.op)]), (g2, [.string (⟨#[]⟩ : ByteArray), E.i 0]), (g1, (Z5a2f i))] Nz.sub (E.C.held (E.Hp (fun _ => False) w (fun _ => True) [(g2, [.string (⟨#[]⟩ : ByteArray), E.i 0]), (g1, (Z5a2f i))]) Nz.k ?_)))))))))))
   refine E.ta 0 (Z5a2k g4) rfl (E.ta 1 (Z5a2g i) rfl (E.ta 2 (Z5a2p i) rfl (E.ta 5 (E.pj g1 5) rfl (E.tb 6 (E.u i.imm) rfl (fun w h => E.run_load h 1 rfl rfl Nz.k) (E.al 3 rfl (E.G.buildSlice [.int .u8 (IntKind.wrap .u8 (IntKind.wrap .i64 ((IntKind.wrap .i64 (16 * i.d)) + i.s))), .int .u8 (IntKind.wrap .u8 (IntKind.wrap .i64 (i.ix + (IntKind.wrap .i64 (16 * i.sc)))))] Nz.k Nz.k (fun g64 => E.bk (E.al 4 rfl (E.G.append (e := 5) 1 g4 1 1 0 g64 0 2 2 1 1 [.int .u8 (IntKind.wrap .u8 i.op)] [] [.int .u8 (IntKind.wrap .u8 (IntKind.wrap .i64 ((IntKind.wrap .i64 (16 * i.d)) + i.s))), .int .u8 (IntKind.wrap .u8 (IntKind.wrap .i64 (i.ix + (IntKind.wrap .i64 (16 * i.sc)))))] _ Nz.k Nz.k Nz.k rfl Nz.k (by first | rfl | omega | assumption) (by first | omega | decide) Nz.k rfl Nz.k rfl (by rfl) (by omega) (by omega) (by omega) Nz.k (fun g65 c66 r67 hc68 hr69 => E.bk (E.al 7 rfl ?_)))))))))))
   refine E.G.callX (I := Nat) (fun _ => True) (fun g => .slice (some ⟨g, 0, none⟩) 4 4) (fun _ => fun _ => True) (fun g => (g, [.int .u8 (IntKind.wrap .u8 i.imm), .int .u8 (IntKind.wrap .u8 (IntKind.wrap .u32 (Int.tdiv i.imm 256))), .int .u8 (IntKind.wrap .u8 (IntKind.wrap .u32 (Int.tdiv i.imm 65536))), .int .u8 (IntKind.wrap .u8 (IntKind.wrap .u32 (Int.tdiv i.imm 16777216)))]) :: [(g65, ((Z5a2o i) ++ r67)), (g64, [.int .u8 (IntKind.wrap .u8 (IntKind.wrap .i64 ((IntKind.wrap .i64 (16 * i.d)) + i.s))), .int .u8 (IntKind.wrap .u8 (IntKind.wrap .i64 (i.ix + (IntKind.wrap .i64 (16 * i.sc)))))]), (g2, [.string (⟨#[]⟩ : ByteArray), E.i 0]), (g1, (Z5a2f i))]) (fun w h => (R2_four i.imm w h).mono fun e w1 ⟨g, he, hh⟩ => ⟨g, trivial, he, hh⟩) (fun w _ => Nz.k) Nz.k (fun g70 _ => E.bk (E.al 8 rfl (E.G.append (e := 5) 1 g65 3 c66 0 g70 0 4 4 1 1 (Z5a2o i) r67 [.int .u8 (IntKind.wrap .u8 i.imm), .int .u8 (IntKind.wrap .u8 (IntKind.wrap .u32 (Int.tdiv i.imm 256))), .int .u8 (IntKind.wrap .u8 (IntKind.wrap .u32 (Int.tdiv i.imm 65536))), .int .u8 (IntKind.wrap .u8 (IntKind.wrap .u32 (Int.tdiv i.imm 16777216)))] _ Nz.k Nz.k Nz.k rfl Nz.k (by first | rfl | omega | assumption) (by first | omega | decide) Nz.k rfl Nz.k rfl (by rfl) (by omega) (by omega) (by omega) Nz.k (fun g71 c72 r73 hc74 hr75 => E.bk (E.ta 9 (.slice (some ⟨g71, 0, none⟩) 7 c72) rfl (E.H.done Nz.k (E.P.nb (E.To.code (E.wk [(2, E.pt g2), (3, .slice (some ⟨g71, 0, none⟩) 7 c72)] [(g71, ([.int .u8 (IntKind.wrap .u8 i.op), .int .u8 (IntKind.wrap .u8 (IntKind.wrap .i64 ((IntKind.wrap .i64 (16 * i.d)) + i.s))), .int .u8 (IntKind.wrap .u8 (IntKind.wrap .i64 (i.ix + (IntKind.wrap .i64 (16 * i.sc))))), .int .u8 (IntKind.wrap .u8 i.imm), .int .u8 (IntKind.wrap .u8 (IntKind.wrap .u32 (Int.tdiv i.imm 256))), .int .u8 (IntKind.wrap .u8 (IntKind.wrap .u32 (Int.tdiv i.imm 65536))), .int .u8 (IntKind.wrap .u8 (IntKind.wrap .u32 (Int.tdiv i.imm 16777216)))] ++ r73)), (g2, [.string (⟨#[]⟩ : ByteArray), E.i 0])] Nz.sub (E.sr (E.op (.slice (some ⟨g71, 0, none⟩) 7 c72) (E.vl (.string (Z5a2a i)) (fun w h => E.b2s h 0 g71 0 7 c72 [(IntKind.wrap .u8 i.op), (IntKind.wrap .u8 (IntKind.wrap .i64 ((IntKind.wrap .i64 (16 * i.d)) + i.s))), (IntKind.wrap .u8 (IntKind.wrap .i64 (i.ix + (IntKind.wrap .i64 (16 * i.sc))))), (IntKind.wrap .u8 i.imm), (IntKind.wrap .u8 (IntKind.wrap .u32 (Int.tdiv i.imm 256))), (IntKind.wrap .u8 (IntKind.wrap .u32 (Int.tdiv i.imm 65536))), (IntKind.wrap .u8 (IntKind.wrap .u32 (Int.tdiv i.imm 16777216)))] (e := 5) Nz.k Nz.k Nz.k Nz.k rfl Nz.k rfl) ?_))))))))))))
   exact E.vl (.agg #[.string (Z5a2a i), E.i 0]) (fun w h => E.run_build #[.string (Z5a2a i), E.i 0] Nz.k w) (E.st 1 [.string (Z5a2a i), E.i 0] rfl rfl (E.To.code (E.C.ret (E.b1 Tryz.f29 [.agg #[.string (Z5a2a i), E.i 0]] (fun w h => ⟨by unfold R2.Encode; rw [hc3, N0, hc5, N0, hc12, N0, hc20, N0, hc28, N0, hc35, N0, hc42, N0, hc55, N0, hc62, N1, hc63, N1] <;> rfl, h.ch.bel (fun _ h => h.elim)⟩)))))
  refine E.C.skip (E.To.code (E.C.held (E.Hp (fun _ => False) w (fun _ => True) [(g2, [.string (⟨#[]⟩ : ByteArray), E.i 0]), (g1, (Z5a2f i))]) Nz.k (E.ta 0 (Z5a2k g4) rfl (E.ta 1 (Z5a2g i) rfl (E.ta 2 (.int .u8 8) rfl (E.ta 5 (E.pj g1 5) rfl (E.tb 6 (E.u i.imm) rfl (fun w h => E.run_load h 1 rfl rfl Nz.k) (E.al 3 rfl (E.G.buildSlice [.int .u8 (IntKind.wrap .u8 (IntKind.wrap .i64 ((IntKind.wrap .i64 (16 * i.d)) + i.s))), .int .u8 8] Nz.k Nz.k (fun g76 => E.bk (E.al 4 rfl (E.G.append (e := 5) 1 g4 1 1 0 g76 0 2 2 1 1 [.int .u8 (IntKind.wrap .u8 i.op)] [] [.int .u8 (IntKind.wrap .u8 (IntKind.wrap .i64 ((IntKind.wrap .i64 (16 * i.d)) + i.s))), .int .u8 8] _ Nz.k Nz.k Nz.k rfl Nz.k (by first | rfl | omega | assumption) (by first | omega | decide) Nz.k rfl Nz.k rfl (by rfl) (by omega) (by omega) (by omega) Nz.k (fun g77 c78 r79 hc80 hr81 => ?_)))))))))))))
  refine E.bk (E.al 7 rfl (E.G.callX (I := Nat) (fun _ => True) (fun g => .slice (some ⟨g, 0, none⟩) 4 4) (fun _ => fun _ => True) (fun g => (g, [.int .u8 (IntKind.wrap .u8 i.imm), .int .u8 (IntKind.wrap .u8 (IntKind.wrap .u32 (Int.tdiv i.imm 256))), .int .u8 (IntKind.wrap .u8 (IntKind.wrap .u32 (Int.tdiv i.imm 65536))), .int .u8 (IntKind.wrap .u8 (IntKind.wrap .u32 (Int.tdiv i.imm 16777216)))]) :: [(g77, ([.int .u8 (IntKind.wrap .u8 i.op), .int .u8 (IntKind.wrap .u8 (IntKind.wrap .i64 ((IntKind.wrap .i64 (16 * i.d)) + i.s))), .int .u8 8] ++ r79)), (g76, [.int .u8 (IntKind.wrap .u8 (IntKind.wrap .i64 ((IntKind.wrap .i64 (16 * i.d)) + i.s))), .int .u8 8]), (g2, [.string (⟨#[]⟩ : ByteArray), E.i 0]), (g1, (Z5a2f i))]) (fun w h => (R2_four i.imm w h).mono fun e w1 ⟨g, he, hh⟩ => ⟨g, trivial, he, hh⟩) (fun w _ => Nz.k) Nz.k (fun g82 _ => E.bk (E.al 8 rfl (E.G.append (e := 5) 1 g77 3 c78 0 g82 0 4 4 1 1 [.int .u8 (IntKind.wrap .u8 i.op), .int .u8 (IntKind.wrap .u8 (IntKind.wrap .i64 ((IntKind.wrap .i64 (16 * i.d)) + i.s))), .int .u8 8] r79 [.int .u8 (IntKind.wrap .u8 i.imm), .int .u8 (IntKind.wrap .u8 (IntKind.wrap .u32 (Int.tdiv i.imm 256))), .int .u8 (IntKind.wrap .u8 (IntKind.wrap .u32 (Int.tdiv i.imm 65536))), .int .u8 (IntKind.wrap .u8 (IntKind.wrap .u32 (Int.tdiv i.imm 16777216)))] _ Nz.k Nz.k Nz.k rfl Nz.k (by first | rfl | omega | assumption) (by first | omega | decide) Nz.k rfl Nz.k rfl (by rfl) (by omega) (by omega) (by omega) Nz.k (fun g83 c84 r85 hc86 hr87 => E.bk (E.ta 9 (.slice (some ⟨g83, 0, none⟩) 7 c84) rfl (E.H.done Nz.k (E.P.nb (E.To.code (E.wk [(2, E.pt g2), (3, .slice (some ⟨g83, 0, none⟩) 7 c84)] [(g83, ([.int .u8 (IntKind.wrap .u8 i.op), .int .u8 (IntKind.wrap .u8 (IntKind.wrap .i64 ((IntKind.wrap .i64 (16 * i.d)) + i.s))), .int .u8 8, .int .u8 (IntKind.wrap .u8 i.imm), .int .u8 (IntKind.wrap .u8 (IntKind.wrap .u32 (Int.tdiv i.imm 256))), .int .u8 (IntKind.wrap .u8 (IntKind.wrap .u32 (Int.tdiv i.imm 65536))), .int .u8 (IntKind.wrap .u8 (IntKind.wrap .u32 (Int.tdiv i.imm 16777216)))] ++ r85)), (g2, [.string (⟨#[]⟩ : ByteArray), E.i 0])] Nz.sub (E.sr ?_))))))))))))
  exact E.op (.slice (some ⟨g83, 0, none⟩) 7 c84) (E.vl (.string (Z5a2c i)) (fun w h => E.b2s h 0 g83 0 7 c84 [(IntKind.wrap .u8 i.op), (IntKind.wrap .u8 (IntKind.wrap .i64 ((IntKind.wrap .i64 (16 * i.d)) + i.s))), 8, (IntKind.wrap .u8 i.imm), (IntKind.wrap .u8 (IntKind.wrap .u32 (Int.tdiv i.imm 256))), (IntKind.wrap .u8 (IntKind.wrap .u32 (Int.tdiv i.imm 65536))), (IntKind.wrap .u8 (IntKind.wrap .u32 (Int.tdiv i.imm 16777216)))] (e := 5) Nz.k Nz.k Nz.k Nz.k rfl Nz.k rfl) (E.vl (.agg #[.string (Z5a2c i), E.i 0]) (fun w h => E.run_build #[.string (Z5a2c i), E.i 0] Nz.k w) (E.st 1 [.string (Z5a2c i), E.i 0] rfl rfl (E.To.code (E.C.ret (E.b1 Tryz.f29 [.agg #[.string (Z5a2c i), E.i 0]] (fun w h => ⟨by unfold R2.Encode; rw [hc3, N0, hc5, N0, hc12, N0, hc20, N0, hc28, N0, hc35, N0, hc42, N0, hc55, N0, hc62, N1, hc63, N0] <;> rfl, h.ch.bel (fun _ h => h.elim)⟩)))))))
 refine E.C.seq (E.sr (E.op (.bool ((R2.Format i.op) == 8)) (E.op (.bool ((R2.Format i.op) == 8)) (E.To.code (E.cd ((R2.Format i.op) == 8) (fun hc88 => ?_) (fun hc88 => ?_))))))
 ·
  refine E.C.skip (E.To.code (E.cd ((R2.Format i.op) == 8) (fun hc89 => ?_) (fun hc89 => absurd (hc88.symm.trans hc89) (by decide))))
  refine E.C.region (E.op (Z5a2k g4) (E.op (E.pj g1 5) (E.li (E.u i.imm) 2 rfl rfl (E.op (.int .u8 (IntKind.wrap .u8 i.imm)) (E.G.buildSlice [.int .u8 (IntKind.wrap .u8 i.imm)] Nz.k Nz.k (fun g90 => E.G.append (e := 5) 1 g4 1 1 0 g90 0 1 1 1 1 [.int .u8 (IntKind.wrap .u8 i.op)] [] [.int .u8 (IntKind.wrap .u8 i.imm)] _ Nz.k Nz.k Nz.k rfl Nz.k (by first | rfl | omega | assumption) (by first | omega | decide) Nz.k rfl Nz.k rfl (by rfl) (by omega) (by omega) (by omega) Nz.k (fun g91 c92 r93 hc94 hr95 => E.op (.slice (some ⟨g91, 0, none⟩) 2 c92) (E.P.nb (E.To.code (E.wk [(2, E.pt g2), (3, .slice (some ⟨g91, 0, none⟩) 2 c92)] [(g91, ([.int .u8 (IntKind.wrap .u8 i.op), .int .u8 (IntKind.wrap .u8 i.imm)] ++ r93)), (g2, [.string (⟨#[]⟩ : ByteArray), E.i 0])] Nz.sub (E.sr (E.op (.slice (some ⟨g91, 0, none⟩) 2 c92) ?_))))))))))))
  exact E.vl (.string (Z5a2i i)) (fun w h => E.b2s h 0 g91 0 2 c92 [(IntKind.wrap .u8 i.op), (IntKind.wrap .u8 i.imm)] (e := 5) Nz.k Nz.k Nz.k Nz.k rfl Nz.k rfl) (E.vl (.agg #[.string (Z5a2i i), E.i 0]) (fun w h => E.run_build #[.string (Z5a2i i), E.i 0] Nz.k w) (E.st 1 [.string (Z5a2i i), E.i 0] rfl rfl (E.To.code (E.C.ret (E.b1 Tryz.f29 [.agg #[.string (Z5a2i i), E.i 0]] (fun w h => ⟨by unfold R2.Encode; rw [hc3, N0, hc5, N0, hc12, N0, hc20, N0, hc28, N0, hc35, N0, hc42, N0, hc55, N0, hc62, N0, hc88, N1] <;> rfl, h.ch.bel (fun _ h => h.elim)⟩))))))
 refine E.C.region (E.op (.bool ((R2.Format i.op) == 10)) (E.op (.bool ((R2.Format i.op) == 10)) (E.To.code (E.wk [(1, E.pt g1), (2, E.pt g2), (3, .slice (some ⟨g4, 0, none⟩) 1 1), (23, E.i (R2.Format i.op)), (93, .bool ((R2.Format i.op) == 10))] [(g4, [.int .u8 (IntKind.wrap .u8 i.op)]), (g2, [.string (⟨#[]⟩ : ByteArray), E.i 0]), (g1, (Z5a2f i))] Nz.sub (E.cd ((R2.Format i.op) == 10) (fun hc96 => ?_) (fun hc96 => ?_))))))
 ·
  refine E.C.region (E.op (Z5a2k g4) (E.op (E.pj g1 5) (E.li (E.u i.imm) 2 rfl rfl (E.op (.int .u8 (IntKind.wrap .u8 i.imm)) (E.G.buildSlice [.int .u8 (IntKind.wrap .u8 i.imm)] Nz.k Nz.k (fun g97 => E.G.append (e := 5) 1 g4 1 1 0 g97 0 1 1 1 1 [.int .u8 (IntKind.wrap .u8 i.op)] [] [.int .u8 (IntKind.wrap .u8 i.imm)] _ Nz.k Nz.k Nz.k rfl Nz.k (by first | rfl | omega | assumption) (by first | omega | decide) Nz.k rfl Nz.k rfl (by rfl) (by omega) (by omega) (by omega) Nz.k (fun g98 c99 r100 hc101 hr102 => E.op (.slice (some ⟨g98, 0, none⟩) 2 c99) (E.P.nb (E.To.code (E.wk [(2, E.pt g2), (3, .slice (some ⟨g98, 0, none⟩) 2 c99)] [(g98, ([.int .u8 (IntKind.wrap .u8 i.op), .int .u8 (IntKind.wrap .u8 i.imm)] ++ r100)), (g2, [.string (⟨#[]⟩ : ByteArray), E.i 0])] Nz.sub (E.sr (E.op (.slice (some ⟨g98, 0, none⟩) 2 c99) ?_))))))))))))
  exact E.vl (.string (Z5a2i i)) (fun w h => E.b2s h 0 g98 0 2 c99 [(IntKind.wrap .u8 i.op), (IntKind.wrap .u8 i.imm)] (e := 5) Nz.k Nz.k Nz.k Nz.k rfl Nz.k rfl) (E.vl (.agg #[.string (Z5a2i i), E.i 0]) (fun w h => E.run_build #[.string (Z5a2i i), E.i 0] Nz.k w) (E.st 1 [.string (Z5a2i i), E.i 0] rfl rfl (E.To.code (E.C.ret (E.b1 Tryz.f29 [.agg #[.string (Z5a2i i), E.i 0]] (fun w h => ⟨by unfold R2.Encode; rw [hc3, N0, hc5, N0, hc12, N0, hc20, N0, hc28, N0, hc35, N0, hc42, N0, hc55, N0, hc62, N0, hc88, N0, hc96, N1] <;> rfl, h.ch.bel (fun _ h => h.elim)⟩))))))
 refine E.sr (E.op (.bool ((R2.Format i.op) == 9)) (E.op (.bool ((R2.Format i.op) == 9)) (E.To.code (E.cd ((R2.Format i.op) == 9) (fun hc103 => ?_) (fun hc103 => ?_)))))
 ·
  refine E.C.region (E.op (Z5a2k g4) (E.op (E.pj g1 5) (E.li (E.u i.imm) 2 rfl rfl (E.G.callX (I := Nat) (fun _ => True) (fun g => .slice (some ⟨g, 0, none⟩) 4 4) (fun _ => fun _ => True) (fun g => (g, [.int .u8 (IntKind.wrap .u8 i.imm), .int .u8 (IntKind.wrap .u8 (IntKind.wrap .u32 (Int.tdiv i.imm 256))), .int .u8 (IntKind.wrap .u8 (IntKind.wrap .u32 (Int.tdiv i.imm 65536))), .int .u8 (IntKind.wrap .u8 (IntKind.wrap .u32 (Int.tdiv i.imm 16777216)))]) :: [(g4, [.int .u8 (IntKind.wrap .u8 i.op)]), (g2, [.string (⟨#[]⟩ : ByteArray), E.i 0]), (g1, (Z5a2f i))]) (fun w h => (R2_four i.imm w h).mono fun e w1 ⟨g, he, hh⟩ => ⟨g, trivial, he, hh⟩) (fun w _ => Nz.k) Nz.k (fun g104 _ => E.G.append (e := 5) 1 g4 1 1 0 g104 0 4 4 1 1 [.int .u8 (IntKind.wrap .u8 i.op)] [] [.int .u8 (IntKind.wrap .u8 i.imm), .int .u8 (IntKind.wrap .u8 (IntKind.wrap .u32 (Int.tdiv i.imm 256))), .int .u8 (IntKind.wrap .u8 (IntKind.wrap .u32 (Int.tdiv i.imm 65536))), .int .u8 (IntKind.wrap .u8 (IntKind.wrap .u32 (Int.tdiv i.imm 16777216)))] _ Nz.k Nz.k Nz.k rfl Nz.k (by first | rfl | omega | assumption) (by first | omega | decide) Nz.k rfl Nz.k rfl (by rfl) (by omega) (by omega) (by omega) Nz.k (fun g105 c106 r107 hc108 hr109 => E.op (.slice (some ⟨g105, 0, none⟩) 5 c106) (E.P.nb (E.To.code (E.wk [(2, E.pt g2), (3, .slice (some ⟨g105, 0, none⟩) 5 c106)] [(g105, ([.int .u8 (IntKind.wrap .u8 i.op), .int .u8 (IntKind.wrap .u8 i.imm), .int .u8 (IntKind.wrap .u8 (IntKind.wrap .u32 (Int.tdiv i.imm 256))), .int .u8 (IntKind.wrap .u8 (IntKind.wrap .u32 (Int.tdiv i.imm 65536))), .int .u8 (IntKind.wrap .u8 (IntKind.wrap .u32 (Int.tdiv i.imm 16777216)))] ++ r107)), (g2, [.string (⟨#[]⟩ : ByteArray), E.i 0])] Nz.sub (E.sr (E.op (.slice (some ⟨g105, 0, none⟩) 5 c106) (E.vl (.string (Z5a2e i)) (fun w h => E.b2s h 0 g105 0 5 c106 [(IntKind.wrap .u8 i.op), (IntKind.wrap .u8 i.imm), (IntKind.wrap .u8 (IntKind.wrap .u32 (Int.tdiv i.imm 256))), (IntKind.wrap .u8 (IntKind.wrap .u32 (Int.tdiv i.imm 65536))), (IntKind.wrap .u8 (IntKind.wrap .u32 (Int.tdiv i.imm 16777216)))] (e := 5) Nz.k Nz.k Nz.k Nz.k rfl Nz.k rfl) ?_))))))))))))
  exact E.vl (.agg #[.string (Z5a2e i), E.i 0]) (fun w h => E.run_build #[.string (Z5a2e i), E.i 0] Nz.k w) (E.st 1 [.string (Z5a2e i), E.i 0] rfl rfl (E.To.code (E.C.ret (E.b1 Tryz.f29 [.agg #[.string (Z5a2e i), E.i 0]] (fun w h => ⟨by unfold R2.Encode; rw [hc3, N0, hc5, N0, hc12, N0, hc20, N0, hc28, N0, hc35, N0, hc42, N0, hc55, N0, hc62, N0, hc88, N0, hc96, N0, hc103, N1] <;> rfl, h.ch.bel (fun _ h => h.elim)⟩)))))
 exact E.C.skip (E.P.nb (E.To.code (E.sr (E.op (Z5a2k g4) (E.vl (.string (Z5a2q i)) (fun w h => E.b2s h 0 g4 0 1 1 [(IntKind.wrap .u8 i.op)] (e := 5) Nz.k Nz.k Nz.k Nz.k rfl Nz.k rfl) (E.vl (.agg #[.string (Z5a2q i), E.i 0]) (fun w h => E.run_build #[.string (Z5a2q i), E.i 0] Nz.k w) (E.st 1 [.string (Z5a2q i), E.i 0] rfl rfl (E.To.code (E.wk [(2, E.pt g2)] [(g2, [.string (Z5a2q i), E.i 0])] Nz.sub (E.C.ret (E.b0 Tryz.f29 [.agg #[.string (Z5a2q i), E.i 0]] (fun w h => ⟨by unfold R2.Encode; rw [hc3, N0, hc5, N0, hc12, N0, hc20, N0, hc28, N0, hc35, N0, hc42, N0, hc55, N0, hc62, N0, hc88, N0, hc96, N0, hc103, N0] <;> rfl, h.ch.bel (fun _ h => h.elim)⟩))))))))))))
end Go.Proofs.YtglidnmmeclneaaGreat
