/- Walks: kcode.read for each of the eleven formats, over a string that is long enough. -/
import Derived.Test.YtgnekniabedomaaKi
namespace Go.Proofs.Ytgnekniabedomaa
set_option linter.unusedVariables false
set_option linter.unusedSimpArgs false
open Go.RowKit
def K.t_plain (l : List UInt8) (n : Nat) (i : K.Ins) : K.Ins := { i with imm := W.byt l n }
theorem plain_t : TakeOK 54 1 K.t_plain := plain_ok
def K.t_none (l : List UInt8) (n : Nat) (i : K.Ins) : K.Ins := i
theorem none_t : TakeOK 40 0 K.t_none := none_ok
def K.i0 (l : List UInt8) (sz : Int) : K.Ins := ⟨W.byt l 0, 0, 0, -1, 0, 0, sz⟩
/-- The instruction that format k reads. -/
def K.rd (k : Nat) (l : List UInt8) (sz : Int) : K.Ins := match k with
  | 0 => K.t_none l 1 (K.i0 l sz)
  | 1 => K.t_reg l 1 (K.i0 l sz)
  | 2 => K.t_pair l 1 (K.i0 l sz)
  | 3 => (K.t_small l (1 + 1) (K.t_reg l (1 + 0) (K.i0 l sz)))
  | 4 => (K.t_full l (1 + 1) (K.t_reg l (1 + 0) (K.i0 l sz)))
  | 5 => (K.t_small l (1 + 1) (K.t_pair l (1 + 0) (K.i0 l sz)))
  | 6 => (K.t_full l (1 + 2) (K.t_index l (1 + 1) (K.t_pair l (1 + 0) (K.i0 l sz))))
  | 7 => K.t_small l 1 (K.i0 l sz)
  | 8 => K.t_full l 1 (K.i0 l sz)
  | 9 => K.t_plain l 1 (K.i0 l sz)
  | 10 => K.t_pair l 1 (K.i0 l sz)
  | _ => K.i0 l sz
theorem K.enter_full (args : Array Value) (w : World) : (callFunc 50 args).run Try.prog w = .ok (.enter 50 args) w := by go_simp
theorem K.enter_none (args : Array Value) (w : World) : (callFunc 40 args).run Try.prog w = .ok (.enter 40 args) w := by go_simp
theorem K.enter_pair (args : Array Value) (w : World) : (callFunc 44 args).run Try.prog w = .ok (.enter 44 args) w := by go_simp
theorem K.enter_plain (args : Array Value) (w : World) : (callFunc 54 args).run Try.prog w = .ok (.enter 54 args) w := by go_simp
theorem K.enter_reg (args : Array Value) (w : World) : (callFunc 42 args).run Try.prog w = .ok (.enter 42 args) w := by go_simp
theorem K.enter_small (args : Array Value) (w : World) : (callFunc 47 args).run Try.prog w = .ok (.enter 47 args) w := by go_simp
theorem K.enter_takes_1 (args : Array Value) (w : World) : (callFunc 55 args).run Try.prog w = .ok (.enter 55 args) w := by go_simp
theorem read_0 (t p : Value) (w : World) (h : K.Fm 0 t p w) (s : ByteArray) (hs : s.size ≤ maxLen) (hl : 1 ≤ s.size) :
    Calls Try.prog 28 #[.agg #[.int .i64 (K.lo 0), .int .i64 (K.hi 0), .int .i64 (K.len 0), t, p], .string s] w fun e w' => e = .returned (.agg #[.int .i64 (K.rd 0 s.data.toList (K.len 0)).op, .int .i64 (K.rd 0 s.data.toList (K.len 0)).d, .int .i64 (K.rd 0 s.data.toList (K.len 0)).s, .int .i64 (K.rd 0 s.data.toList (K.len 0)).ix, .int .i64 (K.rd 0 s.data.toList (K.len 0)).sc, .int .u32 (K.rd 0 s.data.toList (K.len 0)).imm, .int .i64 (K.rd 0 s.data.toList (K.len 0)).sz]) ∧ Bel w w' := by
  obtain ⟨rfl, rfl⟩ := h
  refine read_of _ _ _ _ _ #[] #[] s (K.rd 0 s.data.toList (K.len 0)) w hs (by omega) K.enter_none ?_
  intro ga gs gi wx hr hk n1 n2 h5 h4 hb
  rw [Array.append_empty]
  exact (none_t ga gs gi s 1 _ wx hr hk n1 n2 (by omega) hs).mono fun e w' ⟨a, _, b, c⟩ => ⟨a, b, c⟩
theorem read_1 (t p : Value) (w : World) (h : K.Fm 1 t p w) (s : ByteArray) (hs : s.size ≤ maxLen) (hl : 2 ≤ s.size) :
    Calls Try.prog 28 #[.agg #[.int .i64 (K.lo 1), .int .i64 (K.hi 1), .int .i64 (K.len 1), t, p], .string s] w fun e w' => e = .returned (.agg #[.int .i64 (K.rd 1 s.data.toList (K.len 1)).op, .int .i64 (K.rd 1 s.data.toList (K.len 1)).d, .int .i64 (K.rd 1 s.data.toList (K.len 1)).s, .int .i64 (K.rd 1 s.data.toList (K.len 1)).ix, .int .i64 (K.rd 1 s.data.toList (K.len 1)).sc, .int .u32 (K.rd 1 s.data.toList (K.len 1)).imm, .int .i64 (K.rd 1 s.data.toList (K.len 1)).sz]) ∧ Bel w w' := by
  obtain ⟨rfl, rfl⟩ := h
  refine read_of _ _ _ _ _ #[] #[] s (K.rd 1 s.data.toList (K.len 1)) w hs (by omega) K.enter_reg ?_
  intro ga gs gi wx hr hk n1 n2 h5 h4 hb
  rw [Array.append_empty]
  exact (reg_t ga gs gi s 1 _ wx hr hk n1 n2 (by omega) hs).mono fun e w' ⟨a, _, b, c⟩ => ⟨a, b, c⟩
theorem read_2 (t p : Value) (w : World) (h : K.Fm 2 t p w) (s : ByteArray) (hs : s.size ≤ maxLen) (hl : 2 ≤ s.size) :
    Calls Try.prog 28 #[.agg #[.int .i64 (K.lo 2), .int .i64 (K.hi 2), .int .i64 (K.len 2), t, p], .string s] w fun e w' => e = .returned (.agg #[.int .i64 (K.rd 2 s.data.toList (K.len 2)).op, .int .i64 (K.rd 2 s.data.toList (K.len 2)).d, .int .i64 (K.rd 2 s.data.toList (K.len 2)).s, .int .i64 (K.rd 2 s.data.toList (K.len 2)).ix, .int .i64 (K.rd 2 s.data.toList (K.len 2)).sc, .int .u32 (K.rd 2 s.data.toList (K.len 2)).imm, .int .i64 (K.rd 2 s.data.toList (K.len 2)).sz]) ∧ Bel w w' := by
  obtain ⟨rfl, rfl⟩ := h
  refine read_of _ _ _ _ _ #[] #[] s (K.rd 2 s.data.toList (K.len 2)) w hs (by omega) K.enter_pair ?_
  intro ga gs gi wx hr hk n1 n2 h5 h4 hb
  rw [Array.append_empty]
  exact (pair_t ga gs gi s 1 _ wx hr hk n1 n2 (by omega) hs).mono fun e w' ⟨a, _, b, c⟩ => ⟨a, b, c⟩
theorem read_3 (t p : Value) (w : World) (h : K.Fm 3 t p w) (s : ByteArray) (hs : s.size ≤ maxLen) (hl : 3 ≤ s.size) :
    Calls Try.prog 28 #[.agg #[.int .i64 (K.lo 3), .int .i64 (K.hi 3), .int .i64 (K.len 3), t, p], .string s] w fun e w' => e = .returned (.agg #[.int .i64 (K.rd 3 s.data.toList (K.len 3)).op, .int .i64 (K.rd 3 s.data.toList (K.len 3)).d, .int .i64 (K.rd 3 s.data.toList (K.len 3)).s, .int .i64 (K.rd 3 s.data.toList (K.len 3)).ix, .int .i64 (K.rd 3 s.data.toList (K.len 3)).sc, .int .u32 (K.rd 3 s.data.toList (K.len 3)).imm, .int .i64 (K.rd 3 s.data.toList (K.len 3)).sz]) ∧ Bel w w' := by
  obtain ⟨⟨c, b, cap, rfl, g1, g2⟩, ⟨c', b', cap', rfl, _, _⟩⟩ := h
  refine read_of _ _ _ _ _ #[.pointer (some ⟨c, 0, none⟩)] _ s (K.rd 3 s.data.toList (K.len 3)) w hs (by omega) K.enter_takes_1 ?_
  intro ga gs gi wx hr hk n1 n2 h5 h4 hb
  have hbl := lt_of_cell (g2 0 (by simp))
  have hq : ∀ j, j < 2 → wx.cell? ⟨b, j, none⟩ = _ := fun j hj => Bel.at hb (g2 j hj)
  have key := takes_reg_small ga gs gi c b cap s 1 _ wx hr hk n1 n2 (by omega) hs (Bel.at hb g1) (hq 0 (by decide)) (hq 1 (by decide)) (by simp at hbl; omega) (by simp at hbl; omega)
  exact key.mono fun e w' ⟨a, _, b, c⟩ => ⟨a, b, c⟩
theorem read_4 (t p : Value) (w : World) (h : K.Fm 4 t p w) (s : ByteArray) (hs : s.size ≤ maxLen) (hl : 6 ≤ s.size) :
    Calls Try.prog 28 #[.agg #[.int .i64 (K.lo 4), .int .i64 (K.hi 4), .int .i64 (K.len 4), t, p], .string s] w fun e w' => e = .returned (.agg #[.int .i64 (K.rd 4 s.data.toList (K.len 4)).op, .int .i64 (K.rd 4 s.data.toList (K.len 4)).d, .int .i64 (K.rd 4 s.data.toList (K.len 4)).s, .int .i64 (K.rd 4 s.data.toList (K.len 4)).ix, .int .i64 (K.rd 4 s.data.toList (K.len 4)).sc, .int .u32 (K.rd 4 s.data.toList (K.len 4)).imm, .int .i64 (K.rd 4 s.data.toList (K.len 4)).sz]) ∧ Bel w w' := by
  obtain ⟨⟨c, b, cap, rfl, g1, g2⟩, ⟨c', b', cap', rfl, _, _⟩⟩ := h
  refine read_of _ _ _ _ _ #[.pointer (some ⟨c, 0, none⟩)] _ s (K.rd 4 s.data.toList (K.len 4)) w hs (by omega) K.enter_takes_1 ?_
  intro ga gs gi wx hr hk n1 n2 h5 h4 hb
  have hbl := lt_of_cell (g2 0 (by simp))
  have hq : ∀ j, j < 2 → wx.cell? ⟨b, j, none⟩ = _ := fun j hj => Bel.at hb (g2 j hj)
  have key := takes_reg_full ga gs gi c b cap s 1 _ wx hr hk n1 n2 (by omega) hs (Bel.at hb g1) (hq 0 (by decide)) (hq 1 (by decide)) (by simp at hbl; omega) (by simp at hbl; omega)
  exact key.mono fun e w' ⟨a, _, b, c⟩ => ⟨a, b, c⟩
theorem read_5 (t p : Value) (w : World) (h : K.Fm 5 t p w) (s : ByteArray) (hs : s.size ≤ maxLen) (hl : 3 ≤ s.size) :
    Calls Try.prog 28 #[.agg #[.int .i64 (K.lo 5), .int .i64 (K.hi 5), .int .i64 (K.len 5), t, p], .string s] w fun e w' => e = .returned (.agg #[.int .i64 (K.rd 5 s.data.toList (K.len 5)).op, .int .i64 (K.rd 5 s.data.toList (K.len 5)).d, .int .i64 (K.rd 5 s.data.toList (K.len 5)).s, .int .i64 (K.rd 5 s.data.toList (K.len 5)).ix, .int .i64 (K.rd 5 s.data.toList (K.len 5)).sc, .int .u32 (K.rd 5 s.data.toList (K.len 5)).imm, .int .i64 (K.rd 5 s.data.toList (K.len 5)).sz]) ∧ Bel w w' := by
  obtain ⟨⟨c, b, cap, rfl, g1, g2⟩, ⟨c', b', cap', rfl, _, _⟩⟩ := h
  refine read_of _ _ _ _ _ #[.pointer (some ⟨c, 0, none⟩)] _ s (K.rd 5 s.data.toList (K.len 5)) w hs (by omega) K.enter_takes_1 ?_
  intro ga gs gi wx hr hk n1 n2 h5 h4 hb
  have hbl := lt_of_cell (g2 0 (by simp))
  have hq : ∀ j, j < 2 → wx.cell? ⟨b, j, none⟩ = _ := fun j hj => Bel.at hb (g2 j hj)
  have key := takes_pair_small ga gs gi c b cap s 1 _ wx hr hk n1 n2 (by omega) hs (Bel.at hb g1) (hq 0 (by decide)) (hq 1 (by decide)) (by simp at hbl; omega) (by simp at hbl; omega)
  exact key.mono fun e w' ⟨a, _, b, c⟩ => ⟨a, b, c⟩
theorem read_6 (t p : Value) (w : World) (h : K.Fm 6 t p w) (s : ByteArray) (hs : s.size ≤ maxLen) (hl : 7 ≤ s.size) :
    Calls Try.prog 28 #[.agg #[.int .i64 (K.lo 6), .int .i64 (K.hi 6), .int .i64 (K.len 6), t, p], .string s] w fun e w' => e = .returned (.agg #[.int .i64 (K.rd 6 s.data.toList (K.len 6)).op, .int .i64 (K.rd 6 s.data.toList (K.len 6)).d, .int .i64 (K.rd 6 s.data.toList (K.len 6)).s, .int .i64 (K.rd 6 s.data.toList (K.len 6)).ix, .int .i64 (K.rd 6 s.data.toList (K.len 6)).sc, .int .u32 (K.rd 6 s.data.toList (K.len 6)).imm, .int .i64 (K.rd 6 s.data.toList (K.len 6)).sz]) ∧ Bel w w' := by
  obtain ⟨⟨c, b, cap, rfl, g1, g2⟩, ⟨c', b', cap', rfl, _, _⟩⟩ := h
  refine read_of _ _ _ _ _ #[.pointer (some ⟨c, 0, none⟩)] _ s (K.rd 6 s.data.toList (K.len 6)) w hs (by omega) K.enter_takes_1 ?_
  intro ga gs gi wx hr hk n1 n2 h5 h4 hb
  have hbl := lt_of_cell (g2 0 (by simp))
  have hq : ∀ j, j < 3 → wx.cell? ⟨b, j, none⟩ = _ := fun j hj => Bel.at hb (g2 j hj)
  have key := takes_pair_index_full ga gs gi c b cap s 1 _ wx hr hk n1 n2 (by omega) hs (Bel.at hb g1) (hq 0 (by decide)) (hq 1 (by decide)) (hq 2 (by decide)) (by simp at hbl; omega) (by simp at hbl; omega)
  exact key.mono fun e w' ⟨a, _, b, c⟩ => ⟨a, b, c⟩
theorem read_7 (t p : Value) (w : World) (h : K.Fm 7 t p w) (s : ByteArray) (hs : s.size ≤ maxLen) (hl : 2 ≤ s.size) :
    Calls Try.prog 28 #[.agg #[.int .i64 (K.lo 7), .int .i64 (K.hi 7), .int .i64 (K.len 7), t, p], .string s] w fun e w' => e = .returned (.agg #[.int .i64 (K.rd 7 s.data.toList (K.len 7)).op, .int .i64 (K.rd 7 s.data.toList (K.len 7)).d, .int .i64 (K.rd 7 s.data.toList (K.len 7)).s, .int .i64 (K.rd 7 s.data.toList (K.len 7)).ix, .int .i64 (K.rd 7 s.data.toList (K.len 7)).sc, .int .u32 (K.rd 7 s.data.toList (K.len 7)).imm, .int .i64 (K.rd 7 s.data.toList (K.len 7)).sz]) ∧ Bel w w' := by
  obtain ⟨rfl, rfl⟩ := h
  refine read_of _ _ _ _ _ #[] #[] s (K.rd 7 s.data.toList (K.len 7)) w hs (by omega) K.enter_small ?_
  intro ga gs gi wx hr hk n1 n2 h5 h4 hb
  rw [Array.append_empty]
  exact (small_t ga gs gi s 1 _ wx hr hk n1 n2 (by omega) hs).mono fun e w' ⟨a, _, b, c⟩ => ⟨a, b, c⟩
theorem read_8 (t p : Value) (w : World) (h : K.Fm 8 t p w) (s : ByteArray) (hs : s.size ≤ maxLen) (hl : 5 ≤ s.size) :
    Calls Try.prog 28 #[.agg #[.int .i64 (K.lo 8), .int .i64 (K.hi 8), .int .i64 (K.len 8), t, p], .string s] w fun e w' => e = .returned (.agg #[.int .i64 (K.rd 8 s.data.toList (K.len 8)).op, .int .i64 (K.rd 8 s.data.toList (K.len 8)).d, .int .i64 (K.rd 8 s.data.toList (K.len 8)).s, .int .i64 (K.rd 8 s.data.toList (K.len 8)).ix, .int .i64 (K.rd 8 s.data.toList (K.len 8)).sc, .int .u32 (K.rd 8 s.data.toList (K.len 8)).imm, .int .i64 (K.rd 8 s.data.toList (K.len 8)).sz]) ∧ Bel w w' := by
  obtain ⟨rfl, rfl⟩ := h
  refine read_of _ _ _ _ _ #[] #[] s (K.rd 8 s.data.toList (K.len 8)) w hs (by omega) K.enter_full ?_
  intro ga gs gi wx hr hk n1 n2 h5 h4 hb
  rw [Array.append_empty]
  exact (full_t ga gs gi s 1 _ wx hr hk n1 n2 (by omega) hs).mono fun e w' ⟨a, _, b, c⟩ => ⟨a, b, c⟩
theorem read_9 (t p : Value) (w : World) (h : K.Fm 9 t p w) (s : ByteArray) (hs : s.size ≤ maxLen) (hl : 2 ≤ s.size) :
    Calls Try.prog 28 #[.agg #[.int .i64 (K.lo 9), .int .i64 (K.hi 9), .int .i64 (K.len 9), t, p], .string s] w fun e w' => e = .returned (.agg #[.int .i64 (K.rd 9 s.data.toList (K.len 9)).op, .int .i64 (K.rd 9 s.data.toList (K.len 9)).d, .int .i64 (K.rd 9 s.data.toList (K.len 9)).s, .int .i64 (K.rd 9 s.data.toList (K.len 9)).ix, .int .i64 (K.rd 9 s.data.toList (K.len 9)).sc, .int .u32 (K.rd 9 s.data.toList (K.len 9)).imm, .int .i64 (K.rd 9 s.data.toList (K.len 9)).sz]) ∧ Bel w w' := by
  obtain ⟨rfl, rfl⟩ := h
  refine read_of _ _ _ _ _ #[] #[] s (K.rd 9 s.data.toList (K.len 9)) w hs (by omega) K.enter_plain ?_
  intro ga gs gi wx hr hk n1 n2 h5 h4 hb
  rw [Array.append_empty]
  exact (plain_t ga gs gi s 1 _ wx hr hk n1 n2 (by omega) hs).mono fun e w' ⟨a, _, b, c⟩ => ⟨a, b, c⟩
theorem read_10 (t p : Value) (w : World) (h : K.Fm 10 t p w) (s : ByteArray) (hs : s.size ≤ maxLen) (hl : 2 ≤ s.size) :
    Calls Try.prog 28 #[.agg #[.int .i64 (K.lo 10), .int .i64 (K.hi 10), .int .i64 (K.len 10), t, p], .string s] w fun e w' => e = .returned (.agg #[.int .i64 (K.rd 10 s.data.toList (K.len 10)).op, .int .i64 (K.rd 10 s.data.toList (K.len 10)).d, .int .i64 (K.rd 10 s.data.toList (K.len 10)).s, .int .i64 (K.rd 10 s.data.toList (K.len 10)).ix, .int .i64 (K.rd 10 s.data.toList (K.len 10)).sc, .int .u32 (K.rd 10 s.data.toList (K.len 10)).imm, .int .i64 (K.rd 10 s.data.toList (K.len 10)).sz]) ∧ Bel w w' := by
  obtain ⟨rfl, rfl⟩ := h
  refine read_of _ _ _ _ _ #[] #[] s (K.rd 10 s.data.toList (K.len 10)) w hs (by omega) K.enter_pair ?_
  intro ga gs gi wx hr hk n1 n2 h5 h4 hb
  rw [Array.append_empty]
  exact (pair_t ga gs gi s 1 _ wx hr hk n1 n2 (by omega) hs).mono fun e w' ⟨a, _, b, c⟩ => ⟨a, b, c⟩
theorem read_any (k : Nat) (hk : k < 11) (t p : Value) (w : World) (h : K.Fm k t p w) (s : ByteArray) (hs : s.size ≤ maxLen) (hl : K.len k ≤ (s.size : Int)) :
    Calls Try.prog 28 #[.agg #[.int .i64 (K.lo k), .int .i64 (K.hi k), .int .i64 (K.len k), t, p], .string s] w fun e w' => e = .returned (.agg #[.int .i64 (K.rd k s.data.toList (K.len k)).op, .int .i64 (K.rd k s.data.toList (K.len k)).d, .int .i64 (K.rd k s.data.toList (K.len k)).s, .int .i64 (K.rd k s.data.toList (K.len k)).ix, .int .i64 (K.rd k s.data.toList (K.len k)).sc, .int .u32 (K.rd k s.data.toList (K.len k)).imm, .int .i64 (K.rd k s.data.toList (K.len k)).sz]) ∧ Bel w w' := by
  rcases (by omega : k = 0 ∨ k = 1 ∨ k = 2 ∨ k = 3 ∨ k = 4 ∨ k = 5 ∨ k = 6 ∨ k = 7 ∨ k = 8 ∨ k = 9 ∨ k = 10) with rfl | rfl | rfl | rfl | rfl | rfl | rfl | rfl | rfl | rfl | rfl
  · exact read_0 t p w h s hs (by have : K.len 0 = 1 := rfl; omega)
  · exact read_1 t p w h s hs (by have : K.len 1 = 2 := rfl; omega)
  · exact read_2 t p w h s hs (by have : K.len 2 = 2 := rfl; omega)
  · exact read_3 t p w h s hs (by have : K.len 3 = 3 := rfl; omega)
  · exact read_4 t p w h s hs (by have : K.len 4 = 6 := rfl; omega)
  · exact read_5 t p w h s hs (by have : K.len 5 = 3 := rfl; omega)
  · exact read_6 t p w h s hs (by have : K.len 6 = 7 := rfl; omega)
  · exact read_7 t p w h s hs (by have : K.len 7 = 2 := rfl; omega)
  · exact read_8 t p w h s hs (by have : K.len 8 = 5 := rfl; omega)
  · exact read_9 t p w h s hs (by have : K.len 9 = 2 := rfl; omega)
  · exact read_10 t p w h s hs (by have : K.len 10 = 2 := rfl; omega)
end Go.Proofs.Ytgnekniabedomaa
