/- Walks: the functions of kcode that read the fields of an instruction (none, reg, pair, small, plain, full, index), over a reader with enough bytes left. -/
import Derived.Test.YtgnekniabedomaaProg
import Derived.Test.YtgnekniabedomaaBase
import Derived.Test.YtgnekniabedomaaWg
import Derived.Test.YtgnekniabedomaaWh
namespace Go.Proofs.Ytgnekniabedomaa
set_option linter.unusedVariables false
set_option linter.unusedSimpArgs false
open Go.RowKit
/-- An instruction, as seven numbers. -/
structure K.Ins where
  op : Int
  d : Int
  s : Int
  ix : Int
  sc : Int
  imm : Int
  sz : Int
/-- The cells of an instruction at block g. -/
structure Ki (g : Nat) (i : K.Ins) (w : World) : Prop where
  c0 : w.cell? ⟨g, 0, none⟩ = some (.int .i64 i.op)
  c1 : w.cell? ⟨g, 1, none⟩ = some (.int .i64 i.d)
  c2 : w.cell? ⟨g, 2, none⟩ = some (.int .i64 i.s)
  c3 : w.cell? ⟨g, 3, none⟩ = some (.int .i64 i.ix)
  c4 : w.cell? ⟨g, 4, none⟩ = some (.int .i64 i.sc)
  c5 : w.cell? ⟨g, 5, none⟩ = some (.int .u32 i.imm)
  c6 : w.cell? ⟨g, 6, none⟩ = some (.int .i64 i.sz)
  fz : ∀ j, w.frozen? ⟨g, j, none⟩ = false
/-- A reader of the string s, of which n bytes are read: its two captured cells. -/
structure Rd (ga gs : Nat) (s : ByteArray) (n : Nat) (w : World) : Prop where
  at' : w.cell? ⟨ga, 0, none⟩ = some (.int .i64 n)
  fz : w.frozen? ⟨ga, 0, none⟩ = false
  str : w.cell? ⟨gs, 0, none⟩ = some (.string s)
  ne : ga ≠ gs
theorem Ki.ch {S : Nat → Prop} {g : Nat} {i : K.Ins} {w w' : World} (h : Ki g i w) (k : Ch S w w') (hn : ¬ S g) : Ki g i w' := by
  have hb := lt_of_cell h.c0
  exact ⟨(k.cell g 0 hb hn).trans h.c0, (k.cell g 1 hb hn).trans h.c1, (k.cell g 2 hb hn).trans h.c2, (k.cell g 3 hb hn).trans h.c3, (k.cell g 4 hb hn).trans h.c4, (k.cell g 5 hb hn).trans h.c5, (k.cell g 6 hb hn).trans h.c6, fun j => (k.frozen g j hb hn).trans (h.fz j)⟩
theorem Rd.ch {S : Nat → Prop} {ga gs n : Nat} {s : ByteArray} {w w' : World} (h : Rd ga gs s n w) (k : Ch S w w') (hn : ¬ S ga) (hm : ¬ S gs) : Rd ga gs s n w' := by
  have hb := lt_of_cell h.at'
  have hs := lt_of_cell h.str
  exact ⟨(k.cell ga 0 hb hn).trans h.at', (k.frozen ga 0 hb hn).trans h.fz, (k.cell gs 0 hs hm).trans h.str, h.ne⟩
theorem Rd.bel {ga gs n : Nat} {s : ByteArray} {w w' : World} (h : Rd ga gs s n w) (k : Bel w w') : Rd ga gs s n w' := h.ch (k.ch fun _ => False) id id
theorem Ki.bel {g : Nat} {i : K.Ins} {w w' : World} (h : Ki g i w) (k : Bel w w') : Ki g i w' := h.ch (k.ch fun _ => False) id
theorem other_cell (w : World) {g j g' j' : Nat} (v : Value) (h : g ≠ g' ∨ j ≠ j') : (w.setCell ⟨g, j, none⟩ v).cell? ⟨g', j', none⟩ = w.cell? ⟨g', j', none⟩ := by
  refine World.cell?_setCell_other _ _ _ _ ?_
  intro q; injection q with h1 h2 _; rcases h with h | h
  · exact h h1
  · exact h h2
theorem Ki.d' {g : Nat} {i : K.Ins} {w : World} (h : Ki g i w) (v : Int) : Ki g { i with d := v } (w.setCell ⟨g, 1, none⟩ (.int .i64 v)) :=
  ⟨by rw [other_cell _ _ (by simp)]; exact h.c0, cell_set h.c1, by rw [other_cell _ _ (by simp)]; exact h.c2, by rw [other_cell _ _ (by simp)]; exact h.c3, by rw [other_cell _ _ (by simp)]; exact h.c4, by rw [other_cell _ _ (by simp)]; exact h.c5, by rw [other_cell _ _ (by simp)]; exact h.c6, fun j => by rw [frozen_set]; exact h.fz j⟩
theorem Ki.s' {g : Nat} {i : K.Ins} {w : World} (h : Ki g i w) (v : Int) : Ki g { i with s := v } (w.setCell ⟨g, 2, none⟩ (.int .i64 v)) :=
  ⟨by rw [other_cell _ _ (by simp)]; exact h.c0, by rw [other_cell _ _ (by simp)]; exact h.c1, cell_set h.c2, by rw [other_cell _ _ (by simp)]; exact h.c3, by rw [other_cell _ _ (by simp)]; exact h.c4, by rw [other_cell _ _ (by simp)]; exact h.c5, by rw [other_cell _ _ (by simp)]; exact h.c6, fun j => by rw [frozen_set]; exact h.fz j⟩
theorem Ki.ix' {g : Nat} {i : K.Ins} {w : World} (h : Ki g i w) (v : Int) : Ki g { i with ix := v } (w.setCell ⟨g, 3, none⟩ (.int .i64 v)) :=
  ⟨by rw [other_cell _ _ (by simp)]; exact h.c0, by rw [other_cell _ _ (by simp)]; exact h.c1, by rw [other_cell _ _ (by simp)]; exact h.c2, cell_set h.c3, by rw [other_cell _ _ (by simp)]; exact h.c4, by rw [other_cell _ _ (by simp)]; exact h.c5, by rw [other_cell _ _ (by simp)]; exact h.c6, fun j => by rw [frozen_set]; exact h.fz j⟩
theorem Ki.sc' {g : Nat} {i : K.Ins} {w : World} (h : Ki g i w) (v : Int) : Ki g { i with sc := v } (w.setCell ⟨g, 4, none⟩ (.int .i64 v)) :=
  ⟨by rw [other_cell _ _ (by simp)]; exact h.c0, by rw [other_cell _ _ (by simp)]; exact h.c1, by rw [other_cell _ _ (by simp)]; exact h.c2, by rw [other_cell _ _ (by simp)]; exact h.c3, cell_set h.c4, by rw [other_cell _ _ (by simp)]; exact h.c5, by rw [other_cell _ _ (by simp)]; exact h.c6, fun j => by rw [frozen_set]; exact h.fz j⟩
theorem Ki.imm' {g : Nat} {i : K.Ins} {w : World} (h : Ki g i w) (v : Int) : Ki g { i with imm := v } (w.setCell ⟨g, 5, none⟩ (.int .u32 v)) :=
  ⟨by rw [other_cell _ _ (by simp)]; exact h.c0, by rw [other_cell _ _ (by simp)]; exact h.c1, by rw [other_cell _ _ (by simp)]; exact h.c2, by rw [other_cell _ _ (by simp)]; exact h.c3, by rw [other_cell _ _ (by simp)]; exact h.c4, cell_set h.c5, by rw [other_cell _ _ (by simp)]; exact h.c6, fun j => by rw [frozen_set]; exact h.fz j⟩
theorem Rd.set {ga gs gi n j : Nat} {s : ByteArray} {w : World} {v : Value} (h : Rd ga gs s n w) (h1 : ga ≠ gi) (h2 : gs ≠ gi) : Rd ga gs s n (w.setCell ⟨gi, j, none⟩ v) :=
  ⟨by rw [other_cell _ _ (.inl h1.symm)]; exact h.at', by rw [frozen_set]; exact h.fz, by rw [other_cell _ _ (.inl h2.symm)]; exact h.str, h.ne⟩
theorem Ch.then' {ga gi : Nat} {a b c : World} (h : Ch (fun x => x = ga) a b) (k : Ch (fun x => x = gi) b c) (v : Value) (i : Nat) : Ch (fun x => x = ga ∨ x = gi) a (c.setCell ⟨gi, i, none⟩ v) :=
  Ch.setCell ((h.mono fun x _ e => .inl e).trans' k (fun x _ e => .inr e)) (fun _ => .inr rfl) v
theorem next_any (ga gs : Nat) (s : ByteArray) (n : Nat) (w : World) (h : Rd ga gs s n w) (hn : n < s.size) (hs : s.size ≤ maxLen) :
    Calls Try.prog 38 #[.pointer (some ⟨ga, 0, none⟩), .pointer (some ⟨gs, 0, none⟩)] w fun e w' => e = .returned (.int .u8 (W.byt s.data.toList n)) ∧ Rd ga gs s (n + 1) w' ∧ Ch (fun x => x = ga) w w' := by
  unfold maxLen at hs
  obtain ⟨c0, c1, c2, c3⟩ := h
  have hw : IntKind.i64.wrap ((n : Int) + 1) = (n : Int) + 1 := IntWalk.i64_in _ (by omega)
  have hc := fun v => cell_set (v := v) c0
  have hd : ∀ v, (w.setCell ⟨ga, 0, none⟩ v).cell? ⟨gs, 0, none⟩ = some (.string s) := fun v => by rw [other_cell _ _ (.inl c3)]; exact c2
  go_enter Try.func38, Try.ntmps38
  go_wp2
  go_ret
  exact ⟨ret_int (W.byt_at s n hn), ⟨by rw [hc]; rfl, by rw [frozen_set]; exact c1, hd _, c3⟩, (Ch.refl (fun x => x = ga) w).setCell (p := ⟨ga, 0, none⟩) (fun _ => rfl) _⟩
/-- The function with number f reads k bytes and turns the instruction by t. -/
def TakeOK (f : FuncId) (k : Nat) (t : List UInt8 → Nat → K.Ins → K.Ins) : Prop := ∀ (ga gs gi : Nat) (s : ByteArray) (n : Nat) (i : K.Ins) (w : World), Rd ga gs s n w → Ki gi i w → ga ≠ gi → gs ≠ gi → n + k ≤ s.size → s.size ≤ maxLen →
  Calls Try.prog f #[.func (.func 38) #[] #[.pointer (some ⟨ga, 0, none⟩), .pointer (some ⟨gs, 0, none⟩)], .pointer (some ⟨gi, 0, none⟩)] w fun e w' => e = .returned (.tuple #[]) ∧ Rd ga gs s (n + k) w' ∧ Ki gi (t s.data.toList n i) w' ∧ Ch (fun x => x = ga ∨ x = gi) w w'
theorem K.and15 (b : Int) (h0 : 0 ≤ b) (h1 : b < 256) : bits .and .i64 b 15 = b % 16 := W.i64_and_mask 4 (by decide) b
theorem none_ok : TakeOK 40 0 (fun _ _ i => i) := by
  intro ga gs gi s n i w hr hk h1 h2 hn hs
  go_enter Try.func40, Try.ntmps40
  go_wp2
  go_end0
  exact ⟨rfl, hr, hk, Ch.refl _ _⟩
theorem reg_ok : TakeOK 42 1 (fun l n i => { i with d := W.byt l n }) := by
  intro ga gs gi s n i w hr hk h1 h2 hn hs
  have hb := W.byt_bd s.data.toList n
  go_enter Try.func42, Try.ntmps42
  go_wp2_with (go_at_call 38; refine (next_any _ _ _ _ _ hr (by omega) hs).mono ?_; rintro e w' ⟨rfl, hr1, hch⟩; have hk1 := hk.ch hch (fun e => h1 e.symm); have d1 := hk1.c1; have df := hk1.fz 1)
  go_end0
  exact ⟨rfl, hr1.set h1 h2, hk1.d' _, hch.then' (Ch.refl (fun x => x = gi) w') _ _⟩
theorem plain_ok : TakeOK 54 1 (fun l n i => { i with imm := W.byt l n }) := by
  intro ga gs gi s n i w hr hk h1 h2 hn hs
  have hb := W.byt_bd s.data.toList n
  go_enter Try.func54, Try.ntmps54
  go_wp2_with (go_at_call 38; refine (next_any _ _ _ _ _ hr (by omega) hs).mono ?_; rintro e w' ⟨rfl, hr1, hch⟩; have hk1 := hk.ch hch (fun e => h1 e.symm); have d1 := hk1.c5; have df := hk1.fz 5)
  go_end0
  exact ⟨rfl, hr1.set h1 h2, hk1.imm' _, hch.then' (Ch.refl (fun x => x = gi) w') _ _⟩
theorem small_ok : TakeOK 47 1 (fun l n i => { i with imm := W.sign (W.byt l n) 8 }) := by
  intro ga gs gi s n i w hr hk h1 h2 hn hs
  have hb := W.byt_bd s.data.toList n
  go_enter Try.func47, Try.ntmps47
  go_wp2_with (first
    | (go_at_call 38; refine (next_any _ _ _ _ _ hr (by omega) hs).mono ?_; rintro e w' ⟨rfl, hr1, hch⟩)
    | (go_at_call 56; refine (Sign_any _ _ (by omega) (by omega) (by omega) (by omega) _).mono ?_; rintro e w'' ⟨rfl, hb1⟩; have hch2 := hch.then hb1; have hr2 := hr1.bel hb1; have hk1 := hk.ch hch2 (fun e => h1 e.symm); have d1 := hk1.c5; have df := hk1.fz 5))
  go_end0
  exact ⟨rfl, hr2.set h1 h2, hk1.imm' _, hch2.then' (Ch.refl (fun x => x = gi) w'') _ _⟩
theorem pair_ok : TakeOK 44 1 (fun l n i => { i with d := W.byt l n / 16, s := W.byt l n % 16 }) := by
  intro ga gs gi s n i w hr hk h1 h2 hn hs
  have hb := W.byt_bd s.data.toList n
  go_enter Try.func44, Try.ntmps44
  go_wp2_with (go_at_call 38; refine (next_any _ _ _ _ _ hr (by omega) hs).mono ?_; rintro e w' ⟨rfl, hr1, hch⟩; have hk1 := hk.ch hch (fun e => h1 e.symm); have d1 := hk1.c1; have df := hk1.fz 1; have e1 := hk1.c2; have ef := hk1.fz 2)
  go_end0
  refine ⟨rfl, (hr1.set h1 h2).set h1 h2, ?_, (hch.then' (Ch.refl (fun x => x = gi) w') _ _).setCell (fun _ => .inr rfl) _⟩
  rw [K.and15 _ hb.1 hb.2]
  exact (hk1.d' (W.byt s.data.toList n / 16)).s' (W.byt s.data.toList n % 16)
theorem index_ok : TakeOK 52 1 (fun l n i => if W.byt l n = 8 then i else { i with ix := W.byt l n % 16, sc := W.byt l n / 16 }) := by
  intro ga gs gi s n i w hr hk h1 h2 hn hs
  have hb := W.byt_bd s.data.toList n
  by_cases h8 : W.byt s.data.toList n = 8
  · have HB := hid h8
    have hq : (W.byt s.data.toList n == 8) = true := by simp [h8]
    clear h8
    go_enter Try.func52, Try.ntmps52
    go_wp2_with (go_at_call 38; refine (next_any _ _ _ _ _ hr (by omega) hs).mono ?_; rintro e w' ⟨rfl, hr1, hch⟩; have hk1 := hk.ch hch (fun e => h1 e.symm))
    go_end0
    exact ⟨rfl, hr1, hk1, hch.mono fun x _ h => .inl h⟩
  · have HB := hid h8
    have hq : (W.byt s.data.toList n == 8) = false := by simp [h8]
    clear h8
    go_enter Try.func52, Try.ntmps52
    go_wp2_with (go_at_call 38; refine (next_any _ _ _ _ _ hr (by omega) hs).mono ?_; rintro e w' ⟨rfl, hr1, hch⟩; have hk1 := hk.ch hch (fun e => h1 e.symm); have d1 := hk1.c3; have df := hk1.fz 3; have e1 := hk1.c4; have ef := hk1.fz 4)
    go_end0
    refine ⟨rfl, (hr1.set h1 h2).set h1 h2, ?_, (hch.then' (Ch.refl (fun x => x = gi) w') _ _).setCell (fun _ => .inr rfl) _⟩
    rw [K.and15 _ hb.1 hb.2]
    exact (hk1.ix' (W.byt s.data.toList n % 16)).sc' (W.byt s.data.toList n / 16)
/-- Four bytes from the n-th on, as a word. -/
def K.four (l : List UInt8) (n : Nat) : Int := W.byt l n + 256 * W.byt l (n + 1) + 65536 * W.byt l (n + 2) + 16777216 * W.byt l (n + 3)
theorem K.get_four (l : List UInt8) (n : Nat) : W.get (strOfNums [W.byt l n, W.byt l (n + 1), W.byt l (n + 2), W.byt l (n + 3)]).data.toList = K.four l n := by
  have e : ∀ m, (((UInt8.ofNat (W.byt l m).toNat).toNat : Nat) : Int) = W.byt l m := fun m => by
    have := W.byt_bd l m
    simp; omega
  show (((UInt8.ofNat (W.byt l n).toNat).toNat : Nat) : Int) + 256 * (((UInt8.ofNat (W.byt l (n + 1)).toNat).toNat : Nat) : Int) + 65536 * (((UInt8.ofNat (W.byt l (n + 2)).toNat).toNat : Nat) : Int) + 16777216 * (((UInt8.ofNat (W.byt l (n + 3)).toNat).toNat : Nat) : Int) = _
  rw [e, e, e, e]; rfl
theorem full_ok : TakeOK 50 4 (fun l n i => { i with imm := K.four l n }) := by
  intro ga gs gi s n i w hr hk h1 h2 hn hs
  have hg := K.get_four s.data.toList n
  have b0 := W.byt_bd s.data.toList n
  have b1 := W.byt_bd s.data.toList (n + 1)
  have b2 := W.byt_bd s.data.toList (n + 2)
  have b3 := W.byt_bd s.data.toList (n + 3)
  have hcv : ∀ (wx : World), (convert 23 9 (.slice (some ⟨wx.heap.size, 0, none⟩) 4 4)).run Try.prog (wx.alloc (.cells #[.int .u8 (W.byt s.data.toList n), .int .u8 (W.byt s.data.toList (n + 1)), .int .u8 (W.byt s.data.toList (n + 2)), .int .u8 (W.byt s.data.toList (n + 3))] 5)) = .ok (.string (strOfNums [W.byt s.data.toList n, W.byt s.data.toList (n + 1), W.byt s.data.toList (n + 2), W.byt s.data.toList (n + 3)])) (wx.alloc (.cells #[.int .u8 (W.byt s.data.toList n), .int .u8 (W.byt s.data.toList (n + 1)), .int .u8 (W.byt s.data.toList (n + 2)), .int .u8 (W.byt s.data.toList (n + 3))] 5)) := by
    intro wx
    refine run_convert_bytes_arg _ _ _ Try.underlying23 Try.underlying5 _ 0 4 4 _ rfl ?_ _ Try.underlying9
    intro i hi
    have hi' : i < 4 := hi
    rw [Nat.zero_add]
    rcases (by omega : i = 0 ∨ i = 1 ∨ i = 2 ∨ i = 3) with rfl | rfl | rfl | rfl <;> simp [List.getD, World.cell?_alloc_mark]
  have hsz : (strOfNums [W.byt s.data.toList n, W.byt s.data.toList (n + 1), W.byt s.data.toList (n + 2), W.byt s.data.toList (n + 3)]).size ≤ maxLen := by rw [strOfNums_size]; unfold maxLen; simp
  generalize strOfNums [W.byt s.data.toList n, W.byt s.data.toList (n + 1), W.byt s.data.toList (n + 2), W.byt s.data.toList (n + 3)] = y at *
  go_enter Try.func50, Try.ntmps50
  go_wp2_with (first
    | (go_at_call 38; refine (next_any _ _ _ (n + 3) _ (by assumption) (by omega) hs).mono ?_; rintro e w4 ⟨rfl, hr4, hch4⟩)
    | (go_at_call 38; refine (next_any _ _ _ (n + 2) _ (by assumption) (by omega) hs).mono ?_; rintro e w3 ⟨rfl, hr3, hch3⟩)
    | (go_at_call 38; refine (next_any _ _ _ (n + 1) _ (by assumption) (by omega) hs).mono ?_; rintro e w2 ⟨rfl, hr2, hch2⟩)
    | (go_at_call 38; refine (next_any _ _ _ n _ hr (by omega) hs).mono ?_; rintro e w1 ⟨rfl, hr1, hch1⟩)
    | (go_at_call 58; refine (Get_any _ hsz _).mono ?_; rintro e w5 ⟨rfl, hb5⟩; have ha5 := Bel.trans (Bel.alloc (Bel.refl _) _) hb5; have hch5 := (((hch1.trans hch2).trans hch3).trans hch4).then ha5; have hr5 := hr4.bel ha5; have hk1 := hk.ch hch5 (fun e => h1 e.symm); have d1 := hk1.c5; have df := hk1.fz 5))
  go_end0
  refine ⟨rfl, hr5.set h1 h2, ?_, hch5.then' (Ch.refl (fun x => x = gi) w5) _ _⟩
  exact hk1.imm' _
end Go.Proofs.Ytgnekniabedomaa
