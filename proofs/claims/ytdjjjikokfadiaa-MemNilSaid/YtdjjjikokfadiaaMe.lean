/- mem: a memory object that may be written to: its owned blocks, its invariant, a store into its pages' states. No condition. -/
import Derived.Test.YtdjjjikokfadiaaMd
namespace Go.Proofs.Ytdjjjikokfadiaa
set_option linter.unusedVariables false
set_option linter.unusedSimpArgs false
open Go.RowKit
section
variable {P : Program} {n : Nat} {ops : Array Oper} {Q : Exit → Act → World → Prop} {S : Nat → Prop} {w0 : World} {X : World → Prop} {L : List (Nat × List Value)} {l : List Oper} {o : Oper} {fr : E.Fr}
/-- A store of one cell, with any account of the worlds before and behind. -/
theorem M.G.sto {t T : TypeId} {x y : Operand} {pos : String} {af : Array Edge} {gd : Option (Nat × Bool)} {g j : Nat} (v : Value) (X' : World → Prop) (L' : List (Nat × List Value)) (hx : E.ev fr x = .pointer (some ⟨g, j, none⟩)) (hy : E.ev fr y = v) (hv : v.cells.toList = [v]) (hb : E.cellB v = true)
    (ht : (P.info? t).map (·.size) = some 1) (hr : ∀ w, E.Hp S w0 X L w → w.frozen? ⟨g, j, none⟩ = false ∧ (∃ u, w.cell? ⟨g, j, none⟩ = some u) ∧ E.Hp S w0 X' L' (w.setCell ⟨g, j, none⟩ v))
    (hck : E.ck n ops fr ⟨none, .store t x y, T, pos, af, gd⟩ = true) (k : E.G P n ops Q l fr S w0 X' L') : E.G P n ops Q (⟨none, .store t x y, T, pos, af, gd⟩ :: l) fr S w0 X L := by
  intro a w hs hh
  refine E.step (hs.want (E.ck_w hck)) ?_
  unfold Oper.wp
  rw [hs.exec (E.ck_k hck)]
  obtain ⟨hf, ⟨u, hc⟩, hh'⟩ := hr w hh
  have hst : (store ⟨g, j, none⟩ v).run P w = .ok () (w.setCell ⟨g, j, none⟩ v) := by
    simp only [store]
    cases v <;> first
      | (simp only [Sem.run, hc, hf]; rfl)
      | exact absurd hb (by simp [E.cellB])
  have hs1 : (sizeOf t).run P w = .ok 1 w := by
    cases hi : P.info? t with
    | none => rw [hi] at ht; cases ht
    | some i => rw [hi] at ht; simp [sizeOf, typeInfo, hi]; simpa using ht
  have hsz : v.cells.size = 1 := by
    have := congrArg List.length hv
    simpa using this
  have hrun : (Instr.storeAt t (.pointer (some ⟨g, j, none⟩)) v).run P w = .ok () (w.setCell ⟨g, j, none⟩ v) := by
    simp [Instr.storeAt, Instr.sureAddr, storeVar, hs1, hsz, hv, storeCells, Addr.add, hst]
  have : (execOp (E.ev fr) ⟨none, .store t x y, T, pos, af, gd⟩).run P w = .ok .skip (w.setCell ⟨g, j, none⟩ v) := by
    show (do Instr.storeAt t (E.ev fr x) (E.ev fr y); pure Next.skip).run P w = _
    rw [hx, hy]; simp [hrun]
  rw [this]
  exact k _ _ hs hh'
end
/-- The blocks that a memory may change. -/
def M.ow (o : M.Obj) (x : Nat) : Prop := (0 < o.sl.length ∧ x = o.b) ∨ (∃ i, i < o.sl.length ∧ (o.at i).od = true ∧ x = (o.at i).d) ∨ ∃ i, i < o.sl.length ∧ (o.at i).oc = true ∧ (o.at i).c = some x
/-- All blocks of a memory. -/
def M.all (o : M.Obj) (x : Nat) : Prop := x = o.m ∨ (0 < o.sl.length ∧ x = o.b) ∨ M.Pg o.sl x
theorem M.ow_all {o : M.Obj} {x : Nat} (h : M.ow o x) : M.all o x := by
  rcases h with h | ⟨i, hi, _, rfl⟩ | ⟨i, hi, _, hc⟩
  · exact .inr (.inl h)
  · exact .inr (.inr (M.pg_d hi))
  · exact .inr (.inr (M.pg_c hi hc))
structure M.Inv (o : M.Obj) : Prop where
  mb : 0 < o.sl.length → o.m ≠ o.b
  pm : ∀ p, M.Pg o.sl p → p ≠ o.m ∧ p ≠ o.b
  od : ∀ i j, i < o.sl.length → j < o.sl.length → (o.at i).od = true → ((o.at j).d = (o.at i).d → j = i) ∧ (o.at j).c ≠ some (o.at i).d ∧ (o.at j).cd ≠ (o.at i).d ∧ (o.at j).cc ≠ some (o.at i).d
  oc : ∀ i j p, i < o.sl.length → j < o.sl.length → (o.at i).oc = true → (o.at i).c = some p → ((o.at j).c = some p → j = i) ∧ (o.at j).d ≠ p ∧ (o.at j).cd ≠ p ∧ (o.at j).cc ≠ some p
  co : ∀ i, i < o.sl.length → (o.at i).c.isNone = o.coh ∧ (o.at i).cc.isNone = o.coh
  by_ : ∀ p, M.Pg o.sl p → ∀ i, i < 256 → 0 ≤ o.C p i ∧ o.C p i < 256
  rb : ∀ i, i < o.sl.length → 0 ≤ (o.at i).r ∧ (o.at i).r < 8
structure M.St (o : M.Obj) (w : World) : Prop where
  at_ : M.At o w
  inv : M.Inv o
  fz : ∀ x, M.all o x → ∀ i, w.frozen? ⟨x, i, none⟩ = false
theorem M.ow_d {o : M.Obj} {i : Nat} (hi : i < o.sl.length) (h : (o.at i).od = true) : M.ow o (o.at i).d := .inr (.inl ⟨i, hi, h, rfl⟩)
theorem M.all_b {o : M.Obj} (h : 0 < o.sl.length) : M.all o o.b := .inr (.inl ⟨h, rfl⟩)
theorem M.ow_b {o : M.Obj} (h : 0 < o.sl.length) : M.ow o o.b := .inl ⟨h, rfl⟩
theorem M.At.pg_lt {o : M.Obj} {w : World} (h : M.At o w) {x : Nat} (hx : M.Pg o.sl x) : x < w.heap.size := M.cell_lt (h.pg _ hx 0 (by decide))
theorem M.At.alive {o : M.Obj} {w : World} (h : M.At o w) {x : Nat} (hx : M.all o x) : x < w.heap.size := by
  rcases hx with rfl | ⟨hn, rfl⟩ | hx
  · exact M.cell_lt h.c0
  · exact M.cell_lt (h.fld (i := 0) (k := 6) hn rfl (by decide) 6 rfl)
  · exact h.pg_lt hx
theorem M.St.keep {o : M.Obj} {w w' : World} (h : M.St o w) (hw : ∀ b, b < w.heap.size → w'.heap[b]? = w.heap[b]?) : M.St o w' :=
  ⟨h.at_.keep (L := []) (by simp) (by simp) (by simp) (fun b hb _ => hw b hb), h.inv, fun x hx i => by
    have h1 := h.fz x hx i
    rw [World.frozen?] at h1 ⊢
    rw [hw x (h.at_.alive hx)]; exact h1⟩
theorem M.St.hp {S : Nat → Prop} {o : M.Obj} {w0 w : World} (h : M.St o w) (hc : Ch S w0 w) : E.Hp S w0 (fun w => M.St o w) [] w :=
  ⟨hc, by simp, by simp, by simp, by simp, by simp, fun w' _ hw => h.keep fun b hb => hw b hb (by simp)⟩
/-- Blocks that another may change are none of this memory's. -/
theorem M.St.ch {S : Nat → Prop} {o : M.Obj} {w w' : World} (h : M.St o w) (hc : Ch S w w') (h0 : ¬ S o.m) (h1 : 0 < o.sl.length → ¬ S o.b) (h2 : ∀ p, M.Pg o.sl p → ¬ S p) : M.St o w' := by
  have key : ∀ {a : Addr} {v : Value}, ¬ S a.block → w.cell? a = some v → w'.cell? a = some v := fun {a v} hn ha => by
    have hlt := M.cell_lt ha
    rw [World.cell?] at ha ⊢
    rw [hc.block _ hlt hn]; exact ha
  refine ⟨⟨key h0 h.at_.c0, key h0 h.at_.c1, h.at_.ha, fun i v hv => key (h1 ?_) (h.at_.cs i v hv), fun p hp i hi => key (h2 p hp) (h.at_.pg p hp i hi), h.at_.lt⟩, h.inv, fun x hx i => ?_⟩
  · cases hs : o.sl with
    | nil => rw [hs] at hv; simp [M.cells] at hv
    | cons => simp
  · have hn : ¬ S x := by
      rcases hx with rfl | ⟨hn, rfl⟩ | hx
      · exact h0
      · exact h1 hn
      · exact h2 _ hx
    have hf := h.fz x hx i
    rw [World.frozen?] at hf ⊢
    rw [hc.block x (h.at_.alive hx) hn]; exact hf
def M.Obj.upd (o : M.Obj) (i : Nat) (s : M.Slot) : M.Obj := { o with sl := o.sl.set i s }
theorem M.upd_at {o : M.Obj} {i : Nat} {s : M.Slot} (hi : i < o.sl.length) (j : Nat) : (o.upd i s).at j = if j = i then s else o.at j := by
  unfold M.Obj.upd M.Obj.at
  show (o.sl.set i s).getD j M.z = _
  simp only [List.getD, List.getElem?_set]
  by_cases h : j = i
  · subst h; simp [hi]
  · rw [if_neg (Ne.symm h), if_neg h]
theorem M.upd_len {o : M.Obj} {i : Nat} {s : M.Slot} : (o.upd i s).sl.length = o.sl.length := by unfold M.Obj.upd; simp
/-- A page's state after a change of its rights. -/
theorem M.setr_at {o : M.Obj} {i : Nat} {r : Int} (hi : i < o.sl.length) (j : Nat) : ((o.upd i { o.at i with r := r }).at j).d = (o.at j).d ∧ ((o.upd i { o.at i with r := r }).at j).c = (o.at j).c ∧ ((o.upd i { o.at i with r := r }).at j).od = (o.at j).od ∧ ((o.upd i { o.at i with r := r }).at j).oc = (o.at j).oc ∧ ((o.upd i { o.at i with r := r }).at j).cd = (o.at j).cd ∧ ((o.upd i { o.at i with r := r }).at j).cc = (o.at j).cc := by
  rw [M.upd_at hi]
  by_cases h : j = i
  · subst h; simp
  · simp [h]
/-- An object whose slots have the same pages as another's. -/
structure M.Like (o o' : M.Obj) : Prop where
  m : o'.m = o.m
  b : o'.b = o.b
  n : o'.sl.length = o.sl.length
  coh : o'.coh = o.coh
  s : ∀ j, (o'.at j).d = (o.at j).d ∧ (o'.at j).c = (o.at j).c ∧ (o'.at j).od = (o.at j).od ∧ (o'.at j).oc = (o.at j).oc ∧ (o'.at j).cd = (o.at j).cd ∧ (o'.at j).cc = (o.at j).cc
theorem M.Like.pg {o o' : M.Obj} (h : M.Like o o') {p : Nat} (hp : M.Pg o'.sl p) : M.Pg o.sl p := by
  obtain ⟨i, hi, hp⟩ := hp
  obtain ⟨e1, e2, e3, e4, e5, e6⟩ := h.s i
  have hp : p = (o'.at i).d ∨ (o'.at i).c = some p ∨ p = (o'.at i).cd ∨ (o'.at i).cc = some p := hp
  rw [e1, e2, e5, e6] at hp
  exact ⟨i, h.n ▸ hi, hp⟩
theorem M.Like.ow {o o' : M.Obj} (h : M.Like o o') {x : Nat} (hx : M.ow o' x) : M.ow o x := by
  unfold M.ow at hx ⊢
  rw [h.b, h.n] at hx
  rcases hx with h0 | ⟨i, hi, hx⟩ | ⟨i, hi, hx⟩
  · exact .inl h0
  · obtain ⟨e1, e2, e3, e4, e5, e6⟩ := h.s i
    rw [e1, e3] at hx; exact .inr (.inl ⟨i, hi, hx⟩)
  · obtain ⟨e1, e2, e3, e4, e5, e6⟩ := h.s i
    rw [e2, e4] at hx; exact .inr (.inr ⟨i, hi, hx⟩)
theorem M.Like.all {o o' : M.Obj} (h : M.Like o o') {x : Nat} (hx : M.all o' x) : M.all o x := by
  unfold M.all at hx ⊢
  rw [h.m, h.b, h.n] at hx
  rcases hx with h0 | h0 | h0
  · exact .inl h0
  · exact .inr (.inl h0)
  · exact .inr (.inr (h.pg h0))
theorem M.Like.inv {o o' : M.Obj} (h : M.Like o o') (hi : M.Inv o) (hC : ∀ p, M.Pg o'.sl p → ∀ i, i < 256 → 0 ≤ o'.C p i ∧ o'.C p i < 256) (hr : ∀ i, i < o.sl.length → 0 ≤ (o'.at i).r ∧ (o'.at i).r < 8) : M.Inv o' := by
  have hn := h.n
  refine ⟨fun k => by rw [h.m, h.b]; exact hi.mb (hn ▸ k), fun p hp => by rw [h.m, h.b]; exact hi.pm p (h.pg hp), fun i j k1 k2 k3 => ?_, fun i j p k1 k2 k3 k4 => ?_, fun i k => ?_, hC, fun i k => hr i (hn ▸ k)⟩
  · obtain ⟨a1, a2, a3, a4, a5, a6⟩ := h.s i
    obtain ⟨e1, e2, e3, e4, e5, e6⟩ := h.s j
    rw [e1, e2, e5, e6, a1]; rw [a3] at k3
    exact hi.od i j (hn ▸ k1) (hn ▸ k2) k3
  · obtain ⟨a1, a2, a3, a4, a5, a6⟩ := h.s i
    obtain ⟨e1, e2, e3, e4, e5, e6⟩ := h.s j
    rw [e1, e2, e5, e6]; rw [a4] at k3; rw [a2] at k4
    exact hi.oc i j p (hn ▸ k1) (hn ▸ k2) k3 k4
  · obtain ⟨e1, e2, e3, e4, e5, e6⟩ := h.s i
    rw [e2, e6, h.coh]; exact hi.co i (hn ▸ k)
/-- A cell of the slots' array is set. -/
theorem M.At.fset {o : M.Obj} {w : World} (h : M.At o w) (hm : o.m ≠ o.b) {i k : Nat} (hi : i < o.sl.length) (hk : k < 7) {v : Value} {s : M.Slot} (he : s.cells = (o.at i).cells.set k v) (j : Nat) (hj : j = i * 7 + k) (hp : ∀ p, M.Pg (o.upd i s).sl p → p ≠ o.b ∧ ∀ i, i < 256 → w.cell? ⟨p, i, none⟩ = some (.int .u8 (o.C p i))) :
    M.At (o.upd i s) (w.setCell ⟨o.b, j, none⟩ v) := by
  subst hj
  have oth : ∀ {a : Addr} {u : Value}, a.block ≠ o.b → w.cell? a = some u → (w.setCell ⟨o.b, i * 7 + k, none⟩ v).cell? a = some u := fun {a u} hn ha => (World.cell?_setCell_other w ⟨o.b, i * 7 + k, none⟩ a v (fun e => hn (by rw [← e]))).trans ha
  refine ⟨?_, oth hm h.c1, ?_, fun x u hx => ?_, fun p hq x hx => oth (hp p hq).1 ((hp p hq).2 x hx), ?_⟩
  · rw [M.upd_len]; exact oth hm h.c0
  · rw [M.upd_len]; exact h.ha
  · have hcs : M.cells (o.upd i s).sl = (M.cells o.sl).set (i * 7 + k) v := (M.cells_set o.sl i k v s hi hk he).symm
    rw [hcs] at hx
    show (w.setCell ⟨o.b, i * 7 + k, none⟩ v).cell? ⟨o.b, x, none⟩ = some u
    by_cases e : x = i * 7 + k
    · subst e
      have hlt : i * 7 + k < (M.cells o.sl).length := by rw [M.cells_len]; omega
      rw [List.getElem?_set_self hlt] at hx
      obtain rfl := Option.some.inj hx
      exact World.cell?_setCell_same w _ _ (h.cs _ _ (List.getElem?_eq_getElem hlt))
    · rw [List.getElem?_set_ne (Ne.symm e)] at hx
      exact (World.cell?_setCell_other w _ _ v (fun e2 => e (by injection e2 with _ e3 _; exact e3.symm))).trans (h.cs _ _ hx)
  · rw [M.upd_len]; exact h.lt
theorem M.frozen_set {w : World} {a b : Addr} {v : Value} : (w.setCell a v).frozen? b = w.frozen? b := by
  unfold World.frozen? World.setCell
  simp only [Array.getElem?_modify]
  by_cases h : a.block = b.block
  · rw [if_pos h]
    cases w.heap[b.block]? with
    | none => rfl
    | some o => cases o <;> rfl
  · rw [if_neg h]
theorem M.St.setr {o : M.Obj} {w : World} (h : M.St o w) {i : Nat} (hi : i < o.sl.length) {r : Int} (hr : 0 ≤ r ∧ r < 8) (j : Nat) (hj : j = i * 7 + 6) :
    M.St (o.upd i { o.at i with r := r }) (w.setCell ⟨o.b, j, none⟩ (.int .i64 r)) := by
  have hl : M.Like o (o.upd i { o.at i with r := r }) := ⟨rfl, rfl, M.upd_len, rfl, M.setr_at hi⟩
  refine ⟨h.at_.fset (h.inv.mb (by omega)) hi (by decide) rfl j hj fun p hp => ⟨(h.inv.pm p (hl.pg hp)).2, h.at_.pg p (hl.pg hp)⟩, hl.inv h.inv (fun p hp => h.inv.by_ p (hl.pg hp)) fun x hx => ?_, fun x hx y => M.frozen_set.trans (h.fz x (hl.all hx) y)⟩
  rw [M.upd_at hi]
  by_cases e : x = i
  · subst e; simpa using hr
  · rw [if_neg e]; exact h.inv.rb x hx
/-- A block that is known apart is none of the memory's. -/
theorem M.apart {S : Nat → Prop} {o : M.Obj} {w0 w : World} {X : World → Prop} {L : List (Nat × List Value)} (h : E.Hp S w0 X L w) (hX : ∀ w, X w → M.St o w) {k g : Nat} {cs : List Value} (hk : L[k]? = some (g, cs)) {x : Nat} (hx : M.all o x) : x ≠ g := by
  intro e
  subst e
  have hm : x ∈ L.map (·.1) := List.mem_map.2 ⟨_, List.mem_of_getElem? hk, rfl⟩
  let w2 : World := { w with heap := w.heap.setIfInBounds x (.cells #[] 0 (0, 0)) }
  have h2 := hX w2 (h.ext w2 (by show w.heap.size ≤ (w.heap.setIfInBounds x _).size; simp) fun b hb hn => by
    show (w.heap.setIfInBounds x _)[b]? = _
    rw [Array.getElem?_setIfInBounds_ne]
    intro e; subst e; exact hn hm)
  have hz : ∀ i, w2.cell? ⟨x, i, none⟩ = none := fun i => by
    rw [World.cell?]
    show (match (w.heap.setIfInBounds x (.cells #[] 0 (0, 0)))[x]? with | some (.cells c _ _) => _ | _ => none) = none
    rw [Array.getElem?_setIfInBounds_self]
    split
    · rename_i he; split at he
      · obtain rfl := Option.some.inj he |> fun e => (Obj.cells.inj e).1; simp
      · cases he
    · rfl
  rcases hx with rfl | ⟨hn, rfl⟩ | hx
  · have := h2.at_.c0; rw [hz] at this; cases this
  · have := h2.at_.fld (i := 0) (k := 6) hn rfl (by decide) 6 rfl; rw [hz] at this; cases this
  · have := h2.at_.pg x hx 0 (by decide); rw [hz] at this; cases this
end Go.Proofs.Ytdjjjikokfadiaa
