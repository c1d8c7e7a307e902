/- Items: one item is turned; slices of integers as items. No condition. -/
import Derived.Test.YtdjjjikokfadiaaA
import Derived.Laws.MakeOwn
namespace Go.Proofs.Ytdjjjikokfadiaa
set_option linter.unusedVariables false
set_option linter.unusedSimpArgs false
open Go.RowKit
theorem A.Has.get : ∀ {l : List A.It} {w : World} {o a : Nat → Prop} {k : Nat} {it : A.It}, A.Has l w o a → l[k]? = some it → ∃ o1 a1, it.t w o1 a1
  | [], _, _, _, k, _, _, hk => by simp at hk
  | i :: l, w, o, a, 0, it, ⟨o1, a1, o2, a2, h1, _⟩, hk => by
    simp at hk; subst hk; exact ⟨o1, a1, h1⟩
  | i :: l, w, o, a, k + 1, it, ⟨o1, a1, o2, a2, _, h2, _⟩, hk => A.Has.get h2 (by simpa using hk)
theorem A.set_perm {α : Type} : ∀ (l : List α) (k : Nat) (x y : α), l[k]? = some x → ∃ r, l.Perm (x :: r) ∧ (l.set k y).Perm (y :: r)
  | [], k, _, _, h => by simp at h
  | a :: l, 0, x, y, h => by simp at h; subst h; exact ⟨l, .refl _, .refl _⟩
  | a :: l, k + 1, x, y, h => by
    obtain ⟨r, h1, h2⟩ := A.set_perm l k x y (by simpa using h)
    exact ⟨a :: r, (h1.cons a).trans (.swap x a r), (h2.cons a).trans (.swap y a r)⟩
theorem A.Has.upd {l : List A.It} {w w' : World} {o a : Nat → Prop} {k : Nat} {it it' : A.It} (h : A.Has l w o a) (hk : l[k]? = some it) (hu : ∀ o1 a1, it.t w o1 a1 → Ch o1 w w' ∧ ∃ o1' a1', it'.t w' o1' a1' ∧ A.Gr w o1 a1 o1' a1') :
    ∃ o' a', A.Has (l.set k it') w' o' a' ∧ Ch o w w' ∧ A.Gr w o a o' a' := by
  obtain ⟨r, p1, p2⟩ := A.set_perm l k it it' hk
  obtain ⟨o1, a1, o2, a2, h1, h2, d1, d2, ho, ha⟩ := h.perm p1
  obtain ⟨hc, o3, a3, h3, hg⟩ := hu o1 a1 h1
  refine ⟨fun x => o3 x ∨ o2 x, fun x => a3 x ∨ a2 x, A.Has.perm p2.symm ⟨o3, a3, o2, a2, h3, h2.keep fun x hx => hc.block x (h2.lt x hx) fun hx1 => d1 x hx1 hx, fun x hx hx2 => d1 x (hg.1 x (h2.lt x hx2) hx) hx2, fun x hx hx2 => d2 x hx (hg.2 x (h2.lt x (h2.sub x hx)) hx2), fun _ => Iff.rfl, fun _ => Iff.rfl⟩, hc.mono fun x _ hx => (ho x).2 (.inl hx), ?_, ?_⟩
  · rintro x hx (k | k)
    · exact (ho x).2 (.inl (hg.1 x hx k))
    · exact (ho x).2 (.inr k)
  · rintro x hx (k | k)
    · exact (ha x).2 (.inl (hg.2 x hx k))
    · exact (ha x).2 (.inr k)
section
variable {w0 w : World} {o0 a0 : Nat → Prop} {its : List A.It} {L : List (Nat × List Value)} {it it' : A.It} {k : Nat}
theorem A.X.get (h : E.Hp o0 w0 (A.X w0 o0 a0 its) L w) (hk : its[k]? = some it) : ∃ o1 a1, it.t w o1 a1 := by
  obtain ⟨_, o, a, hh, _⟩ := h.x
  exact hh.get hk
theorem A.X.upd {w' : World} (h : E.Hp o0 w0 (A.X w0 o0 a0 its) L w) (hne : A.ne L = true) (hk : its[k]? = some it) (hu : ∀ o1 a1, it.t w o1 a1 → Ch o1 w w' ∧ ∃ o1' a1', it'.t w' o1' a1' ∧ A.Gr w o1 a1 o1' a1') :
    E.Hp o0 w0 (A.X w0 o0 a0 (its.set k it')) L w' := by
  obtain ⟨o, a, hh, hg⟩ := A.hp_has hne h
  have hk' : (A.bl L ++ its)[(A.bl L).length + k]? = some it := by rw [List.getElem?_append_right (by omega)]; simpa using hk
  obtain ⟨o', a', h', hc, hg'⟩ := hh.upd (it' := it') hk' hu
  rw [List.set_append_right _ _ (by omega), Nat.add_sub_cancel_left] at h'
  exact A.has_hp h.x.1 h' (hg.trans h.ch.size hg') (h.ch.trans' hc fun x hx hk => hg.1 x hx hk)
/-- A new item. -/
theorem A.X.add {w' : World} (h : E.Hp o0 w0 (A.X w0 o0 a0 its) L w) (hb : Bel w w') (it : A.It) {o1 a1 : Nat → Prop} (hi : it.t w' o1 a1) (ha : ∀ x, a1 x → w.heap.size ≤ x) : E.Hp o0 w0 (A.X w0 o0 a0 (it :: its)) L w' := by
  have h' := h.bel hb
  refine ⟨h'.ch, h'.mem, h'.fz, h'.lt, h'.own, h'.nodup, fun w2 hs hw => ?_⟩
  obtain ⟨hs0, o, a, hh, hg⟩ := h.x
  have hlo : ∀ p ∈ L, p.1 < w.heap.size := h.lt
  have hw2 : ∀ x, a1 x → w2.heap[x]? = w'.heap[x]? := fun x hx => hw x (it.lt hi x hx) fun hm => by
    obtain ⟨p, hp, rfl⟩ := List.mem_map.1 hm
    have := hlo p hp; have := ha _ hx; omega
  have hh3 : A.Has its w2 o a := hh.keep fun x hx => by
    have hlt := hh.lt x hx
    rw [hw x (Nat.lt_of_lt_of_le hlt hb.size) (fun hm => A.X.off h hm hh hx), hb.heap x hlt]
  refine ⟨hs0, ?_⟩
  refine ⟨fun x => o1 x ∨ o x, fun x => a1 x ∨ a x, ⟨o1, a1, o, a, it.keep hi hw2, hh3, fun x hx hx2 => ?_, fun x hx hx2 => ?_, fun _ => Iff.rfl, fun _ => Iff.rfl⟩, fun x hx hk => ?_, fun x hx hk => ?_⟩
  · have := ha x (it.sub hi x hx); have := hh.lt x hx2; omega
  · have := ha x hx2; have := hh.lt x (hh.sub x hx); omega
  · rcases hk with hk | hk
    · have := ha x (it.sub hi x hk); have := h.ch.size; omega
    · exact hg.1 x hx hk
  · rcases hk with hk | hk
    · have := ha x hk; have := h.ch.size; omega
    · exact hg.2 x hx hk
end
/-- A slice of integers of one's own, with its capacity. -/
def A.vec (k : IntKind) (ao : Option Addr) (cap : Nat) (l : List Int) : A.It where
  t w o a := l.length ≤ cap ∧ ((cap = 0 ∧ (∀ x, ¬ o x) ∧ ∀ x, ¬ a x) ∨ (0 < cap ∧ ∃ b, ao = some ⟨b, 0, none⟩ ∧ b < w.heap.size ∧ (∀ i v, l[i]? = some v → w.cell? ⟨b, i, none⟩ = some (.int k v)) ∧ (∀ i, i < cap → ∃ u, w.cell? ⟨b, i, none⟩ = some u) ∧ (∀ i, w.frozen? ⟨b, i, none⟩ = false) ∧ (∀ x, o x ↔ x = b) ∧ ∀ x, a x ↔ x = b))
  sub := fun h x hx => by
    rcases h.2 with h | ⟨_, b, _, _, _, _, _, ho, ha⟩
    · exact (h.2.1 x hx).elim
    · exact (ha x).2 ((ho x).1 hx)
  lt := fun h x hx => by
    rcases h.2 with h | ⟨_, b, _, hb, _, _, _, _, ha⟩
    · exact (h.2.2 x hx).elim
    · rw [(ha x).1 hx]; exact hb
  keep := fun {w w' o a} h hk => by
    refine ⟨h.1, ?_⟩
    rcases h.2 with h | ⟨hc, b, hao, hb, h1, h2, h3, ho, ha⟩
    · exact .inl h
    · have e := hk b ((ha b).2 rfl)
      refine .inr ⟨hc, b, hao, ?_, fun i v hv => ?_, fun i hi => ?_, fun i => ?_, ho, ha⟩
      · rw [Array.getElem?_eq_getElem hb] at e; exact (Array.getElem?_eq_some_iff.1 e).1
      · have := h1 i v hv; rw [World.cell?] at this ⊢; rw [e]; exact this
      · obtain ⟨u, hu⟩ := h2 i hi; refine ⟨u, ?_⟩; rw [World.cell?] at hu ⊢; rw [e]; exact hu
      · have := h3 i; rw [World.frozen?] at this ⊢; rw [e]; exact this
  apart := fun {w w2 o a o2 a2 x} h h2 _ hz hx => by
    rcases h.2 with h | ⟨hc, b, hao, hb, h1, _, _, ho, ha⟩
    · exact h.2.2 x hx
    · obtain rfl := (ha x).1 hx
      rcases h2.2 with h2 | ⟨_, b2, hao2, _, _, h4, _, _, _⟩
      · omega
      · rw [hao] at hao2
        obtain rfl : x = b2 := by injection hao2 with e; injection e
        obtain ⟨u, hu⟩ := h4 0 hc
        rw [hz] at hu; cases hu
/-- The block of a slice. -/
def A.bk (ao : Option Addr) : Nat := match ao with
  | some a => a.block
  | none => 0
theorem A.vec_at {k : IntKind} {ao : Option Addr} {cap : Nat} {l : List Int} {w : World} {o a : Nat → Prop} (h : (A.vec k ao cap l).t w o a) {i : Nat} (hi : i < l.length) : w.cell? ⟨A.bk ao, i, none⟩ = some (.int k (l.getD i 0)) := by
  have h1 := h.1
  rcases h.2 with h | ⟨hc, b, rfl, hb, h1, _⟩
  · omega
  · exact h1 i _ (by simp [List.getD, hi])
theorem A.vec_ao {k : IntKind} {ao : Option Addr} {cap : Nat} {l : List Int} {w : World} {o a : Nat → Prop} (h : (A.vec k ao cap l).t w o a) (hc : 0 < cap) : ao = some ⟨A.bk ao, 0, none⟩ := by
  rcases h.2 with h | ⟨hc, b, rfl, hb, h1, _⟩
  · omega
  · rfl
theorem A.vec_set {k : IntKind} {ao : Option Addr} {cap : Nat} {l : List Int} {w : World} {o a : Nat → Prop} (h : (A.vec k ao cap l).t w o a) {i : Nat} (hi : i < l.length) (v : Int) :
    w.frozen? ⟨A.bk ao, i, none⟩ = false ∧ (∃ u, w.cell? ⟨A.bk ao, i, none⟩ = some u) ∧ o (A.bk ao) ∧ (A.vec k ao cap (l.set i v)).t (w.setCell ⟨A.bk ao, i, none⟩ (.int k v)) o a := by
  have h0 := h.1
  rcases h.2 with h | ⟨hc, b, rfl, hb, h1, h2, h3, ho, ha⟩
  · omega
  · refine ⟨h3 i, h2 i (by omega), (ho _).2 rfl, by rw [List.length_set]; exact h0, .inr ⟨hc, b, rfl, by simpa [World.setCell] using hb, fun j u hu => ?_, fun j hj => ?_, fun j => (frozen_set _ _ _ _).trans (h3 j), ho, ha⟩⟩
    · show (w.setCell ⟨b, i, none⟩ _).cell? _ = _
      by_cases e : i = j
      · subst e
        rw [List.getElem?_set_self hi] at hu
        obtain rfl := Option.some.inj hu
        obtain ⟨u0, hu0⟩ := h2 i (by omega)
        exact cell_set hu0
      · rw [List.getElem?_set_ne e] at hu
        rw [World.cell?_setCell_other _ _ _ _ (by intro q; injection q with _ h2 _; exact e h2)]
        exact h1 j u hu
    · show ∃ u, (w.setCell ⟨b, i, none⟩ _).cell? _ = _
      by_cases e : i = j
      · subst e
        obtain ⟨u0, hu0⟩ := h2 i hj
        exact ⟨_, cell_set hu0⟩
      · rw [World.cell?_setCell_other _ _ _ _ (by intro q; injection q with _ h2 _; exact e h2)]
        exact h2 j hj
section rules
variable {P : Program} {n : Nat} {ops : Array Oper} {Q : Exit → Act → World → Prop} {w0 w : World} {o0 a0 : Nat → Prop} {its : List A.It} {L : List (Nat × List Value)} {l : List Oper} {fr : E.Fr} {d : Option Nat} {T : TypeId} {pos : String} {af : Array Edge} {gd : Option (Nat × Bool)} {x ix : Operand}
theorem A.load {t : TypeId} {g j : Nat} {v : Value} {D : TypeDesc} (hx : E.ev fr x = .pointer (some ⟨g, j, none⟩)) (hu : P.underlying t = some D) (hD : (match D with | .struct _ => true | .array _ _ => true | _ => false) = false) (h : w.cell? ⟨g, j, none⟩ = some v) :
    (execOp (E.ev fr) ⟨d, .load t x, T, pos, af, gd⟩).run P w = .ok (.value v) w := by
  have ht : (isAgg t).run P w = .ok false w := by
    cases D <;> first | (simp [isAgg, underlying, hu]; done) | cases hD
  show (do let r ← Instr.loadAt t (E.ev fr x); pure (Next.value r) : Sem Next).run P w = _
  rw [hx]
  simp [Instr.loadAt, Instr.sureAddr, loadVar, ht, load, Sem.run, h]
/-- An element of a slice: its address. -/
theorem A.idx {t e : TypeId} {kd ik : IntKind} {ao : Option Addr} {len cap c2 : Nat} {l : List Int} {i : Nat} {k : Nat} (h : E.Hp o0 w0 (A.X w0 o0 a0 its) L w) (hk : its[k]? = some (A.vec kd ao cap l)) (hu : P.underlying t = some (.slice e)) (hs : (P.info? e).map (·.size) = some 1) (hx : E.ev fr x = .slice ao len c2) (hi : E.ev fr ix = .int ik ((i : Nat) : Int)) (h1 : i < len) (h2 : i < l.length) :
    (execOp (E.ev fr) ⟨d, .indexAddr t x ix, T, pos, af, gd⟩).run P w = .ok (.value (.pointer (some ⟨A.bk ao, i, none⟩))) w := by
  obtain ⟨o1, a1, hv⟩ := A.X.get h hk
  have hao := A.vec_ao hv (by have := hv.1; omega)
  have hx2 : E.ev fr x = .slice (some ⟨A.bk ao, 0, none⟩) len c2 := hao ▸ hx
  have := E.idxS (e := e) (d := d) (T := T) (pos := pos) (af := af) (gd := gd) (A.bk ao) 0 len c2 1 ik ((i : Nat) : Int) hu hs hx2 hi (by omega) (by omega) w
  rw [this, Int.toNat_natCast]
  congr 5; omega
/-- An element of a slice is read. -/
theorem A.vld {t : TypeId} {kd : IntKind} {ao : Option Addr} {cap : Nat} {l : List Int} {i : Nat} {k : Nat} (h : E.Hp o0 w0 (A.X w0 o0 a0 its) L w) (hk : its[k]? = some (A.vec kd ao cap l)) (hu : P.underlying t = some (.int kd)) (hx : E.ev fr x = .pointer (some ⟨A.bk ao, i, none⟩)) (h2 : i < l.length) :
    (execOp (E.ev fr) ⟨d, .load t x, T, pos, af, gd⟩).run P w = .ok (.value (.int kd (l.getD i 0))) w := by
  obtain ⟨o1, a1, hv⟩ := A.X.get h hk
  exact A.load hx hu rfl (A.vec_at hv h2)
end rules
end Go.Proofs.Ytdjjjikokfadiaa
