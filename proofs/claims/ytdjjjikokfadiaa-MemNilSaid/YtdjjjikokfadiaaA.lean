/- Items: what a world holds beside the blocks that are known, each with the blocks that it may change and the blocks that it speaks of; calls over items. No condition. -/
import Derived.Test.YtdjjjikokfadiaaE3
namespace Go.Proofs.Ytdjjjikokfadiaa
set_option linter.unusedVariables false
set_option linter.unusedSimpArgs false
open Go.RowKit
structure A.It where
  t : World → (Nat → Prop) → (Nat → Prop) → Prop
  sub : ∀ {w o a}, t w o a → ∀ x, o x → a x
  lt : ∀ {w o a}, t w o a → ∀ x, a x → x < w.heap.size
  keep : ∀ {w w' o a}, t w o a → (∀ x, a x → w'.heap[x]? = w.heap[x]?) → t w' o a
  apart : ∀ {w w2 o a o2 a2 x}, t w o a → t w2 o2 a2 → (∀ b, b ≠ x → w2.heap[b]? = w.heap[b]?) → (∀ i, w2.cell? ⟨x, i, none⟩ = none) → ¬ a x
def A.Has : List A.It → World → (Nat → Prop) → (Nat → Prop) → Prop
  | [], _, o, a => (∀ x, ¬ o x) ∧ ∀ x, ¬ a x
  | i :: l, w, o, a => ∃ o1 a1 o2 a2, i.t w o1 a1 ∧ A.Has l w o2 a2 ∧ (∀ x, o1 x → ¬ a2 x) ∧ (∀ x, o2 x → ¬ a1 x) ∧ (∀ x, o x ↔ o1 x ∨ o2 x) ∧ ∀ x, a x ↔ a1 x ∨ a2 x
theorem A.Has.sub : ∀ {l : List A.It} {w : World} {o a : Nat → Prop}, A.Has l w o a → ∀ x, o x → a x
  | [], _, _, _, h, x, hx => (h.1 x hx).elim
  | i :: l, w, o, a, ⟨o1, a1, o2, a2, h1, h2, _, _, ho, ha⟩, x, hx => by
    rcases (ho x).1 hx with k | k
    · exact (ha x).2 (.inl (i.sub h1 x k))
    · exact (ha x).2 (.inr (A.Has.sub h2 x k))
theorem A.Has.lt : ∀ {l : List A.It} {w : World} {o a : Nat → Prop}, A.Has l w o a → ∀ x, a x → x < w.heap.size
  | [], _, _, _, h, x, hx => (h.2 x hx).elim
  | i :: l, w, o, a, ⟨o1, a1, o2, a2, h1, h2, _, _, ho, ha⟩, x, hx => by
    rcases (ha x).1 hx with k | k
    · exact i.lt h1 x k
    · exact A.Has.lt h2 x k
theorem A.Has.keep : ∀ {l : List A.It} {w w' : World} {o a : Nat → Prop}, A.Has l w o a → (∀ x, a x → w'.heap[x]? = w.heap[x]?) → A.Has l w' o a
  | [], _, _, _, _, h, _ => h
  | i :: l, w, w', o, a, ⟨o1, a1, o2, a2, h1, h2, d1, d2, ho, ha⟩, hk =>
    ⟨o1, a1, o2, a2, i.keep h1 (fun x hx => hk x ((ha x).2 (.inl hx))), A.Has.keep h2 (fun x hx => hk x ((ha x).2 (.inr hx))), d1, d2, ho, ha⟩
theorem A.Has.apart : ∀ {l : List A.It} {w w2 : World} {o a o2 a2 : Nat → Prop} {x : Nat}, A.Has l w o a → A.Has l w2 o2 a2 → (∀ b, b ≠ x → w2.heap[b]? = w.heap[b]?) → (∀ i, w2.cell? ⟨x, i, none⟩ = none) → ¬ a x
  | [], _, _, _, _, _, _, x, h, _, _, _ => h.2 x
  | i :: l, w, w2, o, a, o2, a2, x, ⟨p1, q1, p2, q2, h1, h2, _, _, _, ha⟩, ⟨p3, q3, p4, q4, h3, h4, _, _, _, _⟩, hb, hz => fun hx => by
    rcases (ha x).1 hx with k | k
    · exact i.apart h1 h3 hb hz k
    · exact A.Has.apart h2 h4 hb hz k
theorem A.Has.iff : ∀ {l : List A.It} {w : World} {o a o' a' : Nat → Prop}, A.Has l w o a → (∀ x, o' x ↔ o x) → (∀ x, a' x ↔ a x) → A.Has l w o' a'
  | [], _, _, _, _, _, h, ho, ha => ⟨fun x k => h.1 x ((ho x).1 k), fun x k => h.2 x ((ha x).1 k)⟩
  | i :: l, w, o, a, o', a', ⟨o1, a1, o2, a2, h1, h2, d1, d2, go, ga⟩, ho, ha => ⟨o1, a1, o2, a2, h1, h2, d1, d2, fun x => (ho x).trans (go x), fun x => (ha x).trans (ga x)⟩
theorem A.Has.append : ∀ {l m : List A.It} {w : World} {o a : Nat → Prop}, A.Has (l ++ m) w o a → ∃ o1 a1 o2 a2, A.Has l w o1 a1 ∧ A.Has m w o2 a2 ∧ (∀ x, o1 x → ¬ a2 x) ∧ (∀ x, o2 x → ¬ a1 x) ∧ (∀ x, o x ↔ o1 x ∨ o2 x) ∧ ∀ x, a x ↔ a1 x ∨ a2 x
  | [], m, w, o, a, h => ⟨fun _ => False, fun _ => False, o, a, ⟨fun _ h => h, fun _ h => h⟩, h, fun _ h => h.elim, fun _ _ h => h, fun x => by simp, fun x => by simp⟩
  | i :: l, m, w, o, a, ⟨o1, a1, o2, a2, h1, h2, d1, d2, ho, ha⟩ => by
    obtain ⟨p1, q1, p2, q2, k1, k2, e1, e2, ko, ka⟩ := A.Has.append h2
    refine ⟨fun x => o1 x ∨ p1 x, fun x => a1 x ∨ q1 x, p2, q2, ⟨o1, a1, p1, q1, h1, k1, fun x hx hq => d1 x hx ((ka x).2 (.inl hq)), fun x hx => d2 x ((ko x).2 (.inl hx)), fun _ => Iff.rfl, fun _ => Iff.rfl⟩, k2, fun x hx hq => ?_, fun x hx hq => ?_, fun x => ?_, fun x => ?_⟩
    · rcases hx with hx | hx
      · exact d1 x hx ((ka x).2 (.inr hq))
      · exact e1 x hx hq
    · rcases hq with hq | hq
      · exact d2 x ((ko x).2 (.inr hx)) hq
      · exact e2 x hx hq
    · rw [ho, ko, or_assoc]
    · rw [ha, ka, or_assoc]
theorem A.Has.join : ∀ {l m : List A.It} {w : World} {o1 a1 o2 a2 : Nat → Prop}, A.Has l w o1 a1 → A.Has m w o2 a2 → (∀ x, o1 x → ¬ a2 x) → (∀ x, o2 x → ¬ a1 x) → A.Has (l ++ m) w (fun x => o1 x ∨ o2 x) (fun x => a1 x ∨ a2 x)
  | [], m, w, o1, a1, o2, a2, h, k, _, _ => k.iff (fun x => ⟨fun hx => hx.elim (fun e => (h.1 x e).elim) id, .inr⟩) (fun x => ⟨fun hx => hx.elim (fun e => (h.2 x e).elim) id, .inr⟩)
  | i :: l, m, w, o1, a1, o2, a2, ⟨p1, q1, p2, q2, h1, h2, d1, d2, ho, ha⟩, k, e1, e2 => by
    refine ⟨p1, q1, fun x => p2 x ∨ o2 x, fun x => q2 x ∨ a2 x, h1, A.Has.join h2 k (fun x hx => e1 x ((ho x).2 (.inr hx))) (fun x hx hq => e2 x hx ((ha x).2 (.inr hq))), fun x hx hq => ?_, fun x hx hq => ?_, fun x => ?_, fun x => ?_⟩
    · rcases hq with hq | hq
      · exact d1 x hx hq
      · exact e1 x ((ho x).2 (.inl hx)) hq
    · rcases hx with hx | hx
      · exact d2 x hx hq
      · exact e2 x hx ((ha x).2 (.inl hq))
    · show (o1 x ∨ o2 x) ↔ p1 x ∨ p2 x ∨ o2 x
      rw [ho, or_assoc]
    · show (a1 x ∨ a2 x) ↔ q1 x ∨ q2 x ∨ a2 x
      rw [ha, or_assoc]
theorem A.Has.perm {l m : List A.It} (hp : l.Perm m) : ∀ {w : World} {o a : Nat → Prop}, A.Has l w o a → A.Has m w o a := by
  induction hp with
  | nil => exact fun h => h
  | cons i _ ih => exact fun ⟨o1, a1, o2, a2, h1, h2, r⟩ => ⟨o1, a1, o2, a2, h1, ih h2, r⟩
  | swap i j l =>
    rintro w o a ⟨o1, a1, o2, a2, h1, ⟨o3, a3, o4, a4, h3, h4, d3, d4, e3, e4⟩, d1, d2, e1, e2⟩
    refine ⟨o3, a3, fun x => o1 x ∨ o4 x, fun x => a1 x ∨ a4 x, h3, ⟨o1, a1, o4, a4, h1, h4, fun x hx hq => d1 x hx ((e4 x).2 (.inr hq)), fun x hx => d2 x ((e3 x).2 (.inr hx)), fun _ => Iff.rfl, fun _ => Iff.rfl⟩, fun x hx hq => ?_, fun x hx hq => ?_, fun x => ?_, fun x => ?_⟩
    · rcases hq with hq | hq
      · exact d2 x ((e3 x).2 (.inl hx)) hq
      · exact d3 x hx hq
    · rcases hx with hx | hx
      · exact d1 x hx ((e4 x).2 (.inl hq))
      · exact d4 x hx hq
    · rw [e1, e3]; exact or_left_comm
    · rw [e2, e4]; exact or_left_comm
  | trans _ _ ih1 ih2 => exact fun h => ih2 (ih1 h)
/-- A rearrangement by places. -/
def A.pick {α : Type} (l : List α) (s : List Nat) : List α := s.filterMap fun i => l[i]?
theorem A.pick_range {α : Type} : ∀ (l : List α), A.pick l (List.range l.length) = l
  | [] => rfl
  | a :: l => by
    have ih := A.pick_range l
    unfold A.pick at ih ⊢
    rw [List.length_cons, List.range_succ_eq_map, List.filterMap_cons]
    simp only [List.getElem?_cons_zero, List.filterMap_map]
    exact congrArg (a :: ·) ih
theorem A.pm {α : Type} {l m : List α} (s : List Nat) (hs : s.isPerm (List.range l.length) = true) (hm : m = A.pick l s) : l.Perm m := by
  subst hm
  have h := (List.isPerm_iff.1 hs).filterMap (fun i => l[i]?)
  have e : (List.range l.length).filterMap (fun i => l[i]?) = l := A.pick_range l
  rw [e] at h
  exact h.symm
/-- What may be changed and what is spoken of grow by new blocks only. -/
def A.Gr (w : World) (o a o' a' : Nat → Prop) : Prop := (∀ x, x < w.heap.size → o' x → o x) ∧ ∀ x, x < w.heap.size → a' x → a x
theorem A.Gr.refl (w : World) (o a : Nat → Prop) : A.Gr w o a o a := ⟨fun _ _ h => h, fun _ _ h => h⟩
theorem A.Gr.trans {w w' : World} {o a o' a' o2 a2 : Nat → Prop} (h : A.Gr w o a o' a') (hs : w.heap.size ≤ w'.heap.size) (k : A.Gr w' o' a' o2 a2) : A.Gr w o a o2 a2 :=
  ⟨fun x hx hk => h.1 x hx (k.1 x (Nat.lt_of_lt_of_le hx hs) hk), fun x hx hk => h.2 x hx (k.2 x (Nat.lt_of_lt_of_le hx hs) hk)⟩
/-- A call over the items p. -/
def A.Tr (P : Program) (f : FuncId) (args : Array Value) (p : List A.It) {I : Type} (D : I → Prop) (V : I → Value) (q : I → List A.It) : Prop :=
  ∀ w o a, A.Has p w o a → Calls P f args w fun e w' => ∃ i, D i ∧ e = .returned (V i) ∧ ∃ o' a', A.Has (q i) w' o' a' ∧ Ch o w w' ∧ A.Gr w o a o' a'
/-- A call that reads the items p. -/
def A.Rd (P : Program) (f : FuncId) (args : Array Value) (p : List A.It) (v : Value) : Prop :=
  ∀ w o a, A.Has p w o a → Calls P f args w fun e w' => e = .returned v ∧ Bel w w'
theorem A.Tr.frame {P : Program} {f : FuncId} {args : Array Value} {p : List A.It} {I : Type} {D : I → Prop} {V : I → Value} {q : I → List A.It} (h : A.Tr P f args p D V q) (fr : List A.It) : A.Tr P f args (p ++ fr) D V fun i => q i ++ fr := by
  intro w o a hh
  obtain ⟨o1, a1, o2, a2, h1, h2, d1, d2, ho, ha⟩ := hh.append
  refine (h w o1 a1 h1).mono fun e w' ⟨i, hd, he, o', a', hq, hc, hg⟩ => ⟨i, hd, he, fun x => o' x ∨ o2 x, fun x => a' x ∨ a2 x, hq.join (h2.keep fun x hx => hc.block x (h2.lt x hx) fun hx1 => d1 x hx1 hx) (fun x hx hx2 => d1 x (hg.1 x (h2.lt x hx2) hx) hx2) (fun x hx hx2 => d2 x hx (hg.2 x (h2.lt x (h2.sub x hx)) hx2)), hc.mono fun x _ hx => (ho x).2 (.inl hx), ?_, ?_⟩
  · rintro x hx (k | k)
    · exact (ho x).2 (.inl (hg.1 x hx k))
    · exact (ho x).2 (.inr k)
  · rintro x hx (k | k)
    · exact (ha x).2 (.inl (hg.2 x hx k))
    · exact (ha x).2 (.inr k)
theorem A.Rd.frame {P : Program} {f : FuncId} {args : Array Value} {p : List A.It} {v : Value} (h : A.Rd P f args p v) (fr : List A.It) : A.Rd P f args (p ++ fr) v := by
  intro w o a hh
  obtain ⟨o1, a1, o2, a2, h1, h2, d1, d2, ho, ha⟩ := hh.append
  exact h w o1 a1 h1
/-- A block whose cells are known. -/
def A.blk (g : Nat) (cs : List Value) : A.It where
  t w o a := (∀ i v, cs[i]? = some v → w.cell? ⟨g, i, none⟩ = some v) ∧ (∀ i, w.frozen? ⟨g, i, none⟩ = false) ∧ g < w.heap.size ∧ (∀ x, o x ↔ x = g) ∧ (∀ x, a x ↔ x = g) ∧ cs ≠ []
  sub := fun h x hx => (h.2.2.2.2.1 x).2 ((h.2.2.2.1 x).1 hx)
  lt := fun h x hx => by rw [(h.2.2.2.2.1 x).1 hx]; exact h.2.2.1
  keep := fun {w w' o a} h hk => by
    have e := hk g ((h.2.2.2.2.1 g).2 rfl)
    refine ⟨fun i v hv => ?_, fun i => ?_, ?_, h.2.2.2⟩
    · have := h.1 i v hv; rw [World.cell?] at this ⊢; rw [e]; exact this
    · have := h.2.1 i; rw [World.frozen?] at this ⊢; rw [e]; exact this
    · have h1 := Array.getElem?_eq_getElem h.2.2.1
      rw [h1] at e
      exact (Array.getElem?_eq_some_iff.1 e).1
  apart := fun {w w2 o a o2 a2 x} h h2 _ hz hx => by
    obtain rfl := (h.2.2.2.2.1 x).1 hx
    cases cs with
    | nil => exact h.2.2.2.2.2 rfl
    | cons v l => have := h2.1 0 v rfl; rw [hz] at this; cases this
def A.bl (L : List (Nat × List Value)) : List A.It := L.map fun p => A.blk p.1 p.2
/-- The blocks o0 may have changed since w0; the items l hold. -/
def A.X (w0 : World) (o0 a0 : Nat → Prop) (l : List A.It) (w : World) : Prop := (∀ x, o0 x → a0 x) ∧ ∃ o a, A.Has l w o a ∧ A.Gr w0 o0 a0 o a
def A.ne (L : List (Nat × List Value)) : Bool := L.all fun p => !p.2.isEmpty
/-- A world with one block emptied. -/
theorem A.emptied (w : World) (x : Nat) : ∃ w2 : World, w2.heap.size = w.heap.size ∧ (∀ b, b ≠ x → w2.heap[b]? = w.heap[b]?) ∧ ∀ i, w2.cell? ⟨x, i, none⟩ = none := by
  refine ⟨{ w with heap := w.heap.setIfInBounds x (.cells #[] 0 (0, 0)) }, by simp, fun b hb => ?_, fun i => ?_⟩
  · show (w.heap.setIfInBounds x _)[b]? = _
    rw [Array.getElem?_setIfInBounds_ne]
    exact fun e => hb e.symm
  · rw [World.cell?]
    show (match (w.heap.setIfInBounds x (.cells #[] 0 (0, 0)))[x]? with | some (.cells c _ _) => _ | _ => none) = none
    rw [Array.getElem?_setIfInBounds_self]
    split
    · rename_i he; split at he
      · obtain rfl := Option.some.inj he |> fun e => (Obj.cells.inj e).1; simp
      · cases he
    · rfl
/-- The items speak of none of the known blocks. -/
theorem A.X.off {w0 w : World} {o0 a0 : Nat → Prop} {l : List A.It} {L : List (Nat × List Value)} (h : E.Hp o0 w0 (A.X w0 o0 a0 l) L w) {x : Nat} (hm : x ∈ L.map (·.1)) {o a : Nat → Prop} (hh : A.Has l w o a) : ¬ a x := fun hx => by
  obtain ⟨w2, hs, hw2, hz⟩ := A.emptied w x
  obtain ⟨_, o3, a3, h3, _⟩ := h.ext w2 (Nat.le_of_eq hs.symm) fun b hb hn => hw2 b fun e => hn (e ▸ hm)
  exact hh.apart h3 hw2 hz hx
theorem A.hp_has {w0 w : World} {o0 a0 : Nat → Prop} {l : List A.It} {L : List (Nat × List Value)} (hne : A.ne L = true) (h : E.Hp o0 w0 (A.X w0 o0 a0 l) L w) : ∃ o a, A.Has (A.bl L ++ l) w o a ∧ A.Gr w0 o0 a0 o a := by
  obtain ⟨hs, o2, a2, h2, hg2⟩ := h.x
  have na : ∀ x, x ∈ L.map (·.1) → ∀ o a, A.Has l w o a → ¬ a x := fun x hm o a hh hx => A.X.off h hm hh hx
  have hmem : ∀ p ∈ L, A.Has [A.blk p.1 p.2] w (fun x => x = p.1) (fun x => x = p.1) := fun p hp => by
    refine ⟨fun x => x = p.1, fun x => x = p.1, fun _ => False, fun _ => False, ⟨h.mem p hp, h.fz p hp, h.lt p hp, fun _ => Iff.rfl, fun _ => Iff.rfl, ?_⟩, ⟨fun _ h => h, fun _ h => h⟩, fun _ _ h => h, fun _ h => h.elim, fun x => by simp, fun x => by simp⟩
    intro e
    have := List.all_eq_true.1 hne p hp
    rw [e] at this; cases this
  have key : ∀ M : List (Nat × List Value), (∀ p ∈ M, p ∈ L) → (M.map (·.1)).Nodup → A.Has (A.bl M) w (fun x => x ∈ M.map (·.1)) (fun x => x ∈ M.map (·.1)) := by
    intro M
    induction M with
    | nil => exact fun _ _ => ⟨fun x hx => by simp at hx, fun x hx => by simp at hx⟩
    | cons p M ih =>
      intro hM hd
      rw [List.map_cons, List.nodup_cons] at hd
      have hj := (hmem p (hM p (List.mem_cons_self ..))).join (ih (fun q hq => hM q (List.mem_cons_of_mem _ hq)) hd.2) (fun x hx hx2 => hd.1 (hx ▸ hx2)) (fun x hx hx2 => hd.1 (hx2 ▸ hx))
      refine A.Has.iff (l := A.bl (p :: M)) hj (fun x => ?_) (fun x => ?_)
      · rw [List.map_cons, List.mem_cons]
      · rw [List.map_cons, List.mem_cons]
  refine ⟨_, _, (key L (fun _ h => h) h.nodup).join h2 (fun x hx hx2 => na x hx o2 a2 h2 hx2) (fun x hx hx2 => na x hx2 o2 a2 h2 (h2.sub x hx)), ⟨?_, ?_⟩⟩
  · rintro x hx (k | k)
    · obtain ⟨p, hp, rfl⟩ := List.mem_map.1 k
      exact h.own p hp hx
    · exact hg2.1 x hx k
  · rintro x hx (k | k)
    · obtain ⟨p, hp, rfl⟩ := List.mem_map.1 k
      exact hs _ (h.own p hp hx)
    · exact hg2.2 x hx k
theorem A.bl_has : ∀ {L : List (Nat × List Value)} {w : World} {o a : Nat → Prop}, A.Has (A.bl L) w o a → (∀ p ∈ L, (∀ i v, p.2[i]? = some v → w.cell? ⟨p.1, i, none⟩ = some v) ∧ (∀ i, w.frozen? ⟨p.1, i, none⟩ = false) ∧ p.1 < w.heap.size) ∧ (∀ x, o x ↔ x ∈ L.map (·.1)) ∧ (∀ x, a x ↔ x ∈ L.map (·.1)) ∧ (L.map (·.1)).Nodup
  | [], _, _, _, h => ⟨fun _ h => by simp at h, fun x => by simpa using h.1 x, fun x => by simpa using h.2 x, by simp⟩
  | p :: L, w, o, a, ⟨o1, a1, o2, a2, h1, h2, d1, d2, ho, ha⟩ => by
    obtain ⟨k1, k2, k3, k4⟩ := A.bl_has h2
    refine ⟨fun q hq => ?_, fun x => ?_, fun x => ?_, ?_⟩
    · rcases List.mem_cons.1 hq with rfl | hq
      · exact ⟨h1.1, h1.2.1, h1.2.2.1⟩
      · exact k1 q hq
    · rw [ho, k2, h1.2.2.2.1, List.map_cons, List.mem_cons]
    · rw [ha, k3, h1.2.2.2.2.1, List.map_cons, List.mem_cons]
    · rw [List.map_cons, List.nodup_cons]
      exact ⟨fun hm => d1 p.1 ((h1.2.2.2.1 _).2 rfl) ((k3 _).2 hm), k4⟩
theorem A.has_hp {w0 w : World} {o0 a0 o a : Nat → Prop} {l : List A.It} {L : List (Nat × List Value)} (hs : ∀ x, o0 x → a0 x) (h : A.Has (A.bl L ++ l) w o a) (hg : A.Gr w0 o0 a0 o a) (hc : Ch o0 w0 w) : E.Hp o0 w0 (A.X w0 o0 a0 l) L w := by
  obtain ⟨o1, a1, o2, a2, h1, h2, d1, d2, ho, ha⟩ := h.append
  obtain ⟨k1, k2, k3, k4⟩ := A.bl_has h1
  refine ⟨hc, fun p hp => (k1 p hp).1, fun p hp => (k1 p hp).2.1, fun p hp => (k1 p hp).2.2, fun p hp hlt => hg.1 _ hlt ((ho _).2 (.inl ((k2 _).2 (List.mem_map.2 ⟨p, hp, rfl⟩)))), k4, fun w' hsz hw => ⟨hs, o2, a2, h2.keep fun x hx => hw x (h2.lt x hx) fun hm => d1 x ((k2 x).2 hm) hx, fun x hx hk => hg.1 x hx ((ho x).2 (.inr hk)), fun x hx hk => hg.2 x hx ((ha x).2 (.inr hk))⟩⟩
/-- The state at the start of a call over items. -/
theorem A.start {w : World} {o a : Nat → Prop} {l : List A.It} {L : List (Nat × List Value)} (h : A.Has (A.bl L ++ l) w o a) : E.Hp o w (A.X w o a l) L w :=
  A.has_hp h.sub h (A.Gr.refl _ _ _) (Ch.refl _ _)
/-- The end of a call over items. -/
theorem A.done {w0 w : World} {o0 a0 : Nat → Prop} {l q r : List A.It} {L : List (Nat × List Value)} (h : E.Hp o0 w0 (A.X w0 o0 a0 l) L w) (hne : A.ne L = true) (hp : (A.bl L ++ l).Perm (q ++ r)) : ∃ o' a', A.Has q w o' a' ∧ Ch o0 w0 w ∧ A.Gr w0 o0 a0 o' a' := by
  obtain ⟨o, a, hh, hg⟩ := A.hp_has hne h
  obtain ⟨o1, a1, o2, a2, h1, h2, d1, d2, ho, ha⟩ := (hh.perm hp).append
  exact ⟨o1, a1, h1, h.ch, fun x hx hk => hg.1 x hx ((ho x).2 (.inl hk)), fun x hx hk => hg.2 x hx ((ha x).2 (.inl hk))⟩
section rules
variable {P : Program} {n : Nat} {ops : Array Oper} {Q : Exit → Act → World → Prop} {w0 : World} {o0 a0 : Nat → Prop} {its : List A.It} {L : List (Nat × List Value)} {l : List Oper} {o : Oper} {fr : E.Fr}
theorem A.call_tr {f : FuncId} {args : Array Value} {I : Type} {D : I → Prop} {V : I → Value} {p : List A.It} {q : I → List A.It} {w : World} (fm : List A.It) (L' : I → List (Nat × List Value)) (its' : I → List A.It) (hc : A.Tr P f args p D V q) (h : E.Hp o0 w0 (A.X w0 o0 a0 its) L w) (hne : A.ne L = true) (h1 : (A.bl L ++ its).Perm (p ++ fm)) (h2 : ∀ i, (q i ++ fm).Perm (A.bl (L' i) ++ its' i)) :
    Calls P f args w fun e w' => ∃ i, D i ∧ e = .returned (V i) ∧ E.Hp o0 w0 (A.X w0 o0 a0 (its' i)) (L' i) w' := by
  obtain ⟨o, a, hh, hg⟩ := A.hp_has hne h
  refine (hc.frame fm w o a (hh.perm h1)).mono fun e w' ⟨i, hd, he, o', a', hq, hc, hg'⟩ => ⟨i, hd, he, ?_⟩
  exact A.has_hp h.x.1 (hq.perm (h2 i)) (hg.trans h.ch.size hg') (h.ch.trans' hc fun x hx hk => hg.1 x hx hk)
/-- A call that turns items. -/
theorem A.G.call {f : FuncId} {args : Array Value} {I : Type} {D : I → Prop} {V : I → Value} {p : List A.It} {q : I → List A.It} (fm : List A.It) (L' : I → List (Nat × List Value)) (its' : I → List A.It) (hc : A.Tr P f args p D V q) (hne : A.ne L = true) (h1 : (A.bl L ++ its).Perm (p ++ fm)) (h2 : ∀ i, (q i ++ fm).Perm (A.bl (L' i) ++ its' i))
    (hr : ∀ w, E.Hp o0 w0 (A.X w0 o0 a0 its) L w → (execOp (E.ev fr) o).run P w = .ok (.enter f args) w) (hck : E.ck n ops fr o = true)
    (k : ∀ i, D i → E.G P n ops Q l (E.upd fr o.dst (V i)) o0 w0 (A.X w0 o0 a0 (its' i)) (L' i)) : E.G P n ops Q (o :: l) fr o0 w0 (A.X w0 o0 a0 its) L :=
  E.G.callX D V (fun i => A.X w0 o0 a0 (its' i)) L' (fun w h => A.call_tr fm L' its' hc h hne h1 h2) hr hck k
/-- A call that reads items, in any region. -/
theorem A.call_rd {f : FuncId} {args : Array Value} {v : Value} {p : List A.It} {w : World} (fm : List A.It) (hc : A.Rd P f args p v) (h : E.Hp o0 w0 (A.X w0 o0 a0 its) L w) (hne : A.ne L = true) (h1 : (A.bl L ++ its).Perm (p ++ fm)) :
    Calls P f args w fun e w' => e = .returned v ∧ Bel w w' := by
  obtain ⟨o, a, hh, hg⟩ := A.hp_has hne h
  exact hc.frame fm w o a (hh.perm h1)
/-- The items in another order, or some blocks as items. -/
theorem A.G.shift (L' : List (Nat × List Value)) (its' : List A.It) (hne : A.ne L = true) (h1 : (A.bl L ++ its).Perm (A.bl L' ++ its')) (k : E.G P n ops Q l fr o0 w0 (A.X w0 o0 a0 its') L') : E.G P n ops Q l fr o0 w0 (A.X w0 o0 a0 its) L := by
  intro a w hs h
  obtain ⟨o, a', hh, hg⟩ := A.hp_has hne h
  exact k a w hs (A.has_hp h.x.1 (hh.perm h1) hg h.ch)
theorem A.C.shift {c : Code} (L' : List (Nat × List Value)) (its' : List A.It) (hne : A.ne L = true) (h1 : (A.bl L ++ its).Perm (A.bl L' ++ its')) (k : E.C P n Q c fr o0 w0 (A.X w0 o0 a0 its') L') : E.C P n Q c fr o0 w0 (A.X w0 o0 a0 its) L := by
  intro a w hs h
  obtain ⟨o, a', hh, hg⟩ := A.hp_has hne h
  exact k a w hs (A.has_hp h.x.1 (hh.perm h1) hg h.ch)
/-- Items forgotten or restated. -/
theorem A.X.imp {w : World} {l' : List A.It} (h : E.Hp o0 w0 (A.X w0 o0 a0 its) L w) (hi : ∀ w o a, A.Has its w o a → A.Has l' w o a) : E.Hp o0 w0 (A.X w0 o0 a0 l') L w :=
  h.monoX fun w ⟨hs, o, a, hh, hg⟩ => ⟨hs, o, a, hi w o a hh, hg⟩
end rules
end Go.Proofs.Ytdjjjikokfadiaa
