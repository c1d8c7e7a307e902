/- Texts of the walk, merged (2): see the remark ahead of each. -/
import Derived.Test.YtglidnmmeclneaaGreatKj1
import Derived.Test.YtglidnmmeclneaaGreatProg
import Derived.ChangeKeysEq
import Derived.LaidEqlPtr
import Derived.Laws.MakeOwn
import Derived.Lib.ConvBytes
namespace Go.Proofs.YtglidnmmeclneaaGreat
set_option linter.unusedVariables false
set_option linter.unusedSimpArgs false
open Go.RowKit
theorem Poke_any (o : M.Obj) (a : Nat) (s : ByteArray) (hs : s.size < 4294967296) (w : World) (hst : M.St o w) : Calls Tryz.prog 18 #[.pointer (some ⟨o.m, 0, none⟩), .int .u32 ((a : Nat) : Int), .string s] w fun e w' => e = .returned (.tuple #[]) ∧ ∃ o', M.St o' w' ∧ Ch (fun x => M.ow o x) w w' ∧ M.Nxt w o o' ∧ ∀ V, M.Sh o V → M.Sh o' (V.poke a s s.size) := by
 refine E.enter (n := 9) (S := fun x => M.ow o x) Tryz.func18 rfl rfl Nz.k (hst.hp (Ch.refl _ _)) (E.sr (E.nw [E.pt o.m] 35 (fun g1 => E.nw [E.u ((a : Nat) : Int)] 22 (fun g2 => E.ur (E.op (.string s) (E.op (.func (.func 49) #[] #[E.pt g1, E.pt g2]) (E.G.callX (I := M.Obj) (fun oo => M.Nxt w o oo ∧ ∀ V, M.Sh o V → M.Sh oo (V.poke a s s.size)) (fun _ => .tuple #[]) (fun oo w => M.St oo w) (fun _ => [(g2, [E.u ((a : Nat) : Int)]), (g1, [E.pt o.m])]) (fun u h => each_any o o (M.Nxt.refl w o) (fun _ h => h) g1 g2 a s hs u h) (fun u _ => Nz.k) Nz.k (fun o1 hd1 => E.To.bodyN (fn := Tryz.f18) [] ?_ ?_))))))))
 · exact trivial
 intro w h
 exact ⟨rfl, o1, h.x, h.ch, hd1.1, hd1.2⟩
/-- Both objects have the same pages but for the image of page k, which is g. -/
structure M.Cod (o o' : M.Obj) (k g : Nat) : Prop where
  n : o'.sl.length = o.sl.length
  m : o'.m = o.m
  b : o'.b = o.b
  coh : o'.coh = o.coh
  d : ∀ j, (o'.at j).d = (o.at j).d
  od : ∀ j, (o'.at j).od = (o.at j).od
  cd : ∀ j, (o'.at j).cd = (o.at j).cd
  cc : ∀ j, (o'.at j).cc = (o.at j).cc
  r : ∀ j, (o'.at j).r = (o.at j).r
  ck : (o'.at k).c = some g
  c : ∀ j, j ≠ k → (o'.at j).c = (o.at j).c ∧ (o'.at j).oc = (o.at j).oc
theorem M.Cod.inv {o o' : M.Obj} {k g : Nat} (h : M.Cod o o' k g) (hi : M.Inv o) (hk : k < o.sl.length) (hcoh : o.coh = false) (hpg : ∀ p, M.Pg o.sl p → p ≠ g) (hgb : g ≠ o.m ∧ g ≠ o.b) (hp : ∀ p, M.Pg o'.sl p → p = g ∨ M.Pg o.sl p) (hC : ∀ p, M.Pg o'.sl p → ∀ i, i < 256 → 0 ≤ o'.C p i ∧ o'.C p i < 256) : M.Inv o' := by
  refine ⟨fun hn => by rw [h.m, h.b]; exact hi.mb (by omega), fun p hq => ?_, fun a b ha hb hod => ?_, fun a b p ha hb hoc hc => ?_, fun a ha => ?_, hC, fun a ha => ?_⟩
  · rw [h.m, h.b]
    rcases hp p hq with rfl | hq
    · exact hgb
    · exact hi.pm p hq
  · rw [h.n] at ha hb
    rw [h.od] at hod
    have hx := hi.od a b ha hb hod
    rw [h.d, h.d, h.cd, h.cc]
    refine ⟨hx.1, ?_, hx.2.2.1, hx.2.2.2⟩
    by_cases e : b = k
    · subst e; rw [h.ck]; exact fun e2 => hpg _ (M.pg_d ha) (Option.some.inj e2).symm
    · rw [(h.c b e).1]; exact hx.2.1
  · rw [h.n] at ha hb
    rw [h.d, h.cd, h.cc]
    by_cases ea : a = k
    · subst ea
      rw [h.ck] at hc
      obtain rfl := Option.some.inj hc
      refine ⟨fun e2 => ?_, hpg _ (M.pg_d hb), hpg _ (M.pg_cd hb), fun e2 => hpg _ (M.pg_cc hb e2) rfl⟩
      by_cases eb : b = a
      · exact eb
      · rw [(h.c b eb).1] at e2; exact absurd rfl (hpg _ (M.pg_c hb e2))
    · rw [(h.c a ea).1] at hc
      rw [(h.c a ea).2] at hoc
      have hx := hi.oc a b p ha hb hoc hc
      refine ⟨?_, hx.2⟩
      by_cases eb : b = k
      · subst eb; rw [h.ck]; exact fun e2 => absurd (Option.some.inj e2).symm (hpg _ (M.pg_c ha hc))
      · rw [(h.c b eb).1]; exact hx.1
  · rw [h.n] at ha
    have hx := hi.co a ha
    rw [h.cc, h.coh]
    refine ⟨?_, hx.2⟩
    by_cases e : a = k
    · subst e; rw [h.ck, hcoh]; rfl
    · rw [(h.c a e).1]; exact hx.1
  · rw [h.n] at ha
    rw [h.r]; exact hi.rb a ha
def M.V.sync (V : M.V) (k : Nat) : M.V := if k < V.n ∧ V.coh = false then { V with i := fun j x => if j = k then V.d j x else V.i j x } else V
def M.eqv (f g : Nat → Int) (l : List Nat) : Bool := l.all fun i => f i == g i
def M.pageS (o : M.Obj) (n : Int) : ByteArray := (bif ((decide (n < 0)) || (decide (n ≥ ((o.sl.length : Nat) : Int)))) then (⟨#[]⟩ : ByteArray) else (strOfNums ((List.range 256).map (o.C (o.at n.toNat).d))))

end Go.Proofs.YtglidnmmeclneaaGreat
namespace Go.Proofs.YtglidnmmeclneaaGreat
set_option linter.unusedVariables false
set_option linter.unusedSimpArgs false
open Go.RowKit
structure A.It where
  t : World → (Nat → Prop) → (Nat → Prop) → Prop
  sub : ∀ {w o a}, t w o a → ∀ x, o x → a x
  lt : ∀ {w o a}, t w o a → ∀ x, a x → x < w.heap.size
  keep : ∀ {w w' o a}, t w o a → (∀ x, a x → w'.heap[x]? = w.heap[x]?) → t w' o a
  apart : ∀ {w w2 o a o2 a2 x}, t w o a → t w2 o2 a2 → (∀ b, b ≠ x → w2.heap[b]? = w.heap[b]?) → (∀ i, w2.cell? ⟨x, i, none⟩ = none) → ¬ a x
def A.Has : List A.It → World → (Nat → Prop) → (Nat → Prop) → Prop
  | [], _, o, a => (∀ x, ¬ o x) ∧ ∀ x, ¬ a x
  | i :: l, w, o, a => ∃ o1 a1 o2 a2, i.t w o1 a1 ∧ A.Has l w o2 a2 ∧ (∀ x, o1 x → ¬ a2 x) ∧ (∀ x, o2 x → ¬ a1 x) ∧ (∀ x, o x ↔ o1 x ∨ o2 x) ∧ ∀ x, a x ↔ a1 x ∨ a2 x
theorem A.Has.sub : ∀ {l : List A.It} {w : World} {o a : Nat → Prop}, A.Has l w o a → ∀ x, o x → a x
  | [], _, _, _, h, x, hx => (h.1 x hx).elim
  | i :: l, w, o, a, ⟨o1, a1, o2, a2, h1, h2, _, _, ho, ha⟩, x, hx => by
    rcases (ho x).1 hx with k | k
    · exact (ha x).2 (.inl (i.sub h1 x k))
    · exact (ha x).2 (.inr (A.Has.sub h2 x k))
theorem A.Has.lt : ∀ {l : List A.It} {w : World} {o a : Nat → Prop}, A.Has l w o a → ∀ x, a x → x < w.heap.size
  | [], _, _, _, h, x, hx => (h.2 x hx).elim
  | i :: l, w, o, a, ⟨o1, a1, o2, a2, h1, h2, _, _, ho, ha⟩, x, hx => by
    rcases (ha x).1 hx with k | k
    · exact i.lt h1 x k
    · exact A.Has.lt h2 x k
theorem A.Has.keep : ∀ {l : List A.It} {w w' : World} {o a : Nat → Prop}, A.Has l w o a → (∀ x, a x → w'.heap[x]? = w.heap[x]?) → A.Has l w' o a
  | [], _, _, _, _, h, _ => h
  | i :: l, w, w', o, a, ⟨o1, a1, o2, a2, h1, h2, d1, d2, ho, ha⟩, hk =>
    ⟨o1, a1, o2, a2, i.keep h1 (fun x hx => hk x ((ha x).2 (.inl hx))), A.Has.keep h2 (fun x hx => hk x ((ha x).2 (.inr hx))), d1, d2, ho, ha⟩
theorem A.Has.apart : ∀ {l : List A.It} {w w2 : World} {o a o2 a2 : Nat → Prop} {x : Nat}, A.Has l w o a → A.Has l w2 o2 a2 → (∀ b, b ≠ x → w2.heap[b]? = w.heap[b]?) → (∀ i, w2.cell? ⟨x, i, none⟩ = none) → ¬ a x
  | [], _, _, _, _, _, _, x, h, _, _, _ => h.2 x
  | i :: l, w, w2, o, a, o2, a2, x, ⟨p1, q1, p2, q2, h1, h2, _, _, _, ha⟩, ⟨p3, q3, p4, q4, h3, h4, _, _, _, _⟩, hb, hz => fun hx => by
    rcases (ha x).1 hx with k | k
    · exact i.apart h1 h3 hb hz k
    · exact A.Has.apart h2 h4 hb hz k
theorem A.Has.iff : ∀ {l : List A.It} {w : World} {o a o' a' : Nat → Prop}, A.Has l w o a → (∀ x, o' x ↔ o x) → (∀ x, a' x ↔ a x) → A.Has l w o' a'
  | [], _, _, _, _, _, h, ho, ha => ⟨fun x k => h.1 x ((ho x).1 k), fun x k => h.2 x ((ha x).1 k)⟩
  | i :: l, w, o, a, o', a', ⟨o1, a1, o2, a2, h1, h2, d1, d2, go, ga⟩, ho, ha => ⟨o1, a1, o2, a2, h1, h2, d1, d2, fun x => (ho x).trans (go x), fun x => (ha x).trans (ga x)⟩
theorem A.Has.append : ∀ {l m : List A.It} {w : World} {o a : Nat → Prop}, A.Has (l ++ m) w o a → ∃ o1 a1 o2 a2, A.Has l w o1 a1 ∧ A.Has m w o2 a2 ∧ (∀ x, o1 x → ¬ a2 x) ∧ (∀ x, o2 x → ¬ a1 x) ∧ (∀ x, o x ↔ o1 x ∨ o2 x) ∧ ∀ x, a x ↔ a1 x ∨ a2 x
  | [], m, w, o, a, h => ⟨fun _ => False, fun _ => False, o, a, ⟨fun _ h => h, fun _ h => h⟩, h, fun _ h => h.elim, fun _ _ h => h, fun x => by simp, fun x => by simp⟩
  | i :: l, m, w, o, a, ⟨o1, a1, o2, a2, h1, h2, d1, d2, ho, ha⟩ => by
    obtain ⟨p1, q1, p2, q2, k1, k2, e1, e2, ko, ka⟩ := A.Has.append h2
    refine ⟨fun x => o1 x ∨ p1 x, fun x => a1 x ∨ q1 x, p2, q2, ⟨o1, a1, p1, q1, h1, k1, fun x hx hq => d1 x hx ((ka x).2 (.inl hq)), fun x hx => d2 x ((ko x).2 (.inl hx)), fun _ => Iff.rfl, fun _ => Iff.rfl⟩, k2, fun x hx hq => ?_, fun x hx hq => ?_, fun x => ?_, fun x => ?_⟩
    · rcases hx with hx | hx
      · exact d1 x hx ((ka x).2 (.inr hq))
      · exact e1 x hx hq
    · rcases hq with hq | hq
      · exact d2 x ((ko x).2 (.inr hx)) hq
      · exact e2 x hx hq
    · rw [ho, ko, or_assoc]
    · rw [ha, ka, or_assoc]
theorem A.Has.join : ∀ {l m : List A.It} {w : World} {o1 a1 o2 a2 : Nat → Prop}, A.Has l w o1 a1 → A.Has m w o2 a2 → (∀ x, o1 x → ¬ a2 x) → (∀ x, o2 x → ¬ a1 x) → A.Has (l ++ m) w (fun x => o1 x ∨ o2 x) (fun x => a1 x ∨ a2 x)
  | [], m, w, o1, a1, o2, a2, h, k, _, _ => k.iff (fun x => ⟨fun hx => hx.elim (fun e => (h.1 x e).elim) id, .inr⟩) (fun x => ⟨fun hx => hx.elim (fun e => (h.2 x e).elim) id, .inr⟩)
  | i :: l, m, w, o1, a1, o2, a2, ⟨p1, q1, p2, q2, h1, h2, d1, d2, ho, ha⟩, k, e1, e2 => by
    refine ⟨p1, q1, fun x => p2 x ∨ o2 x, fun x => q2 x ∨ a2 x, h1, A.Has.join h2 k (fun x hx => e1 x ((ho x).2 (.inr hx))) (fun x hx hq => e2 x hx ((ha x).2 (.inr hq))), fun x hx hq => ?_, fun x hx hq => ?_, fun x => ?_, fun x => ?_⟩
    · rcases hq with hq | hq
      · exact d1 x hx hq
      · exact e1 x ((ho x).2 (.inl hx)) hq
    · rcases hx with hx | hx
      · exact d2 x hx hq
      · exact e2 x hx ((ha x).2 (.inl hq))
    · show (o1 x ∨ o2 x) ↔ p1 x ∨ p2 x ∨ o2 x
      rw [ho, or_assoc]
    · show (a1 x ∨ a2 x) ↔ q1 x ∨ q2 x ∨ a2 x
      rw [ha, or_assoc]
theorem A.Has.perm {l m : List A.It} (hp : l.Perm m) : ∀ {w : World} {o a : Nat → Prop}, A.Has l w o a → A.Has m w o a := by
  induction hp with
  | nil => exact fun h => h
  | cons i _ ih => exact fun ⟨o1, a1, o2, a2, h1, h2, r⟩ => ⟨o1, a1, o2, a2, h1, ih h2, r⟩
  | swap i j l =>
    rintro w o a ⟨o1, a1, o2, a2, h1, ⟨o3, a3, o4, a4, h3, h4, d3, d4, e3, e4⟩, d1, d2, e1, e2⟩
    refine ⟨o3, a3, fun x => o1 x ∨ o4 x, fun x => a1 x ∨ a4 x, h3, ⟨o1, a1, o4, a4, h1, h4, fun x hx hq => d1 x hx ((e4 x).2 (.inr hq)), fun x hx => d2 x ((e3 x).2 (.inr hx)), fun _ => Iff.rfl, fun _ => Iff.rfl⟩, fun x hx hq => ?_, fun x hx hq => ?_, fun x => ?_, fun x => ?_⟩
    · rcases hq with hq | hq
      · exact d2 x ((e3 x).2 (.inl hx)) hq
      · exact d3 x hx hq
    · rcases hx with hx | hx
      · exact d1 x hx ((e4 x).2 (.inl hq))
      · exact d4 x hx hq
    · rw [e1, e3]; exact or_left_comm
    · rw [e2, e4]; exact or_left_comm
  | trans _ _ ih1 ih2 => exact fun h => ih2 (ih1 h)
/-- A rearrangement by places. -/
def A.pick {α : Type} (l : List α) (s : List Nat) : List α := s.filterMap fun i => l[i]?
theorem A.pick_range {α : Type} : ∀ (l : List α), A.pick l (List.range l.length) = l
  | [] => rfl
  | a :: l => by
    have ih := A.pick_range l
    unfold A.pick at ih ⊢
    rw [List.length_cons, List.range_succ_eq_map, List.filterMap_cons]
    simp only [List.getElem?_cons_zero, List.filterMap_map]
    exact congrArg (a :: ·) ih
theorem A.pm {α : Type} {l m : List α} (s : List Nat) (hs : s.isPerm (List.range l.length) = true) (hm : m = A.pick l s) : l.Perm m := by
  subst hm
  have h := (List.isPerm_iff.1 hs).filterMap (fun i => l[i]?)
  have e : (List.range l.length).filterMap (fun i => l[i]?) = l := A.pick_range l
  rw [e] at h
  exact h.symm
/-- What may be changed and what is spoken of grow by new blocks only. -/
def A.Gr (w : World) (o a o' a' : Nat → Prop) : Prop := (∀ x, x < w.heap.size → o' x → o x) ∧ ∀ x, x < w.heap.size → a' x → a x
theorem A.Gr.refl (w : World) (o a : Nat → Prop) : A.Gr w o a o a := ⟨fun _ _ h => h, fun _ _ h => h⟩
theorem A.Gr.trans {w w' : World} {o a o' a' o2 a2 : Nat → Prop} (h : A.Gr w o a o' a') (hs : w.heap.size ≤ w'.heap.size) (k : A.Gr w' o' a' o2 a2) : A.Gr w o a o2 a2 :=
  ⟨fun x hx hk => h.1 x hx (k.1 x (Nat.lt_of_lt_of_le hx hs) hk), fun x hx hk => h.2 x hx (k.2 x (Nat.lt_of_lt_of_le hx hs) hk)⟩
/-- A call over the items p. -/
def A.Tr (P : Program) (f : FuncId) (args : Array Value) (p : List A.It) {I : Type} (D : I → Prop) (V : I → Value) (q : I → List A.It) : Prop :=
  ∀ w o a, A.Has p w o a → Calls P f args w fun e w' => ∃ i, D i ∧ e = .returned (V i) ∧ ∃ o' a', A.Has (q i) w' o' a' ∧ Ch o w w' ∧ A.Gr w o a o' a'
/-- A call that reads the items p. -/
def A.Rd (P : Program) (f : FuncId) (args : Array Value) (p : List A.It) (v : Value) : Prop :=
  ∀ w o a, A.Has p w o a → Calls P f args w fun e w' => e = .returned v ∧ Bel w w'
theorem A.Tr.frame {P : Program} {f : FuncId} {args : Array Value} {p : List A.It} {I : Type} {D : I → Prop} {V : I → Value} {q : I → List A.It} (h : A.Tr P f args p D V q) (fr : List A.It) : A.Tr P f args (p ++ fr) D V fun i => q i ++ fr := by
  intro w o a hh
  obtain ⟨o1, a1, o2, a2, h1, h2, d1, d2, ho, ha⟩ := hh.append
  refine (h w o1 a1 h1).mono fun e w' ⟨i, hd, he, o', a', hq, hc, hg⟩ => ⟨i, hd, he, fun x => o' x ∨ o2 x, fun x => a' x ∨ a2 x, hq.join (h2.keep fun x hx => hc.block x (h2.lt x hx) fun hx1 => d1 x hx1 hx) (fun x hx hx2 => d1 x (hg.1 x (h2.lt x hx2) hx) hx2) (fun x hx hx2 => d2 x hx (hg.2 x (h2.lt x (h2.sub x hx)) hx2)), hc.mono fun x _ hx => (ho x).2 (.inl hx), ?_, ?_⟩
  · rintro x hx (k | k)
    · exact (ho x).2 (.inl (hg.1 x hx k))
    · exact (ho x).2 (.inr k)
  · rintro x hx (k | k)
    · exact (ha x).2 (.inl (hg.2 x hx k))
    · exact (ha x).2 (.inr k)
theorem A.Rd.frame {P : Program} {f : FuncId} {args : Array Value} {p : List A.It} {v : Value} (h : A.Rd P f args p v) (fr : List A.It) : A.Rd P f args (p ++ fr) v := by
  intro w o a hh
  obtain ⟨o1, a1, o2, a2, h1, h2, d1, d2, ho, ha⟩ := hh.append
  exact h w o1 a1 h1
/-- A block whose cells are known. -/
def A.blk (g : Nat) (cs : List Value) : A.It where
  t w o a := (∀ i v, cs[i]? = some v → w.cell? ⟨g, i, none⟩ = some v) ∧ (∀ i, w.frozen? ⟨g, i, none⟩ = false) ∧ g < w.heap.size ∧ (∀ x, o x ↔ x = g) ∧ (∀ x, a x ↔ x = g) ∧ cs ≠ []
  sub := fun h x hx => (h.2.2.2.2.1 x).2 ((h.2.2.2.1 x).1 hx)
  lt := fun h x hx => by rw [(h.2.2.2.2.1 x).1 hx]; exact h.2.2.1
  keep := fun {w w' o a} h hk => by
    have e := hk g ((h.2.2.2.2.1 g).2 rfl)
    refine ⟨fun i v hv => ?_, fun i => ?_, ?_, h.2.2.2⟩
    · have := h.1 i v hv; rw [World.cell?] at this ⊢; rw [e]; exact this
    · have := h.2.1 i; rw [World.frozen?] at this ⊢; rw [e]; exact this
    · have h1 := Array.getElem?_eq_getElem h.2.2.1
      rw [h1] at e
      exact (Array.getElem?_eq_some_iff.1 e).1
  apart := fun {w w2 o a o2 a2 x} h h2 _ hz hx => by
    obtain rfl := (h.2.2.2.2.1 x).1 hx
    cases cs with
    | nil => exact h.2.2.2.2.2 rfl
    | cons v l => have := h2.1 0 v rfl; rw [hz] at this; cases this
def A.bl (L : List (Nat × List Value)) : List A.It := L.map fun p => A.blk p.1 p.2
/-- The blocks o0 may have changed since w0; the items l hold. -/
def A.X (w0 : World) (o0 a0 : Nat → Prop) (l : List A.It) (w : World) : Prop := (∀ x, o0 x → a0 x) ∧ ∃ o a, A.Has l w o a ∧ A.Gr w0 o0 a0 o a
def A.ne (L : List (Nat × List Value)) : Bool := L.all fun p => !p.2.isEmpty
/-- A world with one block emptied. -/
theorem A.emptied (w : World) (x : Nat) : ∃ w2 : World, w2.heap.size = w.heap.size ∧ (∀ b, b ≠ x → w2.heap[b]? = w.heap[b]?) ∧ ∀ i, w2.cell? ⟨x, i, none⟩ = none := by
  refine ⟨{ w with heap := w.heap.setIfInBounds x (.cells #[] 0 (0, 0)) }, by simp, fun b hb => ?_, fun i => ?_⟩
  · show (w.heap.setIfInBounds x _)[b]? = _
    rw [Array.getElem?_setIfInBounds_ne]
    exact fun e => hb e.symm
  · rw [World.cell?]
    show (match (w.heap.setIfInBounds x (.cells #[] 0 (0, 0)))[x]? with | some (.cells c _ _) => _ | _ => none) = none
    rw [Array.getElem?_setIfInBounds_self]
    split
    · rename_i he; split at he
      · obtain rfl := Option.some.inj he |> fun e => (Obj.cells.inj e).1; simp
      · cases he
    · rfl
/-- The items speak of none of the known blocks. -/
theorem A.X.off {w0 w : World} {o0 a0 : Nat → Prop} {l : List A.It} {L : List (Nat × List Value)} (h : E.Hp o0 w0 (A.X w0 o0 a0 l) L w) {x : Nat} (hm : x ∈ L.map (·.1)) {o a : Nat → Prop} (hh : A.Has l w o a) : ¬ a x := fun hx => by
  obtain ⟨w2, hs, hw2, hz⟩ := A.emptied w x
  obtain ⟨_, o3, a3, h3, _⟩ := h.ext w2 (Nat.le_of_eq hs.symm) fun b hb hn => hw2 b fun e => hn (e ▸ hm)
  exact hh.apart h3 hw2 hz hx
theorem A.hp_has {w0 w : World} {o0 a0 : Nat → Prop} {l : List A.It} {L : List (Nat × List Value)} (hne : A.ne L = true) (h : E.Hp o0 w0 (A.X w0 o0 a0 l) L w) : ∃ o a, A.Has (A.bl L ++ l) w o a ∧ A.Gr w0 o0 a0 o a := by
  obtain ⟨hs, o2, a2, h2, hg2⟩ := h.x
  have na : ∀ x, x ∈ L.map (·.1) → ∀ o a, A.Has l w o a → ¬ a x := fun x hm o a hh hx => A.X.off h hm hh hx
  have hmem : ∀ p ∈ L, A.Has [A.blk p.1 p.2] w (fun x => x = p.1) (fun x => x = p.1) := fun p hp => by
    refine ⟨fun x => x = p.1, fun x => x = p.1, fun _ => False, fun _ => False, ⟨h.mem p hp, h.fz p hp, h.lt p hp, fun _ => Iff.rfl, fun _ => Iff.rfl, ?_⟩, ⟨fun _ h => h, fun _ h => h⟩, fun _ _ h => h, fun _ h => h.elim, fun x => by simp, fun x => by simp⟩
    intro e
    have := List.all_eq_true.1 hne p hp
    rw [e] at this; cases this
  have key : ∀ M : List (Nat × List Value), (∀ p ∈ M, p ∈ L) → (M.map (·.1)).Nodup → A.Has (A.bl M) w (fun x => x ∈ M.map (·.1)) (fun x => x ∈ M.map (·.1)) := by
    intro M
    induction M with
    | nil => exact fun _ _ => ⟨fun x hx => by simp at hx, fun x hx => by simp at hx⟩
    | cons p M ih =>
      intro hM hd
      rw [List.map_cons, List.nodup_cons] at hd
      have hj := (hmem p (hM p (List.mem_cons_self ..))).join (ih (fun q hq => hM q (List.mem_cons_of_mem _ hq)) hd.2) (fun x hx hx2 => hd.1 (hx ▸ hx2)) (fun x hx hx2 => hd.1 (hx2 ▸ hx))
      refine A.Has.iff (l := A.bl (p :: M)) hj (fun x => ?_) (fun x => ?_)
      · rw [List.map_cons, List.mem_cons]
      · rw [List.map_cons, List.mem_cons]
  refine ⟨_, _, (key L (fun _ h => h) h.nodup).join h2 (fun x hx hx2 => na x hx o2 a2 h2 hx2) (fun x hx hx2 => na x hx2 o2 a2 h2 (h2.sub x hx)), ⟨?_, ?_⟩⟩
  · rintro x hx (k | k)
    · obtain ⟨p, hp, rfl⟩ := List.mem_map.1 k
      exact h.own p hp hx
    · exact hg2.1 x hx k
  · rintro x hx (k | k)
    · obtain ⟨p, hp, rfl⟩ := List.mem_map.1 k
      exact hs _ (h.own p hp hx)
    · exact hg2.2 x hx k
theorem A.bl_has : ∀ {L : List (Nat × List Value)} {w : World} {o a : Nat → Prop}, A.Has (A.bl L) w o a → (∀ p ∈ L, (∀ i v, p.2[i]? = some v → w.cell? ⟨p.1, i, none⟩ = some v) ∧ (∀ i, w.frozen? ⟨p.1, i, none⟩ = false) ∧ p.1 < w.heap.size) ∧ (∀ x, o x ↔ x ∈ L.map (·.1)) ∧ (∀ x, a x ↔ x ∈ L.map (·.1)) ∧ (L.map (·.1)).Nodup
  | [], _, _, _, h => ⟨fun _ h => by simp at h, fun x => by simpa using h.1 x, fun x => by simpa using h.2 x, by simp⟩
  | p :: L, w, o, a, ⟨o1, a1, o2, a2, h1, h2, d1, d2, ho, ha⟩ => by
    obtain ⟨k1, k2, k3, k4⟩ := A.bl_has h2
    refine ⟨fun q hq => ?_, fun x => ?_, fun x => ?_, ?_⟩
    · rcases List.mem_cons.1 hq with rfl | hq
      · exact ⟨h1.1, h1.2.1, h1.2.2.1⟩
      · exact k1 q hq
    · rw [ho, k2, h1.2.2.2.1, List.map_cons, List.mem_cons]
    · rw [ha, k3, h1.2.2.2.2.1, List.map_cons, List.mem_cons]
    · rw [List.map_cons, List.nodup_cons]
      exact ⟨fun hm => d1 p.1 ((h1.2.2.2.1 _).2 rfl) ((k3 _).2 hm), k4⟩
theorem A.has_hp {w0 w : World} {o0 a0 o a : Nat → Prop} {l : List A.It} {L : List (Nat × List Value)} (hs : ∀ x, o0 x → a0 x) (h : A.Has (A.bl L ++ l) w o a) (hg : A.Gr w0 o0 a0 o a) (hc : Ch o0 w0 w) : E.Hp o0 w0 (A.X w0 o0 a0 l) L w := by
  obtain ⟨o1, a1, o2, a2, h1, h2, d1, d2, ho, ha⟩ := h.append
  obtain ⟨k1, k2, k3, k4⟩ := A.bl_has h1
  refine ⟨hc, fun p hp => (k1 p hp).1, fun p hp => (k1 p hp).2.1, fun p hp => (k1 p hp).2.2, fun p hp hlt => hg.1 _ hlt ((ho _).2 (.inl ((k2 _).2 (List.mem_map.2 ⟨p, hp, rfl⟩)))), k4, fun w' hsz hw => ⟨hs, o2, a2, h2.keep fun x hx => hw x (h2.lt x hx) fun hm => d1 x ((k2 x).2 hm) hx, fun x hx hk => hg.1 x hx ((ho x).2 (.inr hk)), fun x hx hk => hg.2 x hx ((ha x).2 (.inr hk))⟩⟩
/-- The state at the start of a call over items. -/
theorem A.start {w : World} {o a : Nat → Prop} {l : List A.It} {L : List (Nat × List Value)} (h : A.Has (A.bl L ++ l) w o a) : E.Hp o w (A.X w o a l) L w :=
  A.has_hp h.sub h (A.Gr.refl _ _ _) (Ch.refl _ _)
/-- The end of a call over items. -/
theorem A.done {w0 w : World} {o0 a0 : Nat → Prop} {l q r : List A.It} {L : List (Nat × List Value)} (h : E.Hp o0 w0 (A.X w0 o0 a0 l) L w) (hne : A.ne L = true) (hp : (A.bl L ++ l).Perm (q ++ r)) : ∃ o' a', A.Has q w o' a' ∧ Ch o0 w0 w ∧ A.Gr w0 o0 a0 o' a' := by
  obtain ⟨o, a, hh, hg⟩ := A.hp_has hne h
  obtain ⟨o1, a1, o2, a2, h1, h2, d1, d2, ho, ha⟩ := (hh.perm hp).append
  exact ⟨o1, a1, h1, h.ch, fun x hx hk => hg.1 x hx ((ho x).2 (.inl hk)), fun x hx hk => hg.2 x hx ((ha x).2 (.inl hk))⟩
section rules
variable {P : Program} {n : Nat} {ops : Array Oper} {Q : Exit → Act → World → Prop} {w0 : World} {o0 a0 : Nat → Prop} {its : List A.It} {L : List (Nat × List Value)} {l : List Oper} {o : Oper} {fr : E.Fr}
theorem A.call_tr {f : FuncId} {args : Array Value} {I : Type} {D : I → Prop} {V : I → Value} {p : List A.It} {q : I → List A.It} {w : World} (fm : List A.It) (L' : I → List (Nat × List Value)) (its' : I → List A.It) (hc : A.Tr P f args p D V q) (h : E.Hp o0 w0 (A.X w0 o0 a0 its) L w) (hne : A.ne L = true) (h1 : (A.bl L ++ its).Perm (p ++ fm)) (h2 : ∀ i, (q i ++ fm).Perm (A.bl (L' i) ++ its' i)) :
    Calls P f args w fun e w' => ∃ i, D i ∧ e = .returned (V i) ∧ E.Hp o0 w0 (A.X w0 o0 a0 (its' i)) (L' i) w' := by
  obtain ⟨o, a, hh, hg⟩ := A.hp_has hne h
  refine (hc.frame fm w o a (hh.perm h1)).mono fun e w' ⟨i, hd, he, o', a', hq, hc, hg'⟩ => ⟨i, hd, he, ?_⟩
  exact A.has_hp h.x.1 (hq.perm (h2 i)) (hg.trans h.ch.size hg') (h.ch.trans' hc fun x hx hk => hg.1 x hx hk)
/-- A call that turns items. -/
theorem A.G.call {f : FuncId} {args : Array Value} {I : Type} {D : I → Prop} {V : I → Value} {p : List A.It} {q : I → List A.It} (fm : List A.It) (L' : I → List (Nat × List Value)) (its' : I → List A.It) (hc : A.Tr P f args p D V q) (hne : A.ne L = true) (h1 : (A.bl L ++ its).Perm (p ++ fm)) (h2 : ∀ i, (q i ++ fm).Perm (A.bl (L' i) ++ its' i))
    (hr : ∀ w, E.Hp o0 w0 (A.X w0 o0 a0 its) L w → (execOp (E.ev fr) o).run P w = .ok (.enter f args) w) (hck : E.ck n ops fr o = true)
    (k : ∀ i, D i → E.G P n ops Q l (E.upd fr o.dst (V i)) o0 w0 (A.X w0 o0 a0 (its' i)) (L' i)) : E.G P n ops Q (o :: l) fr o0 w0 (A.X w0 o0 a0 its) L :=
  E.G.callX D V (fun i => A.X w0 o0 a0 (its' i)) L' (fun w h => A.call_tr fm L' its' hc h hne h1 h2) hr hck k
/-- A call that reads items, in any region. -/
theorem A.call_rd {f : FuncId} {args : Array Value} {v : Value} {p : List A.It} {w : World} (fm : List A.It) (hc : A.Rd P f args p v) (h : E.Hp o0 w0 (A.X w0 o0 a0 its) L w) (hne : A.ne L = true) (h1 : (A.bl L ++ its).Perm (p ++ fm)) :
    Calls P f args w fun e w' => e = .returned v ∧ Bel w w' := by
  obtain ⟨o, a, hh, hg⟩ := A.hp_has hne h
  exact hc.frame fm w o a (hh.perm h1)
/-- The items in another order, or some blocks as items. -/
theorem A.G.shift (L' : List (Nat × List Value)) (its' : List A.It) (hne : A.ne L = true) (h1 : (A.bl L ++ its).Perm (A.bl L' ++ its')) (k : E.G P n ops Q l fr o0 w0 (A.X w0 o0 a0 its') L') : E.G P n ops Q l fr o0 w0 (A.X w0 o0 a0 its) L := by
  intro a w hs h
  obtain ⟨o, a', hh, hg⟩ := A.hp_has hne h
  exact k a w hs (A.has_hp h.x.1 (hh.perm h1) hg h.ch)
theorem A.C.shift {c : Code} (L' : List (Nat × List Value)) (its' : List A.It) (hne : A.ne L = true) (h1 : (A.bl L ++ its).Perm (A.bl L' ++ its')) (k : E.C P n Q c fr o0 w0 (A.X w0 o0 a0 its') L') : E.C P n Q c fr o0 w0 (A.X w0 o0 a0 its) L := by
  intro a w hs h
  obtain ⟨o, a', hh, hg⟩ := A.hp_has hne h
  exact k a w hs (A.has_hp h.x.1 (hh.perm h1) hg h.ch)
end rules
end Go.Proofs.YtglidnmmeclneaaGreat

/- Places in a list, checked by themselves. -/
namespace Go.Proofs.YtglidnmmeclneaaGreat
theorem A.pq {α : Type} {l p : List α} (s1 s2 : List Nat) (hs : (s1 ++ s2).isPerm (List.range l.length) = true) (hp : p = A.pick l s1) : l.Perm (p ++ A.pick l s2) := by
  subst hp
  exact A.pm (s1 ++ s2) hs (by unfold A.pick; rw [List.filterMap_append])
theorem A.dq {w0 w : World} {o0 a0 : Nat → Prop} {l q : List A.It} {L : List (Nat × List Value)} (s1 s2 : List Nat) (h : E.Hp o0 w0 (A.X w0 o0 a0 l) L w) (hne : A.ne L = true := by kernel_rfl) (hs : (s1 ++ s2).isPerm (List.range (A.bl L ++ l).length) = true := by kernel_rfl) (hp : q = A.pick (A.bl L ++ l) s1 := by kernel_rfl) : ∃ o' a', A.Has q w o' a' ∧ Ch o0 w0 w ∧ A.Gr w0 o0 a0 o' a' := A.done h hne (A.pq s1 s2 hs hp)
theorem A.cq {P : Program} {f : FuncId} {args : Array Value} {v : Value} {p its : List A.It} {w0 w : World} {o0 a0 : Nat → Prop} {L : List (Nat × List Value)} (s1 s2 : List Nat) (hc : A.Rd P f args p v) (h : E.Hp o0 w0 (A.X w0 o0 a0 its) L w) (hne : A.ne L = true := by kernel_rfl) (hs : (s1 ++ s2).isPerm (List.range (A.bl L ++ its).length) = true := by kernel_rfl) (hp : p = A.pick (A.bl L ++ its) s1 := by kernel_rfl) : Calls P f args w fun e w' => e = .returned v ∧ Bel w w' := A.call_rd _ hc h hne (A.pq s1 s2 hs hp)
section short2
variable {P : Program} {n : Nat} {ops : Array Oper} {Q : Exit → Act → World → Prop} {l : List Oper} {o : Oper} {fr : E.Fr} {w0 : World} {o0 a0 : Nat → Prop} {its : List A.It} {L : List (Nat × List Value)}
theorem A.gc {f : FuncId} {args : Array Value} {I : Type} {D : I → Prop} {p : List A.It} {q : I → List A.It} (V : I → Value) (hc : A.Tr P f args p D V q) (s1 s2 s3 : List Nat) (L' : I → List (Nat × List Value)) (its' : I → List A.It) (k : ∀ i, D i → E.G P n ops Q l (E.upd fr o.dst (V i)) o0 w0 (A.X w0 o0 a0 (its' i)) (L' i)) (hne : A.ne L = true := by kernel_rfl) (hs : (s1 ++ s2).isPerm (List.range (A.bl L ++ its).length) = true := by kernel_rfl) (hp : p = A.pick (A.bl L ++ its) s1 := by kernel_rfl)
    (h3 : ∀ i, s3.isPerm (List.range (q i ++ A.pick (A.bl L ++ its) s2).length) = true := by (intro i; kernel_rfl)) (hm : ∀ i, A.bl (L' i) ++ its' i = A.pick (q i ++ A.pick (A.bl L ++ its) s2) s3 := by (intro i; kernel_rfl)) (hr : ∀ w, E.Hp o0 w0 (A.X w0 o0 a0 its) L w → (execOp (E.ev fr) o).run P w = .ok (.enter f args) w := by (intro w _; kernel_rfl)) (hck : E.ck n ops fr o = true := by kernel_rfl) : E.G P n ops Q (o :: l) fr o0 w0 (A.X w0 o0 a0 its) L := A.G.call _ L' its' hc hne (A.pq s1 s2 hs hp) (fun i => A.pm s3 (h3 i) (hm i)) hr hck k
end short2
theorem A.pn {α : Type} {l m : List α} (s : List Nat) (hs : s.isPerm (List.range l.length) = true := by kernel_rfl) (hm : m = A.pick l s := by kernel_rfl) : l.Perm m := A.pm s hs hm
end Go.Proofs.YtglidnmmeclneaaGreat
namespace Go.Proofs.YtglidnmmeclneaaGreat
set_option linter.unusedVariables false
set_option linter.unusedSimpArgs false
open Go.RowKit
theorem A.Has.get : ∀ {l : List A.It} {w : World} {o a : Nat → Prop} {k : Nat} {it : A.It}, A.Has l w o a → l[k]? = some it → ∃ o1 a1, it.t w o1 a1
  | [], _, _, _, k, _, _, hk => by simp at hk
  | i :: l, w, o, a, 0, it, ⟨o1, a1, o2, a2, h1, _⟩, hk => by
    simp at hk; subst hk; exact ⟨o1, a1, h1⟩
  | i :: l, w, o, a, k + 1, it, ⟨o1, a1, o2, a2, _, h2, _⟩, hk => A.Has.get h2 (by simpa using hk)
theorem A.set_perm {α : Type} : ∀ (l : List α) (k : Nat) (x y : α), l[k]? = some x → ∃ r, l.Perm (x :: r) ∧ (l.set k y).Perm (y :: r)
  | [], k, _, _, h => by simp at h
  | a :: l, 0, x, y, h => by simp at h; subst h; exact ⟨l, .refl _, .refl _⟩
  | a :: l, k + 1, x, y, h => by
    obtain ⟨r, h1, h2⟩ := A.set_perm l k x y (by simpa using h)
    exact ⟨a :: r, (h1.cons a).trans (.swap x a r), (h2.cons a).trans (.swap y a r)⟩
theorem A.Has.upd {l : List A.It} {w w' : World} {o a : Nat → Prop} {k : Nat} {it it' : A.It} (h : A.Has l w o a) (hk : l[k]? = some it) (hu : ∀ o1 a1, it.t w o1 a1 → Ch o1 w w' ∧ ∃ o1' a1', it'.t w' o1' a1' ∧ A.Gr w o1 a1 o1' a1') :
    ∃ o' a', A.Has (l.set k it') w' o' a' ∧ Ch o w w' ∧ A.Gr w o a o' a' := by
  obtain ⟨r, p1, p2⟩ := A.set_perm l k it it' hk
  obtain ⟨o1, a1, o2, a2, h1, h2, d1, d2, ho, ha⟩ := h.perm p1
  obtain ⟨hc, o3, a3, h3, hg⟩ := hu o1 a1 h1
  refine ⟨fun x => o3 x ∨ o2 x, fun x => a3 x ∨ a2 x, A.Has.perm p2.symm ⟨o3, a3, o2, a2, h3, h2.keep fun x hx => hc.block x (h2.lt x hx) fun hx1 => d1 x hx1 hx, fun x hx hx2 => d1 x (hg.1 x (h2.lt x hx2) hx) hx2, fun x hx hx2 => d2 x hx (hg.2 x (h2.lt x (h2.sub x hx)) hx2), fun _ => Iff.rfl, fun _ => Iff.rfl⟩, hc.mono fun x _ hx => (ho x).2 (.inl hx), ?_, ?_⟩
  · rintro x hx (k | k)
    · exact (ho x).2 (.inl (hg.1 x hx k))
    · exact (ho x).2 (.inr k)
  · rintro x hx (k | k)
    · exact (ha x).2 (.inl (hg.2 x hx k))
    · exact (ha x).2 (.inr k)
section
variable {w0 w : World} {o0 a0 : Nat → Prop} {its : List A.It} {L : List (Nat × List Value)} {it it' : A.It} {k : Nat}
theorem A.X.get (h : E.Hp o0 w0 (A.X w0 o0 a0 its) L w) (hk : its[k]? = some it) : ∃ o1 a1, it.t w o1 a1 := by
  obtain ⟨_, o, a, hh, _⟩ := h.x
  exact hh.get hk
theorem A.X.upd {w' : World} (h : E.Hp o0 w0 (A.X w0 o0 a0 its) L w) (hne : A.ne L = true) (hk : its[k]? = some it) (hu : ∀ o1 a1, it.t w o1 a1 → Ch o1 w w' ∧ ∃ o1' a1', it'.t w' o1' a1' ∧ A.Gr w o1 a1 o1' a1') :
    E.Hp o0 w0 (A.X w0 o0 a0 (its.set k it')) L w' := by
  obtain ⟨o, a, hh, hg⟩ := A.hp_has hne h
  have hk' : (A.bl L ++ its)[(A.bl L).length + k]? = some it := by rw [List.getElem?_append_right (by omega)]; simpa using hk
  obtain ⟨o', a', h', hc, hg'⟩ := hh.upd (it' := it') hk' hu
  rw [List.set_append_right _ _ (by omega), Nat.add_sub_cancel_left] at h'
  exact A.has_hp h.x.1 h' (hg.trans h.ch.size hg') (h.ch.trans' hc fun x hx hk => hg.1 x hx hk)
/-- A new item. -/
theorem A.X.add {w' : World} (h : E.Hp o0 w0 (A.X w0 o0 a0 its) L w) (hb : Bel w w') (it : A.It) {o1 a1 : Nat → Prop} (hi : it.t w' o1 a1) (ha : ∀ x, a1 x → w.heap.size ≤ x) : E.Hp o0 w0 (A.X w0 o0 a0 (it :: its)) L w' := by
  have h' := h.bel hb
  refine ⟨h'.ch, h'.mem, h'.fz, h'.lt, h'.own, h'.nodup, fun w2 hs hw => ?_⟩
  obtain ⟨hs0, o, a, hh, hg⟩ := h.x
  have hlo : ∀ p ∈ L, p.1 < w.heap.size := h.lt
  have hw2 : ∀ x, a1 x → w2.heap[x]? = w'.heap[x]? := fun x hx => hw x (it.lt hi x hx) fun hm => by
    obtain ⟨p, hp, rfl⟩ := List.mem_map.1 hm
    have := hlo p hp; have := ha _ hx; omega
  have hh3 : A.Has its w2 o a := hh.keep fun x hx => by
    have hlt := hh.lt x hx
    rw [hw x (Nat.lt_of_lt_of_le hlt hb.size) (fun hm => A.X.off h hm hh hx), hb.heap x hlt]
  refine ⟨hs0, ?_⟩
  refine ⟨fun x => o1 x ∨ o x, fun x => a1 x ∨ a x, ⟨o1, a1, o, a, it.keep hi hw2, hh3, fun x hx hx2 => ?_, fun x hx hx2 => ?_, fun _ => Iff.rfl, fun _ => Iff.rfl⟩, fun x hx hk => ?_, fun x hx hk => ?_⟩
  · have := ha x (it.sub hi x hx); have := hh.lt x hx2; omega
  · have := ha x hx2; have := hh.lt x (hh.sub x hx); omega
  · rcases hk with hk | hk
    · have := ha x (it.sub hi x hk); have := h.ch.size; omega
    · exact hg.1 x hx hk
  · rcases hk with hk | hk
    · have := ha x hk; have := h.ch.size; omega
    · exact hg.2 x hx hk
end
/-- A slice of integers of one's own, with its capacity. -/
def A.vec (k : IntKind) (ao : Option Addr) (cap : Nat) (l : List Int) : A.It where
  t w o a := l.length ≤ cap ∧ ((cap = 0 ∧ (∀ x, ¬ o x) ∧ ∀ x, ¬ a x) ∨ (0 < cap ∧ ∃ b, ao = some ⟨b, 0, none⟩ ∧ b < w.heap.size ∧ (∀ i v, l[i]? = some v → w.cell? ⟨b, i, none⟩ = some (.int k v)) ∧ (∀ i, i < cap → ∃ u, w.cell? ⟨b, i, none⟩ = some u) ∧ (∀ i, w.frozen? ⟨b, i, none⟩ = false) ∧ (∀ x, o x ↔ x = b) ∧ ∀ x, a x ↔ x = b))
  sub := fun h x hx => by
    rcases h.2 with h | ⟨_, b, _, _, _, _, _, ho, ha⟩
    · exact (h.2.1 x hx).elim
    · exact (ha x).2 ((ho x).1 hx)
  lt := fun h x hx => by
    rcases h.2 with h | ⟨_, b, _, hb, _, _, _, _, ha⟩
    · exact (h.2.2 x hx).elim
    · rw [(ha x).1 hx]; exact hb
  keep := fun {w w' o a} h hk => by
    refine ⟨h.1, ?_⟩
    rcases h.2 with h | ⟨hc, b, hao, hb, h1, h2, h3, ho, ha⟩
    · exact .inl h
    · have e := hk b ((ha b).2 rfl)
      refine .inr ⟨hc, b, hao, ?_, fun i v hv => ?_, fun i hi => ?_, fun i => ?_, ho, ha⟩
      · rw [Array.getElem?_eq_getElem hb] at e; exact (Array.getElem?_eq_some_iff.1 e).1
      · have := h1 i v hv; rw [World.cell?] at this ⊢; rw [e]; exact this
      · obtain ⟨u, hu⟩ := h2 i hi; refine ⟨u, ?_⟩; rw [World.cell?] at hu ⊢; rw [e]; exact hu
      · have := h3 i; rw [World.frozen?] at this ⊢; rw [e]; exact this
  apart := fun {w w2 o a o2 a2 x} h h2 _ hz hx => by
    rcases h.2 with h | ⟨hc, b, hao, hb, h1, _, _, ho, ha⟩
    · exact h.2.2 x hx
    · obtain rfl := (ha x).1 hx
      rcases h2.2 with h2 | ⟨_, b2, hao2, _, _, h4, _, _, _⟩
      · omega
      · rw [hao] at hao2
        obtain rfl : x = b2 := by injection hao2 with e; injection e
        obtain ⟨u, hu⟩ := h4 0 hc
        rw [hz] at hu; cases hu
/-- The block of a slice. -/
def A.bk (ao : Option Addr) : Nat := match ao with
  | some a => a.block
  | none => 0
theorem A.vec_at {k : IntKind} {ao : Option Addr} {cap : Nat} {l : List Int} {w : World} {o a : Nat → Prop} (h : (A.vec k ao cap l).t w o a) {i : Nat} (hi : i < l.length) : w.cell? ⟨A.bk ao, i, none⟩ = some (.int k (l.getD i 0)) := by
  have h1 := h.1
  rcases h.2 with h | ⟨hc, b, rfl, hb, h1, _⟩
  · omega
  · exact h1 i _ (by simp [List.getD, hi])
theorem A.vec_ao {k : IntKind} {ao : Option Addr} {cap : Nat} {l : List Int} {w : World} {o a : Nat → Prop} (h : (A.vec k ao cap l).t w o a) (hc : 0 < cap) : ao = some ⟨A.bk ao, 0, none⟩ := by
  rcases h.2 with h | ⟨hc, b, rfl, hb, h1, _⟩
  · omega
  · rfl
theorem A.vec_set {k : IntKind} {ao : Option Addr} {cap : Nat} {l : List Int} {w : World} {o a : Nat → Prop} (h : (A.vec k ao cap l).t w o a) {i : Nat} (hi : i < l.length) (v : Int) :
    w.frozen? ⟨A.bk ao, i, none⟩ = false ∧ (∃ u, w.cell? ⟨A.bk ao, i, none⟩ = some u) ∧ o (A.bk ao) ∧ (A.vec k ao cap (l.set i v)).t (w.setCell ⟨A.bk ao, i, none⟩ (.int k v)) o a := by
  have h0 := h.1
  rcases h.2 with h | ⟨hc, b, rfl, hb, h1, h2, h3, ho, ha⟩
  · omega
  · refine ⟨h3 i, h2 i (by omega), (ho _).2 rfl, by rw [List.length_set]; exact h0, .inr ⟨hc, b, rfl, by simpa [World.setCell] using hb, fun j u hu => ?_, fun j hj => ?_, fun j => (frozen_set _ _ _ _).trans (h3 j), ho, ha⟩⟩
    · show (w.setCell ⟨b, i, none⟩ _).cell? _ = _
      by_cases e : i = j
      · subst e
        rw [List.getElem?_set_self hi] at hu
        obtain rfl := Option.some.inj hu
        obtain ⟨u0, hu0⟩ := h2 i (by omega)
        exact cell_set hu0
      · rw [List.getElem?_set_ne e] at hu
        rw [World.cell?_setCell_other _ _ _ _ (by intro q; injection q with _ h2 _; exact e h2)]
        exact h1 j u hu
    · show ∃ u, (w.setCell ⟨b, i, none⟩ _).cell? _ = _
      by_cases e : i = j
      · subst e
        obtain ⟨u0, hu0⟩ := h2 i hj
        exact ⟨_, cell_set hu0⟩
      · rw [World.cell?_setCell_other _ _ _ _ (by intro q; injection q with _ h2 _; exact e h2)]
        exact h2 j hj
section rules
variable {P : Program} {n : Nat} {ops : Array Oper} {Q : Exit → Act → World → Prop} {w0 w : World} {o0 a0 : Nat → Prop} {its : List A.It} {L : List (Nat × List Value)} {l : List Oper} {fr : E.Fr} {d : Option Nat} {T : TypeId} {pos : String} {af : Array Edge} {gd : Option (Nat × Bool)} {x ix : Operand}
theorem A.load {t : TypeId} {g j : Nat} {v : Value} {D : TypeDesc} (hx : E.ev fr x = .pointer (some ⟨g, j, none⟩)) (hu : P.underlying t = some D) (hD : (match D with | .struct _ => true | .array _ _ => true | _ => false) = false) (h : w.cell? ⟨g, j, none⟩ = some v) :
    (execOp (E.ev fr) ⟨d, .load t x, T, pos, af, gd⟩).run P w = .ok (.value v) w := by
  have ht : (isAgg t).run P w = .ok false w := by
    cases D <;> first | (simp [isAgg, underlying, hu]; done) | cases hD
  show (do let r ← Instr.loadAt t (E.ev fr x); pure (Next.value r) : Sem Next).run P w = _
  rw [hx]
  simp [Instr.loadAt, Instr.sureAddr, loadVar, ht, load, Sem.run, h]
end rules
theorem M.ptr_inj {p q : Option Nat} (h : M.ptr p = M.ptr q) : p = q := by
  unfold M.ptr at h
  cases p with
  | none => cases q with
    | none => rfl
    | some b => simp at h
  | some a => cases q with
    | none => simp at h
    | some b => simp at h; rw [h]
theorem M.apart_pg {o o2 : M.Obj} {w w2 : World} {x : Nat} (h : M.At o w) (h2 : M.At o2 w2) (hm : o2.m = o.m) (hw : ∀ b, b ≠ x → w2.heap[b]? = w.heap[b]?) (hz : ∀ i, w2.cell? ⟨x, i, none⟩ = none) : ¬ M.all o x := by
  intro hx
  by_cases e0 : x = o.m
  · subst e0
    have := h2.c0; rw [hm, hz] at this; cases this
  · have hcm : w2.cell? ⟨o.m, 0, none⟩ = w.cell? ⟨o.m, 0, none⟩ := by rw [World.cell?, World.cell?, hw _ (Ne.symm e0)]
    have c0 := h2.c0
    rw [hm, hcm, h.c0] at c0
    simp only [Option.some.injEq, Value.slice.injEq] at c0
    obtain ⟨ha, hl, _⟩ := c0
    have hb : 0 < o.sl.length → o2.b = o.b := fun hn => by
      have e1 := h.ha hn
      have e2 := h2.ha (hl ▸ hn)
      rw [← ha, e1] at e2
      simp only [Option.some.injEq, Addr.mk.injEq] at e2
      exact e2.1.symm
    rcases hx with hx | ⟨hn, hx⟩ | hx
    · exact e0 hx
    · have := h2.fld (i := 0) (k := 6) (hl ▸ hn) rfl (by decide) 6 rfl
      rw [hb hn, ← hx, hz] at this; cases this
    · obtain ⟨i, hi, hp⟩ := hx
      have hn : 0 < o.sl.length := by omega
      by_cases e1 : x = o.b
      · have := h2.fld (i := 0) (k := 6) (hl ▸ hn) rfl (by decide) 6 rfl
        rw [hb hn, ← e1, hz] at this; cases this
      · have hi2 : i < o2.sl.length := hl ▸ hi
        have hf : ∀ k, k < 7 → (o2.at i).cells[k]? = (o.at i).cells[k]? := fun k hk => by
          have hk1 : (o.at i).cells[k]? = some (o.at i).cells[k] := List.getElem?_eq_getElem hk
          have hk2 : (o2.at i).cells[k]? = some (o2.at i).cells[k] := List.getElem?_eq_getElem hk
          have f1 := h.fld hi hk1 hk _ rfl
          have f2 := h2.fld hi2 hk2 hk _ rfl
          have e : w2.cell? ⟨o.b, i * 7 + k, none⟩ = w.cell? ⟨o.b, i * 7 + k, none⟩ := by rw [World.cell?, World.cell?, hw _ (Ne.symm e1)]
          rw [hb hn, e, f1] at f2
          rw [hk1, hk2]; exact f2.symm
        have g0 := hf 0 (by decide)
        have g1 := hf 1 (by decide)
        have g4 := hf 4 (by decide)
        have g5 := hf 5 (by decide)
        have g0 : (o2.at i).d = (o.at i).d := by
          have : some (Value.pointer (some ⟨(o2.at i).d, 0, none⟩)) = some (Value.pointer (some ⟨(o.at i).d, 0, none⟩)) := g0
          simpa using this
        have g4 : (o2.at i).cd = (o.at i).cd := by
          have : some (Value.pointer (some ⟨(o2.at i).cd, 0, none⟩)) = some (Value.pointer (some ⟨(o.at i).cd, 0, none⟩)) := g4
          simpa using this
        have g1 : (o2.at i).c = (o.at i).c := M.ptr_inj (Option.some.inj g1)
        have g5 : (o2.at i).cc = (o.at i).cc := M.ptr_inj (Option.some.inj g5)
        have hp2 : M.Pg o2.sl x := ⟨i, hi2, by
          show x = (o2.at i).d ∨ (o2.at i).c = some x ∨ x = (o2.at i).cd ∨ (o2.at i).cc = some x
          rw [g0, g1, g4, g5]; exact hp⟩
        have := h2.pg x hp2 0 (by decide)
        rw [hz] at this; cases this
/-- A memory at the block m that shows V; behind its header the block holds xs. -/
def M.It (m : Nat) (V : M.V) (xs : List Value) : A.It where
  t w o a := ∃ b : M.Obj, b.m = m ∧ M.St b w ∧ M.Sh b V ∧ (∀ i v, xs[i]? = some v → w.cell? ⟨m, 2 + i, none⟩ = some v) ∧ (∀ x, o x ↔ x = m ∨ M.ow b x) ∧ ∀ x, a x ↔ M.all b x
  sub := fun ⟨b, hm, hs, _, _, ho, ha⟩ x hx => by
    rcases (ho x).1 hx with e | e
    · exact (ha x).2 (.inl (e.trans hm.symm))
    · exact (ha x).2 (M.ow_all e)
  lt := fun ⟨b, hm, hs, _, _, ho, ha⟩ x hx => hs.at_.alive ((ha x).1 hx)
  keep := fun {w w' o a} ⟨b, hm, hs, hV, hx, ho, ha⟩ hk => by
    have key : ∀ {p : Addr} {v : Value}, a p.block → w.cell? p = some v → w'.cell? p = some v := fun {p v} hp hv => by
      rw [World.cell?] at hv ⊢; rw [hk _ hp]; exact hv
    have hmm : a m := (ha m).2 (.inl hm.symm)
    refine ⟨b, hm, ⟨⟨key ((ha _).2 (.inl rfl)) hs.at_.c0, key ((ha _).2 (.inl rfl)) hs.at_.c1, hs.at_.ha, fun i v hv => key ((ha _).2 (M.all_b ?_)) (hs.at_.cs i v hv), fun p hp i hi => key ((ha _).2 (.inr (.inr hp))) (hs.at_.pg p hp i hi), hs.at_.lt⟩, hs.inv, fun x hx i => ?_⟩, hV, fun i v hv => key hmm (hx i v hv), ho, ha⟩
    · cases hsl : b.sl with
      | nil => rw [hsl] at hv; simp [M.cells] at hv
      | cons => simp
    · have := hs.fz x hx i
      rw [World.frozen?] at this ⊢; rw [hk x ((ha x).2 hx)]; exact this
  apart := fun ⟨b, hm, hs, _, _, _, ha⟩ ⟨b2, hm2, hs2, _, _, _, _⟩ hw hz hx => M.apart_pg hs.at_ hs2.at_ (hm2.trans hm.symm) hw hz ((ha _).1 hx)
theorem M.It.open1 {m : Nat} {V : M.V} {xs : List Value} {w : World} {o a : Nat → Prop} (h : A.Has [M.It m V xs] w o a) : (M.It m V xs).t w o a := by
  obtain ⟨o1, a1, o2, a2, h1, h2, _, _, ho, ha⟩ := h
  obtain ⟨b, hm, hs, hV, hx, ho1, ha1⟩ := h1
  exact ⟨b, hm, hs, hV, hx, fun x => by rw [ho, ho1]; exact ⟨fun h => h.elim id fun h => (h2.1 x h).elim, .inl⟩, fun x => by rw [ha, ha1]; exact ⟨fun h => h.elim id fun h => (h2.2 x h).elim, .inl⟩⟩
theorem A.Has.one {it : A.It} {w : World} {o a : Nat → Prop} (h : it.t w o a) : A.Has [it] w o a :=
  ⟨o, a, fun _ => False, fun _ => False, h, ⟨fun _ h => h, fun _ h => h⟩, fun _ _ h => h, fun _ h => h.elim, fun x => by simp, fun x => by simp⟩
/-- A reader of a memory, as a call over items. -/
theorem M.rd {f : FuncId} {args : Array Value} {m : Nat} {V : M.V} {xs : List Value} {v : Value} (h : ∀ (b : M.Obj) (w : World), b.m = m → M.St b w → M.Sh b V → Calls Tryz.prog f args w fun e w' => e = .returned v ∧ Bel w w') : A.Rd Tryz.prog f args [M.It m V xs] v := by
  intro w o a hh
  obtain ⟨b, hm, hs, hV, _⟩ := M.It.open1 hh
  exact h b w hm hs hV
/-- A writer of a memory, as a call over items. -/
theorem M.wr {f : FuncId} {args : Array Value} {m : Nat} {V V' : M.V} {xs : List Value} {v : Value} (h : ∀ (b : M.Obj) (w : World), b.m = m → M.St b w → M.Sh b V → Calls Tryz.prog f args w fun e w' => e = .returned v ∧ ∃ b', M.St b' w' ∧ Ch (fun x => M.ow b x) w w' ∧ M.Nxt w b b' ∧ M.Sh b' V') :
    A.Tr Tryz.prog f args [M.It m V xs] (I := Unit) (fun _ => True) (fun _ => v) (fun _ => [M.It m V' xs]) := by
  intro w o a hh
  obtain ⟨b, hm, hs, hV, hx, ho, ha⟩ := M.It.open1 hh
  refine (h b w hm hs hV).mono fun e w' ⟨he, b', hs', hc, hn, hV'⟩ => ⟨(), trivial, he, fun x => x = m ∨ M.ow b' x, fun x => M.all b' x, A.Has.one ⟨b', hn.m.trans hm, hs', hV', fun i u hu => ?_, fun _ => Iff.rfl, fun _ => Iff.rfl⟩, hc.mono fun x _ hx => (ho x).2 (.inr hx), fun x hx hk => ?_, fun x hx hk => (ha x).2 (hn.al x hx hk)⟩
  · have hcu := hx i u hu
    have hno : ¬ M.ow b m := fun hw => by
      rcases hw with ⟨hn0, e⟩ | ⟨i, hi, _, e⟩ | ⟨i, hi, _, e⟩
      · exact hs.inv.mb hn0 (hm.trans e)
      · exact (hs.inv.pm _ (M.pg_d hi)).1 (e.symm.trans hm.symm)
      · exact (hs.inv.pm _ (M.pg_c hi e)).1 hm.symm
    exact (hc.cell m _ (by rw [← hm]; exact hs.at_.alive (.inl rfl)) hno).trans hcu
  · rcases hk with hk | hk
    · exact (ho x).2 (.inl hk)
    · exact (ho x).2 (.inr (hn.ow x hx hk))
structure M.Fd (a s : M.Slot) : Prop where
  d : s.d = a.d
  c : s.c = a.c
  od : s.od = true → a.od = true
  oc : s.oc = true → a.oc = true
  cd : s.cd = a.cd ∨ s.cd = a.d ∧ a.od = false
  cc : s.cc = a.cc ∨ s.cc = a.c ∧ a.oc = false
  r : s.r = a.r
section
variable {P : Program} {n : Nat} {ops : Array Oper} {Q : Exit → Act → World → Prop} {S : Nat → Prop} {w0 : World} {X : World → Prop} {L : List (Nat × List Value)} {l : List Oper} {fr : E.Fr} {d : Option Nat} {T : TypeId} {pos : String} {af : Array Edge} {gd : Option (Nat × Bool)}
/-- A slice without elements. -/
theorem M.G.empty {t e : TypeId} {sz : Nat} (ht : P.underlying t = some (.slice e)) (hi : (P.info? e).map (·.size) = some sz) (hck : E.ck n ops fr ⟨d, .buildSlice t 0 #[], T, pos, af, gd⟩ = true)
    (k : ∀ g, E.G P n ops Q l (E.upd fr d (.slice (some ⟨g, 0, none⟩) 0 0)) S w0 X L) : E.G P n ops Q (⟨d, .buildSlice t 0 #[], T, pos, af, gd⟩ :: l) fr S w0 X L := by
  refine E.G.any (I := Nat) (fun _ => True) (fun g => .slice (some ⟨g, 0, none⟩) 0 0) (fun _ => X) (fun _ => L) (fun w h => ?_) hck (fun g _ => k g)
  refine ⟨w.heap.size, w.alloc (.cells #[] e), trivial, ?_, h.bel (Bel.alloc (Bel.refl w) _)⟩
  cases hie : P.info? e with
  | none => rw [hie] at hi; cases hi
  | some ie =>
    show (do let r ← Instr.buildSlice t 0 ((#[] : Array (Nat × Operand)).map fun (i, x) => (i, E.ev fr x)); pure (Next.value r) : Sem Next).run P w = _
    have e0 : Array.map (fun x : Nat => (default : Value)) (Array.range 0) = #[] := by simp [Array.range_zero']
    simp [Instr.buildSlice, run_underlying ht, sizeOf, typeInfo, hie, Instr.fill, newRow, e0]
end
def M.shS (s : M.Slot) : M.Slot := ⟨s.d, s.c, false, false, s.cd, s.cc, s.r⟩
theorem M.Sh.sh {o : M.Obj} {V : M.V} {k : Nat} (h : M.Sh o V) (hk : k < o.sl.length) : M.Sh (o.upd k (M.shS (o.at k))) V := by
  have key : ∀ j, ((o.upd k (M.shS (o.at k))).at j).d = (o.at j).d ∧ ((o.upd k (M.shS (o.at k))).at j).c = (o.at j).c ∧ ((o.upd k (M.shS (o.at k))).at j).cd = (o.at j).cd ∧ ((o.upd k (M.shS (o.at k))).at j).cc = (o.at j).cc ∧ ((o.upd k (M.shS (o.at k))).at j).r = (o.at j).r := fun j => by
    rw [M.upd_at hk]; by_cases e : j = k
    · subst e; rw [if_pos rfl]; exact ⟨rfl, rfl, rfl, rfl, rfl⟩
    · rw [if_neg e]; exact ⟨rfl, rfl, rfl, rfl, rfl⟩
  refine ⟨M.upd_len.trans h.n, h.coh, fun j hj x hx => ?_, fun j hj x hx => ?_, fun j hj x hx => ?_, fun j hj x hx => ?_, fun j hj => ?_⟩
  · rw [(key j).1]; exact h.d j hj x hx
  · unfold M.img; rw [(key j).1, (key j).2.1]; exact h.i j hj x hx
  · rw [(key j).2.2.1]; exact h.cd j hj x hx
  · rw [(key j).2.2.1, (key j).2.2.2.1]; exact h.ci j hj x hx
  · rw [(key j).2.2.2.2]; exact h.r j hj
structure M.Cpy (w w' : World) (o o' o2 : M.Obj) (g : Nat) : Prop where
  m : o2.m = g
  new : w.heap.size ≤ g
  ow : ∀ x, M.ow o2 x → w.heap.size ≤ x
  al : ∀ x, M.all o2 x → w.heap.size ≤ x ∨ M.all o' x
  d1 : ∀ x, M.ow o' x → ¬ M.all o2 x
  d2 : ∀ x, x = g ∨ M.ow o2 x → ¬ M.all o' x
  dm : ¬ M.all o2 o'.m
  sh : ∀ V, M.Sh o V → M.Sh o2 V
/-- The number of pages that is made. -/
def M.np (n : Int) : Nat := (if 4096 < (if 0 > n then 0 else n) then (4096 : Int) else (if 0 > n then 0 else n)).toNat
theorem M.np_le (n : Int) : M.np n ≤ 4096 := by unfold M.np; split <;> split <;> omega
theorem M.np_eq (n : Int) : (if 4096 < (if 0 > n then 0 else n) then (4096 : Int) else (if 0 > n then 0 else n)) = ((M.np n : Nat) : Int) := by unfold M.np; split <;> split <;> omega
def M.V.new (n : Nat) (coh : Bool) : M.V := ⟨n, coh, fun _ _ => 0, fun _ _ => 0, fun _ _ => 0, fun _ _ => 0, fun _ => 0⟩
/-- The cells of page states that are not yet set. -/
def M.z7 : List Value := [.pointer none, .pointer none, .bool false, .bool false, .pointer none, .pointer none, .int .i64 0]
def M.zs : Nat → List Value
  | 0 => []
  | n + 1 => M.z7 ++ M.zs n
theorem M.zs_len : ∀ n, (M.zs n).length = n * 7
  | 0 => rfl
  | n + 1 => by
    show (M.z7 ++ M.zs n).length = _
    rw [List.length_append, M.zs_len n]; show 7 + n * 7 = _; omega
theorem M.zs_at : ∀ (n i : Nat), i < n * 7 → (M.zs n)[i]? = M.z7[i % 7]?
  | 0, i, h => by omega
  | n + 1, i, h => by
    show (M.z7 ++ M.zs n)[i]? = _
    by_cases h7 : i < 7
    · rw [List.getElem?_append_left (by exact h7), Nat.mod_eq_of_lt h7]
    · have hl : M.z7.length = 7 := rfl
      rw [List.getElem?_append_right (by rw [hl]; omega), hl, M.zs_at n (i - 7) (by omega)]
      congr 1; omega
theorem M.made_zs (n : Nat) : madeCells M.z7.toArray (n * 7) = (M.zs n).toArray := by
  have key : ∀ r, r < 7 → some (M.z7.toArray[r]!) = M.z7[r]? := fun r hr => by
    match r, hr with
    | 0, _ => rfl
    | 1, _ => rfl
    | 2, _ => rfl
    | 3, _ => rfl
    | 4, _ => rfl
    | 5, _ => rfl
    | 6, _ => rfl
  refine Array.toList_inj.1 (List.ext_getElem? fun i => ?_)
  rw [List.toList_toArray]
  by_cases h : i < n * 7
  · rw [M.zs_at n i h, ← key _ (by omega)]
    simp only [madeCells, Array.toList_map, Array.toList_range, List.getElem?_map]
    rw [List.getElem?_range h]
    rfl
  · rw [List.getElem?_eq_none (l := M.zs n) (by rw [M.zs_len]; omega), List.getElem?_eq_none (by rw [Array.length_toList, size_madeCells]; omega)]
/-- The state of a new page. -/
def M.nw (g : Nat) (coh : Bool) : M.Slot := ⟨g, if coh then none else some g, false, false, g, if coh then none else some g, 0⟩
def M.nr (g k : Nat) (coh : Bool) : List M.Slot := List.replicate k (M.nw g coh)
theorem M.cells_app : ∀ (a b : List M.Slot), M.cells (a ++ b) = M.cells a ++ M.cells b
  | [], b => rfl
  | s :: a, b => by show s.cells ++ M.cells (a ++ b) = (s.cells ++ M.cells a) ++ M.cells b; rw [M.cells_app a b, List.append_assoc]
theorem M.nw_sto {l : List M.Slot} {a b : M.Slot} {rest : List Value} {f j : Nat} {v : Value} (hf : f < 7) (he : b.cells = a.cells.set f v) (hj : j = l.length * 7 + f) : (M.cells (l ++ [a]) ++ rest).set j v = M.cells (l ++ [b]) ++ rest := by
  subst hj
  have h1 : (l ++ [a]).getD l.length M.z = a := by simp
  have h2 := M.cells_set (l ++ [a]) l.length f v b (by simp) hf (by rw [h1]; exact he)
  rw [List.set_append_left _ _ (by rw [M.cells_len]; simp; omega), h2]
  congr 2; simp
theorem M.nw_lay {l : List M.Slot} {s : M.Slot} {n j : Nat} (hn : 0 < n) (hj : j = l.length * 7) : E.lay (M.cells l ++ M.zs n) j s.cells = M.cells (l ++ [s]) ++ M.zs (n - 1) := by
  subst hj
  obtain ⟨m, rfl⟩ : ∃ m, n = m + 1 := ⟨n - 1, by omega⟩
  have hl : l.length * 7 = (M.cells l).length := by rw [M.cells_len]; omega
  rw [hl, E.lay_at _ _ _ (by rw [M.zs_len]; show 7 ≤ _; omega), M.cells_app]
  show M.cells l ++ s.cells ++ (M.z7 ++ M.zs m).drop 7 = M.cells l ++ (s.cells ++ []) ++ M.zs (m + 1 - 1)
  rw [List.append_nil]
  congr 1
theorem M.nw_next (g k : Nat) (coh : Bool) : M.nr g k coh ++ [M.nw g coh] = M.nr g (k + 1) coh := by
  unfold M.nr; rw [← List.replicate_succ']
theorem E.sto' {P : Program} {t : TypeId} {cs : List Value} {j sz : Nat} {v : Value} {us : List Value} (hi : (P.info? t).map (·.size) = some sz) (hv : v.cells.toList = us) (hl : us.length = sz) (hb : us.all E.cellB = true) (hj : j + sz ≤ cs.length) : E.sto P t cs j v = some (E.lay cs j us) := by
  unfold E.sto
  cases hie : P.info? t with
  | none => rw [hie] at hi; cases hi
  | some i =>
    rw [hie] at hi
    simp only [Option.map_some, Option.some.injEq] at hi
    subst hi
    have h1 : Nat.beq v.cells.size i.size = true := by rw [← Array.length_toList, hv, hl]; exact Nat.beq_refl _
    have h2 : Nat.ble (j + i.size) cs.length = true := Nat.ble_eq_true_of_le hj
    simp only [hv, h1, h2, hb, Bool.and_self, cond_true]
theorem M.new_ok {w0 w : World} {gm gb gp N : Nat} {coh : Bool} {L : List (Nat × List Value)} (h : E.Hp (fun _ => False) w0 (fun _ => True) L w) (hN : N ≤ 4096)
    (h1 : (gm, [.slice (some ⟨gb, 0, none⟩) N N, .bool coh]) ∈ L) (h2 : (gb, M.cells (M.nr gp N coh) ++ M.zs (N - N)) ∈ L) (h3 : (gp, List.replicate 256 (.int .u8 0)) ∈ L) (d1 : gm ≠ gb) (d2 : gp ≠ gm) (d3 : gp ≠ gb) :
    ∃ o : M.Obj, o.m = gm ∧ M.St o w ∧ M.Sh o (M.V.new N coh) ∧ ∀ x, M.all o x → w0.heap.size ≤ x := by
  have new : ∀ {g cs}, (g, cs) ∈ L → w0.heap.size ≤ g := fun hm => Nat.le_of_not_lt fun hlt => h.own _ hm hlt
  let o : M.Obj := ⟨gm, gb, N, some ⟨gb, 0, none⟩, M.nr gp N coh, coh, fun _ _ => 0⟩
  have hlen : o.sl.length = N := by show (List.replicate N _).length = N; simp
  have hat : ∀ i, i < N → o.at i = M.nw gp coh := fun i hi => by
    show (List.replicate N _).getD i M.z = _
    simp [hi]
  have hpg : ∀ p, M.Pg o.sl p → p = gp := fun p ⟨i, hi, hp⟩ => by
    rw [hlen] at hi
    have hp : p = (o.at i).d ∨ (o.at i).c = some p ∨ p = (o.at i).cd ∨ (o.at i).cc = some p := hp
    rw [hat i hi] at hp
    unfold M.nw at hp
    rcases hp with hp | hp | hp | hp
    · exact hp
    · cases coh <;> simp at hp; exact hp.symm
    · exact hp
    · cases coh <;> simp at hp; exact hp.symm
  have hw0 : ∀ x, M.all o x → w0.heap.size ≤ x := fun x hx => by
    rcases hx with rfl | ⟨_, rfl⟩ | hx
    · exact new h1
    · exact new h2
    · rw [hpg x hx]; exact new h3
  refine ⟨o, rfl, ⟨⟨?_, h.mem _ h1 1 _ rfl, fun _ => rfl, fun i v hv => ?_, fun p hp i hi => ?_, by rw [hlen]; exact hN⟩, ⟨fun _ => d1, fun p hp => by rw [hpg p hp]; exact ⟨d2, d3⟩, fun i j hi hj ho => ?_, fun i j p hi hj ho => ?_, fun i hi => ?_, fun p hp i hi => ⟨Int.le_refl _, by show (0 : Int) < 256; decide⟩, fun i hi => ?_⟩, fun x hx i => ?_⟩, ⟨hlen, rfl, fun _ _ _ _ => rfl, fun _ _ _ _ => rfl, fun _ _ _ _ => rfl, fun _ _ _ _ => rfl, fun j hj => ?_⟩, hw0⟩
  · rw [hlen]; exact h.mem _ h1 0 _ rfl
  · have hlt := (List.getElem?_eq_some_iff.1 hv).1
    exact h.mem _ h2 i v (by rw [List.getElem?_append_left hlt]; exact hv)
  · rw [hpg p hp]; exact h.mem _ h3 i _ (by rw [List.getElem?_replicate, if_pos hi])
  · rw [hlen] at hi; rw [hat i hi] at ho; cases ho
  · rw [hlen] at hi; rw [hat i hi] at ho; cases ho
  · rw [hlen] at hi; rw [hat i hi]; show (if coh then none else some gp).isNone = coh ∧ (if coh then none else some gp).isNone = coh; cases coh <;> exact ⟨rfl, rfl⟩
  · rw [hlen] at hi; rw [hat i hi]; exact ⟨Int.le_refl _, by show (0 : Int) < 8; decide⟩
  · rcases hx with rfl | ⟨_, rfl⟩ | hx
    · exact h.fz _ h1 i
    · exact h.fz _ h2 i
    · rw [hpg x hx]; exact h.fz _ h3 i
  · rw [hat j hj]; rfl
theorem M.run_mk {fr : E.Fr} {d : Option Nat} {T : TypeId} {pos : String} {af : Array Edge} {gd : Option (Nat × Bool)} {x y : Operand} {n : Int} (hx : E.ev fr x = .int .i64 ((M.np n : Nat) : Int)) (hy : E.ev fr y = .int .i64 ((M.np n : Nat) : Int)) (w : World) :
    (execOp (E.ev fr) ⟨d, .makeSlice 97 x y, T, pos, af, gd⟩).run Tryz.prog w = .ok (.value (.slice (some ⟨w.heap.size, 0, none⟩) (M.np n) (M.np n))) (w.alloc (.cells (M.zs (M.np n)).toArray 104)) := by
  show (do let r ← Instr.makeSlice 97 (E.ev fr x) (E.ev fr y); pure (Next.value r) : Sem Next).run Tryz.prog w = _
  rw [hx, hy]
  have hle := M.np_le n
  have hi : (Tryz.prog.info? 104).map (fun i => (i.size, i.bytes, i.zero.map (·.cells))) = some (7, 48, some M.z7.toArray) := by kernel_rfl
  cases hie : Tryz.prog.info? 104 with
  | none => rw [hie] at hi; cases hi
  | some i =>
    rw [hie] at hi
    simp only [Option.map_some, Option.some.injEq, Prod.mk.injEq] at hi
    obtain ⟨h1, h2, h3⟩ := hi
    cases hz : i.zero with
    | none => rw [hz] at h3; cases h3
    | some z =>
      rw [hz] at h3
      simp only [Option.map_some, Option.some.injEq] at h3
      have hu : Tryz.prog.underlying 97 = some (.slice 104) := Tryz.underlying97
      have := run_make (P := Tryz.prog) w 97 104 i z hu hie hz .i64 .i64 ((M.np n : Nat) : Int) ((M.np n : Nat) : Int) (by omega) (Int.le_refl _) (by rw [h2]; omega) (by omega)
      simp only [Int.toNat_natCast, h1, h3, M.made_zs] at this
      simp only [Sem.run_bind, this, Result.andThen_ok]; rfl
abbrev Zi5la := fun g1 (n : Int) (coh : Bool) => ([.slice (some ⟨g1, 0, none⟩) (M.np n) (M.np n), .bool coh] : List Value)
abbrev Zi5lb := fun g1 (n : Int) => ((.slice (some ⟨g1, 0, none⟩) (M.np n) (M.np n)) : Value)
set_option maxHeartbeats 1000000 in
theorem New_any (n : Int) (coh : Bool) (w : World) : Calls Tryz.prog 17 #[.int .i64 n, .bool coh] w fun e w' => ∃ o, e = .returned (.pointer (some ⟨o.m, 0, none⟩)) ∧ M.St o w' ∧ M.Sh o (M.V.new (M.np n) coh) ∧ Bel w w' ∧ ∀ x, M.all o x → w.heap.size ≤ x := by
 refine E.enter (n := 54) (S := fun _ => False) Tryz.func17 rfl rfl Nz.k (E.Hp.start w) (E.sr (E.op (.pointer none) (E.tr (E.op (E.i n) (E.op (E.i (if 0 > n then 0 else n)) (E.vl (E.i ((M.np n : Nat) : Int)) (fun w h => E.run_as (a := E.i (if 4096 < (if 0 > n then 0 else n) then 4096 else (if 0 > n then 0 else n))) Nz.k (congrArg (Value.int .i64) (M.np_eq n))) (E.G.new (fun g => .slice (some ⟨g, 0, none⟩) (M.np n) (M.np n)) (M.zs (M.np n)) 104 (fun w => M.run_mk Nz.k Nz.k w) Nz.k (fun g1 => E.op (.bool coh) (E.vl (.agg #[.slice (some ⟨g1, 0, none⟩) (M.np n) (M.np n), .bool coh]) (fun w h => E.run_build #[.slice (some ⟨g1, 0, none⟩) (M.np n) (M.np n), .bool coh] Nz.k w) (E.nw (Zi5la g1 n coh) 99 (fun g2 => E.op (E.pt g2) ?_)))))))))))
 refine E.To.code (E.wk [(1, .bool coh), (4, .pointer none), (5, E.pt g2)] [(g2, (Zi5la g1 n coh)), (g1, (M.zs (M.np n)))] Nz.sub (E.sr (E.op (.agg (List.replicate 256 (.int .u8 0)).toArray) (E.nw (List.replicate 256 (.int .u8 0)) 102 (fun g3 => E.op (E.pt g3) (E.To.code (E.C.seq (E.sr (E.op (E.pt g2) (E.op (E.pt g2) (E.op (E.pt g2) ?_)))))))))))
 refine E.li (Zi5lb g1 n) 1 rfl rfl (E.op (E.i (((M.np n) : Nat) : Int)) (E.op (E.i 0) (E.To.code (E.C.block (E.C.relist [(g3, (List.replicate 256 (.int .u8 0))), (g2, (Zi5la g1 n coh)), (g1, (M.cells (M.nr g3 0 coh) ++ M.zs (M.np n - 0)))] rfl (E.C.loop (I := Nat) (fun k => M.np n - k) (fun k => k ≤ M.np n) (fun k => [(1, .bool coh), (4, .pointer none), (5, E.pt g2), (6, E.pt g3), (21, E.i (((M.np n) : Nat) : Int)), (22, E.i ((k : Nat) : Int))]) (fun k => fun _ => True) (fun k => [(g3, (List.replicate 256 (.int .u8 0))), (g2, (Zi5la g1 n coh)), (g1, (M.cells (M.nr g3 k coh) ++ M.zs (M.np n - k)))]) 0 (Nat.zero_le _) ⟨Nz.k, Nz.k⟩ Nz.sub (fun _ h => h) (fun k hk1 => E.sr (E.op (.bool (decide (((k : Nat) : Int) < (((M.np n) : Nat) : Int)))) (E.To.code (E.C.seq (E.cd (decide (((k : Nat) : Int) < (((M.np n) : Nat) : Int))) (fun hc4 => ?_) (fun hc4 => ?_))))))))))))
 ·
  refine E.C.skip (E.To.code (E.C.seq (E.C.block (E.sr (E.op (E.i ((k : Nat) : Int)) (E.op (E.i ((k : Nat) : Int)) (E.To.code (E.C.seq ?_))))))))
  have hl : k < M.np n := by exact Nz.mom
  refine E.C.region (E.op (E.pt g2) (E.op (E.pt g2) (E.op (E.pt g2) (E.li (Zi5lb g1 n) 1 rfl rfl (E.op (E.i ((k : Nat) : Int)) (E.op (E.pt g3) (E.op (E.pt g3) (E.vl (.agg #[E.pt g3, .pointer none, .bool false, .bool false, E.pt g3, .pointer none, E.i 0]) (fun w h => E.run_build #[E.pt g3, .pointer none, .bool false, .bool false, E.pt g3, .pointer none, E.i 0] Nz.k w) (E.vl (E.pj g1 (k * 7)) (fun w h => M.idxO (e := 104) (i := k) (k := .i64) (ao := some ⟨g1, 0, none⟩) (b := g1) (len := M.np n) (cap := M.np n) (esz := 7) Nz.k Nz.k Nz.k Nz.k hl (fun _ => rfl) w) (E.G.store 2 _ rfl rfl (E.sto' (us := M.Slot.cells ⟨g3, none, false, false, g3, none, 0⟩) Nz.k rfl rfl rfl (by rw [List.length_append, M.cells_len, M.zs_len]; show k * 7 + 7 ≤ 7 * (List.replicate k _).length + (M.np n - k) * 7; rw [List.length_replicate]; omega)) Nz.k (E.G.relist [(g3, (List.replicate 256 (.int .u8 0))), (g2, (Zi5la g1 n coh)), (g1, (M.cells (M.nr g3 k coh ++ [⟨g3, none, false, false, g3, none, 0⟩]) ++ M.zs (M.np n - k - 1)))] (by rw [M.nw_lay (by omega) (by show k * 7 = (List.replicate k _).length * 7; rw [List.length_replicate])]; rfl) ?_)))))))))))
  refine E.tr (E.op (.bool coh) (E.op (.bool (!coh)) (E.To.code (E.cd (!coh) (fun hc5 => ?_) (fun hc5 => ?_)))))
  ·
   refine E.C.held (E.Hp (fun _ => False) w (fun _ => True) [(g3, (List.replicate 256 (.int .u8 0))), (g2, (Zi5la g1 n coh))]) Nz.k (E.ta 0 (E.pt g2) rfl (E.ta 1 (E.pt g2) rfl (E.ta 2 (E.pt g2) rfl (E.tb 3 (Zi5lb g1 n) rfl (fun w h => E.run_load h 1 rfl rfl Nz.k) (E.ta 4 (E.i ((k : Nat) : Int)) rfl (E.ta 5 (E.pt g2) rfl (E.ta 6 (E.pt g2) rfl (E.ta 7 (E.pt g2) rfl (E.tb 8 (Zi5lb g1 n) rfl (fun w h => E.run_load h 1 rfl rfl Nz.k) (E.ta 9 (E.i ((k : Nat) : Int)) rfl (E.ta 10 (E.pt g3) rfl ?_)))))))))))
   refine E.ta 11 (E.pt g3) rfl (E.tb 12 (E.pj g1 (k * 7)) rfl (fun w h => M.idxO (e := 104) (i := k) (k := .i64) (ao := some ⟨g1, 0, none⟩) (b := g1) (len := M.np n) (cap := M.np n) (esz := 7) Nz.k Nz.k Nz.k Nz.k hl (fun _ => rfl) w) (E.ta 13 (E.pj g1 ((k * 7) + 1)) rfl (E.al 14 rfl (E.G.store 2 _ rfl rfl (E.sto' (us := [E.pj g3 0]) Nz.k rfl rfl rfl (by rw [List.length_append, M.cells_len, M.zs_len]; show k * 7 + 1 + 1 ≤ 7 * (List.replicate k _ ++ [_]).length + _; rw [List.length_append, List.length_replicate]; simp only [List.length_cons, List.length_nil]; omega)) Nz.k (E.G.relist [(g3, (List.replicate 256 (.int .u8 0))), (g2, (Zi5la g1 n coh)), (g1, (M.cells (M.nr g3 k coh ++ [⟨g3, some g3, false, false, g3, none, 0⟩]) ++ M.zs (M.np n - k - 1)))] (by rw [show ∀ cs j v, E.lay cs j [v] = cs.set j v from fun _ _ _ => rfl, M.nw_sto (l := M.nr g3 k coh) (a := ⟨g3, none, false, false, g3, none, 0⟩) (b := ⟨g3, some g3, false, false, g3, none, 0⟩) (v := E.pj g3 0) (f := 1) (by decide) rfl (by show k * 7 + 1 = (List.replicate k _).length * 7 + 1; rw [List.length_replicate])]; rfl) (E.bk (E.tb 15 (E.pj g1 (k * 7)) rfl (fun w h => M.idxO (e := 104) (i := k) (k := .i64) (ao := some ⟨g1, 0, none⟩) (b := g1) (len := M.np n) (cap := M.np n) (esz := 7) Nz.k Nz.k Nz.k Nz.k hl (fun _ => rfl) w) (E.ta 16 (E.pj g1 ((k * 7) + 5)) rfl (E.al 17 rfl (E.G.store 2 _ rfl rfl (E.sto' (us := [E.pj g3 0]) Nz.k rfl rfl rfl (by rw [List.length_append, M.cells_len, M.zs_len]; show k * 7 + 5 + 1 ≤ 7 * (List.replicate k _ ++ [_]).length + _; rw [List.length_append, List.length_replicate]; simp only [List.length_cons, List.length_nil]; omega)) Nz.k (E.G.relist [(g3, (List.replicate 256 (.int .u8 0))), (g2, (Zi5la g1 n coh)), (g1, (M.cells (M.nr g3 k coh ++ [⟨g3, some g3, false, false, g3, some g3, 0⟩]) ++ M.zs (M.np n - k - 1)))] (by rw [show ∀ cs j v, E.lay cs j [v] = cs.set j v from fun _ _ _ => rfl, M.nw_sto (l := M.nr g3 k coh) (a := ⟨g3, some g3, false, false, g3, none, 0⟩) (b := ⟨g3, some g3, false, false, g3, some g3, 0⟩) (v := E.pj g3 0) (f := 5) (by decide) rfl (by show k * 7 + 5 = (List.replicate k _).length * 7 + 5; rw [List.length_replicate])]; rfl) ?_)))))))))))
   exact E.bk (E.H.done Nz.k (E.P.nb (E.To.code (E.C.relist [(g3, (List.replicate 256 (.int .u8 0))), (g2, (Zi5la g1 n coh)), (g1, (M.cells (M.nr g3 (k + 1) coh) ++ M.zs (M.np n - (k + 1))))] (by rw [← M.nw_next, Nat.sub_sub]; rw [show coh = false from by simpa using hc5]; rfl) (E.C.region (E.vl (E.i ((k + 1 : Nat) : Int)) (fun w h => E.run_as (a := E.i (IntKind.wrap .i64 (((k : Nat) : Int) + 1))) Nz.k (congrArg (Value.int .i64) (M.inc64 (by have := M.np_le n; exact Nz.mom)))) (E.op (E.i ((k + 1 : Nat) : Int)) (E.To.round (k + 1) (by show M.np n - (k + 1) < M.np n - k; exact Nz.mom) (by show k + 1 ≤ M.np n; exact Nz.mom) ⟨Nz.k, Nz.k⟩ Nz.sub (fun _ h => h)))))))))
  exact E.C.skip (E.P.nb (E.To.code (E.C.relist [(g3, (List.replicate 256 (.int .u8 0))), (g2, (Zi5la g1 n coh)), (g1, (M.cells (M.nr g3 (k + 1) coh) ++ M.zs (M.np n - (k + 1))))] (by rw [← M.nw_next, Nat.sub_sub]; rw [show coh = true from by simpa using hc5]; rfl) (E.C.region (E.vl (E.i ((k + 1 : Nat) : Int)) (fun w h => E.run_as (a := E.i (IntKind.wrap .i64 (((k : Nat) : Int) + 1))) Nz.k (congrArg (Value.int .i64) (M.inc64 (by have := M.np_le n; exact Nz.mom)))) (E.op (E.i ((k + 1 : Nat) : Int)) (E.To.round (k + 1) (by show M.np n - (k + 1) < M.np n - k; exact Nz.mom) (by show k + 1 ≤ M.np n; exact Nz.mom) ⟨Nz.k, Nz.k⟩ Nz.sub (fun _ h => h))))))))
 refine E.C.exit (E.P.et (E.P.et (E.P.eh (E.To.code (E.sr (E.op (E.pt g2) (E.op (E.pt g2) (E.To.code (E.C.ret (E.bd Tryz.f17 [E.pt g2] ?_))))))))))
 intro w h
 have e : k = M.np n := by exact Nz.mom
 subst e
 have hn := h.nodup
 simp only [List.map_cons, List.map_nil, List.nodup_cons, List.mem_cons, List.not_mem_nil, or_false, not_or] at hn
 obtain ⟨o, hm, ho⟩ := M.new_ok (gm := g2) (gb := g1) (gp := g3) (coh := coh) h (M.np_le n) (List.mem_cons_of_mem _ (List.mem_cons_self ..)) (List.mem_cons_of_mem _ (List.mem_cons_of_mem _ (List.mem_cons_self ..))) (List.mem_cons_self ..) (by omega) (by omega) (by omega)
 exact ⟨o, by rw [hm]; rfl, ho.1, ho.2.1, h.ch.bel (fun _ h => h.elim), ho.2.2⟩
section
variable {P : Program} {n : Nat} {ops : Array Oper} {Q : Exit → Act → World → Prop} {S : Nat → Prop} {w0 : World} {X : World → Prop} {L : List (Nat × List Value)} {l : List Oper} {o : Oper} {fr : E.Fr}
/-- A store of one cell, with any account of the worlds before and behind. -/
theorem A.G.sto1 {t T : TypeId} {x y : Operand} {pos : String} {af : Array Edge} {gd : Option (Nat × Bool)} {g j : Nat} (v : Value) (X' : World → Prop) (L' : List (Nat × List Value)) (hx : E.ev fr x = .pointer (some ⟨g, j, none⟩)) (hy : E.ev fr y = v) (hv : v.cells.toList = [v]) (hb : E.cellB v = true)
    (ht : (P.info? t).map (·.size) = some 1) (hr : ∀ w, E.Hp S w0 X L w → w.frozen? ⟨g, j, none⟩ = false ∧ (∃ u, w.cell? ⟨g, j, none⟩ = some u) ∧ E.Hp S w0 X' L' (w.setCell ⟨g, j, none⟩ v))
    (hck : E.ck n ops fr ⟨none, .store t x y, T, pos, af, gd⟩ = true) (k : E.G P n ops Q l fr S w0 X' L') : E.G P n ops Q (⟨none, .store t x y, T, pos, af, gd⟩ :: l) fr S w0 X L := by
  intro a w hs hh
  refine E.step (hs.want (E.ck_w hck)) ?_
  unfold Oper.wp
  rw [hs.exec (E.ck_k hck)]
  obtain ⟨hf, ⟨u, hc⟩, hh'⟩ := hr w hh
  have hst : (store ⟨g, j, none⟩ v).run P w = .ok () (w.setCell ⟨g, j, none⟩ v) := by
    simp only [store]
    cases v <;> first
      | (simp only [Sem.run, hc, hf]; rfl)
      | exact absurd hb (by simp [E.cellB])
  have hs1 : (sizeOf t).run P w = .ok 1 w := by
    cases hi : P.info? t with
    | none => rw [hi] at ht; cases ht
    | some i => rw [hi] at ht; simp [sizeOf, typeInfo, hi]; simpa using ht
  have hsz : v.cells.size = 1 := by
    have := congrArg List.length hv
    simpa using this
  have hrun : (Instr.storeAt t (.pointer (some ⟨g, j, none⟩)) v).run P w = .ok () (w.setCell ⟨g, j, none⟩ v) := by
    simp [Instr.storeAt, Instr.sureAddr, storeVar, hs1, hsz, hv, storeCells, Addr.add, hst]
  have : (execOp (E.ev fr) ⟨none, .store t x y, T, pos, af, gd⟩).run P w = .ok .skip (w.setCell ⟨g, j, none⟩ v) := by
    show (do Instr.storeAt t (E.ev fr x) (E.ev fr y); pure Next.skip).run P w = _
    rw [hx, hy]; simp [hrun]
  rw [this]
  exact k _ _ hs hh'
end
section
variable {P : Program} {n : Nat} {ops : Array Oper} {Q : Exit → Act → World → Prop} {w0 : World} {o0 a0 : Nat → Prop} {its : List A.It} {L : List (Nat × List Value)} {l : List Oper} {fr : E.Fr} {d : Option Nat} {T : TypeId} {pos : String} {af : Array Edge} {gd : Option (Nat × Bool)}
theorem A.vec_upd {k : IntKind} {ao : Option Addr} {cap : Nat} {l : List Int} {w : World} {o a : Nat → Prop} (h : (A.vec k ao cap l).t w o a) {i : Nat} (hi : i < l.length) (v : Int) :
    Ch o w (w.setCell ⟨A.bk ao, i, none⟩ (.int k v)) ∧ ∃ o' a', (A.vec k ao cap (l.set i v)).t (w.setCell ⟨A.bk ao, i, none⟩ (.int k v)) o' a' ∧ A.Gr w o a o' a' := by
  obtain ⟨h1, h2, h3, h4⟩ := A.vec_set h hi v
  exact ⟨(Ch.refl o w).setCell (p := ⟨A.bk ao, i, none⟩) (fun _ => h3) _, o, a, h4, A.Gr.refl _ _ _⟩
/-- An element of a slice is set. -/
theorem A.G.vst {t : TypeId} {x y : Operand} {kd : IntKind} {ao : Option Addr} {cap i : Nat} {xs : List Int} {v : Int} (k : Nat) (hk : its[k]? = some (A.vec kd ao cap xs)) (hne : A.ne L = true) (hx : E.ev fr x = .pointer (some ⟨A.bk ao, i, none⟩)) (hy : E.ev fr y = .int kd v) (hi : i < xs.length) (ht : (P.info? t).map (·.size) = some 1)
    (hck : E.ck n ops fr ⟨none, .store t x y, T, pos, af, gd⟩ = true) (kk : E.G P n ops Q l fr o0 w0 (A.X w0 o0 a0 (its.set k (A.vec kd ao cap (xs.set i v)))) L) : E.G P n ops Q (⟨none, .store t x y, T, pos, af, gd⟩ :: l) fr o0 w0 (A.X w0 o0 a0 its) L := by
  refine A.G.sto1 (.int kd v) _ L hx hy rfl rfl ht (fun w h => ?_) hck kk
  obtain ⟨o1, a1, hv⟩ := A.X.get h hk
  obtain ⟨h1, h2, h3, h4⟩ := A.vec_set hv hi v
  exact ⟨h1, h2, A.X.upd h hne hk fun o1 a1 hv => A.vec_upd hv hi v⟩
theorem A.vec_new {k : IntKind} {w : World} {g c : Nat} {cs : List Value} {T : TypeId} {xs : List Int} {rest : List Value} (hg : g = w.heap.size) (hcs : cs = xs.map (Value.int k) ++ rest) (hc : c = cs.length) (h0 : 0 < c) : (A.vec k (some ⟨g, 0, none⟩) c xs).t (w.alloc (.cells cs.toArray T)) (fun x => x = g) (fun x => x = g) := by
  subst hg; subst hcs
  refine ⟨by rw [hc]; simp, .inr ⟨h0, _, rfl, by show w.heap.size < (w.heap.push _).size; simp, fun i v hv => ?_, fun i hi => ?_, fun i => by unfold World.frozen? World.alloc; simp, fun _ => Iff.rfl, fun _ => Iff.rfl⟩⟩
  · have hlt := (List.getElem?_eq_some_iff.1 hv).1
    rw [World.cell?_alloc_mark]
    have : (xs.map (Value.int k) ++ rest)[i]? = some (.int k v) := by rw [List.getElem?_append_left (by simpa using hlt), List.getElem?_map, hv]; rfl
    simpa using this
  · rw [World.cell?_alloc_mark]
    rw [hc] at hi
    exact ⟨(xs.map (Value.int k) ++ rest)[i], by simp⟩
/-- A slice of zeros is made. -/
theorem A.G.make {t e : TypeId} {kd lk : IntKind} {x : Operand} (m by_ : Nat) (ht : P.underlying t = some (.slice e)) (hi : (P.info? e).map (fun i => (i.size, i.bytes, i.zero.map (·.cells))) = some (1, by_, some #[.int kd 0])) (hx : E.ev fr x = .int lk ((m : Nat) : Int)) (hb : by_ * m ≤ 281474976710656) (h63 : m ≤ 9223372036854775807)
    (hck : E.ck n ops fr ⟨d, .makeSlice t x x, T, pos, af, gd⟩ = true)
    (kk : ∀ ao, E.G P n ops Q l (E.upd fr d (.slice ao m m)) o0 w0 (A.X w0 o0 a0 (A.vec kd ao m (List.replicate m 0) :: its)) L) : E.G P n ops Q (⟨d, .makeSlice t x x, T, pos, af, gd⟩ :: l) fr o0 w0 (A.X w0 o0 a0 its) L := by
  refine E.G.any (I := Option Addr) (fun _ => True) (fun ao => .slice ao m m) (fun ao => A.X w0 o0 a0 (A.vec kd ao m (List.replicate m 0) :: its)) (fun _ => L) (fun w hh => ?_) hck (fun a _ => kk a)
  cases hie : P.info? e with
  | none => rw [hie] at hi; cases hi
  | some i =>
    rw [hie] at hi
    simp only [Option.map_some, Option.some.injEq, Prod.mk.injEq] at hi
    obtain ⟨h1, h2, h3⟩ := hi
    cases hz : i.zero with
    | none => rw [hz] at h3; cases h3
    | some z =>
      rw [hz] at h3
      simp only [Option.map_some, Option.some.injEq] at h3
      have hr := run_make (P := P) w t e i z ht hie hz lk lk ((m : Nat) : Int) ((m : Nat) : Int) (by omega) (Int.le_refl _) (by rw [h2, ← Int.natCast_mul]; omega) (by omega)
      simp only [Int.toNat_natCast, h1, Nat.mul_one] at hr
      have hcs : madeCells z.cells m = ((List.replicate m (0 : Int)).map (Value.int kd) ++ []).toArray := by
        refine Array.toList_inj.1 (List.ext_getElem? fun j => ?_)
        rw [List.toList_toArray, List.append_nil, h3]
        by_cases hj : j < m
        · simp only [madeCells, Array.toList_map, Array.toList_range, List.getElem?_map]
          rw [List.getElem?_range hj, List.getElem?_replicate, if_pos hj]
          have : j % (#[Value.int kd 0] : Array Value).size = 0 := Nat.mod_one j
          simp only [Option.map_some, this]; rfl
        · rw [List.getElem?_eq_none (by rw [Array.length_toList, size_madeCells]; omega), List.getElem?_eq_none (by rw [List.length_map, List.length_replicate]; omega)]
      refine ⟨some ⟨w.heap.size, 0, none⟩, w.alloc (.cells (madeCells z.cells m) e), trivial, ?_, ?_⟩
      · show (do let r ← Instr.makeSlice t (E.ev fr x) (E.ev fr x); pure (Next.value r) : Sem Next).run P w = _
        rw [hx]; simp only [Sem.run_bind, hr, Result.andThen_ok]; rfl
      · rw [hcs]
        by_cases h0 : 0 < m
        · exact A.X.add hh (Bel.alloc (Bel.refl w) _) _ (A.vec_new (rest := []) rfl rfl (by rw [List.append_nil, List.length_map, List.length_replicate]) h0) (fun x hx => Nat.le_of_eq hx.symm)
        · obtain rfl : m = 0 := by omega
          exact A.X.add hh (Bel.alloc (Bel.refl w) _) (A.vec kd (some ⟨w.heap.size, 0, none⟩) 0 []) (o1 := fun _ => False) (a1 := fun _ => False) ⟨Nat.le_refl _, .inl ⟨rfl, fun _ h => h, fun _ h => h⟩⟩ (fun _ h => h.elim)
end
/-- A memory object as an item. -/
def M.Ob (b : M.Obj) (xs : List Value) : A.It where
  t w o a := M.St b w ∧ (∀ i v, xs[i]? = some v → w.cell? ⟨b.m, 2 + i, none⟩ = some v) ∧ (∀ x, o x ↔ x = b.m ∨ M.ow b x) ∧ ∀ x, a x ↔ M.all b x
  sub := fun {w o a} h x hx => (M.It b.m ⟨b.sl.length, b.coh, fun j => b.C (b.at j).d, fun j => b.C (M.img (b.at j)), fun j => b.C (b.at j).cd, fun j => b.C ((b.at j).cc.getD (b.at j).cd), fun j => (b.at j).r⟩ xs).sub (w := w) ⟨b, rfl, h.1, ⟨rfl, rfl, fun _ _ _ _ => rfl, fun _ _ _ _ => rfl, fun _ _ _ _ => rfl, fun _ _ _ _ => rfl, fun _ _ => rfl⟩, h.2⟩ x hx
  lt := fun h x hx => h.1.at_.alive ((h.2.2.2 x).1 hx)
  keep := fun {w w' o a} ⟨hs, hx, ho, ha⟩ hk => by
    have key : ∀ {p : Addr} {v : Value}, a p.block → w.cell? p = some v → w'.cell? p = some v := fun {p v} hp hv => by
      rw [World.cell?] at hv ⊢; rw [hk _ hp]; exact hv
    have hmm : a b.m := (ha _).2 (.inl rfl)
    refine ⟨⟨⟨key hmm hs.at_.c0, key hmm hs.at_.c1, hs.at_.ha, fun i v hv => key ((ha _).2 (M.all_b ?_)) (hs.at_.cs i v hv), fun p hp i hi => key ((ha _).2 (.inr (.inr hp))) (hs.at_.pg p hp i hi), hs.at_.lt⟩, hs.inv, fun x hx i => ?_⟩, fun i v hv => key hmm (hx i v hv), ho, ha⟩
    · cases hsl : b.sl with
      | nil => rw [hsl] at hv; simp [M.cells] at hv
      | cons => simp
    · have := hs.fz x hx i
      rw [World.frozen?] at this ⊢; rw [hk x ((ha x).2 hx)]; exact this
  apart := fun ⟨hs, _, _, ha⟩ ⟨hs2, _, _, _⟩ hw hz hx => M.apart_pg hs.at_ hs2.at_ rfl hw hz ((ha _).1 hx)
theorem M.Ob.st {w0 w : World} {o0 a0 : Nat → Prop} {its : List A.It} {L : List (Nat × List Value)} {k : Nat} {b : M.Obj} {xs : List Value} (h : E.Hp o0 w0 (A.X w0 o0 a0 its) L w) (hk : its[k]? = some (M.Ob b xs)) : M.St b w := by
  obtain ⟨o1, a1, hv⟩ := A.X.get h hk
  exact hv.1
theorem M.Ob.it {b : M.Obj} {V : M.V} {xs : List Value} {w : World} {o a : Nat → Prop} (h : (M.Ob b xs).t w o a) (hV : M.Sh b V) : (M.It b.m V xs).t w o a := ⟨b, rfl, h.1, hV, h.2.1, h.2.2.1, h.2.2.2⟩
theorem A.Has.one' {it : A.It} {w : World} {o a : Nat → Prop} (h : A.Has [it] w o a) : ∃ o' a', it.t w o' a' ∧ (∀ x, o' x ↔ o x) ∧ ∀ x, a' x ↔ a x := by
  obtain ⟨o1, a1, o2, a2, h1, h2, _, _, ho, ha⟩ := h
  exact ⟨o1, a1, h1, fun x => by rw [ho]; exact ⟨.inl, fun h => h.elim id fun h => (h2.1 x h).elim⟩, fun x => by rw [ha]; exact ⟨.inl, fun h => h.elim id fun h => (h2.2 x h).elim⟩⟩
/-- A slice without room speaks of nothing. -/
theorem A.vec0 (k : IntKind) (ao : Option Addr) {l : List A.It} {w : World} {o a : Nat → Prop} (h : A.Has l w o a) : A.Has (A.vec k ao 0 [] :: l) w o a :=
  ⟨fun _ => False, fun _ => False, o, a, ⟨Nat.le_refl _, .inl ⟨rfl, fun _ h => h, fun _ h => h⟩⟩, h, fun _ h => h.elim, fun _ _ h => h, fun x => by simp, fun x => by simp⟩
theorem M.St.two {a b : M.Obj} {w : World} (ha : M.St a w) (hb : M.St b w) : E.Hp (fun _ => False) w (fun w => M.St a w ∧ M.St b w) [] w :=
  ⟨Ch.refl _ _, by simp, by simp, by simp, by simp, by simp, fun w' _ hw => ⟨ha.keep fun x hx => hw x hx (by simp), hb.keep fun x hx => hw x hx (by simp)⟩⟩
def M.sm (a b : M.Obj) (p q : Nat) : Bool := (p == q) || (M.eqv (a.C p) (b.C q) (List.range 256))
/-- Whether two pages differ. -/
def M.nep (a b : M.Obj) (k : Nat) : Bool := (((a.at k).r != (b.at k).r) || (!(M.sm a b (a.at k).d (b.at k).d))) || (!(M.sm a b (M.img (a.at k)) (M.img (b.at k))))
def M.eqs (a b : M.Obj) : Nat → Bool
  | 0 => true
  | k + 1 => M.eqs a b k && !(M.nep a b k)
def M.eql (a b : M.Obj) : Bool := (a.sl.length == b.sl.length) && M.eqs a b a.sl.length
def M.V.setc (V : M.V) (n : Int) (s : ByteArray) : M.V := if 0 ≤ n ∧ n < ((V.n : Nat) : Int) ∧ V.coh = false then { V with i := fun j x => if j = n.toNat ∧ x < Nat.min s.size 256 then W.byt s.data.toList x else V.i j x } else V
theorem check_bad (o : M.Obj) (a : Nat) (n : Int) (r : Int) (hb : n < 1 ∨ 4 < n) (w : World) (hat : M.At o w) : Calls Tryz.prog 191 #[.pointer (some ⟨o.m, 0, none⟩), .int .u32 ((a : Nat) : Int), .int .i64 n, .int .i64 r] w fun e w' => e = .returned (.tuple #[.int .u32 ((a : Nat) : Int), .bool false]) ∧ Bel w w' := by
 refine E.enter (n := 44) (S := fun _ => False) Tryz.func191 rfl rfl Nz.k (hat.hp) (E.sr (E.op (E.u 0) (E.op (.bool false) (E.To.code (E.C.seq (E.sr (E.op (E.i n) (E.op (.bool (decide (n < 1))) (E.op (.bool (decide (n < 1))) (E.G.cut 3 [(0, E.pt o.m), (1, E.u ((a : Nat) : Int)), (2, E.i n), (3, E.i r), (8, E.u 0), (9, .bool false), (17, .bool ((decide (n < 1)) || (decide (n > 4))))] (fun w => M.At o w) [] ?_ ?_))))))))))
 ·
  generalize hc1 : (decide (n < 1)) = b2
  cases b2
  ·
   exact E.op (E.i n) (E.op (.bool (decide (n > 4))) (E.op (.bool (decide (n > 4))) (E.G.end_pst ⟨Nz.k, Nz.k⟩ Nz.sub (fun _ h => h))))
  exact E.sk (E.sk (E.op (.bool true) (E.G.end_pst ⟨Nz.k, Nz.k⟩ Nz.sub (fun _ h => h))))
 refine E.To.code (E.cd ((decide (n < 1)) || (decide (n > 4))) (fun hc3 => ?_) (fun hc3 => ?_))
 ·
  refine E.sr (E.op (E.u ((a : Nat) : Int)) (E.op (E.u ((a : Nat) : Int)) (E.op (.bool false) (E.To.code (E.C.ret (E.P.rt (E.To.body (fn := Tryz.f191) [E.u ((a : Nat) : Int), .bool false] ?_ ?_)))))))
  · exact ⟨⟨Nz.k, Nz.k⟩, ⟨Nz.k, Nz.k⟩, trivial⟩
  intro w h
  exact ⟨rfl, h.ch.bel (fun _ h => h.elim)⟩
 exfalso
 exact Nz.mom
theorem Load_bad (o : M.Obj) (a : Nat) (n : Int) (hb : n < 1 ∨ 4 < n) (w : World) (hat : M.At o w) : Calls Tryz.prog 188 #[.pointer (some ⟨o.m, 0, none⟩), .int .u32 ((a : Nat) : Int), .int .i64 n] w fun e w' => e = .returned (.tuple #[.int .u32 0, .int .u32 ((a : Nat) : Int), .bool false]) ∧ Bel w w' := by
 refine E.enter (n := 37) (S := fun _ => False) Tryz.func188 rfl rfl Nz.k (hat.hp) (E.sr (E.op (E.u 0) (E.op (E.u 0) (E.op (.bool false) (E.To.code (E.C.seq (E.sr (E.op (E.pt o.m) (E.op (E.u ((a : Nat) : Int)) (E.op (E.i n) (E.ca (.tuple #[E.u ((a : Nat) : Int), .bool false]) (fun w h => check_bad o a n 1 hb w h.x) ?_)))))))))))
 refine E.op (.tuple #[E.u ((a : Nat) : Int), .bool false]) (E.op (E.u ((a : Nat) : Int)) (E.op (.bool false) (E.op (E.u ((a : Nat) : Int)) (E.op (.bool false) (E.tr (E.op (.bool false) (E.op (.bool true) (E.To.code (E.wk [(0, E.pt o.m), (1, E.u ((a : Nat) : Int)), (2, E.i n), (6, E.u 0), (7, E.u ((a : Nat) : Int)), (8, .bool false), (18, .bool true)] [] Nz.sub (E.C.condT Nz.k Nz.k (E.sr ?_)))))))))))
 refine E.op (E.u ((a : Nat) : Int)) (E.op (E.u 0) (E.op (E.u ((a : Nat) : Int)) (E.op (.bool false) (E.To.code (E.C.ret (E.P.rt (E.To.body (fn := Tryz.f188) [E.u 0, E.u ((a : Nat) : Int), .bool false] ?_ ?_)))))))
 · exact ⟨⟨Nz.k, Nz.k⟩, ⟨Nz.k, Nz.k⟩, ⟨Nz.k, Nz.k⟩, trivial⟩
 intro w h
 exact ⟨rfl, h.ch.bel (fun _ h => h.elim)⟩
theorem Store_bad (o : M.Obj) (a : Nat) (n : Int) (v : Int) (hb : n < 1 ∨ 4 < n) (w : World) (hat : M.At o w) : Calls Tryz.prog 189 #[.pointer (some ⟨o.m, 0, none⟩), .int .u32 ((a : Nat) : Int), .int .i64 n, .int .u32 v] w fun e w' => e = .returned (.tuple #[.int .u32 ((a : Nat) : Int), .bool false]) ∧ Bel w w' := by
 refine E.enter (n := 37) (S := fun _ => False) Tryz.func189 rfl rfl Nz.k (hat.hp) (E.sr (E.op (E.u 0) (E.op (.bool false) (E.To.code (E.C.seq (E.sr (E.op (E.pt o.m) (E.op (E.u ((a : Nat) : Int)) (E.op (E.i n) (E.ca (.tuple #[E.u ((a : Nat) : Int), .bool false]) (fun w h => check_bad o a n 2 hb w h.x) (E.op (.tuple #[E.u ((a : Nat) : Int), .bool false]) ?_)))))))))))
 refine E.op (E.u ((a : Nat) : Int)) (E.op (.bool false) (E.op (E.u ((a : Nat) : Int)) (E.op (.bool false) (E.tr (E.op (.bool false) (E.op (.bool true) (E.To.code (E.wk [(0, E.pt o.m), (1, E.u ((a : Nat) : Int)), (2, E.i n), (3, E.u v), (8, E.u ((a : Nat) : Int)), (9, .bool false), (19, .bool true)] [] Nz.sub (E.C.condT Nz.k Nz.k (E.sr (E.op (E.u ((a : Nat) : Int)) ?_)))))))))))
 refine E.op (E.u ((a : Nat) : Int)) (E.op (.bool false) (E.To.code (E.C.ret (E.P.rt (E.To.body (fn := Tryz.f189) [E.u ((a : Nat) : Int), .bool false] ?_ ?_)))))
 · exact ⟨⟨Nz.k, Nz.k⟩, ⟨Nz.k, Nz.k⟩, trivial⟩
 intro w h
 exact ⟨rfl, h.ch.bel (fun _ h => h.elim)⟩
/-! What is answered. -/
def M.V.peek (V : M.V) (a : Nat) : Int := if a / 256 < V.n then V.d (a / 256) (a % 256) else 0
def M.V.code (V : M.V) (a : Nat) : Int := if a / 256 < V.n then V.i (a / 256) (a % 256) else 0
def M.V.rt (V : M.V) (n : Int) : Int := if 0 ≤ n ∧ n < ((V.n : Nat) : Int) then V.r n.toNat else 0
def M.V.ok (V : M.V) (a : Nat) (r : Int) : Bool := decide (a / 256 < V.n) && !(bits .and .i64 (V.r (a / 256)) r == 0)
def M.V.chkN (V : M.V) (a : Nat) (r : Int) : Nat → Nat → Int × Bool
  | _, 0 => (0, true)
  | i, c + 1 => bif V.ok ((a + i) % 4294967296) r then M.V.chkN V a r (i + 1) c else ((((a + i) % 4294967296 : Nat) : Int), false)
def M.V.chk (V : M.V) (a : Nat) (r n : Int) : Int × Bool := if 1 ≤ n ∧ n ≤ 4 then V.chkN a r 0 n.toNat else (((a : Nat) : Int), false)
def M.V.ldv (V : M.V) (a n : Nat) : Nat → Int
  | 0 => 0
  | c + 1 => bits .or .u32 (IntKind.wrap .u32 (M.V.ldv V a n c * 2 ^ 8)) (IntKind.wrap .u32 (V.peek ((a + (n - 1 - c)) % 4294967296)))
def M.V.load (V : M.V) (a : Nat) (n : Int) : Int × Int × Bool := if (V.chk a 1 n).2 then (V.ldv a n.toNat n.toNat, 0, true) else (0, (V.chk a 1 n).1, false)
def M.V.sto (V : M.V) (a : Nat) (n v : Int) : M.V := if (V.chk a 2 n).2 then V.put a v n.toNat else V
def M.V.fetch (V : M.V) (a : Nat) : Int × Bool := if V.ok a 4 then (V.code a, true) else (0, false)
def M.V.page (V : M.V) (n : Int) : ByteArray := if 0 ≤ n ∧ n < ((V.n : Nat) : Int) then strOfNums ((List.range 256).map (V.d n.toNat)) else ⟨#[]⟩
def M.V.prot (V : M.V) (n r : Int) : M.V := if 0 ≤ n ∧ n < ((V.n : Nat) : Int) then { V with r := fun j => if j = n.toNat then bits .and .i64 r 7 else V.r j } else V
def M.V.pgs (V W : M.V) (k : Nat) : Bool := (V.r k == W.r k) && (M.eqv (V.d k) (W.d k) (List.range 256) && M.eqv (V.i k) (W.i k) (List.range 256))
def M.V.eqs (V W : M.V) : Nat → Bool
  | 0 => true
  | k + 1 => M.V.eqs V W k && V.pgs W k
def M.V.eq (V W : M.V) : Bool := (V.n == W.n) && V.eqs W V.n
/-! From the object to what it shows. -/
theorem M.out_iff {o : M.Obj} {V : M.V} (h : M.Sh o V) (k : Nat) : o.out k = !(decide (k < V.n)) := by
  unfold M.Obj.out
  rw [h.n]
  by_cases e : k < V.n
  · rw [decide_eq_true e, decide_eq_false (by omega)]; rfl
  · rw [decide_eq_false e, decide_eq_true (by omega)]; rfl
theorem M.Sh.peek {o : M.Obj} {V : M.V} (h : M.Sh o V) (a : Nat) : M.peek o a = V.peek a := by
  unfold M.peek M.V.peek
  rw [M.out_iff h]
  by_cases e : a / 256 < V.n
  · rw [decide_eq_true e, if_pos e]; exact h.d _ e _ (Nat.mod_lt _ (by decide))
  · rw [decide_eq_false e, if_neg e]; rfl
theorem M.Sh.code {o : M.Obj} {V : M.V} (h : M.Sh o V) (a : Nat) : M.code o a = V.code a := by
  unfold M.code M.V.code
  rw [M.out_iff h]
  by_cases e : a / 256 < V.n
  · rw [decide_eq_true e, if_pos e]; exact h.i _ e _ (Nat.mod_lt _ (by decide))
  · rw [decide_eq_false e, if_neg e]; rfl
theorem M.rng {n m : Int} : ((decide (n < 0)) || (decide (n ≥ m))) = !(decide (0 ≤ n ∧ n < m)) := by
  by_cases h : 0 ≤ n ∧ n < m
  · rw [decide_eq_true h, decide_eq_false (by omega), decide_eq_false (by omega)]; rfl
  · rw [decide_eq_false h]
    by_cases h0 : n < 0
    · rw [decide_eq_true h0]; rfl
    · rw [decide_eq_true (show n ≥ m by omega), Bool.or_true]; rfl
theorem M.Sh.rights {o : M.Obj} {V : M.V} (h : M.Sh o V) (n : Int) : M.rights o n = V.rt n := by
  unfold M.rights M.V.rt
  rw [M.rng, h.n]
  by_cases e : 0 ≤ n ∧ n < ((V.n : Nat) : Int)
  · rw [decide_eq_true e, if_pos e]; exact h.r _ (by omega)
  · rw [decide_eq_false e, if_neg e]; rfl
theorem M.Sh.ok {o : M.Obj} {V : M.V} (h : M.Sh o V) (a : Nat) (r : Int) : M.ok o a r = V.ok a r := by
  unfold M.ok M.V.ok
  rw [M.out_iff h, Bool.not_not]
  by_cases e : a / 256 < V.n
  · rw [h.r _ e]
  · rw [decide_eq_false e, Bool.false_and, Bool.false_and]
theorem M.chk_s (o : M.Obj) (a : Nat) (r : Int) (i c : Nat) : M.chk o a r i (c + 1) = bif M.ok o ((a + i) % 4294967296) r then M.chk o a r (i + 1) c else ((((a + i) % 4294967296 : Nat) : Int), false) := by rw [M.chk]
theorem M.chkN_s (V : M.V) (a : Nat) (r : Int) (i c : Nat) : V.chkN a r i (c + 1) = bif V.ok ((a + i) % 4294967296) r then V.chkN a r (i + 1) c else ((((a + i) % 4294967296 : Nat) : Int), false) := by rw [M.V.chkN]
theorem M.Sh.chk {o : M.Obj} {V : M.V} (h : M.Sh o V) (a : Nat) (r : Int) (c : Nat) : ∀ i, M.chk o a r i c = V.chkN a r i c := by
  induction c with
  | zero => intro i; rw [M.chk, M.V.chkN]
  | succ c ih => intro i; rw [M.chk_s, M.chkN_s, h.ok, ih]
theorem M.Sh.ldv {o : M.Obj} {V : M.V} (h : M.Sh o V) (a n : Nat) : ∀ c, M.ldv o a n c = V.ldv a n c
  | 0 => rfl
  | c + 1 => by
    show bits .or .u32 (IntKind.wrap .u32 (M.ldv o a n c * 2 ^ 8)) (IntKind.wrap .u32 (M.peek o _)) = bits .or .u32 (IntKind.wrap .u32 (V.ldv a n c * 2 ^ 8)) (IntKind.wrap .u32 (V.peek _))
    rw [h.peek, h.ldv a n c]
theorem M.Sh.fetch {o : M.Obj} {V : M.V} (h : M.Sh o V) (a : Nat) : M.fetch o a = V.fetch a := by
  unfold M.fetch M.V.fetch M.V.ok M.V.code
  rw [M.out_iff h]
  by_cases e : a / 256 < V.n
  · rw [decide_eq_true e, h.r _ e, if_pos e]
    show (bif _ then _ else _) = _
    cases hb : (bits .and .i64 (V.r (a / 256)) 4 == 0) with
    | true => rfl
    | false => show (_, true) = (_, true); rw [h.i _ e _ (Nat.mod_lt _ (by decide))]
  · rw [decide_eq_false e]; rfl
theorem M.map_congr {f g : Nat → Int} (h : ∀ x, x < 256 → f x = g x) : (List.range 256).map f = (List.range 256).map g :=
  List.map_congr_left fun x hx => h x (List.mem_range.1 hx)
theorem M.Sh.page {o : M.Obj} {V : M.V} (h : M.Sh o V) (n : Int) : M.pageS o n = V.page n := by
  unfold M.pageS M.V.page
  rw [M.rng, h.n]
  by_cases e : 0 ≤ n ∧ n < ((V.n : Nat) : Int)
  · rw [decide_eq_true e, if_pos e]
    show strOfNums _ = _
    rw [M.map_congr (h.d n.toNat (by omega))]
  · rw [decide_eq_false e, if_neg e]; rfl
theorem M.Sh.prot {o : M.Obj} {V : M.V} (h : M.Sh o V) (n r : Int) : M.Sh (M.prot o n r) (V.prot n r) := by
  unfold M.prot M.V.prot
  have hn := h.n
  rw [h.n]
  by_cases e : 0 ≤ n ∧ n < ((V.n : Nat) : Int)
  · rw [if_pos e, decide_eq_true (show n ≥ 0 from e.1), decide_eq_true e.2]
    have hk : n.toNat < o.sl.length := by omega
    have hl := M.setr_at (o := o) (i := n.toNat) (r := bits .and .i64 r 7) hk
    refine ⟨M.upd_len.trans h.n, h.coh, fun j hj x hx => ?_, fun j hj x hx => ?_, fun j hj x hx => ?_, fun j hj x hx => ?_, fun j hj => ?_⟩
    · show o.C ((o.upd n.toNat _).at j).d x = _; rw [(hl j).1]; exact h.d j hj x hx
    · show o.C (M.img ((o.upd n.toNat _).at j)) x = _; unfold M.img; rw [(hl j).1, (hl j).2.1]; exact h.i j hj x hx
    · show o.C ((o.upd n.toNat _).at j).cd x = _; rw [(hl j).2.2.2.2.1]; exact h.cd j hj x hx
    · show o.C (((o.upd n.toNat _).at j).cc.getD ((o.upd n.toNat _).at j).cd) x = _; rw [(hl j).2.2.2.2.1, (hl j).2.2.2.2.2]; exact h.ci j hj x hx
    · show ((o.upd n.toNat _).at j).r = (if j = n.toNat then bits .and .i64 r 7 else V.r j)
      rw [M.upd_at hk]
      by_cases e2 : j = n.toNat
      · rw [if_pos e2, if_pos e2]
      · rw [if_neg e2, if_neg e2]; exact h.r j hj
  · rw [if_neg e]
    have : ((decide (n ≥ 0)) && (decide (n < ((V.n : Nat) : Int)))) = false := by
      by_cases h0 : n ≥ 0
      · rw [decide_eq_true h0, decide_eq_false (fun h1 => e ⟨h0, h1⟩)]; rfl
      · rw [decide_eq_false h0]; rfl
    rw [this]; exact h
theorem M.Nxt.prot (w : World) (o : M.Obj) (n r : Int) : M.Nxt w o (M.prot o n r) := by
  unfold M.prot
  cases hc : ((decide (n ≥ 0)) && (decide (n < ((o.sl.length : Nat) : Int)))) with
  | false => exact M.Nxt.refl _ _
  | true =>
    simp only [Bool.and_eq_true, decide_eq_true_eq] at hc
    have hk : n.toNat < o.sl.length := by omega
    have hl : M.Like o (o.upd n.toNat { o.at n.toNat with r := bits .and .i64 r 7 }) := ⟨rfl, rfl, M.upd_len, rfl, M.setr_at hk⟩
    exact ⟨rfl, M.upd_len, rfl, fun x _ hx => hl.ow hx, fun x _ hx => hl.all hx⟩
/-! The calls, over items. -/
section
variable {m : Nat} {V : M.V} {xs : List Value}
theorem A_Peek (a : Nat) (ha : a < 4294967296) : A.Rd Tryz.prog 22 #[.pointer (some ⟨m, 0, none⟩), .int .u32 ((a : Nat) : Int)] [M.It m V xs] (.int .u8 (V.peek a)) :=
  M.rd fun b w hm hs hV => by subst hm; rw [← hV.peek]; exact Peek_any b a ha w hs.at_
theorem A_Fetch (a : Nat) (ha : a < 4294967296) : A.Rd Tryz.prog 187 #[.pointer (some ⟨m, 0, none⟩), .int .u32 ((a : Nat) : Int)] [M.It m V xs] (.tuple #[.int .u8 (V.fetch a).1, .bool (V.fetch a).2]) :=
  M.rd fun b w hm hs hV => by subst hm; rw [← hV.fetch]; exact Fetch_any b a ha w hs.at_
theorem A_Load (a : Nat) (n : Int) (ha : a < 4294967296) : A.Rd Tryz.prog 188 #[.pointer (some ⟨m, 0, none⟩), .int .u32 ((a : Nat) : Int), .int .i64 n] [M.It m V xs] (.tuple #[.int .u32 (V.load a n).1, .int .u32 (V.load a n).2.1, .bool (V.load a n).2.2]) :=
  M.rd fun b w hm hs hV => by
    subst hm
    by_cases hn : 1 ≤ n ∧ n ≤ 4
    · have e : V.load a n = M.load b a n.toNat := by
        unfold M.V.load M.load M.V.chk
        rw [if_pos hn, ← hV.chk, ← hV.ldv]
        cases (M.chk b a 1 0 n.toNat).2 <;> rfl
      have := Load_any b a n.toNat ha ⟨by omega, by omega⟩ w hs.at_
      rw [e]
      rw [show ((n.toNat : Nat) : Int) = n by omega] at this
      exact this
    · have e : V.load a n = (0, ((a : Nat) : Int), false) := by
        unfold M.V.load M.V.chk
        rw [if_neg hn]; rfl
      rw [e]
      exact Load_bad b a n (by omega) w hs.at_
theorem A_Store (a : Nat) (n v : Int) (ha : a < 4294967296) : A.Tr Tryz.prog 189 #[.pointer (some ⟨m, 0, none⟩), .int .u32 ((a : Nat) : Int), .int .i64 n, .int .u32 v] [M.It m V xs] (I := Unit) (fun _ => True) (fun _ => .tuple #[.int .u32 (V.chk a 2 n).1, .bool (V.chk a 2 n).2]) (fun _ => [M.It m (V.sto a n v) xs]) :=
  M.wr fun b w hm hs hV => by
    subst hm
    by_cases hn : 1 ≤ n ∧ n ≤ 4
    · have e : V.chk a 2 n = M.chk b a 2 0 n.toNat := by unfold M.V.chk; rw [if_pos hn, ← hV.chk]
      have e0 : ∀ c : Nat, (M.chk b a 2 0 c).2 = true → (M.chk b a 2 0 c).1 = 0 := fun c => by
        have : ∀ (c i : Nat), (M.chk b a 2 i c).2 = true → (M.chk b a 2 i c).1 = 0 := fun c => by
          induction c with
          | zero => exact fun _ _ => rfl
          | succ c ih =>
            intro i
            show (bif M.ok b _ 2 then M.chk b a 2 (i + 1) c else _).2 = true → (bif M.ok b _ 2 then M.chk b a 2 (i + 1) c else _).1 = 0
            cases M.ok b ((a + i) % 4294967296) 2 with
            | true => exact ih (i + 1)
            | false => intro h; cases h
        exact this c 0
      have key : ∀ k : Nat, n.toNat = k → (∀ w, M.St b w → Calls Tryz.prog 189 #[.pointer (some ⟨b.m, 0, none⟩), .int .u32 ((a : Nat) : Int), .int .i64 ((k : Nat) : Int), .int .u32 v] w fun e w' => e = .returned (bif (M.chk b a 2 0 k).2 then .tuple #[.int .u32 0, .bool true] else .tuple #[.int .u32 (M.chk b a 2 0 k).1, .bool false]) ∧ ∃ o', M.St o' w' ∧ Ch (fun x => M.ow b x) w w' ∧ M.Nxt w b o' ∧ ∀ V, M.Sh b V → M.Sh o' (bif (M.chk b a 2 0 k).2 then V.put a v k else V)) →
          Calls Tryz.prog 189 #[.pointer (some ⟨b.m, 0, none⟩), .int .u32 ((a : Nat) : Int), .int .i64 n, .int .u32 v] w fun e w' => e = .returned (.tuple #[.int .u32 (V.chk a 2 n).1, .bool (V.chk a 2 n).2]) ∧ ∃ b', M.St b' w' ∧ Ch (fun x => M.ow b x) w w' ∧ M.Nxt w b b' ∧ M.Sh b' (V.sto a n v) := fun k hk hc => by
        have := hc w hs
        rw [show ((k : Nat) : Int) = n by omega] at this
        refine this.mono fun e w' ⟨he, o', h1, h2, h3, h4⟩ => ⟨?_, o', h1, h2, h3, ?_⟩
        · rw [he, ‹V.chk a 2 n = _›, hk]
          cases hq : (M.chk b a 2 0 k).2 with
          | true => rw [e0 k hq]; rfl
          | false => rfl
        · have h5 := h4 V hV
          unfold M.V.sto
          rw [‹V.chk a 2 n = _›, hk]
          cases hq : (M.chk b a 2 0 k).2 with
          | true => rw [hq] at h5; exact h5
          | false => rw [hq] at h5; exact h5
      have h4 : n.toNat = 1 ∨ n.toNat = 2 ∨ n.toNat = 3 ∨ n.toNat = 4 := by omega
      rcases h4 with h | h | h | h
      · exact key 1 h fun w hs => Store_1 b a v ha w hs
      · exact key 2 h fun w hs => Store_2 b a v ha w hs
      · exact key 3 h fun w hs => Store_3 b a v ha w hs
      · exact key 4 h fun w hs => Store_4 b a v ha w hs
    · have e : V.chk a 2 n = (((a : Nat) : Int), false) := by unfold M.V.chk; rw [if_neg hn]
      have e2 : V.sto a n v = V := by unfold M.V.sto; rw [e]; rfl
      rw [e, e2]
      exact (Store_bad b a n v (by omega) w hs.at_).mono fun e w' ⟨he, hb⟩ => ⟨he, b, hs.keep fun x hx => hb.heap x hx, hb.ch _, M.Nxt.refl _ _, hV⟩
theorem A_Poke (a : Nat) (s : ByteArray) (ha : a < 4294967296) (hs : s.size < 4294967296) : A.Tr Tryz.prog 18 #[.pointer (some ⟨m, 0, none⟩), .int .u32 ((a : Nat) : Int), .string s] [M.It m V xs] (I := Unit) (fun _ => True) (fun _ => .tuple #[]) (fun _ => [M.It m (V.poke a s s.size) xs]) :=
  M.wr fun b w hm hst hV => by
    subst hm
    exact (Poke_any b a s hs w hst).mono fun e w' ⟨he, o', h1, h2, h3, h4⟩ => ⟨he, o', h1, h2, h3, h4 V hV⟩
theorem A_Protect (n r : Int) : A.Tr Tryz.prog 19 #[.pointer (some ⟨m, 0, none⟩), .int .i64 n, .int .i64 r] [M.It m V xs] (I := Unit) (fun _ => True) (fun _ => .tuple #[]) (fun _ => [M.It m (V.prot n r) xs]) :=
  M.wr fun b w hm hst hV => by
    subst hm
    exact (Protect_any b n r w hst).mono fun e w' ⟨he, h1, h2⟩ => ⟨he, M.prot b n r, h1, h2, M.Nxt.prot _ _ _ _, hV.prot n r⟩
theorem A_New (n : Int) (coh : Bool) : A.Tr Tryz.prog 17 #[.int .i64 n, .bool coh] [] (I := Nat) (fun _ => True) (fun g => .pointer (some ⟨g, 0, none⟩)) (fun g => [M.It g (M.V.new (M.np n) coh) []]) := by
  intro w o a hh
  refine (New_any n coh w).mono fun e w' ⟨b, he, h1, h2, h3, h4⟩ => ⟨b.m, trivial, he, fun x => x = b.m ∨ M.ow b x, fun x => M.all b x, A.Has.one ⟨b, rfl, h1, h2, fun i v hv => by simp at hv, fun _ => Iff.rfl, fun _ => Iff.rfl⟩, h3.ch _, fun x hx hk => ?_, fun x hx hk => ?_⟩
  · rcases hk with rfl | hk
    · have := h4 _ (.inl rfl); omega
    · have := h4 x (M.ow_all hk); omega
  · have := h4 x hk; omega
end
section
variable {P : Program} {n : Nat} {ops : Array Oper} {Q : Exit → Act → World → Prop} {w0 : World} {o0 a0 : Nat → Prop} {its : List A.It} {L : List (Nat × List Value)} {l : List Oper} {fr : E.Fr}
theorem A.G.eq (its' : List A.It) (h : its = its') (k : E.G P n ops Q l fr o0 w0 (A.X w0 o0 a0 its') L) : E.G P n ops Q l fr o0 w0 (A.X w0 o0 a0 its) L := by subst h; exact k
theorem A.C.eq {c : Code} (its' : List A.It) (h : its = its') (k : E.C P n Q c fr o0 w0 (A.X w0 o0 a0 its') L) : E.C P n Q c fr o0 w0 (A.X w0 o0 a0 its) L := by subst h; exact k
end
/-- The addresses and capacities of the five slices. -/
structure R.Sl where
  a0 : Option Addr
  a1 : Option Addr
  a2 : Option Addr
  a3 : Option Addr
  a4 : Option Addr
  c0 : Nat
  c1 : Nat
  c2 : Nat
  c3 : Nat
  c4 : Nat
def R.flat (f : Nat → Nat → Int) (n : Nat) : List Int := (List.range (256 * n)).map fun y => f (y / 256) (y % 256)
def R.rts (f : Nat → Int) (n : Nat) : List Int := (List.range n).map f
def R.len (V : M.V) : Nat := if V.coh then 0 else V.n
theorem R.flat_len (f : Nat → Nat → Int) (n : Nat) : (R.flat f n).length = 256 * n := by simp [R.flat]
theorem R.rts_len (f : Nat → Int) (n : Nat) : (R.rts f n).length = n := by simp [R.rts]
theorem R.flat_get {f : Nat → Nat → Int} {n y : Nat} (h : y < 256 * n) : (R.flat f n).getD y 0 = f (y / 256) (y % 256) := by
  simp [R.flat, List.getD, h]
theorem R.flat_set {f : Nat → Nat → Int} {n y : Nat} (v : Int) (h : y < 256 * n) : (R.flat f n).set y v = R.flat (M.up f (y / 256) (y % 256) v) n := by
  refine List.ext_getElem? fun i => ?_
  rw [List.getElem?_set, R.flat_len]
  by_cases e : y = i
  · subst e
    rw [if_pos rfl, if_pos h]
    simp [R.flat, h, M.up]
  · rw [if_neg e]
    by_cases hi : i < 256 * n
    · simp only [R.flat, List.getElem?_map, List.getElem?_range hi, Option.map_some, M.up]
      rw [if_neg (fun k => e (by omega))]
    · rw [List.getElem?_eq_none (by rw [R.flat_len]; omega), List.getElem?_eq_none (by rw [R.flat_len]; omega)]
theorem R.rts_set {f : Nat → Int} {n y : Nat} (v : Int) (h : y < n) : (R.rts f n).set y v = R.rts (fun j => if j = y then v else f j) n := by
  refine List.ext_getElem? fun i => ?_
  rw [List.getElem?_set, R.rts_len]
  by_cases e : y = i
  · subst e
    rw [if_pos rfl, if_pos h]
    simp [R.rts, h]
  · rw [if_neg e]
    by_cases hi : i < n
    · simp only [R.rts, List.getElem?_map, List.getElem?_range hi, Option.map_some]
      rw [if_neg (fun k => e k.symm)]
    · rw [List.getElem?_eq_none (by rw [R.rts_len]; omega), List.getElem?_eq_none (by rw [R.rts_len]; omega)]
theorem R.flat_zero (n : Nat) : R.flat (fun _ _ => 0) n = List.replicate (256 * n) 0 := by
  refine List.ext_getElem? fun i => ?_
  by_cases hi : i < 256 * n
  · simp only [R.flat, List.getElem?_map, List.getElem?_range hi, Option.map_some]
    rw [List.getElem?_replicate, if_pos hi]
  · rw [List.getElem?_eq_none (by rw [R.flat_len]; omega), List.getElem?_eq_none (by rw [List.length_replicate]; omega)]
theorem R.rts_zero (n : Nat) : R.rts (fun _ => 0) n = List.replicate n 0 := by
  refine List.ext_getElem? fun i => ?_
  by_cases hi : i < n
  · simp only [R.rts, List.getElem?_map, List.getElem?_range hi, Option.map_some]
    rw [List.getElem?_replicate, if_pos hi]
  · rw [List.getElem?_eq_none (by rw [R.rts_len]; omega), List.getElem?_eq_none (by rw [List.length_replicate]; omega)]
def R.cells (s : R.Sl) (V : M.V) : List Value := [.slice s.a0 (256 * V.n) s.c0, .slice s.a1 (256 * R.len V) s.c1, .slice s.a2 (256 * V.n) s.c2, .slice s.a3 (256 * R.len V) s.c3, .slice s.a4 V.n s.c4, .bool V.coh]
def R.vs (s : R.Sl) (V : M.V) : List A.It := [A.vec .u8 s.a0 s.c0 (R.flat V.d V.n), A.vec .u8 s.a1 s.c1 (R.flat V.i (R.len V)), A.vec .u8 s.a2 s.c2 (R.flat V.cd V.n), A.vec .u8 s.a3 s.c3 (R.flat V.ci (R.len V)), A.vec .i64 s.a4 s.c4 (R.rts V.r V.n)]
def R.its (r : Nat) (s : R.Sl) (V : M.V) : List A.It := A.blk r (R.cells s V) :: R.vs s V
/-- What a memory shows is a memory's. -/
structure R.Wf (V : M.V) : Prop where
  n : V.n ≤ 4096
  d : ∀ j, j < V.n → ∀ x, x < 256 → 0 ≤ V.d j x ∧ V.d j x < 256
  i : ∀ j, j < V.n → ∀ x, x < 256 → 0 ≤ V.i j x ∧ V.i j x < 256
  r : ∀ j, j < V.n → 0 ≤ V.r j ∧ V.r j < 8
  co : V.coh = true → ∀ j, j < V.n → ∀ x, x < 256 → V.i j x = V.d j x ∧ V.ci j x = V.cd j x
theorem R.Wf.set {V : M.V} (h : R.Wf V) (a : Nat) {v : Int} (hv : 0 ≤ v ∧ v < 256) : R.Wf (V.set a v) := by
  unfold M.V.set
  by_cases e : a / 256 < V.n
  · rw [if_pos e]
    have up : ∀ (f : Nat → Nat → Int), (∀ j, j < V.n → ∀ x, x < 256 → 0 ≤ f j x ∧ f j x < 256) → ∀ j, j < V.n → ∀ x, x < 256 → 0 ≤ M.up f (a / 256) (a % 256) v j x ∧ M.up f (a / 256) (a % 256) v j x < 256 := fun f hf j hj x hx => by
      unfold M.up; split
      · exact hv
      · exact hf j hj x hx
    refine ⟨h.n, up _ h.d, ?_, h.r, fun hc j hj x hx => ?_⟩
    · show ∀ j, j < V.n → ∀ x, x < 256 → 0 ≤ (if V.coh then M.up V.i (a / 256) (a % 256) v else V.i) j x ∧ (if V.coh then M.up V.i (a / 256) (a % 256) v else V.i) j x < 256
      split
      · exact up _ h.i
      · exact h.i
    · have hc : V.coh = true := hc
      show (if V.coh then M.up V.i (a / 256) (a % 256) v else V.i) j x = M.up V.d (a / 256) (a % 256) v j x ∧ V.ci j x = V.cd j x
      rw [if_pos hc]
      refine ⟨?_, (h.co hc j hj x hx).2⟩
      unfold M.up; split
      · rfl
      · exact (h.co hc j hj x hx).1
  · rw [if_neg e]; exact h
theorem R.Wf.poke {V : M.V} (h : R.Wf V) (a : Nat) (s : ByteArray) : ∀ c, R.Wf (V.poke a s c)
  | 0 => h
  | c + 1 => (R.Wf.poke h a s c).set _ (W.byt_bd _ _)
theorem R.Wf.put {V : M.V} (h : R.Wf V) (a : Nat) (v : Int) : ∀ c, R.Wf (V.put a v c)
  | 0 => h
  | c + 1 => (R.Wf.put h a v c).set _ (M.byte_bd _)
theorem R.Wf.prot {V : M.V} (h : R.Wf V) (n r : Int) : R.Wf (V.prot n r) := by
  unfold M.V.prot; split
  · refine ⟨h.n, h.d, h.i, fun j hj => ?_, h.co⟩
    show 0 ≤ (if j = n.toNat then bits .and .i64 r 7 else V.r j) ∧ (if j = n.toNat then bits .and .i64 r 7 else V.r j) < 8
    split
    · exact M.and7 r
    · exact h.r j hj
  · exact h
theorem R.Wf.new {n : Nat} (hn : n ≤ 4096) (coh : Bool) : R.Wf (M.V.new n coh) :=
  ⟨hn, fun _ _ _ _ => ⟨Int.le_refl _, by show (0 : Int) < 256; decide⟩, fun _ _ _ _ => ⟨Int.le_refl _, by show (0 : Int) < 256; decide⟩, fun _ _ => ⟨Int.le_refl _, by show (0 : Int) < 8; decide⟩, fun _ _ _ _ _ => ⟨rfl, rfl⟩⟩
theorem R.set_n (V : M.V) (a : Nat) (v : Int) : (V.set a v).n = V.n := by unfold M.V.set; split <;> rfl
theorem R.set_coh (V : M.V) (a : Nat) (v : Int) : (V.set a v).coh = V.coh := by unfold M.V.set; split <;> rfl
theorem R.len_eq {V W : M.V} (hn : V.n = W.n) (hc : V.coh = W.coh) : R.len V = R.len W := by unfold R.len; rw [hn, hc]
theorem R.cells_eq {s : R.Sl} {V W : M.V} (hn : V.n = W.n) (hc : V.coh = W.coh) : R.cells s V = R.cells s W := by unfold R.cells; rw [hn, hc, R.len_eq hn hc]
/-- A byte of the content is set. -/
theorem R.vs_set {s : R.Sl} {V : M.V} {a : Nat} {v : Int} (h : a / 256 < V.n) : [A.vec .u8 s.a0 s.c0 ((R.flat V.d V.n).set a v), A.vec .u8 s.a1 s.c1 (R.flat V.i (R.len V)), A.vec .u8 s.a2 s.c2 (R.flat V.cd V.n), A.vec .u8 s.a3 s.c3 (R.flat V.ci (R.len V)), A.vec .i64 s.a4 s.c4 (R.rts V.r V.n)] = R.vs s (V.set a v) := by
  have e : V.set a v = { V with d := M.up V.d (a / 256) (a % 256) v, i := if V.coh then M.up V.i (a / 256) (a % 256) v else V.i } := by unfold M.V.set; rw [if_pos h]
  rw [e, R.flat_set v (by omega)]
  unfold R.vs
  congr 2
  show A.vec .u8 s.a1 s.c1 (R.flat V.i (R.len V)) = A.vec .u8 s.a1 s.c1 (R.flat (if V.coh then M.up V.i (a / 256) (a % 256) v else V.i) (R.len V))
  cases hc : V.coh with
  | true =>
    have : R.len V = 0 := by unfold R.len; rw [hc]; rfl
    rw [this]; rfl
  | false => rfl
/-- The reference memory at the block r that shows V. -/
def R.It (r : Nat) (V : M.V) : A.It where
  t w o a := R.Wf V ∧ ∃ s, A.Has (R.its r s V) w o a
  sub := fun ⟨_, s, h⟩ => h.sub
  lt := fun ⟨_, s, h⟩ => h.lt
  keep := fun ⟨hw, s, h⟩ hk => ⟨hw, s, h.keep hk⟩
  apart := fun {w w2 o a o2 a2 x} ⟨_, s, h⟩ ⟨_, s2, h2⟩ hw hz hx => by
    obtain ⟨p1, q1, p2, q2, ⟨hb, hf, hlt, ho, ha, _⟩, hv, _, _, _, hax⟩ := h
    obtain ⟨p3, q3, p4, q4, ⟨hb2, hf2, hlt2, ho2, ha2, _⟩, hv2, _, _, _, hax2⟩ := h2
    by_cases e : x = r
    · subst e
      have := hb2 0 _ rfl
      rw [hz] at this; cases this
    · have hc : ∀ i, w2.cell? ⟨r, i, none⟩ = w.cell? ⟨r, i, none⟩ := fun i => by rw [World.cell?, World.cell?, hw _ (Ne.symm e)]
      have k : ∀ (i : Nat) (u v : Value), (R.cells s V)[i]? = some u → (R.cells s2 V)[i]? = some v → u = v := fun i u v hu hv => by
        have h1 := hb i u hu
        have h2 := hb2 i v hv
        rw [hc, h1] at h2; exact Option.some.inj h2
      have k0 := k 0 _ _ rfl rfl
      have k1 := k 1 _ _ rfl rfl
      have k2 := k 2 _ _ rfl rfl
      have k3 := k 3 _ _ rfl rfl
      have k4 := k 4 _ _ rfl rfl
      simp only [Value.slice.injEq] at k0 k1 k2 k3 k4
      have hs : s2 = s := by
        obtain ⟨b0, b1, b2, b3, b4, d0, d1, d2, d3, d4⟩ := s
        obtain ⟨e0, e1, e2, e3, e4, f0, f1, f2, f3, f4⟩ := s2
        simp only at k0 k1 k2 k3 k4
        obtain ⟨rfl, _, rfl⟩ := k0
        obtain ⟨rfl, _, rfl⟩ := k1
        obtain ⟨rfl, _, rfl⟩ := k2
        obtain ⟨rfl, _, rfl⟩ := k3
        obtain ⟨rfl, _, rfl⟩ := k4
        rfl
      subst hs
      rcases (hax x).1 hx with hx | hx
      · exact e ((ha x).1 hx)
      · exact hv.apart hv2 hw hz hx
theorem R.wr {P : Program} {f : FuncId} {args : Array Value} {r : Nat} {V V' : M.V} {v : Value} (h : R.Wf V → ∀ s, A.Tr P f args (R.its r s V) (I := Unit) (fun _ => True) (fun _ => v) (fun _ => R.its r s V')) (hw' : R.Wf V → R.Wf V') : A.Tr P f args [R.It r V] (I := Unit) (fun _ => True) (fun _ => v) (fun _ => [R.It r V']) := by
  intro w o a hh
  obtain ⟨o1, a1, ⟨hw, s, hs⟩, ho, ha⟩ := A.Has.one' hh
  refine (h hw s w o1 a1 hs).mono fun e w' ⟨_, _, he, o', a', hq, hc, hg⟩ => ⟨(), trivial, he, o', a', A.Has.one ⟨hw' hw, s, hq⟩, hc.mono fun x _ hx => (ho x).1 hx, fun x hx hk => (ho x).1 (hg.1 x hx hk), fun x hx hk => (ha x).1 (hg.2 x hx hk)⟩

end Go.Proofs.YtglidnmmeclneaaGreat
namespace Go.Proofs.YtglidnmmeclneaaGreat
set_option linter.unusedVariables false
set_option linter.unusedSimpArgs false
open Go.RowKit
def A.Y (l : List A.It) (w : World) : Prop := ∃ o a, A.Has l w o a
theorem A.X.y {w0 w : World} {o0 a0 : Nat → Prop} {l : List A.It} (h : A.X w0 o0 a0 l w) : A.Y l w := by
  obtain ⟨_, o, a, h, _⟩ := h; exact ⟨o, a, h⟩
theorem A.startY {w : World} {o a : Nat → Prop} {l : List A.It} (h : A.Has l w o a) : E.Hp (fun _ => False) w (A.Y l) [] w :=
  ⟨Ch.refl _ _, by simp, by simp, by simp, by simp, by simp, fun w' _ hw => ⟨o, a, h.keep fun x hx => hw x (h.lt x hx) (by simp)⟩⟩
theorem A.Y.get {w : World} {its : List A.It} {it : A.It} {k : Nat} (h : A.Y its w) (hk : its[k]? = some it) : ∃ o1 a1, it.t w o1 a1 := by
  obtain ⟨o, a, hh⟩ := h; exact hh.get hk
theorem A.Y.rd {P : Program} {f : FuncId} {args : Array Value} {v : Value} {p its : List A.It} {w : World} (fm : List A.It) (hc : A.Rd P f args p v) (h : A.Y its w) (h1 : its.Perm (p ++ fm)) : Calls P f args w fun e w' => e = .returned v ∧ Bel w w' := by
  obtain ⟨o, a, hh⟩ := h
  exact hc.frame fm w o a (hh.perm h1)
section rules
variable {P : Program} {n : Nat} {ops : Array Oper} {w : World} {its : List A.It} {fr : E.Fr} {d : Option Nat} {T : TypeId} {pos : String} {af : Array Edge} {gd : Option (Nat × Bool)} {x ix : Operand}
theorem A.Y.idx {t e : TypeId} {kd ik : IntKind} {ao : Option Addr} {len cap c2 : Nat} {l : List Int} {i : Nat} {k : Nat} (h : A.Y its w) (hk : its[k]? = some (A.vec kd ao cap l)) (hu : P.underlying t = some (.slice e)) (hs : (P.info? e).map (·.size) = some 1) (hx : E.ev fr x = .slice ao len c2) (hi : E.ev fr ix = .int ik ((i : Nat) : Int)) (h1 : i < len) (h2 : i < l.length) :
    (execOp (E.ev fr) ⟨d, .indexAddr t x ix, T, pos, af, gd⟩).run P w = .ok (.value (.pointer (some ⟨A.bk ao, i, none⟩))) w := by
  obtain ⟨o1, a1, hv⟩ := h.get hk
  have hao := A.vec_ao hv (by have := hv.1; omega)
  have hx2 : E.ev fr x = .slice (some ⟨A.bk ao, 0, none⟩) len c2 := hao ▸ hx
  have := E.idxS (e := e) (d := d) (T := T) (pos := pos) (af := af) (gd := gd) (A.bk ao) 0 len c2 1 ik ((i : Nat) : Int) hu hs hx2 hi (by omega) (by omega) w
  rw [this, Int.toNat_natCast]
  congr 5; omega
/-- A value is read out of a block that is an item. -/
theorem A.Y.bld {t : TypeId} {g j : Nat} {cs : List Value} {v : Value} {k : Nat} (h : A.Y its w) (hk : its[k]? = some (A.blk g cs)) (hx : E.ev fr x = .pointer (some ⟨g, j, none⟩)) (hv : E.ld P t cs j = some v) :
    (execOp (E.ev fr) ⟨d, .load t x, T, pos, af, gd⟩).run P w = .ok (.value v) w := by
  obtain ⟨o1, a1, hb⟩ := h.get hk
  have := E.ld_run (P := P) (w := w) (t := t) hb.1 hv
  show (do let r ← Instr.loadAt t (E.ev fr x); pure (Next.value r)).run P w = _
  rw [hx]; simp [this]
/-- A part of a slice of bytes, as a string. -/
theorem A.Y.str {a b e : TypeId} {ao : Option Addr} {cap c2 : Nat} {l : List Int} {j len : Nat} {k : Nat} (h : A.Y its w) (hk : its[k]? = some (A.vec .u8 ao cap l)) (hs : P.underlying a = some (.slice e)) (he : P.underlying e = some (.int .u8)) (hb : P.underlying b = some .string)
    (hx : E.ev fr x = .slice (some ⟨A.bk ao, j, none⟩) len c2) (hl : j + len ≤ l.length) :
    (execOp (E.ev fr) ⟨d, .convert a b x, T, pos, af, gd⟩).run P w = .ok (.value (.string (strOfNums ((l.drop j).take len)))) w := by
  obtain ⟨o1, a1, hv⟩ := h.get hk
  show (do let r ← convert a b (E.ev fr x); pure (Next.value r) : Sem Next).run P w = _
  rw [hx]
  have hlen : ((l.drop j).take len).length = len := by rw [List.length_take, List.length_drop]; omega
  have := run_convert_bytes_arg (P := P) w a e hs he (A.bk ao) j len c2 ((l.drop j).take len) hlen (fun i hi => by
    rw [A.vec_at hv (show j + i < l.length by omega)]
    simp [List.getD, hi]) b hb
  simp only [Sem.run_bind, this, Result.andThen_ok]; rfl
/-- A whole slice of bytes, as a string, which may be empty. -/
theorem A.Y.strAll {a b e : TypeId} {ao : Option Addr} {cap c2 : Nat} {l : List Int} {k : Nat} (h : A.Y its w) (hk : its[k]? = some (A.vec .u8 ao cap l)) (hs : P.underlying a = some (.slice e)) (he : P.underlying e = some (.int .u8)) (hb : P.underlying b = some .string)
    (hx : E.ev fr x = .slice ao l.length c2) (hl : 0 < l.length) :
    (execOp (E.ev fr) ⟨d, .convert a b x, T, pos, af, gd⟩).run P w = .ok (.value (.string (strOfNums l))) w := by
  obtain ⟨o1, a1, hv⟩ := h.get hk
  have hao := A.vec_ao hv (by have := hv.1; omega)
  have := A.Y.str (P := P) (d := d) (T := T) (pos := pos) (af := af) (gd := gd) (j := 0) (len := l.length) (c2 := c2) h hk hs he hb (hao ▸ hx) (by omega)
  simpa using this
end rules
theorem E.C.know {P : Program} {n : Nat} {Q : Exit → Act → World → Prop} {S : Nat → Prop} {w0 : World} {X : World → Prop} {L : List (Nat × List Value)} {fr : E.Fr} {c : Code} {p : Prop} (h : ∀ w, E.Hp S w0 X L w → p) (k : p → E.C P n Q c fr S w0 X L) : E.C P n Q c fr S w0 X L := fun a w h1 h2 => k (h w h2) a w h1 h2
theorem A.Y.ao {w : World} {its : List A.It} {kd : IntKind} {ao : Option Addr} {cap : Nat} {l : List Int} {k : Nat} (h : A.Y its w) (hk : its[k]? = some (A.vec kd ao cap l)) (hl : 0 < l.length) : ao = some ⟨A.bk ao, 0, none⟩ := by
  obtain ⟨o1, a1, hv⟩ := h.get hk
  exact A.vec_ao hv (by have := hv.1; omega)
theorem A.Y.part {w : World} {its p r : List A.It} (h : A.Y its w) (h1 : its.Perm (p ++ r)) : A.Y p w := by
  obtain ⟨o, a, hh⟩ := h
  obtain ⟨o1, a1, o2, a2, k1, _⟩ := (hh.perm h1).append
  exact ⟨o1, a1, k1⟩
theorem A.idxP {P : Program} {fr : E.Fr} {d : Option Nat} {T : TypeId} {pos : String} {af : Array Edge} {gd : Option (Nat × Bool)} {x ix : Operand} {t e : TypeId} {ik : IntKind} {ao : Option Addr} {len c2 : Nat} {i : Nat} (hao : ao = some ⟨A.bk ao, 0, none⟩) (hu : P.underlying t = some (.slice e)) (hs : (P.info? e).map (·.size) = some 1) (hx : E.ev fr x = .slice ao len c2) (hi : E.ev fr ix = .int ik ((i : Nat) : Int)) (h1 : i < len) (w : World) :
    (execOp (E.ev fr) ⟨d, .indexAddr t x ix, T, pos, af, gd⟩).run P w = .ok (.value (.pointer (some ⟨A.bk ao, i, none⟩))) w := by
  have hx2 : E.ev fr x = .slice (some ⟨A.bk ao, 0, none⟩) len c2 := hao ▸ hx
  have := E.idxS (e := e) (d := d) (T := T) (pos := pos) (af := af) (gd := gd) (A.bk ao) 0 len c2 1 ik ((i : Nat) : Int) hu hs hx2 hi (by omega) (by omega) w
  rw [this, Int.toNat_natCast]
  congr 5; omega
/-! Integers in their plain spelling. -/
theorem Nz.add64 {x y : Nat} (h : x + y < 9223372036854775808) : IntKind.wrap .i64 (((x : Nat) : Int) + ((y : Nat) : Int)) = ((x + y : Nat) : Int) := by
  rw [IntKind.wrap_i64]; omega
theorem Nz.mul64 {x y : Nat} (h : x * y < 9223372036854775808) : IntKind.wrap .i64 (((x : Nat) : Int) * ((y : Nat) : Int)) = ((x * y : Nat) : Int) := by
  rw [← Int.natCast_mul, IntKind.wrap_i64]; omega
theorem Nz.add32 (x y : Nat) : IntKind.wrap .u32 (((x : Nat) : Int) + ((y : Nat) : Int)) = (((x + y) % 4294967296 : Nat) : Int) := by
  show ((x : Int) + y) % 4294967296 = _
  omega
theorem Nz.w64 {x : Nat} (h : x < 9223372036854775808) : IntKind.wrap .i64 ((x : Nat) : Int) = ((x : Nat) : Int) := by rw [IntKind.wrap_i64]; omega
theorem Nz.w32 {x : Nat} (h : x < 4294967296) : IntKind.wrap .u32 ((x : Nat) : Int) = ((x : Nat) : Int) := by
  show (x : Int) % 4294967296 = _
  omega
theorem Nz.w8 (x : Nat) : IntKind.wrap .u8 ((x : Nat) : Int) = ((x % 256 : Nat) : Int) := by
  show (x : Int) % 256 = _
  omega
end Go.Proofs.YtglidnmmeclneaaGreat

/- A part of the items. -/
namespace Go.Proofs.YtglidnmmeclneaaGreat
theorem A.yq {w : World} {its p : List A.It} (s1 s2 : List Nat) (h : A.Y its w) (hs : (s1 ++ s2).isPerm (List.range its.length) = true := by kernel_rfl) (hp : p = A.pick its s1 := by kernel_rfl) : A.Y p w := A.Y.part h (A.pq s1 s2 hs hp)
end Go.Proofs.YtglidnmmeclneaaGreat
namespace Go.Proofs.YtglidnmmeclneaaGreat
set_option linter.unusedVariables false
set_option linter.unusedSimpArgs false
open Go.RowKit
theorem Nz.lt (x y : Nat) : decide (((x : Nat) : Int) < ((y : Nat) : Int)) = decide (x < y) := decide_eq_decide.2 (by omega)
theorem R.in_iff (V : M.V) (a : Nat) : decide (a < 256 * V.n) = decide (a / 256 < V.n) := decide_eq_decide.2 (by omega)
theorem R_In {r : Nat} {s : R.Sl} {V : M.V} (a : Nat) (ha : a < 4294967296) : A.Rd Tryz.prog 76 #[.pointer (some ⟨r, 0, none⟩), .int .u32 ((a : Nat) : Int)] (R.its r s V) (.bool (decide (a / 256 < V.n))) := by
 intro w oo aa hh
 refine E.enter (n := 13) (S := fun _ => False) Tryz.func76 rfl rfl Nz.k (A.startY hh) (E.sr (E.op (.bool false) (E.tr (E.op (E.u ((a : Nat) : Int)) (E.vl (E.i ((a : Nat) : Int)) (fun w h => E.run_as (a := E.i (IntKind.wrap .i64 ((a : Nat) : Int))) Nz.k (congrArg (Value.int .i64) (by exact Nz.w64 (x := a) Nz.mom))) (E.op (E.pt r) (E.op (E.pt r) (E.op (E.pt r) (E.vl (.slice s.a0 (256 * V.n) s.c0) (fun w h => A.Y.bld h.x (k := 0) (j := 0) rfl Nz.k Nz.k) (E.op (E.i (((256 * V.n) : Nat) : Int)) (E.vl (.bool (decide (a / 256 < V.n))) (fun w h => E.run_as (a := .bool (decide (((a : Nat) : Int) < (((256 * V.n) : Nat) : Int)))) Nz.k (congrArg Value.bool ((Nz.lt _ _).trans (R.in_iff V a)))) ?_)))))))))))
 exact E.op (.bool (decide (a / 256 < V.n))) (E.To.code (E.wk [(4, .bool (decide (a / 256 < V.n)))] [] Nz.sub (E.C.ret (E.bd Tryz.f76 [.bool (decide (a / 256 < V.n))] (fun w h => ⟨rfl, h.ch.bel (fun _ h => h.elim)⟩)))))
theorem R.ok_n {V : M.V} {a : Nat} {r : Int} (h : V.ok a r = true) : a / 256 < V.n := by
  unfold M.V.ok at h
  rw [Bool.and_eq_true] at h
  exact of_decide_eq_true h.1
theorem R.chk_ok {V : M.V} {a : Nat} {r : Int} (m : Nat) : ∀ i, (V.chkN a r i m).2 = true → ∀ j, i ≤ j → j < i + m → (a + j) % 4294967296 / 256 < V.n := by
  induction m with
  | zero => intro i _ j h1 h2; omega
  | succ m ih =>
    intro i h j h1 h2
    rw [M.chkN_s] at h
    cases hb : V.ok ((a + i) % 4294967296) r with
    | false => rw [hb] at h; cases h
    | true =>
      rw [hb] at h
      by_cases e : j = i
      · subst e; exact R.ok_n hb
      · exact ih (i + 1) h j (by omega) (by omega)
theorem R.u8_32 {x : Int} (h : 0 ≤ x ∧ x < 256) : IntKind.wrap .u32 x = x := by
  show x % 4294967296 = x
  omega
theorem R.code_bd {V : M.V} (hw : R.Wf V) (a : Nat) : 0 ≤ V.code a ∧ V.code a < 256 := by
  unfold M.V.code
  split
  · rename_i h; exact hw.i _ h _ (Nat.mod_lt _ (by decide))
  · exact ⟨Int.le_refl _, by decide⟩
theorem R.peek_bd {V : M.V} (hw : R.Wf V) (a : Nat) : 0 ≤ V.peek a ∧ V.peek a < 256 := by
  unfold M.V.peek
  split
  · rename_i h; exact hw.d _ h _ (Nat.mod_lt _ (by decide))
  · exact ⟨Int.le_refl _, by decide⟩
theorem A.Y.sl {P : Program} {w : World} {its : List A.It} {fr : E.Fr} {d : Option Nat} {T : TypeId} {pos : String} {af : Array Edge} {gd : Option (Nat × Bool)} {x y z : Operand} {t e : TypeId} {kd ik jk : IntKind} {ao : Option Addr} {cap len : Nat} {l : List Int} {lo hi : Nat} {k : Nat} (h : A.Y its w) (hk : its[k]? = some (A.vec kd ao cap l)) (hu : P.underlying t = some (.slice e)) (hs : (P.info? e).map (·.size) = some 1) (hx : E.ev fr x = .slice ao len cap) (hy : E.ev fr y = .int ik ((lo : Nat) : Int)) (hz : E.ev fr z = .int jk ((hi : Nat) : Int)) (h1 : lo < hi) (h2 : hi ≤ l.length) {ln : Nat} (hln : ln = hi - lo) :
    (execOp (E.ev fr) ⟨d, .slice t x (some y) (some z) none, T, pos, af, gd⟩).run P w =   .ok (.value (.slice (some ⟨A.bk ao, lo, none⟩) ln (cap - lo))) w := by
  subst hln
  obtain ⟨o1, a1, hv⟩ := h.get hk
  have hc := hv.1
  have hao := A.vec_ao hv (by omega)
  show (do let r ← Instr.sliceAt t (E.ev fr x) (some (E.ev fr y)) (some (E.ev fr z)) none; pure (Next.value r) : Sem Next).run P w = _
  rw [hx, hy, hz]
  cases hie : P.info? e with
  | none => rw [hie] at hs; cases hs
  | some ie =>
    rw [hie] at hs
    have hs : ie.size = 1 := by simpa using hs
    generalize hb : A.bk ao = b at *
    subst hao
    have q1 : lo ≤ hi := by omega
    have q2 : hi ≤ cap := by omega
    have q3 : ¬ cap = lo := by omega
    simp [Instr.sliceAt, Instr.slice, Instr.sliceBounds, Instr.sliceBound, asIntOf, underlying, hu, sizeOf, typeInfo, hie, hs, q1, q2, q3, E.add_off]
theorem R.or_low (x b : Int) (h0 : 0 ≤ x) (h1 : x < 4294967296) (h2 : 0 ≤ b) (h3 : b < 256) : bits .or .u32 (x * 2 ^ 8 % 4294967296) b = (x * 256 + b) % 4294967296 := by
  obtain ⟨X, rfl⟩ := Int.eq_ofNat_of_zero_le h0
  obtain ⟨B, rfl⟩ := Int.eq_ofNat_of_zero_le h2
  have e : ((X : Int) * 2 ^ 8 % 4294967296) = ((X % 16777216 * 2 ^ 8 : Nat) : Int) := by
    show ((X : Int) * 256 % 4294967296) = ((X % 16777216 * 256 : Nat) : Int)
    omega
  rw [e, u32_or_nat _ _ (by omega) (by omega)]
  have e2 : X % 16777216 * 2 ^ 8 ||| B = X % 16777216 * 2 ^ 8 + B := by
    rw [Nat.mul_comm, ← Nat.two_pow_add_eq_or_of_lt (by omega)]
  rw [e2]
  show ((X % 16777216 * 256 + B : Nat) : Int) = _
  omega
theorem R.ldv_bd {V : M.V} (hw : R.Wf V) (a n : Nat) : ∀ c, 0 ≤ V.ldv a n c ∧ V.ldv a n c < 4294967296
  | 0 => ⟨Int.le_refl _, by show (0 : Int) < 4294967296; decide⟩
  | c + 1 => by
    have ih := R.ldv_bd hw a n c
    have hb := R.peek_bd hw ((a + (n - 1 - c)) % 4294967296)
    have e : IntKind.wrap .u32 (V.peek ((a + (n - 1 - c)) % 4294967296)) = V.peek ((a + (n - 1 - c)) % 4294967296) := R.u8_32 hb
    show 0 ≤ bits .or .u32 (IntKind.wrap .u32 (V.ldv a n c * 2 ^ 8)) (IntKind.wrap .u32 (V.peek _)) ∧ bits .or .u32 (IntKind.wrap .u32 (V.ldv a n c * 2 ^ 8)) (IntKind.wrap .u32 (V.peek _)) < 4294967296
    rw [e]
    show 0 ≤ bits .or .u32 (V.ldv a n c * 2 ^ 8 % 4294967296) _ ∧ bits .or .u32 (V.ldv a n c * 2 ^ 8 % 4294967296) _ < 4294967296
    rw [R.or_low _ _ ih.1 ih.2 hb.1 hb.2]
    omega
theorem M.V.set_out {V : M.V} {a : Nat} {v : Int} (h : ¬ a / 256 < V.n) : V.set a v = V := if_neg h
theorem R.its_set {r : Nat} {s : R.Sl} {V : M.V} {a : Nat} {v : Int} (h : a / 256 < V.n) : [A.blk r (R.cells s V), A.vec .u8 s.a0 s.c0 ((R.flat V.d V.n).set a v), A.vec .u8 s.a1 s.c1 (R.flat V.i (R.len V)), A.vec .u8 s.a2 s.c2 (R.flat V.cd V.n), A.vec .u8 s.a3 s.c3 (R.flat V.ci (R.len V)), A.vec .i64 s.a4 s.c4 (R.rts V.r V.n)] = R.its r s (V.set a v) := by
  unfold R.its
  rw [← R.vs_set h, R.cells_eq (V := V.set a v) (W := V) (R.set_n _ _ _) (R.set_coh _ _ _)]
theorem R_Poke {r : Nat} {s : R.Sl} {V : M.V} (a : Nat) (ha : a < 4294967296) (b : ByteArray) (hb : b.size < 4294967296) : A.Tr Tryz.prog 45 #[.pointer (some ⟨r, 0, none⟩), .int .u32 ((a : Nat) : Int), .string b] (R.its r s V) (I := Unit) (fun _ => True) (fun _ => .tuple #[]) (fun _ => R.its r s (V.poke a b b.size)) := by
 intro w oo aa hh
 refine E.enter (n := 33) (S := oo) Tryz.func45 rfl rfl Nz.k (A.start (L := []) hh) (E.sr (E.op (E.i 0) (E.To.code (E.C.block (E.C.loop (I := Nat) (fun i => b.size - i) (fun i => i ≤ b.size) (fun i => [(0, E.pt r), (1, E.u ((a : Nat) : Int)), (2, .string b), (6, E.i ((i : Nat) : Int))]) (fun i => A.X w oo aa [A.blk r [.slice s.a0 (256 * (V.poke a b i).n) s.c0, .slice s.a1 (256 * R.len (V.poke a b i)) s.c1, .slice s.a2 (256 * (V.poke a b i).n) s.c2, .slice s.a3 (256 * R.len (V.poke a b i)) s.c3, .slice s.a4 ((V.poke a b i).n) s.c4, .bool ((V.poke a b i).coh)], A.vec .u8 s.a0 s.c0 (R.flat (V.poke a b i).d (V.poke a b i).n), A.vec .u8 s.a1 s.c1 (R.flat (V.poke a b i).i (R.len (V.poke a b i))), A.vec .u8 s.a2 s.c2 (R.flat (V.poke a b i).cd (V.poke a b i).n), A.vec .u8 s.a3 s.c3 (R.flat (V.poke a b i).ci (R.len (V.poke a b i))), A.vec .i64 s.a4 s.c4 (R.rts (V.poke a b i).r (V.poke a b i).n)]) (fun i => []) 0 (Nat.zero_le _) ⟨Nz.k, Nz.k⟩ Nz.sub (fun _ h => h) (fun i hk1 => E.C.seq (E.sr (E.op (E.i ((i : Nat) : Int)) (E.op (.string b) (E.op (E.i ((b.size : Nat) : Int)) (E.op (.bool (decide (((i : Nat) : Int) < ((b.size : Nat) : Int)))) ?_)))))))))))
 refine E.To.code (E.cd (decide (((i : Nat) : Int) < ((b.size : Nat) : Int))) (fun hc1 => ?_) (fun hc1 => ?_))
 ·
  refine E.C.skip (E.To.code (E.C.seq (E.C.block (E.sr (E.op (E.pt r) (E.op (E.u ((a : Nat) : Int)) (E.op (E.i ((i : Nat) : Int)) (E.vl (E.u ((i : Nat) : Int)) (fun w h => E.run_as (a := E.u (IntKind.wrap .u32 ((i : Nat) : Int))) Nz.k (congrArg (Value.int .u32) (by exact Nz.w32 (x := i) Nz.pom))) (E.vl (E.u (((a + i) % 4294967296 : Nat) : Int)) (fun w h => E.run_as (a := E.u (IntKind.wrap .u32 (((a : Nat) : Int) + ((i : Nat) : Int)))) Nz.k (congrArg (Value.int .u32) (by exact Nz.add32 a i))) (E.ca (.bool (decide (((a + i) % 4294967296) / 256 < (V.poke a b i).n))) (fun w h => A.cq [0, 1, 2, 3, 4, 5] [] (R_In ((a + i) % 4294967296) Nz.pom (r := r) (s := s) (V := (V.poke a b i))) h) (E.op (.bool (decide (((a + i) % 4294967296) / 256 < (V.poke a b i).n))) (E.tr ?_))))))))))))
  refine E.op (.bool (decide (((a + i) % 4294967296) / 256 < (V.poke a b i).n))) (E.To.code (E.cd (decide (((a + i) % 4294967296) / 256 < (V.poke a b i).n)) (fun hc2 => ?_) (fun hc2 => ?_)))
  ·
   refine E.C.know (p := s.a0 = some ⟨A.bk s.a0, 0, none⟩) (fun w h => A.Y.ao (A.X.y h.x) (k := 1) rfl (by simp only [R.flat_len]; exact Nz.pom)) (fun hao3 => E.C.held (A.Y [A.blk r [.slice s.a0 (256 * (V.poke a b i).n) s.c0, .slice s.a1 (256 * R.len (V.poke a b i)) s.c1, .slice s.a2 (256 * (V.poke a b i).n) s.c2, .slice s.a3 (256 * R.len (V.poke a b i)) s.c3, .slice s.a4 ((V.poke a b i).n) s.c4, .bool ((V.poke a b i).coh)], A.vec .u8 s.a1 s.c1 (R.flat (V.poke a b i).i (R.len (V.poke a b i))), A.vec .u8 s.a2 s.c2 (R.flat (V.poke a b i).cd (V.poke a b i).n), A.vec .u8 s.a3 s.c3 (R.flat (V.poke a b i).ci (R.len (V.poke a b i))), A.vec .i64 s.a4 s.c4 (R.rts (V.poke a b i).r (V.poke a b i).n)]) Nz.k (E.tk 0 (E.pt r) rfl (fun w h => A.yq [0, 2, 3, 4, 5] [1] (A.X.y h.x)) (E.tk 1 (E.pt r) rfl (fun w h => A.yq [0, 2, 3, 4, 5] [1] (A.X.y h.x)) (E.tk 2 (E.pt r) rfl (fun w h => A.yq [0, 2, 3, 4, 5] [1] (A.X.y h.x)) (E.tj 3 (.slice s.a0 (256 * (V.poke a b i).n) s.c0) rfl (fun w h => A.yq [0, 2, 3, 4, 5] [1] (A.X.y h.x)) (fun w h => A.Y.bld h (k := 0) (j := 0) rfl Nz.k Nz.k) (E.tk 4 (E.u ((a : Nat) : Int)) rfl (fun w h => A.yq [0, 2, 3, 4, 5] [1] (A.X.y h.x)) (E.tk 5 (E.i ((i : Nat) : Int)) rfl (fun w h => A.yq [0, 2, 3, 4, 5] [1] (A.X.y h.x)) (E.tj 6 (E.u ((i : Nat) : Int)) rfl (fun w h => A.yq [0, 2, 3, 4, 5] [1] (A.X.y h.x)) (fun w h => E.run_as (a := E.u (IntKind.wrap .u32 ((i : Nat) : Int))) Nz.k (congrArg (Value.int .u32) (by exact Nz.w32 (x := i) Nz.pom))) (E.tj 7 (E.u (((a + i) % 4294967296 : Nat) : Int)) rfl (fun w h => A.yq [0, 2, 3, 4, 5] [1] (A.X.y h.x)) (fun w h => E.run_as (a := E.u (IntKind.wrap .u32 (((a : Nat) : Int) + ((i : Nat) : Int)))) Nz.k (congrArg (Value.int .u32) (by exact Nz.add32 a i))) (E.tk 8 (.string b) rfl (fun w h => A.yq [0, 2, 3, 4, 5] [1] (A.X.y h.x)) (E.tk 9 (E.i ((i : Nat) : Int)) rfl (fun w h => A.yq [0, 2, 3, 4, 5] [1] (A.X.y h.x)) ?_)))))))))))
   refine E.tj 10 (.int .u8 (W.byt b.data.toList i)) rfl (fun w h => A.yq [0, 2, 3, 4, 5] [1] (A.X.y h.x)) (fun w h => E.run_as (a := .int .u8 (W.byt b.data.toList (((i : Nat) : Int)).toNat)) (E.sidx b .i64 ((i : Nat) : Int) Nz.k Nz.k Nz.k Nz.pom Nz.pom w) (rfl)) (E.tj 11 (.pointer (some ⟨(A.bk s.a0), ((a + i) % 4294967296), none⟩)) rfl (fun w h => A.yq [0, 2, 3, 4, 5] [1] (A.X.y h.x)) (fun w h => A.idxP (e := 5) (ik := .u32) (i := ((a + i) % 4294967296)) (len := (256 * (V.poke a b i).n)) (c2 := s.c0) hao3 Nz.k Nz.k Nz.k Nz.k Nz.pom w) (E.al 12 rfl (A.G.vst (kd := .u8) (ao := s.a0) (cap := s.c0) (i := ((a + i) % 4294967296)) (xs := (R.flat (V.poke a b i).d (V.poke a b i).n)) (v := (W.byt b.data.toList i)) 1 rfl Nz.k Nz.k Nz.k (by simp only [R.flat_len]; exact Nz.pom) Nz.k Nz.k (E.H.back (fun w h => A.yq [0, 2, 3, 4, 5] [1] (A.X.y h.x)) (E.H.done Nz.k (E.P.nb (E.To.code (A.C.eq ([A.blk r [.slice s.a0 (256 * (V.poke a b (i + 1)).n) s.c0, .slice s.a1 (256 * R.len (V.poke a b (i + 1))) s.c1, .slice s.a2 (256 * (V.poke a b (i + 1)).n) s.c2, .slice s.a3 (256 * R.len (V.poke a b (i + 1))) s.c3, .slice s.a4 ((V.poke a b (i + 1)).n) s.c4, .bool ((V.poke a b (i + 1)).coh)], A.vec .u8 s.a0 s.c0 (R.flat (V.poke a b (i + 1)).d (V.poke a b (i + 1)).n), A.vec .u8 s.a1 s.c1 (R.flat (V.poke a b (i + 1)).i (R.len (V.poke a b (i + 1)))), A.vec .u8 s.a2 s.c2 (R.flat (V.poke a b (i + 1)).cd (V.poke a b (i + 1)).n), A.vec .u8 s.a3 s.c3 (R.flat (V.poke a b (i + 1)).ci (R.len (V.poke a b (i + 1)))), A.vec .i64 s.a4 s.c4 (R.rts (V.poke a b (i + 1)).r (V.poke a b (i + 1)).n)]) (R.its_set Nz.pom) (E.C.region (E.op (E.i ((i : Nat) : Int)) (E.vl (E.i ((i + 1 : Nat) : Int)) (fun w h => E.run_as (a := E.i (IntKind.wrap .i64 (((i : Nat) : Int) + 1))) Nz.k (congrArg (Value.int .i64) (by exact Nz.add64 (x := i) (y := 1) Nz.pom))) (E.op (E.i ((i + 1 : Nat) : Int)) ?_))))))))))))
   exact E.To.round (i + 1) Nz.pom Nz.pom ⟨Nz.k, Nz.k⟩ Nz.sub (fun _ h => h)
  exact E.C.skip (E.P.nb (E.To.code (A.C.eq ([A.blk r [.slice s.a0 (256 * (V.poke a b (i + 1)).n) s.c0, .slice s.a1 (256 * R.len (V.poke a b (i + 1))) s.c1, .slice s.a2 (256 * (V.poke a b (i + 1)).n) s.c2, .slice s.a3 (256 * R.len (V.poke a b (i + 1))) s.c3, .slice s.a4 ((V.poke a b (i + 1)).n) s.c4, .bool ((V.poke a b (i + 1)).coh)], A.vec .u8 s.a0 s.c0 (R.flat (V.poke a b (i + 1)).d (V.poke a b (i + 1)).n), A.vec .u8 s.a1 s.c1 (R.flat (V.poke a b (i + 1)).i (R.len (V.poke a b (i + 1)))), A.vec .u8 s.a2 s.c2 (R.flat (V.poke a b (i + 1)).cd (V.poke a b (i + 1)).n), A.vec .u8 s.a3 s.c3 (R.flat (V.poke a b (i + 1)).ci (R.len (V.poke a b (i + 1)))), A.vec .i64 s.a4 s.c4 (R.rts (V.poke a b (i + 1)).r (V.poke a b (i + 1)).n)]) (congrArg (R.its r s) (M.V.set_out Nz.pom).symm) (E.C.region (E.op (E.i ((i : Nat) : Int)) (E.vl (E.i ((i + 1 : Nat) : Int)) (fun w h => E.run_as (a := E.i (IntKind.wrap .i64 (((i : Nat) : Int) + 1))) Nz.k (congrArg (Value.int .i64) (by exact Nz.add64 (x := i) (y := 1) Nz.pom))) (E.op (E.i ((i + 1 : Nat) : Int)) (E.To.round (i + 1) Nz.pom Nz.pom ⟨Nz.k, Nz.k⟩ Nz.sub (fun _ h => h)))))))))
 refine E.C.exit (E.P.et (E.P.et (E.P.eh (E.To.bodyN (fn := Tryz.f45) [] ?_ ?_))))
 · exact trivial
 intro w h
 obtain rfl : i = b.size := by exact Nz.pom
 exact ⟨(), trivial, rfl, A.dq [0, 1, 2, 3, 4, 5] [] h⟩
def R.sh (v : Int) : Nat → Int
  | 0 => v
  | c + 1 => R.sh v c / 256
theorem R.its_prot {r : Nat} {s : R.Sl} {V : M.V} {m : Nat} {x : Int} (h : m < V.n) : [A.blk r (R.cells s V), A.vec .u8 s.a0 s.c0 (R.flat V.d V.n), A.vec .u8 s.a1 s.c1 (R.flat V.i (R.len V)), A.vec .u8 s.a2 s.c2 (R.flat V.cd V.n), A.vec .u8 s.a3 s.c3 (R.flat V.ci (R.len V)), A.vec .i64 s.a4 s.c4 ((R.rts V.r V.n).set m (bits .and .i64 x 7))] = R.its r s (V.prot ((m : Nat) : Int) x) := by
  have e : V.prot ((m : Nat) : Int) x = { V with r := fun j => if j = m then bits .and .i64 x 7 else V.r j } := if_pos ⟨by omega, by omega⟩
  rw [e, R.rts_set _ h]; rfl
theorem R.prot_no {V : M.V} {n x : Int} (h : ((decide (n ≥ 0)) && (decide (n < ((V.n : Nat) : Int)))) = false) : V.prot n x = V := if_neg (fun k => by
  rw [decide_eq_true (show n ≥ 0 from k.1), decide_eq_true k.2] at h; cases h)
theorem R.prot_yes {V : M.V} {n : Int} (h : ((decide (n ≥ 0)) && (decide (n < ((V.n : Nat) : Int)))) = true) : ∃ m : Nat, n = ((m : Nat) : Int) ∧ m < V.n := by
  simp only [Bool.and_eq_true, decide_eq_true_eq] at h
  obtain ⟨m, rfl⟩ := Int.eq_ofNat_of_zero_le (show 0 ≤ n from h.1)
  exact ⟨m, rfl, by omega⟩
theorem R_Protect {r : Nat} {s : R.Sl} {V : M.V} (n x : Int) : A.Tr Tryz.prog 46 #[.pointer (some ⟨r, 0, none⟩), .int .i64 n, .int .i64 x] (R.its r s V) (I := Unit) (fun _ => True) (fun _ => .tuple #[]) (fun _ => R.its r s (V.prot n x)) := by
 intro w oo aa hh
 refine E.enter (n := 25) (S := oo) Tryz.func46 rfl rfl Nz.k (A.start (L := []) hh) (E.sr (E.op (E.i n) (E.op (.bool (decide (n ≥ 0))) (E.op (.bool (decide (n ≥ 0))) (E.G.cut 8 [(0, E.pt r), (1, E.i n), (2, E.i x), (16, .bool ((decide (n ≥ 0)) && (decide (n < ((V.n : Nat) : Int)))))] (A.X w oo aa [A.blk r [.slice s.a0 (256 * V.n) s.c0, .slice s.a1 (256 * R.len V) s.c1, .slice s.a2 (256 * V.n) s.c2, .slice s.a3 (256 * R.len V) s.c3, .slice s.a4 V.n s.c4, .bool V.coh], A.vec .u8 s.a0 s.c0 (R.flat V.d V.n), A.vec .u8 s.a1 s.c1 (R.flat V.i (R.len V)), A.vec .u8 s.a2 s.c2 (R.flat V.cd V.n), A.vec .u8 s.a3 s.c3 (R.flat V.ci (R.len V)), A.vec .i64 s.a4 s.c4 (R.rts V.r V.n)]) [] ?_ ?_)))))
 ·
  generalize hc1 : (decide (n ≥ 0)) = b2
  cases b2
  ·
   exact E.sk (E.sk (E.sk (E.sk (E.sk (E.sk (E.sk (E.op (.bool false) E.ep)))))))
  exact E.op (E.i n) (E.op (E.pt r) (E.op (E.pt r) (E.op (E.pj r 4) (E.vl (.slice s.a4 V.n s.c4) (fun w h => A.Y.bld (A.X.y h.x) (k := 0) (j := 4) rfl Nz.k Nz.k) (E.op (E.i ((V.n : Nat) : Int)) (E.op (.bool (decide (n < ((V.n : Nat) : Int)))) (E.op (.bool (decide (n < ((V.n : Nat) : Int)))) E.ep)))))))
 refine E.To.code (E.cd ((decide (n ≥ 0)) && (decide (n < ((V.n : Nat) : Int)))) (fun hc3 => ?_) (fun hc3 => ?_))
 ·
  obtain ⟨m, rfl, hm⟩ := R.prot_yes hc3
  refine E.C.region (E.op (E.pt r) (E.op (E.pt r) (E.op (E.pj r 4) (E.vl (.slice s.a4 V.n s.c4) (fun w h => A.Y.bld (A.X.y h.x) (k := 0) (j := 4) rfl Nz.k Nz.k) (E.op (E.i ((m : Nat) : Int)) (E.op (E.i x) (E.op (E.i (bits .and .i64 x 7)) (E.vl (.pointer (some ⟨(A.bk s.a4), m, none⟩)) (fun w h => A.Y.idx (e := 3) (ik := .i64) (i := m) (len := V.n) (c2 := s.c4) (A.X.y h.x) (k := 5) rfl Nz.k Nz.k Nz.k Nz.k Nz.pom (by simp only [R.rts_len]; exact Nz.pom)) (A.G.vst (kd := .i64) (ao := s.a4) (cap := s.c4) (i := m) (xs := (R.rts V.r V.n)) (v := (bits .and .i64 x 7)) 5 rfl Nz.k Nz.k Nz.k (by simp only [R.rts_len]; exact Nz.pom) Nz.k Nz.k (E.To.bodyN (fn := Tryz.f46) [] ?_ ?_))))))))))
  · exact trivial
  intro w h
  rw [← R.its_prot hm]
  exact ⟨(), trivial, rfl, A.dq [0, 1, 2, 3, 4, 5] [] h⟩
 refine E.C.skip (E.To.bodyN (fn := Tryz.f46) [] ?_ ?_)
 · exact trivial
 intro w h
 rw [R.prot_no hc3]
 exact ⟨(), trivial, rfl, A.dq [0, 1, 2, 3, 4, 5] [] h⟩
section
variable {P : Program} {n : Nat} {ops : Array Oper} {Q : Exit → Act → World → Prop} {S : Nat → Prop} {w0 : World} {X : World → Prop} {o0 a0 : Nat → Prop} {its : List A.It} {L : List (Nat × List Value)} {l : List Oper} {fr : E.Fr} {d : Option Nat} {T : TypeId} {pos : String} {af : Array Edge} {gd : Option (Nat × Bool)}
/-- A slice without elements. -/
theorem A.G.empty {t e : TypeId} {sz : Nat} (ht : P.underlying t = some (.slice e)) (hi : (P.info? e).map (·.size) = some sz) (hck : E.ck n ops fr ⟨d, .buildSlice t 0 #[], T, pos, af, gd⟩ = true)
    (k : ∀ g, E.G P n ops Q l (E.upd fr d (.slice (some ⟨g, 0, none⟩) 0 0)) S w0 X L) : E.G P n ops Q (⟨d, .buildSlice t 0 #[], T, pos, af, gd⟩ :: l) fr S w0 X L := by
  refine E.G.any (I := Nat) (fun _ => True) (fun g => .slice (some ⟨g, 0, none⟩) 0 0) (fun _ => X) (fun _ => L) (fun w h => ?_) hck (fun g _ => k g)
  refine ⟨w.heap.size, w.alloc (.cells #[] e), trivial, ?_, h.bel (Bel.alloc (Bel.refl w) _)⟩
  cases hie : P.info? e with
  | none => rw [hie] at hi; cases hi
  | some ie =>
    show (do let r ← Instr.buildSlice t 0 ((#[] : Array (Nat × Operand)).map fun (i, x) => (i, E.ev fr x)); pure (Next.value r) : Sem Next).run P w = _
    have e0 : Array.map (fun x : Nat => (default : Value)) (Array.range 0) = #[] := by simp [Array.range_zero']
    simp [Instr.buildSlice, run_underlying ht, sizeOf, typeInfo, hie, Instr.fill, newRow, e0]
end
theorem R.np_eq (n : Int) : (if (if 4096 < n then 4096 else n) > 0 then (if 4096 < n then 4096 else n) else 0) = ((M.np n : Nat) : Int) := by unfold M.np; split <;> split <;> (try split) <;> omega
theorem R.new_t {g N : Nat} {a0 a2 a4 : Option Addr} {w : World} {o a : Nat → Prop} (h : A.Has [A.blk g [.slice a0 (256 * N) (256 * N), .slice none 0 0, .slice a2 (256 * N) (256 * N), .slice none 0 0, .slice a4 N N, .bool true], A.vec .u8 a0 (256 * N) (List.replicate (256 * N) 0), A.vec .u8 a2 (256 * N) (List.replicate (256 * N) 0), A.vec .i64 a4 N (List.replicate N 0)] w o a) : A.Has (R.its g ⟨a0, none, a2, none, a4, 256 * N, 0, 256 * N, 0, N⟩ (M.V.new N true)) w o a := by
  have h1 := A.vec0 .u8 none (A.vec0 .u8 none h)
  unfold R.its R.vs
  show A.Has [A.blk g _, A.vec .u8 a0 (256 * N) (R.flat (fun _ _ => 0) N), A.vec .u8 none 0 (R.flat (fun _ _ => 0) 0), A.vec .u8 a2 (256 * N) (R.flat (fun _ _ => 0) N), A.vec .u8 none 0 (R.flat (fun _ _ => 0) 0), A.vec .i64 a4 N (R.rts (fun _ => 0) N)] w o a
  rw [R.flat_zero, R.rts_zero]
  exact h1.perm (A.pn [2, 3, 0, 4, 1, 5])
theorem R.new_f {g N : Nat} {a0 a1 a2 a3 a4 : Option Addr} {w : World} {o a : Nat → Prop} (h : A.Has [A.blk g [.slice a0 (256 * N) (256 * N), .slice a1 (256 * N) (256 * N), .slice a2 (256 * N) (256 * N), .slice a3 (256 * N) (256 * N), .slice a4 N N, .bool false], A.vec .u8 a0 (256 * N) (List.replicate (256 * N) 0), A.vec .u8 a1 (256 * N) (List.replicate (256 * N) 0), A.vec .u8 a2 (256 * N) (List.replicate (256 * N) 0), A.vec .u8 a3 (256 * N) (List.replicate (256 * N) 0), A.vec .i64 a4 N (List.replicate N 0)] w o a) : A.Has (R.its g ⟨a0, a1, a2, a3, a4, 256 * N, 256 * N, 256 * N, 256 * N, N⟩ (M.V.new N false)) w o a := by
  unfold R.its R.vs
  show A.Has [A.blk g _, A.vec .u8 a0 (256 * N) (R.flat (fun _ _ => 0) N), A.vec .u8 a1 (256 * N) (R.flat (fun _ _ => 0) N), A.vec .u8 a2 (256 * N) (R.flat (fun _ _ => 0) N), A.vec .u8 a3 (256 * N) (R.flat (fun _ _ => 0) N), A.vec .i64 a4 N (R.rts (fun _ => 0) N)] w o a
  rw [R.flat_zero, R.rts_zero]
  exact h
abbrev Zmsta (n : Int) := (IntKind.wrap .i64 (256 * ((M.np n : Nat) : Int)))
abbrev Zmstb (n : Int) := (E.i ((256 * (M.np n) : Nat) : Int))
abbrev Zmstc (n : Int) := (E.i ((M.np n : Nat) : Int))
set_option maxHeartbeats 1000000 in
theorem R_New (n : Int) (coh : Bool) : A.Tr Tryz.prog 75 #[.int .i64 n, .bool coh] [] (I := Nat) (fun _ => True) (fun g => .pointer (some ⟨g, 0, none⟩)) (fun g => [R.It g (M.V.new (M.np n) coh)]) := by
 intro w oo aa hh
 refine E.enter (n := 36) (S := oo) Tryz.func75 rfl rfl Nz.k (A.start (L := []) hh) (E.sr (E.op (.pointer none) (E.tr (E.op (E.i n) (E.op (E.i (if 4096 < n then 4096 else n)) (E.vl (Zmstc n) (fun w h => E.run_as (a := E.i (if (if 4096 < n then 4096 else n) > 0 then (if 4096 < n then 4096 else n) else 0)) Nz.k (congrArg (Value.int .i64) (R.np_eq n))) (E.op (Zmstc n) (E.To.code (E.C.seq (E.C.held (fun _ => True) Nz.k (E.tk 0 (Zmstc n) rfl (fun w h => trivial) ?_)))))))))))
 refine E.tj 1 (Zmstb n) rfl (fun w h => trivial) (fun w h => E.run_as (a := E.i (Zmsta n)) Nz.k (congrArg (Value.int .i64) (by exact Nz.mul64 (x := 256) (y := (M.np n)) (by have := M.np_le n; omega)))) (E.tk 3 (Zmstc n) rfl (fun w h => trivial) (E.tj 4 (Zmstb n) rfl (fun w h => trivial) (fun w h => E.run_as (a := E.i (Zmsta n)) Nz.k (congrArg (Value.int .i64) (by exact Nz.mul64 (x := 256) (y := (M.np n)) (by have := M.np_le n; omega)))) (E.tk 6 (Zmstc n) rfl (fun w h => trivial) (E.tk 8 (.bool coh) rfl (fun w h => trivial) (E.al3 2 5 7 rfl rfl rfl ?_ ?_ ?_)))))
 ·
  refine A.G.make (e := 5) (kd := .u8) (lk := .i64) (256 * (M.np n)) 1 Nz.k Nz.k Nz.k (by have := M.np_le n; omega) (by have := M.np_le n; omega) Nz.k (fun ao1 => E.H.back (fun w h => trivial) (E.al2 5 7 rfl rfl ?_ ?_))
  ·
   refine A.G.make (e := 5) (kd := .u8) (lk := .i64) (256 * (M.np n)) 1 Nz.k Nz.k Nz.k (by have := M.np_le n; omega) (by have := M.np_le n; omega) Nz.k (fun ao2 => E.H.back (fun w h => trivial) (E.al 7 rfl (A.G.make (e := 3) (kd := .i64) (lk := .i64) (M.np n) 8 Nz.k Nz.k Nz.k (by have := M.np_le n; omega) (by have := M.np_le n; omega) Nz.k (fun ao3 => E.H.back (fun w h => trivial) (E.tj 9 (.agg #[.slice ao1 (256 * (M.np n)) (256 * (M.np n)), .slice none 0 0, .slice ao2 (256 * (M.np n)) (256 * (M.np n)), .slice none 0 0, .slice ao3 (M.np n) (M.np n), .bool coh]) rfl (fun w h => trivial) (fun w h => E.run_build #[.slice ao1 (256 * (M.np n)) (256 * (M.np n)), .slice none 0 0, .slice ao2 (256 * (M.np n)) (256 * (M.np n)), .slice none 0 0, .slice ao3 (M.np n) (M.np n), .bool coh] Nz.k w) (E.al 10 rfl (E.nw [.slice ao1 (256 * (M.np n)) (256 * (M.np n)), .slice none 0 0, .slice ao2 (256 * (M.np n)) (256 * (M.np n)), .slice none 0 0, .slice ao3 (M.np n) (M.np n), .bool coh] 41 (fun g4 => E.H.back (fun w h => trivial) (E.tk 11 (E.pt g4) rfl (fun w h => trivial) (E.H.done Nz.k (E.To.code ?_)))))))))))
   refine E.wk [(1, .bool coh), (4, .pointer none), (5, E.i ((M.np n : Nat) : Int)), (6, E.pt g4)] [(g4, [.slice ao1 (256 * (M.np n)) (256 * (M.np n)), .slice none 0 0, .slice ao2 (256 * (M.np n)) (256 * (M.np n)), .slice none 0 0, .slice ao3 (M.np n) (M.np n), .bool coh])] Nz.sub (E.C.seq (E.sr (E.op (.bool coh) (E.op (.bool (!coh)) (E.To.code (E.cd (!coh) (fun hc5 => ?_) (fun hc5 => ?_)))))))
   ·
    refine E.sr (E.op (E.pt g4) (E.op (Zmstc n) (E.vl (Zmstb n) (fun w h => E.run_as (a := E.i (Zmsta n)) Nz.k (congrArg (Value.int .i64) (by exact Nz.mul64 (x := 256) (y := (M.np n)) (by have := M.np_le n; omega)))) (A.G.make (e := 5) (kd := .u8) (lk := .i64) (256 * (M.np n)) 1 Nz.k Nz.k Nz.k (by have := M.np_le n; omega) (by have := M.np_le n; omega) Nz.k (fun ao6 => E.op (E.pt g4) (E.op (E.pj g4 1) (E.st 0 [.slice ao1 (256 * (M.np n)) (256 * (M.np n)), .slice ao6 (256 * (M.np n)) (256 * (M.np n)), .slice ao2 (256 * (M.np n)) (256 * (M.np n)), .slice none 0 0, .slice ao3 (M.np n) (M.np n), .bool coh] rfl rfl (E.To.code (E.wk [(4, .pointer none), (5, E.i ((M.np n : Nat) : Int)), (6, E.pt g4)] [(g4, [.slice ao1 (256 * (M.np n)) (256 * (M.np n)), .slice ao6 (256 * (M.np n)) (256 * (M.np n)), .slice ao2 (256 * (M.np n)) (256 * (M.np n)), .slice none 0 0, .slice ao3 (M.np n) (M.np n), .bool coh])] Nz.sub (E.C.region (E.op (E.pt g4) ?_)))))))))))
    refine E.op (Zmstc n) (E.vl (Zmstb n) (fun w h => E.run_as (a := E.i (Zmsta n)) Nz.k (congrArg (Value.int .i64) (by exact Nz.mul64 (x := 256) (y := (M.np n)) (by have := M.np_le n; omega)))) (A.G.make (e := 5) (kd := .u8) (lk := .i64) (256 * (M.np n)) 1 Nz.k Nz.k Nz.k (by have := M.np_le n; omega) (by have := M.np_le n; omega) Nz.k (fun ao7 => E.op (E.pt g4) (E.op (E.pj g4 3) (E.st 0 [.slice ao1 (256 * (M.np n)) (256 * (M.np n)), .slice ao6 (256 * (M.np n)) (256 * (M.np n)), .slice ao2 (256 * (M.np n)) (256 * (M.np n)), .slice ao7 (256 * (M.np n)) (256 * (M.np n)), .slice ao3 (M.np n) (M.np n), .bool coh] rfl rfl (E.tr (E.op (E.pt g4) (E.op (E.pt g4) (E.To.code (E.wk [(4, E.pt g4)] [(g4, [.slice ao1 (256 * (M.np n)) (256 * (M.np n)), .slice ao6 (256 * (M.np n)) (256 * (M.np n)), .slice ao2 (256 * (M.np n)) (256 * (M.np n)), .slice ao7 (256 * (M.np n)) (256 * (M.np n)), .slice ao3 (M.np n) (M.np n), .bool coh])] Nz.sub (E.C.ret (E.bd Tryz.f75 [E.pt g4] ?_))))))))))))
    intro w h
    obtain rfl : coh = false := by simpa using hc5
    obtain ⟨o1, a1, hq, hc, hg⟩ := A.done (q := [A.blk g4 ([.slice ao1 (256 * (M.np n)) (256 * (M.np n)), .slice ao6 (256 * (M.np n)) (256 * (M.np n)), .slice ao2 (256 * (M.np n)) (256 * (M.np n)), .slice ao7 (256 * (M.np n)) (256 * (M.np n)), .slice ao3 (M.np n) (M.np n), .bool false]), A.vec .u8 ao1 (256 * (M.np n)) (List.replicate (256 * (M.np n)) 0), A.vec .u8 ao6 (256 * (M.np n)) (List.replicate (256 * (M.np n)) 0), A.vec .u8 ao2 (256 * (M.np n)) (List.replicate (256 * (M.np n)) 0), A.vec .u8 ao7 (256 * (M.np n)) (List.replicate (256 * (M.np n)) 0), A.vec .i64 ao3 (M.np n) (List.replicate (M.np n) 0)]) (r := []) h Nz.k (A.pn [0, 5, 2, 4, 1, 3])
    exact ⟨g4, trivial, rfl, o1, a1, A.Has.one ⟨R.Wf.new (M.np_le n) _, _, R.new_f hq⟩, hc, hg⟩
   refine E.C.skip (E.To.code (E.sr (E.op (E.pt g4) (E.op (E.pt g4) (E.To.code (E.C.ret (E.bd Tryz.f75 [E.pt g4] ?_)))))))
   intro w h
   obtain rfl : coh = true := by simpa using hc5
   obtain ⟨o1, a1, hq, hc, hg⟩ := A.done (q := [A.blk g4 ([.slice ao1 (256 * (M.np n)) (256 * (M.np n)), .slice none 0 0, .slice ao2 (256 * (M.np n)) (256 * (M.np n)), .slice none 0 0, .slice ao3 (M.np n) (M.np n), .bool true]), A.vec .u8 ao1 (256 * (M.np n)) (List.replicate (256 * (M.np n)) 0), A.vec .u8 ao2 (256 * (M.np n)) (List.replicate (256 * (M.np n)) 0), A.vec .i64 ao3 (M.np n) (List.replicate (M.np n) 0)]) (r := []) h Nz.k (A.pn [0, 3, 2, 1])
   exact ⟨g4, trivial, rfl, o1, a1, A.Has.one ⟨R.Wf.new (M.np_le n) _, _, R.new_t hq⟩, hc, hg⟩
  refine A.G.make (e := 3) (kd := .i64) (lk := .i64) (M.np n) 8 Nz.k Nz.k Nz.k (by have := M.np_le n; omega) (by have := M.np_le n; omega) Nz.k (fun ao8 => E.H.back (fun w h => trivial) (E.al 5 rfl (A.G.make (e := 5) (kd := .u8) (lk := .i64) (256 * (M.np n)) 1 Nz.k Nz.k Nz.k (by have := M.np_le n; omega) (by have := M.np_le n; omega) Nz.k (fun ao9 => E.H.back (fun w h => trivial) (E.tj 9 (.agg #[.slice ao1 (256 * (M.np n)) (256 * (M.np n)), .slice none 0 0, .slice ao9 (256 * (M.np n)) (256 * (M.np n)), .slice none 0 0, .slice ao8 (M.np n) (M.np n), .bool coh]) rfl (fun w h => trivial) (fun w h => E.run_build #[.slice ao1 (256 * (M.np n)) (256 * (M.np n)), .slice none 0 0, .slice ao9 (256 * (M.np n)) (256 * (M.np n)), .slice none 0 0, .slice ao8 (M.np n) (M.np n), .bool coh] Nz.k w) (E.al 10 rfl (E.nw [.slice ao1 (256 * (M.np n)) (256 * (M.np n)), .slice none 0 0, .slice ao9 (256 * (M.np n)) (256 * (M.np n)), .slice none 0 0, .slice ao8 (M.np n) (M.np n), .bool coh] 41 (fun g10 => E.H.back (fun w h => trivial) (E.tk 11 (E.pt g10) rfl (fun w h => trivial) (E.H.done Nz.k (E.To.code ?_)))))))))))
  refine E.wk [(1, .bool coh), (4, .pointer none), (5, E.i ((M.np n : Nat) : Int)), (6, E.pt g10)] [(g10, [.slice ao1 (256 * (M.np n)) (256 * (M.np n)), .slice none 0 0, .slice ao9 (256 * (M.np n)) (256 * (M.np n)), .slice none 0 0, .slice ao8 (M.np n) (M.np n), .bool coh])] Nz.sub (E.C.seq (E.sr (E.op (.bool coh) (E.op (.bool (!coh)) (E.To.code (E.cd (!coh) (fun hc11 => ?_) (fun hc11 => ?_)))))))
  ·
   refine E.sr (E.op (E.pt g10) (E.op (Zmstc n) (E.vl (Zmstb n) (fun w h => E.run_as (a := E.i (Zmsta n)) Nz.k (congrArg (Value.int .i64) (by exact Nz.mul64 (x := 256) (y := (M.np n)) (by have := M.np_le n; omega)))) (A.G.make (e := 5) (kd := .u8) (lk := .i64) (256 * (M.np n)) 1 Nz.k Nz.k Nz.k (by have := M.np_le n; omega) (by have := M.np_le n; omega) Nz.k (fun ao12 => E.op (E.pt g10) (E.op (E.pj g10 1) (E.st 0 [.slice ao1 (256 * (M.np n)) (256 * (M.np n)), .slice ao12 (256 * (M.np n)) (256 * (M.np n)), .slice ao9 (256 * (M.np n)) (256 * (M.np n)), .slice none 0 0, .slice ao8 (M.np n) (M.np n), .bool coh] rfl rfl (E.To.code (E.wk [(4, .pointer none), (5, E.i ((M.np n : Nat) : Int)), (6, E.pt g10)] [(g10, [.slice ao1 (256 * (M.np n)) (256 * (M.np n)), .slice ao12 (256 * (M.np n)) (256 * (M.np n)), .slice ao9 (256 * (M.np n)) (256 * (M.np n)), .slice none 0 0, .slice ao8 (M.np n) (M.np n), .bool coh])] Nz.sub (E.C.region (E.op (E.pt g10) ?_)))))))))))
   refine E.op (Zmstc n) (E.vl (Zmstb n) (fun w h => E.run_as (a := E.i (Zmsta n)) Nz.k (congrArg (Value.int .i64) (by exact Nz.mul64 (x := 256) (y := (M.np n)) (by have := M.np_le n; omega)))) (A.G.make (e := 5) (kd := .u8) (lk := .i64) (256 * (M.np n)) 1 Nz.k Nz.k Nz.k (by have := M.np_le n; omega) (by have := M.np_le n; omega) Nz.k (fun ao13 => E.op (E.pt g10) (E.op (E.pj g10 3) (E.st 0 [.slice ao1 (256 * (M.np n)) (256 * (M.np n)), .slice ao12 (256 * (M.np n)) (256 * (M.np n)), .slice ao9 (256 * (M.np n)) (256 * (M.np n)), .slice ao13 (256 * (M.np n)) (256 * (M.np n)), .slice ao8 (M.np n) (M.np n), .bool coh] rfl rfl (E.tr (E.op (E.pt g10) (E.op (E.pt g10) (E.To.code (E.wk [(4, E.pt g10)] [(g10, [.slice ao1 (256 * (M.np n)) (256 * (M.np n)), .slice ao12 (256 * (M.np n)) (256 * (M.np n)), .slice ao9 (256 * (M.np n)) (256 * (M.np n)), .slice ao13 (256 * (M.np n)) (256 * (M.np n)), .slice ao8 (M.np n) (M.np n), .bool coh])] Nz.sub (E.C.ret (E.bd Tryz.f75 [E.pt g10] ?_))))))))))))
   intro w h
   obtain rfl : coh = false := by simpa using hc11
   obtain ⟨o1, a1, hq, hc, hg⟩ := A.done (q := [A.blk g10 ([.slice ao1 (256 * (M.np n)) (256 * (M.np n)), .slice ao12 (256 * (M.np n)) (256 * (M.np n)), .slice ao9 (256 * (M.np n)) (256 * (M.np n)), .slice ao13 (256 * (M.np n)) (256 * (M.np n)), .slice ao8 (M.np n) (M.np n), .bool false]), A.vec .u8 ao1 (256 * (M.np n)) (List.replicate (256 * (M.np n)) 0), A.vec .u8 ao12 (256 * (M.np n)) (List.replicate (256 * (M.np n)) 0), A.vec .u8 ao9 (256 * (M.np n)) (List.replicate (256 * (M.np n)) 0), A.vec .u8 ao13 (256 * (M.np n)) (List.replicate (256 * (M.np n)) 0), A.vec .i64 ao8 (M.np n) (List.replicate (M.np n) 0)]) (r := []) h Nz.k (A.pn [0, 5, 2, 3, 1, 4])
   exact ⟨g10, trivial, rfl, o1, a1, A.Has.one ⟨R.Wf.new (M.np_le n) _, _, R.new_f hq⟩, hc, hg⟩
  refine E.C.skip (E.To.code (E.sr (E.op (E.pt g10) (E.op (E.pt g10) (E.To.code (E.C.ret (E.bd Tryz.f75 [E.pt g10] ?_)))))))
  intro w h
  obtain rfl : coh = true := by simpa using hc11
  obtain ⟨o1, a1, hq, hc, hg⟩ := A.done (q := [A.blk g10 ([.slice ao1 (256 * (M.np n)) (256 * (M.np n)), .slice none 0 0, .slice ao9 (256 * (M.np n)) (256 * (M.np n)), .slice none 0 0, .slice ao8 (M.np n) (M.np n), .bool true]), A.vec .u8 ao1 (256 * (M.np n)) (List.replicate (256 * (M.np n)) 0), A.vec .u8 ao9 (256 * (M.np n)) (List.replicate (256 * (M.np n)) 0), A.vec .i64 ao8 (M.np n) (List.replicate (M.np n) 0)]) (r := []) h Nz.k (A.pn [0, 3, 1, 2])
  exact ⟨g10, trivial, rfl, o1, a1, A.Has.one ⟨R.Wf.new (M.np_le n) _, _, R.new_t hq⟩, hc, hg⟩
 ·
  refine A.G.make (e := 5) (kd := .u8) (lk := .i64) (256 * (M.np n)) 1 Nz.k Nz.k Nz.k (by have := M.np_le n; omega) (by have := M.np_le n; omega) Nz.k (fun ao14 => E.H.back (fun w h => trivial) (E.al2 2 7 rfl rfl ?_ ?_))
  ·
   refine A.G.make (e := 5) (kd := .u8) (lk := .i64) (256 * (M.np n)) 1 Nz.k Nz.k Nz.k (by have := M.np_le n; omega) (by have := M.np_le n; omega) Nz.k (fun ao15 => E.H.back (fun w h => trivial) (E.al 7 rfl (A.G.make (e := 3) (kd := .i64) (lk := .i64) (M.np n) 8 Nz.k Nz.k Nz.k (by have := M.np_le n; omega) (by have := M.np_le n; omega) Nz.k (fun ao16 => E.H.back (fun w h => trivial) (E.tj 9 (.agg #[.slice ao15 (256 * (M.np n)) (256 * (M.np n)), .slice none 0 0, .slice ao14 (256 * (M.np n)) (256 * (M.np n)), .slice none 0 0, .slice ao16 (M.np n) (M.np n), .bool coh]) rfl (fun w h => trivial) (fun w h => E.run_build #[.slice ao15 (256 * (M.np n)) (256 * (M.np n)), .slice none 0 0, .slice ao14 (256 * (M.np n)) (256 * (M.np n)), .slice none 0 0, .slice ao16 (M.np n) (M.np n), .bool coh] Nz.k w) (E.al 10 rfl (E.nw [.slice ao15 (256 * (M.np n)) (256 * (M.np n)), .slice none 0 0, .slice ao14 (256 * (M.np n)) (256 * (M.np n)), .slice none 0 0, .slice ao16 (M.np n) (M.np n), .bool coh] 41 (fun g17 => E.H.back (fun w h => trivial) (E.tk 11 (E.pt g17) rfl (fun w h => trivial) (E.H.done Nz.k (E.To.code ?_)))))))))))
   refine E.wk [(1, .bool coh), (4, .pointer none), (5, E.i ((M.np n : Nat) : Int)), (6, E.pt g17)] [(g17, [.slice ao15 (256 * (M.np n)) (256 * (M.np n)), .slice none 0 0, .slice ao14 (256 * (M.np n)) (256 * (M.np n)), .slice none 0 0, .slice ao16 (M.np n) (M.np n), .bool coh])] Nz.sub (E.C.seq (E.sr (E.op (.bool coh) (E.op (.bool (!coh)) (E.To.code (E.cd (!coh) (fun hc18 => ?_) (fun hc18 => ?_)))))))
   ·
    refine E.sr (E.op (E.pt g17) (E.op (Zmstc n) (E.vl (Zmstb n) (fun w h => E.run_as (a := E.i (Zmsta n)) Nz.k (congrArg (Value.int .i64) (by exact Nz.mul64 (x := 256) (y := (M.np n)) (by have := M.np_le n; omega)))) (A.G.make (e := 5) (kd := .u8) (lk := .i64) (256 * (M.np n)) 1 Nz.k Nz.k Nz.k (by have := M.np_le n; omega) (by have := M.np_le n; omega) Nz.k (fun ao19 => E.op (E.pt g17) (E.op (E.pj g17 1) (E.st 0 [.slice ao15 (256 * (M.np n)) (256 * (M.np n)), .slice ao19 (256 * (M.np n)) (256 * (M.np n)), .slice ao14 (256 * (M.np n)) (256 * (M.np n)), .slice none 0 0, .slice ao16 (M.np n) (M.np n), .bool coh] rfl rfl (E.To.code (E.wk [(4, .pointer none), (5, E.i ((M.np n : Nat) : Int)), (6, E.pt g17)] [(g17, [.slice ao15 (256 * (M.np n)) (256 * (M.np n)), .slice ao19 (256 * (M.np n)) (256 * (M.np n)), .slice ao14 (256 * (M.np n)) (256 * (M.np n)), .slice none 0 0, .slice ao16 (M.np n) (M.np n), .bool coh])] Nz.sub (E.C.region (E.op (E.pt g17) ?_)))))))))))
    refine E.op (Zmstc n) (E.vl (Zmstb n) (fun w h => E.run_as (a := E.i (Zmsta n)) Nz.k (congrArg (Value.int .i64) (by exact Nz.mul64 (x := 256) (y := (M.np n)) (by have := M.np_le n; omega)))) (A.G.make (e := 5) (kd := .u8) (lk := .i64) (256 * (M.np n)) 1 Nz.k Nz.k Nz.k (by have := M.np_le n; omega) (by have := M.np_le n; omega) Nz.k (fun ao20 => E.op (E.pt g17) (E.op (E.pj g17 3) (E.st 0 [.slice ao15 (256 * (M.np n)) (256 * (M.np n)), .slice ao19 (256 * (M.np n)) (256 * (M.np n)), .slice ao14 (256 * (M.np n)) (256 * (M.np n)), .slice ao20 (256 * (M.np n)) (256 * (M.np n)), .slice ao16 (M.np n) (M.np n), .bool coh] rfl rfl (E.tr (E.op (E.pt g17) (E.op (E.pt g17) (E.To.code (E.wk [(4, E.pt g17)] [(g17, [.slice ao15 (256 * (M.np n)) (256 * (M.np n)), .slice ao19 (256 * (M.np n)) (256 * (M.np n)), .slice ao14 (256 * (M.np n)) (256 * (M.np n)), .slice ao20 (256 * (M.np n)) (256 * (M.np n)), .slice ao16 (M.np n) (M.np n), .bool coh])] Nz.sub (E.C.ret (E.bd Tryz.f75 [E.pt g17] ?_))))))))))))
    intro w h
    obtain rfl : coh = false := by simpa using hc18
    obtain ⟨o1, a1, hq, hc, hg⟩ := A.done (q := [A.blk g17 ([.slice ao15 (256 * (M.np n)) (256 * (M.np n)), .slice ao19 (256 * (M.np n)) (256 * (M.np n)), .slice ao14 (256 * (M.np n)) (256 * (M.np n)), .slice ao20 (256 * (M.np n)) (256 * (M.np n)), .slice ao16 (M.np n) (M.np n), .bool false]), A.vec .u8 ao15 (256 * (M.np n)) (List.replicate (256 * (M.np n)) 0), A.vec .u8 ao19 (256 * (M.np n)) (List.replicate (256 * (M.np n)) 0), A.vec .u8 ao14 (256 * (M.np n)) (List.replicate (256 * (M.np n)) 0), A.vec .u8 ao20 (256 * (M.np n)) (List.replicate (256 * (M.np n)) 0), A.vec .i64 ao16 (M.np n) (List.replicate (M.np n) 0)]) (r := []) h Nz.k (A.pn [0, 4, 2, 5, 1, 3])
    exact ⟨g17, trivial, rfl, o1, a1, A.Has.one ⟨R.Wf.new (M.np_le n) _, _, R.new_f hq⟩, hc, hg⟩
   refine E.C.skip (E.To.code (E.sr (E.op (E.pt g17) (E.op (E.pt g17) (E.To.code (E.C.ret (E.bd Tryz.f75 [E.pt g17] ?_)))))))
   intro w h
   obtain rfl : coh = true := by simpa using hc18
   obtain ⟨o1, a1, hq, hc, hg⟩ := A.done (q := [A.blk g17 ([.slice ao15 (256 * (M.np n)) (256 * (M.np n)), .slice none 0 0, .slice ao14 (256 * (M.np n)) (256 * (M.np n)), .slice none 0 0, .slice ao16 (M.np n) (M.np n), .bool true]), A.vec .u8 ao15 (256 * (M.np n)) (List.replicate (256 * (M.np n)) 0), A.vec .u8 ao14 (256 * (M.np n)) (List.replicate (256 * (M.np n)) 0), A.vec .i64 ao16 (M.np n) (List.replicate (M.np n) 0)]) (r := []) h Nz.k (A.pn [0, 2, 3, 1])
   exact ⟨g17, trivial, rfl, o1, a1, A.Has.one ⟨R.Wf.new (M.np_le n) _, _, R.new_t hq⟩, hc, hg⟩
  refine A.G.make (e := 3) (kd := .i64) (lk := .i64) (M.np n) 8 Nz.k Nz.k Nz.k (by have := M.np_le n; omega) (by have := M.np_le n; omega) Nz.k (fun ao21 => E.H.back (fun w h => trivial) (E.al 2 rfl (A.G.make (e := 5) (kd := .u8) (lk := .i64) (256 * (M.np n)) 1 Nz.k Nz.k Nz.k (by have := M.np_le n; omega) (by have := M.np_le n; omega) Nz.k (fun ao22 => E.H.back (fun w h => trivial) (E.tj 9 (.agg #[.slice ao22 (256 * (M.np n)) (256 * (M.np n)), .slice none 0 0, .slice ao14 (256 * (M.np n)) (256 * (M.np n)), .slice none 0 0, .slice ao21 (M.np n) (M.np n), .bool coh]) rfl (fun w h => trivial) (fun w h => E.run_build #[.slice ao22 (256 * (M.np n)) (256 * (M.np n)), .slice none 0 0, .slice ao14 (256 * (M.np n)) (256 * (M.np n)), .slice none 0 0, .slice ao21 (M.np n) (M.np n), .bool coh] Nz.k w) (E.al 10 rfl (E.nw [.slice ao22 (256 * (M.np n)) (256 * (M.np n)), .slice none 0 0, .slice ao14 (256 * (M.np n)) (256 * (M.np n)), .slice none 0 0, .slice ao21 (M.np n) (M.np n), .bool coh] 41 (fun g23 => E.H.back (fun w h => trivial) (E.tk 11 (E.pt g23) rfl (fun w h => trivial) (E.H.done Nz.k (E.To.code ?_)))))))))))
  refine E.wk [(1, .bool coh), (4, .pointer none), (5, E.i ((M.np n : Nat) : Int)), (6, E.pt g23)] [(g23, [.slice ao22 (256 * (M.np n)) (256 * (M.np n)), .slice none 0 0, .slice ao14 (256 * (M.np n)) (256 * (M.np n)), .slice none 0 0, .slice ao21 (M.np n) (M.np n), .bool coh])] Nz.sub (E.C.seq (E.sr (E.op (.bool coh) (E.op (.bool (!coh)) (E.To.code (E.cd (!coh) (fun hc24 => ?_) (fun hc24 => ?_)))))))
  ·
   refine E.sr (E.op (E.pt g23) (E.op (Zmstc n) (E.vl (Zmstb n) (fun w h => E.run_as (a := E.i (Zmsta n)) Nz.k (congrArg (Value.int .i64) (by exact Nz.mul64 (x := 256) (y := (M.np n)) (by have := M.np_le n; omega)))) (A.G.make (e := 5) (kd := .u8) (lk := .i64) (256 * (M.np n)) 1 Nz.k Nz.k Nz.k (by have := M.np_le n; omega) (by have := M.np_le n; omega) Nz.k (fun ao25 => E.op (E.pt g23) (E.op (E.pj g23 1) (E.st 0 [.slice ao22 (256 * (M.np n)) (256 * (M.np n)), .slice ao25 (256 * (M.np n)) (256 * (M.np n)), .slice ao14 (256 * (M.np n)) (256 * (M.np n)), .slice none 0 0, .slice ao21 (M.np n) (M.np n), .bool coh] rfl rfl (E.To.code (E.wk [(4, .pointer none), (5, E.i ((M.np n : Nat) : Int)), (6, E.pt g23)] [(g23, [.slice ao22 (256 * (M.np n)) (256 * (M.np n)), .slice ao25 (256 * (M.np n)) (256 * (M.np n)), .slice ao14 (256 * (M.np n)) (256 * (M.np n)), .slice none 0 0, .slice ao21 (M.np n) (M.np n), .bool coh])] Nz.sub (E.C.region (E.op (E.pt g23) ?_)))))))))))
   refine E.op (Zmstc n) (E.vl (Zmstb n) (fun w h => E.run_as (a := E.i (Zmsta n)) Nz.k (congrArg (Value.int .i64) (by exact Nz.mul64 (x := 256) (y := (M.np n)) (by have := M.np_le n; omega)))) (A.G.make (e := 5) (kd := .u8) (lk := .i64) (256 * (M.np n)) 1 Nz.k Nz.k Nz.k (by have := M.np_le n; omega) (by have := M.np_le n; omega) Nz.k (fun ao26 => E.op (E.pt g23) (E.op (E.pj g23 3) (E.st 0 [.slice ao22 (256 * (M.np n)) (256 * (M.np n)), .slice ao25 (256 * (M.np n)) (256 * (M.np n)), .slice ao14 (256 * (M.np n)) (256 * (M.np n)), .slice ao26 (256 * (M.np n)) (256 * (M.np n)), .slice ao21 (M.np n) (M.np n), .bool coh] rfl rfl (E.tr (E.op (E.pt g23) (E.op (E.pt g23) (E.To.code (E.wk [(4, E.pt g23)] [(g23, [.slice ao22 (256 * (M.np n)) (256 * (M.np n)), .slice ao25 (256 * (M.np n)) (256 * (M.np n)), .slice ao14 (256 * (M.np n)) (256 * (M.np n)), .slice ao26 (256 * (M.np n)) (256 * (M.np n)), .slice ao21 (M.np n) (M.np n), .bool coh])] Nz.sub (E.C.ret (E.bd Tryz.f75 [E.pt g23] ?_))))))))))))
   intro w h
   obtain rfl : coh = false := by simpa using hc24
   obtain ⟨o1, a1, hq, hc, hg⟩ := A.done (q := [A.blk g23 ([.slice ao22 (256 * (M.np n)) (256 * (M.np n)), .slice ao25 (256 * (M.np n)) (256 * (M.np n)), .slice ao14 (256 * (M.np n)) (256 * (M.np n)), .slice ao26 (256 * (M.np n)) (256 * (M.np n)), .slice ao21 (M.np n) (M.np n), .bool false]), A.vec .u8 ao22 (256 * (M.np n)) (List.replicate (256 * (M.np n)) 0), A.vec .u8 ao25 (256 * (M.np n)) (List.replicate (256 * (M.np n)) 0), A.vec .u8 ao14 (256 * (M.np n)) (List.replicate (256 * (M.np n)) 0), A.vec .u8 ao26 (256 * (M.np n)) (List.replicate (256 * (M.np n)) 0), A.vec .i64 ao21 (M.np n) (List.replicate (M.np n) 0)]) (r := []) h Nz.k (A.pn [0, 3, 2, 5, 1, 4])
   exact ⟨g23, trivial, rfl, o1, a1, A.Has.one ⟨R.Wf.new (M.np_le n) _, _, R.new_f hq⟩, hc, hg⟩
  refine E.C.skip (E.To.code (E.sr (E.op (E.pt g23) (E.op (E.pt g23) (E.To.code (E.C.ret (E.bd Tryz.f75 [E.pt g23] ?_)))))))
  intro w h
  obtain rfl : coh = true := by simpa using hc24
  obtain ⟨o1, a1, hq, hc, hg⟩ := A.done (q := [A.blk g23 ([.slice ao22 (256 * (M.np n)) (256 * (M.np n)), .slice none 0 0, .slice ao14 (256 * (M.np n)) (256 * (M.np n)), .slice none 0 0, .slice ao21 (M.np n) (M.np n), .bool true]), A.vec .u8 ao22 (256 * (M.np n)) (List.replicate (256 * (M.np n)) 0), A.vec .u8 ao14 (256 * (M.np n)) (List.replicate (256 * (M.np n)) 0), A.vec .i64 ao21 (M.np n) (List.replicate (M.np n) 0)]) (r := []) h Nz.k (A.pn [0, 1, 3, 2])
  exact ⟨g23, trivial, rfl, o1, a1, A.Has.one ⟨R.Wf.new (M.np_le n) _, _, R.new_t hq⟩, hc, hg⟩
 refine A.G.make (e := 3) (kd := .i64) (lk := .i64) (M.np n) 8 Nz.k Nz.k Nz.k (by have := M.np_le n; omega) (by have := M.np_le n; omega) Nz.k (fun ao27 => E.H.back (fun w h => trivial) (E.al2 2 5 rfl rfl ?_ ?_))
 ·
  refine A.G.make (e := 5) (kd := .u8) (lk := .i64) (256 * (M.np n)) 1 Nz.k Nz.k Nz.k (by have := M.np_le n; omega) (by have := M.np_le n; omega) Nz.k (fun ao28 => E.H.back (fun w h => trivial) (E.al 5 rfl (A.G.make (e := 5) (kd := .u8) (lk := .i64) (256 * (M.np n)) 1 Nz.k Nz.k Nz.k (by have := M.np_le n; omega) (by have := M.np_le n; omega) Nz.k (fun ao29 => E.H.back (fun w h => trivial) (E.tj 9 (.agg #[.slice ao28 (256 * (M.np n)) (256 * (M.np n)), .slice none 0 0, .slice ao29 (256 * (M.np n)) (256 * (M.np n)), .slice none 0 0, .slice ao27 (M.np n) (M.np n), .bool coh]) rfl (fun w h => trivial) (fun w h => E.run_build #[.slice ao28 (256 * (M.np n)) (256 * (M.np n)), .slice none 0 0, .slice ao29 (256 * (M.np n)) (256 * (M.np n)), .slice none 0 0, .slice ao27 (M.np n) (M.np n), .bool coh] Nz.k w) (E.al 10 rfl (E.nw [.slice ao28 (256 * (M.np n)) (256 * (M.np n)), .slice none 0 0, .slice ao29 (256 * (M.np n)) (256 * (M.np n)), .slice none 0 0, .slice ao27 (M.np n) (M.np n), .bool coh] 41 (fun g30 => E.H.back (fun w h => trivial) (E.tk 11 (E.pt g30) rfl (fun w h => trivial) (E.H.done Nz.k (E.To.code ?_)))))))))))
  refine E.wk [(1, .bool coh), (4, .pointer none), (5, E.i ((M.np n : Nat) : Int)), (6, E.pt g30)] [(g30, [.slice ao28 (256 * (M.np n)) (256 * (M.np n)), .slice none 0 0, .slice ao29 (256 * (M.np n)) (256 * (M.np n)), .slice none 0 0, .slice ao27 (M.np n) (M.np n), .bool coh])] Nz.sub (E.C.seq (E.sr (E.op (.bool coh) (E.op (.bool (!coh)) (E.To.code (E.cd (!coh) (fun hc31 => ?_) (fun hc31 => ?_)))))))
  ·
   refine E.sr (E.op (E.pt g30) (E.op (Zmstc n) (E.vl (Zmstb n) (fun w h => E.run_as (a := E.i (Zmsta n)) Nz.k (congrArg (Value.int .i64) (by exact Nz.mul64 (x := 256) (y := (M.np n)) (by have := M.np_le n; omega)))) (A.G.make (e := 5) (kd := .u8) (lk := .i64) (256 * (M.np n)) 1 Nz.k Nz.k Nz.k (by have := M.np_le n; omega) (by have := M.np_le n; omega) Nz.k (fun ao32 => E.op (E.pt g30) (E.op (E.pj g30 1) (E.st 0 [.slice ao28 (256 * (M.np n)) (256 * (M.np n)), .slice ao32 (256 * (M.np n)) (256 * (M.np n)), .slice ao29 (256 * (M.np n)) (256 * (M.np n)), .slice none 0 0, .slice ao27 (M.np n) (M.np n), .bool coh] rfl rfl (E.To.code (E.wk [(4, .pointer none), (5, E.i ((M.np n : Nat) : Int)), (6, E.pt g30)] [(g30, [.slice ao28 (256 * (M.np n)) (256 * (M.np n)), .slice ao32 (256 * (M.np n)) (256 * (M.np n)), .slice ao29 (256 * (M.np n)) (256 * (M.np n)), .slice none 0 0, .slice ao27 (M.np n) (M.np n), .bool coh])] Nz.sub (E.C.region (E.op (E.pt g30) ?_)))))))))))
   refine E.op (Zmstc n) (E.vl (Zmstb n) (fun w h => E.run_as (a := E.i (Zmsta n)) Nz.k (congrArg (Value.int .i64) (by exact Nz.mul64 (x := 256) (y := (M.np n)) (by have := M.np_le n; omega)))) (A.G.make (e := 5) (kd := .u8) (lk := .i64) (256 * (M.np n)) 1 Nz.k Nz.k Nz.k (by have := M.np_le n; omega) (by have := M.np_le n; omega) Nz.k (fun ao33 => E.op (E.pt g30) (E.op (E.pj g30 3) (E.st 0 [.slice ao28 (256 * (M.np n)) (256 * (M.np n)), .slice ao32 (256 * (M.np n)) (256 * (M.np n)), .slice ao29 (256 * (M.np n)) (256 * (M.np n)), .slice ao33 (256 * (M.np n)) (256 * (M.np n)), .slice ao27 (M.np n) (M.np n), .bool coh] rfl rfl (E.tr (E.op (E.pt g30) (E.op (E.pt g30) (E.To.code (E.wk [(4, E.pt g30)] [(g30, [.slice ao28 (256 * (M.np n)) (256 * (M.np n)), .slice ao32 (256 * (M.np n)) (256 * (M.np n)), .slice ao29 (256 * (M.np n)) (256 * (M.np n)), .slice ao33 (256 * (M.np n)) (256 * (M.np n)), .slice ao27 (M.np n) (M.np n), .bool coh])] Nz.sub (E.C.ret (E.bd Tryz.f75 [E.pt g30] ?_))))))))))))
   intro w h
   obtain rfl : coh = false := by simpa using hc31
   obtain ⟨o1, a1, hq, hc, hg⟩ := A.done (q := [A.blk g30 ([.slice ao28 (256 * (M.np n)) (256 * (M.np n)), .slice ao32 (256 * (M.np n)) (256 * (M.np n)), .slice ao29 (256 * (M.np n)) (256 * (M.np n)), .slice ao33 (256 * (M.np n)) (256 * (M.np n)), .slice ao27 (M.np n) (M.np n), .bool false]), A.vec .u8 ao28 (256 * (M.np n)) (List.replicate (256 * (M.np n)) 0), A.vec .u8 ao32 (256 * (M.np n)) (List.replicate (256 * (M.np n)) 0), A.vec .u8 ao29 (256 * (M.np n)) (List.replicate (256 * (M.np n)) 0), A.vec .u8 ao33 (256 * (M.np n)) (List.replicate (256 * (M.np n)) 0), A.vec .i64 ao27 (M.np n) (List.replicate (M.np n) 0)]) (r := []) h Nz.k (A.pn [0, 4, 2, 3, 1, 5])
   exact ⟨g30, trivial, rfl, o1, a1, A.Has.one ⟨R.Wf.new (M.np_le n) _, _, R.new_f hq⟩, hc, hg⟩
  refine E.C.skip (E.To.code (E.sr (E.op (E.pt g30) (E.op (E.pt g30) (E.To.code (E.C.ret (E.bd Tryz.f75 [E.pt g30] ?_)))))))
  intro w h
  obtain rfl : coh = true := by simpa using hc31
  obtain ⟨o1, a1, hq, hc, hg⟩ := A.done (q := [A.blk g30 ([.slice ao28 (256 * (M.np n)) (256 * (M.np n)), .slice none 0 0, .slice ao29 (256 * (M.np n)) (256 * (M.np n)), .slice none 0 0, .slice ao27 (M.np n) (M.np n), .bool true]), A.vec .u8 ao28 (256 * (M.np n)) (List.replicate (256 * (M.np n)) 0), A.vec .u8 ao29 (256 * (M.np n)) (List.replicate (256 * (M.np n)) 0), A.vec .i64 ao27 (M.np n) (List.replicate (M.np n) 0)]) (r := []) h Nz.k (A.pn [0, 2, 1, 3])
  exact ⟨g30, trivial, rfl, o1, a1, A.Has.one ⟨R.Wf.new (M.np_le n) _, _, R.new_t hq⟩, hc, hg⟩
 refine A.G.make (e := 5) (kd := .u8) (lk := .i64) (256 * (M.np n)) 1 Nz.k Nz.k Nz.k (by have := M.np_le n; omega) (by have := M.np_le n; omega) Nz.k (fun ao34 => E.H.back (fun w h => trivial) (E.al 2 rfl (A.G.make (e := 5) (kd := .u8) (lk := .i64) (256 * (M.np n)) 1 Nz.k Nz.k Nz.k (by have := M.np_le n; omega) (by have := M.np_le n; omega) Nz.k (fun ao35 => E.H.back (fun w h => trivial) (E.tj 9 (.agg #[.slice ao35 (256 * (M.np n)) (256 * (M.np n)), .slice none 0 0, .slice ao34 (256 * (M.np n)) (256 * (M.np n)), .slice none 0 0, .slice ao27 (M.np n) (M.np n), .bool coh]) rfl (fun w h => trivial) (fun w h => E.run_build #[.slice ao35 (256 * (M.np n)) (256 * (M.np n)), .slice none 0 0, .slice ao34 (256 * (M.np n)) (256 * (M.np n)), .slice none 0 0, .slice ao27 (M.np n) (M.np n), .bool coh] Nz.k w) (E.al 10 rfl (E.nw [.slice ao35 (256 * (M.np n)) (256 * (M.np n)), .slice none 0 0, .slice ao34 (256 * (M.np n)) (256 * (M.np n)), .slice none 0 0, .slice ao27 (M.np n) (M.np n), .bool coh] 41 (fun g36 => E.H.back (fun w h => trivial) (E.tk 11 (E.pt g36) rfl (fun w h => trivial) (E.H.done Nz.k (E.To.code ?_)))))))))))
 refine E.wk [(1, .bool coh), (4, .pointer none), (5, E.i ((M.np n : Nat) : Int)), (6, E.pt g36)] [(g36, [.slice ao35 (256 * (M.np n)) (256 * (M.np n)), .slice none 0 0, .slice ao34 (256 * (M.np n)) (256 * (M.np n)), .slice none 0 0, .slice ao27 (M.np n) (M.np n), .bool coh])] Nz.sub (E.C.seq (E.sr (E.op (.bool coh) (E.op (.bool (!coh)) (E.To.code (E.cd (!coh) (fun hc37 => ?_) (fun hc37 => ?_)))))))
 ·
  refine E.sr (E.op (E.pt g36) (E.op (Zmstc n) (E.vl (Zmstb n) (fun w h => E.run_as (a := E.i (Zmsta n)) Nz.k (congrArg (Value.int .i64) (by exact Nz.mul64 (x := 256) (y := (M.np n)) (by have := M.np_le n; omega)))) (A.G.make (e := 5) (kd := .u8) (lk := .i64) (256 * (M.np n)) 1 Nz.k Nz.k Nz.k (by have := M.np_le n; omega) (by have := M.np_le n; omega) Nz.k (fun ao38 => E.op (E.pt g36) (E.op (E.pj g36 1) (E.st 0 [.slice ao35 (256 * (M.np n)) (256 * (M.np n)), .slice ao38 (256 * (M.np n)) (256 * (M.np n)), .slice ao34 (256 * (M.np n)) (256 * (M.np n)), .slice none 0 0, .slice ao27 (M.np n) (M.np n), .bool coh] rfl rfl (E.To.code (E.wk [(4, .pointer none), (5, E.i ((M.np n : Nat) : Int)), (6, E.pt g36)] [(g36, [.slice ao35 (256 * (M.np n)) (256 * (M.np n)), .slice ao38 (256 * (M.np n)) (256 * (M.np n)), .slice ao34 (256 * (M.np n)) (256 * (M.np n)), .slice none 0 0, .slice ao27 (M.np n) (M.np n), .bool coh])] Nz.sub (E.C.region (E.op (E.pt g36) ?_)))))))))))
  refine E.op (Zmstc n) (E.vl (Zmstb n) (fun w h => E.run_as (a := E.i (Zmsta n)) Nz.k (congrArg (Value.int .i64) (by exact Nz.mul64 (x := 256) (y := (M.np n)) (by have := M.np_le n; omega)))) (A.G.make (e := 5) (kd := .u8) (lk := .i64) (256 * (M.np n)) 1 Nz.k Nz.k Nz.k (by have := M.np_le n; omega) (by have := M.np_le n; omega) Nz.k (fun ao39 => E.op (E.pt g36) (E.op (E.pj g36 3) (E.st 0 [.slice ao35 (256 * (M.np n)) (256 * (M.np n)), .slice ao38 (256 * (M.np n)) (256 * (M.np n)), .slice ao34 (256 * (M.np n)) (256 * (M.np n)), .slice ao39 (256 * (M.np n)) (256 * (M.np n)), .slice ao27 (M.np n) (M.np n), .bool coh] rfl rfl (E.tr (E.op (E.pt g36) (E.op (E.pt g36) (E.To.code (E.wk [(4, E.pt g36)] [(g36, [.slice ao35 (256 * (M.np n)) (256 * (M.np n)), .slice ao38 (256 * (M.np n)) (256 * (M.np n)), .slice ao34 (256 * (M.np n)) (256 * (M.np n)), .slice ao39 (256 * (M.np n)) (256 * (M.np n)), .slice ao27 (M.np n) (M.np n), .bool coh])] Nz.sub (E.C.ret (E.bd Tryz.f75 [E.pt g36] ?_))))))))))))
  intro w h
  obtain rfl : coh = false := by simpa using hc37
  obtain ⟨o1, a1, hq, hc, hg⟩ := A.done (q := [A.blk g36 ([.slice ao35 (256 * (M.np n)) (256 * (M.np n)), .slice ao38 (256 * (M.np n)) (256 * (M.np n)), .slice ao34 (256 * (M.np n)) (256 * (M.np n)), .slice ao39 (256 * (M.np n)) (256 * (M.np n)), .slice ao27 (M.np n) (M.np n), .bool false]), A.vec .u8 ao35 (256 * (M.np n)) (List.replicate (256 * (M.np n)) 0), A.vec .u8 ao38 (256 * (M.np n)) (List.replicate (256 * (M.np n)) 0), A.vec .u8 ao34 (256 * (M.np n)) (List.replicate (256 * (M.np n)) 0), A.vec .u8 ao39 (256 * (M.np n)) (List.replicate (256 * (M.np n)) 0), A.vec .i64 ao27 (M.np n) (List.replicate (M.np n) 0)]) (r := []) h Nz.k (A.pn [0, 3, 2, 4, 1, 5])
  exact ⟨g36, trivial, rfl, o1, a1, A.Has.one ⟨R.Wf.new (M.np_le n) _, _, R.new_f hq⟩, hc, hg⟩
 refine E.C.skip (E.To.code (E.sr (E.op (E.pt g36) (E.op (E.pt g36) (E.To.code (E.C.ret (E.bd Tryz.f75 [E.pt g36] ?_)))))))
 intro w h
 obtain rfl : coh = true := by simpa using hc37
 obtain ⟨o1, a1, hq, hc, hg⟩ := A.done (q := [A.blk g36 ([.slice ao35 (256 * (M.np n)) (256 * (M.np n)), .slice none 0 0, .slice ao34 (256 * (M.np n)) (256 * (M.np n)), .slice none 0 0, .slice ao27 (M.np n) (M.np n), .bool true]), A.vec .u8 ao35 (256 * (M.np n)) (List.replicate (256 * (M.np n)) 0), A.vec .u8 ao34 (256 * (M.np n)) (List.replicate (256 * (M.np n)) 0), A.vec .i64 ao27 (M.np n) (List.replicate (M.np n) 0)]) (r := []) h Nz.k (A.pn [0, 1, 2, 3])
 exact ⟨g36, trivial, rfl, o1, a1, A.Has.one ⟨R.Wf.new (M.np_le n) _, _, R.new_t hq⟩, hc, hg⟩
/-- Whether one of the first c bytes of page k, or of its image, has changed. -/
def R.df (V : M.V) (k : Nat) : Nat → Bool
  | 0 => false
  | c + 1 => (R.df V k c || (V.d k c != V.cd k c)) || ((!V.coh) && (V.i k c != V.ci k c))

end Go.Proofs.YtglidnmmeclneaaGreat
namespace Go.Proofs.YtglidnmmeclneaaGreat
set_option linter.unusedVariables false
set_option linter.unusedSimpArgs false
open Go.RowKit
theorem B_Poke {r : Nat} {V : M.V} (a : Nat) (ha : a < 4294967296) (b : ByteArray) (hb : b.size < 4294967296) : A.Tr Tryz.prog 45 #[.pointer (some ⟨r, 0, none⟩), .int .u32 ((a : Nat) : Int), .string b] [R.It r V] (I := Unit) (fun _ => True) (fun _ => .tuple #[]) (fun _ => [R.It r (V.poke a b b.size)]) := R.wr (fun hw s => R_Poke a ha b hb) (fun hw => hw.poke _ _ _)
theorem B_Protect {r : Nat} {V : M.V} (n x : Int) : A.Tr Tryz.prog 46 #[.pointer (some ⟨r, 0, none⟩), .int .i64 n, .int .i64 x] [R.It r V] (I := Unit) (fun _ => True) (fun _ => .tuple #[]) (fun _ => [R.It r (V.prot n x)]) := R.wr (fun hw s => R_Protect n x) (fun hw => hw.prot _ _)
/-- What is known of cells that nobody owns. -/
def A.facts (F : Addr → Value → Prop) : A.It where
  t w o a := (∀ ad v, F ad v → w.cell? ad = some v) ∧ (∀ x, ¬ o x) ∧ ∀ x, a x ↔ ∃ ad v, F ad v ∧ ad.block = x
  sub := fun h x hx => (h.2.1 x hx).elim
  lt := fun h x hx => by
    obtain ⟨ad, v, hf, rfl⟩ := (h.2.2 x).1 hx
    exact M.cell_lt (h.1 ad v hf)
  keep := fun {w w' o a} h hk => ⟨fun ad v hf => by
    have hc := h.1 ad v hf
    have hb := hk ad.block ((h.2.2 _).2 ⟨ad, v, hf, rfl⟩)
    rw [World.cell?] at hc ⊢; rw [hb]; exact hc, h.2⟩
  apart := fun {w w2 o a o2 a2 x} h h2 _ hz hx => by
    obtain ⟨ad, v, hf, rfl⟩ := (h.2.2 x).1 hx
    have hc := h2.1 ad v hf
    cases hs : ad.spot with
    | none =>
      have e : ad = ⟨ad.block, ad.off, none⟩ := by cases ad; simp at hs ⊢; exact hs
      rw [e, hz] at hc; cases hc
    | some sp =>
      rw [World.cell?] at hc
      split at hc
      · simp [hs] at hc
      · cases hc
theorem A.hpY {w0 w : World} {o0 a0 : Nat → Prop} {its p r : List A.It} {L : List (Nat × List Value)} (h : E.Hp o0 w0 (A.X w0 o0 a0 its) L w) (hne : A.ne L = true) (h1 : (A.bl L ++ its).Perm (p ++ r)) : A.Y p w := by
  obtain ⟨o, a, hh, _⟩ := A.hp_has hne h
  exact A.Y.part ⟨o, a, hh⟩ h1
end Go.Proofs.YtglidnmmeclneaaGreat

/- Items that are known at a call. -/
namespace Go.Proofs.YtglidnmmeclneaaGreat
theorem A.hq {w0 w : World} {o0 a0 : Nat → Prop} {its p : List A.It} {L : List (Nat × List Value)} (s1 s2 : List Nat) (h : E.Hp o0 w0 (A.X w0 o0 a0 its) L w) (hne : A.ne L = true := by kernel_rfl) (hs : (s1 ++ s2).isPerm (List.range (A.bl L ++ its).length) = true := by kernel_rfl) (hp : p = A.pick (A.bl L ++ its) s1 := by kernel_rfl) : A.Y p w := A.hpY h hne (A.pq s1 s2 hs hp)
end Go.Proofs.YtglidnmmeclneaaGreat
namespace Go.Proofs.YtglidnmmeclneaaGreat
set_option linter.unusedVariables false
set_option linter.unusedSimpArgs false
open Go.RowKit
section rules
variable {P : Program} {fr : E.Fr}
variable {T : TypeId} {d : Option Nat} {pos : String} {af : Array Edge} {gd : Option (Nat × Bool)}
theorem E.shlN {t u : TypeId} {x y : Operand} {k k2 : IntKind} (a : Int) (c b : Nat) (hb : k.bits = b) (hx : E.ev fr x = .int k a) (hy : E.ev fr y = .int k2 ((c : Nat) : Int)) (w : World) :
    (execOp (E.ev fr) ⟨d, .binOp .shl t x y u, T, pos, af, gd⟩).run P w = .ok (.value (.int k (k.wrap (a * 2 ^ (min c b))))) w := by
  subst hb
  show (do let r ← (do eqGuard .shl t x y (E.ev fr x) (E.ev fr y); binOp .shl t (E.ev fr x) (E.ev fr y)); pure (Next.value r) : Sem Next).run P w = _
  rw [hx, hy]
  have h : ¬ ((c : Nat) : Int) < 0 := by omega
  simp [eqGuard, binOp, Op.shift, h]
end rules
/-- A machine's state. -/
structure Q.S where
  pc : Int
  r : Nat → Int
  f : Int
  c : Nat → Int
  st : Int
  du : Int
def Q.S.cells (s : Q.S) : List Value := [.int .u32 s.pc, .int .u32 (s.r 0), .int .u32 (s.r 1), .int .u32 (s.r 2), .int .u32 (s.r 3), .int .u32 (s.r 4), .int .u32 (s.r 5), .int .u32 (s.r 6), .int .u32 (s.r 7), .int .u32 (s.r 8), .int .u32 (s.r 9), .int .u32 (s.r 10), .int .u32 (s.r 11), .int .u32 (s.r 12), .int .u32 (s.r 13), .int .u32 (s.r 14), .int .u32 (s.r 15), .int .u32 s.f, .int .u32 (s.c 0), .int .u32 (s.c 1), .int .u32 (s.c 2), .int .u32 (s.c 3), .int .i64 s.st, .int .i64 s.du]
def Q.S.val (s : Q.S) : Value := .agg #[.int .u32 s.pc, .int .u32 (s.r 0), .int .u32 (s.r 1), .int .u32 (s.r 2), .int .u32 (s.r 3), .int .u32 (s.r 4), .int .u32 (s.r 5), .int .u32 (s.r 6), .int .u32 (s.r 7), .int .u32 (s.r 8), .int .u32 (s.r 9), .int .u32 (s.r 10), .int .u32 (s.r 11), .int .u32 (s.r 12), .int .u32 (s.r 13), .int .u32 (s.r 14), .int .u32 (s.r 15), .int .u32 s.f, .int .u32 (s.c 0), .int .u32 (s.c 1), .int .u32 (s.c 2), .int .u32 (s.c 3), .int .i64 s.st, .int .i64 s.du]
def Q.up (f : Nat → Int) (d : Nat) (v : Int) : Nat → Int := fun k => if k = d then v else f k
theorem Q.ld_r {P : Program} {t : TypeId} {s : Q.S} {D : Nat} (hu : P.underlying t = some (.int .u32)) (h : D < 16) : E.ld P t s.cells (1 + D) = some (.int .u32 (s.r D)) := by
  rw [E.ld_one hu]
  rcases (by omega : D = 0 ∨ D = 1 ∨ D = 2 ∨ D = 3 ∨ D = 4 ∨ D = 5 ∨ D = 6 ∨ D = 7 ∨ D = 8 ∨ D = 9 ∨ D = 10 ∨ D = 11 ∨ D = 12 ∨ D = 13 ∨ D = 14 ∨ D = 15) with rfl | rfl | rfl | rfl | rfl | rfl | rfl | rfl | rfl | rfl | rfl | rfl | rfl | rfl | rfl | rfl <;> rfl
theorem E.sto_one {P : Program} {t : TypeId} {cs : List Value} {j : Nat} {k : IntKind} {v : Int} (hi : (P.info? t).map (·.size) = some 1) (h : j < cs.length) : E.sto P t cs j (.int k v) = some (cs.set j (.int k v)) := by
  unfold E.sto
  cases hi0 : P.info? t with
  | none => rw [hi0] at hi; cases hi
  | some i =>
    rw [hi0] at hi
    simp only [Option.map_some, Option.some.injEq] at hi
    show (bif Nat.beq 1 i.size && Nat.ble (j + i.size) cs.length && true then some (cs.set j (.int k v)) else none) = _
    rw [hi, show Nat.ble (j + 1) cs.length = true from Nat.ble_eq_true_of_le h]; rfl
theorem E.idxI {P : Program} {fr : E.Fr} {T : TypeId} {d : Option Nat} {pos : String} {af : Array Edge} {gd : Option (Nat × Bool)} {t e : TypeId} {x ix : Operand} (g j len : Nat) (k : IntKind) (i : Int) (hu : P.underlying t = some (.array len e)) (hs : (P.info? e).map (·.size) = some 1) (hx : E.ev fr x = .pointer (some ⟨g, j, none⟩)) (hi : E.ev fr ix = .int k i)
    (h1 : 0 ≤ i ∧ i < len) (w : World) : (execOp (E.ev fr) ⟨d, .indexAddr t x ix, T, pos, af, gd⟩).run P w = .ok (.value (.pointer (some ⟨g, j + i.toNat, none⟩))) w := by
  have := E.idxA (P := P) (fr := fr) (T := T) (d := d) (pos := pos) (af := af) (gd := gd) g j len 1 k i hu hs hx hi h1.1 (by omega) w
  rwa [Nat.mul_one] at this
theorem Q.up_bd {f : Nat → Int} {d : Nat} {v : Int} (hf : ∀ k, 0 ≤ f k ∧ f k < 4294967296) (hv : 0 ≤ v ∧ v < 4294967296) (k : Nat) : 0 ≤ Q.up f d v k ∧ Q.up f d v k < 4294967296 := by
  unfold Q.up; split
  · exact hv
  · exact hf k
theorem I_Fetch {m : Nat} {V : M.V} {xs : List Value} (x : Int) (hx : 0 ≤ x ∧ x < 4294967296) : A.Rd Tryz.prog 187 #[.pointer (some ⟨m, 0, none⟩), .int .u32 x] [M.It m V xs] (.tuple #[.int .u8 (V.fetch x.toNat).1, .bool (V.fetch x.toNat).2]) := by
  obtain ⟨a, rfl⟩ := Int.eq_ofNat_of_zero_le hx.1
  exact A_Fetch a (by omega)
theorem I_Peek {m : Nat} {V : M.V} {xs : List Value} (x : Int) (hx : 0 ≤ x ∧ x < 4294967296) : A.Rd Tryz.prog 22 #[.pointer (some ⟨m, 0, none⟩), .int .u32 x] [M.It m V xs] (.int .u8 (V.peek x.toNat)) := by
  obtain ⟨a, rfl⟩ := Int.eq_ofNat_of_zero_le hx.1
  exact A_Peek a (by omega)
theorem I_Load {m : Nat} {V : M.V} {xs : List Value} (x : Int) (n : Int) (hx : 0 ≤ x ∧ x < 4294967296) : A.Rd Tryz.prog 188 #[.pointer (some ⟨m, 0, none⟩), .int .u32 x, .int .i64 n] [M.It m V xs] (.tuple #[.int .u32 (V.load x.toNat n).1, .int .u32 (V.load x.toNat n).2.1, .bool (V.load x.toNat n).2.2]) := by
  obtain ⟨a, rfl⟩ := Int.eq_ofNat_of_zero_le hx.1
  exact A_Load a n (by omega)
theorem I_Store {m : Nat} {V : M.V} {xs : List Value} (x : Int) (n v : Int) (hx : 0 ≤ x ∧ x < 4294967296) : A.Tr Tryz.prog 189 #[.pointer (some ⟨m, 0, none⟩), .int .u32 x, .int .i64 n, .int .u32 v] [M.It m V xs] (I := Unit) (fun _ => True) (fun _ => .tuple #[.int .u32 (V.chk x.toNat 2 n).1, .bool (V.chk x.toNat 2 n).2]) (fun _ => [M.It m (V.sto x.toNat n v) xs]) := by
  obtain ⟨a, rfl⟩ := Int.eq_ofNat_of_zero_le hx.1
  exact A_Store a n v (by omega)
theorem I_Poke {m : Nat} {V : M.V} {xs : List Value} (x : Int) (s : ByteArray) (hx : 0 ≤ x ∧ x < 4294967296) (hs : s.size < 4294967296) : A.Tr Tryz.prog 18 #[.pointer (some ⟨m, 0, none⟩), .int .u32 x, .string s] [M.It m V xs] (I := Unit) (fun _ => True) (fun _ => .tuple #[]) (fun _ => [M.It m (V.poke x.toNat s s.size) xs]) := by
  obtain ⟨a, rfl⟩ := Int.eq_ofNat_of_zero_le hx.1
  exact A_Poke a s (by omega) hs
theorem J_Poke {m : Nat} {V : M.V} (x : Int) (s : ByteArray) (hx : 0 ≤ x ∧ x < 4294967296) (hs : s.size < 4294967296) : A.Tr Tryz.prog 45 #[.pointer (some ⟨m, 0, none⟩), .int .u32 x, .string s] [R.It m V] (I := Unit) (fun _ => True) (fun _ => .tuple #[]) (fun _ => [R.It m (V.poke x.toNat s s.size)]) := by
  obtain ⟨a, rfl⟩ := Int.eq_ofNat_of_zero_le hx.1
  exact B_Poke a (by omega) s hs
/-- The blocks of a memory but its header. -/
def M.bdy (b : M.Obj) (x : Nat) : Prop := (0 < b.sl.length ∧ x = b.b) ∨ M.Pg b.sl x
/-- A memory but its header. -/
structure M.BdP (b : M.Obj) (V : M.V) (w : World) : Prop where
  ha : 0 < b.sl.length → b.ao = some ⟨b.b, 0, none⟩
  cs : ∀ i v, (M.cells b.sl)[i]? = some v → w.cell? ⟨b.b, i, none⟩ = some v
  pg : ∀ p, M.Pg b.sl p → ∀ i, i < 256 → w.cell? ⟨p, i, none⟩ = some (.int .u8 (b.C p i))
  lt : b.sl.length ≤ 4096
  pm : ∀ p, M.Pg b.sl p → p ≠ b.b
  od : ∀ i j, i < b.sl.length → j < b.sl.length → (b.at i).od = true → ((b.at j).d = (b.at i).d → j = i) ∧ (b.at j).c ≠ some (b.at i).d ∧ (b.at j).cd ≠ (b.at i).d ∧ (b.at j).cc ≠ some (b.at i).d
  oc : ∀ i j p, i < b.sl.length → j < b.sl.length → (b.at i).oc = true → (b.at i).c = some p → ((b.at j).c = some p → j = i) ∧ (b.at j).d ≠ p ∧ (b.at j).cd ≠ p ∧ (b.at j).cc ≠ some p
  co : ∀ i, i < b.sl.length → (b.at i).c.isNone = b.coh ∧ (b.at i).cc.isNone = b.coh
  by_ : ∀ p, M.Pg b.sl p → ∀ i, i < 256 → 0 ≤ b.C p i ∧ b.C p i < 256
  rb : ∀ i, i < b.sl.length → 0 ≤ (b.at i).r ∧ (b.at i).r < 8
  fz : ∀ x, M.bdy b x → ∀ i, w.frozen? ⟨x, i, none⟩ = false
  sh : M.Sh b V
section
variable {P : Program} {n : Nat} {ops : Array Oper} {Q : Exit → Act → World → Prop} {w0 : World} {o0 a0 : Nat → Prop} {its r : List A.It} {L : List (Nat × List Value)} {l : List Oper} {fr : E.Fr} {c : Code} {m : Nat} {V : M.V} {xs : List Value}
end
theorem Sign_any (n k : Int) (h0 : 0 ≤ n) (h1 : n < 4294967296) (k0 : -9223372036854775808 ≤ k) (k1 : k ≤ 9223372036854775807) (w : World) :
    Calls Tryz.prog 167 #[.int .u32 n, .int .i64 k] w fun e w' => e = .returned (.int .u32 (W.sign n k)) ∧ Bel w w' := by
  by_cases a : k < 1
  · have HS := hid (W.sign_lo n k a)
    go_enter Tryz.func167, Tryz.ntmps167
    go_wp2
    go_ret
    exact ⟨ret_int (by rw [HS.out]), Nz.bel⟩
  by_cases b : 32 ≤ k
  · have HS := hid (W.sign_hi n k b)
    go_enter Tryz.func167, Tryz.ntmps167
    go_wp2
    go_ret
    exact ⟨ret_int (by rw [HS.out]), Nz.bel⟩
  · have HS := hid (W.sign_shift n k h0 h1 (by omega) (by omega))
    go_enter Tryz.func167, Tryz.ntmps167
    go_wp2
    go_ret
    exact ⟨ret_int (by rw [HS.out]), Nz.bel⟩
theorem byt_extract (s : ByteArray) (m j : Nat) (hj : j < m) : W.byt (s.extract 0 m).data.toList j = W.byt s.data.toList j := by
  unfold W.byt
  have : (s.extract 0 m).data.toList = s.data.toList.take m := by simp [ByteArray.data_extract]
  rw [this]
  simp [List.getD, hj]

theorem bel_bytes (w : World) (e : TypeId) (s : ByteArray) : Bel w (Lib.bytesWorld w e s) :=
  ⟨rfl, rfl, rfl, by rw [Lib.bytesWorld_size]; omega, fun k hk => Lib.bytesWorld_at_old w e s k hk⟩

theorem Get_any (s : ByteArray) (hs : s.size ≤ maxLen) (w : World) :
    Calls Tryz.prog 169 #[.string s] w fun e w' => e = .returned (.int .u32 (W.get s.data.toList)) ∧ Bel w w' := by
  unfold maxLen at hs
  have hcv : ∀ s' : ByteArray, (convert 9 38 (.string s')).run Tryz.prog w = .ok (.slice (some ⟨w.heap.size, 0, none⟩) s'.size (grownCap w s'.size 0 5)) (Lib.bytesWorld w 5 s') :=
    fun s' => Lib.run_convert_string_bytes w 9 38 5 s' Tryz.underlying9 Tryz.underlying38 Tryz.underlying5
  have hcell : ∀ (s' : ByteArray) (j : Nat), j < s'.size → (Lib.bytesWorld w 5 s').cell? ⟨w.heap.size, j, none⟩ = some (.int .u8 (W.byt s'.data.toList j)) := fun s' j hj => Lib.bytesWorld_cell w 5 s' j hj
  have hbd := W.byt_bd
  by_cases h4 : s.size ≤ 4
  · have hB : Bel w (Lib.bytesWorld w 5 s) := bel_bytes w _ s
    go_enter Tryz.func169, Tryz.ntmps169
    go_wp2
    go_loop [3, 4, 5, 13] (fun n _ _ i => ∃ k : Nat, k ≤ s.size ∧ i = .int .i64 k ∧ n = .int .u32 (W.getK s.data.toList k)) (fun _ _ _ i => s.size - (intOf i).toNat)
    case atStart => exact ⟨0, by omega, rfl, rfl⟩
    case round =>
      obtain ⟨k, hk, rfl, rfl⟩ := hrel
      have hb1 := hbd s.data.toList k
      clear hbd
      by_cases c1 : k < s.size
      · have HK := hid (W.getK_or s.data.toList k (by omega))
        go_wp2
        go_round
        case rel => exact ⟨k + 1, by omega, by go_num, by rw [← HK.out]⟩
        case measure => simp [intOf]; omega
      · have HK := hid (W.getK_eq s.data.toList k (by omega) (Or.inr (by simp; omega)))
        go_wp2
        go_ret
        exact ⟨ret_int (by rw [HK.out]), hB⟩
  · have hB : Bel w (Lib.bytesWorld w 5 (s.extract 0 4)) := bel_bytes w _ _
    have hmin : min 4 s.size = 4 := by omega
    have hcell4 : ∀ j : Nat, j < 4 → (Lib.bytesWorld w 5 (s.extract 0 4)).cell? ⟨w.heap.size, j, none⟩ = some (.int .u8 (W.byt s.data.toList j)) := fun j hj => by
      rw [hcell _ j (by simp; omega), byt_extract s 4 j hj]
    clear hcell
    go_enter Tryz.func169, Tryz.ntmps169
    go_wp2
    go_loop [3, 4, 5, 13] (fun n _ _ i => ∃ k : Nat, k ≤ 4 ∧ i = .int .i64 k ∧ n = .int .u32 (W.getK s.data.toList k)) (fun _ _ _ i => 4 - (intOf i).toNat)
    case atStart => exact ⟨0, by omega, rfl, rfl⟩
    case round =>
      obtain ⟨k, hk, rfl, rfl⟩ := hrel
      have hb1 := hbd s.data.toList k
      clear hbd
      by_cases c1 : k < 4
      · have HK := hid (W.getK_or s.data.toList k (by omega))
        go_wp2
        go_round
        case rel => exact ⟨k + 1, by omega, by go_num, by rw [← HK.out]⟩
        case measure => simp [intOf]; omega
      · have HK := hid (W.getK_eq s.data.toList k (by omega) (Or.inl (by omega)))
        go_wp2
        go_ret
        exact ⟨ret_int (by rw [HK.out]), hB⟩
theorem Put_any (n k : Int) (h0 : 0 ≤ n) (h1 : n < 4294967296) (k0 : -9223372036854775808 ≤ k) (k1 : k ≤ 9223372036854775807) (w : World) :
    Calls Tryz.prog 170 #[.int .u32 n, .int .i64 k] w fun e w' => e = .returned (.string (W.put n k)) ∧ Bel w w' := by
  have hcv : ∀ (m : Nat), m ≤ 4 → (convert 38 9 (.slice (some ⟨w.heap.size, 0, none⟩) m 4)).run Tryz.prog (w.alloc (.cells #[.int .u8 (n % 256), .int .u8 (n / 256 % 256), .int .u8 (n / 65536 % 256), .int .u8 (n / 16777216)] 5)) = .ok (.string (strOfNums ((W.bytes4 n).take m))) (w.alloc (.cells #[.int .u8 (n % 256), .int .u8 (n / 256 % 256), .int .u8 (n / 65536 % 256), .int .u8 (n / 16777216)] 5)) := by
    intro m hm
    refine run_convert_bytes_arg _ _ _ Tryz.underlying38 Tryz.underlying5 _ 0 m 4 _ (by rw [List.length_take]; have : (W.bytes4 n).length = 4 := rfl; omega) ?_ _ Tryz.underlying9
    intro i hi
    have e : n / 16777216 = n / 16777216 % 256 := by omega
    rw [Nat.zero_add, e]
    rcases (by omega : i = 0 ∨ i = 1 ∨ i = 2 ∨ i = 3) with rfl | rfl | rfl | rfl <;> simp [W.bytes4, List.getD, hi, World.cell?_alloc_mark]
  by_cases c1 : k ≤ 0
  · have e := hid (show W.put n k = strOfNums ((W.bytes4 n).take 0) by unfold W.put; rw [show (max 0 (min k 4)).toNat = 0 by omega])
    have hcv0 := hcv 0 (by omega)
    have H := hid hcv
    clear hcv
    go_enter Tryz.func170, Tryz.ntmps170
    go_wp2
    go_ret
    exact ⟨by rw [e.out]; rfl, Nz.bel⟩
  · by_cases c2 : k ≤ 4
    · have e := hid (show W.put n k = strOfNums ((W.bytes4 n).take k.toNat) by unfold W.put; rw [show (max 0 (min k 4)).toNat = k.toNat by omega])
      have hcv0 := hcv k.toNat (by omega)
      have H := hid hcv
      clear hcv
      go_enter Tryz.func170, Tryz.ntmps170
      go_wp2
      go_ret
      exact ⟨by rw [e.out]; rfl, Nz.bel⟩
    · have e := hid (show W.put n k = strOfNums ((W.bytes4 n).take 4) by unfold W.put; rw [show (max 0 (min k 4)).toNat = 4 by omega])
      have hcv0 := hcv 4 (by omega)
      have H := hid hcv
      clear hcv
      go_enter Tryz.func170, Tryz.ntmps170
      go_wp2
      go_ret
      exact ⟨by rw [e.out]; rfl, Nz.bel⟩
/-- An instruction, as seven numbers. -/
structure K.Ins where
  op : Int
  d : Int
  s : Int
  ix : Int
  sc : Int
  imm : Int
  sz : Int
/-- The cells of an instruction at block g. -/
structure Ki (g : Nat) (i : K.Ins) (w : World) : Prop where
  c0 : w.cell? ⟨g, 0, none⟩ = some (.int .i64 i.op)
  c1 : w.cell? ⟨g, 1, none⟩ = some (.int .i64 i.d)
  c2 : w.cell? ⟨g, 2, none⟩ = some (.int .i64 i.s)
  c3 : w.cell? ⟨g, 3, none⟩ = some (.int .i64 i.ix)
  c4 : w.cell? ⟨g, 4, none⟩ = some (.int .i64 i.sc)
  c5 : w.cell? ⟨g, 5, none⟩ = some (.int .u32 i.imm)
  c6 : w.cell? ⟨g, 6, none⟩ = some (.int .i64 i.sz)
  fz : ∀ j, w.frozen? ⟨g, j, none⟩ = false
/-- A reader of the string s, of which n bytes are read: its two captured cells. -/
structure Rd (ga gs : Nat) (s : ByteArray) (n : Nat) (w : World) : Prop where
  at' : w.cell? ⟨ga, 0, none⟩ = some (.int .i64 n)
  fz : w.frozen? ⟨ga, 0, none⟩ = false
  str : w.cell? ⟨gs, 0, none⟩ = some (.string s)
  ne : ga ≠ gs
theorem Ki.ch {S : Nat → Prop} {g : Nat} {i : K.Ins} {w w' : World} (h : Ki g i w) (k : Ch S w w') (hn : ¬ S g) : Ki g i w' := by
  have hb := lt_of_cell h.c0
  exact ⟨(k.cell g 0 hb hn).trans h.c0, (k.cell g 1 hb hn).trans h.c1, (k.cell g 2 hb hn).trans h.c2, (k.cell g 3 hb hn).trans h.c3, (k.cell g 4 hb hn).trans h.c4, (k.cell g 5 hb hn).trans h.c5, (k.cell g 6 hb hn).trans h.c6, fun j => (k.frozen g j hb hn).trans (h.fz j)⟩
theorem Rd.ch {S : Nat → Prop} {ga gs n : Nat} {s : ByteArray} {w w' : World} (h : Rd ga gs s n w) (k : Ch S w w') (hn : ¬ S ga) (hm : ¬ S gs) : Rd ga gs s n w' := by
  have hb := lt_of_cell h.at'
  have hs := lt_of_cell h.str
  exact ⟨(k.cell ga 0 hb hn).trans h.at', (k.frozen ga 0 hb hn).trans h.fz, (k.cell gs 0 hs hm).trans h.str, h.ne⟩
theorem Rd.bel {ga gs n : Nat} {s : ByteArray} {w w' : World} (h : Rd ga gs s n w) (k : Bel w w') : Rd ga gs s n w' := h.ch (k.ch fun _ => False) id id
theorem Ki.bel {g : Nat} {i : K.Ins} {w w' : World} (h : Ki g i w) (k : Bel w w') : Ki g i w' := h.ch (k.ch fun _ => False) id
theorem other_cell (w : World) {g j g' j' : Nat} (v : Value) (h : g ≠ g' ∨ j ≠ j') : (w.setCell ⟨g, j, none⟩ v).cell? ⟨g', j', none⟩ = w.cell? ⟨g', j', none⟩ := by
  refine World.cell?_setCell_other _ _ _ _ ?_
  intro q; injection q with h1 h2 _; rcases h with h | h
  · exact h h1
  · exact h h2
theorem Ki.d' {g : Nat} {i : K.Ins} {w : World} (h : Ki g i w) (v : Int) : Ki g { i with d := v } (w.setCell ⟨g, 1, none⟩ (.int .i64 v)) :=
  ⟨by rw [other_cell _ _ (by simp)]; exact h.c0, cell_set h.c1, by rw [other_cell _ _ (by simp)]; exact h.c2, by rw [other_cell _ _ (by simp)]; exact h.c3, by rw [other_cell _ _ (by simp)]; exact h.c4, by rw [other_cell _ _ (by simp)]; exact h.c5, by rw [other_cell _ _ (by simp)]; exact h.c6, fun j => by rw [frozen_set]; exact h.fz j⟩
theorem Ki.s' {g : Nat} {i : K.Ins} {w : World} (h : Ki g i w) (v : Int) : Ki g { i with s := v } (w.setCell ⟨g, 2, none⟩ (.int .i64 v)) :=
  ⟨by rw [other_cell _ _ (by simp)]; exact h.c0, by rw [other_cell _ _ (by simp)]; exact h.c1, cell_set h.c2, by rw [other_cell _ _ (by simp)]; exact h.c3, by rw [other_cell _ _ (by simp)]; exact h.c4, by rw [other_cell _ _ (by simp)]; exact h.c5, by rw [other_cell _ _ (by simp)]; exact h.c6, fun j => by rw [frozen_set]; exact h.fz j⟩
theorem Ki.ix' {g : Nat} {i : K.Ins} {w : World} (h : Ki g i w) (v : Int) : Ki g { i with ix := v } (w.setCell ⟨g, 3, none⟩ (.int .i64 v)) :=
  ⟨by rw [other_cell _ _ (by simp)]; exact h.c0, by rw [other_cell _ _ (by simp)]; exact h.c1, by rw [other_cell _ _ (by simp)]; exact h.c2, cell_set h.c3, by rw [other_cell _ _ (by simp)]; exact h.c4, by rw [other_cell _ _ (by simp)]; exact h.c5, by rw [other_cell _ _ (by simp)]; exact h.c6, fun j => by rw [frozen_set]; exact h.fz j⟩
theorem Ki.sc' {g : Nat} {i : K.Ins} {w : World} (h : Ki g i w) (v : Int) : Ki g { i with sc := v } (w.setCell ⟨g, 4, none⟩ (.int .i64 v)) :=
  ⟨by rw [other_cell _ _ (by simp)]; exact h.c0, by rw [other_cell _ _ (by simp)]; exact h.c1, by rw [other_cell _ _ (by simp)]; exact h.c2, by rw [other_cell _ _ (by simp)]; exact h.c3, cell_set h.c4, by rw [other_cell _ _ (by simp)]; exact h.c5, by rw [other_cell _ _ (by simp)]; exact h.c6, fun j => by rw [frozen_set]; exact h.fz j⟩
theorem Ki.imm' {g : Nat} {i : K.Ins} {w : World} (h : Ki g i w) (v : Int) : Ki g { i with imm := v } (w.setCell ⟨g, 5, none⟩ (.int .u32 v)) :=
  ⟨by rw [other_cell _ _ (by simp)]; exact h.c0, by rw [other_cell _ _ (by simp)]; exact h.c1, by rw [other_cell _ _ (by simp)]; exact h.c2, by rw [other_cell _ _ (by simp)]; exact h.c3, by rw [other_cell _ _ (by simp)]; exact h.c4, cell_set h.c5, by rw [other_cell _ _ (by simp)]; exact h.c6, fun j => by rw [frozen_set]; exact h.fz j⟩
theorem Rd.set {ga gs gi n j : Nat} {s : ByteArray} {w : World} {v : Value} (h : Rd ga gs s n w) (h1 : ga ≠ gi) (h2 : gs ≠ gi) : Rd ga gs s n (w.setCell ⟨gi, j, none⟩ v) :=
  ⟨by rw [other_cell _ _ (.inl h1.symm)]; exact h.at', by rw [frozen_set]; exact h.fz, by rw [other_cell _ _ (.inl h2.symm)]; exact h.str, h.ne⟩
theorem Ch.then' {ga gi : Nat} {a b c : World} (h : Ch (fun x => x = ga) a b) (k : Ch (fun x => x = gi) b c) (v : Value) (i : Nat) : Ch (fun x => x = ga ∨ x = gi) a (c.setCell ⟨gi, i, none⟩ v) :=
  Ch.setCell ((h.mono fun x _ e => .inl e).trans' k (fun x _ e => .inr e)) (fun _ => .inr rfl) v
theorem next_any (ga gs : Nat) (s : ByteArray) (n : Nat) (w : World) (h : Rd ga gs s n w) (hn : n < s.size) (hs : s.size ≤ maxLen) :
    Calls Tryz.prog 129 #[.pointer (some ⟨ga, 0, none⟩), .pointer (some ⟨gs, 0, none⟩)] w fun e w' => e = .returned (.int .u8 (W.byt s.data.toList n)) ∧ Rd ga gs s (n + 1) w' ∧ Ch (fun x => x = ga) w w' := by
  unfold maxLen at hs
  obtain ⟨c0, c1, c2, c3⟩ := h
  have hw : IntKind.i64.wrap ((n : Int) + 1) = (n : Int) + 1 := IntWalk.i64_in _ (by omega)
  have hc := fun v => cell_set (v := v) c0
  have hd : ∀ v, (w.setCell ⟨ga, 0, none⟩ v).cell? ⟨gs, 0, none⟩ = some (.string s) := fun v => by rw [other_cell _ _ (.inl c3)]; exact c2
  go_enter Tryz.func129, Tryz.ntmps129
  go_wp2
  go_ret
  exact ⟨ret_int (W.byt_at s n hn), ⟨by rw [hc]; rfl, by rw [frozen_set]; exact c1, hd _, c3⟩, (Ch.refl (fun x => x = ga) w).setCell (p := ⟨ga, 0, none⟩) (fun _ => rfl) _⟩
/-- The function with number f reads k bytes and turns the instruction by t. -/
def TakeOK (f : FuncId) (k : Nat) (t : List UInt8 → Nat → K.Ins → K.Ins) : Prop := ∀ (ga gs gi : Nat) (s : ByteArray) (n : Nat) (i : K.Ins) (w : World), Rd ga gs s n w → Ki gi i w → ga ≠ gi → gs ≠ gi → n + k ≤ s.size → s.size ≤ maxLen →
  Calls Tryz.prog f #[.func (.func 129) #[] #[.pointer (some ⟨ga, 0, none⟩), .pointer (some ⟨gs, 0, none⟩)], .pointer (some ⟨gi, 0, none⟩)] w fun e w' => e = .returned (.tuple #[]) ∧ Rd ga gs s (n + k) w' ∧ Ki gi (t s.data.toList n i) w' ∧ Ch (fun x => x = ga ∨ x = gi) w w'
theorem K.and15 (b : Int) (h0 : 0 ≤ b) (h1 : b < 256) : bits .and .i64 b 15 = b % 16 := W.i64_and_mask 4 (by decide) b
theorem none_ok : TakeOK 136 0 (fun _ _ i => i) := by
  intro ga gs gi s n i w hr hk h1 h2 hn hs
  go_enter Tryz.func136, Tryz.ntmps136
  go_wp2
  go_end0
  exact ⟨rfl, hr, hk, Ch.refl _ _⟩
theorem reg_ok : TakeOK 138 1 (fun l n i => { i with d := W.byt l n }) := by
  intro ga gs gi s n i w hr hk h1 h2 hn hs
  have hb := W.byt_bd s.data.toList n
  go_enter Tryz.func138, Tryz.ntmps138
  go_wp2_with (go_at_call 129; refine (next_any _ _ _ _ _ hr (by omega) hs).mono ?_; rintro e w' ⟨rfl, hr1, hch⟩; have hk1 := hk.ch hch (fun e => h1 e.symm); have d1 := hk1.c1; have df := hk1.fz 1)
  go_end0
  exact ⟨rfl, hr1.set h1 h2, hk1.d' _, hch.then' (Ch.refl (fun x => x = gi) w') _ _⟩
theorem plain_ok : TakeOK 150 1 (fun l n i => { i with imm := W.byt l n }) := by
  intro ga gs gi s n i w hr hk h1 h2 hn hs
  have hb := W.byt_bd s.data.toList n
  go_enter Tryz.func150, Tryz.ntmps150
  go_wp2_with (go_at_call 129; refine (next_any _ _ _ _ _ hr (by omega) hs).mono ?_; rintro e w' ⟨rfl, hr1, hch⟩; have hk1 := hk.ch hch (fun e => h1 e.symm); have d1 := hk1.c5; have df := hk1.fz 5)
  go_end0
  exact ⟨rfl, hr1.set h1 h2, hk1.imm' _, hch.then' (Ch.refl (fun x => x = gi) w') _ _⟩
theorem small_ok : TakeOK 143 1 (fun l n i => { i with imm := W.sign (W.byt l n) 8 }) := by
  intro ga gs gi s n i w hr hk h1 h2 hn hs
  have hb := W.byt_bd s.data.toList n
  go_enter Tryz.func143, Tryz.ntmps143
  go_wp2_with (first
    | (go_at_call 129; refine (next_any _ _ _ _ _ hr (by omega) hs).mono ?_; rintro e w' ⟨rfl, hr1, hch⟩)
    | (go_at_call 167; refine (Sign_any _ _ (by omega) (by omega) (by omega) (by omega) _).mono ?_; rintro e w'' ⟨rfl, hb1⟩; have hch2 := hch.then hb1; have hr2 := hr1.bel hb1; have hk1 := hk.ch hch2 (fun e => h1 e.symm); have d1 := hk1.c5; have df := hk1.fz 5))
  go_end0
  exact ⟨rfl, hr2.set h1 h2, hk1.imm' _, hch2.then' (Ch.refl (fun x => x = gi) w'') _ _⟩
theorem pair_ok : TakeOK 140 1 (fun l n i => { i with d := W.byt l n / 16, s := W.byt l n % 16 }) := by
  intro ga gs gi s n i w hr hk h1 h2 hn hs
  have hb := W.byt_bd s.data.toList n
  go_enter Tryz.func140, Tryz.ntmps140
  go_wp2_with (go_at_call 129; refine (next_any _ _ _ _ _ hr (by omega) hs).mono ?_; rintro e w' ⟨rfl, hr1, hch⟩; have hk1 := hk.ch hch (fun e => h1 e.symm); have d1 := hk1.c1; have df := hk1.fz 1; have e1 := hk1.c2; have ef := hk1.fz 2)
  go_end0
  refine ⟨rfl, (hr1.set h1 h2).set h1 h2, ?_, (hch.then' (Ch.refl (fun x => x = gi) w') _ _).setCell (fun _ => .inr rfl) _⟩
  rw [K.and15 _ hb.1 hb.2]
  exact (hk1.d' (W.byt s.data.toList n / 16)).s' (W.byt s.data.toList n % 16)
theorem index_ok : TakeOK 148 1 (fun l n i => if W.byt l n = 8 then i else { i with ix := W.byt l n % 16, sc := W.byt l n / 16 }) := by
  intro ga gs gi s n i w hr hk h1 h2 hn hs
  have hb := W.byt_bd s.data.toList n
  by_cases h8 : W.byt s.data.toList n = 8
  · have HB := hid h8
    have hq : (W.byt s.data.toList n == 8) = true := by simp [h8]
    clear h8
    go_enter Tryz.func148, Tryz.ntmps148
    go_wp2_with (go_at_call 129; refine (next_any _ _ _ _ _ hr (by omega) hs).mono ?_; rintro e w' ⟨rfl, hr1, hch⟩; have hk1 := hk.ch hch (fun e => h1 e.symm))
    go_end0
    exact ⟨rfl, hr1, hk1, hch.mono fun x _ h => .inl h⟩
  · have HB := hid h8
    have hq : (W.byt s.data.toList n == 8) = false := by simp [h8]
    clear h8
    go_enter Tryz.func148, Tryz.ntmps148
    go_wp2_with (go_at_call 129; refine (next_any _ _ _ _ _ hr (by omega) hs).mono ?_; rintro e w' ⟨rfl, hr1, hch⟩; have hk1 := hk.ch hch (fun e => h1 e.symm); have d1 := hk1.c3; have df := hk1.fz 3; have e1 := hk1.c4; have ef := hk1.fz 4)
    go_end0
    refine ⟨rfl, (hr1.set h1 h2).set h1 h2, ?_, (hch.then' (Ch.refl (fun x => x = gi) w') _ _).setCell (fun _ => .inr rfl) _⟩
    rw [K.and15 _ hb.1 hb.2]
    exact (hk1.ix' (W.byt s.data.toList n % 16)).sc' (W.byt s.data.toList n / 16)
/-- Four bytes from the n-th on, as a word. -/
def K.four (l : List UInt8) (n : Nat) : Int := W.byt l n + 256 * W.byt l (n + 1) + 65536 * W.byt l (n + 2) + 16777216 * W.byt l (n + 3)
theorem K.get_four (l : List UInt8) (n : Nat) : W.get (strOfNums [W.byt l n, W.byt l (n + 1), W.byt l (n + 2), W.byt l (n + 3)]).data.toList = K.four l n := by
  have e : ∀ m, (((UInt8.ofNat (W.byt l m).toNat).toNat : Nat) : Int) = W.byt l m := fun m => by
    have := W.byt_bd l m
    simp; omega
  show (((UInt8.ofNat (W.byt l n).toNat).toNat : Nat) : Int) + 256 * (((UInt8.ofNat (W.byt l (n + 1)).toNat).toNat : Nat) : Int) + 65536 * (((UInt8.ofNat (W.byt l (n + 2)).toNat).toNat : Nat) : Int) + 16777216 * (((UInt8.ofNat (W.byt l (n + 3)).toNat).toNat : Nat) : Int) = _
  rw [e, e, e, e]; rfl
theorem full_ok : TakeOK 146 4 (fun l n i => { i with imm := K.four l n }) := by
  intro ga gs gi s n i w hr hk h1 h2 hn hs
  have hg := K.get_four s.data.toList n
  have b0 := W.byt_bd s.data.toList n
  have b1 := W.byt_bd s.data.toList (n + 1)
  have b2 := W.byt_bd s.data.toList (n + 2)
  have b3 := W.byt_bd s.data.toList (n + 3)
  have hcv : ∀ (wx : World), (convert 38 9 (.slice (some ⟨wx.heap.size, 0, none⟩) 4 4)).run Tryz.prog (wx.alloc (.cells #[.int .u8 (W.byt s.data.toList n), .int .u8 (W.byt s.data.toList (n + 1)), .int .u8 (W.byt s.data.toList (n + 2)), .int .u8 (W.byt s.data.toList (n + 3))] 5)) = .ok (.string (strOfNums [W.byt s.data.toList n, W.byt s.data.toList (n + 1), W.byt s.data.toList (n + 2), W.byt s.data.toList (n + 3)])) (wx.alloc (.cells #[.int .u8 (W.byt s.data.toList n), .int .u8 (W.byt s.data.toList (n + 1)), .int .u8 (W.byt s.data.toList (n + 2)), .int .u8 (W.byt s.data.toList (n + 3))] 5)) := by
    intro wx
    refine run_convert_bytes_arg _ _ _ Tryz.underlying38 Tryz.underlying5 _ 0 4 4 _ rfl ?_ _ Tryz.underlying9
    intro i hi
    have hi' : i < 4 := hi
    rw [Nat.zero_add]
    rcases (by omega : i = 0 ∨ i = 1 ∨ i = 2 ∨ i = 3) with rfl | rfl | rfl | rfl <;> simp [List.getD, World.cell?_alloc_mark]
  have hsz : (strOfNums [W.byt s.data.toList n, W.byt s.data.toList (n + 1), W.byt s.data.toList (n + 2), W.byt s.data.toList (n + 3)]).size ≤ maxLen := by rw [strOfNums_size]; unfold maxLen; simp
  generalize strOfNums [W.byt s.data.toList n, W.byt s.data.toList (n + 1), W.byt s.data.toList (n + 2), W.byt s.data.toList (n + 3)] = y at *
  go_enter Tryz.func146, Tryz.ntmps146
  go_wp2_with (first
    | (go_at_call 129; refine (next_any _ _ _ (n + 3) _ (by assumption) (by omega) hs).mono ?_; rintro e w4 ⟨rfl, hr4, hch4⟩)
    | (go_at_call 129; refine (next_any _ _ _ (n + 2) _ (by assumption) (by omega) hs).mono ?_; rintro e w3 ⟨rfl, hr3, hch3⟩)
    | (go_at_call 129; refine (next_any _ _ _ (n + 1) _ (by assumption) (by omega) hs).mono ?_; rintro e w2 ⟨rfl, hr2, hch2⟩)
    | (go_at_call 129; refine (next_any _ _ _ n _ hr (by omega) hs).mono ?_; rintro e w1 ⟨rfl, hr1, hch1⟩)
    | (go_at_call 169; refine (Get_any _ hsz _).mono ?_; rintro e w5 ⟨rfl, hb5⟩; have ha5 := Bel.trans (Bel.alloc (Bel.refl _) _) hb5; have hch5 := (((hch1.trans hch2).trans hch3).trans hch4).then ha5; have hr5 := hr4.bel ha5; have hk1 := hk.ch hch5 (fun e => h1 e.symm); have d1 := hk1.c5; have df := hk1.fz 5))
  go_end0
  refine ⟨rfl, hr5.set h1 h2, ?_, hch5.then' (Ch.refl (fun x => x = gi) w5) _ _⟩
  exact hk1.imm' _
theorem Q.wrap_bd (x : Int) : 0 ≤ IntKind.wrap .u32 x ∧ IntKind.wrap .u32 x < 4294967296 := by
  show 0 ≤ x % 4294967296 ∧ x % 4294967296 < 4294967296
  omega
theorem Q.bifP {α : Type} {p : α → Prop} {c : Bool} {x y : α} (hx : c = true → p x) (hy : c = false → p y) : p (bif c then x else y) := by
  cases c
  · exact hy rfl
  · exact hx rfl
/-- A shift to the left by an integer that isn't negative. -/
theorem E.shlI {P : Program} {fr : E.Fr} {T : TypeId} {d : Option Nat} {pos : String} {af : Array Edge} {gd : Option (Nat × Bool)} {t u : TypeId} {x y : Operand} {k k2 : IntKind} (a c : Int) (b : Nat) (hb : k.bits = b) (h0 : 0 ≤ c) (hx : E.ev fr x = .int k a) (hy : E.ev fr y = .int k2 c) (w : World) :
    (execOp (E.ev fr) ⟨d, .binOp .shl t x y u, T, pos, af, gd⟩).run P w = .ok (.value (.int k (k.wrap (a * 2 ^ (min c.toNat b))))) w := by
  obtain ⟨n, rfl⟩ := Int.eq_ofNat_of_zero_le h0
  exact E.shlN a n b hb hx hy w
/-- A state's words are words. -/
structure Q.wf (s : Q.S) : Prop where
  pc : 0 ≤ s.pc ∧ s.pc < 4294967296
  r : ∀ k, 0 ≤ s.r k ∧ s.r k < 4294967296
  c : ∀ k, 0 ≤ s.c k ∧ s.c k < 4294967296
def Q.z0 : Q.S := ⟨0, fun _ => 0, 0, fun _ => 0, 0, 0⟩
/-- A step in progress: the state before, the state behind, the instruction, the trap. -/
structure K.W where
  u : Q.S
  s : Q.S
  i : K.Ins
  k : Int
  t : Int
/-- The memory's functions as values. -/
def K.ldv (m : Nat) : Value := .func (.method "Load") #[.iface 35 (.pointer (some ⟨m, 0, none⟩))] #[]
def K.stv (m : Nat) : Value := .func (.method "Store") #[.iface 35 (.pointer (some ⟨m, 0, none⟩))] #[]
def K.tail (i : K.Ins) (k t : Int) (m : Nat) : List Value := [.int .i64 i.op, .int .i64 i.d, .int .i64 i.s, .int .i64 i.ix, .int .i64 i.sc, .int .u32 i.imm, .int .i64 i.sz, .int .i64 k, .int .u32 t, K.ldv m, K.stv m]
/-- The cells of a step in progress. -/
def K.wk (x : K.W) (m : Nat) : List Value := Q.S.cells x.u ++ (Q.S.cells x.s ++ K.tail x.i x.k x.t m)
theorem K.ld_u {P : Program} {t : TypeId} {x : K.W} {m D : Nat} (hu : P.underlying t = some (.int .u32)) (h : D < 16) : E.ld P t (K.wk x m) (1 + D) = some (.int .u32 (x.u.r D)) := by
  rw [E.ld_one hu]
  rcases (by omega : D = 0 ∨ D = 1 ∨ D = 2 ∨ D = 3 ∨ D = 4 ∨ D = 5 ∨ D = 6 ∨ D = 7 ∨ D = 8 ∨ D = 9 ∨ D = 10 ∨ D = 11 ∨ D = 12 ∨ D = 13 ∨ D = 14 ∨ D = 15) with rfl | rfl | rfl | rfl | rfl | rfl | rfl | rfl | rfl | rfl | rfl | rfl | rfl | rfl | rfl | rfl <;> rfl
theorem K.ld_s {P : Program} {t : TypeId} {x : K.W} {m D : Nat} (hu : P.underlying t = some (.int .u32)) (h : D < 16) : E.ld P t (K.wk x m) (25 + D) = some (.int .u32 (x.s.r D)) := by
  rw [E.ld_one hu]
  rcases (by omega : D = 0 ∨ D = 1 ∨ D = 2 ∨ D = 3 ∨ D = 4 ∨ D = 5 ∨ D = 6 ∨ D = 7 ∨ D = 8 ∨ D = 9 ∨ D = 10 ∨ D = 11 ∨ D = 12 ∨ D = 13 ∨ D = 14 ∨ D = 15) with rfl | rfl | rfl | rfl | rfl | rfl | rfl | rfl | rfl | rfl | rfl | rfl | rfl | rfl | rfl | rfl <;> rfl
theorem K.ld_c {P : Program} {t : TypeId} {x : K.W} {m D : Nat} (hu : P.underlying t = some (.int .u32)) (h : D < 4) : E.ld P t (K.wk x m) (42 + D) = some (.int .u32 (x.s.c D)) := by
  rw [E.ld_one hu]
  rcases (by omega : D = 0 ∨ D = 1 ∨ D = 2 ∨ D = 3) with rfl | rfl | rfl | rfl <;> rfl
theorem K.sto_s {P : Program} {t : TypeId} {x : K.W} {m D : Nat} {v : Int} (hi : (P.info? t).map (·.size) = some 1) (h : D < 16) : E.sto P t (K.wk x m) (25 + D) (.int .u32 v) = some (K.wk { x with s := { x.s with r := Q.up x.s.r D v } } m) := by
  rw [E.sto_one hi (by show 25 + D < 59; omega)]
  rcases (by omega : D = 0 ∨ D = 1 ∨ D = 2 ∨ D = 3 ∨ D = 4 ∨ D = 5 ∨ D = 6 ∨ D = 7 ∨ D = 8 ∨ D = 9 ∨ D = 10 ∨ D = 11 ∨ D = 12 ∨ D = 13 ∨ D = 14 ∨ D = 15) with rfl | rfl | rfl | rfl | rfl | rfl | rfl | rfl | rfl | rfl | rfl | rfl | rfl | rfl | rfl | rfl <;> rfl
theorem K.sto_c {P : Program} {t : TypeId} {x : K.W} {m D : Nat} {v : Int} (hi : (P.info? t).map (·.size) = some 1) (h : D < 4) : E.sto P t (K.wk x m) (42 + D) (.int .u32 v) = some (K.wk { x with s := { x.s with c := Q.up x.s.c D v } } m) := by
  rw [E.sto_one hi (by show 42 + D < 59; omega)]
  rcases (by omega : D = 0 ∨ D = 1 ∨ D = 2 ∨ D = 3) with rfl | rfl | rfl | rfl <;> rfl
/-- The orders of a region meet: what follows is shown once. -/
theorem E.C.joint {P : Program} {n : Nat} {Q : Exit → Act → World → Prop} {S : Nat → Prop} {w0 : World} {X : World → Prop} {L : List (Nat × List Value)} {fr : E.Fr} {x y : Code}
    (h : ∀ K : E.Fr → (World → Prop) → List (Nat × List Value) → Prop, (∀ fr X L, E.C P n Q y fr S w0 X L → K fr X L) → (∀ fr X L, K fr X L → ∀ a w, E.St n fr a → E.Hp S w0 X L w → y.wp P Q a w) → E.C P n (Exit.then (y.wp P Q) Q) x fr S w0 X L) : E.C P n Q (.seq x y) fr S w0 X L :=
  E.C.seq (h (fun fr X L => E.C P n Q y fr S w0 X L) (fun _ _ _ k => k) (fun _ _ _ k => E.To.code k))
/-- The same where what follows is named by the goal. -/
theorem E.C.jn {P : Program} {n : Nat} {Q : Exit → Act → World → Prop} {S : Nat → Prop} {w0 : World} {X : World → Prop} {L : List (Nat × List Value)} {fr : E.Fr} {x y : Code}
    (h : ∀ K : E.Fr → (World → Prop) → List (Nat × List Value) → Prop, (∀ fr X L, E.C P n Q y fr S w0 X L → K fr X L) → (∀ fr X L, K fr X L → ∀ a w, E.St n fr a → E.Hp S w0 X L w → y.wp P Q a w) → E.C P n (Exit.then (y.wp P Q) Q) x fr S w0 X L) : E.C P n (Exit.then (y.wp P Q) Q) x fr S w0 X L :=
  h (fun fr X L => E.C P n Q y fr S w0 X L) (fun _ _ _ k => k) (fun _ _ _ k => E.To.code k)
/-- The closure that sets a flag in the captured word. -/
theorem packed1_any (flag f : Int) (on : Bool) (g : Nat) (w : World) (h : w.cell? ⟨g, 0, none⟩ = some (.int .u32 f)) (hf : w.frozen? ⟨g, 0, none⟩ = false) :
    Calls Tryz.prog 165 #[.int .u32 flag, .bool on, .pointer (some ⟨g, 0, none⟩)] w fun e w' => e = .returned (.tuple #[]) ∧
      w'.cell? ⟨g, 0, none⟩ = some (.int .u32 (W.orIf on f flag)) ∧ w'.frozen? ⟨g, 0, none⟩ = false ∧ Ch (· = g) w w' := by
  cases on
  · go_enter Tryz.func165, Tryz.ntmps165
    go_wp2
    go_end0
    exact ⟨rfl, h, hf, Ch.refl _ _⟩
  · go_enter Tryz.func165, Tryz.ntmps165
    go_wp2
    go_end0
    exact ⟨rfl, cell_set h, by rw [frozen_set]; exact hf, (Ch.refl (fun x => x = g) w).setCell (p := ⟨g, 0, none⟩) (fun _ => rfl) _⟩

theorem packed_any (r : Int) (c v : Bool) (h0 : 0 ≤ r) (h1 : r < 4294967296) (w : World) :
    Calls Tryz.prog 133 #[.int .u32 r, .bool c, .bool v] w fun e w' => e = .returned (.int .u32 (W.pack r c v)) ∧ Bel w w' := by
  have HP := hid (W.orIf_pack r c v h0)
  go_enter Tryz.func133, Tryz.ntmps133
  go_wp2_with (first
     | (go_at_call 165; refine (packed1_any _ _ _ _ _ (by assumption) (by assumption)).mono ?_; rintro e w' ⟨rfl, hc, hf, hch⟩)
     | (go_at_call 165; refine (packed1_any _ 0 _ _ _ (by go_simp) (by go_simp)).mono ?_; rintro e w' ⟨rfl, hc, hf, hch⟩))
  go_ret
  exact ⟨ret_int HP.out, Nz.bel⟩

theorem sum_any (a b c : Int) (ha : 0 ≤ a) (ha' : a < 4294967296) (hb : 0 ≤ b) (hb' : b < 4294967296) (hc : 0 ≤ c) (hc' : c ≤ 1) (w : World) :
    Calls Tryz.prog 132 #[.int .u32 a, .int .u32 b, .int .u32 c] w fun e w' =>
      e = .returned (.int .u32 (W.pack ((a + b + c) % 4294967296) (decide (4294967296 ≤ a + b + c)) (W.out (W.sg a + W.sg b + c)))) ∧ Bel w w' := by
  have HO := hid (W.ovf a b c ha ha' hb hb' hc hc')
  go_enter Tryz.func132, Tryz.ntmps132
  go_wp2_with (go_at_call 133; refine (packed_any _ _ _ (by omega) (by omega) _).mono ?_; rintro e w' ⟨rfl, hb⟩)
  go_ret
  exact ⟨ret_int (by rw [HO.out]), Nz.bel⟩

theorem Flags_0 (a b : Int) (ha : 0 ≤ a) (ha' : a < 4294967296) (hb : 0 ≤ b) (hb' : b < 4294967296) (w : World) :
    Calls Tryz.prog 120 #[.int .i64 0, .int .u32 a, .int .u32 b] w fun e w' => e = .returned (.int .u32 (W.flags 0 a b)) ∧ Bel w w' := by
  have e := W.and15 a ha ha'
  go_enter Tryz.func120, Tryz.ntmps120
  go_wp2_with (first
    | (go_at_call 132; refine (sum_any _ _ _ (by omega) (by omega) (by omega) (by omega) (by omega) (by omega) _).mono ?_; rintro e w' ⟨rfl, hb⟩)
    | (go_at_call 133; refine (packed_any _ _ _ (by omega) (by omega) _).mono ?_; rintro e w' ⟨rfl, hb⟩))
  go_ret
  exact ⟨ret_int (by rw [W.flags_0]), Nz.bel⟩
theorem Flags_1 (a b : Int) (ha : 0 ≤ a) (ha' : a < 4294967296) (hb : 0 ≤ b) (hb' : b < 4294967296) (w : World) :
    Calls Tryz.prog 120 #[.int .i64 1, .int .u32 a, .int .u32 b] w fun e w' => e = .returned (.int .u32 (W.flags 1 a b)) ∧ Bel w w' := by
  go_enter Tryz.func120, Tryz.ntmps120
  go_wp2_with (first
    | (go_at_call 132; refine (sum_any _ _ _ (by omega) (by omega) (by omega) (by omega) (by omega) (by omega) _).mono ?_; rintro e w' ⟨rfl, hb⟩)
    | (go_at_call 133; refine (packed_any _ _ _ (by omega) (by omega) _).mono ?_; rintro e w' ⟨rfl, hb⟩))
  go_ret
  exact ⟨ret_int (by rw [W.flags_1]), Nz.bel⟩
theorem Flags_2 (a b : Int) (ha : 0 ≤ a) (ha' : a < 4294967296) (hb : 0 ≤ b) (hb' : b < 4294967296) (w : World) :
    Calls Tryz.prog 120 #[.int .i64 2, .int .u32 a, .int .u32 b] w fun e w' => e = .returned (.int .u32 (W.flags 2 a b)) ∧ Bel w w' := by
  go_enter Tryz.func120, Tryz.ntmps120
  go_wp2_with (first
    | (go_at_call 132; refine (sum_any _ _ _ (by omega) (by omega) (by omega) (by omega) (by omega) (by omega) _).mono ?_; rintro e w' ⟨rfl, hb⟩)
    | (go_at_call 133; refine (packed_any _ _ _ (by omega) (by omega) _).mono ?_; rintro e w' ⟨rfl, hb⟩))
  go_ret
  exact ⟨ret_int (by rw [W.flags_2]), Nz.bel⟩
theorem Flags_3 (a b : Int) (ha : 0 ≤ a) (ha' : a < 4294967296) (hb : 0 ≤ b) (hb' : b < 4294967296) (w : World) :
    Calls Tryz.prog 120 #[.int .i64 3, .int .u32 a, .int .u32 b] w fun e w' => e = .returned (.int .u32 (W.flags 3 a b)) ∧ Bel w w' := by
  have e := W.not32 b hb hb'
  have HS := hid (W.sub_1 a b ha ha' hb hb')
  go_enter Tryz.func120, Tryz.ntmps120
  go_wp2_with (first
    | (go_at_call 132; refine (sum_any _ _ _ (by omega) (by omega) (by omega) (by omega) (by omega) (by omega) _).mono ?_; rintro e w' ⟨rfl, hb⟩)
    | (go_at_call 133; refine (packed_any _ _ _ (by omega) (by omega) _).mono ?_; rintro e w' ⟨rfl, hb⟩))
  go_ret
  exact ⟨ret_int (by rw [← HS.out]), Nz.bel⟩
theorem Flags_4 (a b : Int) (ha : 0 ≤ a) (ha' : a < 4294967296) (hb : 0 ≤ b) (hb' : b < 4294967296) (w : World) :
    Calls Tryz.prog 120 #[.int .i64 4, .int .u32 a, .int .u32 b] w fun e w' => e = .returned (.int .u32 (W.flags 4 a b)) ∧ Bel w w' := by
  have e := W.not32 b hb hb'
  have HS := hid (W.sub_0 a b ha ha' hb hb')
  go_enter Tryz.func120, Tryz.ntmps120
  go_wp2_with (first
    | (go_at_call 132; refine (sum_any _ _ _ (by omega) (by omega) (by omega) (by omega) (by omega) (by omega) _).mono ?_; rintro e w' ⟨rfl, hb⟩)
    | (go_at_call 133; refine (packed_any _ _ _ (by omega) (by omega) _).mono ?_; rintro e w' ⟨rfl, hb⟩))
  go_ret
  exact ⟨ret_int (by rw [← HS.out]), Nz.bel⟩
theorem Flags_5 (a b : Int) (ha : 0 ≤ a) (ha' : a < 4294967296) (hb : 0 ≤ b) (hb' : b < 4294967296) (w : World) :
    Calls Tryz.prog 120 #[.int .i64 5, .int .u32 a, .int .u32 b] w fun e w' => e = .returned (.int .u32 (W.flags 5 a b)) ∧ Bel w w' := by
  go_enter Tryz.func120, Tryz.ntmps120
  go_wp2_with (first
    | (go_at_call 132; refine (sum_any _ _ _ (by omega) (by omega) (by omega) (by omega) (by omega) (by omega) _).mono ?_; rintro e w' ⟨rfl, hb⟩)
    | (go_at_call 133; refine (packed_any _ _ _ (by omega) (by omega) _).mono ?_; rintro e w' ⟨rfl, hb⟩))
  go_ret
  exact ⟨ret_int (by rw [W.flags_5]), Nz.bel⟩
theorem Flags_n (k a b : Int) (hk : k < 0 ∨ 5 < k) (w : World) :
    Calls Tryz.prog 120 #[.int .i64 k, .int .u32 a, .int .u32 b] w fun e w' => e = .returned (.int .u32 (W.flags k a b)) ∧ Bel w w' := by
  have HF := hid (W.flags_n k a b hk)
  have h0 : (k == 0) = false := by simp; omega
  have h1 : (k == 1) = false := by simp; omega
  have h2 : (k == 2) = false := by simp; omega
  have h3 : (k == 3) = false := by simp; omega
  have h4 : (k == 4) = false := by simp; omega
  have h5 : (k == 5) = false := by simp; omega
  go_enter Tryz.func120, Tryz.ntmps120
  go_wp2_with fail
  go_ret
  exact ⟨ret_int (by rw [HF.out]), Nz.bel⟩
theorem Flags_any (k a b : Int) (ha : 0 ≤ a) (ha' : a < 4294967296) (hb : 0 ≤ b) (hb' : b < 4294967296) (w : World) :
    Calls Tryz.prog 120 #[.int .i64 k, .int .u32 a, .int .u32 b] w fun e w' => e = .returned (.int .u32 (W.flags k a b)) ∧ Bel w w' := by
  rcases (by omega : k = 0 ∨ k = 1 ∨ k = 2 ∨ k = 3 ∨ k = 4 ∨ k = 5 ∨ (k < 0 ∨ 5 < k)) with rfl | rfl | rfl | rfl | rfl | rfl | h
  · exact Flags_0 a b ha ha' hb hb' w
  · exact Flags_1 a b ha ha' hb hb' w
  · exact Flags_2 a b ha ha' hb hb' w
  · exact Flags_3 a b ha ha' hb hb' w
  · exact Flags_4 a b ha ha' hb hb' w
  · exact Flags_5 a b ha ha' hb hb' w
  · exact Flags_n k a b h w

end Go.Proofs.YtglidnmmeclneaaGreat
namespace Go.Proofs.YtglidnmmeclneaaGreat.W
set_option linter.unusedVariables false
set_option linter.unusedSimpArgs false
open Go.RowKit
def b01 (b : Bool) : Int := if b = true then 1 else 0
theorem b01_bd (b : Bool) : 0 ≤ b01 b ∧ b01 b ≤ 1 := by cases b <;> simp [b01]
/-- What an operation yields. -/
def op (c a b : Int) : Int :=
  if c = 3 then (a + b) % 4294967296 else if c = 4 then (a - b) % 4294967296 else if c = 5 then bits .and .u32 a b else if c = 6 then bits .or .u32 a b
  else if c = 7 then bits .xor .u32 a b else if c = 8 then a * 2 ^ (b % 32).toNat % 4294967296 else if c = 9 then a / 2 ^ (b % 32).toNat
  else if c = 10 then sg a / 2 ^ (b % 32).toNat % 4294967296 else if c = 11 then a * b % 4294967296 else if c = 12 then a / b
  else if c = 13 then b01 (a == b) else if c = 14 then b01 (decide (a < b)) else if c = 15 then b01 (decide (sg a < sg b)) else 0
theorem op_n (c a b : Int) (h : c < 3 ∨ 15 < c) : op c a b = 0 := by
  unfold op
  iterate 13 rw [if_neg (by omega)]
theorem sg_wrap (a : Int) (h0 : 0 ≤ a) (h1 : a < 4294967296) : wrap32 a = sg a := by unfold sg wrap32; split <;> omega
theorem op_3 (a b : Int) : op 3 a b = (a + b) % 4294967296 := by simp [op]
theorem op_4 (a b : Int) : op 4 a b = (a - b) % 4294967296 := by simp [op]
theorem op_5 (a b : Int) : op 5 a b = bits .and .u32 a b := by simp [op]
theorem op_6 (a b : Int) : op 6 a b = bits .or .u32 a b := by simp [op]
theorem op_7 (a b : Int) : op 7 a b = bits .xor .u32 a b := by simp [op]
theorem op_8 (a b : Int) : op 8 a b = a * 2 ^ (b % 32).toNat % 4294967296 := by simp [op]
theorem op_9 (a b : Int) : op 9 a b = a / 2 ^ (b % 32).toNat := by simp [op]
theorem op_10 (a b : Int) : op 10 a b = sg a / 2 ^ (b % 32).toNat % 4294967296 := by simp [op]
theorem op_11 (a b : Int) : op 11 a b = a * b % 4294967296 := by simp [op]
theorem op_12 (a b : Int) : op 12 a b = a / b := by simp [op]
theorem op_13 (a b : Int) : op 13 a b = b01 (a == b) := by simp [op]
theorem op_14 (a b : Int) : op 14 a b = b01 (decide (a < b)) := by simp [op]
theorem op_15 (a b : Int) : op 15 a b = b01 (decide (sg a < sg b)) := by simp [op]
theorem bits_bd (o : BinOp) (x y : Int) : 0 ≤ bits o .u32 x y ∧ bits o .u32 x y < 4294967296 := by
  unfold bits
  rw [IntKind.wrap_u32']
  exact ⟨Int.emod_nonneg _ (by decide), Int.emod_lt_of_pos _ (by decide)⟩
def InW (x : Int) : Prop := 0 ≤ x ∧ x < 4294967296
theorem InW.ite {c : Prop} [Decidable c] {a b : Int} (h : InW a) (k : InW b) : InW (if c then a else b) := by split <;> assumption
theorem op_bd (c a b : Int) (ha : 0 ≤ a) (ha' : a < 4294967296) (hb : 0 ≤ b) : 0 ≤ op c a b ∧ op c a b < 4294967296 := by
  show InW (op c a b)
  unfold op
  repeat' (refine InW.ite ?_ ?_)
  all_goals first
    | exact bits_bd _ _ _
    | exact ⟨Int.emod_nonneg _ (by decide), Int.emod_lt_of_pos _ (by decide)⟩
    | exact ⟨by decide, by decide⟩
    | exact ⟨(b01_bd _).1, by have := (b01_bd (a == b)).2; have := (b01_bd (decide (a < b))).2; have := (b01_bd (decide (sg a < sg b))).2; omega⟩
    | exact ⟨Int.ediv_nonneg ha hb, Int.lt_of_le_of_lt (Int.ediv_le_self _ ha) ha'⟩
    | exact ⟨Int.ediv_nonneg ha (Int.le_of_lt (Int.pow_pos (by decide))), Int.lt_of_le_of_lt (Int.ediv_le_self _ ha) ha'⟩
end Go.Proofs.YtglidnmmeclneaaGreat.W
namespace Go.Proofs.YtglidnmmeclneaaGreat
set_option linter.unusedVariables false
set_option linter.unusedSimpArgs false
open Go.RowKit
/-- The words of a step in progress are words. -/
structure K.wf (x : K.W) : Prop where
  u : Q.wf x.u
  s : Q.wf x.s
/-- What Decode gives: its fields. -/
structure K.iok (i : K.Ins) : Prop where
  d : 0 ≤ i.d ∧ i.d < 8
  s : 0 ≤ i.s ∧ i.s < 8
  ix : -1 ≤ i.ix ∧ i.ix < 8
  sc : 0 ≤ i.sc ∧ i.sc < 4
  imm : 0 ≤ i.imm ∧ i.imm < 4294967296
  get : (i.op == 129) = true → i.s < 4
theorem Flags_all (k a b : Int) (ha : 0 ≤ a ∧ a < 4294967296) (hb : 0 ≤ b ∧ b < 4294967296) (w : World) : Calls Tryz.prog 120 #[.int .i64 k, .int .u32 a, .int .u32 b] w fun e w' => e = .returned (.int .u32 (W.flags k a b)) ∧ Bel w w' := Flags_any k a b ha.1 ha.2 hb.1 hb.2 w
theorem Q.bif_bd {c : Bool} {x y : Int} (hx : 0 ≤ x ∧ x < 4294967296) (hy : 0 ≤ y ∧ y < 4294967296) : 0 ≤ (bif c then x else y) ∧ (bif c then x else y) < 4294967296 := by
  cases c
  · exact hy
  · exact hx
def K.fault (x : K.W) (a : Int) : K.W := ⟨x.u, x.s, x.i, 5, a⟩
theorem Fault {b m : Nat} (x : K.W) (a : Int)  : A.Tr Tryz.prog 121 #[.pointer (some ⟨b, 0, none⟩), .int .u32 a] [A.blk b (K.wk x m)] (I := Unit) (fun _ => True) (fun _ => .tuple #[]) (fun _ => [A.blk b (K.wk (K.fault x a) m)]) := by
 intro w oo aa hh
 refine E.enter (n := 9) (S := oo) Tryz.func121 rfl rfl Nz.k (A.start (L := [(b, (K.wk x m))]) hh) (E.C.region (E.op (E.pt b) (E.op (E.u a) (E.vl (.agg #[E.i 5, E.u a]) (fun w h => E.run_build #[E.i 5, E.u a] Nz.k w) (E.op (E.pt b) (E.op (.pointer (some ⟨b, 55, none⟩)) (E.st 0 (K.wk (⟨x.u, x.s, x.i, 5, a⟩) m) rfl rfl (E.To.bodyN (fn := Tryz.f121) [] ?_ ?_))))))))
 · exact trivial
 intro w h
 have e : (K.fault x a) = ⟨x.u, x.s, x.i, 5, a⟩ := by unfold K.fault; rfl
 rw [e]
 exact ⟨(), trivial, rfl, A.dq [0] [] h⟩
def K.flags (x : K.W) (k p q : Int) : K.W := ⟨x.u, ⟨x.s.pc, x.s.r, (W.flags k p q), x.s.c, x.s.st, x.s.du⟩, x.i, x.k, x.t⟩
theorem Flags_w {b m : Nat} (x : K.W) (k p q : Int) (hp : 0 ≤ p ∧ p < 4294967296) (hq : 0 ≤ q ∧ q < 4294967296) : A.Tr Tryz.prog 81 #[.pointer (some ⟨b, 0, none⟩), .int .i64 k, .int .u32 p, .int .u32 q] [A.blk b (K.wk x m)] (I := Unit) (fun _ => True) (fun _ => .tuple #[]) (fun _ => [A.blk b (K.wk (K.flags x k p q) m)]) := by
 intro w oo aa hh
 refine E.enter (n := 16) (S := oo) Tryz.func81 rfl rfl Nz.k (A.start (L := [(b, (K.wk x m))]) hh) (E.C.region (E.op (E.pt b) (E.op (E.i k) (E.op (E.u p) (E.op (E.u q) (E.ca (E.u (W.flags k p q)) (fun w h => Flags_all k p q hp hq w) (E.op (E.pt b) (E.op (.pointer (some ⟨b, 24, none⟩)) (E.op (.pointer (some ⟨b, 41, none⟩)) (E.st 0 (K.wk (⟨x.u, ⟨x.s.pc, x.s.r, (W.flags k p q), x.s.c, x.s.st, x.s.du⟩, x.i, x.k, x.t⟩) m) rfl rfl (E.To.bodyN (fn := Tryz.f81) [] ?_ ?_)))))))))))
 · exact trivial
 intro w h
 have e : (K.flags x k p q) = ⟨x.u, ⟨x.s.pc, x.s.r, (W.flags k p q), x.s.c, x.s.st, x.s.du⟩, x.i, x.k, x.t⟩ := by unfold K.flags; rfl
 rw [e]
 exact ⟨(), trivial, rfl, A.dq [0] [] h⟩
def K.put (x : K.W) (V : M.V) (a n v : Int) : K.W × M.V := (bif (!((V.chk (a).toNat 2 n).2)) then (K.fault x ((V.chk (a).toNat 2 n).1), (V.sto (a).toNat n v)) else (x, (V.sto (a).toNat n v)))
theorem Put_w {b m : Nat} {xs : List Value} (x : K.W) (V : M.V) (a n v : Int) (ha : 0 ≤ a ∧ a < 4294967296) : A.Tr Tryz.prog 85 #[.pointer (some ⟨b, 0, none⟩), .int .u32 a, .int .i64 n, .int .u32 v] [A.blk b (K.wk x m), M.It m V xs] (I := Unit) (fun _ => True) (fun _ => .tuple #[]) (fun _ => [A.blk b (K.wk (K.put x V a n v).1 m), M.It m (K.put x V a n v).2 xs]) := by
 intro w oo aa hh
 refine E.enter (n := 26) (S := oo) Tryz.func85 rfl rfl Nz.k (A.start (L := [(b, (K.wk x m))]) hh) (E.sr (E.op (E.pt b) (E.op (E.pt b) (E.op (.pointer (some ⟨b, 58, none⟩)) (E.li (.func (.method "Store") #[.iface 35 (E.pt m)] #[]) 0 rfl rfl (E.op (E.u a) (E.op (E.i n) (E.op (E.u v) (A.gc (fun _ => .tuple #[E.u ((V.chk (a).toNat 2 n).1), .bool ((V.chk (a).toNat 2 n).2)]) (I_Store a n v ha (m := m) (V := V) (xs := xs)) [1] [0] [1, 0] (fun _ => [(b, (K.wk x m))]) (fun _ => [M.It m (V.sto (a).toNat n v) xs]) (fun _ hd1 => E.op (.tuple #[E.u ((V.chk (a).toNat 2 n).1), .bool ((V.chk (a).toNat 2 n).2)]) (E.op (E.u ((V.chk (a).toNat 2 n).1)) ?_)))))))))))
 refine E.op (.bool ((V.chk (a).toNat 2 n).2)) (E.op (E.u ((V.chk (a).toNat 2 n).1)) (E.op (.bool ((V.chk (a).toNat 2 n).2)) (E.To.code (E.wk [(0, E.pt b), (8, E.u ((V.chk (a).toNat 2 n).1)), (9, .bool ((V.chk (a).toNat 2 n).2))] [(b, (K.wk x m))] Nz.sub (E.sr (E.op (.bool ((V.chk (a).toNat 2 n).2)) (E.op (.bool (!((V.chk (a).toNat 2 n).2))) (E.To.code (E.cd (!((V.chk (a).toNat 2 n).2)) (fun hc2 => ?_) (fun hc2 => ?_))))))))))
 ·
  refine E.C.region (E.op (E.pt b) (E.op (E.u ((V.chk (a).toNat 2 n).1)) (A.gc (fun _ => .tuple #[]) (Fault (b := b) (m := m) x ((V.chk (a).toNat 2 n).1)) [0] [1] [0, 1] (fun _ => [(b, (K.wk (K.fault x ((V.chk (a).toNat 2 n).1)) m))]) (fun _ => [M.It m (V.sto (a).toNat n v) xs]) (fun _ hd3 => E.To.bodyN (fn := Tryz.f85) [] ?_ ?_))))
  · exact trivial
  intro w h
  have e : (K.put x V a n v) = (K.fault x ((V.chk (a).toNat 2 n).1), (V.sto (a).toNat n v)) := by unfold K.put; rw [hc2, N1] <;> rfl
  rw [e]
  exact ⟨(), trivial, rfl, A.dq [0, 1] [] h⟩
 refine E.C.skip (E.To.bodyN (fn := Tryz.f85) [] ?_ ?_)
 · exact trivial
 intro w h
 have e : (K.put x V a n v) = (x, (V.sto (a).toNat n v)) := by unfold K.put; rw [hc2, N0] <;> rfl
 rw [e]
 exact ⟨(), trivial, rfl, A.dq [0, 1] [] h⟩
def K.a1 (x : K.W) (D v : Int) : K.W := ⟨x.u, ⟨x.s.pc, (Q.up x.s.r (D).toNat v), x.s.f, x.s.c, x.s.st, x.s.du⟩, x.i, x.k, x.t⟩
theorem Ac1 {b m e1 : Nat} (x : K.W) (D v : Int) (hD : 0 ≤ D ∧ D < ((16 : Nat) : Int)) : A.Tr Tryz.prog 83 #[.int .u32 v, .pointer (some ⟨e1, 0, none⟩)] [A.blk b (K.wk x m), A.blk e1 [.pointer (some ⟨b, 25 + (D).toNat, none⟩)]] (I := Unit) (fun _ => True) (fun _ => .tuple #[]) (fun _ => [A.blk b (K.wk (K.a1 x D v) m), A.blk e1 [.pointer (some ⟨b, 25 + (D).toNat, none⟩)]]) := by
  intro w oo aa hh
  refine E.enter (n := 6) (S := oo) Tryz.func83 rfl rfl Nz.k (A.start (L := [(b, (K.wk x m)), (e1, [.pointer (some ⟨b, 25 + (D).toNat, none⟩)])]) hh) ?_
  refine E.C.region ?_
  refine E.li (.pointer (some ⟨b, 25 + (D).toNat, none⟩)) 1 rfl rfl ?_
  refine E.op (.int .u32 v) ?_
  refine E.op (.pointer (some ⟨b, 25 + (D).toNat, none⟩)) ?_
  refine E.G.store 0 (K.wk (⟨x.u, ⟨x.s.pc, (Q.up x.s.r (D).toNat v), x.s.f, x.s.c, x.s.st, x.s.du⟩, x.i, x.k, x.t⟩) m) rfl rfl (K.sto_s (x := x) Nz.k (by have := hD; omega)) Nz.k ?_
  refine E.To.bodyN (fn := Tryz.f83) [] ?_ ?_
  · exact trivial
  · intro w h
    have e : (K.a1 x D v) = ⟨x.u, ⟨x.s.pc, (Q.up x.s.r (D).toNat v), x.s.f, x.s.c, x.s.st, x.s.du⟩, x.i, x.k, x.t⟩ := by unfold K.a1; rfl
    rw [e]
    exact ⟨(), trivial, rfl, A.dq [0, 1] [] h⟩
def K.a2 (x : K.W) (D v : Int) : K.W := ⟨x.u, ⟨x.s.pc, (Q.up x.s.r (D).toNat v), x.s.f, x.s.c, x.s.st, x.s.du⟩, x.i, x.k, x.t⟩
theorem Ac2 {b m e1 : Nat} (x : K.W) (D v : Int) (hD : 0 ≤ D ∧ D < ((16 : Nat) : Int)) : A.Tr Tryz.prog 84 #[.int .u32 v, .pointer (some ⟨e1, 0, none⟩)] [A.blk b (K.wk x m), A.blk e1 [.pointer (some ⟨b, 25 + (D).toNat, none⟩)]] (I := Unit) (fun _ => True) (fun _ => .tuple #[]) (fun _ => [A.blk b (K.wk (K.a2 x D v) m), A.blk e1 [.pointer (some ⟨b, 25 + (D).toNat, none⟩)]]) := by
  intro w oo aa hh
  refine E.enter (n := 6) (S := oo) Tryz.func84 rfl rfl Nz.k (A.start (L := [(b, (K.wk x m)), (e1, [.pointer (some ⟨b, 25 + (D).toNat, none⟩)])]) hh) ?_
  refine E.C.region ?_
  refine E.li (.pointer (some ⟨b, 25 + (D).toNat, none⟩)) 1 rfl rfl ?_
  refine E.op (.int .u32 v) ?_
  refine E.op (.pointer (some ⟨b, 25 + (D).toNat, none⟩)) ?_
  refine E.G.store 0 (K.wk (⟨x.u, ⟨x.s.pc, (Q.up x.s.r (D).toNat v), x.s.f, x.s.c, x.s.st, x.s.du⟩, x.i, x.k, x.t⟩) m) rfl rfl (K.sto_s (x := x) Nz.k (by have := hD; omega)) Nz.k ?_
  refine E.To.bodyN (fn := Tryz.f84) [] ?_ ?_
  · exact trivial
  · intro w h
    have e : (K.a2 x D v) = ⟨x.u, ⟨x.s.pc, (Q.up x.s.r (D).toNat v), x.s.f, x.s.c, x.s.st, x.s.du⟩, x.i, x.k, x.t⟩ := by unfold K.a2; rfl
    rw [e]
    exact ⟨(), trivial, rfl, A.dq [0, 1] [] h⟩
def K.a3 (x : K.W) (D p v : Int) : K.W := ⟨((K.flags x 1 p v).u), ⟨((K.flags x 1 p v).s).pc, (Q.up (((K.flags x 1 p v).s).r) (D).toNat (IntKind.wrap .u32 (p + v))), ((K.flags x 1 p v).s).f, ((K.flags x 1 p v).s).c, ((K.flags x 1 p v).s).st, ((K.flags x 1 p v).s).du⟩, ((K.flags x 1 p v).i), (K.flags x 1 p v).k, (K.flags x 1 p v).t⟩
theorem Ac3 {b m e1 e2 e3 : Nat} (x : K.W) (D p v : Int) (hD : 0 ≤ D ∧ D < ((16 : Nat) : Int)) (hp : 0 ≤ p ∧ p < 4294967296) (hv : 0 ≤ v ∧ v < 4294967296) : A.Tr Tryz.prog 86 #[.int .u32 v, .pointer (some ⟨e1, 0, none⟩), .pointer (some ⟨e2, 0, none⟩), .pointer (some ⟨e3, 0, none⟩)] [A.blk b (K.wk x m), A.blk e1 [.pointer (some ⟨b, 0, none⟩)], A.blk e2 [.int .u32 p], A.blk e3 [.pointer (some ⟨b, 25 + (D).toNat, none⟩)]] (I := Unit) (fun _ => True) (fun _ => .tuple #[]) (fun _ => [A.blk b (K.wk (K.a3 x D p v) m), A.blk e1 [.pointer (some ⟨b, 0, none⟩)], A.blk e2 [.int .u32 p], A.blk e3 [.pointer (some ⟨b, 25 + (D).toNat, none⟩)]]) := by
 intro w oo aa hh
 refine E.enter (n := 14) (S := oo) Tryz.func86 rfl rfl Nz.k (A.start (L := [(b, (K.wk x m)), (e1, [E.pt b]), (e2, [E.u p]), (e3, [.pointer (some ⟨b, 25 + (D).toNat, none⟩)])]) hh) (E.sr (E.li (E.pt b) 1 rfl rfl (E.li (E.u p) 2 rfl rfl (E.op (E.u v) (A.gc (fun _ => .tuple #[]) (Flags_w (b := b) (m := m) x 1 p v hp hv) [0] [1, 2, 3] [0, 1, 2, 3] (fun _ => [(b, (K.wk (K.flags x 1 p v) m)), (e1, [E.pt b]), (e2, [E.u p]), (e3, [.pointer (some ⟨b, 25 + (D).toNat, none⟩)])]) (fun _ => []) (fun _ hd1 => E.ur (E.li (.pointer (some ⟨b, 25 + (D).toNat, none⟩)) 3 rfl rfl (E.li (E.u p) 2 rfl rfl (E.op (E.u v) (E.op (E.u (IntKind.wrap .u32 (p + v))) (E.op (.pointer (some ⟨b, 25 + (D).toNat, none⟩)) ?_)))))))))))
 refine E.G.store 0 (K.wk (⟨((K.flags x 1 p v).u), ⟨((K.flags x 1 p v).s).pc, (Q.up (((K.flags x 1 p v).s).r) (D).toNat (IntKind.wrap .u32 (p + v))), ((K.flags x 1 p v).s).f, ((K.flags x 1 p v).s).c, ((K.flags x 1 p v).s).st, ((K.flags x 1 p v).s).du⟩, ((K.flags x 1 p v).i), (K.flags x 1 p v).k, (K.flags x 1 p v).t⟩) m) rfl rfl (K.sto_s (x := K.flags x 1 p v) Nz.k (by have := hD; omega)) Nz.k (E.To.bodyN (fn := Tryz.f86) [] ?_ ?_)
 · exact trivial
 intro w h
 have e : (K.a3 x D p v) = ⟨((K.flags x 1 p v).u), ⟨((K.flags x 1 p v).s).pc, (Q.up (((K.flags x 1 p v).s).r) (D).toNat (IntKind.wrap .u32 (p + v))), ((K.flags x 1 p v).s).f, ((K.flags x 1 p v).s).c, ((K.flags x 1 p v).s).st, ((K.flags x 1 p v).s).du⟩, ((K.flags x 1 p v).i), (K.flags x 1 p v).k, (K.flags x 1 p v).t⟩ := by unfold K.a3; rfl
 rw [e]
 exact ⟨(), trivial, rfl, A.dq [0, 1, 2, 3] [] h⟩
def K.a4 (x : K.W) (V : M.V) (a p v : Int) : K.W × M.V := ((K.put (K.flags x 1 v p) V a 4 (IntKind.wrap .u32 (v + p))).1, (K.put (K.flags x 1 v p) V a 4 (IntKind.wrap .u32 (v + p))).2)
theorem Ac4 {b m e1 e2 e3 : Nat} {xs : List Value} (x : K.W) (V : M.V) (a p v : Int) (ha : 0 ≤ a ∧ a < 4294967296) (hp : 0 ≤ p ∧ p < 4294967296) (hv : 0 ≤ v ∧ v < 4294967296) : A.Tr Tryz.prog 87 #[.int .u32 v, .pointer (some ⟨e1, 0, none⟩), .pointer (some ⟨e2, 0, none⟩), .pointer (some ⟨e3, 0, none⟩)] [A.blk b (K.wk x m), A.blk e1 [.pointer (some ⟨b, 0, none⟩)], A.blk e2 [.int .u32 p], A.blk e3 [.int .u32 a], M.It m V xs] (I := Unit) (fun _ => True) (fun _ => .tuple #[]) (fun _ => [A.blk b (K.wk (K.a4 x V a p v).1 m), A.blk e1 [.pointer (some ⟨b, 0, none⟩)], A.blk e2 [.int .u32 p], A.blk e3 [.int .u32 a], M.It m (K.a4 x V a p v).2 xs]) := by
 intro w oo aa hh
 refine E.enter (n := 15) (S := oo) Tryz.func87 rfl rfl Nz.k (A.start (L := [(b, (K.wk x m)), (e1, [E.pt b]), (e2, [E.u p]), (e3, [E.u a])]) hh) (E.sr (E.li (E.pt b) 1 rfl rfl (E.op (E.u v) (E.li (E.u p) 2 rfl rfl (A.gc (fun _ => .tuple #[]) (Flags_w (b := b) (m := m) x 1 v p hv hp) [0] [1, 2, 3, 4] [0, 1, 2, 3, 4] (fun _ => [(b, (K.wk (K.flags x 1 v p) m)), (e1, [E.pt b]), (e2, [E.u p]), (e3, [E.u a])]) (fun _ => [M.It m V xs]) (fun _ hd1 => E.ur (E.li (E.pt b) 1 rfl rfl (E.li (E.u a) 3 rfl rfl (E.op (E.u v) (E.li (E.u p) 2 rfl rfl (E.op (E.u (IntKind.wrap .u32 (v + p))) ?_)))))))))))
 refine A.gc (fun _ => .tuple #[]) (Put_w (b := b) (m := m) (xs := xs) (K.flags x 1 v p) V a 4 (IntKind.wrap .u32 (v + p)) ha) [0, 4] [1, 2, 3] [0, 2, 3, 4, 1] (fun _ => [(b, (K.wk ((K.put (K.flags x 1 v p) V a 4 (IntKind.wrap .u32 (v + p))).1) m)), (e1, [E.pt b]), (e2, [E.u p]), (e3, [E.u a])]) (fun _ => [M.It m ((K.put (K.flags x 1 v p) V a 4 (IntKind.wrap .u32 (v + p))).2) xs]) (fun _ hd2 => E.To.bodyN (fn := Tryz.f87) [] ?_ ?_)
 · exact trivial
 intro w h
 have e : (K.a4 x V a p v) = ((K.put (K.flags x 1 v p) V a 4 (IntKind.wrap .u32 (v + p))).1, (K.put (K.flags x 1 v p) V a 4 (IntKind.wrap .u32 (v + p))).2) := by unfold K.a4; rfl
 rw [e]
 exact ⟨(), trivial, rfl, A.dq [0, 1, 2, 3, 4] [] h⟩
def K.s1 (x : K.W) (D v : Int) : K.W := ⟨x.u, ⟨x.s.pc, (Q.up x.s.r (D).toNat v), x.s.f, x.s.c, x.s.st, x.s.du⟩, x.i, x.k, x.t⟩
theorem Si1 {b m e1 : Nat} (x : K.W) (D v : Int) (hD : 0 ≤ D ∧ D < ((16 : Nat) : Int)) : A.Tr Tryz.prog 90 #[.int .u32 v, .pointer (some ⟨e1, 0, none⟩)] [A.blk b (K.wk x m), A.blk e1 [.pointer (some ⟨b, 25 + (D).toNat, none⟩)]] (I := Unit) (fun _ => True) (fun _ => .tuple #[]) (fun _ => [A.blk b (K.wk (K.s1 x D v) m), A.blk e1 [.pointer (some ⟨b, 25 + (D).toNat, none⟩)]]) := by
  intro w oo aa hh
  refine E.enter (n := 6) (S := oo) Tryz.func90 rfl rfl Nz.k (A.start (L := [(b, (K.wk x m)), (e1, [.pointer (some ⟨b, 25 + (D).toNat, none⟩)])]) hh) ?_
  refine E.C.region ?_
  refine E.li (.pointer (some ⟨b, 25 + (D).toNat, none⟩)) 1 rfl rfl ?_
  refine E.op (.int .u32 v) ?_
  refine E.op (.pointer (some ⟨b, 25 + (D).toNat, none⟩)) ?_
  refine E.G.store 0 (K.wk (⟨x.u, ⟨x.s.pc, (Q.up x.s.r (D).toNat v), x.s.f, x.s.c, x.s.st, x.s.du⟩, x.i, x.k, x.t⟩) m) rfl rfl (K.sto_s (x := x) Nz.k (by have := hD; omega)) Nz.k ?_
  refine E.To.bodyN (fn := Tryz.f90) [] ?_ ?_
  · exact trivial
  · intro w h
    have e : (K.s1 x D v) = ⟨x.u, ⟨x.s.pc, (Q.up x.s.r (D).toNat v), x.s.f, x.s.c, x.s.st, x.s.du⟩, x.i, x.k, x.t⟩ := by unfold K.s1; rfl
    rw [e]
    exact ⟨(), trivial, rfl, A.dq [0, 1] [] h⟩
def K.c1 (x : K.W) (v : Int) : K.W := ⟨x.u, ⟨v, x.s.r, x.s.f, x.s.c, x.s.st, x.s.du⟩, x.i, x.k, x.t⟩
theorem Co1 {b m e1 : Nat} (x : K.W) (v : Int)  : A.Tr Tryz.prog 92 #[.int .u32 v, .pointer (some ⟨e1, 0, none⟩)] [A.blk b (K.wk x m), A.blk e1 [.pointer (some ⟨b, 24, none⟩)]] (I := Unit) (fun _ => True) (fun _ => .tuple #[]) (fun _ => [A.blk b (K.wk (K.c1 x v) m), A.blk e1 [.pointer (some ⟨b, 24, none⟩)]]) := by
 intro w oo aa hh
 refine E.enter (n := 7) (S := oo) Tryz.func92 rfl rfl Nz.k (A.start (L := [(b, (K.wk x m)), (e1, [.pointer (some ⟨b, 24, none⟩)])]) hh) (E.C.region (E.li (.pointer (some ⟨b, 24, none⟩)) 1 rfl rfl (E.op (E.u v) (E.op (.pointer (some ⟨b, 24, none⟩)) (E.op (.pointer (some ⟨b, 24, none⟩)) (E.st 0 (K.wk (⟨x.u, ⟨v, x.s.r, x.s.f, x.s.c, x.s.st, x.s.du⟩, x.i, x.k, x.t⟩) m) rfl rfl (E.To.bodyN (fn := Tryz.f92) [] ?_ ?_)))))))
 · exact trivial
 intro w h
 have e : (K.c1 x v) = ⟨x.u, ⟨v, x.s.r, x.s.f, x.s.c, x.s.st, x.s.du⟩, x.i, x.k, x.t⟩ := by unfold K.c1; rfl
 rw [e]
 exact ⟨(), trivial, rfl, A.dq [0, 1] [] h⟩
end Go.Proofs.YtglidnmmeclneaaGreat
