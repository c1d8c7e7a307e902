/- mem: a memory as an item: what it shows, and what lies behind its header. No condition. -/
import Derived.Test.YtdjjjikokfadiaaMt
import Derived.Test.YtdjjjikokfadiaaAv
namespace Go.Proofs.Ytdjjjikokfadiaa
set_option linter.unusedVariables false
set_option linter.unusedSimpArgs false
open Go.RowKit
theorem M.ptr_inj {p q : Option Nat} (h : M.ptr p = M.ptr q) : p = q := by
  unfold M.ptr at h
  cases p with
  | none => cases q with
    | none => rfl
    | some b => simp at h
  | some a => cases q with
    | none => simp at h
    | some b => simp at h; rw [h]
theorem M.apart_pg {o o2 : M.Obj} {w w2 : World} {x : Nat} (h : M.At o w) (h2 : M.At o2 w2) (hm : o2.m = o.m) (hw : ∀ b, b ≠ x → w2.heap[b]? = w.heap[b]?) (hz : ∀ i, w2.cell? ⟨x, i, none⟩ = none) : ¬ M.all o x := by
  intro hx
  by_cases e0 : x = o.m
  · subst e0
    have := h2.c0; rw [hm, hz] at this; cases this
  · have hcm : w2.cell? ⟨o.m, 0, none⟩ = w.cell? ⟨o.m, 0, none⟩ := by rw [World.cell?, World.cell?, hw _ (Ne.symm e0)]
    have c0 := h2.c0
    rw [hm, hcm, h.c0] at c0
    simp only [Option.some.injEq, Value.slice.injEq] at c0
    obtain ⟨ha, hl, _⟩ := c0
    have hb : 0 < o.sl.length → o2.b = o.b := fun hn => by
      have e1 := h.ha hn
      have e2 := h2.ha (hl ▸ hn)
      rw [← ha, e1] at e2
      simp only [Option.some.injEq, Addr.mk.injEq] at e2
      exact e2.1.symm
    rcases hx with hx | ⟨hn, hx⟩ | hx
    · exact e0 hx
    · have := h2.fld (i := 0) (k := 6) (hl ▸ hn) rfl (by decide) 6 rfl
      rw [hb hn, ← hx, hz] at this; cases this
    · obtain ⟨i, hi, hp⟩ := hx
      have hn : 0 < o.sl.length := by omega
      by_cases e1 : x = o.b
      · have := h2.fld (i := 0) (k := 6) (hl ▸ hn) rfl (by decide) 6 rfl
        rw [hb hn, ← e1, hz] at this; cases this
      · have hi2 : i < o2.sl.length := hl ▸ hi
        have hf : ∀ k, k < 7 → (o2.at i).cells[k]? = (o.at i).cells[k]? := fun k hk => by
          have hk1 : (o.at i).cells[k]? = some (o.at i).cells[k] := List.getElem?_eq_getElem hk
          have hk2 : (o2.at i).cells[k]? = some (o2.at i).cells[k] := List.getElem?_eq_getElem hk
          have f1 := h.fld hi hk1 hk _ rfl
          have f2 := h2.fld hi2 hk2 hk _ rfl
          have e : w2.cell? ⟨o.b, i * 7 + k, none⟩ = w.cell? ⟨o.b, i * 7 + k, none⟩ := by rw [World.cell?, World.cell?, hw _ (Ne.symm e1)]
          rw [hb hn, e, f1] at f2
          rw [hk1, hk2]; exact f2.symm
        have g0 := hf 0 (by decide)
        have g1 := hf 1 (by decide)
        have g4 := hf 4 (by decide)
        have g5 := hf 5 (by decide)
        have g0 : (o2.at i).d = (o.at i).d := by
          have : some (Value.pointer (some ⟨(o2.at i).d, 0, none⟩)) = some (Value.pointer (some ⟨(o.at i).d, 0, none⟩)) := g0
          simpa using this
        have g4 : (o2.at i).cd = (o.at i).cd := by
          have : some (Value.pointer (some ⟨(o2.at i).cd, 0, none⟩)) = some (Value.pointer (some ⟨(o.at i).cd, 0, none⟩)) := g4
          simpa using this
        have g1 : (o2.at i).c = (o.at i).c := M.ptr_inj (Option.some.inj g1)
        have g5 : (o2.at i).cc = (o.at i).cc := M.ptr_inj (Option.some.inj g5)
        have hp2 : M.Pg o2.sl x := ⟨i, hi2, by
          show x = (o2.at i).d ∨ (o2.at i).c = some x ∨ x = (o2.at i).cd ∨ (o2.at i).cc = some x
          rw [g0, g1, g4, g5]; exact hp⟩
        have := h2.pg x hp2 0 (by decide)
        rw [hz] at this; cases this
/-- A memory at the block m that shows V; behind its header the block holds xs. -/
def M.It (m : Nat) (V : M.V) (xs : List Value) : A.It where
  t w o a := ∃ b : M.Obj, b.m = m ∧ M.St b w ∧ M.Sh b V ∧ (∀ i v, xs[i]? = some v → w.cell? ⟨m, 2 + i, none⟩ = some v) ∧ (∀ x, o x ↔ x = m ∨ M.ow b x) ∧ ∀ x, a x ↔ M.all b x
  sub := fun ⟨b, hm, hs, _, _, ho, ha⟩ x hx => by
    rcases (ho x).1 hx with e | e
    · exact (ha x).2 (.inl (e.trans hm.symm))
    · exact (ha x).2 (M.ow_all e)
  lt := fun ⟨b, hm, hs, _, _, ho, ha⟩ x hx => hs.at_.alive ((ha x).1 hx)
  keep := fun {w w' o a} ⟨b, hm, hs, hV, hx, ho, ha⟩ hk => by
    have key : ∀ {p : Addr} {v : Value}, a p.block → w.cell? p = some v → w'.cell? p = some v := fun {p v} hp hv => by
      rw [World.cell?] at hv ⊢; rw [hk _ hp]; exact hv
    have hmm : a m := (ha m).2 (.inl hm.symm)
    refine ⟨b, hm, ⟨⟨key ((ha _).2 (.inl rfl)) hs.at_.c0, key ((ha _).2 (.inl rfl)) hs.at_.c1, hs.at_.ha, fun i v hv => key ((ha _).2 (M.all_b ?_)) (hs.at_.cs i v hv), fun p hp i hi => key ((ha _).2 (.inr (.inr hp))) (hs.at_.pg p hp i hi), hs.at_.lt⟩, hs.inv, fun x hx i => ?_⟩, hV, fun i v hv => key hmm (hx i v hv), ho, ha⟩
    · cases hsl : b.sl with
      | nil => rw [hsl] at hv; simp [M.cells] at hv
      | cons => simp
    · have := hs.fz x hx i
      rw [World.frozen?] at this ⊢; rw [hk x ((ha x).2 hx)]; exact this
  apart := fun ⟨b, hm, hs, _, _, _, ha⟩ ⟨b2, hm2, hs2, _, _, _, _⟩ hw hz hx => M.apart_pg hs.at_ hs2.at_ (hm2.trans hm.symm) hw hz ((ha _).1 hx)
theorem M.It.open1 {m : Nat} {V : M.V} {xs : List Value} {w : World} {o a : Nat → Prop} (h : A.Has [M.It m V xs] w o a) : (M.It m V xs).t w o a := by
  obtain ⟨o1, a1, o2, a2, h1, h2, _, _, ho, ha⟩ := h
  obtain ⟨b, hm, hs, hV, hx, ho1, ha1⟩ := h1
  exact ⟨b, hm, hs, hV, hx, fun x => by rw [ho, ho1]; exact ⟨fun h => h.elim id fun h => (h2.1 x h).elim, .inl⟩, fun x => by rw [ha, ha1]; exact ⟨fun h => h.elim id fun h => (h2.2 x h).elim, .inl⟩⟩
theorem A.Has.one {it : A.It} {w : World} {o a : Nat → Prop} (h : it.t w o a) : A.Has [it] w o a :=
  ⟨o, a, fun _ => False, fun _ => False, h, ⟨fun _ h => h, fun _ h => h⟩, fun _ _ h => h, fun _ h => h.elim, fun x => by simp, fun x => by simp⟩
/-- A reader of a memory, as a call over items. -/
theorem M.rd {f : FuncId} {args : Array Value} {m : Nat} {V : M.V} {xs : List Value} {v : Value} (h : ∀ (b : M.Obj) (w : World), b.m = m → M.St b w → M.Sh b V → Calls Try.prog f args w fun e w' => e = .returned v ∧ Bel w w') : A.Rd Try.prog f args [M.It m V xs] v := by
  intro w o a hh
  obtain ⟨b, hm, hs, hV, _⟩ := M.It.open1 hh
  exact h b w hm hs hV
/-- A writer of a memory, as a call over items. -/
theorem M.wr {f : FuncId} {args : Array Value} {m : Nat} {V V' : M.V} {xs : List Value} {v : Value} (h : ∀ (b : M.Obj) (w : World), b.m = m → M.St b w → M.Sh b V → Calls Try.prog f args w fun e w' => e = .returned v ∧ ∃ b', M.St b' w' ∧ Ch (fun x => M.ow b x) w w' ∧ M.Nxt w b b' ∧ M.Sh b' V') :
    A.Tr Try.prog f args [M.It m V xs] (I := Unit) (fun _ => True) (fun _ => v) (fun _ => [M.It m V' xs]) := by
  intro w o a hh
  obtain ⟨b, hm, hs, hV, hx, ho, ha⟩ := M.It.open1 hh
  refine (h b w hm hs hV).mono fun e w' ⟨he, b', hs', hc, hn, hV'⟩ => ⟨(), trivial, he, fun x => x = m ∨ M.ow b' x, fun x => M.all b' x, A.Has.one ⟨b', hn.m.trans hm, hs', hV', fun i u hu => ?_, fun _ => Iff.rfl, fun _ => Iff.rfl⟩, hc.mono fun x _ hx => (ho x).2 (.inr hx), fun x hx hk => ?_, fun x hx hk => (ha x).2 (hn.al x hx hk)⟩
  · have hcu := hx i u hu
    have hno : ¬ M.ow b m := fun hw => by
      rcases hw with ⟨hn0, e⟩ | ⟨i, hi, _, e⟩ | ⟨i, hi, _, e⟩
      · exact hs.inv.mb hn0 (hm.trans e)
      · exact (hs.inv.pm _ (M.pg_d hi)).1 (e.symm.trans hm.symm)
      · exact (hs.inv.pm _ (M.pg_c hi e)).1 hm.symm
    exact (hc.cell m _ (by rw [← hm]; exact hs.at_.alive (.inl rfl)) hno).trans hcu
  · rcases hk with hk | hk
    · exact (ho x).2 (.inl hk)
    · exact (ho x).2 (.inr (hn.ow x hx hk))
end Go.Proofs.Ytdjjjikokfadiaa
