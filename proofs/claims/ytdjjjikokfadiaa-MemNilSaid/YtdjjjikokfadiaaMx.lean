/- Walks: append to what is empty, printed by wip/eng. No condition but what is named. -/
import Derived.Test.YtdjjjikokfadiaaProg
import Derived.Test.YtdjjjikokfadiaaMw
namespace Go.Proofs.Ytdjjjikokfadiaa
set_option linter.unusedVariables false
set_option linter.unusedSimpArgs false
open Go.RowKit
section
variable {P : Program} {n : Nat} {ops : Array Oper} {Q : Exit → Act → World → Prop} {S : Nat → Prop} {w0 : World} {X : World → Prop} {L : List (Nat × List Value)} {l : List Oper} {fr : E.Fr} {d : Option Nat} {T : TypeId} {pos : String} {af : Array Edge} {gd : Option (Nat × Bool)}
/-- A slice without elements. -/
theorem M.G.empty {t e : TypeId} {sz : Nat} (ht : P.underlying t = some (.slice e)) (hi : (P.info? e).map (·.size) = some sz) (hck : E.ck n ops fr ⟨d, .buildSlice t 0 #[], T, pos, af, gd⟩ = true)
    (k : ∀ g, E.G P n ops Q l (E.upd fr d (.slice (some ⟨g, 0, none⟩) 0 0)) S w0 X L) : E.G P n ops Q (⟨d, .buildSlice t 0 #[], T, pos, af, gd⟩ :: l) fr S w0 X L := by
  refine E.G.any (I := Nat) (fun _ => True) (fun g => .slice (some ⟨g, 0, none⟩) 0 0) (fun _ => X) (fun _ => L) (fun w h => ?_) hck (fun g _ => k g)
  refine ⟨w.heap.size, w.alloc (.cells #[] e), trivial, ?_, h.bel (Bel.alloc (Bel.refl w) _)⟩
  cases hie : P.info? e with
  | none => rw [hie] at hi; cases hi
  | some ie =>
    show (do let r ← Instr.buildSlice t 0 ((#[] : Array (Nat × Operand)).map fun (i, x) => (i, E.ev fr x)); pure (Next.value r) : Sem Next).run P w = _
    have e0 : Array.map (fun x : Nat => (default : Value)) (Array.range 0) = #[] := by simp [Array.range_zero']
    simp [Instr.buildSlice, run_underlying ht, sizeOf, typeInfo, hie, Instr.fill, newRow, e0]
/-- Cells are appended to a slice that has none: a new block. -/
theorem M.G.appendE {t e : TypeId} {s x : Operand} (a0 b : Addr) (m cx sz by_ : Nat) (news : List Value) (ht : P.underlying t = some (.slice e)) (hi : E.tinfo P e = some (sz, by_, sz))
    (hs : E.ev fr s = .slice (some a0) 0 0) (hx : E.ev fr x = .slice (some b) m cx) (hl : news.length = m * sz) (hm : 0 < m) (hsrc : ∀ w, E.Hp S w0 X L w → ∀ j v, news[j]? = some v → w.cell? (b.add j) = some v) (hb : m * by_ ≤ 140737488355328) (h63 : m ≤ 9223372036854775807)
    (hck : E.ck n ops fr ⟨d, .call { callee := .builtin .append, args := #[s, x], argTypes := #[t, t] }, T, pos, af, gd⟩ = true)
    (k : ∀ g c rest, m ≤ c → rest.length = (c - m) * sz → E.G P n ops Q l (E.upd fr d (.slice (some ⟨g, 0, none⟩) m c)) S w0 X ((g, news ++ rest) :: L)) :
    E.G P n ops Q (⟨d, .call { callee := .builtin .append, args := #[s, x], argTypes := #[t, t] }, T, pos, af, gd⟩ :: l) fr S w0 X L := by
  refine E.G.any (I := Nat × Nat × List Value) (fun a => m ≤ a.2.1 ∧ a.2.2.length = (a.2.1 - m) * sz) (fun a => .slice (some ⟨a.1, 0, none⟩) m a.2.1) (fun _ => X) (fun a => (a.1, news ++ a.2.2) :: L) (fun w hh => ?_) hck (fun a ha => k a.1 a.2.1 a.2.2 ha.1 ha.2)
  have hop : (execOp (E.ev fr) ⟨d, .call { callee := .builtin .append, args := #[s, x], argTypes := #[t, t] }, T, pos, af, gd⟩).run P w = ((Builtin.append_ #[t, t] T #[E.ev fr s, E.ev fr x]).run P w).andThen fun v w' => .ok (.value v) w' := by
    simp [execOp, resolve, invoke, builtin]
  rw [hop, hs, hx]
  unfold E.tinfo at hi
  cases hie : P.info? e with
  | none => rw [hie] at hi; cases hi
  | some ie =>
    rw [hie] at hi
    simp only [Option.bind_some] at hi
    cases hz : ie.zero with
    | none => rw [hz] at hi; cases hi
    | some z =>
      rw [hz] at hi
      simp only [Option.map_some, Option.some.injEq, Prod.mk.injEq] at hi
      obtain ⟨h1, h2, h3⟩ := hi
      subst h1; subst h2
      have hr := run_append_grow (P := P) w t T e ie z ht hie hz a0 0 0 [] (by simp) (by simp) b m cx news hl (hsrc w hh) (by omega) (by omega) (growslice_fits (by omega) (by simpa using hb))
      rw [Nat.zero_add] at hr
      have hge := grownCap_ge w m 0 e
      refine ⟨(w.heap.size, grownCap w m 0 e, (Builtin.zeroCells z.cells (grownCap w m 0 e - m)).toList), _, ⟨hge, ?_⟩, by rw [hr]; rfl, ?_⟩
      · rw [Array.length_toList, size_zeroCells, h3]
      · have hb1 : Bel w w.drew := Bel.drew (Bel.refl w)
        have hn := (hh.bel hb1).new (news ++ (Builtin.zeroCells z.cells (grownCap w m 0 e - m)).toList) e
        have ea : (news ++ (Builtin.zeroCells z.cells (grownCap w m 0 e - m)).toList).toArray = ([] : List Value).toArray ++ news.toArray ++ Builtin.zeroCells z.cells (grownCap w m 0 e - m) := by simp
        rw [ea] at hn
        exact hn
/-- Nothing is appended to a slice that has no elements. -/
theorem M.G.append0 {t e : TypeId} {s x : Operand} (a0 : Addr) (ao : Option Addr) (cx sz : Nat) (ht : P.underlying t = some (.slice e)) (hi : (P.info? e).map (·.size) = some sz)
    (hs : E.ev fr s = .slice (some a0) 0 0) (hx : E.ev fr x = .slice ao 0 cx)
    (hck : E.ck n ops fr ⟨d, .call { callee := .builtin .append, args := #[s, x], argTypes := #[t, t] }, T, pos, af, gd⟩ = true)
    (k : E.G P n ops Q l (E.upd fr d (.slice (some a0) 0 0)) S w0 X L) :
    E.G P n ops Q (⟨d, .call { callee := .builtin .append, args := #[s, x], argTypes := #[t, t] }, T, pos, af, gd⟩ :: l) fr S w0 X L := by
  refine E.G.val _ hck (fun w hh => ?_) k
  have hop : (execOp (E.ev fr) ⟨d, .call { callee := .builtin .append, args := #[s, x], argTypes := #[t, t] }, T, pos, af, gd⟩).run P w = ((Builtin.append_ #[t, t] T #[E.ev fr s, E.ev fr x]).run P w).andThen fun v w' => .ok (.value v) w' := by
    simp [execOp, resolve, invoke, builtin]
  rw [hop, hs, hx]
  cases hie : P.info? e with
  | none => rw [hie] at hi; cases hi
  | some ie =>
    have hlc : ∀ a, (loadCells a 0).run P w = .ok #[] w := fun a => by simp [loadCells, loadCellsFrom]
    cases ao with
    | none => simp [Builtin.append_, run_underlying ht, sizeOf, typeInfo, hie, Builtin.lenOf, Builtin.firstCells, storeCells]
    | some a => simp [Builtin.append_, run_underlying ht, sizeOf, typeInfo, hie, Builtin.lenOf, Builtin.firstCells, storeCells, hlc]
end
end Go.Proofs.Ytdjjjikokfadiaa
