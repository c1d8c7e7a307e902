/- Common words of this seat's proofs: 'Bel w w'' (what was there before the call is as it was). No condition. -/
import Derived.WalkKit
import Derived.WalkSpells
import Derived.Deep.QuietTactic
import Derived.BigQuiet
namespace Go.Proofs.Ytdjjjikokfadiaa
set_option linter.unusedVariables false
set_option linter.unusedSimpArgs false
open Go.RowKit

/-- What was there in w is there, unchanged, in w'. -/
def Bel (w w' : World) : Prop := Below w.heap.size w w'
theorem Bel.refl (w : World) : Bel w w := Below.refl _ _
theorem Bel.trans {a b c : World} (h : Bel a b) (k : Bel b c) : Bel a c :=
  Below.trans h (Below.mono k h.size)
theorem Bel.drew {a b : World} (h : Bel a b) : Bel a b.drew := Below.drew h
theorem Bel.drewN {a b : World} (h : Bel a b) (n : Nat) : Bel a (b.drewN n) := ⟨h.os, h.tape, h.output, h.size, h.block⟩
theorem Bel.alloc {a b : World} (h : Bel a b) (o : Obj) : Bel a (b.alloc o) := Below.alloc h h.size o
theorem Bel.setCell {a b : World} (h : Bel a b) {p : Addr} (hp : a.heap.size ≤ p.block) (v : Value) : Bel a (b.setCell p v) := Below.setCell h hp v
theorem Bel.size {a b : World} (h : Bel a b) : a.heap.size ≤ b.heap.size := Below.size h
theorem Bel.cell {w w' : World} (h : Bel w w') (b o : Nat) (hb : b < w.heap.size) : w'.cell? ⟨b, o, none⟩ = w.cell? ⟨b, o, none⟩ := Below.cell h (p := ⟨b, o, none⟩) hb
theorem Bel.frozen {w w' : World} (h : Bel w w') (b o : Nat) (hb : b < w.heap.size) : w'.frozen? ⟨b, o, none⟩ = w.frozen? ⟨b, o, none⟩ := Below.frozen h (p := ⟨b, o, none⟩) hb
theorem Bel.heap {w w' : World} (h : Bel w w') (b : Nat) (hb : b < w.heap.size) : w'.heap[b]? = w.heap[b]? := Below.block h b hb
/-- The two rules that a walk wants behind a call. -/
theorem Bel.cells {w w' : World} (h : Bel w w') : (∀ b o, b < w.heap.size → w'.cell? ⟨b, o, none⟩ = w.cell? ⟨b, o, none⟩) ∧ (∀ b o, b < w.heap.size → w'.frozen? ⟨b, o, none⟩ = w.frozen? ⟨b, o, none⟩) :=
  ⟨h.cell, h.frozen⟩
theorem Bel.below {w w' : World} (h : Bel w w') : Below w.heap.size w w' := h

/-- What was there in w, but for the blocks of S, is there, unchanged, in w'. -/
structure Ch (S : Nat → Prop) (w w' : World) : Prop where
  os : w'.os = w.os
  tape : w'.tape = w.tape
  output : w'.output = w.output
  size : w.heap.size ≤ w'.heap.size
  block : ∀ b, b < w.heap.size → ¬ S b → w'.heap[b]? = w.heap[b]?
theorem Ch.refl (S : Nat → Prop) (w : World) : Ch S w w := ⟨rfl, rfl, rfl, Nat.le_refl _, fun _ _ _ => rfl⟩
theorem Ch.trans' {S T : Nat → Prop} {a b c : World} (h : Ch S a b) (k : Ch T b c) (hs : ∀ x, x < a.heap.size → T x → S x) : Ch S a c :=
  ⟨k.os.trans h.os, k.tape.trans h.tape, k.output.trans h.output, Nat.le_trans h.size k.size, fun x hx hn => (k.block x (Nat.lt_of_lt_of_le hx h.size) (fun ht => hn (hs x hx ht))).trans (h.block x hx hn)⟩
theorem Ch.trans {S : Nat → Prop} {a b c : World} (h : Ch S a b) (k : Ch S b c) : Ch S a c := h.trans' k (fun _ _ h => h)
theorem Ch.mono {S T : Nat → Prop} {a b : World} (h : Ch S a b) (hs : ∀ x, x < a.heap.size → S x → T x) : Ch T a b :=
  ⟨h.os, h.tape, h.output, h.size, fun x hx hn => h.block x hx (fun ht => hn (hs x hx ht))⟩
theorem Bel.ch {a b : World} (h : Bel a b) (S : Nat → Prop) : Ch S a b := ⟨h.os, h.tape, h.output, h.size, fun x hx _ => h.block x hx⟩
theorem Ch.bel {S : Nat → Prop} {a b : World} (h : Ch S a b) (hs : ∀ x, S x → a.heap.size ≤ x) : Bel a b :=
  ⟨h.os, h.tape, h.output, h.size, fun x hx => h.block x hx (fun ht => by have := hs x ht; omega)⟩
theorem Bel.then {S : Nat → Prop} {a b c : World} (h : Bel a b) (k : Ch S b c) (hs : ∀ x, S x → a.heap.size ≤ x) : Bel a c :=
  ⟨k.os.trans h.os, k.tape.trans h.tape, k.output.trans h.output, Nat.le_trans h.size k.size, fun x hx => (k.block x (Nat.lt_of_lt_of_le hx h.size) (fun ht => by have := hs x ht; omega)).trans (h.block x hx)⟩
theorem Ch.then {S : Nat → Prop} {a b c : World} (h : Ch S a b) (k : Bel b c) : Ch S a c := h.trans (k.ch S)
theorem Ch.setCell {S : Nat → Prop} {a b : World} (h : Ch S a b) {p : Addr} (hp : p.block < a.heap.size → S p.block) (v : Value) : Ch S a (b.setCell p v) :=
  ⟨h.os, h.tape, h.output, Nat.le_trans h.size (by simp [World.setCell]), fun x hx hn => (Below.heap_setCell b p v x (fun e => by subst e; exact hn (hp hx))).trans (h.block x hx hn)⟩
theorem Ch.alloc {S : Nat → Prop} {a b : World} (h : Ch S a b) (o : Obj) : Ch S a (b.alloc o) := h.then (Bel.alloc (Bel.refl b) o)
theorem Ch.drew {S : Nat → Prop} {a b : World} (h : Ch S a b) : Ch S a b.drew := h.then (Bel.drew (Bel.refl b))
theorem Ch.drewN {S : Nat → Prop} {a b : World} (h : Ch S a b) (n : Nat) : Ch S a (b.drewN n) := h.then (Bel.drewN (Bel.refl b) n)
theorem Ch.cell {S : Nat → Prop} {w w' : World} (h : Ch S w w') (b o : Nat) (hb : b < w.heap.size) (hn : ¬ S b) : w'.cell? ⟨b, o, none⟩ = w.cell? ⟨b, o, none⟩ := World.cell?_of_block (w := w) (a := ⟨b, o, none⟩) (h.block b hb hn)
theorem Ch.frozen {S : Nat → Prop} {w w' : World} (h : Ch S w w') (b o : Nat) (hb : b < w.heap.size) (hn : ¬ S b) : w'.frozen? ⟨b, o, none⟩ = w.frozen? ⟨b, o, none⟩ := World.frozen?_of_block (w := w) (a := ⟨b, o, none⟩) (h.block b hb hn)

theorem lt_of_cell {w : World} {a : Addr} {v : Value} (h : w.cell? a = some v) : a.block < w.heap.size := by
  unfold World.cell? at h
  rcases Nat.lt_or_ge a.block w.heap.size with hlt | hge
  · exact hlt
  · rw [Array.getElem?_eq_none hge] at h; cases h
theorem cell_set {w : World} {a : Addr} {v u : Value} (h : w.cell? a = some u) : (w.setCell a v).cell? a = some v := World.cell?_setCell_same' w a v (by rw [h]; rfl)
theorem frozen_set (w : World) (a b : Addr) (v : Value) : (w.setCell a v).frozen? b = w.frozen? b := World.frozen?_setCell _ _ _ _


/-- A cell that was there is there. -/
theorem Bel.at {w w' : World} {ad : Addr} {v : Value} (h : Bel w w') (hc : w.cell? ad = some v) : w'.cell? ad = some v := by
  rw [← hc]; exact World.cell?_of_block (w := w) (a := ad) (h.heap _ (lt_of_cell hc))
/-- New blocks, and how many answers have been drawn. -/
structure Mx where
  objs : Array Obj
  n : Nat
instance : Inhabited Mx := ⟨⟨#[], 0⟩⟩
/-- w with new blocks and draws: every world of which 'Bel w' holds (more_of_bel). For regions that draw their order. -/
def more (w : World) (x : Mx) : World := { w with heap := w.heap ++ x.objs, drawn := x.n }
theorem bel_more (w : World) (x : Mx) : Bel w (more w x) :=
  ⟨rfl, rfl, rfl, by simp [more], fun k hk => by simp [more, Array.getElem?_append, hk]⟩
theorem world_with : ∀ (a b : World), a.os = b.os → a.tape = b.tape → a.output = b.output → a = { b with heap := a.heap, drawn := a.drawn } := by
  rintro ⟨h, t, d, o, p⟩ ⟨h', t', d', o', p'⟩ e1 e2 e3
  dsimp only at e1 e2 e3
  subst e1 e2 e3
  rfl
theorem more_of_bel {w w' : World} (h : Bel w w') : ∃ x, w' = more w x := by
  refine ⟨⟨w'.heap.extract w.heap.size w'.heap.size, w'.drawn⟩, ?_⟩
  have e : w'.heap = w.heap ++ w'.heap.extract w.heap.size w'.heap.size := by
    apply Array.ext_getElem?
    intro i
    have hs := h.size
    rw [Array.getElem?_append]
    split
    · rename_i hi; exact h.heap i hi
    · rename_i hi
      rw [Array.getElem?_extract]
      split
      · congr 1; omega
      · rename_i hj; rw [Array.getElem?_eq_none (by omega)]
  show w' = { w with heap := w.heap ++ w'.heap.extract w.heap.size w'.heap.size, drawn := w'.drawn }
  rw [← e]
  exact world_with w' w h.os h.tape h.output
theorem cell_more {w : World} {a : Addr} {v : Value} (h : w.cell? a = some v) (x : Mx) : (more w x).cell? a = some v := by
  have hb := lt_of_cell h
  have : (more w x).cell? a = w.cell? a := World.cell?_of_block (w := w) (a := a) ((bel_more w x).heap _ hb)
  rw [this, h]
theorem Calls.more_of {P : Program} {f : FuncId} {args : Array Value} {w : World} {x : Mx} {v : Value}
    (h : Calls P f args (more w x) fun e w' => e = .returned v ∧ Bel (more w x) w') : Calls P f args (more w x) fun e w'' => e = .returned v ∧ ∃ y, w'' = more w y :=
  h.mono fun _ _ ⟨he, hb⟩ => ⟨he, more_of_bel ((bel_more w x).trans hb)⟩
/-- A region that draws its order, whose operations read and whose calls make at most new blocks: ONE walk of the lexical order. -/
theorem wp_region_more {P : Program} {id : Nat} {Q : Exit → Act → World → Prop} {a : Act} {w : World} {l : List Oper} (hm : P.follows .mixedOrders = true) (hB : Region.lexB .any l.toArray = true)
    (h : wpQuiet P l.toArray (fun w' => ∃ x, w' = more w x) (fun a' => ∀ w', Bel w w' → Q .normal a' w') l a) : (Code.region id l.toArray true).wp P Q a w := by
  refine wp_region_quiet (C := fun w' => ∃ x, w' = more w x) hm hB (more_of_bel (w := w) (Bel.drew (Bel.refl w))) ?_
  have : wpQuiet P l.toArray (fun w' => ∃ x, w' = more w x) (fun a' => ∀ w', (∃ x, w' = more w x) → Q .normal a' w') l a := by
    have e : (fun a' => ∀ w', (∃ x, w' = more w x) → Q .normal a' w') = (fun a' => ∀ w', Bel w w' → Q .normal a' w') := by
      funext a'
      exact propext ⟨fun h w' hb => h w' (more_of_bel hb), fun h w' ⟨x, hx⟩ => h w' (hx ▸ bel_more w x)⟩
    rw [e]; exact h
  simpa using this
theorem hid {p : Prop} (h : p) : Hid p := h
theorem ret_int {k : IntKind} {a b : Int} (h : a = b) : Ending.returned (.int k a) = .returned (.int k b) := by rw [h]
theorem ret_bool {a b : Bool} (h : a = b) : Ending.returned (.bool a) = .returned (.bool b) := by rw [h]
end Go.Proofs.Ytdjjjikokfadiaa
