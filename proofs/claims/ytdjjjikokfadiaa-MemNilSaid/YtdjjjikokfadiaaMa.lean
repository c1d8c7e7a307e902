/- mem: the memory objects of the program, as the world holds them. No condition. -/
import Derived.Test.YtdjjjikokfadiaaE3
namespace Go.Proofs.Ytdjjjikokfadiaa
set_option linter.unusedVariables false
set_option linter.unusedSimpArgs false
open Go.RowKit
theorem E.run_as {P : Program} {d : Option Nat} {op : Op} {T : TypeId} {pos : String} {af : Array Edge} {gd : Option (Nat × Bool)} {fr : E.Fr} {w : World} {a b : Value} (h : (execOp (E.ev fr) ⟨d, op, T, pos, af, gd⟩).run P w = .ok (.value a) w) (e : a = b) : (execOp (E.ev fr) ⟨d, op, T, pos, af, gd⟩).run P w = .ok (.value b) w := e ▸ h
theorem E.fork {p : Prop} (c : Bool) (t : c = true → p) (f : c = false → p) : p := by cases c with | true => exact t rfl | false => exact f rfl
/-- A page of a memory with its state: blocks of its content and its image, whether they are its own, the same at the last Clean, the rights. -/
structure M.Slot where
  d : Nat
  c : Option Nat
  od : Bool
  oc : Bool
  cd : Nat
  cc : Option Nat
  r : Int
def M.z : M.Slot := ⟨0, none, false, false, 0, none, 0⟩
def M.ptr (p : Option Nat) : Value := .pointer (p.map fun b => ⟨b, 0, none⟩)
def M.Slot.cells (s : M.Slot) : List Value := [.pointer (some ⟨s.d, 0, none⟩), M.ptr s.c, .bool s.od, .bool s.oc, .pointer (some ⟨s.cd, 0, none⟩), M.ptr s.cc, .int .i64 s.r]
def M.cells : List M.Slot → List Value
  | [] => []
  | s :: l => s.cells ++ M.cells l
theorem M.cells_len : ∀ l : List M.Slot, (M.cells l).length = 7 * l.length
  | [] => rfl
  | s :: l => by
    have := M.cells_len l
    show (s.cells ++ M.cells l).length = _
    rw [List.length_append, this]
    show 7 + _ = _
    rw [List.length_cons]; omega
theorem M.cells_at : ∀ (l : List M.Slot) (i k : Nat), i < l.length → k < 7 → (M.cells l)[i * 7 + k]? = (l.getD i M.z).cells[k]?
  | [], _, _, h, _ => by simp at h
  | s :: l, 0, k, _, hk => by
    show (s.cells ++ M.cells l)[0 * 7 + k]? = s.cells[k]?
    rw [List.getElem?_append_left (by show 0 * 7 + k < 7; omega)]; congr 1; omega
  | s :: l, i + 1, k, h, hk => by
    have ih := M.cells_at l i k (by simpa using h) hk
    show (s.cells ++ M.cells l)[(i + 1) * 7 + k]? = (l.getD i M.z).cells[k]?
    rw [List.getElem?_append_right (by show 7 ≤ _; omega), ← ih]
    congr 1
    show (i + 1) * 7 + k - 7 = _; omega
/-- The cells after one of a page's cells has been set. -/
theorem M.cells_set : ∀ (l : List M.Slot) (i k : Nat) (v : Value) (s : M.Slot), i < l.length → k < 7 → s.cells = (l.getD i M.z).cells.set k v → (M.cells l).set (i * 7 + k) v = M.cells (l.set i s)
  | [], _, _, _, _, h, _, _ => by simp at h
  | t :: l, 0, k, v, s, _, hk, he => by
    show (t.cells ++ M.cells l).set (0 * 7 + k) v = s.cells ++ M.cells l
    rw [List.set_append_left _ _ (by show 0 * 7 + k < 7; omega), he]
    congr 2; omega
  | t :: l, i + 1, k, v, s, h, hk, he => by
    have ih := M.cells_set l i k v s (by simpa using h) hk he
    show (t.cells ++ M.cells l).set ((i + 1) * 7 + k) v = t.cells ++ M.cells (l.set i s)
    rw [List.set_append_right _ _ (by show 7 ≤ _; omega), ← ih]
    congr 2
    show (i + 1) * 7 + k - 7 = _; omega
/-- A memory object: its block, the block of its pages' states, the slice's capacity and address, the pages, whether it is coherent, the pages' bytes. -/
structure M.Obj where
  m : Nat
  b : Nat
  cap : Nat
  ao : Option Addr
  sl : List M.Slot
  coh : Bool
  C : Nat → Nat → Int
def M.Obj.at (o : M.Obj) (i : Nat) : M.Slot := o.sl.getD i M.z
def M.Pg (sl : List M.Slot) (p : Nat) : Prop := ∃ i, i < sl.length ∧ (p = (sl.getD i M.z).d ∨ (sl.getD i M.z).c = some p ∨ p = (sl.getD i M.z).cd ∨ (sl.getD i M.z).cc = some p)
structure M.At (o : M.Obj) (w : World) : Prop where
  c0 : w.cell? ⟨o.m, 0, none⟩ = some (.slice o.ao o.sl.length o.cap)
  c1 : w.cell? ⟨o.m, 1, none⟩ = some (.bool o.coh)
  ha : 0 < o.sl.length → o.ao = some ⟨o.b, 0, none⟩
  cs : ∀ i v, (M.cells o.sl)[i]? = some v → w.cell? ⟨o.b, i, none⟩ = some v
  pg : ∀ p, M.Pg o.sl p → ∀ i, i < 256 → w.cell? ⟨p, i, none⟩ = some (.int .u8 (o.C p i))
  lt : o.sl.length ≤ 4096
theorem M.cell_keep {w w' : World} {a : Addr} {v : Value} {L : List Nat} (h : w.cell? a = some v) (hn : a.block ∉ L) (hw : ∀ b, b < w.heap.size → b ∉ L → w'.heap[b]? = w.heap[b]?) : w'.cell? a = some v := by
  have hb : a.block < w.heap.size := by
    cases hq : w.heap[a.block]? with
    | none => rw [World.cell?, hq] at h; cases h
    | some o => exact (Array.getElem?_eq_some_iff.1 hq).1
  rw [World.cell?] at h ⊢
  rw [hw a.block hb hn]
  exact h
theorem M.cell_lt {w : World} {a : Addr} {v : Value} (h : w.cell? a = some v) : a.block < w.heap.size := by
  cases hq : w.heap[a.block]? with
  | none => rw [World.cell?, hq] at h; cases h
  | some o => exact (Array.getElem?_eq_some_iff.1 hq).1
theorem M.At.keep {o : M.Obj} {w w' : World} {L : List Nat} (h : M.At o w) (h0 : o.m ∉ L) (h1 : 0 < o.sl.length → o.b ∉ L) (h2 : ∀ p, M.Pg o.sl p → p ∉ L) (hw : ∀ b, b < w.heap.size → b ∉ L → w'.heap[b]? = w.heap[b]?) : M.At o w' :=
  ⟨M.cell_keep h.c0 h0 hw, M.cell_keep h.c1 h0 hw, h.ha, fun i v hv => M.cell_keep (h.cs i v hv) (h1 (by
    cases hs : o.sl with
    | nil => rw [hs] at hv; simp [M.cells] at hv
    | cons => simp)) hw, fun p hp i hi => M.cell_keep (h.pg p hp i hi) (h2 p hp) hw, h.lt⟩
theorem M.At.hp {S : Nat → Prop} {o : M.Obj} {w : World} (h : M.At o w) : E.Hp S w (fun w => M.At o w) [] w :=
  ⟨Ch.refl _ _, by simp, by simp, by simp, by simp, by simp, fun w' _ hw => h.keep (L := []) (by simp) (by simp) (by simp) (by simpa using hw)⟩
section
variable {n : Nat} {fr : E.Fr} {d : Option Nat} {T : TypeId} {pos : String} {af : Array Edge} {gd : Option (Nat × Bool)} {w : World} {o : M.Obj} {x ix : Operand}
theorem M.load1 {P : Program} {t : TypeId} {a : Addr} {v : Value} (hx : E.ev fr x = .pointer (some a)) (ht : (isAgg t).run P w = .ok false w) (h : w.cell? a = some v) :
    (execOp (E.ev fr) ⟨d, .load t x, T, pos, af, gd⟩).run P w = .ok (.value v) w := by
  show (do let r ← Instr.loadAt t (E.ev fr x); pure (Next.value r) : Sem Next).run P w = _
  rw [hx]
  simp [Instr.loadAt, Instr.sureAddr, loadVar, ht, load, Sem.run, h]
theorem M.one {P : Program} {t : TypeId} {D : TypeDesc} (hu : P.underlying t = some D) (hD : (match D with | .struct _ => true | .array _ _ => true | _ => false) = false) : (isAgg t).run P w = .ok false w := by
  cases D <;> first | (simp [isAgg, underlying, hu]; done) | cases hD
end
/-- Whether an address lies beyond. -/
def M.Obj.out (o : M.Obj) (i : Nat) : Bool := decide (o.sl.length ≤ i)
theorem M.in_of {o : M.Obj} {i : Nat} (h : o.out i = false) : i < o.sl.length := by unfold M.Obj.out at h; simpa using h
theorem M.out_of {o : M.Obj} {i : Nat} (h : o.out i = true) : o.sl.length ≤ i := by unfold M.Obj.out at h; simpa using h
theorem M.At.fld {o : M.Obj} {w : World} (h : M.At o w) {i k : Nat} (hi : i < o.sl.length) {v : Value} (hv : (o.at i).cells[k]? = some v) (hk : k < 7) (j : Nat) (hj : j = i * 7 + k) : w.cell? ⟨o.b, j, none⟩ = some v := by
  subst hj
  exact h.cs _ _ ((M.cells_at o.sl i k hi hk).trans hv)
theorem M.pg_d {o : M.Obj} {i : Nat} (h : i < o.sl.length) : M.Pg o.sl (o.at i).d := ⟨i, h, .inl rfl⟩
theorem M.pg_c {o : M.Obj} {i p : Nat} (h : i < o.sl.length) (hc : (o.at i).c = some p) : M.Pg o.sl p := ⟨i, h, .inr (.inl hc)⟩
theorem M.pg_cd {o : M.Obj} {i : Nat} (h : i < o.sl.length) : M.Pg o.sl (o.at i).cd := ⟨i, h, .inr (.inr (.inl rfl))⟩
theorem M.pg_cc {o : M.Obj} {i p : Nat} (h : i < o.sl.length) (hc : (o.at i).cc = some p) : M.Pg o.sl p := ⟨i, h, .inr (.inr (.inr hc))⟩
theorem M.idxO {P : Program} {fr : E.Fr} {d : Option Nat} {T : TypeId} {pos : String} {af : Array Edge} {gd : Option (Nat × Bool)} {t e : TypeId} {x ix : Operand} {ao : Option Addr} {b len cap esz : Nat} {k : IntKind} {i : Nat} (hu : P.underlying t = some (.slice e)) (hs : (P.info? e).map (·.size) = some esz) (hx : E.ev fr x = .slice ao len cap) (hi : E.ev fr ix = .int k ((i : Nat) : Int))
    (h1 : i < len) (ha : 0 < len → ao = some ⟨b, 0, none⟩) (w : World) : (execOp (E.ev fr) ⟨d, .indexAddr t x ix, T, pos, af, gd⟩).run P w = .ok (.value (.pointer (some ⟨b, i * esz, none⟩))) w := by
  obtain rfl := ha (by omega)
  have := E.idxS (e := e) (d := d) (T := T) (pos := pos) (af := af) (gd := gd) b 0 len cap esz k ((i : Nat) : Int) hu hs hx hi (by omega) (by omega) w
  rw [this, Int.toNat_natCast, Nat.zero_add]
end Go.Proofs.Ytdjjjikokfadiaa
