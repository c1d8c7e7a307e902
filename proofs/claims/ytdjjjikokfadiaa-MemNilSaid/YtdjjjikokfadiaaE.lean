/- A logic of symbolic states: a frame known at some slots, a world known at some blocks; rules for operations, regions and code. No condition. -/
import Derived.Test.YtdjjjikokfadiaaBase
import Derived.Laws.Tables
import Derived.Laws.Sem
import Derived.Laws.BytesArg
import Derived.Great.BuildSlice
namespace Go.Proofs.Ytdjjjikokfadiaa
set_option linter.unusedVariables false
set_option linter.unusedSimpArgs false
open Go.RowKit
/-- A frame: what is known of its slots (the first entry of a slot counts). -/
abbrev E.Fr := List (Nat × Value)
def E.get : E.Fr → Nat → Value
  | [], _ => undef
  | p :: r, n => bif Nat.beq p.1 n then p.2 else E.get r n
def E.has : E.Fr → Nat → Bool
  | [], _ => false
  | p :: r, n => bif Nat.beq p.1 n then true else E.has r n
def E.ev (fr : E.Fr) (x : Operand) : Value := match x with
  | .tmp t => E.get fr t
  | .const v => v
  | .global g => .pointer (some ⟨g, 0, none⟩)
  | .func f => .func (.func f) #[] #[]
def E.okx (fr : E.Fr) (x : Operand) : Bool := match x with
  | .tmp t => E.has fr t
  | _ => true
def E.ok (fr : E.Fr) (o : Oper) : Bool := (match o.op with | .select _ _ => false | _ => true) && o.op.operands.toList.all (E.okx fr)
def E.upd (fr : E.Fr) (d : Option Nat) (v : Value) : E.Fr := match d with
  | none => fr
  | some d => (d, v) :: fr
def E.fits (n : Nat) (d : Option Nat) : Bool := match d with
  | none => true
  | some d => Nat.blt d n
structure E.St (n : Nat) (fr : E.Fr) (a : Act) : Prop where
  size : a.tmps.size = n
  defs : a.defers = []
  at_ : ∀ i, E.has fr i = true → a.tmps.getD i undef = E.get fr i
theorem E.St.put {n : Nat} {fr : E.Fr} {a : Act} (h : E.St n fr a) {d : Option Nat} (hd : E.fits n d = true) (v : Value) : E.St n (E.upd fr d v) (a.put d v) := by
  cases d with
  | none => exact h
  | some d =>
    have hlt : d < n := by have : d + 1 ≤ n := by simpa [E.fits, Nat.blt] using hd
                           omega
    refine ⟨by simp [Act.put, h.size], h.defs, fun i hi => ?_⟩
    by_cases e : d = i
    · subst e
      have : d < a.tmps.size := by rw [h.size]; exact hlt
      simp [Act.put, E.upd, E.get, this]
    · have hb : Nat.beq d i = false := by cases hq : Nat.beq d i with | false => rfl | true => exact absurd (Nat.eq_of_beq_eq_true hq) e
      have hi' : E.has fr i = true := by simpa [E.upd, E.has, hb] using hi
      have := h.at_ i hi'
      simp only [E.upd, E.get, hb, cond_false]
      rw [← this]
      simp [Act.put, Array.getElem?_setIfInBounds_ne e]
theorem E.St.ev {n : Nat} {fr : E.Fr} {a : Act} (h : E.St n fr a) {x : Operand} (hx : E.okx fr x = true) : a.eval x = E.ev fr x := by
  cases x with
  | tmp t => exact h.at_ t hx
  | _ => rfl
theorem E.St.exec {n : Nat} {fr : E.Fr} {a : Act} (h : E.St n fr a) {o : Oper} (ho : E.ok fr o = true) : execOp a.eval o = execOp (E.ev fr) o := by
  unfold E.ok at ho
  rw [Bool.and_eq_true] at ho
  refine execOp_congr o (fun cs b e => ?_) (fun x hx => h.ev ?_)
  · rw [e] at ho; exact absurd ho.1 (by simp)
  · exact List.all_eq_true.1 ho.2 x (by simpa using hx)
theorem E.has_mem : ∀ {fr : E.Fr} {i : Nat}, E.has fr i = true → (i, E.get fr i) ∈ fr
  | [], _, h => by simp [E.has] at h
  | p :: r, i, h => by
    unfold E.has at h
    unfold E.get
    cases hq : Nat.beq p.1 i with
    | true => obtain rfl := Nat.eq_of_beq_eq_true hq; simp
    | false => rw [hq] at h; simp only [cond_false] at h ⊢; exact List.mem_cons_of_mem _ (E.has_mem h)
def E.hasL (fr : E.Fr) : List Nat → Bool
  | [] => true
  | i :: l => bif E.has fr i then E.hasL fr l else false
/-- All that fr' knows follows from fr. -/
def E.sub (fr' fr : E.Fr) : Prop := E.hasL fr (fr'.map (·.1)) = true ∧ fr'.map (fun p => E.get fr p.1) = fr'.map (·.2)
theorem E.hasL_mem {fr : E.Fr} : ∀ {l : List Nat}, E.hasL fr l = true → ∀ i ∈ l, E.has fr i = true
  | [], _, _, hi => by cases hi
  | j :: l, h, i, hi => by
    unfold E.hasL at h
    cases hj : E.has fr j with
    | false => rw [hj] at h; cases h
    | true =>
      rw [hj] at h
      rcases List.mem_cons.1 hi with rfl | hi
      · exact hj
      · exact E.hasL_mem h i hi
theorem E.sub_mem {fr' fr : E.Fr} (h : E.sub fr' fr) (p : Nat × Value) (hp : p ∈ fr') : E.has fr p.1 = true ∧ E.get fr p.1 = p.2 :=
  ⟨E.hasL_mem h.1 _ (List.mem_map.2 ⟨p, hp, rfl⟩), by
    obtain ⟨i, hi⟩ := List.mem_iff_getElem?.1 hp
    have h1 : (fr'.map fun p => E.get fr p.1)[i]? = some (E.get fr p.1) := by rw [List.getElem?_map, hi]; rfl
    have h2 : (fr'.map (·.2))[i]? = some p.2 := by rw [List.getElem?_map, hi]; rfl
    rw [h.2, h2] at h1
    exact (Option.some.inj h1).symm⟩
theorem E.St.sub {n : Nat} {fr fr' : E.Fr} {a : Act} (h : E.St n fr a) (hs : E.sub fr' fr) : E.St n fr' a :=
  ⟨h.size, h.defs, fun i hi => by
    obtain ⟨h1, h2⟩ := E.sub_mem hs _ (E.has_mem hi)
    rw [h.at_ i h1, h2]⟩
/-- fr' is fr at the slots l. -/
def E.keep (fr : E.Fr) : List Nat → E.Fr
  | [] => []
  | i :: l => (i, E.get fr i) :: E.keep fr l
def E.hasAll (fr : E.Fr) : List Nat → Bool
  | [] => true
  | i :: l => bif E.has fr i then E.hasAll fr l else false
/-- Whether the operation is wanted, if the frame tells. -/
def E.want (ops : Array Oper) (fr : E.Fr) (o : Oper) : Option Bool := match o.guard with
  | none => some true
  | some (g, b) => match (ops[g]?).bind (·.dst) with
    | none => some false
    | some t => bif E.has fr t then (match E.get fr t with | .bool c => some (c == b) | _ => some false) else none
theorem E.St.want {n : Nat} {fr : E.Fr} {a : Act} (h : E.St n fr a) {ops : Array Oper} {o : Oper} {c : Bool} (hw : E.want ops fr o = some c) : Region.wanted o (yielded ops a.tmps) = c := by
  unfold E.want at hw
  unfold Region.wanted
  cases hg : o.guard with
  | none => rw [hg] at hw; simpa using hw
  | some gb =>
    obtain ⟨g, b⟩ := gb
    rw [hg] at hw
    simp only at hw ⊢
    unfold yielded
    cases ht : (ops[g]?).bind (·.dst) with
    | none => rw [ht] at hw; simp at hw ⊢; exact hw
    | some t =>
      rw [ht] at hw
      simp only [Option.bind_some] at hw ⊢
      cases hh : E.has fr t with
      | false => rw [hh] at hw; simp at hw
      | true =>
        rw [hh] at hw
        simp only [cond_true] at hw
        have hv := h.at_ t hh
        rcases Nat.lt_or_ge t a.tmps.size with hlt | hge
        · have e : a.tmps[t]? = some (E.get fr t) := by rw [← hv]; simp [Array.getD, hlt]
          rw [e]
          generalize E.get fr t = v at *
          cases v <;> simp at hw ⊢ <;> first | exact hw | (rename_i x; cases x <;> cases b <;> simp_all)
        · have e : a.tmps[t]? = none := Array.getElem?_eq_none hge
          have hu : E.get fr t = undef := by rw [← hv]; simp [Array.getD, Nat.not_lt.2 hge]
          rw [e]; rw [hu] at hw; unfold undef at hw; simp at hw ⊢; exact hw
/-- The operation is wanted, its operands are known, its slot exists. -/
def E.ck (n : Nat) (ops : Array Oper) (fr : E.Fr) (o : Oper) : Bool := (match E.want ops fr o with | some true => true | _ => false) && (E.ok fr o && E.fits n o.dst)
theorem E.ck_w {n : Nat} {ops : Array Oper} {fr : E.Fr} {o : Oper} (h : E.ck n ops fr o = true) : E.want ops fr o = some true := by
  unfold E.ck at h
  rw [Bool.and_eq_true] at h
  have := h.1
  split at this
  · assumption
  · cases this
theorem E.ck_k {n : Nat} {ops : Array Oper} {fr : E.Fr} {o : Oper} (h : E.ck n ops fr o = true) : E.ok fr o = true := by
  unfold E.ck at h; rw [Bool.and_eq_true, Bool.and_eq_true] at h; exact h.2.1
theorem E.ck_f {n : Nat} {ops : Array Oper} {fr : E.Fr} {o : Oper} (h : E.ck n ops fr o = true) : E.fits n o.dst = true := by
  unfold E.ck at h; rw [Bool.and_eq_true, Bool.and_eq_true] at h; exact h.2.2
/-- The world: S may have changed since w0; the blocks L hold these cells and may be written; X holds, and goes on to hold if only the blocks L change. -/
structure E.Hp (S : Nat → Prop) (w0 : World) (X : World → Prop) (L : List (Nat × List Value)) (w : World) : Prop where
  ch : Ch S w0 w
  mem : ∀ p ∈ L, ∀ i v, p.2[i]? = some v → w.cell? ⟨p.1, i, none⟩ = some v
  fz : ∀ p ∈ L, ∀ i, w.frozen? ⟨p.1, i, none⟩ = false
  lt : ∀ p ∈ L, p.1 < w.heap.size
  own : ∀ p ∈ L, p.1 < w0.heap.size → S p.1
  nodup : (L.map (·.1)).Nodup
  ext : ∀ w', w.heap.size ≤ w'.heap.size → (∀ b, b < w.heap.size → b ∉ L.map (·.1) → w'.heap[b]? = w.heap[b]?) → X w'
section
variable {S : Nat → Prop} {w0 : World} {X : World → Prop} {L : List (Nat × List Value)}
theorem E.Hp.x {w : World} (h : E.Hp S w0 X L w) : X w := h.ext w (Nat.le_refl _) (fun _ _ _ => rfl)
theorem E.Hp.start (w : World) : E.Hp S w (fun _ => True) [] w :=
  ⟨Ch.refl _ _, by simp, by simp, by simp, by simp, by simp, fun _ _ _ => trivial⟩
theorem E.Hp.bel {w w' : World} (h : E.Hp S w0 X L w) (hb : Bel w w') : E.Hp S w0 X L w' :=
  ⟨h.ch.then hb, fun p hp i v hv => (hb.cell p.1 i (h.lt p hp)).trans (h.mem p hp i v hv), fun p hp i => (hb.frozen p.1 i (h.lt p hp)).trans (h.fz p hp i),
    fun p hp => Nat.lt_of_lt_of_le (h.lt p hp) hb.size, h.own, h.nodup, fun w2 hs hw => h.ext w2 (Nat.le_trans hb.size hs) fun b hlt hn => (hw b (Nat.lt_of_lt_of_le hlt hb.size) hn).trans (hb.heap b hlt)⟩
theorem E.Hp.new {w : World} (h : E.Hp S w0 X L w) (cs : List Value) (T : TypeId) : E.Hp S w0 X ((w.heap.size, cs) :: L) (w.alloc (.cells cs.toArray T)) := by
  have hb : Bel w (w.alloc (.cells cs.toArray T)) := Bel.alloc (Bel.refl _) _
  have h1 := h.bel hb
  refine ⟨h1.ch, ?_, ?_, ?_, ?_, ?_, ?_⟩
  · intro p hp i v hv
    rcases List.mem_cons.1 hp with rfl | hp
    · rw [World.cell?_alloc_mark]; simpa using hv
    · exact h1.mem p hp i v hv
  · intro p hp i
    rcases List.mem_cons.1 hp with rfl | hp
    · unfold World.frozen? World.alloc; simp
    · exact h1.fz p hp i
  · intro p hp
    rcases List.mem_cons.1 hp with rfl | hp
    · show w.heap.size < (w.heap.push _).size; simp
    · exact h1.lt p hp
  · intro p hp hlt
    rcases List.mem_cons.1 hp with rfl | hp
    · exact absurd hlt (Nat.not_lt.2 h.ch.size)
    · exact h1.own p hp hlt
  · rw [List.map_cons, List.nodup_cons]
    refine ⟨fun hm => ?_, h.nodup⟩
    obtain ⟨p, hp, e⟩ := List.mem_map.1 hm
    have := h.lt p hp
    omega
  · intro w2 hs hw
    refine h.ext w2 (Nat.le_trans hb.size hs) fun b hlt hn => (hw b (Nat.lt_of_lt_of_le hlt hb.size) ?_).trans (hb.heap b hlt)
    rw [List.map_cons, List.mem_cons]
    rintro (e | e)
    · omega
    · exact hn e
theorem E.nodup_of {L : List (Nat × List Value)} (hn : (L.map (·.1)).Nodup) {i j : Nat} {p q : Nat × List Value} (hi : L[i]? = some p) (hj : L[j]? = some q) (e : p.1 = q.1) : i = j := by
  obtain ⟨hi1, rfl⟩ := List.getElem?_eq_some_iff.1 hi
  obtain ⟨hj1, rfl⟩ := List.getElem?_eq_some_iff.1 hj
  have h2 := (List.pairwise_iff_getElem.1 hn)
  rcases Nat.lt_trichotomy i j with h | h | h
  · exact absurd (by rw [List.getElem_map, List.getElem_map]; exact e) (h2 i j (by simpa using hi1) (by simpa using hj1) h)
  · exact h
  · exact absurd (by rw [List.getElem_map, List.getElem_map]; exact e.symm) (h2 j i (by simpa using hj1) (by simpa using hi1) h)
theorem E.Hp.set {w : World} (h : E.Hp S w0 X L w) {k g j : Nat} {cs : List Value} (hk : L[k]? = some (g, cs)) (hj : j < cs.length) (v : Value) : E.Hp S w0 X (L.set k (g, cs.set j v)) (w.setCell ⟨g, j, none⟩ v) := by
  have hm : (g, cs) ∈ L := List.mem_of_getElem? hk
  obtain ⟨hk1, hk2⟩ := List.getElem?_eq_some_iff.1 hk
  have hmap : (L.set k (g, cs.set j v)).map (·.1) = L.map (·.1) := by
    rw [List.map_set]
    refine List.ext_getElem? fun i => ?_
    rw [List.getElem?_set]
    by_cases e : k = i
    · subst e; simp [hk1, hk2]
    · rw [if_neg e]
  have hsz : (w.setCell ⟨g, j, none⟩ v).heap.size = w.heap.size := by simp [World.setCell]
  have hother : ∀ b, b ≠ g → (w.setCell ⟨g, j, none⟩ v).heap[b]? = w.heap[b]? := fun b hb => Below.heap_setCell w ⟨g, j, none⟩ v b (fun e => hb e)
  have hin : ∀ p ∈ L.set k (g, cs.set j v), p = (g, cs.set j v) ∨ (p ∈ L ∧ p.1 ≠ g) := by
    intro p hp
    obtain ⟨i, hi⟩ := List.mem_iff_getElem?.1 hp
    rw [List.getElem?_set] at hi
    by_cases e : k = i
    · subst e; simp [hk1] at hi; exact .inl hi.symm
    · rw [if_neg e] at hi
      refine .inr ⟨List.mem_of_getElem? hi, fun e2 => e ?_⟩
      exact E.nodup_of h.nodup hk hi e2.symm
  refine ⟨h.ch.setCell (p := ⟨g, j, none⟩) (fun hl => h.own _ hm hl) v, ?_, ?_, ?_, ?_, ?_, ?_⟩
  · intro p hp i u hu
    rcases hin p hp with rfl | ⟨hp, hne⟩
    · simp only at hu ⊢
      rw [List.getElem?_set] at hu
      by_cases e : j = i
      · subst e
        simp [hj] at hu; subst hu
        exact cell_set (h.mem _ hm j _ (List.getElem?_eq_getElem hj))
      · rw [if_neg e] at hu
        rw [World.cell?_setCell_other _ _ _ _ (by intro q; injection q with _ h2 _; exact e h2)]
        exact h.mem _ hm i u hu
    · rw [World.cell?_setCell_other _ _ _ _ (by intro q; injection q with h1 _ _; exact hne h1.symm)]
      exact h.mem p hp i u hu
  · intro p hp i
    rw [frozen_set]
    rcases hin p hp with rfl | ⟨hp, hne⟩
    · exact h.fz (g, cs) hm i
    · exact h.fz p hp i
  · intro p hp
    rw [hsz]
    rcases hin p hp with rfl | ⟨hp, hne⟩
    · exact h.lt (g, cs) hm
    · exact h.lt p hp
  · intro p hp
    rcases hin p hp with rfl | ⟨hp, hne⟩
    · exact h.own (g, cs) hm
    · exact h.own p hp
  · rw [hmap]; exact h.nodup
  · intro w2 hs hw
    rw [hsz] at hs hw
    rw [hmap] at hw
    refine h.ext w2 hs fun b hlt hn => (hw b hlt hn).trans (hother b ?_)
    rintro rfl
    exact hn (List.mem_map.2 ⟨_, hm, rfl⟩)
theorem E.Hp.less {w : World} {L' : List (Nat × List Value)} (h : E.Hp S w0 X L w) (hs : L'.Sublist L) : E.Hp S w0 X L' w :=
  ⟨h.ch, fun p hp => h.mem p (hs.mem hp), fun p hp => h.fz p (hs.mem hp), fun p hp => h.lt p (hs.mem hp), fun p hp => h.own p (hs.mem hp), (hs.map _).nodup h.nodup,
    fun w2 h1 h2 => h.ext w2 h1 fun b hlt hn => h2 b hlt fun hm => hn ((hs.map _).mem hm)⟩
theorem E.Hp.addX {w : World} {Y : World → Prop} (h : E.Hp S w0 X L w) (hy : ∀ w', w.heap.size ≤ w'.heap.size → (∀ b, b < w.heap.size → b ∉ L.map (·.1) → w'.heap[b]? = w.heap[b]?) → Y w') : E.Hp S w0 (fun w => X w ∧ Y w) L w :=
  ⟨h.ch, h.mem, h.fz, h.lt, h.own, h.nodup, fun w2 h1 h2 => ⟨h.ext w2 h1 h2, hy w2 h1 h2⟩⟩
theorem E.Hp.monoX {w : World} {Y : World → Prop} (h : E.Hp S w0 X L w) (hy : ∀ w, X w → Y w) : E.Hp S w0 Y L w :=
  ⟨h.ch, h.mem, h.fz, h.lt, h.own, h.nodup, fun w2 h1 h2 => hy _ (h.ext w2 h1 h2)⟩
theorem E.Hp.cell {w : World} (h : E.Hp S w0 X L w) (k : Nat) {g j : Nat} {cs : List Value} {v : Value} (hk : L[k]? = some (g, cs)) (hv : cs[j]? = some v) : w.cell? ⟨g, j, none⟩ = some v :=
  h.mem _ (List.mem_of_getElem? hk) j v hv
end

/-- What is loaded from cells cs at j. -/
def E.ld (P : Program) (t : TypeId) (cs : List Value) (j : Nat) : Option Value := match P.underlying t, P.info? t with
  | some (.struct _), some i => bif Nat.ble (j + i.size) cs.length then some (.agg ((cs.drop j).take i.size).toArray) else none
  | some (.array _ _), some i => bif Nat.ble (j + i.size) cs.length then some (.agg ((cs.drop j).take i.size).toArray) else none
  | some _, _ => cs[j]?
  | none, _ => none
theorem E.run_loadFrom {P : Program} (w : World) (g : Nat) : ∀ (xs : List Value) (j i : Nat) (acc : Array Value), (∀ k v, xs[k]? = some v → w.cell? ⟨g, j + i + k, none⟩ = some v) →
    (loadCellsFrom ⟨g, j, none⟩ i xs.length acc).run P w = .ok (acc ++ xs.toArray) w
  | [], j, i, acc, _ => by simp [loadCellsFrom, pure, Sem.run]
  | x :: xs, j, i, acc, h => by
    have h0 : w.cell? ((⟨g, j, none⟩ : Addr).add i) = some x := by
      have := h 0 x rfl
      unfold Addr.add
      split
      · rename_i e; subst e; simpa using this
      · simpa using this
    have ih := E.run_loadFrom (P := P) w g xs j (i + 1) (acc.push x) (fun k v hk => by have := h (k + 1) v (by simpa using hk); rwa [show j + (i + 1) + k = j + i + (k + 1) by omega])
    show (Sem.bind (load ((⟨g, j, none⟩ : Addr).add i)) fun v => loadCellsFrom ⟨g, j, none⟩ (i + 1) xs.length (acc.push v)).run P w = _
    simp only [load, Sem.bind, Sem.run, h0]
    rw [ih]
    simp
theorem E.ld_run {P : Program} {w : World} {g j : Nat} {cs : List Value} {t : TypeId} {v : Value} (hm : ∀ i v, cs[i]? = some v → w.cell? ⟨g, i, none⟩ = some v) (h : E.ld P t cs j = some v) :
    (Instr.loadAt t (.pointer (some ⟨g, j, none⟩))).run P w = .ok v w := by
  unfold E.ld at h
  have agg : ∀ i : TypeInfo, P.info? t = some i → (∃ d, P.underlying t = some d ∧ (isAgg t).run P w = .ok true w) → (bif Nat.ble (j + i.size) cs.length then some (.agg ((cs.drop j).take i.size).toArray) else none) = some v → (Instr.loadAt t (.pointer (some ⟨g, j, none⟩))).run P w = .ok v w := by
    intro i hi ⟨d, hd, ha⟩ hv
    cases hb : Nat.ble (j + i.size) cs.length with
    | false => rw [hb] at hv; cases hv
    | true =>
      rw [hb] at hv
      simp only [cond_true, Option.some.injEq] at hv
      subst hv
      have hle : j + i.size ≤ cs.length := by simpa using hb
      have hl := E.run_loadFrom (P := P) w g ((cs.drop j).take i.size) j 0 #[] (fun k v hk => by
        rw [List.getElem?_take] at hk
        split at hk
        · rw [List.getElem?_drop] at hk; simpa using hm (j + k) v hk
        · cases hk)
      have hlen : ((cs.drop j).take i.size).length = i.size := by simp; omega
      rw [hlen] at hl
      have hs : (sizeOf t).run P w = .ok i.size w := by simp [sizeOf, typeInfo, hi]
      simp [Instr.loadAt, Instr.sureAddr, loadVar, ha, hs, loadCells, hl]
  have one : (isAgg t).run P w = .ok false w → cs[j]? = some v → (Instr.loadAt t (.pointer (some ⟨g, j, none⟩))).run P w = .ok v w := by
    intro ha hv
    simp [Instr.loadAt, Instr.sureAddr, loadVar, ha, load, Sem.run, hm j v hv]
  cases hu : P.underlying t with
  | none => rw [hu] at h; cases h
  | some d =>
    rw [hu] at h
    cases d
    case struct fs =>
      cases hi : P.info? t with
      | none => rw [hi] at h; simp only at h; exact absurd hu (by unfold Program.underlying; rw [hi]; simp)
      | some i => rw [hi] at h; exact agg i hi ⟨_, hu, by simp [isAgg, underlying, hu]⟩ h
    case array n e =>
      cases hi : P.info? t with
      | none => rw [hi] at h; simp only at h; exact absurd hu (by unfold Program.underlying; rw [hi]; simp)
      | some i => rw [hi] at h; exact agg i hi ⟨_, hu, by simp [isAgg, underlying, hu]⟩ h
    all_goals exact one (by simp [isAgg, underlying, hu]) h

/-- cs with vs laid from j on. -/
def E.lay (cs : List Value) (j : Nat) : List Value → List Value
  | [] => cs
  | v :: vs => E.lay (cs.set j v) (j + 1) vs
def E.cellB : Value → Bool
  | .agg _ => false
  | .tuple _ => false
  | _ => true
/-- What a store at j leaves of cells cs. -/
def E.sto (P : Program) (t : TypeId) (cs : List Value) (j : Nat) (v : Value) : Option (List Value) := match P.info? t with
  | some i => bif Nat.beq v.cells.size i.size && Nat.ble (j + i.size) cs.length && v.cells.toList.all E.cellB then some (E.lay cs j v.cells.toList) else none
  | none => none
theorem E.run_storeFrom {P : Program} {S : Nat → Prop} {w0 : World} {X : World → Prop} (k g j : Nat) : ∀ (vs : List Value) (i : Nat) (cs : List Value) (L : List (Nat × List Value)) (w : World), E.Hp S w0 X L w → L[k]? = some (g, cs) → j + i + vs.length ≤ cs.length → vs.all E.cellB = true →
    ∃ w', (storeCells ⟨g, j, none⟩ vs i).run P w = .ok () w' ∧ E.Hp S w0 X (L.set k (g, E.lay cs (j + i) vs)) w'
  | [], i, cs, L, w, h, hk, _, _ => by
    refine ⟨w, by simp [storeCells, pure, Sem.run], ?_⟩
    have : L.set k (g, E.lay cs (j + i) []) = L := by
      refine List.ext_getElem? fun a => ?_
      rw [List.getElem?_set]
      split
      · rename_i e; subst e; rw [hk]; have := (List.getElem?_eq_some_iff.1 hk).1; simp [this, E.lay]
      · rfl
    rw [this]; exact h
  | v :: vs, i, cs, L, w, h, hk, hl, ha => by
    simp only [List.all_cons, Bool.and_eq_true] at ha
    simp only [List.length_cons] at hl
    have hlt : j + i < cs.length := by omega
    have hc : w.cell? ⟨g, j + i, none⟩ = some cs[j + i] := h.cell k hk (List.getElem?_eq_getElem hlt)
    have hf : w.frozen? ⟨g, j + i, none⟩ = false := h.fz _ (List.mem_of_getElem? hk) _
    have h1 := h.set hk hlt v
    have hk1 : (L.set k (g, cs.set (j + i) v))[k]? = some (g, cs.set (j + i) v) := by
      have := (List.getElem?_eq_some_iff.1 hk).1
      simp [this]
    obtain ⟨w', hr, hw'⟩ := E.run_storeFrom (P := P) k g j vs (i + 1) _ _ _ h1 hk1 (by simp; omega) ha.2
    refine ⟨w', ?_, ?_⟩
    · have had : (⟨g, j, none⟩ : Addr).add i = ⟨g, j + i, none⟩ := by unfold Addr.add; split <;> simp_all
      show (Sem.bind (store ((⟨g, j, none⟩ : Addr).add i) v) fun _ => storeCells ⟨g, j, none⟩ vs (i + 1)).run P w = _
      rw [had]
      simp only [store, Sem.bind]
      cases v <;> first
        | (simp only [Sem.run, hc, hf]; exact hr)
        | exact absurd ha.1 (by simp [E.cellB])
    · have e : (L.set k (g, cs.set (j + i) v)).set k (g, E.lay (cs.set (j + i) v) (j + (i + 1)) vs) = L.set k (g, E.lay cs (j + i) (v :: vs)) := by
        rw [List.set_set]; rfl
      rw [← e]; exact hw'
theorem E.sto_run {P : Program} {S : Nat → Prop} {w0 : World} {X : World → Prop} {L : List (Nat × List Value)} {w : World} (k : Nat) {g j : Nat} {cs cs' : List Value} {t : TypeId} {v : Value} (h : E.Hp S w0 X L w) (hk : L[k]? = some (g, cs)) (hv : E.sto P t cs j v = some cs') :
    ∃ w', (Instr.storeAt t (.pointer (some ⟨g, j, none⟩)) v).run P w = .ok () w' ∧ E.Hp S w0 X (L.set k (g, cs')) w' := by
  unfold E.sto at hv
  cases hi : P.info? t with
  | none => rw [hi] at hv; cases hv
  | some i =>
    rw [hi] at hv
    simp only at hv
    cases hb : (Nat.beq v.cells.size i.size && Nat.ble (j + i.size) cs.length && v.cells.toList.all E.cellB) with
    | false => rw [hb] at hv; cases hv
    | true =>
      rw [hb] at hv
      simp only [cond_true, Option.some.injEq] at hv
      subst hv
      simp only [Bool.and_eq_true] at hb
      obtain ⟨⟨h1, h2⟩, h3⟩ := hb
      have h1 := Nat.eq_of_beq_eq_true h1
      have h2 : j + i.size ≤ cs.length := by simpa using h2
      obtain ⟨w', hr, hw⟩ := E.run_storeFrom (P := P) k g j v.cells.toList 0 cs L w h hk (by simp; omega) h3
      refine ⟨w', ?_, hw⟩
      have hs : (sizeOf t).run P w = .ok i.size w := by simp [sizeOf, typeInfo, hi]
      simp [Instr.storeAt, Instr.sureAddr, storeVar, hs, h1, hr]

section rules
variable {P : Program} {n : Nat} {ops : Array Oper} {Q : Exit → Act → World → Prop} {S : Nat → Prop} {w0 : World} {X : World → Prop} {L : List (Nat × List Value)} {l : List Oper} {o : Oper} {fr : E.Fr}
/-- The operations l, from the symbolic state fr, X, L on. -/
def E.G (P : Program) (n : Nat) (ops : Array Oper) (Q : Exit → Act → World → Prop) (l : List Oper) (fr : E.Fr) (S : Nat → Prop) (w0 : World) (X : World → Prop) (L : List (Nat × List Value)) : Prop :=
  ∀ a w, E.St n fr a → E.Hp S w0 X L w → wpList P ops Q l a w
/-- The code c, from the symbolic state fr, X, L on. -/
def E.C (P : Program) (n : Nat) (Q : Exit → Act → World → Prop) (c : Code) (fr : E.Fr) (S : Nat → Prop) (w0 : World) (X : World → Prop) (L : List (Nat × List Value)) : Prop :=
  ∀ a w, E.St n fr a → E.Hp S w0 X L w → c.wp P Q a w
theorem E.step {a : Act} {w : World} (hw : Region.wanted o (yielded ops a.tmps) = true) (h : o.wp P a w (wpList P ops Q l) Q) : wpList P ops Q (o :: l) a w := by
  unfold wpList; rw [if_pos hw]; exact .inl h
/-- An operation that yields a value and leaves the world alone. -/
theorem E.G.val (v : Value) (hck : E.ck n ops fr o = true) (hr : ∀ w, E.Hp S w0 X L w → (execOp (E.ev fr) o).run P w = .ok (.value v) w)
    (k : E.G P n ops Q l (E.upd fr o.dst v) S w0 X L) : E.G P n ops Q (o :: l) fr S w0 X L := by
  intro a w hs hh
  refine E.step (hs.want (E.ck_w hck)) ?_
  unfold Oper.wp
  rw [hs.exec (E.ck_k hck), hr w hh]
  exact k _ _ (hs.put (E.ck_f hck) v) hh
theorem E.G.op (v : Value) (hr : ∀ w, (execOp (E.ev fr) o).run P w = .ok (.value v) w) (hck : E.ck n ops fr o = true)
    (k : E.G P n ops Q l (E.upd fr o.dst v) S w0 X L) : E.G P n ops Q (o :: l) fr S w0 X L := E.G.val v hck (fun w _ => hr w) k
/-- An operation whose guard says no. -/
theorem E.G.skip (hw : E.want ops fr o = some false) (hf : E.fits n o.dst = true) (k : E.G P n ops Q l (E.upd fr o.dst undef) S w0 X L) : E.G P n ops Q (o :: l) fr S w0 X L := by
  intro a w hs hh
  unfold wpList
  rw [if_neg (by rw [hs.want hw]; exact Bool.false_ne_true)]
  exact k _ _ (hs.put hf undef) hh
theorem E.G.load (i : Nat) (v : Value) {d : Option Nat} {t T : TypeId} {x : Operand} {pos : String} {af : Array Edge} {gd : Option (Nat × Bool)} {g j : Nat} {cs : List Value} (hx : E.ev fr x = .pointer (some ⟨g, j, none⟩)) (hL : L[i]? = some (g, cs)) (hv : E.ld P t cs j = some v)
    (hck : E.ck n ops fr ⟨d, .load t x, T, pos, af, gd⟩ = true)
    (k : E.G P n ops Q l (E.upd fr d v) S w0 X L) : E.G P n ops Q (⟨d, .load t x, T, pos, af, gd⟩ :: l) fr S w0 X L := by
  refine E.G.val v hck (fun w hh => ?_) k
  have := E.ld_run (P := P) (w := w) (t := t) (fun i v h => hh.mem _ (List.mem_of_getElem? hL) i v h) hv
  show (do let r ← Instr.loadAt t (E.ev fr x); pure (Next.value r)).run P w = _
  rw [hx]; simp [this]
theorem E.G.store (i : Nat) {t T : TypeId} {x y : Operand} {pos : String} {af : Array Edge} {gd : Option (Nat × Bool)} {g j : Nat} {cs : List Value} (cs' : List Value) (hx : E.ev fr x = .pointer (some ⟨g, j, none⟩)) (hL : L[i]? = some (g, cs)) (hv : E.sto P t cs j (E.ev fr y) = some cs')
    (hck : E.ck n ops fr ⟨none, .store t x y, T, pos, af, gd⟩ = true)
    (k : E.G P n ops Q l fr S w0 X (L.set i (g, cs'))) : E.G P n ops Q (⟨none, .store t x y, T, pos, af, gd⟩ :: l) fr S w0 X L := by
  intro a w hs hh
  refine E.step (hs.want (E.ck_w hck)) ?_
  unfold Oper.wp
  rw [hs.exec (E.ck_k hck)]
  obtain ⟨w', hr, hh'⟩ := E.sto_run (P := P) (t := t) i hh hL hv
  have : (execOp (E.ev fr) ⟨none, .store t x y, T, pos, af, gd⟩).run P w = .ok .skip w' := by
    show (do Instr.storeAt t (E.ev fr x) (E.ev fr y); pure Next.skip).run P w = _
    rw [hx]; simp [hr]
  rw [this]
  exact k _ _ hs hh'
/-- An operation that makes a block. -/
theorem E.G.new (V : Nat → Value) (cs : List Value) (T : TypeId) (hr : ∀ w, (execOp (E.ev fr) o).run P w = .ok (.value (V w.heap.size)) (w.alloc (.cells cs.toArray T)))
    (hck : E.ck n ops fr o = true)
    (k : ∀ g, E.G P n ops Q l (E.upd fr o.dst (V g)) S w0 X ((g, cs) :: L)) : E.G P n ops Q (o :: l) fr S w0 X L := by
  intro a w hs hh
  refine E.step (hs.want (E.ck_w hck)) ?_
  unfold Oper.wp
  rw [hs.exec (E.ck_k hck), hr w]
  exact k _ _ _ (hs.put (E.ck_f hck) _) (hh.new cs T)
/-- A call that returns v and makes at most new blocks. -/
theorem E.G.call {f : FuncId} {args : Array Value} (v : Value) (hc : ∀ w, E.Hp S w0 X L w → Calls P f args w fun e w' => e = .returned v ∧ Bel w w') (hr : ∀ w, E.Hp S w0 X L w → (execOp (E.ev fr) o).run P w = .ok (.enter f args) w)
    (hck : E.ck n ops fr o = true)
    (k : E.G P n ops Q l (E.upd fr o.dst v) S w0 X L) : E.G P n ops Q (o :: l) fr S w0 X L := by
  intro a w hs hh
  refine E.step (hs.want (E.ck_w hck)) ?_
  unfold Oper.wp
  rw [hs.exec (E.ck_k hck), hr w hh]
  exact (hc w hh).mono fun e w' ⟨he, hb⟩ => by subst he; exact k _ _ (hs.put (E.ck_f hck) v) (hh.bel hb)
/-- A call of which more is known. -/
theorem E.G.callX {I : Type} {f : FuncId} {args : Array Value} (D : I → Prop) (V : I → Value) (X' : I → World → Prop) (L' : I → List (Nat × List Value))
    (hc : ∀ w, E.Hp S w0 X L w → Calls P f args w fun e w' => ∃ i, D i ∧ e = .returned (V i) ∧ E.Hp S w0 (X' i) (L' i) w') (hr : ∀ w, E.Hp S w0 X L w → (execOp (E.ev fr) o).run P w = .ok (.enter f args) w)
    (hck : E.ck n ops fr o = true)
    (k : ∀ i, D i → E.G P n ops Q l (E.upd fr o.dst (V i)) S w0 (X' i) (L' i)) : E.G P n ops Q (o :: l) fr S w0 X L := by
  intro a w hs hh
  refine E.step (hs.want (E.ck_w hck)) ?_
  unfold Oper.wp
  rw [hs.exec (E.ck_k hck), hr w hh]
  exact (hc w hh).mono fun e w' ⟨i, hd, he, hb⟩ => by subst he; exact k i hd _ _ (hs.put (E.ck_f hck) _) hb
/-- Any other operation. -/
theorem E.G.any {I : Type} (D : I → Prop) (V : I → Value) (X' : I → World → Prop) (L' : I → List (Nat × List Value))
    (hr : ∀ w, E.Hp S w0 X L w → ∃ i w', D i ∧ (execOp (E.ev fr) o).run P w = .ok (.value (V i)) w' ∧ E.Hp S w0 (X' i) (L' i) w')
    (hck : E.ck n ops fr o = true)
    (k : ∀ i, D i → E.G P n ops Q l (E.upd fr o.dst (V i)) S w0 (X' i) (L' i)) : E.G P n ops Q (o :: l) fr S w0 X L := by
  intro a w hs hh
  refine E.step (hs.want (E.ck_w hck)) ?_
  unfold Oper.wp
  obtain ⟨i, w', hd, he, hb⟩ := hr w hh
  rw [hs.exec (E.ck_k hck), he]
  exact k i hd _ _ (hs.put (E.ck_f hck) _) hb
/-- What holds behind a cut: a symbolic state. -/
def E.Pst (n : Nat) (fr : E.Fr) (S : Nat → Prop) (w0 : World) (X : World → Prop) (L : List (Nat × List Value)) (Q : Exit → Act → World → Prop) : Exit → Act → World → Prop :=
  Exit.then (fun a w => E.St n fr a ∧ E.Hp S w0 X L w) Q
theorem E.wpList_append {a : Act} {w : World} (m : List Oper) : wpList P ops (Exit.then (wpList P ops Q l) Q) m a w → wpList P ops Q (m ++ l) a w := by
  induction m generalizing a w with
  | nil => exact fun h => h
  | cons o m ih =>
    intro h
    unfold wpList at h
    show wpList P ops Q (o :: (m ++ l)) a w
    unfold wpList
    split
    · rename_i c
      rw [if_pos c] at h
      rcases h with h | ⟨h1, a0, w1, h2⟩
      · refine .inl ?_
        unfold Oper.wp at *
        generalize (execOp a.eval o).run P w = r at *
        cases r with
        | ok x w' =>
          cases x <;> simp only [Oper.upon] at h ⊢ <;> first
            | exact ih h
            | exact Calls.mono h (fun e w'' he => by cases e <;> first | exact ih he | exact he)
            | exact Rows.mono h (fun _ _ he => ih he)
            | exact h
        | halt x w' => cases x <;> simp only [Oper.upon] at h ⊢ <;> exact h
      · exact .inr ⟨h1, a0, w1, h2⟩
    · rename_i c
      rw [if_neg c] at h
      exact ih h
theorem E.G.cut (m : Nat) (fr' : E.Fr) (X' : World → Prop) (L' : List (Nat × List Value)) (h1 : E.G P n ops (E.Pst n fr' S w0 X' L' Q) (l.take m) fr S w0 X L) (h2 : E.G P n ops Q (l.drop m) fr' S w0 X' L') : E.G P n ops Q l fr S w0 X L := by
  intro a w hs hh
  rw [← List.take_append_drop m l]
  refine E.wpList_append _ ?_
  have := h1 a w hs hh
  have hm : ∀ (m : List Oper) (Q1 Q2 : Exit → Act → World → Prop), (∀ e a w, Q1 e a w → Q2 e a w) → ∀ a w, wpList P ops Q1 m a w → wpList P ops Q2 m a w := by
    intro m Q1 Q2 hq
    induction m with
    | nil => exact fun a w h => hq _ _ _ h
    | cons o m ih =>
      intro a w h
      unfold wpList at h ⊢
      split
      · rename_i c
        rw [if_pos c] at h
        rcases h with h | ⟨h1, a0, w1, h2⟩
        · refine .inl ?_
          unfold Oper.wp at *
          generalize (execOp a.eval o).run P w = r at *
          cases r with
          | ok x w' =>
            cases x <;> simp only [Oper.upon] at h ⊢ <;> first
              | exact ih _ _ h
              | exact Calls.mono h (fun e w'' he => by cases e <;> first | exact ih _ _ he | exact hq _ _ _ he | (obtain ⟨a1, w2, h3⟩ := he; exact ⟨a1, w2, hq _ _ _ h3⟩))
              | exact Rows.mono h (fun _ _ he => ih _ _ he)
          | halt x w' => cases x <;> simp only [Oper.upon] at h ⊢ <;> first | exact hq _ _ _ h | exact h
        · exact .inr ⟨h1, a0, w1, hq _ _ _ h2⟩
      · rename_i c
        rw [if_neg c] at h
        exact ih _ _ h
  refine hm _ _ _ ?_ _ _ this
  intro e a w h
  cases e <;> first | exact h2 _ _ h.1 h.2 | exact h
theorem E.G.end_pst {fr' : E.Fr} {X' : World → Prop} {L' : List (Nat × List Value)} (hs : E.sub fr' fr) (hl : L'.Sublist L) (hx : ∀ w, X w → X' w) : E.G P n ops (E.Pst n fr' S w0 X' L' Q) [] fr S w0 X L :=
  fun _ _ h1 h2 => ⟨h1.sub hs, (h2.less hl).monoX hx⟩
theorem E.G.next {r : Code} (k : E.C P n Q r fr S w0 X L) : E.G P n ops (Exit.then (r.wp P Q) Q) [] fr S w0 X L := k
theorem E.G.weak {fr' : E.Fr} {L' : List (Nat × List Value)} (fr' : E.Fr) (L' : List (Nat × List Value)) (hs : E.sub fr' fr) (hl : L'.Sublist L) (k : E.G P n ops Q l fr' S w0 X L') : E.G P n ops Q l fr S w0 X L :=
  fun a w h1 h2 => k a w (h1.sub hs) (h2.less hl)
theorem E.C.weak {c : Code} (fr' : E.Fr) (L' : List (Nat × List Value)) (hs : E.sub fr' fr) (hl : L'.Sublist L) (k : E.C P n Q c fr' S w0 X L') : E.C P n Q c fr S w0 X L :=
  fun a w h1 h2 => k a w (h1.sub hs) (h2.less hl)
theorem E.C.region {id : Nat} {ops : Array Oper} (k : E.G P n ops Q ops.toList fr S w0 X L) : E.C P n Q (.region id ops false) fr S w0 X L :=
  fun a w h1 h2 => wp_region_list (k a w h1 h2)
theorem E.C.seq {x y : Code} (k : E.C P n (Exit.then (y.wp P Q) Q) x fr S w0 X L) : E.C P n Q (.seq x y) fr S w0 X L :=
  fun a w h1 h2 => wp_seq (k a w h1 h2)
theorem E.C.seqcut {x y : Code} (fr' : E.Fr) (X' : World → Prop) (L' : List (Nat × List Value)) (h1 : E.C P n (E.Pst n fr' S w0 X' L' Q) x fr S w0 X L) (h2 : E.C P n Q y fr' S w0 X' L') : E.C P n Q (.seq x y) fr S w0 X L :=
  fun a w s h => wp_seq (wp_mono (h1 a w s h) (fun e a w hq => by cases e <;> first | exact h2 _ _ hq.1 hq.2 | exact hq))
theorem E.C.condT {c : Operand} {x y : Code} (hc : E.ev fr c = .bool true) (hk : E.okx fr c = true) (k : E.C P n Q x fr S w0 X L) : E.C P n Q (.cond c x y) fr S w0 X L :=
  fun a w h1 h2 => wp_cond_true (by rw [h1.ev hk]; exact hc) (k a w h1 h2)
theorem E.C.condF {c : Operand} {x y : Code} (hc : E.ev fr c = .bool false) (hk : E.okx fr c = true) (k : E.C P n Q y fr S w0 X L) : E.C P n Q (.cond c x y) fr S w0 X L :=
  fun a w h1 h2 => wp_cond_false (by rw [h1.ev hk]; exact hc) (k a w h1 h2)
theorem E.C.cond {c : Operand} {x y : Code} (b : Bool) (hc : E.ev fr c = .bool b) (hk : E.okx fr c = true) (ht : b = true → E.C P n Q x fr S w0 X L) (hf : b = false → E.C P n Q y fr S w0 X L) : E.C P n Q (.cond c x y) fr S w0 X L :=
  fun a w h1 h2 => wp_cond_split (by rw [h1.ev hk]; exact hc) (fun e => ht e a w h1 h2) (fun e => hf e a w h1 h2)
theorem E.C.skip_next {r : Code} (k : E.C P n Q r fr S w0 X L) : E.C P n (Exit.then (r.wp P Q) Q) .skip fr S w0 X L :=
  fun a w h1 h2 => wp_skip (k a w h1 h2)
theorem E.C.skip_pst {fr' : E.Fr} {X' : World → Prop} {L' : List (Nat × List Value)} (hs : E.sub fr' fr) (hl : L'.Sublist L) (hx : ∀ w, X w → X' w) : E.C P n (E.Pst n fr' S w0 X' L' Q) .skip fr S w0 X L :=
  fun _ _ h1 h2 => wp_skip ⟨h1.sub hs, (h2.less hl).monoX hx⟩
theorem E.C.block {id : Nat} {c : Code} (k : E.C P n (Exit.inBlock id Q) c fr S w0 X L) : E.C P n Q (.block id c) fr S w0 X L :=
  fun a w h1 h2 => wp_block (k a w h1 h2)
/-- A jump: what is asked there. -/
theorem E.C.exit {id : Nat} (k : ∀ a w, E.St n fr a → E.Hp S w0 X L w → Q (.exit id) a w) : E.C P n Q (.exit id) fr S w0 X L :=
  fun a w h1 h2 => wp_exit (k a w h1 h2)
theorem E.C.ret (k : ∀ a w, E.St n fr a → E.Hp S w0 X L w → Q .ret a w) : E.C P n Q .ret fr S w0 X L :=
  fun a w h1 h2 => wp_ret (k a w h1 h2)
theorem E.C.skip (k : ∀ a w, E.St n fr a → E.Hp S w0 X L w → Q .normal a w) : E.C P n Q .skip fr S w0 X L :=
  fun a w h1 h2 => wp_skip (k a w h1 h2)
end rules
end Go.Proofs.Ytdjjjikokfadiaa
