/- The logic of symbolic states, second part: entering and leaving a function, loops, regions that draw their order. No condition. -/
import Derived.Test.YtdjjjikokfadiaaE
import Derived.Test.YtdjjjikokfadiaaPlan
import Derived.OrdersHeld
import Derived.Deep.Quiet
import Derived.LoopN
namespace Go.Proofs.Ytdjjjikokfadiaa
set_option linter.unusedVariables false
set_option linter.unusedSimpArgs false
open Go.RowKit
section rules
variable {P : Program} {n : Nat} {ops : Array Oper} {Q : Exit → Act → World → Prop} {S : Nat → Prop} {w0 : World} {X : World → Prop} {L : List (Nat × List Value)} {l : List Oper} {o : Oper} {fr : E.Fr}
def E.argF : Nat → List Value → E.Fr
  | _, [] => []
  | i, v :: vs => (i, v) :: E.argF (i + 1) vs
theorem E.argF_at : ∀ (vs : List Value) (i k : Nat), E.has (E.argF i vs) k = true → i ≤ k ∧ k - i < vs.length ∧ E.get (E.argF i vs) k = vs.getD (k - i) undef
  | [], _, _, h => by simp [E.argF, E.has] at h
  | v :: vs, i, k, h => by
    simp only [E.argF, E.has] at h
    simp only [E.argF, E.get]
    cases hq : Nat.beq i k with
    | true => obtain rfl := Nat.eq_of_beq_eq_true hq; simp
    | false =>
      rw [hq] at h; simp only [cond_false] at h ⊢
      obtain ⟨h1, h2, h3⟩ := E.argF_at vs (i + 1) k h
      refine ⟨by omega, by simp; omega, ?_⟩
      rw [h3, show k - i = (k - (i + 1)) + 1 by omega]; simp
/-- A call: from its arguments on. -/
theorem E.enter {f : FuncId} {fn : Func} {c : Code} {args : Array Value} {w : World} {R : Ending → World → Prop} (hf : P.funcs[f]? = some fn) (hn : fn.ntmps = n) (hb : fn.body = some c) (hs : Nat.ble args.size n = true) (h0 : E.Hp S w0 X L w)
    (k : E.C P n (bodyPost P fn R) c (E.argF 0 args.toList) S w0 X L) : Calls P f args w R := by
  have hs := Nat.le_of_ble_eq_true hs
  refine calls_of_wp hf hb (k _ _ ⟨?_, rfl, ?_⟩ h0)
  · simp [hn]; omega
  · intro i hi
    obtain ⟨_, h2, h3⟩ := E.argF_at _ _ _ hi
    rw [h3]
    simp only [Nat.sub_zero, Array.length_toList] at h2 ⊢
    simp [Array.getD, Array.getElem?_append, h2]
    intro hc; omega
/-- The results: what each result variable holds. -/
def E.res1 (P : Program) (fr : E.Fr) (L : List (Nat × List Value)) : ResultVar → Value → Prop
  | .tmp t, v => E.has fr t = true ∧ E.get fr t = v
  | .cell a t, v => E.has fr a = true ∧ ∃ (g j i : Nat) (cs : List Value), E.get fr a = .pointer (some ⟨g, j, none⟩) ∧ L[i]? = some (g, cs) ∧ E.ld P t cs j = some v
def E.resL (P : Program) (fr : E.Fr) (L : List (Nat × List Value)) : List ResultVar → List Value → Prop
  | [], [] => True
  | r :: rs, v :: vs => E.res1 P fr L r v ∧ E.resL P fr L rs vs
  | _, _ => False
def E.pack : List Value → Value
  | [v] => v
  | vs => .tuple vs.toArray
theorem E.res_list {a : Act} {w : World} (hs : E.St n fr a) (hh : E.Hp S w0 X L w) (f : ResultVar → Sem Value) (hf1 : ∀ t, f (.tmp t) = pure (a.tmps.getD t undef))
    (hf2 : ∀ b t, f (.cell b t) = do loadVar t (← asAddr (a.tmps.getD b undef))) : ∀ (rs : List ResultVar) (vs : List Value), E.resL P fr L rs vs → (rs.mapM f).run P w = .ok vs w
  | [], [], _ => by simp [pure, Sem.run]
  | [], _ :: _, h => h.elim
  | _ :: _, [], h => h.elim
  | r :: rs, v :: vs, ⟨h1, h2⟩ => by
    have ih := E.res_list hs hh f hf1 hf2 rs vs h2
    have e : (f r).run P w = .ok v w := by
      cases r with
      | tmp t => obtain ⟨ha, rfl⟩ := h1; rw [hf1, hs.at_ t ha]; rfl
      | cell b t =>
        obtain ⟨ha, g, j, i, cs, hp, hL, hv⟩ := h1
        have := E.ld_run (P := P) (w := w) (t := t) (fun i v h => hh.mem _ (List.mem_of_getElem? hL) i v h) hv
        rw [hf2, hs.at_ b ha, hp]
        simpa [Instr.loadAt, Instr.sureAddr, asAddr] using this
    simp [List.mapM_cons, e, ih]
theorem E.res_run {fn : Func} {a : Act} {w : World} {vs : List Value} (hs : E.St n fr a) (hh : E.Hp S w0 X L w) (h : E.resL P fr L fn.results.toList vs) : (results fn a.tmps).run P w = .ok (E.pack vs) w := by
  unfold results
  rw [← Array.toArray_toList (xs := fn.results), List.mapM_toArray]
  have h1 := fun f h1 h2 => E.res_list (P := P) hs hh f h1 h2 fn.results.toList vs h
  simp only [Sem.run_bind, Sem.run_map]
  rw [h1 _ (fun _ => rfl) (fun _ _ => rfl)]
  simp only [Result.andThen_ok]
  match vs with
  | [] => rfl
  | [v] => rfl
  | v :: u :: vs => simp [E.pack]
theorem E.run_build {t T : TypeId} {ps : Array (Nat × Operand)} {d : Option Nat} {pos : String} {af : Array Edge} {gd : Option (Nat × Bool)} (cells : Array Value) (h : P.built t (ps.toList.map fun p => (p.1, E.ev fr p.2)) = some cells) (w : World) :
    (execOp (E.ev fr) ⟨d, .build t ps, T, pos, af, gd⟩).run P w = .ok (.value (.agg cells)) w := by
  show (do let r ← Instr.build t (ps.map fun (i, x) => (i, E.ev fr x)); pure (Next.value r) : Sem Next).run P w = _
  have := Go.run_build (P := P) w t (ps.map fun (i, x) => (i, E.ev fr x)) cells (by rw [Array.toList_map]; exact h)
  simp only [Sem.run_bind, this, Result.andThen_ok]; rfl
theorem E.G.build {t T : TypeId} {ps : Array (Nat × Operand)} {d : Option Nat} {pos : String} {af : Array Edge} {gd : Option (Nat × Bool)} (cells : Array Value) (h : P.built t (ps.toList.map fun p => (p.1, E.ev fr p.2)) = some cells)
    (hck : E.ck n ops fr ⟨d, .build t ps, T, pos, af, gd⟩ = true) (k : E.G P n ops Q l (E.upd fr d (.agg cells)) S w0 X L) : E.G P n ops Q (⟨d, .build t ps, T, pos, af, gd⟩ :: l) fr S w0 X L :=
  E.G.val _ hck (fun w _ => E.run_build cells h w) k
def E.bs (P : Program) (t : TypeId) (m : Nat) (ps : List (Nat × Value)) : Option (List Value) := match P.underlying t with
  | some (.slice e) => match P.info? e with
    | some ie => match ie.zero with
      | some z => bif Nat.ble (m * ie.size) (2 ^ 24) && !(Nat.beq (m * ie.size) 0) then (Instr.fill (fun i => some (i * ie.size, ie.size)) ((List.range (m * ie.size)).map fun i => z.cells[i % z.cells.size]!).toArray ps).map (·.toList) else none
      | none => none
    | none => none
  | _ => none
theorem E.G.buildSlice {t T : TypeId} {m : Nat} {ps : Array (Nat × Operand)} {d : Option Nat} {pos : String} {af : Array Edge} {gd : Option (Nat × Bool)} (cs : List Value)
    (hc : E.bs P t m (ps.toList.map fun p => (p.1, E.ev fr p.2)) = some cs)
    (hck : E.ck n ops fr ⟨d, .buildSlice t m ps, T, pos, af, gd⟩ = true)
    (k : ∀ g, E.G P n ops Q l (E.upd fr d (.slice (some ⟨g, 0, none⟩) m m)) S w0 X ((g, cs) :: L)) : E.G P n ops Q (⟨d, .buildSlice t m ps, T, pos, af, gd⟩ :: l) fr S w0 X L := by
  unfold E.bs at hc
  split at hc
  · rename_i e hu
    split at hc
    · rename_i ie hie
      split at hc
      · rename_i z hz
        cases hb : (Nat.ble (m * ie.size) (2 ^ 24) && !(Nat.beq (m * ie.size) 0)) with
        | false => rw [hb] at hc; cases hc
        | true =>
          rw [hb] at hc
          simp only [cond_true] at hc
          simp only [Bool.and_eq_true, Bool.not_eq_true'] at hb
          have h2 := Nat.le_of_ble_eq_true hb.1
          have h3 : ¬ m * ie.size = 0 := fun e => by have := hb.2; rw [e] at this; cases this
          refine E.G.new (o := ⟨d, .buildSlice t m ps, T, pos, af, gd⟩) (fun g => .slice (some ⟨g, 0, none⟩) m m) cs e (fun w => ?_) hck k
          have h1 : (Array.range (m * ie.size)).map (fun i => z.cells[i % z.cells.size]!) = ((List.range (m * ie.size)).map fun i => z.cells[i % z.cells.size]!).toArray := Array.toList_inj.1 (by rw [Array.toList_map, Array.toList_range])
          cases hq : Instr.fill (fun i => some (i * ie.size, ie.size)) ((List.range (m * ie.size)).map fun i => z.cells[i % z.cells.size]!).toArray (ps.toList.map fun p => (p.1, E.ev fr p.2)) with
          | none => rw [hq] at hc; cases hc
          | some cells =>
            rw [hq] at hc
            simp only [Option.map_some, Option.some.injEq] at hc
            subst hc
            have := run_buildSlice (P := P) w t e m (ps.map fun (i, x) => (i, E.ev fr x)) cells ie z hu hie hz (by omega) h3 (by rw [h1, Array.toList_map]; exact hq)
            show (do let r ← Instr.buildSlice t m (ps.map fun (i, x) => (i, E.ev fr x)); pure (Next.value r) : Sem Next).run P w = _
            simp only [Sem.run_bind, this, Result.andThen_ok]
            simp
      · cases hc
    · cases hc
  · cases hc
/-- Ahead of what follows: a cut. -/
theorem E.C.thencut {x y : Code} (fr' : E.Fr) (X' : World → Prop) (L' : List (Nat × List Value)) (h1 : E.C P n (E.Pst n fr' S w0 X' L' Q) x fr S w0 X L) (h2 : E.C P n Q y fr' S w0 X' L') : E.C P n (Exit.then (y.wp P Q) Q) x fr S w0 X L :=
  fun a w s h => wp_mono (h1 a w s h) (fun e a w hq => by cases e <;> first | exact h2 _ _ hq.1 hq.2 | exact hq)
/-- The blocks in another spelling. -/
theorem E.G.relist (L' : List (Nat × List Value)) (h : L = L') (k : E.G P n ops Q l fr S w0 X L') : E.G P n ops Q l fr S w0 X L := by subst h; exact k
theorem E.C.relist {c : Code} (L' : List (Nat × List Value)) (h : L = L') (k : E.C P n Q c fr S w0 X L') : E.C P n Q c fr S w0 X L := by subst h; exact k
/-! Passing what encloses. -/
theorem E.P.rt {K : Act → World → Prop} (k : ∀ a w, E.St n fr a → E.Hp S w0 X L w → Q .ret a w) : ∀ a w, E.St n fr a → E.Hp S w0 X L w → Exit.then K Q .ret a w := k
theorem E.P.rb {id : Nat} (k : ∀ a w, E.St n fr a → E.Hp S w0 X L w → Q .ret a w) : ∀ a w, E.St n fr a → E.Hp S w0 X L w → Exit.inBlock id Q .ret a w := k
theorem E.P.rp {fr' : E.Fr} {S' : Nat → Prop} {w1 : World} {X' : World → Prop} {L' : List (Nat × List Value)} (k : ∀ a w, E.St n fr a → E.Hp S w0 X L w → Q .ret a w) : ∀ a w, E.St n fr a → E.Hp S w0 X L w → E.Pst n fr' S' w1 X' L' Q .ret a w := k
theorem E.P.et {i : Nat} {K : Act → World → Prop} (k : ∀ a w, E.St n fr a → E.Hp S w0 X L w → Q (.exit i) a w) : ∀ a w, E.St n fr a → E.Hp S w0 X L w → Exit.then K Q (.exit i) a w := k
theorem E.P.ep {i : Nat} {fr' : E.Fr} {S' : Nat → Prop} {w1 : World} {X' : World → Prop} {L' : List (Nat × List Value)} (k : ∀ a w, E.St n fr a → E.Hp S w0 X L w → Q (.exit i) a w) : ∀ a w, E.St n fr a → E.Hp S w0 X L w → E.Pst n fr' S' w1 X' L' Q (.exit i) a w := k
theorem E.P.eb {i id : Nat} (h : Nat.beq i id = false) (k : ∀ a w, E.St n fr a → E.Hp S w0 X L w → Q (.exit i) a w) : ∀ a w, E.St n fr a → E.Hp S w0 X L w → Exit.inBlock id Q (.exit i) a w := fun a w h1 h2 => by
  show (if i = id then Q .normal a w else Q (.exit i) a w)
  rw [if_neg (fun e => by subst e; rw [Nat.beq_refl] at h; cases h)]
  exact k a w h1 h2
theorem E.P.eh {i : Nat} (k : ∀ a w, E.St n fr a → E.Hp S w0 X L w → Q .normal a w) : ∀ a w, E.St n fr a → E.Hp S w0 X L w → Exit.inBlock i Q (.exit i) a w := fun a w h1 h2 => by
  show (if i = i then Q .normal a w else Q (.exit i) a w)
  rw [if_pos rfl]
  exact k a w h1 h2
theorem E.P.nb {i : Nat} (k : ∀ a w, E.St n fr a → E.Hp S w0 X L w → Q .normal a w) : ∀ a w, E.St n fr a → E.Hp S w0 X L w → Exit.inBlock i Q .normal a w := k
/-! Where a piece of code goes on: at code, at a cut, at the next round, at the end of the call. -/
theorem E.To.code {r : Code} (k : E.C P n Q r fr S w0 X L) : ∀ a w, E.St n fr a → E.Hp S w0 X L w → r.wp P Q a w := k
theorem E.To.pst {fr' : E.Fr} {X' : World → Prop} {L' : List (Nat × List Value)} (hs : E.sub fr' fr) (hl : L'.Sublist L) (hx : ∀ w, X w → X' w) : ∀ a w, E.St n fr a → E.Hp S w0 X L w → E.St n fr' a ∧ E.Hp S w0 X' L' w :=
  fun _ _ h1 h2 => ⟨h1.sub hs, (h2.less hl).monoX hx⟩
theorem E.To.body {fn : Func} {R : Ending → World → Prop} (vs : List Value) (hv : E.resL P fr L fn.results.toList vs) (hR : ∀ w, E.Hp S w0 X L w → R (.returned (E.pack vs)) w) :
    ∀ a w, E.St n fr a → E.Hp S w0 X L w → bodyPost P fn R .ret a w :=
  fun a w h1 h2 => ⟨h1.defs, E.pack vs, E.res_run h1 h2 hv, hR w h2⟩
theorem E.To.bodyN {fn : Func} {R : Ending → World → Prop} (vs : List Value) (hv : E.resL P fr L fn.results.toList vs) (hR : ∀ w, E.Hp S w0 X L w → R (.returned (E.pack vs)) w) :
    ∀ a w, E.St n fr a → E.Hp S w0 X L w → bodyPost P fn R .normal a w :=
  fun a w h1 h2 => ⟨h1.defs, E.pack vs, E.res_run h1 h2 hv, hR w h2⟩
/-- What a round leaves: the state at an index of a lower measure. -/
def E.Lp {I : Type} (n : Nat) (S : Nat → Prop) (w0 : World) (m : I → Nat) (ok : I → Prop) (frI : I → E.Fr) (XI : I → World → Prop) (LI : I → List (Nat × List Value)) (b : Nat) : Act → World → Prop :=
  fun a w => ∃ i, m i < b ∧ ok i ∧ E.St n (frI i) a ∧ E.Hp S w0 (XI i) (LI i) w
theorem E.To.round {I : Type} {m : I → Nat} {ok : I → Prop} {frI : I → E.Fr} {XI : I → World → Prop} {LI : I → List (Nat × List Value)} {b : Nat} (i : I) (hm : m i < b) (ho : ok i) (hs : E.sub (frI i) fr) (hl : (LI i).Sublist L) (hx : ∀ w, X w → XI i w) :
    ∀ a w, E.St n fr a → E.Hp S w0 X L w → E.Lp n S w0 m ok frI XI LI b a w :=
  fun _ _ h1 h2 => ⟨i, hm, ho, h1.sub hs, (h2.less hl).monoX hx⟩
/-- A loop: its state at its head is the one of an index, each round lowers the measure. -/
theorem E.C.loop {c : Code} {I : Type} (m : I → Nat) (ok : I → Prop) (frI : I → E.Fr) (XI : I → World → Prop) (LI : I → List (Nat × List Value)) (i0 : I) (ho : ok i0) (hs : E.sub (frI i0) fr) (hl : (LI i0).Sublist L) (hx : ∀ w, X w → XI i0 w)
    (round : ∀ i, ok i → E.C P n (Exit.then (E.Lp n S w0 m ok frI XI LI (m i)) Q) c (frI i) S w0 (XI i) (LI i)) : E.C P n Q (.loop c) fr S w0 X L := by
  intro a w h1 h2 b k cs
  have key : ∀ x i a w, m i = x → ok i → E.St n (frI i) a → E.Hp S w0 (XI i) (LI i) w →
      ∃ e a' w', Q e a' w' ∧ Arrives P (lone (b.at a (.code c :: .inLoop c :: k)) cs w) b k cs e a' w' := by
    intro x
    induction x using Nat.strongRecOn with
    | _ x ih =>
      intro i a w hx hok hs hh
      obtain ⟨e, a₁, w₁, hq, harr⟩ := round i hok a w hs hh b (.inLoop c :: k) cs
      cases e with
      | normal =>
        obtain ⟨i', hlt, hok', hs', hh'⟩ := hq
        obtain ⟨e₂, a₂, w₂, hq₂, harr₂⟩ := ih (m i') (hx ▸ hlt) i' a₁ w₁ rfl hok' hs' hh'
        exact ⟨e₂, a₂, w₂, hq₂, .of_steps (Steps.trans harr (.one step_inLoop)) harr₂⟩
      | exit id => exact ⟨_, a₁, w₁, hq, .pass (x := .inLoop c) rfl (fun _ _ => .inl (by simp)) harr⟩
      | goto l => exact ⟨_, a₁, w₁, hq, .pass (x := .inLoop c) rfl (fun _ _ => .inl (by simp)) harr⟩
      | ret => exact ⟨_, a₁, w₁, hq, .pass (x := .inLoop c) rfl (fun _ _ => .inl (by simp)) harr⟩
      | panic ch => exact ⟨_, a₁, w₁, hq, .pass (x := .inLoop c) rfl (fun _ _ => .inl (by simp)) harr⟩
      | outgrown => exact ⟨_, a₁, w₁, hq, .pass (x := .inLoop c) rfl (fun _ _ => .inl (by simp)) harr⟩
  obtain ⟨e, a', w', hq, harr⟩ := key _ i0 a w rfl ho (h1.sub hs) ((h2.less hl).monoX hx)
  exact ⟨e, a', w', hq, .of_steps (.one step_loop) harr⟩

/-- A loop of a known number of rounds. -/
theorem E.C.rounds {c : Code} (m : Nat) (k : E.C P n (Exit.then (Code.rounds P c Q m) Q) c fr S w0 X L) : E.C P n Q (.loop c) fr S w0 X L :=
  fun a w h1 h2 => wp_loop_rounds (m + 1) (k a w h1 h2)
theorem E.To.rounds {c : Code} (m : Nat) (k : E.C P n (Exit.then (Code.rounds P c Q m) Q) c fr S w0 X L) : ∀ a w, E.St n fr a → E.Hp S w0 X L w → Code.rounds P c Q (m + 1) a w := k
theorem E.run_load {w : World} (h : E.Hp S w0 X L w) (i : Nat) {v : Value} {d : Option Nat} {t T : TypeId} {x : Operand} {pos : String} {af : Array Edge} {gd : Option (Nat × Bool)} {g j : Nat} {cs : List Value} (hx : E.ev fr x = .pointer (some ⟨g, j, none⟩)) (hL : L[i]? = some (g, cs)) (hv : E.ld P t cs j = some v) :
    (execOp (E.ev fr) ⟨d, .load t x, T, pos, af, gd⟩).run P w = .ok (.value v) w := by
  have := E.ld_run (P := P) (w := w) (t := t) (fun i v hh => h.mem _ (List.mem_of_getElem? hL) i v hh) hv
  show (do let r ← Instr.loadAt t (E.ev fr x); pure (Next.value r)).run P w = _
  rw [hx]; simp [this]
/-! Regions that draw their order and are quiet: one walk of the lexical order. -/
def E.W (P : Program) (n : Nat) (ops : Array Oper) (K : Act → Prop) (l : List Oper) (fr : E.Fr) (S : Nat → Prop) (w0 : World) (X : World → Prop) (L : List (Nat × List Value)) : Prop :=
  ∀ a, E.St n fr a → wpQuiet P ops (E.Hp S w0 X L) K l a
variable {K : Act → Prop}
theorem E.C.quiet {id : Nat} {ops : Array Oper} (hm : P.follows .mixedOrders = true) (hB : Region.lexB .any ops = true) (k : E.W P n ops (fun a' => ∀ w', E.Hp S w0 X L w' → Q .normal a' w') ops.toList fr S w0 X L) : E.C P n Q (.region id ops true) fr S w0 X L :=
  fun a w h1 h2 => wp_region_quiet (C := E.Hp S w0 X L) hm hB (h2.bel (Bel.drew (Bel.refl w))) (k a h1)
theorem E.W.step {v : Value} (hw : E.want ops fr o = some true) (hf : E.fits n o.dst = true) (hq : ∀ a, E.St n fr a → ∀ w, E.Hp S w0 X L w → o.quietAt P a (E.Hp S w0 X L) w v) (k : E.W P n ops K l (E.upd fr o.dst v) S w0 X L) : E.W P n ops K (o :: l) fr S w0 X L := by
  intro a hs
  unfold wpQuiet
  rw [if_pos (hs.want hw)]
  exact ⟨v, hq a hs, k _ (hs.put hf v)⟩
theorem E.W.val (v : Value) (hck : E.ck n ops fr o = true) (hr : ∀ w, E.Hp S w0 X L w → (execOp (E.ev fr) o).run P w = .ok (.value v) w)
    (k : E.W P n ops K l (E.upd fr o.dst v) S w0 X L) : E.W P n ops K (o :: l) fr S w0 X L :=
  E.W.step (E.ck_w hck) (E.ck_f hck) (fun a hs w hh => by unfold Oper.quietAt; rw [hs.exec (E.ck_k hck), hr w hh]; exact ⟨rfl, rfl⟩) k
theorem E.W.op (v : Value) (hr : ∀ w, (execOp (E.ev fr) o).run P w = .ok (.value v) w) (hck : E.ck n ops fr o = true)
    (k : E.W P n ops K l (E.upd fr o.dst v) S w0 X L) : E.W P n ops K (o :: l) fr S w0 X L := E.W.val v hck (fun w _ => hr w) k
theorem E.W.skip (hw : E.want ops fr o = some false) (hf : E.fits n o.dst = true) (k : E.W P n ops K l (E.upd fr o.dst undef) S w0 X L) : E.W P n ops K (o :: l) fr S w0 X L := by
  intro a hs
  unfold wpQuiet
  rw [if_neg (by rw [hs.want hw]; exact Bool.false_ne_true)]
  exact k _ (hs.put hf undef)
theorem E.W.load (i : Nat) (v : Value) {d : Option Nat} {t T : TypeId} {x : Operand} {pos : String} {af : Array Edge} {gd : Option (Nat × Bool)} {g j : Nat} {cs : List Value} (hx : E.ev fr x = .pointer (some ⟨g, j, none⟩)) (hL : L[i]? = some (g, cs)) (hv : E.ld P t cs j = some v)
    (hck : E.ck n ops fr ⟨d, .load t x, T, pos, af, gd⟩ = true)
    (k : E.W P n ops K l (E.upd fr d v) S w0 X L) : E.W P n ops K (⟨d, .load t x, T, pos, af, gd⟩ :: l) fr S w0 X L := by
  refine E.W.val v hck (fun w hh => ?_) k
  have := E.ld_run (P := P) (w := w) (t := t) (fun i v h => hh.mem _ (List.mem_of_getElem? hL) i v h) hv
  show (do let r ← Instr.loadAt t (E.ev fr x); pure (Next.value r)).run P w = _
  rw [hx]; simp [this]
theorem E.W.build {t T : TypeId} {ps : Array (Nat × Operand)} {d : Option Nat} {pos : String} {af : Array Edge} {gd : Option (Nat × Bool)} (cells : Array Value) (h : P.built t (ps.toList.map fun p => (p.1, E.ev fr p.2)) = some cells)
    (hck : E.ck n ops fr ⟨d, .build t ps, T, pos, af, gd⟩ = true) (k : E.W P n ops K l (E.upd fr d (.agg cells)) S w0 X L) : E.W P n ops K (⟨d, .build t ps, T, pos, af, gd⟩ :: l) fr S w0 X L :=
  E.W.val _ hck (fun w _ => E.run_build cells h w) k
theorem E.W.call {f : FuncId} {args : Array Value} (v : Value) (hc : ∀ w, E.Hp S w0 X L w → Calls P f args w fun e w' => e = .returned v ∧ Bel w w') (hr : ∀ w, E.Hp S w0 X L w → (execOp (E.ev fr) o).run P w = .ok (.enter f args) w)
    (hck : E.ck n ops fr o = true)
    (k : E.W P n ops K l (E.upd fr o.dst v) S w0 X L) : E.W P n ops K (o :: l) fr S w0 X L :=
  E.W.step (v := v) (E.ck_w hck) (E.ck_f hck) (fun a hs w hh => by
    unfold Oper.quietAt; rw [hs.exec (E.ck_k hck), hr w hh]
    exact ⟨rfl, (hc w hh).mono fun e w' ⟨he, hb⟩ => ⟨he, hh.bel hb⟩⟩) k
theorem E.W.wpQuiet_append {C : World → Prop} {m : List Oper} : ∀ {a : Act}, wpQuiet P ops C (wpQuiet P ops C K l) m a → wpQuiet P ops C K (m ++ l) a := by
  induction m with
  | nil => exact fun h => h
  | cons o m ih =>
    intro a h
    unfold wpQuiet at h
    show wpQuiet P ops C K (o :: (m ++ l)) a
    unfold wpQuiet
    split
    · rename_i c
      rw [if_pos c] at h
      obtain ⟨v, h1, h2⟩ := h
      exact ⟨v, h1, ih h2⟩
    · rename_i c
      rw [if_neg c] at h
      exact ih h
theorem E.W.mono {C : World → Prop} {K K' : Act → Prop} (hk : ∀ a, K a → K' a) {m : List Oper} : ∀ {a : Act}, wpQuiet P ops C K m a → wpQuiet P ops C K' m a := by
  induction m with
  | nil => exact fun h => hk _ h
  | cons o m ih =>
    intro a h
    unfold wpQuiet at h ⊢
    split
    · rename_i c
      rw [if_pos c] at h
      obtain ⟨v, h1, h2⟩ := h
      exact ⟨v, h1, ih h2⟩
    · rename_i c
      rw [if_neg c] at h
      exact ih h
theorem E.W.cut (m : Nat) (fr' : E.Fr) (h1 : E.W P n ops (E.St n fr') (l.take m) fr S w0 X L) (h2 : E.W P n ops K (l.drop m) fr' S w0 X L) : E.W P n ops K l fr S w0 X L := by
  intro a hs
  rw [← List.take_append_drop m l]
  exact E.W.wpQuiet_append (E.W.mono (fun a h => h2 a h) (h1 a hs))
theorem E.W.end_cut {fr' : E.Fr} (hs : E.sub fr' fr) : E.W P n ops (E.St n fr') [] fr S w0 X L := fun a h => h.sub hs
theorem E.W.weak (fr' : E.Fr) (hs : E.sub fr' fr) (k : E.W P n ops K l fr' S w0 X L) : E.W P n ops K l fr S w0 X L := fun a h => k a (h.sub hs)
theorem E.W.done {T : Act → World → Prop} (k : ∀ a w, E.St n fr a → E.Hp S w0 X L w → T a w) : E.W P n ops (fun a' => ∀ w', E.Hp S w0 X L w' → T a' w') [] fr S w0 X L :=
  fun a h w hh => k a w h hh

/-! Regions that draw their order: quiet operations first, then whichever comes up. -/
def E.H (P : Program) (n : Nat) (ops : Array Oper) (Q : Exit → Act → World → Prop) (D : World → Prop) (fuel : Nat) (listed : Array Bool) (fr : E.Fr) (S : Nat → Prop) (w0 : World) (X : World → Prop) (L : List (Nat × List Value)) : Prop :=
  ∀ a w, E.St n fr a → E.Hp S w0 X L w → wpAnyH P .any ops Q D fuel listed a w
variable {D : World → Prop} {fuel : Nat} {listed : Array Bool}
theorem E.C.held {id : Nat} {ops : Array Oper} (D : World → Prop) (hm : P.follows .mixedOrders = true) (k : E.H P n ops Q D ops.size (Array.replicate ops.size false) fr S w0 X L) : E.C P n Q (.region id ops true) fr S w0 X L :=
  fun a w h1 h2 => wp_region_held (S := D) hm (k a _ h1 (h2.bel (Bel.drew (Bel.refl w))))
/-- Takes operation i first. -/
theorem E.H.take (i : Nat) {oi : Oper} (v : Value) (hi : ops[i]? = some oi) (hs : Region.noSelect ops = true) (hfr : Region.free .any ops listed i = true) (hr : (Region.ready .any ops listed).contains i = true)
    (hQ : ∀ c a w, Q (.panic c) (a.put oi.dst v) w → Q (.panic c) a w) (hD : ∀ w, E.Hp S w0 X L w → D w)
    (hy : (E.want ops fr oi = some true ∧ E.ok fr oi = true ∧ ∀ w, D w → (execOp (E.ev fr) oi).run P w = .ok (.value v) w) ∨ (E.want ops fr oi = some false ∧ v = undef)) (hf : E.fits n oi.dst = true)
    (k : E.H P n ops Q D fuel (listed.setIfInBounds i true) (E.upd fr oi.dst v) S w0 X L) : E.H P n ops Q D (fuel + 1) listed fr S w0 X L :=
  fun a w h1 h2 => wpAnyH_take hi hs hfr hr hQ (by
    rcases hy with ⟨ha, hb, hc⟩ | ⟨ha, hb⟩
    · exact .inl ⟨h1.want ha, fun w hw => by rw [h1.exec hb]; exact hc w hw⟩
    · exact .inr ⟨h1.want ha, hb⟩) (hD w h2) (k _ _ (h1.put hf v) h2)
theorem E.wpOp_of_list {i : Nat} {o : Oper} {T : Act → World → Prop} {a : Act} {w : World} (ho : ops[i]? = some o) (h : wpList P ops (Exit.then T Q) [o] a w) : wpOp P ops Q i T a w := by
  unfold wpOp
  simp only [ho]
  simp only [wpList] at h
  split
  · rename_i c
    rw [if_pos c] at h
    rcases h with h | ⟨h1, a0, w1, h2⟩
    · refine .inl ?_
      unfold Oper.wp at *
      generalize (execOp a.eval o).run P w = r at *
      cases r with
      | ok x w' =>
        cases x <;> simp only [Oper.upon] at h ⊢ <;> first
          | exact h
          | exact Calls.mono h (fun e w'' he => by cases e <;> exact he)
          | exact Rows.mono h (fun _ _ he => he)
      | halt x w' => cases x <;> simp only [Oper.upon] at h ⊢ <;> exact h
    · exact .inr ⟨h1, a0, w1, h2⟩
  · rename_i c
    rw [if_neg c] at h
    exact h
/-- Whichever comes up. -/
theorem E.H.all (rs : List Nat) (hr : Region.ready .any ops listed = rs) (hne : rs ≠ [])
    (k : ∀ i ∈ rs, ∃ o, ops[i]? = some o ∧ E.G P n ops (Exit.then (fun a' w' => D w' ∧ wpAnyH P .any ops Q D fuel (listed.setIfInBounds i true) a' w') Q) [o] fr S w0 X L) : E.H P n ops Q D (fuel + 1) listed fr S w0 X L :=
  fun a w h1 h2 => wpAnyH_all hr hne fun i hi => by
    obtain ⟨o, ho, hk⟩ := k i hi
    exact E.wpOp_of_list ho (hk a w h1 h2)
theorem E.H.back (hD : ∀ w, E.Hp S w0 X L w → D w) (k : E.H P n ops Q D fuel listed fr S w0 X L) : E.G P n ops (Exit.then (fun a' w' => D w' ∧ wpAnyH P .any ops Q D fuel listed a' w') Q) [] fr S w0 X L :=
  fun a w h1 h2 => ⟨hD w h2, k a w h1 h2⟩
theorem E.H.done (hr : Region.ready .any ops listed = []) (k : ∀ a w, E.St n fr a → E.Hp S w0 X L w → Q .normal a w) : E.H P n ops Q D fuel listed fr S w0 X L :=
  fun a w h1 h2 => wpAnyH_done hr (k a w h1 h2) fuel
theorem E.H.weak (fr' : E.Fr) (L' : List (Nat × List Value)) (hs : E.sub fr' fr) (hl : L'.Sublist L) (k : E.H P n ops Q D fuel listed fr' S w0 X L') : E.H P n ops Q D fuel listed fr S w0 X L :=
  fun a w h1 h2 => k a w (h1.sub hs) (h2.less hl)
end rules
end Go.Proofs.Ytdjjjikokfadiaa
