/- Regions that draw their order: quiet operations in whatever order, beside a chain of operations that make memory, then a tail: one walk serves every order. No condition. -/
import Derived.Test.YtdjjjikokfadiaaBase
namespace Go.Proofs.Ytdjjjikokfadiaa
set_option linter.unusedVariables false
set_option linter.unusedSimpArgs false
open Go.RowKit

section
variable {P : Program} {ops : Array Oper} {W : World} {Q : Exit → Act → World → Prop}

/-- The worlds that a quiet operation is asked in. -/
def Over (W : World) (w : World) : Prop := ∃ x, w = more W x
theorem over_iff {W w : World} : Over W w ↔ Bel W w := ⟨fun ⟨x, h⟩ => h ▸ bel_more W x, more_of_bel⟩

/-- What is asked behind an operation that neither panics nor defers. -/
def calmUpon (P : Program) (o : Oper) (a : Act) (K : Act → World → Prop) : Result Next → Prop
  | .ok (.value v) w' => K (a.put o.dst v) w'
  | .ok .skip w' => K (a.put o.dst undef) w'
  | .ok (.enter f args) w' => Calls P f args w' fun e w'' => ∃ v, e = .returned v ∧ K (a.put o.dst v) w''
  | _ => False
def calm (P : Program) (ops : Array Oper) (o : Oper) (a : Act) (w : World) (K : Act → World → Prop) : Prop :=
  if Region.wanted o (yielded ops a.tmps) then calmUpon P o a K ((execOp a.eval o).run P w) else K (a.put o.dst undef) w

theorem calmUpon_mono {o : Oper} {a : Act} {K K' : Act → World → Prop} (h : ∀ a w, K a w → K' a w) {r : Result Next} (hh : calmUpon P o a K r) : calmUpon P o a K' r := by
  cases r with
  | ok n w' =>
    cases n <;> simp only [calmUpon] at hh ⊢ <;> first
      | exact h _ _ hh
      | exact hh.mono fun e w'' ⟨v, he, hk⟩ => ⟨v, he, h _ _ hk⟩
  | halt x w' => exact hh
theorem calm_mono {o : Oper} {a : Act} {w : World} {K K' : Act → World → Prop} (h : ∀ a w, K a w → K' a w) (hh : calm P ops o a w K) : calm P ops o a w K' := by
  unfold calm at *
  split
  · rename_i c; rw [if_pos c] at hh; exact calmUpon_mono h hh
  · rename_i c; rw [if_neg c] at hh; exact h _ _ hh
theorem wpOp_of_calm {i : Nat} {o : Oper} (ho : ops[i]? = some o) {a : Act} {w : World} {K : Act → World → Prop} (h : calm P ops o a w K) : wpOp P ops Q i K a w := by
  unfold wpOp
  simp only [ho]
  unfold calm at h
  split
  · rename_i c
    rw [if_pos c] at h
    refine .inl ?_
    unfold Oper.wp
    generalize (execOp a.eval o).run P w = r at *
    cases r with
    | ok n w' =>
      cases n <;> simp only [calmUpon, Oper.upon] at h ⊢ <;> first
        | exact h
        | exact h.mono fun e w'' ⟨v, he, hk⟩ => by subst he; exact hk
    | halt x w' => exact h.elim
  · rename_i c; rw [if_neg c] at h; exact h
/-- An operation, apart from 'oi', does the same whether oi's value is in its temporary or not. -/
theorem calm_put {oi oj : Oper} {v : Value} (hap : oi.apart ops oj = true) (hsj : ∀ cs b, oj.op ≠ .select cs b) {K : Act → World → Prop} {a : Act} {w : World}
    (h : calm P ops oj (a.put oi.dst v) w K) : calm P ops oj a w (fun a' w' => K (a'.put oi.dst v) w' ∧ ∃ u, a' = a.put oj.dst u) := by
  obtain ⟨h1, h2, _⟩ := Oper.apart_spec hap
  unfold calm at *
  rw [wanted_put oj a oi.dst v h1, execOp_put oj hsj a oi.dst v h1] at h
  split
  · rename_i c
    rw [if_pos c] at h
    generalize (execOp a.eval oj).run P w = r at *
    cases r with
    | ok n w' =>
      cases n <;> simp only [calmUpon] at h ⊢
      case value u => exact ⟨by rw [← Act.put_comm a v u h2]; exact h, u, rfl⟩
      case skip => exact ⟨by rw [← Act.put_comm a v undef h2]; exact h, undef, rfl⟩
      case enter f args => exact h.mono fun e w'' ⟨u, he, hk⟩ => ⟨u, he, by rw [← Act.put_comm a v u h2]; exact hk, u, rfl⟩
    | halt x w' => exact h.elim
  · rename_i c
    rw [if_neg c] at h
    exact ⟨by rw [← Act.put_comm a v undef h2]; exact h, undef, rfl⟩

/-- All heads (the operations before t) have come up; what is left is the tail. -/
def Headed (t : Nat) (L : Array Bool → Act → World → Prop) (listed : Array Bool) (a : Act) (w : World) : Prop := (∀ i, i < t → listed.getD i false = true) ∧ L listed a w
/-- Whatever order from here on, with whatever new memory between two operations, until the tail's turn ('L'). -/
def Tree (P : Program) (ops : Array Oper) (W : World) (t : Nat) (L : Array Bool → Act → World → Prop) : Nat → Array Bool → Act → World → Prop
  | 0, listed, a, w => ∀ w2, Bel w w2 → Headed t L listed a w2
  | f + 1, listed, a, w => ∀ w2, Bel w w2 → Headed t L listed a w2 ∨ (Region.ready .any ops listed ≠ [] ∧ ∀ i ∈ Region.ready .any ops listed, ∃ o, ops[i]? = some o ∧
      calm P ops o a w2 (fun a' w' => Bel W w' ∧ Tree P ops W t L f (listed.setIfInBounds i true) a' w'))
theorem Tree.up {t : Nat} {L : Array Bool → Act → World → Prop} : ∀ {f : Nat} {listed : Array Bool} {a : Act} {w w2 : World}, Tree P ops W t L f listed a w → Bel w w2 → Tree P ops W t L f listed a w2
  | 0, _, _, _, _, h, hb => fun w3 h3 => h w3 (hb.trans h3)
  | _ + 1, _, _, _, _, h, hb => fun w3 h3 => h w3 (hb.trans h3)
theorem wpAny_of_tree {t g : Nat} {L : Array Bool → Act → World → Prop} (hL : ∀ f listed a w, Headed t L listed a w → wpAny P .any ops Q (f + g) listed a w) :
    ∀ (f : Nat) (listed : Array Bool) (a : Act) (w : World), Tree P ops W t L f listed a w → wpAny P .any ops Q (f + g) listed a w
  | 0, listed, a, w, h => hL _ _ _ _ (h w (Bel.refl w))
  | f + 1, listed, a, w, h => by
    rcases h w (Bel.refl w) with h0 | ⟨h1, h2⟩
    · exact hL _ _ _ _ h0
    · rw [show f + 1 + g = (f + g) + 1 by omega]
      exact ⟨fun h0 => absurd h0 h1, fun i hi => by
        obtain ⟨o, ho, hc⟩ := h2 i hi
        exact wpOp_of_calm ho (calm_mono (fun a' w' ⟨_, ht⟩ => wpAny_of_tree hL f _ a' w' ht) hc)⟩
theorem off_both {listed : Array Bool} {i : Nat} (h : listed.getD i true = false) : listed.getD i false = false := by
  rcases Nat.lt_or_ge i listed.size with h' | h'
  · simp [h'] at h ⊢; exact h
  · simp [Array.getElem?_eq_none h'] at h

/-- A quiet operation yields its value in every world over W, and leaves a world over that one. -/
def Yields (P : Program) (ops : Array Oper) (W : World) (o : Oper) (v : Value) (a : Act) : Prop :=
  (Region.wanted o (yielded ops a.tmps) = true ∧ ∀ w, Bel W w → o.quietAt P a (Over w) w v) ∨ (Region.wanted o (yielded ops a.tmps) = false ∧ v = undef)
theorem Yields.of_same {o : Oper} {v : Value} {a a' : Act} (hy : Yields P ops W o v a) (he : execOp a'.eval o = execOp a.eval o)
    (hw : Region.wanted o (yielded ops a'.tmps) = Region.wanted o (yielded ops a.tmps)) : Yields P ops W o v a' := by
  unfold Yields Oper.quietAt at *
  rw [he, hw]
  exact hy
theorem Yields.calm {o : Oper} {v : Value} {a : Act} {w : World} (hy : Yields P ops W o v a) (hW : Bel W w) {K : Act → World → Prop} (h : ∀ w', Bel w w' → K (a.put o.dst v) w') : Proofs.Ytdjjjikokfadiaa.calm P ops o a w (fun a' w' => Bel W w' ∧ K a' w') := by
  unfold Proofs.Ytdjjjikokfadiaa.calm
  rcases hy with ⟨hw, hv⟩ | ⟨hw, rfl⟩
  · rw [if_pos hw]
    have h3 := hv w hW
    unfold Oper.quietAt at h3
    generalize (execOp a.eval o).run P w = r at *
    cases r with
    | ok n w' =>
      cases n <;> simp only [Oper.quietUpon, calmUpon] at h3 ⊢
      case value u => obtain ⟨rfl, rfl⟩ := h3; exact ⟨hW, h _ (Bel.refl _)⟩
      case skip => obtain ⟨rfl, rfl⟩ := h3; exact ⟨hW, h _ (Bel.refl _)⟩
      case enter f args =>
        obtain ⟨rfl, hc⟩ := h3
        exact hc.mono fun e w'' ⟨he, ho⟩ => ⟨v, he, hW.trans (over_iff.1 ho), h _ (over_iff.1 ho)⟩
    | halt x w' => exact h3.elim
  · rw [if_neg (by rw [hw]; exact Bool.false_ne_true)]; exact ⟨hW, h _ (Bel.refl _)⟩

/-- A quiet operation that may come up now may be taken first. -/
theorem Tree.first {t : Nat} {L : Array Bool → Act → World → Prop} {i : Nat} {oi : Oper} {v : Value} (hi : ops[i]? = some oi) (hsel : ∀ (j : Nat) (o : Oper) cs b, ops[j]? = some o → o.op ≠ .select cs b)
    (hit : i < t) (hT : ∀ j oj, t ≤ j → ops[j]? = some oj → ∃ e ∈ oj.after, Region.binds .any e = true ∧ e.on = i) :
    ∀ (f : Nat) (listed : Array Bool) (a : Act) (w : World), Bel W w →
      (∀ j oj, ops[j]? = some oj → j ≠ i → listed.getD j true = false → (∀ e ∈ oj.after, Region.binds .any e = true → e.on ≠ i) → oi.apart ops oj = true) →
      i ∈ Region.ready .any ops listed → Yields P ops W oi v a →
      Tree P ops W t L f (listed.setIfInBounds i true) (a.put oi.dst v) w → Tree P ops W t L (f + 1) listed a w := by
  have key : ∀ (listed : Array Bool), i ∈ Region.ready .any ops listed → ∀ a w, Headed t L (listed.setIfInBounds i true) a w → ∀ j ∈ Region.ready .any ops listed, j = i := by
    intro listed hr a w hh j hj
    have hun := off_both (mem_ready.1 hr).1
    obtain ⟨hjun, oj, hoj, hall⟩ := mem_ready.1 hj
    by_cases hji : j = i
    · exact hji
    · rcases Nat.lt_or_ge j t with hjt | hjt
      · have h1 := hh.1 j hjt
        rw [getD_set_ne false (Ne.symm hji)] at h1
        rw [off_both hjun] at h1; cases h1
      · obtain ⟨e, he, hb, hon⟩ := hT j oj hjt hoj
        have h1 := hall e he hb
        rw [hon, hun] at h1; cases h1
  intro f
  induction f with
  | zero =>
    intro listed a w hW hfree hr hy H w2 hb
    refine .inr ⟨fun h => (by rw [h] at hr; cases hr), fun j hj => ?_⟩
    obtain rfl := key listed hr _ _ (H w (Bel.refl w)) j hj
    exact ⟨oi, hi, hy.calm (hW.trans hb) fun w' hw' => H.up (hb.trans hw')⟩
  | succ f ih =>
    intro listed a w hW hfree hr hy H w2 hb
    have hun := (mem_ready.1 hr).1
    refine .inr ⟨fun h => (by rw [h] at hr; cases hr), fun j hj => ?_⟩
    by_cases hji : j = i
    · subst hji
      exact ⟨oi, hi, hy.calm (hW.trans hb) fun w' hw' => H.up (hb.trans hw')⟩
    · rcases H w2 hb with hh | ⟨_, hstep⟩
      · exact absurd (key listed hr _ _ hh j hj) hji
      obtain ⟨oj, hoj, h1⟩ := hstep j (ready_mono hj hji)
      obtain ⟨hjun, oj', hoj', hall⟩ := mem_ready.1 hj
      have : oj' = oj := Option.some.inj (hoj'.symm.trans hoj)
      subst this
      have hnot : ∀ e ∈ oj'.after, Region.binds .any e = true → e.on ≠ i := fun e he hb' heq => by
        have h2 := hall e he hb'
        rw [heq, off_both hun] at h2
        cases h2
      have hap := hfree j oj' hoj hji hjun hnot
      have hap3 := (Oper.apart_spec hap).2.2
      have h2 := calm_put hap (fun cs b => hsel j oj' cs b hoj) h1
      refine ⟨oj', hoj, calm_mono (fun a' w' ⟨⟨hW', ht⟩, u, hu⟩ => ⟨hW', ?_⟩) h2⟩
      have hy' : Yields P ops W oi v a' := by
        subst hu
        exact hy.of_same (execOp_put oi (fun cs b => hsel i oi cs b hi) a oj'.dst u hap3) (wanted_put oi a oj'.dst u hap3)
      have hfree' : ∀ k ok, ops[k]? = some ok → k ≠ i → (listed.setIfInBounds j true).getD k true = false →
          (∀ e ∈ ok.after, Region.binds .any e = true → e.on ≠ i) → oi.apart ops ok = true := fun k ok hk hki hun hno => by
        refine hfree k ok hk hki ?_ hno
        by_cases hjk : j = k
        · subst hjk; exact hjun
        · rw [getD_set_ne true hjk] at hun; exact hun
      rw [Array.setIfInBounds_comm _ _ (Ne.symm hji)] at ht
      exact ih (listed.setIfInBounds j true) a' w' hW' hfree' (ready_mono hr (Ne.symm hji)) hy' ht
/-- The only operation that may come up. -/
theorem Tree.only {t : Nat} {L : Array Bool → Act → World → Prop} {i : Nat} {oi : Oper} (hi : ops[i]? = some oi) (f : Nat) (listed : Array Bool) (a : Act) (w : World) (hr : Region.ready .any ops listed = [i])
    (h : ∀ w2, Bel w w2 → calm P ops oi a w2 (fun a' w' => Bel W w' ∧ Tree P ops W t L f (listed.setIfInBounds i true) a' w')) : Tree P ops W t L (f + 1) listed a w := fun w2 hb =>
  .inr ⟨by rw [hr]; exact List.cons_ne_nil _ _, fun j hj => by
    rw [hr] at hj
    obtain rfl := List.mem_singleton.1 hj
    exact ⟨oi, hi, h w2 hb⟩⟩

/-! ### The plan: which are quiet (in an order in which each may be taken first), which are the chain, where the tail begins -/
/-- The operations of a list of indices. -/
def pick (l : List Oper) : List Nat → List Oper
  | [] => []
  | i :: is => l.getD i default :: pick l is
/-- The chain: one after the other, with whatever new memory ahead of each. -/
def chain (P : Program) (ops : Array Oper) (W : World) (K : Act → World → Prop) : List Oper → Act → World → Prop
  | [], a, w => K a w
  | o :: rest, a, w => ∀ w2, Bel w w2 → calm P ops o a w2 (fun a' w' => Bel W w' ∧ chain P ops W K rest a' w')
def tailWaits (ops : Array Oper) (t : Nat) : Bool :=
  (List.range ops.size).all fun j => decide (j < t) || match ops[j]? with
    | some oj => (List.range t).all fun i => oj.after.any fun e => Region.binds .any e && e.on == i
    | none => true
def quietB (ops : Array Oper) (t : Nat) : List Nat → Array Bool → Bool × Array Bool
  | [], listed => (true, listed)
  | i :: is, listed =>
    let r := quietB ops t is (listed.setIfInBounds i true)
    (decide (i < t) && (Region.ready .any ops listed).contains i && Region.free .any ops listed i && r.1, r.2)
def onlyB (ops : Array Oper) (t : Nat) : List Nat → Array Bool → Bool × Array Bool
  | [], listed => (true, listed)
  | i :: is, listed =>
    let r := onlyB ops t is (listed.setIfInBounds i true)
    (decide (i < t) && decide (Region.ready .any ops listed = [i]) && r.1, r.2)
def seqFrom (ops : Array Oper) : Nat → Nat → Array Bool → Bool
  | 0, _, listed => (Region.ready .any ops listed).isEmpty
  | g + 1, k, listed => decide (Region.ready .any ops listed = [k]) && seqFrom ops g (k + 1) (listed.setIfInBounds k true)
/-- Each slot that a quiet operation writes is written once, and there. -/
def onceB (l : List Oper) (n : Nat) : List Nat → Bool
  | [] => true
  | i :: is => (match (l.getD i default).dst with
      | some d => decide (d < n) && is.all fun j => (l.getD j default).dst != some d
      | none => false) && onceB l n is
def planB (l : List Oper) (iA iB : List Nat) (t : Nat) : Bool :=
  let ops := l.toArray
  let r1 := quietB ops t iA (Array.replicate ops.size false)
  let r2 := onlyB ops t iB r1.2
  Region.noSelect ops && tailWaits ops t && r1.1 && r2.1 && (List.range t).all (fun i => r2.2.getD i false) && decide (t ≤ ops.size) && seqFrom ops (ops.size - t) t r2.2 && decide (iA.length + iB.length = t)

theorem getD_ops (l : List Oper) (i : Nat) (h : i < l.length) : l.toArray[i]? = some (l.getD i default) := by
  simp [List.getD, h]
theorem put_size (a : Act) (x : Option Tmp) (v : Value) : (a.put x v).tmps.size = a.tmps.size := by cases x <;> simp [Act.put]
theorem put_at (a : Act) (d : Tmp) (v : Value) (h : d < a.tmps.size) : (a.put (some d) v).tmps.getD d undef = v := by simp [Act.put, h]
theorem put_off (a : Act) (x : Option Tmp) (d : Tmp) (v : Value) (h : x ≠ some d) : (a.put x v).tmps.getD d undef = a.tmps.getD d undef := by
  cases x with
  | none => rfl
  | some e =>
    have : e ≠ d := fun he => h (by rw [he])
    simp [Act.put, Array.getElem?_setIfInBounds_ne this]
theorem slot_kept {C : World → Prop} {aA : Act} {l : List Oper} {d : Tmp} : ∀ (is : List Nat) (a : Act), (∀ j ∈ is, (l.getD j default).dst ≠ some d) → wpQuiet P ops C (fun a' => a' = aA) (pick l is) a →
    aA.tmps.getD d undef = a.tmps.getD d undef
  | [], a, _, h => by simp only [pick, wpQuiet] at h; rw [h]
  | i :: is, a, hd, h => by
    simp only [pick, wpQuiet] at h
    have h0 := hd i (List.mem_cons_self ..)
    split at h
    · obtain ⟨v, _, h2⟩ := h
      rw [slot_kept is _ (fun j hj => hd j (List.mem_cons_of_mem _ hj)) h2, put_off _ _ _ _ h0]
    · rw [slot_kept is _ (fun j hj => hd j (List.mem_cons_of_mem _ hj)) h, put_off _ _ _ _ h0]
theorem tailWaits_spec {t i : Nat} (h : tailWaits ops t = true) (hi : i < t) (j : Nat) (oj : Oper) (hj : t ≤ j) (ho : ops[j]? = some oj) : ∃ e ∈ oj.after, Region.binds .any e = true ∧ e.on = i := by
  have hlt := (Array.getElem?_eq_some_iff.1 ho).1
  have h1 := List.all_eq_true.1 h j (List.mem_range.2 hlt)
  simp only [ho, Bool.or_eq_true, decide_eq_true_eq] at h1
  rcases h1 with h1 | h1
  · omega
  · have h2 := List.all_eq_true.1 h1 i (List.mem_range.2 hi)
    obtain ⟨e, he, hb⟩ := Array.any_eq_true'.1 h2
    simp only [Bool.and_eq_true, beq_iff_eq] at hb
    exact ⟨e, he, hb.1, hb.2⟩
theorem tree_quiet {t : Nat} {L : Array Bool → Act → World → Prop} {l : List Oper} {aA : Act} (hs : Region.noSelect l.toArray = true) (hT : tailWaits l.toArray t = true) (htl : t ≤ l.length) (f : Nat) (fin : Array Bool) :
    ∀ (is : List Nat) (listed : Array Bool) (a : Act), quietB l.toArray t is listed = (true, fin) → onceB l a.tmps.size is = true →
      (∀ W', Bel W W' → wpQuiet P l.toArray (Over W') (fun a' => a' = aA) (pick l is) a) → Tree P l.toArray W t L f fin aA W → Tree P l.toArray W t L (f + is.length) listed a W
  | [], listed, a, hq, _, h, ht => by
    simp only [quietB, Prod.mk.injEq, true_and] at hq
    have h1 := h W (Bel.refl W)
    simp only [pick, wpQuiet] at h1
    subst h1; subst hq
    exact ht
  | i :: is, listed, a, hq, ho, h, ht => by
    simp only [quietB, Prod.mk.injEq, Bool.and_eq_true, decide_eq_true_eq] at hq
    obtain ⟨⟨⟨⟨hit, hr⟩, hf⟩, hq1⟩, hq2⟩ := hq
    have hi := getD_ops l i (by omega)
    simp only [onceB, Bool.and_eq_true] at ho
    obtain ⟨ho1, ho2⟩ := ho
    cases hd : (l.getD i default).dst with
    | none => rw [hd] at ho1; exact absurd ho1 (by simp)
    | some d =>
      rw [hd] at ho1
      simp only [Bool.and_eq_true, decide_eq_true_eq, List.all_eq_true, bne_iff_ne] at ho1
      obtain ⟨hdn, hdo⟩ := ho1
      have hy : ∃ v, Yields P l.toArray W (l.getD i default) v a ∧ ∀ W', Bel W W' → wpQuiet P l.toArray (Over W') (fun a' => a' = aA) (pick l is) (a.put (some d) v) := by
        by_cases hw : Region.wanted (l.getD i default) (yielded l.toArray a.tmps) = true
        · have hv : ∀ W', Bel W W' → (∀ w, Over W' w → (l.getD i default).quietAt P a (Over W') w (aA.tmps.getD d undef)) ∧ wpQuiet P l.toArray (Over W') (fun a' => a' = aA) (pick l is) (a.put (some d) (aA.tmps.getD d undef)) := by
            intro W' hW'
            have h1 := h W' hW'
            simp only [pick, wpQuiet, hw, if_true] at h1
            obtain ⟨v, h2, h3⟩ := h1
            rw [hd] at h3
            have e := slot_kept is _ hdo h3
            rw [put_at _ _ _ hdn] at e
            rw [e]; exact ⟨h2, h3⟩
          exact ⟨_, .inl ⟨hw, fun w hb => (hv w hb).1 w (over_iff.2 (Bel.refl w))⟩, fun W' hb => (hv W' hb).2⟩
        · have hw' : Region.wanted (l.getD i default) (yielded l.toArray a.tmps) = false := by simpa using hw
          refine ⟨undef, .inr ⟨hw', rfl⟩, fun W' hb => ?_⟩
          have h1 := h W' hb
          simp only [pick, wpQuiet, hw', hd] at h1
          exact h1
      obtain ⟨v, hy1, hy2⟩ := hy
      have hrest := tree_quiet hs hT htl f fin is (listed.setIfInBounds i true) (a.put (some d) v) (Prod.ext hq1 hq2) (by rw [put_size]; exact ho2) hy2 ht
      refine Tree.first hi (Region.noSelect_spec hs) hit (tailWaits_spec hT hit) (f + is.length) listed a W (Bel.refl W) (Region.free_spec hi hf) (by simpa using hr) hy1 ?_
      rw [hd]; exact hrest
theorem tree_chain {t : Nat} {L : Act → World → Prop} {l : List Oper} (htl : t ≤ l.length) (fin : Array Bool) (hfin : ∀ i, i < t → fin.getD i false = true) :
    ∀ (is : List Nat) (listed : Array Bool) (a : Act) (w : World), onlyB l.toArray t is listed = (true, fin) →
      chain P l.toArray W (fun a' w' => ∀ w2, Bel w' w2 → L a' w2) (pick l is) a w → Tree P l.toArray W t (fun listed a w => listed = fin ∧ L a w) is.length listed a w
  | [], listed, a, w, hq, h => by
    simp only [onlyB, Prod.mk.injEq, true_and] at hq
    subst hq
    exact fun w2 hb => ⟨hfin, rfl, h w2 hb⟩
  | i :: is, listed, a, w, hq, h => by
    simp only [onlyB, Prod.mk.injEq, Bool.and_eq_true, decide_eq_true_eq] at hq
    obtain ⟨⟨⟨hit, hr⟩, hq1⟩, hq2⟩ := hq
    refine Tree.only (getD_ops l i (by omega)) is.length listed a w hr fun w2 hb => ?_
    exact calm_mono (fun a' w' ⟨hW, hc⟩ => ⟨hW, tree_chain htl fin hfin is _ a' w' (Prod.ext hq1 hq2) hc⟩) (h w2 hb)
theorem wpAny_seq : ∀ (l : List Oper) (k : Nat) (listed : Array Bool) (f : Nat) (a : Act) (w : World), (∀ j, l[j]? = ops[k + j]?) →
    seqFrom ops l.length k listed = true → wpList P ops Q l a w → wpAny P .any ops Q (f + l.length) listed a w
  | [], k, listed, f, a, w, _, hB, h => by
    have hr : Region.ready .any ops listed = [] := by simpa [seqFrom] using hB
    cases f with
    | zero => exact ⟨hr, h⟩
    | succ f => exact ⟨fun _ => h, fun i hi => by rw [hr] at hi; cases hi⟩
  | o :: l, k, listed, f, a, w, hl, hB, h => by
    simp only [List.length_cons, seqFrom, Bool.and_eq_true, decide_eq_true_eq] at hB
    obtain ⟨hr, hB'⟩ := hB
    have h0 : ops[k]? = some o := by simpa using (hl 0).symm
    rw [List.length_cons, ← Nat.add_assoc]
    refine ⟨fun h => (by rw [hr] at h; cases h), fun i hi => ?_⟩
    rw [hr] at hi
    obtain rfl := List.mem_singleton.1 hi
    unfold wpOp
    simp only [h0]
    simp only [wpList] at h
    have ih := fun a w => wpAny_seq l (i + 1) (listed.setIfInBounds i true) f a w (fun j => by have := hl (j + 1); simpa [Nat.add_assoc, Nat.add_comm 1 j] using this) hB'
    split
    · rename_i c
      rw [if_pos c] at h
      rcases h with h | h
      · exact .inl (Oper.wp_mono (fun a w => ih a w) h)
      · exact .inr h
    · rename_i c
      rw [if_neg c] at h
      exact ih _ _ h
/-- **A region that draws its order, by a plan**: the operations iA are quiet; those of iB come one after the other and may make memory; the tail, from t on, comes last. -/
theorem wp_region_plan {id : Nat} {a : Act} {l : List Oper} (aA : Act) (iA iB : List Nat) (t : Nat) (hm : P.follows .mixedOrders = true) (hB : planB l iA iB t = true) (hO : onceB l a.tmps.size iA = true)
    (hA : ∀ W', Bel W W' → wpQuiet P l.toArray (Over W') (fun a' => a' = aA) (pick l iA) a)
    (hC : chain P l.toArray W (fun a' w' => ∀ w2, Bel w' w2 → wpList P l.toArray Q (l.drop t) a' w2) (pick l iB) aA W) : (Code.region id l.toArray true).wp P Q a W := by
  simp only [planB, Bool.and_eq_true, decide_eq_true_eq, List.all_eq_true, List.mem_range] at hB
  obtain ⟨⟨⟨⟨⟨⟨⟨hs, hT⟩, hq⟩, ho⟩, hfin⟩, htl⟩, hseq⟩, hlen⟩ := hB
  have htl' : t ≤ l.length := by simpa using htl
  have h1 := tree_chain (P := P) (W := W) (L := fun a w => wpList P l.toArray Q (l.drop t) a w) htl' _ hfin iB _ aA W (Prod.ext ho rfl) hC
  have h2 := tree_quiet (P := P) (W := W) (aA := aA) hs hT htl' iB.length _ iA (Array.replicate l.toArray.size false) a (Prod.ext hq rfl) hO hA h1
  refine wp_region_any hm ?_
  have hd : Bel W { W with drawn := W.drawn + 1 } := Bel.drew (Bel.refl W)
  have h3 := wpAny_of_tree (Q := Q) (g := (l.drop t).length) (fun f listed a w hh => wpAny_seq (l.drop t) t listed f a w (fun j => by simp) (by rw [hh.2.1]; simpa using hseq) hh.2.2) _ _ _ _ (h2.up hd)
  have e : iB.length + iA.length + (l.drop t).length = l.toArray.size := by simp; omega
  rw [e] at h3
  exact h3
/-- The same, the classes written out; what the quiet part comes to is found on the way ('apply Exists.intro'). -/
theorem wp_plan {id : Nat} {a : Act} {l : List Oper} (iA iB : List Nat) (t : Nat) (hm : P.follows .mixedOrders = true) (hB : planB l iA iB t = true) (hO : onceB l a.tmps.size iA = true)
    (h : ∃ aA, (∀ W', Bel W W' → wpQuiet P l.toArray (fun w' => ∃ x, w' = more W' x) (fun a' => a' = aA) (pick l iA) a) ∧
      chain P l.toArray W (fun a' w' => ∀ w2, Bel w' w2 → wpList P l.toArray Q (l.drop t) a' w2) (pick l iB) aA W) : (Code.region id l.toArray true).wp P Q a W :=
  let ⟨aA, hA, hC⟩ := h
  wp_region_plan aA iA iB t hm hB hO hA hC
theorem calm_plain {o : Oper} {a : Act} {w : World} {K : Act → World → Prop} (hg : o.guard = none) (h : calmUpon P o a K ((execOp a.eval o).run P w)) : calm P ops o a w K := by
  unfold calm
  rw [if_pos (by simp [Region.wanted, hg])]; exact h
theorem calmUpon_value (o : Oper) (a : Act) (K : Act → World → Prop) (v : Value) (w : World) : calmUpon P o a K (.ok (.value v) w) = K (a.put o.dst v) w := rfl
theorem calmUpon_skip (o : Oper) (a : Act) (K : Act → World → Prop) (w : World) : calmUpon P o a K (.ok .skip w) = K (a.put o.dst undef) w := rfl
end
end Go.Proofs.Ytdjjjikokfadiaa
