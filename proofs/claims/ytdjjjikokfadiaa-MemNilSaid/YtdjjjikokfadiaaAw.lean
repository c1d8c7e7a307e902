/- Items: operations on slices of integers that are items. No condition. -/
import Derived.Test.YtdjjjikokfadiaaAv
namespace Go.Proofs.Ytdjjjikokfadiaa
set_option linter.unusedVariables false
set_option linter.unusedSimpArgs false
open Go.RowKit
section
variable {P : Program} {n : Nat} {ops : Array Oper} {Q : Exit → Act → World → Prop} {S : Nat → Prop} {w0 : World} {X : World → Prop} {L : List (Nat × List Value)} {l : List Oper} {o : Oper} {fr : E.Fr}
/-- A store of one cell, with any account of the worlds before and behind. -/
theorem A.G.sto1 {t T : TypeId} {x y : Operand} {pos : String} {af : Array Edge} {gd : Option (Nat × Bool)} {g j : Nat} (v : Value) (X' : World → Prop) (L' : List (Nat × List Value)) (hx : E.ev fr x = .pointer (some ⟨g, j, none⟩)) (hy : E.ev fr y = v) (hv : v.cells.toList = [v]) (hb : E.cellB v = true)
    (ht : (P.info? t).map (·.size) = some 1) (hr : ∀ w, E.Hp S w0 X L w → w.frozen? ⟨g, j, none⟩ = false ∧ (∃ u, w.cell? ⟨g, j, none⟩ = some u) ∧ E.Hp S w0 X' L' (w.setCell ⟨g, j, none⟩ v))
    (hck : E.ck n ops fr ⟨none, .store t x y, T, pos, af, gd⟩ = true) (k : E.G P n ops Q l fr S w0 X' L') : E.G P n ops Q (⟨none, .store t x y, T, pos, af, gd⟩ :: l) fr S w0 X L := by
  intro a w hs hh
  refine E.step (hs.want (E.ck_w hck)) ?_
  unfold Oper.wp
  rw [hs.exec (E.ck_k hck)]
  obtain ⟨hf, ⟨u, hc⟩, hh'⟩ := hr w hh
  have hst : (store ⟨g, j, none⟩ v).run P w = .ok () (w.setCell ⟨g, j, none⟩ v) := by
    simp only [store]
    cases v <;> first
      | (simp only [Sem.run, hc, hf]; rfl)
      | exact absurd hb (by simp [E.cellB])
  have hs1 : (sizeOf t).run P w = .ok 1 w := by
    cases hi : P.info? t with
    | none => rw [hi] at ht; cases ht
    | some i => rw [hi] at ht; simp [sizeOf, typeInfo, hi]; simpa using ht
  have hsz : v.cells.size = 1 := by
    have := congrArg List.length hv
    simpa using this
  have hrun : (Instr.storeAt t (.pointer (some ⟨g, j, none⟩)) v).run P w = .ok () (w.setCell ⟨g, j, none⟩ v) := by
    simp [Instr.storeAt, Instr.sureAddr, storeVar, hs1, hsz, hv, storeCells, Addr.add, hst]
  have : (execOp (E.ev fr) ⟨none, .store t x y, T, pos, af, gd⟩).run P w = .ok .skip (w.setCell ⟨g, j, none⟩ v) := by
    show (do Instr.storeAt t (E.ev fr x) (E.ev fr y); pure Next.skip).run P w = _
    rw [hx, hy]; simp [hrun]
  rw [this]
  exact k _ _ hs hh'
end
section
variable {P : Program} {n : Nat} {ops : Array Oper} {Q : Exit → Act → World → Prop} {w0 : World} {o0 a0 : Nat → Prop} {its : List A.It} {L : List (Nat × List Value)} {l : List Oper} {fr : E.Fr} {d : Option Nat} {T : TypeId} {pos : String} {af : Array Edge} {gd : Option (Nat × Bool)}
theorem A.vec_upd {k : IntKind} {ao : Option Addr} {cap : Nat} {l : List Int} {w : World} {o a : Nat → Prop} (h : (A.vec k ao cap l).t w o a) {i : Nat} (hi : i < l.length) (v : Int) :
    Ch o w (w.setCell ⟨A.bk ao, i, none⟩ (.int k v)) ∧ ∃ o' a', (A.vec k ao cap (l.set i v)).t (w.setCell ⟨A.bk ao, i, none⟩ (.int k v)) o' a' ∧ A.Gr w o a o' a' := by
  obtain ⟨h1, h2, h3, h4⟩ := A.vec_set h hi v
  exact ⟨(Ch.refl o w).setCell (p := ⟨A.bk ao, i, none⟩) (fun _ => h3) _, o, a, h4, A.Gr.refl _ _ _⟩
/-- An element of a slice is set. -/
theorem A.G.vst {t : TypeId} {x y : Operand} {kd : IntKind} {ao : Option Addr} {cap i : Nat} {xs : List Int} {v : Int} (k : Nat) (hk : its[k]? = some (A.vec kd ao cap xs)) (hne : A.ne L = true) (hx : E.ev fr x = .pointer (some ⟨A.bk ao, i, none⟩)) (hy : E.ev fr y = .int kd v) (hi : i < xs.length) (ht : (P.info? t).map (·.size) = some 1)
    (hck : E.ck n ops fr ⟨none, .store t x y, T, pos, af, gd⟩ = true) (kk : E.G P n ops Q l fr o0 w0 (A.X w0 o0 a0 (its.set k (A.vec kd ao cap (xs.set i v)))) L) : E.G P n ops Q (⟨none, .store t x y, T, pos, af, gd⟩ :: l) fr o0 w0 (A.X w0 o0 a0 its) L := by
  refine A.G.sto1 (.int kd v) _ L hx hy rfl rfl ht (fun w h => ?_) hck kk
  obtain ⟨o1, a1, hv⟩ := A.X.get h hk
  obtain ⟨h1, h2, h3, h4⟩ := A.vec_set hv hi v
  exact ⟨h1, h2, A.X.upd h hne hk fun o1 a1 hv => A.vec_upd hv hi v⟩
theorem A.vec_new {k : IntKind} {w : World} {g c : Nat} {cs : List Value} {T : TypeId} {xs : List Int} {rest : List Value} (hg : g = w.heap.size) (hcs : cs = xs.map (Value.int k) ++ rest) (hc : c = cs.length) (h0 : 0 < c) : (A.vec k (some ⟨g, 0, none⟩) c xs).t (w.alloc (.cells cs.toArray T)) (fun x => x = g) (fun x => x = g) := by
  subst hg; subst hcs
  refine ⟨by rw [hc]; simp, .inr ⟨h0, _, rfl, by show w.heap.size < (w.heap.push _).size; simp, fun i v hv => ?_, fun i hi => ?_, fun i => by unfold World.frozen? World.alloc; simp, fun _ => Iff.rfl, fun _ => Iff.rfl⟩⟩
  · have hlt := (List.getElem?_eq_some_iff.1 hv).1
    rw [World.cell?_alloc_mark]
    have : (xs.map (Value.int k) ++ rest)[i]? = some (.int k v) := by rw [List.getElem?_append_left (by simpa using hlt), List.getElem?_map, hv]; rfl
    simpa using this
  · rw [World.cell?_alloc_mark]
    rw [hc] at hi
    exact ⟨(xs.map (Value.int k) ++ rest)[i], by simp⟩
theorem A.vec_push {k : IntKind} {ao : Option Addr} {cap : Nat} {xs : List Int} {w : World} {o a : Nat → Prop} (h : (A.vec k ao cap xs).t w o a) (hi : xs.length + 1 ≤ cap) (v : Int) :
    w.frozen? ⟨A.bk ao, xs.length, none⟩ = false ∧ (∃ u, w.cell? ⟨A.bk ao, xs.length, none⟩ = some u) ∧ o (A.bk ao) ∧ (A.vec k ao cap (xs ++ [v])).t (w.setCell ⟨A.bk ao, xs.length, none⟩ (.int k v)) o a := by
  rcases h.2 with h | ⟨hc, b, rfl, hb, h1, h2, h3, ho, ha⟩
  · omega
  · refine ⟨h3 _, h2 _ (by omega), (ho _).2 rfl, by simpa using hi, .inr ⟨hc, b, rfl, by simpa [World.setCell] using hb, fun j u hu => ?_, fun j hj => ?_, fun j => (frozen_set _ _ _ _).trans (h3 j), ho, ha⟩⟩
    · show (w.setCell ⟨b, xs.length, none⟩ _).cell? _ = _
      by_cases e : xs.length = j
      · subst e
        rw [List.getElem?_append_right (Nat.le_refl _), Nat.sub_self] at hu
        obtain rfl := Option.some.inj hu
        obtain ⟨u0, hu0⟩ := h2 xs.length (by omega)
        exact cell_set hu0
      · rw [World.cell?_setCell_other _ _ _ _ (by intro q; injection q with _ h2 _; exact e h2)]
        have hj : j < xs.length := by
          have := (List.getElem?_eq_some_iff.1 hu).1
          simp at this; omega
        rw [List.getElem?_append_left hj] at hu
        exact h1 j u hu
    · show ∃ u, (w.setCell ⟨b, xs.length, none⟩ _).cell? _ = _
      by_cases e : xs.length = j
      · subst e
        obtain ⟨u0, hu0⟩ := h2 _ hj
        exact ⟨_, cell_set hu0⟩
      · rw [World.cell?_setCell_other _ _ _ _ (by intro q; injection q with _ h2 _; exact e h2)]
        exact h2 j hj
/-- One element is appended to a slice. -/
theorem A.run_append1 {t e : TypeId} {kd : IntKind} {ao : Option Addr} {cap by_ k : Nat} {xs : List Int} {v : Int} {a1 : Addr} {cx : Nat} {w : World} (ht : P.underlying t = some (.slice e)) (hi : E.tinfo P e = some (1, by_, 1)) (hb : (xs.length + 1) * by_ ≤ 140737488355328) (h63 : xs.length + 1 ≤ 9223372036854775807) (h0 : by_ ≠ 0)
    (h : E.Hp o0 w0 (A.X w0 o0 a0 its) L w) (hne : A.ne L = true) (hk : its[k]? = some (A.vec kd ao cap xs)) (hx : w.cell? (a1.add 0) = some (.int kd v)) :
    ∃ ao' c' w', (Builtin.append_ #[t, t] T #[.slice ao xs.length cap, .slice (some a1) 1 cx]).run P w = .ok (.slice ao' (xs ++ [v]).length c') w' ∧ E.Hp o0 w0 (A.X w0 o0 a0 (its.set k (A.vec kd ao' c' (xs ++ [v])))) L w' := by
  unfold E.tinfo at hi
  cases hie : P.info? e with
  | none => rw [hie] at hi; cases hi
  | some ie =>
    rw [hie] at hi
    simp only [Option.bind_some] at hi
    cases hz : ie.zero with
    | none => rw [hz] at hi; cases hi
    | some z =>
      rw [hz] at hi
      simp only [Option.map_some, Option.some.injEq, Prod.mk.injEq] at hi
      obtain ⟨h1, h2, h3⟩ := hi
      obtain ⟨o1, f1, hv⟩ := A.X.get h hk
      have hnews : ∀ j u, [Value.int kd v][j]? = some u → w.cell? (a1.add j) = some u := fun j u hj => by
        match j with
        | 0 => simp at hj; subst hj; exact hx
        | j + 1 => simp at hj
      have hlen : (xs ++ [v]).length = xs.length + 1 := by simp
      have hnew : ∀ (ol : List Value) (c' : Nat), ol = xs.map (Value.int kd) → xs.length + 1 ≤ c' → E.Hp o0 w0 (A.X w0 o0 a0 (its.set k (A.vec kd (some ⟨w.heap.size, 0, none⟩) c' (xs ++ [v])))) L (w.drew.alloc (.cells (ol.toArray ++ [Value.int kd v].toArray ++ Builtin.zeroCells z.cells (c' - (xs.length + 1))) e)) := fun ol c' hol hc' => by
        have hb1 : Bel w (w.drew.alloc (.cells (ol.toArray ++ [Value.int kd v].toArray ++ Builtin.zeroCells z.cells (c' - (xs.length + 1))) e)) := Bel.alloc (Bel.drew (Bel.refl w)) _
        refine A.X.upd h hne hk fun o1 a1 hv => ⟨hb1.ch _, (fun x => x = w.heap.size), (fun x => x = w.heap.size), ?_, fun x hx hk => ?_, fun x hx hk => ?_⟩
        · have ea : ol.toArray ++ [Value.int kd v].toArray ++ Builtin.zeroCells z.cells (c' - (xs.length + 1)) = ((xs ++ [v]).map (Value.int kd) ++ (Builtin.zeroCells z.cells (c' - (xs.length + 1))).toList).toArray := by
            subst hol; simp
          have hzl : (Builtin.zeroCells z.cells (c' - (xs.length + 1))).toList.length = c' - (xs.length + 1) := by rw [Array.length_toList, size_zeroCells, h3, Nat.mul_one]
          rw [ea]
          exact A.vec_new (w := w.drew) (rest := (Builtin.zeroCells z.cells (c' - (xs.length + 1))).toList) rfl rfl (by rw [List.length_append, List.length_map, hlen, hzl]; omega) (by omega)
        · simp only at hk; omega
        · simp only at hk; omega
      by_cases hroom : xs.length + 1 ≤ cap
      · -- in place
        obtain ⟨b, rfl⟩ : ∃ b, ao = some ⟨b, 0, none⟩ := ⟨_, A.vec_ao hv (by omega)⟩
        obtain ⟨q1, q2, q3, q4⟩ := A.vec_push hv hroom v
        have hbk : A.bk (some ⟨b, 0, none⟩) = b := rfl
        rw [hbk] at q1 q2
        refine ⟨some ⟨b, 0, none⟩, cap, w.setCell ⟨b, xs.length, none⟩ (.int kd v), ?_, A.X.upd h hne hk fun o1 a1 hv => ?_⟩
        · have hfirst := run_firstCells_some (P := P) w ie.size 1 a1 1 cx [.int kd v] (by rw [h1]; rfl) hnews
          obtain ⟨u, hu⟩ := q2
          have hst : (store ⟨b, xs.length, none⟩ (.int kd v)).run P w = .ok () (w.setCell ⟨b, xs.length, none⟩ (.int kd v)) := by
            simp only [store, Sem.run, hu, q1]; rfl
          rw [h1] at hfirst
          rw [hlen]
          simp [Builtin.append_, run_underlying ht, sizeOf, typeInfo, hie, Builtin.lenOf, hroom, hfirst, E.add_off, storeCells, h1, hst]
        · obtain ⟨q1, q2, q3, q4⟩ := A.vec_push hv hroom v
          exact ⟨(Ch.refl o1 w).setCell (p := ⟨b, xs.length, none⟩) (fun _ => q3) _, _, _, q4, A.Gr.refl _ _ _⟩
      · -- a new block
        have hx0 := hv.1
        have hcl : cap = xs.length := by omega
        have hge := grownCap_ge w (xs.length + 1) cap e
        refine ⟨some ⟨w.heap.size, 0, none⟩, grownCap w (xs.length + 1) cap e, _, ?_, hnew (xs.map (Value.int kd)) _ rfl hge⟩
        rw [hlen]
        cases hao : ao with
        | none =>
          have hc0 : cap = 0 := by
            rcases hv.2 with h | ⟨_, b, hb, _⟩
            · exact h.1
            · rw [hao] at hb; cases hb
          have hx1 : xs = [] := List.eq_nil_of_length_eq_zero (by omega)
          subst hx1; subst hc0
          have := run_append_nil (P := P) w t T e ie z ht hie hz a1 1 cx [.int kd v] (by rw [h1]; rfl) hnews (by decide) (by decide) (by rw [h2]; simp at hb; omega)
          simpa using this
        | some ab =>
          have hba : xs.length = 0 ∨ ab = ⟨A.bk ao, 0, none⟩ := by
            rcases Nat.eq_zero_or_pos xs.length with h | h
            · exact .inl h
            · have := A.vec_ao hv (by omega)
              rw [hao] at this
              exact .inr (by rw [hao]; exact Option.some.inj this)
          have hold : ∀ j u, (xs.map (Value.int kd))[j]? = some u → w.cell? (ab.add j) = some u := fun j u hj => by
            have hlt : j < xs.length := by have := (List.getElem?_eq_some_iff.1 hj).1; simpa using this
            rcases hba with h | h
            · omega
            · rw [h, E.add_off, Nat.zero_add, A.vec_at hv hlt, ← hj]
              simp [List.getD, hlt]
          exact run_append_grow (P := P) w t T e ie z ht hie hz ab xs.length cap (xs.map (Value.int kd)) (by rw [List.length_map, h1, Nat.mul_one]) hold a1 1 cx [.int kd v] (by rw [h1]; rfl) hnews (by omega) (by omega) (growslice_fits (by omega) (by rw [h2]; exact hb))
theorem A.G.append1 {t e : TypeId} {s x : Operand} {kd : IntKind} {ao : Option Addr} {cap : Nat} (k ix gx jx cx by_ : Nat) (xs : List Int) (v : Int) (csx : List Value) (hk : its[k]? = some (A.vec kd ao cap xs)) (hne : A.ne L = true) (ht : P.underlying t = some (.slice e)) (hi : E.tinfo P e = some (1, by_, 1))
    (hs : E.ev fr s = .slice ao xs.length cap) (hx : E.ev fr x = .slice (some ⟨gx, jx, none⟩) 1 cx) (hLx : L[ix]? = some (gx, csx)) (hv : csx[jx]? = some (.int kd v)) (hb : (xs.length + 1) * by_ ≤ 140737488355328) (h63 : xs.length + 1 ≤ 9223372036854775807) (h0 : by_ ≠ 0)
    (hck : E.ck n ops fr ⟨d, .call { callee := .builtin .append, args := #[s, x], argTypes := #[t, t] }, T, pos, af, gd⟩ = true)
    (kk : ∀ ao' c', E.G P n ops Q l (E.upd fr d (.slice ao' (xs ++ [v]).length c')) o0 w0 (A.X w0 o0 a0 (its.set k (A.vec kd ao' c' (xs ++ [v])))) L) :
    E.G P n ops Q (⟨d, .call { callee := .builtin .append, args := #[s, x], argTypes := #[t, t] }, T, pos, af, gd⟩ :: l) fr o0 w0 (A.X w0 o0 a0 its) L := by
  refine E.G.any (I := Option Addr × Nat) (fun _ => True) (fun a => .slice a.1 (xs ++ [v]).length a.2) (fun a => A.X w0 o0 a0 (its.set k (A.vec kd a.1 a.2 (xs ++ [v])))) (fun _ => L) (fun w hh => ?_) hck (fun a _ => kk a.1 a.2)
  have hop : (execOp (E.ev fr) ⟨d, .call { callee := .builtin .append, args := #[s, x], argTypes := #[t, t] }, T, pos, af, gd⟩).run P w = ((Builtin.append_ #[t, t] T #[E.ev fr s, E.ev fr x]).run P w).andThen fun v w' => .ok (.value v) w' := by
    simp [execOp, resolve, invoke, builtin]
  obtain ⟨ao', c', w', hr, hw⟩ := A.run_append1 (T := T) (a1 := ⟨gx, jx, none⟩) (cx := cx) (v := v) ht hi hb h63 h0 hh hne hk (by rw [E.add_off]; exact hh.mem _ (List.mem_of_getElem? hLx) _ _ hv)
  exact ⟨(ao', c'), w', trivial, by rw [hop, hs, hx, hr]; rfl, hw⟩
/-- A slice of zeros is made. -/
theorem A.G.make {t e : TypeId} {kd lk : IntKind} {x : Operand} (m by_ : Nat) (ht : P.underlying t = some (.slice e)) (hi : (P.info? e).map (fun i => (i.size, i.bytes, i.zero.map (·.cells))) = some (1, by_, some #[.int kd 0])) (hx : E.ev fr x = .int lk ((m : Nat) : Int)) (hb : by_ * m ≤ 281474976710656) (h63 : m ≤ 9223372036854775807)
    (hck : E.ck n ops fr ⟨d, .makeSlice t x x, T, pos, af, gd⟩ = true)
    (kk : ∀ ao, E.G P n ops Q l (E.upd fr d (.slice ao m m)) o0 w0 (A.X w0 o0 a0 (A.vec kd ao m (List.replicate m 0) :: its)) L) : E.G P n ops Q (⟨d, .makeSlice t x x, T, pos, af, gd⟩ :: l) fr o0 w0 (A.X w0 o0 a0 its) L := by
  refine E.G.any (I := Option Addr) (fun _ => True) (fun ao => .slice ao m m) (fun ao => A.X w0 o0 a0 (A.vec kd ao m (List.replicate m 0) :: its)) (fun _ => L) (fun w hh => ?_) hck (fun a _ => kk a)
  cases hie : P.info? e with
  | none => rw [hie] at hi; cases hi
  | some i =>
    rw [hie] at hi
    simp only [Option.map_some, Option.some.injEq, Prod.mk.injEq] at hi
    obtain ⟨h1, h2, h3⟩ := hi
    cases hz : i.zero with
    | none => rw [hz] at h3; cases h3
    | some z =>
      rw [hz] at h3
      simp only [Option.map_some, Option.some.injEq] at h3
      have hr := run_make (P := P) w t e i z ht hie hz lk lk ((m : Nat) : Int) ((m : Nat) : Int) (by omega) (Int.le_refl _) (by rw [h2, ← Int.natCast_mul]; omega) (by omega)
      simp only [Int.toNat_natCast, h1, Nat.mul_one] at hr
      have hcs : madeCells z.cells m = ((List.replicate m (0 : Int)).map (Value.int kd) ++ []).toArray := by
        refine Array.toList_inj.1 (List.ext_getElem? fun j => ?_)
        rw [List.toList_toArray, List.append_nil, h3]
        by_cases hj : j < m
        · simp only [madeCells, Array.toList_map, Array.toList_range, List.getElem?_map]
          rw [List.getElem?_range hj, List.getElem?_replicate, if_pos hj]
          have : j % (#[Value.int kd 0] : Array Value).size = 0 := Nat.mod_one j
          simp only [Option.map_some, this]; rfl
        · rw [List.getElem?_eq_none (by rw [Array.length_toList, size_madeCells]; omega), List.getElem?_eq_none (by rw [List.length_map, List.length_replicate]; omega)]
      refine ⟨some ⟨w.heap.size, 0, none⟩, w.alloc (.cells (madeCells z.cells m) e), trivial, ?_, ?_⟩
      · show (do let r ← Instr.makeSlice t (E.ev fr x) (E.ev fr x); pure (Next.value r) : Sem Next).run P w = _
        rw [hx]; simp only [Sem.run_bind, hr, Result.andThen_ok]; rfl
      · rw [hcs]
        by_cases h0 : 0 < m
        · exact A.X.add hh (Bel.alloc (Bel.refl w) _) _ (A.vec_new (rest := []) rfl rfl (by rw [List.append_nil, List.length_map, List.length_replicate]) h0) (fun x hx => Nat.le_of_eq hx.symm)
        · obtain rfl : m = 0 := by omega
          exact A.X.add hh (Bel.alloc (Bel.refl w) _) (A.vec kd (some ⟨w.heap.size, 0, none⟩) 0 []) (o1 := fun _ => False) (a1 := fun _ => False) ⟨Nat.le_refl _, .inl ⟨rfl, fun _ h => h, fun _ h => h⟩⟩ (fun _ h => h.elim)
end
end Go.Proofs.Ytdjjjikokfadiaa
