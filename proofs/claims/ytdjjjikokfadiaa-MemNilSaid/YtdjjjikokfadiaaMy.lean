/- Walks: Snapshot of mem, printed by wip/eng. No condition but what is named. -/
import Derived.Test.YtdjjjikokfadiaaProg
import Derived.Test.YtdjjjikokfadiaaMx
namespace Go.Proofs.Ytdjjjikokfadiaa
set_option linter.unusedVariables false
set_option linter.unusedSimpArgs false
open Go.RowKit
theorem M.Nxt.fd2 {w : World} {o q : M.Obj} {k : Nat} {s : M.Slot} (h : M.Nxt w o q) (hk : k < q.sl.length) (hf : M.Fd (q.at k) s) : M.Nxt w o (q.upd k s) := h.trans (M.Nxt.fd w hk hf) (Nat.le_refl _)
def M.shS (s : M.Slot) : M.Slot := ⟨s.d, s.c, false, false, s.cd, s.cc, s.r⟩
theorem M.fd_sh (s : M.Slot) : M.Fd s (M.shS s) := ⟨rfl, rfl, by simp [M.shS], by simp [M.shS], .inl rfl, .inl rfl, rfl⟩
theorem M.Sh.sh {o : M.Obj} {V : M.V} {k : Nat} (h : M.Sh o V) (hk : k < o.sl.length) : M.Sh (o.upd k (M.shS (o.at k))) V := by
  have key : ∀ j, ((o.upd k (M.shS (o.at k))).at j).d = (o.at j).d ∧ ((o.upd k (M.shS (o.at k))).at j).c = (o.at j).c ∧ ((o.upd k (M.shS (o.at k))).at j).cd = (o.at j).cd ∧ ((o.upd k (M.shS (o.at k))).at j).cc = (o.at j).cc ∧ ((o.upd k (M.shS (o.at k))).at j).r = (o.at j).r := fun j => by
    rw [M.upd_at hk]; by_cases e : j = k
    · subst e; rw [if_pos rfl]; exact ⟨rfl, rfl, rfl, rfl, rfl⟩
    · rw [if_neg e]; exact ⟨rfl, rfl, rfl, rfl, rfl⟩
  refine ⟨M.upd_len.trans h.n, h.coh, fun j hj x hx => ?_, fun j hj x hx => ?_, fun j hj x hx => ?_, fun j hj x hx => ?_, fun j hj => ?_⟩
  · rw [(key j).1]; exact h.d j hj x hx
  · unfold M.img; rw [(key j).1, (key j).2.1]; exact h.i j hj x hx
  · rw [(key j).2.2.1]; exact h.cd j hj x hx
  · rw [(key j).2.2.1, (key j).2.2.2.1]; exact h.ci j hj x hx
  · rw [(key j).2.2.2.2]; exact h.r j hj
/-- No page is owned: all are shared. -/
def M.shr (o : M.Obj) (c : Nat) : Prop := ∀ j, j < c → (o.at j).od = false ∧ (o.at j).oc = false
theorem M.shr_next {o : M.Obj} {k : Nat} (hk : k < o.sl.length) (h : M.shr o k) : M.shr (o.upd k (M.shS (o.at k))) (k + 1) := fun j hj => by
  rw [M.upd_at hk]; by_cases e : j = k
  · rw [if_pos e]; exact ⟨rfl, rfl⟩
  · rw [if_neg e]; exact h j (by omega)
/-- The copy: a header and page states of one's own, the pages shared. -/
def M.cpy (o : M.Obj) (m b c : Nat) (ao : Option Addr) : M.Obj := ⟨m, b, c, ao, o.sl, o.coh, o.C⟩
structure M.Cpy (w w' : World) (o o' o2 : M.Obj) (g : Nat) : Prop where
  m : o2.m = g
  new : w.heap.size ≤ g
  ow : ∀ x, M.ow o2 x → w.heap.size ≤ x
  al : ∀ x, M.all o2 x → w.heap.size ≤ x ∨ M.all o' x
  d1 : ∀ x, M.ow o' x → ¬ M.all o2 x
  d2 : ∀ x, x = g ∨ M.ow o2 x → ¬ M.all o' x
  dm : ¬ M.all o2 o'.m
  sh : ∀ V, M.Sh o V → M.Sh o2 V
theorem M.cpy_ok {S : Nat → Prop} {w0 w : World} {o q : M.Obj} {L : List (Nat × List Value)} {gm gb c : Nat} {rest : List Value} (ao : Option Addr) (h : E.Hp S w0 (fun w => M.St q w) ((gm, [.slice ao q.sl.length c, .bool q.coh]) :: L) w) (hn : M.Nxt w0 o q) (hs : M.shr q q.sl.length) (hV : ∀ V, M.Sh o V → M.Sh q V) (hf0 : w0.heap.size ≤ gm)
    (hL : 0 < q.sl.length → ao = some ⟨gb, 0, none⟩ ∧ (gb, M.cells q.sl ++ rest) ∈ L ∧ w0.heap.size ≤ gb) : M.St (M.cpy q gm gb c ao) w ∧ M.Cpy w0 w o q (M.cpy q gm gb c ao) gm := by
  have hq := h.x
  have am : ∀ {x}, M.all q x → x ≠ gm := fun hx => M.apart h (fun _ h => h) (k := 0) rfl hx
  have ab : 0 < q.sl.length → ∀ {x}, M.all q x → x ≠ gb := fun hp {x} hx => by
    obtain ⟨k, hk, e⟩ := List.getElem_of_mem (hL hp).2.1
    exact M.apart h (fun _ h => h) (k := k + 1) (g := gb) (cs := M.cells q.sl ++ rest) (by rw [List.getElem?_cons_succ, List.getElem?_eq_getElem hk, e]) hx
  have hmb : 0 < q.sl.length → gm ≠ gb := fun hp e => by
    have hd := h.nodup
    rw [List.map_cons, List.nodup_cons] at hd
    exact hd.1 (List.mem_map.2 ⟨_, (hL hp).2.1, e.symm⟩)
  have hpos : ∀ {p}, M.Pg q.sl p → 0 < q.sl.length := fun hp => by obtain ⟨i, hi, _⟩ := hp; omega
  have howb : ∀ x, M.ow (M.cpy q gm gb c ao) x → 0 < q.sl.length ∧ x = gb := fun x hx => by
    rcases hx with hx | ⟨i, hi, ho, _⟩ | ⟨i, hi, ho, _⟩
    · exact hx
    · have h1 := (hs i hi).1
      have ho : (q.at i).od = true := ho
      rw [h1] at ho; cases ho
    · have h1 := (hs i hi).2
      have ho : (q.at i).oc = true := ho
      rw [h1] at ho; cases ho
  have hal : ∀ x, M.all (M.cpy q gm gb c ao) x → x = gm ∨ (0 < q.sl.length ∧ x = gb) ∨ M.Pg q.sl x := fun x hx => hx
  refine ⟨⟨⟨h.cell 0 rfl rfl, h.cell 0 rfl rfl, fun hp => (hL hp).1, fun i v hv => ?_, fun p hp i hi => hq.at_.pg p hp i hi, hq.at_.lt⟩, ⟨hmb, fun p hp => ⟨am (.inr (.inr hp)), ab (hpos hp) (.inr (.inr hp))⟩, fun i j hi hj ho => ?_, fun i j p hi hj ho => ?_, hq.inv.co, hq.inv.by_, hq.inv.rb⟩, fun x hx i => ?_⟩, rfl, hf0, fun x hx => ?_, fun x hx => ?_, fun x hx hx2 => ?_, fun x hx hx2 => ?_, fun hx => ?_, fun V h => ?_⟩
  · have hp : 0 < q.sl.length := by
      cases hsl : q.sl with
      | nil => have hv : (M.cells q.sl)[i]? = some v := hv
               rw [hsl] at hv; simp [M.cells] at hv
      | cons => simp
    have hlt : i < (M.cells q.sl).length := (List.getElem?_eq_some_iff.1 hv).1
    exact h.mem _ (List.mem_cons_of_mem _ (hL hp).2.1) i v (by rw [List.getElem?_append_left hlt]; exact hv)
  · have h1 := (hs i hi).1
    have ho : (q.at i).od = true := ho
    rw [h1] at ho; cases ho
  · have h1 := (hs i hi).2
    have ho : (q.at i).oc = true := ho
    rw [h1] at ho; cases ho
  · rcases hal x hx with rfl | ⟨hp, rfl⟩ | hx
    · exact h.fz _ (List.mem_cons_self ..) i
    · exact h.fz _ (List.mem_cons_of_mem _ (hL hp).2.1) i
    · exact hq.fz x (.inr (.inr hx)) i
  · obtain ⟨hp, rfl⟩ := howb x hx
    exact (hL hp).2.2
  · rcases hal x hx with rfl | ⟨hp, rfl⟩ | hx
    · exact .inl hf0
    · exact .inl (hL hp).2.2
    · exact .inr (.inr (.inr hx))
  · rcases hal x hx2 with rfl | ⟨hp, rfl⟩ | hp
    · exact am (M.ow_all hx) rfl
    · exact ab hp (M.ow_all hx) rfl
    · rcases hx with ⟨hp0, rfl⟩ | ⟨i, hi, ho, _⟩ | ⟨i, hi, ho, _⟩
      · exact (hq.inv.pm _ hp).2 rfl
      · rw [(hs i hi).1] at ho; cases ho
      · rw [(hs i hi).2] at ho; cases ho
  · rcases hx with rfl | hx
    · exact am hx2 rfl
    · obtain ⟨hp, rfl⟩ := howb x hx
      exact ab hp hx2 rfl
  · rcases hal _ hx with e | ⟨hp, e⟩ | hp
    · exact am (.inl rfl) e
    · exact ab hp (.inl rfl) e
    · exact (hq.inv.pm _ hp).1 rfl
  · have := hV V h
    exact ⟨this.n, this.coh, this.d, this.i, this.cd, this.ci, this.r⟩
theorem Snapshot_any (o : M.Obj) (w : World) (hst : M.St o w) : Calls Try.prog 29 #[.pointer (some ⟨o.m, 0, none⟩)] w fun e w' => ∃ g o' o2, e = .returned (.pointer (some ⟨g, 0, none⟩)) ∧ M.St o' w' ∧ M.St o2 w' ∧ Ch (fun x => M.ow o x) w w' ∧ M.Nxt w o o' ∧ (∀ V, M.Sh o V → M.Sh o' V) ∧ M.Cpy w w' o o' o2 g := by
  let w_0 := w
  refine E.enter (n := 43) (S := fun x => 0 < o.sl.length ∧ x = o.b) Try.func29 rfl rfl (by kernel_rfl) (hst.hp (Ch.refl _ _)) ?_
  refine E.C.seq ?_
  refine E.C.region ?_
  refine E.G.op (.pointer none) (fun w => by kernel_rfl) (by kernel_rfl) ?_
  refine E.To.code ?_
  refine E.C.seq ?_
  refine E.C.seq ?_
  refine E.C.region ?_
  refine E.G.op (.pointer (some ⟨o.m, 0, none⟩)) (fun w => by kernel_rfl) (by kernel_rfl) ?_
  refine E.G.val (.bool false) (by kernel_rfl) (fun w h => E.run_as (a := .bool false) (by kernel_rfl) (rfl)) ?_
  refine E.To.code ?_
  refine E.C.condF (by kernel_rfl) (by kernel_rfl) ?_
  refine E.C.skip (E.To.code ?_)
  refine E.C.seq ?_
  refine E.C.seq ?_
  refine E.C.region ?_
  refine E.G.op (.pointer (some ⟨o.m, 0, none⟩)) (fun w => by kernel_rfl) (by kernel_rfl) ?_
  refine E.G.op (.pointer (some ⟨o.m, 0, none⟩)) (fun w => by kernel_rfl) (by kernel_rfl) ?_
  refine E.G.op (.pointer (some ⟨o.m, 0, none⟩)) (fun w => by kernel_rfl) (by kernel_rfl) ?_
  refine E.G.val (.slice o.ao o.sl.length o.cap) (by kernel_rfl) (fun w h => M.load1 (a := ⟨o.m, 0, none⟩) (by kernel_rfl) (M.one Try.underlying64 rfl) h.x.at_.c0) ?_
  refine E.G.op (.int .i64 ((o.sl.length : Nat) : Int)) (fun w => by kernel_rfl) (by kernel_rfl) ?_
  refine E.G.op (.int .i64 0) (fun w => by kernel_rfl) (by kernel_rfl) ?_
  refine E.To.code ?_
  refine E.C.block ?_
  refine E.C.loop (I := Nat × M.Obj) (fun i => o.sl.length - i.1) (fun i => i.1 ≤ o.sl.length ∧ M.Nxt w o i.2 ∧ (∀ V, M.Sh o V → M.Sh i.2 V) ∧ M.shr i.2 i.1 ∧ (0 < i.2.sl.length → i.2.ao = some ⟨i.2.b, 0, none⟩) ∧ i.2.b = o.b) (fun i => [(0, .pointer (some ⟨o.m, 0, none⟩)), (2, .pointer none), (12, .int .i64 ((o.sl.length : Nat) : Int)), (13, .int .i64 ((i.1 : Nat) : Int))]) (fun i => fun u => M.St i.2 u) (fun _ => []) (0, o) (⟨Nat.zero_le _, M.Nxt.refl _ _, fun _ h => h, fun _ h => absurd h (by omega), hst.at_.ha, rfl⟩) ⟨by kernel_rfl, by kernel_rfl⟩ (List.Sublist.refl _) (fun _ h => h) (fun i hk1 => ?_)
  refine E.C.seq ?_
  refine E.C.region ?_
  refine E.G.op (.bool (decide (((i.1 : Nat) : Int) < ((o.sl.length : Nat) : Int)))) (fun w => by kernel_rfl) (by kernel_rfl) ?_
  refine E.To.code ?_
  refine E.C.seq ?_
  refine E.C.cond (decide (((i.1 : Nat) : Int) < ((o.sl.length : Nat) : Int))) (by kernel_rfl) (by kernel_rfl) (fun hc1 => ?_) (fun hc1 => ?_)
  · skip
    refine E.C.skip (E.To.code ?_)
    refine E.C.seq ?_
    refine E.C.block ?_
    refine E.C.seq ?_
    refine E.C.region ?_
    refine E.G.op (.int .i64 ((i.1 : Nat) : Int)) (fun w => by kernel_rfl) (by kernel_rfl) ?_
    refine E.G.op (.int .i64 ((i.1 : Nat) : Int)) (fun w => by kernel_rfl) (by kernel_rfl) ?_
    refine E.To.code ?_
    have hl : i.1 < i.2.sl.length := by rw [hk1.2.1.n]; (first | assumption | ((try simp only [Bool.or_eq_false_iff, Bool.or_eq_true, Bool.and_eq_true, Bool.and_eq_false_iff, decide_eq_true_eq, decide_eq_false_iff_not, ge_iff_le, gt_iff_lt] at *); omega))
    have ha : 0 < i.2.sl.length → i.2.ao = some ⟨i.2.b, 0, none⟩ := hk1.2.2.2.2.1
    refine E.C.held (fun u => u.cell? ⟨o.m, 0, none⟩ = some (.slice i.2.ao i.2.sl.length i.2.cap) ∧ u.cell? ⟨o.m, 1, none⟩ = some (.bool i.2.coh)) (by kernel_rfl) ?_
    refine E.H.take 0 (.pointer (some ⟨o.m, 0, none⟩)) rfl (by kernel_rfl) (by kernel_rfl) (by kernel_rfl) (fun _ _ _ h => h) (fun w h => ⟨by rw [← hk1.2.1.m]; exact h.x.at_.c0, by rw [← hk1.2.1.m]; exact h.x.at_.c1⟩) (.inl ⟨by kernel_rfl, by kernel_rfl, fun w h => by kernel_rfl⟩) (by kernel_rfl) ?_
    refine E.H.take 1 (.pointer (some ⟨o.m, 0, none⟩)) rfl (by kernel_rfl) (by kernel_rfl) (by kernel_rfl) (fun _ _ _ h => h) (fun w h => ⟨by rw [← hk1.2.1.m]; exact h.x.at_.c0, by rw [← hk1.2.1.m]; exact h.x.at_.c1⟩) (.inl ⟨by kernel_rfl, by kernel_rfl, fun w h => by kernel_rfl⟩) (by kernel_rfl) ?_
    refine E.H.take 2 (.pointer (some ⟨o.m, 0, none⟩)) rfl (by kernel_rfl) (by kernel_rfl) (by kernel_rfl) (fun _ _ _ h => h) (fun w h => ⟨by rw [← hk1.2.1.m]; exact h.x.at_.c0, by rw [← hk1.2.1.m]; exact h.x.at_.c1⟩) (.inl ⟨by kernel_rfl, by kernel_rfl, fun w h => by kernel_rfl⟩) (by kernel_rfl) ?_
    refine E.H.take 3 (.slice i.2.ao i.2.sl.length i.2.cap) rfl (by kernel_rfl) (by kernel_rfl) (by kernel_rfl) (fun _ _ _ h => h) (fun w h => ⟨by rw [← hk1.2.1.m]; exact h.x.at_.c0, by rw [← hk1.2.1.m]; exact h.x.at_.c1⟩) (.inl ⟨by kernel_rfl, by kernel_rfl, fun w h => M.load1 (a := ⟨o.m, 0, none⟩) (by kernel_rfl) (M.one Try.underlying64 rfl) h.1⟩) (by kernel_rfl) ?_
    refine E.H.take 4 (.int .i64 ((i.1 : Nat) : Int)) rfl (by kernel_rfl) (by kernel_rfl) (by kernel_rfl) (fun _ _ _ h => h) (fun w h => ⟨by rw [← hk1.2.1.m]; exact h.x.at_.c0, by rw [← hk1.2.1.m]; exact h.x.at_.c1⟩) (.inl ⟨by kernel_rfl, by kernel_rfl, fun w h => by kernel_rfl⟩) (by kernel_rfl) ?_
    refine E.H.take 5 (.pointer (some ⟨o.m, 0, none⟩)) rfl (by kernel_rfl) (by kernel_rfl) (by kernel_rfl) (fun _ _ _ h => h) (fun w h => ⟨by rw [← hk1.2.1.m]; exact h.x.at_.c0, by rw [← hk1.2.1.m]; exact h.x.at_.c1⟩) (.inl ⟨by kernel_rfl, by kernel_rfl, fun w h => by kernel_rfl⟩) (by kernel_rfl) ?_
    refine E.H.take 6 (.pointer (some ⟨o.m, 0, none⟩)) rfl (by kernel_rfl) (by kernel_rfl) (by kernel_rfl) (fun _ _ _ h => h) (fun w h => ⟨by rw [← hk1.2.1.m]; exact h.x.at_.c0, by rw [← hk1.2.1.m]; exact h.x.at_.c1⟩) (.inl ⟨by kernel_rfl, by kernel_rfl, fun w h => by kernel_rfl⟩) (by kernel_rfl) ?_
    refine E.H.take 7 (.pointer (some ⟨o.m, 0, none⟩)) rfl (by kernel_rfl) (by kernel_rfl) (by kernel_rfl) (fun _ _ _ h => h) (fun w h => ⟨by rw [← hk1.2.1.m]; exact h.x.at_.c0, by rw [← hk1.2.1.m]; exact h.x.at_.c1⟩) (.inl ⟨by kernel_rfl, by kernel_rfl, fun w h => by kernel_rfl⟩) (by kernel_rfl) ?_
    refine E.H.take 8 (.slice i.2.ao i.2.sl.length i.2.cap) rfl (by kernel_rfl) (by kernel_rfl) (by kernel_rfl) (fun _ _ _ h => h) (fun w h => ⟨by rw [← hk1.2.1.m]; exact h.x.at_.c0, by rw [← hk1.2.1.m]; exact h.x.at_.c1⟩) (.inl ⟨by kernel_rfl, by kernel_rfl, fun w h => M.load1 (a := ⟨o.m, 0, none⟩) (by kernel_rfl) (M.one Try.underlying64 rfl) h.1⟩) (by kernel_rfl) ?_
    refine E.H.take 9 (.int .i64 ((i.1 : Nat) : Int)) rfl (by kernel_rfl) (by kernel_rfl) (by kernel_rfl) (fun _ _ _ h => h) (fun w h => ⟨by rw [← hk1.2.1.m]; exact h.x.at_.c0, by rw [← hk1.2.1.m]; exact h.x.at_.c1⟩) (.inl ⟨by kernel_rfl, by kernel_rfl, fun w h => by kernel_rfl⟩) (by kernel_rfl) ?_
    refine E.H.take 10 (.pointer (some ⟨i.2.b, (i.1) * 7, none⟩)) rfl (by kernel_rfl) (by kernel_rfl) (by kernel_rfl) (fun _ _ _ h => h) (fun w h => ⟨by rw [← hk1.2.1.m]; exact h.x.at_.c0, by rw [← hk1.2.1.m]; exact h.x.at_.c1⟩) (.inl ⟨by kernel_rfl, by kernel_rfl, fun w h => M.idxO (e := 74) (i := (i.1)) (k := .i64) (ao := i.2.ao) (b := i.2.b) (len := i.2.sl.length) (cap := i.2.cap) (esz := 7) (by kernel_rfl) (by kernel_rfl) (by kernel_rfl) (by kernel_rfl) hl ha w⟩) (by kernel_rfl) ?_
    refine E.H.take 11 (.pointer (some ⟨i.2.b, ((i.1) * 7) + 2, none⟩)) rfl (by kernel_rfl) (by kernel_rfl) (by kernel_rfl) (fun _ _ _ h => h) (fun w h => ⟨by rw [← hk1.2.1.m]; exact h.x.at_.c0, by rw [← hk1.2.1.m]; exact h.x.at_.c1⟩) (.inl ⟨by kernel_rfl, by kernel_rfl, fun w h => by kernel_rfl⟩) (by kernel_rfl) ?_
    refine E.H.all [12] (by kernel_rfl) (by simp) (List.forall_mem_cons.2 ⟨⟨_, rfl, ?_⟩, fun _ h => (List.not_mem_nil h).elim⟩)
    · skip
      refine M.G.sto (.bool false) (fun w => M.St (i.2.upd i.1 ⟨(i.2.at i.1).d, (i.2.at i.1).c, false, (i.2.at i.1).oc, (i.2.at i.1).cd, (i.2.at i.1).cc, (i.2.at i.1).r⟩) w) [] (by kernel_rfl) (by kernel_rfl) rfl rfl (by kernel_rfl) (fun w h => M.fd_sto (s := i.2.at i.1) (t := ⟨(i.2.at i.1).d, (i.2.at i.1).c, false, (i.2.at i.1).oc, (i.2.at i.1).cd, (i.2.at i.1).cc, (i.2.at i.1).r⟩) 2 hl (by rw [M.upd_self hl]; exact h) (fun hlt => ⟨by have := hk1.2.1.n; omega, hk1.2.2.2.2.2⟩) (by decide) rfl ⟨rfl, rfl, by simp, by simp, by simp, by simp, rfl⟩ (((i.1) * 7) + 2) (by omega)) (by kernel_rfl) ?_
      refine E.H.back (fun w h => ⟨by rw [← hk1.2.1.m]; have := h.x.at_.c0; rw [M.upd_len] at this; exact this, by rw [← hk1.2.1.m]; exact h.x.at_.c1⟩) ?_
      refine E.H.take 13 (.pointer (some ⟨i.2.b, (i.1) * 7, none⟩)) rfl (by kernel_rfl) (by kernel_rfl) (by kernel_rfl) (fun _ _ _ h => h) (fun w h => ⟨by rw [← hk1.2.1.m]; have := h.x.at_.c0; rw [M.upd_len] at this; exact this, by rw [← hk1.2.1.m]; exact h.x.at_.c1⟩) (.inl ⟨by kernel_rfl, by kernel_rfl, fun w h => M.idxO (e := 74) (i := (i.1)) (k := .i64) (ao := i.2.ao) (b := i.2.b) (len := i.2.sl.length) (cap := i.2.cap) (esz := 7) (by kernel_rfl) (by kernel_rfl) (by kernel_rfl) (by kernel_rfl) hl ha w⟩) (by kernel_rfl) ?_
      refine E.H.take 14 (.pointer (some ⟨i.2.b, ((i.1) * 7) + 3, none⟩)) rfl (by kernel_rfl) (by kernel_rfl) (by kernel_rfl) (fun _ _ _ h => h) (fun w h => ⟨by rw [← hk1.2.1.m]; have := h.x.at_.c0; rw [M.upd_len] at this; exact this, by rw [← hk1.2.1.m]; exact h.x.at_.c1⟩) (.inl ⟨by kernel_rfl, by kernel_rfl, fun w h => by kernel_rfl⟩) (by kernel_rfl) ?_
      refine E.H.all [15] (by kernel_rfl) (by simp) (List.forall_mem_cons.2 ⟨⟨_, rfl, ?_⟩, fun _ h => (List.not_mem_nil h).elim⟩)
      · skip
        refine M.G.sto (.bool false) (fun w => M.St (i.2.upd i.1 ⟨(i.2.at i.1).d, (i.2.at i.1).c, false, false, (i.2.at i.1).cd, (i.2.at i.1).cc, (i.2.at i.1).r⟩) w) [] (by kernel_rfl) (by kernel_rfl) rfl rfl (by kernel_rfl) (fun w h => M.fd_sto (s := ⟨(i.2.at i.1).d, (i.2.at i.1).c, false, (i.2.at i.1).oc, (i.2.at i.1).cd, (i.2.at i.1).cc, (i.2.at i.1).r⟩) (t := ⟨(i.2.at i.1).d, (i.2.at i.1).c, false, false, (i.2.at i.1).cd, (i.2.at i.1).cc, (i.2.at i.1).r⟩) 3 hl h (fun hlt => ⟨by have := hk1.2.1.n; omega, hk1.2.2.2.2.2⟩) (by decide) rfl ⟨rfl, rfl, by simp, by simp, by simp, by simp, rfl⟩ (((i.1) * 7) + 3) (by omega)) (by kernel_rfl) ?_
        refine E.H.back (fun w h => ⟨by rw [← hk1.2.1.m]; have := h.x.at_.c0; rw [M.upd_len] at this; exact this, by rw [← hk1.2.1.m]; exact h.x.at_.c1⟩) ?_
        refine E.H.done (by kernel_rfl) ?_
        refine E.P.nb (E.To.code ?_)
        refine E.C.region ?_
        refine E.G.val (.int .i64 ((i.1 + 1 : Nat) : Int)) (by kernel_rfl) (fun w h => E.run_as (a := .int .i64 (IntKind.wrap .i64 (((i.1 : Nat) : Int) + 1))) (by kernel_rfl) (congrArg (Value.int .i64) (M.inc64 (by have := hst.at_.lt; (first | assumption | ((try simp only [Bool.or_eq_false_iff, Bool.or_eq_true, Bool.and_eq_true, Bool.and_eq_false_iff, decide_eq_true_eq, decide_eq_false_iff_not, ge_iff_le, gt_iff_lt] at *); omega)))))) ?_
        refine E.G.op (.int .i64 ((i.1 + 1 : Nat) : Int)) (fun w => by kernel_rfl) (by kernel_rfl) ?_
        exact E.To.round (i.1 + 1, i.2.upd i.1 (M.shS (i.2.at i.1))) (by show o.sl.length - (i.1 + 1) < o.sl.length - i.1; (first | assumption | ((try simp only [Bool.or_eq_false_iff, Bool.or_eq_true, Bool.and_eq_true, Bool.and_eq_false_iff, decide_eq_true_eq, decide_eq_false_iff_not, ge_iff_le, gt_iff_lt] at *); omega))) (⟨by show i.1 + 1 ≤ o.sl.length; (first | assumption | ((try simp only [Bool.or_eq_false_iff, Bool.or_eq_true, Bool.and_eq_true, Bool.and_eq_false_iff, decide_eq_true_eq, decide_eq_false_iff_not, ge_iff_le, gt_iff_lt] at *); omega)), hk1.2.1.fd2 hl (M.fd_sh _), fun V hV => (hk1.2.2.1 V hV).sh hl, M.shr_next hl hk1.2.2.2.1, fun _ => ha (by omega), hk1.2.2.2.2.2⟩) ⟨by kernel_rfl, by kernel_rfl⟩ (List.Sublist.refl _) (fun _ h => h)
  · skip
    refine E.C.exit (E.P.et (E.P.et (E.P.eh (E.To.code ?_))))
    refine E.C.seq ?_
    have e : i.1 = i.2.sl.length := by rw [hk1.2.1.n]; (first | assumption | ((try simp only [Bool.or_eq_false_iff, Bool.or_eq_true, Bool.and_eq_true, Bool.and_eq_false_iff, decide_eq_true_eq, decide_eq_false_iff_not, ge_iff_le, gt_iff_lt] at *); omega))
    refine E.C.relist _ rfl ?_
    rcases Nat.eq_zero_or_pos i.2.sl.length with hz2 | hz2
    · skip
      refine E.C.held (fun u => u.cell? ⟨o.m, 0, none⟩ = some (.slice i.2.ao i.2.sl.length i.2.cap) ∧ u.cell? ⟨o.m, 1, none⟩ = some (.bool i.2.coh)) (by kernel_rfl) ?_
      refine E.H.take 1 (.pointer (some ⟨o.m, 0, none⟩)) rfl (by kernel_rfl) (by kernel_rfl) (by kernel_rfl) (fun _ _ _ h => h) (fun w h => ⟨by rw [← hk1.2.1.m]; exact h.x.at_.c0, by rw [← hk1.2.1.m]; exact h.x.at_.c1⟩) (.inl ⟨by kernel_rfl, by kernel_rfl, fun w h => by kernel_rfl⟩) (by kernel_rfl) ?_
      refine E.H.take 2 (.pointer (some ⟨o.m, 0, none⟩)) rfl (by kernel_rfl) (by kernel_rfl) (by kernel_rfl) (fun _ _ _ h => h) (fun w h => ⟨by rw [← hk1.2.1.m]; exact h.x.at_.c0, by rw [← hk1.2.1.m]; exact h.x.at_.c1⟩) (.inl ⟨by kernel_rfl, by kernel_rfl, fun w h => by kernel_rfl⟩) (by kernel_rfl) ?_
      refine E.H.take 3 (.pointer (some ⟨o.m, 0, none⟩)) rfl (by kernel_rfl) (by kernel_rfl) (by kernel_rfl) (fun _ _ _ h => h) (fun w h => ⟨by rw [← hk1.2.1.m]; exact h.x.at_.c0, by rw [← hk1.2.1.m]; exact h.x.at_.c1⟩) (.inl ⟨by kernel_rfl, by kernel_rfl, fun w h => by kernel_rfl⟩) (by kernel_rfl) ?_
      refine E.H.take 4 (.slice i.2.ao i.2.sl.length i.2.cap) rfl (by kernel_rfl) (by kernel_rfl) (by kernel_rfl) (fun _ _ _ h => h) (fun w h => ⟨by rw [← hk1.2.1.m]; exact h.x.at_.c0, by rw [← hk1.2.1.m]; exact h.x.at_.c1⟩) (.inl ⟨by kernel_rfl, by kernel_rfl, fun w h => M.load1 (a := ⟨o.m, 0, none⟩) (by kernel_rfl) (M.one Try.underlying64 rfl) h.1⟩) (by kernel_rfl) ?_
      refine E.H.take 6 (.pointer (some ⟨o.m, 0, none⟩)) rfl (by kernel_rfl) (by kernel_rfl) (by kernel_rfl) (fun _ _ _ h => h) (fun w h => ⟨by rw [← hk1.2.1.m]; exact h.x.at_.c0, by rw [← hk1.2.1.m]; exact h.x.at_.c1⟩) (.inl ⟨by kernel_rfl, by kernel_rfl, fun w h => by kernel_rfl⟩) (by kernel_rfl) ?_
      refine E.H.take 7 (.pointer (some ⟨o.m, 0, none⟩)) rfl (by kernel_rfl) (by kernel_rfl) (by kernel_rfl) (fun _ _ _ h => h) (fun w h => ⟨by rw [← hk1.2.1.m]; exact h.x.at_.c0, by rw [← hk1.2.1.m]; exact h.x.at_.c1⟩) (.inl ⟨by kernel_rfl, by kernel_rfl, fun w h => by kernel_rfl⟩) (by kernel_rfl) ?_
      refine E.H.take 8 (.pointer (some ⟨o.m, 1, none⟩)) rfl (by kernel_rfl) (by kernel_rfl) (by kernel_rfl) (fun _ _ _ h => h) (fun w h => ⟨by rw [← hk1.2.1.m]; exact h.x.at_.c0, by rw [← hk1.2.1.m]; exact h.x.at_.c1⟩) (.inl ⟨by kernel_rfl, by kernel_rfl, fun w h => by kernel_rfl⟩) (by kernel_rfl) ?_
      refine E.H.take 9 (.bool i.2.coh) rfl (by kernel_rfl) (by kernel_rfl) (by kernel_rfl) (fun _ _ _ h => h) (fun w h => ⟨by rw [← hk1.2.1.m]; exact h.x.at_.c0, by rw [← hk1.2.1.m]; exact h.x.at_.c1⟩) (.inl ⟨by kernel_rfl, by kernel_rfl, fun w h => M.load1 (a := ⟨o.m, 1, none⟩) (by kernel_rfl) (M.one Try.underlying4 rfl) h.2⟩) (by kernel_rfl) ?_
      refine E.H.all [0] (by kernel_rfl) (by simp) (List.forall_mem_cons.2 ⟨⟨_, rfl, ?_⟩, fun _ h => (List.not_mem_nil h).elim⟩)
      · skip
        refine M.G.empty (e := 74) (sz := 7) (by kernel_rfl) (by kernel_rfl) (by kernel_rfl) (fun g3 => ?_)
        refine E.H.back (fun w h => ⟨by rw [← hk1.2.1.m]; exact h.x.at_.c0, by rw [← hk1.2.1.m]; exact h.x.at_.c1⟩) ?_
        refine E.H.all [5] (by kernel_rfl) (by simp) (List.forall_mem_cons.2 ⟨⟨_, rfl, ?_⟩, fun _ h => (List.not_mem_nil h).elim⟩)
        · skip
          refine M.G.append0 (e := 74) ⟨g3, 0, none⟩ i.2.ao i.2.cap 7 (by kernel_rfl) (by kernel_rfl) (by kernel_rfl) (by rw [← hz2]; kernel_rfl) (by kernel_rfl) ?_
          refine E.H.back (fun w h => ⟨by rw [← hk1.2.1.m]; exact h.x.at_.c0, by rw [← hk1.2.1.m]; exact h.x.at_.c1⟩) ?_
          refine E.H.take 10 (.agg #[.slice (some ⟨g3, 0, none⟩) 0 0, .bool i.2.coh]) rfl (by kernel_rfl) (by kernel_rfl) (by kernel_rfl) (fun _ _ _ h => h) (fun w h => ⟨by rw [← hk1.2.1.m]; exact h.x.at_.c0, by rw [← hk1.2.1.m]; exact h.x.at_.c1⟩) (.inl ⟨by kernel_rfl, by kernel_rfl, fun w h => E.run_build #[.slice (some ⟨g3, 0, none⟩) 0 0, .bool i.2.coh] (by kernel_rfl) w⟩) (by kernel_rfl) ?_
          refine E.H.all [11] (by kernel_rfl) (by simp) (List.forall_mem_cons.2 ⟨⟨_, rfl, ?_⟩, fun _ h => (List.not_mem_nil h).elim⟩)
          · skip
            refine E.G.new (fun g => .pointer (some ⟨g, 0, none⟩)) [.slice (some ⟨g3, 0, none⟩) 0 0, .bool i.2.coh] 66 (fun w => by kernel_rfl) (by kernel_rfl) (fun g4 => ?_)
            refine E.H.back (fun w h => ⟨by rw [← hk1.2.1.m]; exact h.x.at_.c0, by rw [← hk1.2.1.m]; exact h.x.at_.c1⟩) ?_
            refine E.H.take 12 (.pointer (some ⟨g4, 0, none⟩)) rfl (by kernel_rfl) (by kernel_rfl) (by kernel_rfl) (fun _ _ _ h => h) (fun w h => ⟨by rw [← hk1.2.1.m]; exact h.x.at_.c0, by rw [← hk1.2.1.m]; exact h.x.at_.c1⟩) (.inl ⟨by kernel_rfl, by kernel_rfl, fun w h => by kernel_rfl⟩) (by kernel_rfl) ?_
            refine E.H.done (by kernel_rfl) ?_
            refine E.To.code ?_
            refine E.C.weak [(2, .pointer (some ⟨g4, 0, none⟩))] [(g4, [.slice (some ⟨g3, 0, none⟩) 0 0, .bool i.2.coh])] ⟨by kernel_rfl, by kernel_rfl⟩ (List.Sublist.refl _) ?_
            refine E.C.ret (E.To.body (fn := Try.f29) [.pointer (some ⟨g4, 0, none⟩)] ?_ ?_)
            · exact ⟨⟨by kernel_rfl, by kernel_rfl⟩, trivial⟩
            · intro w h
              have nb : ∀ (g : Nat) (cs : List Value), (g, cs) ∈ ([(g4, [.slice (some ⟨g3, 0, none⟩) 0 0, .bool i.2.coh])] : List (Nat × List Value)) → w_0.heap.size ≤ g := fun g cs hm => Nat.le_of_not_lt fun hlt => by
                obtain ⟨hp, e1⟩ := h.own (g, cs) hm hlt
                obtain ⟨k, hk, e2⟩ := List.getElem_of_mem hm
                exact M.apart h (fun _ h => h) (k := k) (g := g) (cs := cs) (by rw [List.getElem?_eq_getElem hk, e2]) (M.all_b (by rw [hk1.2.1.n]; exact hp)) (hk1.2.2.2.2.2.trans e1.symm)
              have hc := M.cpy_ok (gm := g4) (gb := g3) (c := 0) (rest := []) (some ⟨g3, 0, none⟩) (by rw [hz2]; exact h) hk1.2.1 (by rw [← e]; exact hk1.2.2.2.1) hk1.2.2.1 (nb _ _ (List.mem_cons_self ..)) (fun hp => absurd hp (by omega))
              exact ⟨g4, i.2, _, rfl, h.x, hc.1, h.ch.mono (fun x _ hx => .inl hx), hk1.2.1, hk1.2.2.1, hc.2⟩
    · skip
      refine E.C.held (fun u => u.cell? ⟨o.m, 0, none⟩ = some (.slice i.2.ao i.2.sl.length i.2.cap) ∧ u.cell? ⟨o.m, 1, none⟩ = some (.bool i.2.coh)) (by kernel_rfl) ?_
      refine E.H.take 1 (.pointer (some ⟨o.m, 0, none⟩)) rfl (by kernel_rfl) (by kernel_rfl) (by kernel_rfl) (fun _ _ _ h => h) (fun w h => ⟨by rw [← hk1.2.1.m]; exact h.x.at_.c0, by rw [← hk1.2.1.m]; exact h.x.at_.c1⟩) (.inl ⟨by kernel_rfl, by kernel_rfl, fun w h => by kernel_rfl⟩) (by kernel_rfl) ?_
      refine E.H.take 2 (.pointer (some ⟨o.m, 0, none⟩)) rfl (by kernel_rfl) (by kernel_rfl) (by kernel_rfl) (fun _ _ _ h => h) (fun w h => ⟨by rw [← hk1.2.1.m]; exact h.x.at_.c0, by rw [← hk1.2.1.m]; exact h.x.at_.c1⟩) (.inl ⟨by kernel_rfl, by kernel_rfl, fun w h => by kernel_rfl⟩) (by kernel_rfl) ?_
      refine E.H.take 3 (.pointer (some ⟨o.m, 0, none⟩)) rfl (by kernel_rfl) (by kernel_rfl) (by kernel_rfl) (fun _ _ _ h => h) (fun w h => ⟨by rw [← hk1.2.1.m]; exact h.x.at_.c0, by rw [← hk1.2.1.m]; exact h.x.at_.c1⟩) (.inl ⟨by kernel_rfl, by kernel_rfl, fun w h => by kernel_rfl⟩) (by kernel_rfl) ?_
      refine E.H.take 4 (.slice i.2.ao i.2.sl.length i.2.cap) rfl (by kernel_rfl) (by kernel_rfl) (by kernel_rfl) (fun _ _ _ h => h) (fun w h => ⟨by rw [← hk1.2.1.m]; exact h.x.at_.c0, by rw [← hk1.2.1.m]; exact h.x.at_.c1⟩) (.inl ⟨by kernel_rfl, by kernel_rfl, fun w h => M.load1 (a := ⟨o.m, 0, none⟩) (by kernel_rfl) (M.one Try.underlying64 rfl) h.1⟩) (by kernel_rfl) ?_
      refine E.H.take 6 (.pointer (some ⟨o.m, 0, none⟩)) rfl (by kernel_rfl) (by kernel_rfl) (by kernel_rfl) (fun _ _ _ h => h) (fun w h => ⟨by rw [← hk1.2.1.m]; exact h.x.at_.c0, by rw [← hk1.2.1.m]; exact h.x.at_.c1⟩) (.inl ⟨by kernel_rfl, by kernel_rfl, fun w h => by kernel_rfl⟩) (by kernel_rfl) ?_
      refine E.H.take 7 (.pointer (some ⟨o.m, 0, none⟩)) rfl (by kernel_rfl) (by kernel_rfl) (by kernel_rfl) (fun _ _ _ h => h) (fun w h => ⟨by rw [← hk1.2.1.m]; exact h.x.at_.c0, by rw [← hk1.2.1.m]; exact h.x.at_.c1⟩) (.inl ⟨by kernel_rfl, by kernel_rfl, fun w h => by kernel_rfl⟩) (by kernel_rfl) ?_
      refine E.H.take 8 (.pointer (some ⟨o.m, 1, none⟩)) rfl (by kernel_rfl) (by kernel_rfl) (by kernel_rfl) (fun _ _ _ h => h) (fun w h => ⟨by rw [← hk1.2.1.m]; exact h.x.at_.c0, by rw [← hk1.2.1.m]; exact h.x.at_.c1⟩) (.inl ⟨by kernel_rfl, by kernel_rfl, fun w h => by kernel_rfl⟩) (by kernel_rfl) ?_
      refine E.H.take 9 (.bool i.2.coh) rfl (by kernel_rfl) (by kernel_rfl) (by kernel_rfl) (fun _ _ _ h => h) (fun w h => ⟨by rw [← hk1.2.1.m]; exact h.x.at_.c0, by rw [← hk1.2.1.m]; exact h.x.at_.c1⟩) (.inl ⟨by kernel_rfl, by kernel_rfl, fun w h => M.load1 (a := ⟨o.m, 1, none⟩) (by kernel_rfl) (M.one Try.underlying4 rfl) h.2⟩) (by kernel_rfl) ?_
      refine E.H.all [0] (by kernel_rfl) (by simp) (List.forall_mem_cons.2 ⟨⟨_, rfl, ?_⟩, fun _ h => (List.not_mem_nil h).elim⟩)
      · skip
        refine M.G.empty (e := 74) (sz := 7) (by kernel_rfl) (by kernel_rfl) (by kernel_rfl) (fun g5 => ?_)
        refine E.H.back (fun w h => ⟨by rw [← hk1.2.1.m]; exact h.x.at_.c0, by rw [← hk1.2.1.m]; exact h.x.at_.c1⟩) ?_
        refine E.H.all [5] (by kernel_rfl) (by simp) (List.forall_mem_cons.2 ⟨⟨_, rfl, ?_⟩, fun _ h => (List.not_mem_nil h).elim⟩)
        · skip
          refine M.G.appendE (e := 74) ⟨g5, 0, none⟩ ⟨i.2.b, 0, none⟩ i.2.sl.length i.2.cap 7 48 (M.cells i.2.sl) (by kernel_rfl) (by kernel_rfl) (by kernel_rfl) (by rw [← hk1.2.2.2.2.1 hz2]; kernel_rfl) ((M.cells_len _).trans (by omega)) hz2 (fun w h j v hv => by rw [E.add_off, Nat.zero_add]; exact h.x.at_.cs j v hv) (by have := hst.at_.lt; rw [hk1.2.1.n]; omega) (by have := hst.at_.lt; rw [hk1.2.1.n]; omega) (by kernel_rfl) (fun g6 c7 r8 hc hr => ?_)
          refine E.H.back (fun w h => ⟨by rw [← hk1.2.1.m]; exact h.x.at_.c0, by rw [← hk1.2.1.m]; exact h.x.at_.c1⟩) ?_
          refine E.H.take 10 (.agg #[.slice (some ⟨g6, 0, none⟩) i.2.sl.length c7, .bool i.2.coh]) rfl (by kernel_rfl) (by kernel_rfl) (by kernel_rfl) (fun _ _ _ h => h) (fun w h => ⟨by rw [← hk1.2.1.m]; exact h.x.at_.c0, by rw [← hk1.2.1.m]; exact h.x.at_.c1⟩) (.inl ⟨by kernel_rfl, by kernel_rfl, fun w h => E.run_build #[.slice (some ⟨g6, 0, none⟩) i.2.sl.length c7, .bool i.2.coh] (by kernel_rfl) w⟩) (by kernel_rfl) ?_
          refine E.H.all [11] (by kernel_rfl) (by simp) (List.forall_mem_cons.2 ⟨⟨_, rfl, ?_⟩, fun _ h => (List.not_mem_nil h).elim⟩)
          · skip
            refine E.G.new (fun g => .pointer (some ⟨g, 0, none⟩)) [.slice (some ⟨g6, 0, none⟩) i.2.sl.length c7, .bool i.2.coh] 66 (fun w => by kernel_rfl) (by kernel_rfl) (fun g9 => ?_)
            refine E.H.back (fun w h => ⟨by rw [← hk1.2.1.m]; exact h.x.at_.c0, by rw [← hk1.2.1.m]; exact h.x.at_.c1⟩) ?_
            refine E.H.take 12 (.pointer (some ⟨g9, 0, none⟩)) rfl (by kernel_rfl) (by kernel_rfl) (by kernel_rfl) (fun _ _ _ h => h) (fun w h => ⟨by rw [← hk1.2.1.m]; exact h.x.at_.c0, by rw [← hk1.2.1.m]; exact h.x.at_.c1⟩) (.inl ⟨by kernel_rfl, by kernel_rfl, fun w h => by kernel_rfl⟩) (by kernel_rfl) ?_
            refine E.H.done (by kernel_rfl) ?_
            refine E.To.code ?_
            refine E.C.weak [(2, .pointer (some ⟨g9, 0, none⟩))] [(g9, [.slice (some ⟨g6, 0, none⟩) i.2.sl.length c7, .bool i.2.coh]), (g6, (M.cells i.2.sl ++ r8))] ⟨by kernel_rfl, by kernel_rfl⟩ (List.Sublist.refl _) ?_
            refine E.C.ret (E.To.body (fn := Try.f29) [.pointer (some ⟨g9, 0, none⟩)] ?_ ?_)
            · exact ⟨⟨by kernel_rfl, by kernel_rfl⟩, trivial⟩
            · intro w h
              have nb : ∀ (g : Nat) (cs : List Value), (g, cs) ∈ ([(g9, [.slice (some ⟨g6, 0, none⟩) i.2.sl.length c7, .bool i.2.coh]), (g6, (M.cells i.2.sl ++ r8))] : List (Nat × List Value)) → w_0.heap.size ≤ g := fun g cs hm => Nat.le_of_not_lt fun hlt => by
                obtain ⟨hp, e1⟩ := h.own (g, cs) hm hlt
                obtain ⟨k, hk, e2⟩ := List.getElem_of_mem hm
                exact M.apart h (fun _ h => h) (k := k) (g := g) (cs := cs) (by rw [List.getElem?_eq_getElem hk, e2]) (M.all_b (by rw [hk1.2.1.n]; exact hp)) (hk1.2.2.2.2.2.trans e1.symm)
              have hc := M.cpy_ok (gm := g9) (gb := g6) (c := c7) (rest := r8) (some ⟨g6, 0, none⟩) (h) hk1.2.1 (by rw [← e]; exact hk1.2.2.2.1) hk1.2.2.1 (nb _ _ (List.mem_cons_self ..)) (fun _ => ⟨rfl, List.mem_cons_self .., nb _ _ (List.mem_cons_of_mem _ (List.mem_cons_self ..))⟩)
              exact ⟨g9, i.2, _, rfl, h.x, hc.1, h.ch.mono (fun x _ hx => .inl hx), hk1.2.1, hk1.2.2.1, hc.2⟩
end Go.Proofs.Ytdjjjikokfadiaa
