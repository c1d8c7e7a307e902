/- Walks: Sync of mem, printed by wip/eng. No condition but what is named. -/
import Derived.Test.YtdjjjikokfadiaaProg
import Derived.Test.YtdjjjikokfadiaaMn
namespace Go.Proofs.Ytdjjjikokfadiaa
set_option linter.unusedVariables false
set_option linter.unusedSimpArgs false
open Go.RowKit
def M.V.sync (V : M.V) (k : Nat) : M.V := if k < V.n ∧ V.coh = false then { V with i := fun j x => if j = k then V.d j x else V.i j x } else V
theorem M.Sh.sync {o : M.Obj} {V : M.V} {k g : Nat} (h : M.Sh o V) (hk : k < o.sl.length) (hcoh : o.coh = false) (hpg : ∀ p, M.Pg o.sl p → p ≠ g) : M.Sh (M.code2 o k g (o.at k).d) (V.sync k) := by
  have hC : ∀ p, M.Pg o.sl p → (M.code2 o k g (o.at k).d).C p = o.C p := fun p hp => if_neg (hpg p hp)
  have hg : (M.code2 o k g (o.at k).d).C g = o.C (o.at k).d := if_pos rfl
  have hn : ∀ j, j < V.n → j < o.sl.length := fun j hj => h.n ▸ hj
  have hc := M.code2_cod (g := g) (src := (o.at k).d) hk
  unfold M.V.sync
  rw [if_pos ⟨by rw [← h.n]; exact hk, by rw [← h.coh]; exact hcoh⟩]
  refine ⟨hc.n.trans h.n, h.coh, fun j hj x hx => ?_, fun j hj x hx => ?_, fun j hj x hx => ?_, fun j hj x hx => ?_, fun j hj => ?_⟩
  · rw [hc.d, hC _ (M.pg_d (hn j hj))]; exact h.d j hj x hx
  · show _ = if j = k then V.d j x else V.i j x
    by_cases e : j = k
    · subst e; rw [if_pos rfl]; unfold M.img; rw [hc.ck]
      show (M.code2 o j g (o.at j).d).C g x = _
      rw [hg]; exact h.d j hj x hx
    · rw [if_neg e]
      have hi := h.i j hj x hx
      unfold M.img at hi ⊢
      rw [(hc.c j e).1, hc.d]
      cases hq : (o.at j).c with
      | none => rw [hq] at hi; show (M.code2 o k g (o.at k).d).C (o.at j).d x = _; rw [hC _ (M.pg_d (hn j hj))]; exact hi
      | some p => rw [hq] at hi; show (M.code2 o k g (o.at k).d).C p x = _; rw [hC _ (M.pg_c (hn j hj) hq)]; exact hi
  · rw [hc.cd, hC _ (M.pg_cd (hn j hj))]; exact h.cd j hj x hx
  · rw [hc.cc, hc.cd, hC _ (M.pg_ci (hn j hj))]; exact h.ci j hj x hx
  · rw [hc.r]; exact h.r j hj
theorem M.Sh.sync_no {o : M.Obj} {V : M.V} {k : Nat} (h : M.Sh o V) (hn : ¬ (k < o.sl.length ∧ o.coh = false)) : M.Sh o (V.sync k) := by
  unfold M.V.sync
  rw [if_neg (by rw [← h.n, ← h.coh]; exact hn)]; exact h
theorem M.Nxt.code2 {o : M.Obj} {w : World} {k g src : Nat} (hk : k < o.sl.length) (hg : g < w.heap.size → M.ow o g) : M.Nxt w o (M.code2 o k g src) := by
  refine ⟨rfl, M.code2_len, rfl, fun x hx h => ?_, fun x hx h => ?_⟩
  · rcases h with ⟨hn, h⟩ | ⟨i, hi, ho, h⟩ | ⟨i, hi, ho, h⟩
    · exact .inl ⟨by omega, h⟩
    · rw [M.code2_len] at hi
      rw [M.code2_at hk] at ho h
      by_cases e : i = k
      · subst e; rw [if_pos rfl] at ho h; exact .inr (.inl ⟨i, hi, ho, h⟩)
      · rw [if_neg e] at ho h; exact .inr (.inl ⟨i, hi, ho, h⟩)
    · rw [M.code2_len] at hi
      rw [M.code2_at hk] at ho h
      by_cases e : i = k
      · subst e; rw [if_pos rfl] at h; obtain rfl := Option.some.inj h; exact hg hx
      · rw [if_neg e] at ho h; exact .inr (.inr ⟨i, hi, ho, h⟩)
  · rcases h with h | ⟨hn, h⟩ | h
    · exact .inl h
    · exact .inr (.inl ⟨by omega, h⟩)
    · rcases M.code1_pg hk (M.code2_pg hk h) with rfl | h
      · exact M.ow_all (hg hx)
      · exact .inr (.inr h)
theorem M.ptr_ne {fr : E.Fr} {d : Option Nat} {T u : TypeId} {pos : String} {af : Array Edge} {gd : Option (Nat × Bool)} {x y : Operand} {p : Option Nat} {w : World} (hx : E.ev fr x = M.ptr p) (hy : E.ev fr y = .pointer none) :
    (execOp (E.ev fr) ⟨d, .binOp .neq 70 x y u, T, pos, af, gd⟩).run Try.prog w = .ok (.value (.bool (!p.isNone))) w := by
  show (do let r ← (do eqGuard .neq 70 x y (E.ev fr x) (E.ev fr y); binOp .neq 70 (E.ev fr x) (E.ev fr y)); pure (Next.value r) : Sem Next).run Try.prog w = _
  rw [hx, hy]
  cases p with
  | none => kernel_rfl
  | some b => kernel_rfl
theorem Sync_any (o : M.Obj) (a : Nat) (ha : a < 4294967296) (w : World) (hst : M.St o w) : Calls Try.prog 33 #[.pointer (some ⟨o.m, 0, none⟩), .int .u32 ((a : Nat) : Int)] w fun e w' => e = .returned (.bool (!o.out (a / 256))) ∧ ∃ o', M.St o' w' ∧ Ch (fun x => M.ow o x) w w' ∧ M.Nxt w o o' ∧ ∀ V, M.Sh o V → M.Sh o' (V.sync (a / 256)) := by
  refine E.enter (n := 29) (S := fun x => M.ow o x) Try.func33 rfl rfl (by kernel_rfl) (hst.hp (Ch.refl _ _)) ?_
  refine E.C.seq ?_
  refine E.C.region ?_
  refine E.G.op (.bool false) (fun w => by kernel_rfl) (by kernel_rfl) ?_
  refine E.To.code ?_
  refine E.C.seq ?_
  refine E.C.region ?_
  refine E.G.op (.pointer (some ⟨o.m, 0, none⟩)) (fun w => by kernel_rfl) (by kernel_rfl) ?_
  refine E.G.op (.int .u32 ((a : Nat) : Int)) (fun w => by kernel_rfl) (by kernel_rfl) ?_
  refine E.fork (o.out (a / 256)) (fun hc1 => ?_) (fun hc1 => ?_)
  · skip
    refine E.G.call (.pointer none) (fun w h => at_out o a (by omega) (M.out_of hc1) w h.x.at_) (fun w _ => by kernel_rfl) (by kernel_rfl) ?_
    refine E.G.op (.pointer none) (fun w => by kernel_rfl) (by kernel_rfl) ?_
    refine E.To.code ?_
    refine E.C.seq ?_
    refine E.C.seq ?_
    refine E.C.region ?_
    refine E.G.op (.pointer none) (fun w => by kernel_rfl) (by kernel_rfl) ?_
    refine E.G.op (.bool true) (fun w => by kernel_rfl) (by kernel_rfl) ?_
    refine E.To.code ?_
    refine E.C.condT (by kernel_rfl) (by kernel_rfl) ?_
    refine E.C.seq ?_
    refine E.C.region ?_
    refine E.G.op (.bool false) (fun w => by kernel_rfl) (by kernel_rfl) ?_
    refine E.To.code ?_
    refine E.C.ret (E.P.rt (E.To.body (fn := Try.f33) [.bool false] ?_ ?_))
    · exact ⟨⟨by kernel_rfl, by kernel_rfl⟩, trivial⟩
    · intro w h
      exact ⟨by rw [hc1]; rfl, o, h.x, h.ch, M.Nxt.refl _ _, fun V hV => hV.sync_no (fun k => absurd (M.out_of hc1) (by omega))⟩
  · skip
    have hi2 : (a / 256) < o.sl.length := M.in_of hc1
    refine E.G.call (.pointer (some ⟨o.b, (a / 256) * 7, none⟩)) (fun w h => at_in o a (by omega) hi2 w h.x.at_) (fun w _ => by kernel_rfl) (by kernel_rfl) ?_
    refine E.G.op (.pointer (some ⟨o.b, (a / 256) * 7, none⟩)) (fun w => by kernel_rfl) (by kernel_rfl) ?_
    refine E.To.code ?_
    refine E.C.seq ?_
    refine E.C.seq ?_
    refine E.C.region ?_
    refine E.G.op (.pointer (some ⟨o.b, (a / 256) * 7, none⟩)) (fun w => by kernel_rfl) (by kernel_rfl) ?_
    refine E.G.op (.bool false) (fun w => by kernel_rfl) (by kernel_rfl) ?_
    refine E.To.code ?_
    refine E.C.condF (by kernel_rfl) (by kernel_rfl) ?_
    refine E.C.skip (E.To.code ?_)
    refine E.C.seq ?_
    refine E.C.seq ?_
    refine E.C.region ?_
    refine E.G.op (.pointer (some ⟨o.b, (a / 256) * 7, none⟩)) (fun w => by kernel_rfl) (by kernel_rfl) ?_
    refine E.G.op (.pointer (some ⟨o.b, (a / 256) * 7, none⟩)) (fun w => by kernel_rfl) (by kernel_rfl) ?_
    refine E.G.op (.pointer (some ⟨o.b, ((a / 256) * 7) + 1, none⟩)) (fun w => by kernel_rfl) (by kernel_rfl) ?_
    refine E.G.val (M.ptr (o.at (a / 256)).c) (by kernel_rfl) (fun w h => M.load1 (by kernel_rfl) (M.one Try.underlying70 rfl) (h.x.at_.fld (i := (a / 256)) (k := 1) (by (first | assumption | ((try simp only [Bool.or_eq_false_iff, Bool.or_eq_true, Bool.and_eq_true, Bool.and_eq_false_iff, decide_eq_true_eq, decide_eq_false_iff_not, ge_iff_le, gt_iff_lt] at *); omega))) rfl (by decide) _ rfl)) ?_
    refine E.G.val (.bool (!(o.at (a / 256)).c.isNone)) (by kernel_rfl) (fun w h => M.ptr_ne (by kernel_rfl) (by kernel_rfl)) ?_
    refine E.To.code ?_
    refine E.C.weak [(4, .bool false), (5, .pointer (some ⟨o.b, (a / 256) * 7, none⟩)), (16, .bool (!(o.at (a / 256)).c.isNone))] [] ⟨by kernel_rfl, by kernel_rfl⟩ (List.Sublist.refl _) ?_
    refine E.C.cond (!(o.at (a / 256)).c.isNone) (by kernel_rfl) (by kernel_rfl) (fun hc3 => ?_) (fun hc3 => ?_)
    · skip
      refine E.C.seq ?_
      refine E.C.region ?_
      refine E.G.op (.pointer (some ⟨o.b, (a / 256) * 7, none⟩)) (fun w => by kernel_rfl) (by kernel_rfl) ?_
      refine E.G.op (.pointer (some ⟨o.b, (a / 256) * 7, none⟩)) (fun w => by kernel_rfl) (by kernel_rfl) ?_
      refine E.G.op (.pointer (some ⟨o.b, (a / 256) * 7, none⟩)) (fun w => by kernel_rfl) (by kernel_rfl) ?_
      refine E.G.val (.pointer (some ⟨(o.at (a / 256)).d, 0, none⟩)) (by kernel_rfl) (fun w h => M.load1 (by kernel_rfl) (M.one Try.underlying70 rfl) (h.x.at_.fld (i := (a / 256)) (k := 0) (by (first | assumption | ((try simp only [Bool.or_eq_false_iff, Bool.or_eq_true, Bool.and_eq_true, Bool.and_eq_false_iff, decide_eq_true_eq, decide_eq_false_iff_not, ge_iff_le, gt_iff_lt] at *); omega))) rfl (by decide) _ rfl)) ?_
      refine E.G.op (.pointer (some ⟨(o.at (a / 256)).d, 0, none⟩)) (fun w => by kernel_rfl) (by kernel_rfl) ?_
      refine E.G.val (.agg (M.pgv (o.C (o.at (a / 256)).d)).toArray) (by kernel_rfl) (fun w h => M.loadPage h.x.at_ (M.pg_d (by assumption)) (by kernel_rfl)) ?_
      refine E.G.new (fun g => .pointer (some ⟨g, 0, none⟩)) (List.replicate 256 (.int .u8 0)) 72 (fun w => by kernel_rfl) (by kernel_rfl) (fun g4 => ?_)
      refine E.G.store 0 (M.pgv (o.C (o.at (a / 256)).d)) rfl rfl (by kernel_rfl) (by kernel_rfl) ?_
      refine E.To.code ?_
      refine E.C.region ?_
      refine E.G.op (.pointer (some ⟨o.b, (a / 256) * 7, none⟩)) (fun w => by kernel_rfl) (by kernel_rfl) ?_
      refine E.G.op (.pointer (some ⟨o.b, (a / 256) * 7, none⟩)) (fun w => by kernel_rfl) (by kernel_rfl) ?_
      refine E.G.op (.pointer (some ⟨o.b, (a / 256) * 7, none⟩)) (fun w => by kernel_rfl) (by kernel_rfl) ?_
      refine E.G.op (.pointer (some ⟨o.b, ((a / 256) * 7) + 1, none⟩)) (fun w => by kernel_rfl) (by kernel_rfl) ?_
      refine M.G.sto (.pointer (some ⟨g4, 0, none⟩)) (fun u => M.St (M.code1 o (a / 256) g4 (o.at (a / 256)).d) u ∧ (M.Inv o ∧ (∀ p, M.Pg o.sl p → p ≠ g4) ∧ (g4 ≠ o.m ∧ g4 ≠ o.b) ∧ (g4 < w.heap.size → M.ow o g4) ∧ o.coh = false)) [] (by kernel_rfl) (by kernel_rfl) rfl rfl (by kernel_rfl) (fun u h => ⟨h.x.fz _ (M.all_b (by omega)) _, ⟨_, h.x.at_.fld (i := (a / 256)) (k := 1) (by assumption) rfl (by decide) _ rfl⟩, (M.St.code1 h (fun _ h => h) (by assumption) ((h.x.inv.co _ (by assumption)).1.symm.trans (M.b0 hc3)) (M.pg_d (by assumption)) (i := 0) rfl _ rfl).hp2 ⟨h.x.inv, fun p hp => M.apart h (fun _ h => h) (k := 0) rfl (.inr (.inr hp)), ⟨Ne.symm (M.apart h (fun _ h => h) (k := 0) rfl (.inl rfl)), Ne.symm (M.apart h (fun _ h => h) (k := 0) rfl (M.all_b (by omega)))⟩, h.own _ (List.mem_cons_self ..), (h.x.inv.co _ (by assumption)).1.symm.trans (M.b0 hc3)⟩ (h.ch.setCell (fun _ => M.ow_b (by omega)) _)⟩) (by kernel_rfl) ?_
      refine E.G.op (.pointer (some ⟨o.b, (a / 256) * 7, none⟩)) (fun w => by kernel_rfl) (by kernel_rfl) ?_
      refine E.G.op (.pointer (some ⟨o.b, ((a / 256) * 7) + 3, none⟩)) (fun w => by kernel_rfl) (by kernel_rfl) ?_
      refine M.G.sto (.bool true) (fun u => M.St (M.code2 o (a / 256) g4 (o.at (a / 256)).d) u ∧ (M.Inv o ∧ (∀ p, M.Pg o.sl p → p ≠ g4) ∧ (g4 ≠ o.m ∧ g4 ≠ o.b) ∧ (g4 < w.heap.size → M.ow o g4) ∧ o.coh = false)) [] (by kernel_rfl) (by kernel_rfl) rfl rfl (by kernel_rfl) (fun u h => ⟨h.x.1.fz _ (M.all_b (by rw [M.code1_len]; omega)) _, ⟨_, h.x.1.at_.fld (i := (a / 256)) (k := 3) (by rw [M.code1_len]; assumption) rfl (by decide) _ rfl⟩, (M.St.code2 h.x.1 h.x.2.1 h.x.2.2.1 h.x.2.2.2.1 (by assumption) h.x.2.2.2.2.2 _ rfl).hp2 h.x.2 (h.ch.setCell (fun _ => M.ow_b (by omega)) _)⟩) (by kernel_rfl) ?_
      refine E.To.code ?_
      refine E.C.weak [(4, .bool false)] [] ⟨by kernel_rfl, by kernel_rfl⟩ (List.Sublist.refl _) ?_
      refine E.C.seq ?_
      refine E.C.region ?_
      refine E.G.op (.bool true) (fun w => by kernel_rfl) (by kernel_rfl) ?_
      refine E.To.code ?_
      refine E.C.ret (E.To.body (fn := Try.f33) [.bool true] ?_ ?_)
      · exact ⟨⟨by kernel_rfl, by kernel_rfl⟩, trivial⟩
      · intro w h
        exact ⟨by rw [hc1]; rfl, _, h.x.1, h.ch, M.Nxt.code2 (by assumption) h.x.2.2.2.2.1, fun V hV => hV.sync (by assumption) h.x.2.2.2.2.2 h.x.2.2.1⟩
    · skip
      refine E.C.skip (E.To.code ?_)
      refine E.C.seq ?_
      refine E.C.region ?_
      refine E.G.op (.bool true) (fun w => by kernel_rfl) (by kernel_rfl) ?_
      refine E.To.code ?_
      refine E.C.ret (E.To.body (fn := Try.f33) [.bool true] ?_ ?_)
      · exact ⟨⟨by kernel_rfl, by kernel_rfl⟩, trivial⟩
      · intro w h
        exact ⟨by rw [hc1]; rfl, o, h.x, h.ch, M.Nxt.refl _ _, fun V hV => hV.sync_no (fun k => absurd ((h.x.inv.co _ k.1).1.trans k.2) (by rw [M.b1 hc3]; decide))⟩
end Go.Proofs.Ytdjjjikokfadiaa
