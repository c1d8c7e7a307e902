/- Walks: SetCode of mem, printed by wip/eng. No condition but what is named. -/
import Derived.Test.YtdjjjikokfadiaaProg
import Derived.Test.YtdjjjikokfadiaaMac
namespace Go.Proofs.Ytdjjjikokfadiaa
set_option linter.unusedVariables false
set_option linter.unusedSimpArgs false
open Go.RowKit
def M.V.setc (V : M.V) (n : Int) (s : ByteArray) : M.V := if 0 ≤ n ∧ n < ((V.n : Nat) : Int) ∧ V.coh = false then { V with i := fun j x => if j = n.toNat ∧ x < Nat.min s.size 256 then W.byt s.data.toList x else V.i j x } else V
theorem M.Sh.setc_no {o : M.Obj} {V : M.V} {n : Int} {s : ByteArray} (h : M.Sh o V) (hn : ¬ (0 ≤ n ∧ n < ((o.sl.length : Nat) : Int) ∧ o.coh = false)) : M.Sh o (V.setc n s) := by
  unfold M.V.setc
  rw [if_neg (by rw [← h.n, ← h.coh]; exact hn)]; exact h
theorem M.Sh.setc {o : M.Obj} {V : M.V} {n : Int} {s : ByteArray} {p : Nat} (h : M.Sh o V) (hi : M.Inv o) (h0 : 0 ≤ n) (hk : n.toNat < o.sl.length) (hcoh : o.coh = false) (hoc : (o.at n.toNat).oc = true) (hp : (o.at n.toNat).c = some p) : M.Sh (M.byl o p 0 (M.cpb s)) (V.setc n s) := by
  obtain ⟨e1, e2, e3, e4⟩ := M.byl_same (M.cpb s) o p 0
  have hat : ∀ j, (M.byl o p 0 (M.cpb s)).at j = o.at j := fun j => by unfold M.Obj.at; rw [e3]
  have hn : ∀ j, j < V.n → j < o.sl.length := fun j hj => h.n ▸ hj
  have hC : ∀ q, q ≠ p → ∀ x, (M.byl o p 0 (M.cpb s)).C q x = o.C q x := fun q hq x => by rw [M.byl_C, if_neg (fun k => hq k.1)]
  have hu := fun j (hj : j < V.n) => hi.oc n.toNat j p hk (hn j hj) hoc hp
  have hne : ∀ j, j < V.n → (o.at j).cc.getD (o.at j).cd ≠ p := fun j hj => by
    have := hu j hj
    cases hq : (o.at j).cc with
    | none => exact this.2.2.1
    | some q => exact fun e => this.2.2.2 (by rw [hq]; exact congrArg some e)
  unfold M.V.setc
  rw [if_pos ⟨h0, by rw [← h.n]; omega, by rw [← h.coh]; exact hcoh⟩]
  refine ⟨by rw [e3]; exact h.n, e4.trans h.coh, fun j hj x hx => ?_, fun j hj x hx => ?_, fun j hj x hx => ?_, fun j hj x hx => ?_, fun j hj => ?_⟩
  · rw [hat, hC _ (hu j hj).2.1]; exact h.d j hj x hx
  · rw [hat]
    show _ = (if j = n.toNat ∧ x < Nat.min s.size 256 then W.byt s.data.toList x else V.i j x)
    have hii := h.i j hj x hx
    unfold M.img at hii ⊢
    by_cases e : j = n.toNat
    · subst e
      rw [hp] at hii ⊢
      show (M.byl o p 0 (M.cpb s)).C p x = _
      rw [M.byl_C, M.cpb_len]
      by_cases hx2 : x < Nat.min s.size 256
      · rw [if_pos ⟨rfl, Nat.zero_le _, by omega⟩, if_pos ⟨rfl, hx2⟩]; simp [M.cpb, hx2]
      · rw [if_neg (fun k => hx2 (by have := k.2.2; omega)), if_neg (fun k => hx2 k.2)]; exact hii
    · rw [if_neg (fun k => e k.1)]
      have hco := (hi.co j (hn j hj)).1.trans hcoh
      cases hq : (o.at j).c with
      | none => rw [hq] at hco; cases hco
      | some q =>
        rw [hq] at hii
        show (M.byl o p 0 (M.cpb s)).C q x = V.i j x
        rw [hC q (fun e2 => e ((hu j hj).1 (by rw [hq, e2])))]; exact hii
  · rw [hat, hC _ (hu j hj).2.2.1]; exact h.cd j hj x hx
  · rw [hat, hC _ (hne j hj)]; exact h.ci j hj x hx
  · rw [hat]; exact h.r j hj
theorem M.Sh.code_own {o : M.Obj} {V : M.V} {k g p : Nat} (h : M.Sh o V) (hk : k < o.sl.length) (hp : (o.at k).c = some p) (hpg : ∀ p, M.Pg o.sl p → p ≠ g) : M.Sh (M.code2 o k g p) V := by
  have hC : ∀ q, M.Pg o.sl q → (M.code2 o k g p).C q = o.C q := fun q hq => if_neg (hpg q hq)
  have hg : (M.code2 o k g p).C g = o.C p := if_pos rfl
  have hn : ∀ j, j < V.n → j < o.sl.length := fun j hj => h.n ▸ hj
  have hc := M.code2_cod (g := g) (src := p) hk
  refine ⟨hc.n.trans h.n, h.coh, fun j hj x hx => ?_, fun j hj x hx => ?_, fun j hj x hx => ?_, fun j hj x hx => ?_, fun j hj => ?_⟩
  · rw [hc.d, hC _ (M.pg_d (hn j hj))]; exact h.d j hj x hx
  · have hi := h.i j hj x hx
    unfold M.img at hi ⊢
    by_cases e : j = k
    · subst e
      rw [hc.ck]; rw [hp] at hi
      show (M.code2 o j g p).C g x = _
      rw [hg]; exact hi
    · rw [(hc.c j e).1, hc.d]
      cases hq : (o.at j).c with
      | none => rw [hq] at hi; show (M.code2 o k g p).C (o.at j).d x = _; rw [hC _ (M.pg_d (hn j hj))]; exact hi
      | some q => rw [hq] at hi; show (M.code2 o k g p).C q x = _; rw [hC _ (M.pg_c (hn j hj) hq)]; exact hi
  · rw [hc.cd, hC _ (M.pg_cd (hn j hj))]; exact h.cd j hj x hx
  · rw [hc.cc, hc.cd, hC _ (M.pg_ci (hn j hj))]; exact h.ci j hj x hx
  · rw [hc.r]; exact h.r j hj
theorem M.cps_run {o : M.Obj} {w : World} {fr : E.Fr} {d : Option Nat} {T : TypeId} {pos : String} {af : Array Edge} {gd : Option (Nat × Bool)} {x y : Operand} {p : Nat} {s : ByteArray} (h : M.St o w) (hp : M.Pg o.sl p) (hx : E.ev fr x = .slice (some ⟨p, 0, none⟩) 256 256) (hy : E.ev fr y = .string s) :
    (execOp (E.ev fr) ⟨d, .call { callee := .builtin .copy, args := #[x, y], argTypes := #[47, 9] }, T, pos, af, gd⟩).run Try.prog w = .ok (.value (goInt (Nat.min s.size 256))) (w.setCells p 0 ((M.cpb s).map (Value.int .u8))) := by
  have hop : (execOp (E.ev fr) ⟨d, .call { callee := .builtin .copy, args := #[x, y], argTypes := #[47, 9] }, T, pos, af, gd⟩).run Try.prog w = ((Builtin.copy_ #[47, 9] T #[E.ev fr x, E.ev fr y]).run Try.prog w).andThen fun v w' => .ok (.value v) w' := by
    simp [execOp, resolve, invoke, builtin]
  rw [hop, hx, hy, M.run_cps w s _ _ T 5 p 256 Try.underlying47 (by kernel_rfl) (fun j hj => by rw [h.at_.pg p hp j hj]; rfl) (fun j => h.fz p (.inr (.inr hp)) j)]
  rfl
theorem M.cpb_bd (s : ByteArray) : ∀ v ∈ M.cpb s, 0 ≤ v ∧ v < 256 := fun v hv => by
  obtain ⟨i, _, rfl⟩ := List.mem_map.1 hv
  exact W.byt_bd _ _
theorem M.sc_go {o : M.Obj} {n : Int} (h : (((decide (n < 0)) || (decide (n ≥ ((o.sl.length : Nat) : Int)))) || o.coh) = false) : 0 ≤ n ∧ n < ((o.sl.length : Nat) : Int) ∧ o.coh = false := by
  simp only [Bool.or_eq_false_iff, decide_eq_false_iff_not] at h
  exact ⟨by omega, by omega, h.2⟩
theorem M.sc_no {o : M.Obj} {n : Int} (h : (((decide (n < 0)) || (decide (n ≥ ((o.sl.length : Nat) : Int)))) || o.coh) = true) : ¬ (0 ≤ n ∧ n < ((o.sl.length : Nat) : Int) ∧ o.coh = false) := by
  rintro ⟨h1, h2, h3⟩
  rw [h3] at h
  simp only [Bool.or_eq_true, decide_eq_true_eq, Bool.false_eq_true, or_false] at h
  omega
theorem M.isn {p : Option Nat} (h : p.isNone = false) : ∃ b, p = some b := by
  cases p with
  | none => cases h
  | some b => exact ⟨b, rfl⟩
theorem SetCode_any (o : M.Obj) (n : Int) (s : ByteArray) (w : World) (hst : M.St o w) : Calls Try.prog 36 #[.pointer (some ⟨o.m, 0, none⟩), .int .i64 n, .string s] w fun e w' => e = .returned (.tuple #[]) ∧ ∃ o', M.St o' w' ∧ Ch (fun x => M.ow o x) w w' ∧ M.Nxt w o o' ∧ ∀ V, M.Sh o V → M.Sh o' (V.setc n s) := by
  refine E.enter (n := 58) (S := fun x => M.ow o x) Try.func36 rfl rfl (by kernel_rfl) (hst.hp (Ch.refl _ _)) ?_
  refine E.C.seq ?_
  refine E.C.seq ?_
  refine E.C.region ?_
  refine E.G.op (.int .i64 n) (fun w => by kernel_rfl) (by kernel_rfl) ?_
  refine E.G.op (.bool (decide (n < 0))) (fun w => by kernel_rfl) (by kernel_rfl) ?_
  refine E.G.op (.bool (decide (n < 0))) (fun w => by kernel_rfl) (by kernel_rfl) ?_
  refine E.G.cut 5 [(0, .pointer (some ⟨o.m, 0, none⟩)), (1, .int .i64 n), (2, .string s), (15, .bool ((decide (n < 0)) || (decide (n ≥ ((o.sl.length : Nat) : Int)))))] (fun w => M.St o w) [] ?_ ?_
  · generalize hc1 : (decide (n < 0)) = b2
    cases b2
    · skip
      refine E.G.op (.int .i64 n) (fun w => by kernel_rfl) (by kernel_rfl) ?_
      refine E.G.op (.pointer (some ⟨o.m, 0, none⟩)) (fun w => by kernel_rfl) (by kernel_rfl) ?_
      refine E.G.call (.int .i64 ((o.sl.length : Nat) : Int)) (fun w h => Pages_any o w h.x.at_) (fun w _ => by kernel_rfl) (by kernel_rfl) ?_
      refine E.G.op (.bool (decide (n ≥ ((o.sl.length : Nat) : Int)))) (fun w => by kernel_rfl) (by kernel_rfl) ?_
      refine E.G.op (.bool (decide (n ≥ ((o.sl.length : Nat) : Int)))) (fun w => by kernel_rfl) (by kernel_rfl) ?_
      exact E.G.end_pst ⟨by kernel_rfl, by kernel_rfl⟩ (List.Sublist.refl _) (fun _ h => h)
    · skip
      refine E.G.skip (by kernel_rfl) (by kernel_rfl) ?_
      refine E.G.skip (by kernel_rfl) (by kernel_rfl) ?_
      refine E.G.skip (by kernel_rfl) (by kernel_rfl) ?_
      refine E.G.skip (by kernel_rfl) (by kernel_rfl) ?_
      refine E.G.op (.bool true) (fun w => by kernel_rfl) (by kernel_rfl) ?_
      exact E.G.end_pst ⟨by kernel_rfl, by kernel_rfl⟩ (List.Sublist.refl _) (fun _ h => h)
  refine E.G.op (.bool ((decide (n < 0)) || (decide (n ≥ ((o.sl.length : Nat) : Int))))) (fun w => by kernel_rfl) (by kernel_rfl) ?_
  refine E.G.cut 5 [(0, .pointer (some ⟨o.m, 0, none⟩)), (1, .int .i64 n), (2, .string s), (21, .bool (((decide (n < 0)) || (decide (n ≥ ((o.sl.length : Nat) : Int)))) || o.coh))] (fun w => M.St o w) [] ?_ ?_
  · generalize hc3 : ((decide (n < 0)) || (decide (n ≥ ((o.sl.length : Nat) : Int)))) = b4
    cases b4
    · skip
      refine E.G.op (.pointer (some ⟨o.m, 0, none⟩)) (fun w => by kernel_rfl) (by kernel_rfl) ?_
      refine E.G.op (.pointer (some ⟨o.m, 0, none⟩)) (fun w => by kernel_rfl) (by kernel_rfl) ?_
      refine E.G.op (.pointer (some ⟨o.m, 1, none⟩)) (fun w => by kernel_rfl) (by kernel_rfl) ?_
      refine E.G.val (.bool o.coh) (by kernel_rfl) (fun w h => M.load1 (by kernel_rfl) (M.one Try.underlying4 rfl) h.x.at_.c1) ?_
      refine E.G.op (.bool o.coh) (fun w => by kernel_rfl) (by kernel_rfl) ?_
      exact E.G.end_pst ⟨by kernel_rfl, by kernel_rfl⟩ (List.Sublist.refl _) (fun _ h => h)
    · skip
      refine E.G.skip (by kernel_rfl) (by kernel_rfl) ?_
      refine E.G.skip (by kernel_rfl) (by kernel_rfl) ?_
      refine E.G.skip (by kernel_rfl) (by kernel_rfl) ?_
      refine E.G.skip (by kernel_rfl) (by kernel_rfl) ?_
      refine E.G.op (.bool true) (fun w => by kernel_rfl) (by kernel_rfl) ?_
      exact E.G.end_pst ⟨by kernel_rfl, by kernel_rfl⟩ (List.Sublist.refl _) (fun _ h => h)
  refine E.To.code ?_
  refine E.C.cond (((decide (n < 0)) || (decide (n ≥ ((o.sl.length : Nat) : Int)))) || o.coh) (by kernel_rfl) (by kernel_rfl) (fun hc5 => ?_) (fun hc5 => ?_)
  · skip
    refine E.C.ret (E.P.rt (E.To.body (fn := Try.f36) [] ?_ ?_))
    · exact trivial
    · intro w h
      exact ⟨rfl, o, h.x, h.ch, M.Nxt.refl _ _, fun V hV => hV.setc_no (M.sc_no hc5)⟩
  · skip
    refine E.C.skip (E.To.code ?_)
    refine E.C.seq ?_
    obtain ⟨h0, h1, h2⟩ := M.sc_go hc5
    have hk : n.toNat < o.sl.length := by omega
    refine E.C.region ?_
    refine E.G.op (.pointer (some ⟨o.m, 0, none⟩)) (fun w => by kernel_rfl) (by kernel_rfl) ?_
    refine E.G.op (.pointer (some ⟨o.m, 0, none⟩)) (fun w => by kernel_rfl) (by kernel_rfl) ?_
    refine E.G.op (.pointer (some ⟨o.m, 0, none⟩)) (fun w => by kernel_rfl) (by kernel_rfl) ?_
    refine E.G.val (.slice o.ao o.sl.length o.cap) (by kernel_rfl) (fun w h => M.load1 (by kernel_rfl) (M.one Try.underlying64 rfl) h.x.at_.c0) ?_
    refine E.G.op (.int .i64 n) (fun w => by kernel_rfl) (by kernel_rfl) ?_
    refine E.G.val (.pointer (some ⟨o.b, n.toNat * 7, none⟩)) (by kernel_rfl) (fun w h => M.idxI (e := 74) (i := n) (k := .i64) (ao := o.ao) (b := o.b) (len := o.sl.length) (cap := o.cap) (esz := 7) (by kernel_rfl) (by kernel_rfl) (by kernel_rfl) (by kernel_rfl) (by (first | assumption | ((try simp only [Bool.or_eq_false_iff, Bool.or_eq_true, Bool.and_eq_true, Bool.and_eq_false_iff, decide_eq_true_eq, decide_eq_false_iff_not, ge_iff_le, gt_iff_lt] at *); omega))) (by (first | assumption | ((try simp only [Bool.or_eq_false_iff, Bool.or_eq_true, Bool.and_eq_true, Bool.and_eq_false_iff, decide_eq_true_eq, decide_eq_false_iff_not, ge_iff_le, gt_iff_lt] at *); omega))) h.x.at_.ha w) ?_
    refine E.G.op (.pointer (some ⟨o.b, n.toNat * 7, none⟩)) (fun w => by kernel_rfl) (by kernel_rfl) ?_
    refine E.To.code ?_
    refine E.C.weak [(2, .string s), (6, .pointer (some ⟨o.b, n.toNat * 7, none⟩))] [] ⟨by kernel_rfl, by kernel_rfl⟩ (List.Sublist.refl _) ?_
    refine E.C.seq ?_
    refine E.C.seq ?_
    refine E.C.region ?_
    refine E.G.op (.pointer (some ⟨o.b, n.toNat * 7, none⟩)) (fun w => by kernel_rfl) (by kernel_rfl) ?_
    refine E.G.op (.pointer (some ⟨o.b, n.toNat * 7, none⟩)) (fun w => by kernel_rfl) (by kernel_rfl) ?_
    refine E.G.op (.pointer (some ⟨o.b, (n.toNat * 7) + 1, none⟩)) (fun w => by kernel_rfl) (by kernel_rfl) ?_
    refine E.G.val (M.ptr (o.at n.toNat).c) (by kernel_rfl) (fun w h => M.load1 (by kernel_rfl) (M.one Try.underlying70 rfl) (h.x.at_.fld (i := n.toNat) (k := 1) (by (first | assumption | ((try simp only [Bool.or_eq_false_iff, Bool.or_eq_true, Bool.and_eq_true, Bool.and_eq_false_iff, decide_eq_true_eq, decide_eq_false_iff_not, ge_iff_le, gt_iff_lt] at *); omega))) rfl (by decide) _ rfl)) ?_
    refine E.G.val (.bool (((o.at n.toNat).c).isNone)) (by kernel_rfl) (fun w h => M.ptr_nil (by kernel_rfl) (by kernel_rfl)) ?_
    refine E.To.code ?_
    refine E.C.cond (((o.at n.toNat).c).isNone) (by kernel_rfl) (by kernel_rfl) (fun hc6 => ?_) (fun hc6 => ?_)
    · skip
      refine E.C.ret (E.P.rt (E.To.body (fn := Try.f36) [] ?_ ?_))
      · exact trivial
      · intro w h
        exact absurd ((h.x.inv.co _ hk).1.symm.trans hc6) (by rw [h2]; decide)
    · skip
      refine E.C.skip (E.To.code ?_)
      refine E.C.seq ?_
      refine E.C.seq ?_
      obtain ⟨p, hp⟩ := M.isn hc6
      refine E.C.region ?_
      refine E.G.op (.pointer (some ⟨o.b, n.toNat * 7, none⟩)) (fun w => by kernel_rfl) (by kernel_rfl) ?_
      refine E.G.op (.pointer (some ⟨o.b, n.toNat * 7, none⟩)) (fun w => by kernel_rfl) (by kernel_rfl) ?_
      refine E.G.op (.pointer (some ⟨o.b, (n.toNat * 7) + 3, none⟩)) (fun w => by kernel_rfl) (by kernel_rfl) ?_
      refine E.G.val (.bool ((o.at n.toNat).oc)) (by kernel_rfl) (fun w h => M.load1 (by kernel_rfl) (M.one Try.underlying4 rfl) (h.x.at_.fld (i := n.toNat) (k := 3) (by (first | assumption | ((try simp only [Bool.or_eq_false_iff, Bool.or_eq_true, Bool.and_eq_true, Bool.and_eq_false_iff, decide_eq_true_eq, decide_eq_false_iff_not, ge_iff_le, gt_iff_lt] at *); omega))) rfl (by decide) _ rfl)) ?_
      refine E.G.op (.bool (!((o.at n.toNat).oc))) (fun w => by kernel_rfl) (by kernel_rfl) ?_
      refine E.To.code ?_
      refine E.C.weak [(2, .string s), (6, .pointer (some ⟨o.b, n.toNat * 7, none⟩)), (37, .bool (!((o.at n.toNat).oc)))] [] ⟨by kernel_rfl, by kernel_rfl⟩ (List.Sublist.refl _) ?_
      refine E.C.cond (!((o.at n.toNat).oc)) (by kernel_rfl) (by kernel_rfl) (fun hc7 => ?_) (fun hc7 => ?_)
      · skip
        refine E.C.seq ?_
        refine E.C.region ?_
        refine E.G.op (.pointer (some ⟨o.b, n.toNat * 7, none⟩)) (fun w => by kernel_rfl) (by kernel_rfl) ?_
        refine E.G.op (.pointer (some ⟨o.b, n.toNat * 7, none⟩)) (fun w => by kernel_rfl) (by kernel_rfl) ?_
        refine E.G.op (.pointer (some ⟨o.b, (n.toNat * 7) + 1, none⟩)) (fun w => by kernel_rfl) (by kernel_rfl) ?_
        refine E.G.val (.pointer (some ⟨p, 0, none⟩)) (by kernel_rfl) (fun w h => E.run_as (a := M.ptr (o.at n.toNat).c) (M.load1 (by kernel_rfl) (M.one Try.underlying70 rfl) (h.x.at_.fld (i := n.toNat) (k := 1) (by (first | assumption | ((try simp only [Bool.or_eq_false_iff, Bool.or_eq_true, Bool.and_eq_true, Bool.and_eq_false_iff, decide_eq_true_eq, decide_eq_false_iff_not, ge_iff_le, gt_iff_lt] at *); omega))) rfl (by decide) _ rfl)) (by rw [hp]; rfl)) ?_
        refine E.G.op (.pointer (some ⟨p, 0, none⟩)) (fun w => by kernel_rfl) (by kernel_rfl) ?_
        refine E.G.val (.agg (M.pgv (o.C p)).toArray) (by kernel_rfl) (fun w h => M.loadPage h.x.at_ (M.pg_c hk hp) (by kernel_rfl)) ?_
        refine E.G.new (fun g => .pointer (some ⟨g, 0, none⟩)) (List.replicate 256 (.int .u8 0)) 72 (fun w => by kernel_rfl) (by kernel_rfl) (fun g8 => ?_)
        refine E.G.store 0 (M.pgv (o.C p)) rfl rfl (by kernel_rfl) (by kernel_rfl) ?_
        refine E.To.code ?_
        refine E.C.region ?_
        refine E.G.op (.pointer (some ⟨o.b, n.toNat * 7, none⟩)) (fun w => by kernel_rfl) (by kernel_rfl) ?_
        refine E.G.op (.pointer (some ⟨o.b, n.toNat * 7, none⟩)) (fun w => by kernel_rfl) (by kernel_rfl) ?_
        refine E.G.op (.pointer (some ⟨o.b, n.toNat * 7, none⟩)) (fun w => by kernel_rfl) (by kernel_rfl) ?_
        refine E.G.op (.pointer (some ⟨o.b, (n.toNat * 7) + 1, none⟩)) (fun w => by kernel_rfl) (by kernel_rfl) ?_
        refine M.G.sto (.pointer (some ⟨g8, 0, none⟩)) (fun u => M.St (M.code1 o n.toNat g8 p) u ∧ (M.Inv o ∧ (∀ p, M.Pg o.sl p → p ≠ g8) ∧ (g8 ≠ o.m ∧ g8 ≠ o.b) ∧ (g8 < w.heap.size → M.ow o g8) ∧ o.coh = false)) [] (by kernel_rfl) (by kernel_rfl) rfl rfl (by kernel_rfl) (fun u h => ⟨h.x.fz _ (M.all_b (by omega)) _, ⟨_, h.x.at_.fld (i := n.toNat) (k := 1) (by assumption) rfl (by decide) _ rfl⟩, (M.St.code1 h (fun _ h => h) (by assumption) h2 (M.pg_c hk hp) (i := 0) rfl _ rfl).hp2 ⟨h.x.inv, fun p hp => M.apart h (fun _ h => h) (k := 0) rfl (.inr (.inr hp)), ⟨Ne.symm (M.apart h (fun _ h => h) (k := 0) rfl (.inl rfl)), Ne.symm (M.apart h (fun _ h => h) (k := 0) rfl (M.all_b (by omega)))⟩, h.own _ (List.mem_cons_self ..), h2⟩ (h.ch.setCell (fun _ => M.ow_b (by omega)) _)⟩) (by kernel_rfl) ?_
        refine E.G.op (.pointer (some ⟨o.b, n.toNat * 7, none⟩)) (fun w => by kernel_rfl) (by kernel_rfl) ?_
        refine E.G.op (.pointer (some ⟨o.b, (n.toNat * 7) + 3, none⟩)) (fun w => by kernel_rfl) (by kernel_rfl) ?_
        refine M.G.sto (.bool true) (fun u => M.St (M.code2 o n.toNat g8 p) u ∧ (M.Inv o ∧ (∀ p, M.Pg o.sl p → p ≠ g8) ∧ (g8 ≠ o.m ∧ g8 ≠ o.b) ∧ (g8 < w.heap.size → M.ow o g8) ∧ o.coh = false)) [] (by kernel_rfl) (by kernel_rfl) rfl rfl (by kernel_rfl) (fun u h => ⟨h.x.1.fz _ (M.all_b (by rw [M.code1_len]; omega)) _, ⟨_, h.x.1.at_.fld (i := n.toNat) (k := 3) (by rw [M.code1_len]; assumption) rfl (by decide) _ rfl⟩, (M.St.code2 h.x.1 h.x.2.1 h.x.2.2.1 h.x.2.2.2.1 (by assumption) h.x.2.2.2.2.2 _ rfl).hp2 h.x.2 (h.ch.setCell (fun _ => M.ow_b (by omega)) _)⟩) (by kernel_rfl) ?_
        refine E.To.code ?_
        refine E.C.weak [(2, .string s), (6, .pointer (some ⟨o.b, n.toNat * 7, none⟩))] [] ⟨by kernel_rfl, by kernel_rfl⟩ (List.Sublist.refl _) ?_
        refine E.C.region ?_
        refine E.G.op (.pointer (some ⟨o.b, n.toNat * 7, none⟩)) (fun w => by kernel_rfl) (by kernel_rfl) ?_
        refine E.G.op (.pointer (some ⟨o.b, n.toNat * 7, none⟩)) (fun w => by kernel_rfl) (by kernel_rfl) ?_
        refine E.G.op (.pointer (some ⟨o.b, (n.toNat * 7) + 1, none⟩)) (fun w => by kernel_rfl) (by kernel_rfl) ?_
        refine E.G.val (.pointer (some ⟨g8, 0, none⟩)) (by kernel_rfl) (fun u h => M.load1 (by kernel_rfl) (M.one Try.underlying70 rfl) (h.x.1.at_.fld (i := n.toNat) (k := 1) (by rw [M.code2_len]; exact hk) (by rw [M.code2_at hk, if_pos rfl]; rfl) (by decide) _ rfl)) ?_
        refine E.G.op (.pointer (some ⟨g8, 0, none⟩)) (fun w => by kernel_rfl) (by kernel_rfl) ?_
        refine E.G.op (.slice (some ⟨g8, 0, none⟩) 256 256) (fun w => by kernel_rfl) (by kernel_rfl) ?_
        refine E.G.op (.string s) (fun w => by kernel_rfl) (by kernel_rfl) ?_
        refine E.G.any (I := Unit) (fun _ => True) (fun _ => goInt (Nat.min s.size 256)) (fun _ => fun u => M.St (M.byl (M.code2 o n.toNat g8 p) g8 0 (M.cpb s)) u ∧ M.Inv (M.code2 o n.toNat g8 p) ∧ (M.Inv o ∧ (∀ p, M.Pg o.sl p → p ≠ g8) ∧ (g8 ≠ o.m ∧ g8 ≠ o.b) ∧ (g8 < w.heap.size → M.ow o g8) ∧ o.coh = false)) (fun _ => []) (fun u h => ⟨(), _, trivial, M.cps_run h.x.1 (M.pg_c (o := M.code2 o n.toNat g8 p) (i := n.toNat) (p := g8) (by rw [M.code2_len]; exact hk) (by rw [M.code2_at hk, if_pos rfl])) (by kernel_rfl) (by kernel_rfl), (M.St.byl (M.cpb s) 0 h.x.1 (M.pg_c (o := M.code2 o n.toNat g8 p) (i := n.toNat) (p := g8) (by rw [M.code2_len]; exact hk) (by rw [M.code2_at hk, if_pos rfl])) (by rw [M.cpb_len, Nat.zero_add]; exact Nat.min_le_right _ _) (M.cpb_bd s)).hp2 ⟨h.x.1.inv, h.x.2⟩ (M.ch_cells h.x.2.2.2.2.1 _ _ h.ch)⟩) (by kernel_rfl) (fun _ _ => ?_)
        refine E.To.bodyN (fn := Try.f36) [] ?_ ?_
        · exact trivial
        · intro w h
          exact ⟨rfl, _, h.x.1, h.ch, (M.Nxt.code2 hk h.x.2.2.2.2.2.1).trans (M.Nxt.byl _ _ _ _ _) (Nat.le_refl _), fun V hV => (hV.code_own hk hp h.x.2.2.2.1).setc h.x.2.1 h0 (by rw [M.code2_len]; exact hk) h2 (by rw [M.code2_at hk, if_pos rfl]) (by rw [M.code2_at hk, if_pos rfl])⟩
      · skip
        refine E.C.skip (E.To.code ?_)
        refine E.C.region ?_
        refine E.G.op (.pointer (some ⟨o.b, n.toNat * 7, none⟩)) (fun w => by kernel_rfl) (by kernel_rfl) ?_
        refine E.G.op (.pointer (some ⟨o.b, n.toNat * 7, none⟩)) (fun w => by kernel_rfl) (by kernel_rfl) ?_
        refine E.G.op (.pointer (some ⟨o.b, (n.toNat * 7) + 1, none⟩)) (fun w => by kernel_rfl) (by kernel_rfl) ?_
        refine E.G.val (.pointer (some ⟨p, 0, none⟩)) (by kernel_rfl) (fun w h => E.run_as (a := M.ptr (o.at n.toNat).c) (M.load1 (by kernel_rfl) (M.one Try.underlying70 rfl) (h.x.at_.fld (i := n.toNat) (k := 1) (by (first | assumption | ((try simp only [Bool.or_eq_false_iff, Bool.or_eq_true, Bool.and_eq_true, Bool.and_eq_false_iff, decide_eq_true_eq, decide_eq_false_iff_not, ge_iff_le, gt_iff_lt] at *); omega))) rfl (by decide) _ rfl)) (by rw [hp]; rfl)) ?_
        refine E.G.op (.pointer (some ⟨p, 0, none⟩)) (fun w => by kernel_rfl) (by kernel_rfl) ?_
        refine E.G.op (.slice (some ⟨p, 0, none⟩) 256 256) (fun w => by kernel_rfl) (by kernel_rfl) ?_
        refine E.G.op (.string s) (fun w => by kernel_rfl) (by kernel_rfl) ?_
        refine E.G.any (I := Unit) (fun _ => True) (fun _ => goInt (Nat.min s.size 256)) (fun _ => fun u => M.St (M.byl o p 0 (M.cpb s)) u ∧ M.Inv o) (fun _ => []) (fun u h => ⟨(), _, trivial, M.cps_run h.x (M.pg_c hk hp) (by kernel_rfl) (by kernel_rfl), (M.St.byl (M.cpb s) 0 h.x (M.pg_c hk hp) (by rw [M.cpb_len, Nat.zero_add]; exact Nat.min_le_right _ _) (M.cpb_bd s)).hp2 h.x.inv (M.ch_cells (fun _ => .inr (.inr ⟨_, hk, M.b1 hc7, hp⟩)) _ _ h.ch)⟩) (by kernel_rfl) (fun _ _ => ?_)
        refine E.To.bodyN (fn := Try.f36) [] ?_ ?_
        · exact trivial
        · intro w h
          exact ⟨rfl, _, h.x.1, h.ch, M.Nxt.byl _ _ _ _ _, fun V hV => hV.setc h.x.2 h0 hk h2 (M.b1 hc7) hp⟩
end Go.Proofs.Ytdjjjikokfadiaa
