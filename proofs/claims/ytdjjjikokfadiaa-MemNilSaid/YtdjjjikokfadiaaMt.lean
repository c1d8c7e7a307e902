/- Walks: Page of mem, printed by wip/eng. No condition but what is named. -/
import Derived.Test.YtdjjjikokfadiaaProg
import Derived.Test.YtdjjjikokfadiaaMs
namespace Go.Proofs.Ytdjjjikokfadiaa
set_option linter.unusedVariables false
set_option linter.unusedSimpArgs false
open Go.RowKit
theorem M.page2s {w : World} {o : M.Obj} {p : Nat} {fr : E.Fr} {d : Option Nat} {T : TypeId} {pos : String} {af : Array Edge} {gd : Option (Nat × Bool)} {x : Operand} (h : M.At o w) (hp : M.Pg o.sl p) (hx : E.ev fr x = .slice (some ⟨p, 0, none⟩) 256 256) :
    (execOp (E.ev fr) ⟨d, .convert 47 9 x, T, pos, af, gd⟩).run Try.prog w = .ok (.value (.string (strOfNums ((List.range 256).map (o.C p))))) w := by
  show (do let r ← convert 47 9 (E.ev fr x); pure (Next.value r) : Sem Next).run Try.prog w = _
  rw [hx]
  have hl : ((List.range 256).map (o.C p)).length = 256 := by simp
  have := run_convert_bytes_arg (P := Try.prog) w 47 5 Try.underlying47 Try.underlying5 p 0 256 256 ((List.range 256).map (o.C p)) hl (fun k hk => by
    have e : ((List.range 256).map (o.C p)).getD k 0 = o.C p k := by simp [hk]
    rw [e, Nat.zero_add]; exact h.pg p hp k hk) 9 Try.underlying9
  simp [this]
def M.pageS (o : M.Obj) (n : Int) : ByteArray := (bif ((decide (n < 0)) || (decide (n ≥ ((o.sl.length : Nat) : Int)))) then (⟨#[]⟩ : ByteArray) else (strOfNums ((List.range 256).map (o.C (o.at n.toNat).d))))
theorem Page_any (o : M.Obj) (n : Int) (w : World) (hat : M.At o w) : Calls Try.prog 27 #[.pointer (some ⟨o.m, 0, none⟩), .int .i64 n] w fun e w' => e = .returned (.string (M.pageS o n)) ∧ Bel w w' := by
  refine E.enter (n := 24) (S := fun _ => False) Try.func27 rfl rfl (by kernel_rfl) (hat.hp) ?_
  refine E.C.seq ?_
  refine E.C.region ?_
  refine E.G.op (.string (⟨#[]⟩ : ByteArray)) (fun w => by kernel_rfl) (by kernel_rfl) ?_
  refine E.To.code ?_
  refine E.C.seq ?_
  refine E.C.seq ?_
  refine E.C.region ?_
  refine E.G.op (.int .i64 n) (fun w => by kernel_rfl) (by kernel_rfl) ?_
  refine E.G.op (.bool (decide (n < 0))) (fun w => by kernel_rfl) (by kernel_rfl) ?_
  refine E.G.op (.bool (decide (n < 0))) (fun w => by kernel_rfl) (by kernel_rfl) ?_
  refine E.G.cut 5 [(0, .pointer (some ⟨o.m, 0, none⟩)), (1, .int .i64 n), (4, .string (⟨#[]⟩ : ByteArray)), (12, .bool ((decide (n < 0)) || (decide (n ≥ ((o.sl.length : Nat) : Int)))))] (fun w => M.At o w) [] ?_ ?_
  · generalize hc1 : (decide (n < 0)) = b2
    cases b2
    · skip
      refine E.G.op (.int .i64 n) (fun w => by kernel_rfl) (by kernel_rfl) ?_
      refine E.G.op (.pointer (some ⟨o.m, 0, none⟩)) (fun w => by kernel_rfl) (by kernel_rfl) ?_
      refine E.G.call (.int .i64 ((o.sl.length : Nat) : Int)) (fun w h => Pages_any o w h.x) (fun w _ => by kernel_rfl) (by kernel_rfl) ?_
      refine E.G.op (.bool (decide (n ≥ ((o.sl.length : Nat) : Int)))) (fun w => by kernel_rfl) (by kernel_rfl) ?_
      refine E.G.op (.bool (decide (n ≥ ((o.sl.length : Nat) : Int)))) (fun w => by kernel_rfl) (by kernel_rfl) ?_
      exact E.G.end_pst ⟨by kernel_rfl, by kernel_rfl⟩ (List.Sublist.refl _) (fun _ h => h)
    · skip
      refine E.G.skip (by kernel_rfl) (by kernel_rfl) ?_
      refine E.G.skip (by kernel_rfl) (by kernel_rfl) ?_
      refine E.G.skip (by kernel_rfl) (by kernel_rfl) ?_
      refine E.G.skip (by kernel_rfl) (by kernel_rfl) ?_
      refine E.G.op (.bool true) (fun w => by kernel_rfl) (by kernel_rfl) ?_
      exact E.G.end_pst ⟨by kernel_rfl, by kernel_rfl⟩ (List.Sublist.refl _) (fun _ h => h)
  refine E.To.code ?_
  refine E.C.cond ((decide (n < 0)) || (decide (n ≥ ((o.sl.length : Nat) : Int)))) (by kernel_rfl) (by kernel_rfl) (fun hc3 => ?_) (fun hc3 => ?_)
  · skip
    refine E.C.seq ?_
    refine E.C.region ?_
    refine E.G.op (.string (⟨#[]⟩ : ByteArray)) (fun w => by kernel_rfl) (by kernel_rfl) ?_
    refine E.To.code ?_
    refine E.C.ret (E.P.rt (E.To.body (fn := Try.f27) [.string (⟨#[]⟩ : ByteArray)] ?_ ?_))
    · exact ⟨⟨by kernel_rfl, by kernel_rfl⟩, trivial⟩
    · intro w h
      exact ⟨by show Ending.returned (.string (⟨#[]⟩ : ByteArray)) = _; unfold M.pageS; rw [hc3, cond_true], h.ch.bel (fun _ h => h.elim)⟩
  · skip
    refine E.C.skip (E.To.code ?_)
    refine E.C.seq ?_
    refine E.C.region ?_
    refine E.G.op (.pointer (some ⟨o.m, 0, none⟩)) (fun w => by kernel_rfl) (by kernel_rfl) ?_
    refine E.G.op (.pointer (some ⟨o.m, 0, none⟩)) (fun w => by kernel_rfl) (by kernel_rfl) ?_
    refine E.G.op (.pointer (some ⟨o.m, 0, none⟩)) (fun w => by kernel_rfl) (by kernel_rfl) ?_
    refine E.G.val (.slice o.ao o.sl.length o.cap) (by kernel_rfl) (fun w h => M.load1 (by kernel_rfl) (M.one Try.underlying64 rfl) h.x.c0) ?_
    refine E.G.op (.int .i64 n) (fun w => by kernel_rfl) (by kernel_rfl) ?_
    refine E.G.val (.pointer (some ⟨o.b, n.toNat * 7, none⟩)) (by kernel_rfl) (fun w h => M.idxI (e := 74) (i := n) (k := .i64) (ao := o.ao) (b := o.b) (len := o.sl.length) (cap := o.cap) (esz := 7) (by kernel_rfl) (by kernel_rfl) (by kernel_rfl) (by kernel_rfl) (by (first | assumption | ((try simp only [Bool.or_eq_false_iff, Bool.or_eq_true, Bool.and_eq_true, Bool.and_eq_false_iff, decide_eq_true_eq, decide_eq_false_iff_not, ge_iff_le, gt_iff_lt] at *); omega))) (by (first | assumption | ((try simp only [Bool.or_eq_false_iff, Bool.or_eq_true, Bool.and_eq_true, Bool.and_eq_false_iff, decide_eq_true_eq, decide_eq_false_iff_not, ge_iff_le, gt_iff_lt] at *); omega))) h.x.ha w) ?_
    refine E.G.op (.pointer (some ⟨o.b, n.toNat * 7, none⟩)) (fun w => by kernel_rfl) (by kernel_rfl) ?_
    refine E.G.val (.pointer (some ⟨(o.at n.toNat).d, 0, none⟩)) (by kernel_rfl) (fun w h => M.load1 (by kernel_rfl) (M.one Try.underlying70 rfl) (h.x.fld (i := n.toNat) (k := 0) (by (first | assumption | ((try simp only [Bool.or_eq_false_iff, Bool.or_eq_true, Bool.and_eq_true, Bool.and_eq_false_iff, decide_eq_true_eq, decide_eq_false_iff_not, ge_iff_le, gt_iff_lt] at *); omega))) rfl (by decide) _ rfl)) ?_
    refine E.G.op (.pointer (some ⟨(o.at n.toNat).d, 0, none⟩)) (fun w => by kernel_rfl) (by kernel_rfl) ?_
    refine E.G.op (.slice (some ⟨(o.at n.toNat).d, 0, none⟩) 256 256) (fun w => by kernel_rfl) (by kernel_rfl) ?_
    refine E.G.val (.string (strOfNums ((List.range 256).map (o.C (o.at n.toNat).d)))) (by kernel_rfl) (fun w h => M.page2s h.x (M.pg_d (by (first | assumption | ((try simp only [Bool.or_eq_false_iff, Bool.or_eq_true, Bool.and_eq_true, Bool.and_eq_false_iff, decide_eq_true_eq, decide_eq_false_iff_not, ge_iff_le, gt_iff_lt] at *); omega)))) (by kernel_rfl)) ?_
    refine E.G.op (.string (strOfNums ((List.range 256).map (o.C (o.at n.toNat).d)))) (fun w => by kernel_rfl) (by kernel_rfl) ?_
    refine E.To.code ?_
    refine E.C.weak [(4, .string (strOfNums ((List.range 256).map (o.C (o.at n.toNat).d))))] [] ⟨by kernel_rfl, by kernel_rfl⟩ (List.Sublist.refl _) ?_
    refine E.C.ret (E.To.body (fn := Try.f27) [.string (strOfNums ((List.range 256).map (o.C (o.at n.toNat).d)))] ?_ ?_)
    · exact ⟨⟨by kernel_rfl, by kernel_rfl⟩, trivial⟩
    · intro w h
      exact ⟨by show Ending.returned (.string (strOfNums ((List.range 256).map (o.C (o.at n.toNat).d)))) = _; unfold M.pageS; rw [hc3, cond_false], h.ch.bel (fun _ h => h.elim)⟩
end Go.Proofs.Ytdjjjikokfadiaa
