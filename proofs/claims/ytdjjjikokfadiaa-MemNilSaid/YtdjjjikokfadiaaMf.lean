/- Walks: the writers of mem, first part, printed by wip/eng. No condition but what is named. -/
import Derived.Test.YtdjjjikokfadiaaProg
import Derived.Test.YtdjjjikokfadiaaMe
namespace Go.Proofs.Ytdjjjikokfadiaa
set_option linter.unusedVariables false
set_option linter.unusedSimpArgs false
open Go.RowKit
def M.prot (o : M.Obj) (n r : Int) : M.Obj := bif ((decide (n ≥ 0)) && (decide (n < ((o.sl.length : Nat) : Int)))) then o.upd n.toNat { o.at n.toNat with r := bits .and .i64 r 7 } else o
theorem M.and7 (r : Int) : 0 ≤ bits .and .i64 r 7 ∧ bits .and .i64 r 7 < 8 := by
  have e : bits .and .i64 r 7 = r % 8 := W.i64_and_mask 3 (by decide) r
  rw [e]; omega
theorem Protect_any (o : M.Obj) (n r : Int) (w : World) (hst : M.St o w) : Calls Try.prog 16 #[.pointer (some ⟨o.m, 0, none⟩), .int .i64 n, .int .i64 r] w fun e w' => e = .returned (.tuple #[]) ∧ M.St (M.prot o n r) w' ∧ Ch (fun x => M.ow o x) w w' := by
  refine E.enter (n := 23) (S := fun x => M.ow o x) Try.func16 rfl rfl (by kernel_rfl) (hst.hp (Ch.refl _ _)) ?_
  refine E.C.seq ?_
  refine E.C.region ?_
  refine E.G.op (.int .i64 n) (fun w => by kernel_rfl) (by kernel_rfl) ?_
  refine E.G.op (.bool (decide (n ≥ 0))) (fun w => by kernel_rfl) (by kernel_rfl) ?_
  refine E.G.op (.bool (decide (n ≥ 0))) (fun w => by kernel_rfl) (by kernel_rfl) ?_
  refine E.G.cut 5 [(0, .pointer (some ⟨o.m, 0, none⟩)), (1, .int .i64 n), (2, .int .i64 r), (13, .bool ((decide (n ≥ 0)) && (decide (n < ((o.sl.length : Nat) : Int)))))] (fun w => M.St o w) [] ?_ ?_
  · generalize hc1 : (decide (n ≥ 0)) = b2
    cases b2
    · skip
      refine E.G.skip (by kernel_rfl) (by kernel_rfl) ?_
      refine E.G.skip (by kernel_rfl) (by kernel_rfl) ?_
      refine E.G.skip (by kernel_rfl) (by kernel_rfl) ?_
      refine E.G.skip (by kernel_rfl) (by kernel_rfl) ?_
      refine E.G.op (.bool false) (fun w => by kernel_rfl) (by kernel_rfl) ?_
      exact E.G.end_pst ⟨by kernel_rfl, by kernel_rfl⟩ (List.Sublist.refl _) (fun _ h => h)
    · skip
      refine E.G.op (.int .i64 n) (fun w => by kernel_rfl) (by kernel_rfl) ?_
      refine E.G.op (.pointer (some ⟨o.m, 0, none⟩)) (fun w => by kernel_rfl) (by kernel_rfl) ?_
      refine E.G.call (.int .i64 ((o.sl.length : Nat) : Int)) (fun w h => Pages_any o w h.x.at_) (fun w _ => by kernel_rfl) (by kernel_rfl) ?_
      refine E.G.op (.bool (decide (n < ((o.sl.length : Nat) : Int)))) (fun w => by kernel_rfl) (by kernel_rfl) ?_
      refine E.G.op (.bool (decide (n < ((o.sl.length : Nat) : Int)))) (fun w => by kernel_rfl) (by kernel_rfl) ?_
      exact E.G.end_pst ⟨by kernel_rfl, by kernel_rfl⟩ (List.Sublist.refl _) (fun _ h => h)
  refine E.To.code ?_
  refine E.C.cond ((decide (n ≥ 0)) && (decide (n < ((o.sl.length : Nat) : Int)))) (by kernel_rfl) (by kernel_rfl) (fun hc3 => ?_) (fun hc3 => ?_)
  · skip
    refine E.C.region ?_
    refine E.G.op (.pointer (some ⟨o.m, 0, none⟩)) (fun w => by kernel_rfl) (by kernel_rfl) ?_
    refine E.G.op (.pointer (some ⟨o.m, 0, none⟩)) (fun w => by kernel_rfl) (by kernel_rfl) ?_
    refine E.G.op (.pointer (some ⟨o.m, 0, none⟩)) (fun w => by kernel_rfl) (by kernel_rfl) ?_
    refine E.G.val (.slice o.ao o.sl.length o.cap) (by kernel_rfl) (fun w h => M.load1 (by kernel_rfl) (M.one Try.underlying64 rfl) h.x.at_.c0) ?_
    refine E.G.op (.int .i64 n) (fun w => by kernel_rfl) (by kernel_rfl) ?_
    refine E.G.op (.int .i64 r) (fun w => by kernel_rfl) (by kernel_rfl) ?_
    refine E.G.op (.int .i64 (bits .and .i64 r 7)) (fun w => by kernel_rfl) (by kernel_rfl) ?_
    refine E.G.val (.pointer (some ⟨o.b, n.toNat * 7, none⟩)) (by kernel_rfl) (fun w h => M.idxI (e := 74) (i := n) (k := .i64) (ao := o.ao) (b := o.b) (len := o.sl.length) (cap := o.cap) (esz := 7) (by kernel_rfl) (by kernel_rfl) (by kernel_rfl) (by kernel_rfl) (by (first | assumption | ((try simp only [Bool.or_eq_false_iff, Bool.or_eq_true, Bool.and_eq_true, Bool.and_eq_false_iff, decide_eq_true_eq, decide_eq_false_iff_not, ge_iff_le, gt_iff_lt] at *); omega))) (by (first | assumption | ((try simp only [Bool.or_eq_false_iff, Bool.or_eq_true, Bool.and_eq_true, Bool.and_eq_false_iff, decide_eq_true_eq, decide_eq_false_iff_not, ge_iff_le, gt_iff_lt] at *); omega))) h.x.at_.ha w) ?_
    refine E.G.op (.pointer (some ⟨o.b, (n.toNat * 7) + 6, none⟩)) (fun w => by kernel_rfl) (by kernel_rfl) ?_
    refine M.G.sto (.int .i64 (bits .and .i64 r 7)) (fun w => M.St (o.upd n.toNat { o.at n.toNat with r := bits .and .i64 r 7 }) w) [] (by kernel_rfl) (by kernel_rfl) rfl rfl (by kernel_rfl) (fun w h => ⟨h.x.fz _ (M.all_b (by (first | assumption | ((try simp only [Bool.or_eq_false_iff, Bool.or_eq_true, Bool.and_eq_true, Bool.and_eq_false_iff, decide_eq_true_eq, decide_eq_false_iff_not, ge_iff_le, gt_iff_lt] at *); omega)))) _, ⟨_, h.x.at_.fld (i := n.toNat) (k := 6) (by (first | assumption | ((try simp only [Bool.or_eq_false_iff, Bool.or_eq_true, Bool.and_eq_true, Bool.and_eq_false_iff, decide_eq_true_eq, decide_eq_false_iff_not, ge_iff_le, gt_iff_lt] at *); omega))) rfl (by decide) _ rfl⟩, (h.x.setr (by (first | assumption | ((try simp only [Bool.or_eq_false_iff, Bool.or_eq_true, Bool.and_eq_true, Bool.and_eq_false_iff, decide_eq_true_eq, decide_eq_false_iff_not, ge_iff_le, gt_iff_lt] at *); omega))) (M.and7 r) _ rfl).hp (h.ch.setCell (fun _ => M.ow_b (by (first | assumption | ((try simp only [Bool.or_eq_false_iff, Bool.or_eq_true, Bool.and_eq_true, Bool.and_eq_false_iff, decide_eq_true_eq, decide_eq_false_iff_not, ge_iff_le, gt_iff_lt] at *); omega)))) _)⟩) (by kernel_rfl) ?_
    refine E.To.bodyN (fn := Try.f16) [] ?_ ?_
    · exact trivial
    · intro w h
      exact ⟨rfl, by unfold M.prot; rw [hc3]; exact h.x, h.ch⟩
  · skip
    refine E.C.skip (E.To.bodyN (fn := Try.f16) [] ?_ ?_)
    · exact trivial
    · intro w h
      exact ⟨rfl, by unfold M.prot; rw [hc3]; exact h.x, h.ch⟩
end Go.Proofs.Ytdjjjikokfadiaa
