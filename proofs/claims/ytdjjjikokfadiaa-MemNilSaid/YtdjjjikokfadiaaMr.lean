/- Walks: same of mem, printed by wip/eng. No condition but what is named. -/
import Derived.Test.YtdjjjikokfadiaaProg
import Derived.Test.YtdjjjikokfadiaaMq
namespace Go.Proofs.Ytdjjjikokfadiaa
set_option linter.unusedVariables false
set_option linter.unusedSimpArgs false
open Go.RowKit
theorem same_some (o : M.Obj) (p q : Nat) (hp : M.Pg o.sl p) (hq : M.Pg o.sl q) (w : World) (hst : M.St o w) : Calls Try.prog 42 #[.pointer (some ⟨p, 0, none⟩), .pointer (some ⟨q, 0, none⟩)] w fun e w' => e = .returned (.bool ((p == q) || (M.eqv (o.C p) (o.C q) (List.range 256)))) ∧ Bel w w' := by
  refine E.enter (n := 25) (S := fun _ => False) Try.func42 rfl rfl (by kernel_rfl) (hst.hp (Ch.refl _ _)) ?_
  refine E.C.seq ?_
  refine E.C.region ?_
  refine E.G.op (.bool false) (fun w => by kernel_rfl) (by kernel_rfl) ?_
  refine E.To.code ?_
  refine E.C.seq ?_
  refine E.C.quiet (by kernel_rfl) (by kernel_rfl) ?_
  refine E.W.op (.pointer (some ⟨p, 0, none⟩)) (fun w => by kernel_rfl) (by kernel_rfl) ?_
  refine E.W.op (.pointer (some ⟨q, 0, none⟩)) (fun w => by kernel_rfl) (by kernel_rfl) ?_
  refine E.W.val (.bool (p == q)) (by kernel_rfl) (fun w h => M.ptr_eq (by kernel_rfl) (by kernel_rfl) (h.x.at_.pg p hp 0 (by decide)) (h.x.at_.pg q hq 0 (by decide)) (h.x.fz p (.inr (.inr hp))) (h.x.fz q (.inr (.inr hq)))) ?_
  refine E.W.op (.bool (p == q)) (fun w => by kernel_rfl) (by kernel_rfl) ?_
  refine E.W.cut 16 [(4, .bool false), (24, .bool ((p == q) || (M.eqv (o.C p) (o.C q) (List.range 256))))] ?_ ?_
  · generalize hc1 : (p == q) = b2
    cases b2
    · skip
      refine E.W.op (.pointer (some ⟨p, 0, none⟩)) (fun w => by kernel_rfl) (by kernel_rfl) ?_
      refine E.W.op (.bool true) (fun w => by kernel_rfl) (by kernel_rfl) ?_
      refine E.W.op (.bool true) (fun w => by kernel_rfl) (by kernel_rfl) ?_
      refine E.W.op (.pointer (some ⟨q, 0, none⟩)) (fun w => by kernel_rfl) (by kernel_rfl) ?_
      refine E.W.op (.bool true) (fun w => by kernel_rfl) (by kernel_rfl) ?_
      refine E.W.op (.bool true) (fun w => by kernel_rfl) (by kernel_rfl) ?_
      refine E.W.op (.bool true) (fun w => by kernel_rfl) (by kernel_rfl) ?_
      refine E.W.op (.pointer (some ⟨p, 0, none⟩)) (fun w => by kernel_rfl) (by kernel_rfl) ?_
      refine E.W.op (.pointer (some ⟨p, 0, none⟩)) (fun w => by kernel_rfl) (by kernel_rfl) ?_
      refine E.W.val (.agg (M.pgv (o.C p)).toArray) (by kernel_rfl) (fun w h => M.loadPage h.x.at_ hp (by kernel_rfl)) ?_
      refine E.W.op (.pointer (some ⟨q, 0, none⟩)) (fun w => by kernel_rfl) (by kernel_rfl) ?_
      refine E.W.op (.pointer (some ⟨q, 0, none⟩)) (fun w => by kernel_rfl) (by kernel_rfl) ?_
      refine E.W.val (.agg (M.pgv (o.C q)).toArray) (by kernel_rfl) (fun w h => M.loadPage h.x.at_ hq (by kernel_rfl)) ?_
      refine E.W.val (.bool (M.eqv (o.C p) (o.C q) (List.range 256))) (by kernel_rfl) (fun w h => M.pg_eql (by kernel_rfl) (by kernel_rfl)) ?_
      refine E.W.op (.bool (M.eqv (o.C p) (o.C q) (List.range 256))) (fun w => by kernel_rfl) (by kernel_rfl) ?_
      refine E.W.op (.bool (M.eqv (o.C p) (o.C q) (List.range 256))) (fun w => by kernel_rfl) (by kernel_rfl) ?_
      exact E.W.end_cut ⟨by kernel_rfl, by kernel_rfl⟩
    · skip
      refine E.W.skip (by kernel_rfl) (by kernel_rfl) ?_
      refine E.W.skip (by kernel_rfl) (by kernel_rfl) ?_
      refine E.W.skip (by kernel_rfl) (by kernel_rfl) ?_
      refine E.W.skip (by kernel_rfl) (by kernel_rfl) ?_
      refine E.W.skip (by kernel_rfl) (by kernel_rfl) ?_
      refine E.W.skip (by kernel_rfl) (by kernel_rfl) ?_
      refine E.W.skip (by kernel_rfl) (by kernel_rfl) ?_
      refine E.W.skip (by kernel_rfl) (by kernel_rfl) ?_
      refine E.W.skip (by kernel_rfl) (by kernel_rfl) ?_
      refine E.W.skip (by kernel_rfl) (by kernel_rfl) ?_
      refine E.W.skip (by kernel_rfl) (by kernel_rfl) ?_
      refine E.W.skip (by kernel_rfl) (by kernel_rfl) ?_
      refine E.W.skip (by kernel_rfl) (by kernel_rfl) ?_
      refine E.W.skip (by kernel_rfl) (by kernel_rfl) ?_
      refine E.W.skip (by kernel_rfl) (by kernel_rfl) ?_
      refine E.W.op (.bool true) (fun w => by kernel_rfl) (by kernel_rfl) ?_
      exact E.W.end_cut ⟨by kernel_rfl, by kernel_rfl⟩
  refine E.W.op (.bool ((p == q) || (M.eqv (o.C p) (o.C q) (List.range 256)))) (fun w => by kernel_rfl) (by kernel_rfl) ?_
  refine E.W.done (E.To.code ?_)
  refine E.C.ret (E.To.body (fn := Try.f42) [.bool ((p == q) || (M.eqv (o.C p) (o.C q) (List.range 256)))] ?_ ?_)
  · exact ⟨⟨by kernel_rfl, by kernel_rfl⟩, trivial⟩
  · intro w h
    exact ⟨rfl, h.ch.bel (fun _ h => h.elim)⟩
end Go.Proofs.Ytdjjjikokfadiaa
