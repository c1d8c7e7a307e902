/- Walks: same of mem, where there may be no page, printed by wip/eng. No condition but what is named. -/
import Derived.Test.YtdjjjikokfadiaaProg
import Derived.Test.YtdjjjikokfadiaaMr
namespace Go.Proofs.Ytdjjjikokfadiaa
set_option linter.unusedVariables false
set_option linter.unusedSimpArgs false
open Go.RowKit
theorem same_nil  (w : World) : Calls Try.prog 42 #[.pointer none, .pointer none] w fun e w' => e = .returned (.bool true) ∧ Bel w w' := by
  refine E.enter (n := 25) (S := fun _ => False) Try.func42 rfl rfl (by kernel_rfl) (E.Hp.start w) ?_
  refine E.C.seq ?_
  refine E.C.region ?_
  refine E.G.op (.bool false) (fun w => by kernel_rfl) (by kernel_rfl) ?_
  refine E.To.code ?_
  refine E.C.seq ?_
  refine E.C.quiet (by kernel_rfl) (by kernel_rfl) ?_
  refine E.W.op (.pointer none) (fun w => by kernel_rfl) (by kernel_rfl) ?_
  refine E.W.op (.pointer none) (fun w => by kernel_rfl) (by kernel_rfl) ?_
  refine E.W.op (.bool true) (fun w => by kernel_rfl) (by kernel_rfl) ?_
  refine E.W.op (.bool true) (fun w => by kernel_rfl) (by kernel_rfl) ?_
  refine E.W.skip (by kernel_rfl) (by kernel_rfl) ?_
  refine E.W.skip (by kernel_rfl) (by kernel_rfl) ?_
  refine E.W.skip (by kernel_rfl) (by kernel_rfl) ?_
  refine E.W.skip (by kernel_rfl) (by kernel_rfl) ?_
  refine E.W.skip (by kernel_rfl) (by kernel_rfl) ?_
  refine E.W.skip (by kernel_rfl) (by kernel_rfl) ?_
  refine E.W.skip (by kernel_rfl) (by kernel_rfl) ?_
  refine E.W.skip (by kernel_rfl) (by kernel_rfl) ?_
  refine E.W.skip (by kernel_rfl) (by kernel_rfl) ?_
  refine E.W.skip (by kernel_rfl) (by kernel_rfl) ?_
  refine E.W.skip (by kernel_rfl) (by kernel_rfl) ?_
  refine E.W.skip (by kernel_rfl) (by kernel_rfl) ?_
  refine E.W.skip (by kernel_rfl) (by kernel_rfl) ?_
  refine E.W.skip (by kernel_rfl) (by kernel_rfl) ?_
  refine E.W.skip (by kernel_rfl) (by kernel_rfl) ?_
  refine E.W.op (.bool true) (fun w => by kernel_rfl) (by kernel_rfl) ?_
  refine E.W.op (.bool true) (fun w => by kernel_rfl) (by kernel_rfl) ?_
  refine E.W.done (E.To.code ?_)
  refine E.C.weak [(4, .bool true)] [] ⟨by kernel_rfl, by kernel_rfl⟩ (List.Sublist.refl _) ?_
  refine E.C.ret (E.To.body (fn := Try.f42) [.bool true] ?_ ?_)
  · exact ⟨⟨by kernel_rfl, by kernel_rfl⟩, trivial⟩
  · intro w h
    exact ⟨rfl, h.ch.bel (fun _ h => h.elim)⟩
/-- The comparison of two images, which are there or not. -/
theorem same_opt (o : M.Obj) (p q : Option Nat) (hn : p.isNone = q.isNone) (hp : ∀ x, p = some x → M.Pg o.sl x) (hq : ∀ x, q = some x → M.Pg o.sl x) (w : World) (hst : M.St o w) : Calls Try.prog 42 #[M.ptr p, M.ptr q] w fun e w' => e = .returned (.bool (match p, q with | some p, some q => ((p == q) || (M.eqv (o.C p) (o.C q) (List.range 256))) | _, _ => true)) ∧ Bel w w' := by
  cases p with
  | none =>
    cases q with
    | none => exact same_nil w
    | some q => cases hn
  | some p =>
    cases q with
    | none => cases hn
    | some q => exact same_some o p q (hp p rfl) (hq q rfl) w hst
end Go.Proofs.Ytdjjjikokfadiaa
