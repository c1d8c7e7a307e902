/- An argument that is an array of two integers is opened into its two integers; no condition but that it reads as one. -/
import Derived.Test.YtdjjjikokfadiaaRows
import Derived.WalkKit
import Derived.ProofKit
import Derived.OpenShut
import Derived.ShutString
import Derived.ChangeOld
import Derived.Below
import Derived.Carry
import Derived.ChangeMaps5
namespace Go.Proofs.Ytdjjjikokfadiaa
set_option linter.unusedVariables false
set_option linter.unusedSimpArgs false
open Go.ChangeShapes Go.WideShapes Go.ChangeAt Go.RowKit
open Go.ChangeMaps (open_string shut_string)
theorem own : ownKnob Try.prog.godebug = none := by kernel_rfl
theorem laidOut : laidOutB Try.prog = true := by kernel_rfl
theorem open_two {H : Type} {enc : TypeId × Value → H} {P : Program} {w : World} {base : Nat} {spare : Nat → Bool} {held : Bool} {r : Reach} {b0 : Nat} {t e : TypeId} {k : IntKind} {v : Value} {d : DataW H} {ps : List MemPlace}
    (ht : P.underlying t = some (.array 2 e)) (he : P.underlying e = some (.int k)) (hc : P.cellsOf e = 1) (hct : P.cellsOf t = 2) (hval : Value.okWide P w r b0 t v) (hd : DataW.Trod enc P w base spare held t v d ps) :
    ∃ a b, v = .agg #[.int k a, .int k b] ∧ (Lit.int k a).wf = true ∧ (Lit.int k b).wf = true := by
  obtain ⟨fuel, hf⟩ := hd
  have hv : ∃ cs, v = .agg cs ∧ cs.size = P.cellsOf t ∧ Row.okWide P w r b0 t cs := by
    unfold Value.okWide at hval; rw [ht] at hval; exact hval
  obtain ⟨cs, rfl, hs, _⟩ := hv
  obtain ⟨xs, m, _, _, hl, hx, hel⟩ := DataW.trod_array ht hf
  rw [hct] at hs
  have hs2 : cs.toList.length = 2 := by simpa using hs
  obtain ⟨x, y, hxy⟩ : ∃ x y, cs.toList = [x, y] := by
    match h : cs.toList, hs2 with
    | [x, y], _ => exact ⟨x, y, rfl⟩
  have hcs : cs = #[x, y] := by cases cs; simp_all
  subst hcs
  have h0 := hel 0 (by omega)
  have h1 := hel 1 (by omega)
  rw [hc] at h0 h1
  rw [List.getElem?_eq_getElem (by omega)] at h0 h1
  obtain ⟨a, ea, _, wa⟩ := DataW.trod_int he h0
  obtain ⟨b, eb, _, wb⟩ := DataW.trod_int he h1
  simp [Value.cells] at ea eb
  subst ea; subst eb
  exact ⟨a, b, rfl, wa, wb⟩
end Go.Proofs.Ytdjjjikokfadiaa
