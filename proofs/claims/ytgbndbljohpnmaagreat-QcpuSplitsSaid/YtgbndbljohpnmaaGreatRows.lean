/-
  No cell of these rows narrows 'for every input' (looked for: loops, veiled, ifaces, maps, wideKeys, modest, calm, conditions, laid).
  DERIVED. THE GIVEN ROWS OF THIS SEAT. 5 by the template 'for every input the law returns true; each argument reads behind the call as it read before'; 0 by the template 'total and deterministic' (their statements: YtgbndbljohpnmaaGreatTotals.lean).
  GIVEN WITH THE SEED: the statements are not yours to turn. If you find one false, say at which input.
  Laid BY PROGRAM, IN A SANDBOX (cutbox-rows.mjs): the forced cells as the released guide's own fill.sh prints them over the translation 96640e15537cf7cf… (all of the seat's roots in one cut). By AI agents, Wed Nov 11 2026. No macro, syntax, notation, axiom, sorry.
-/
import Derived.Test.YtgbndbljohpnmaaGreatChecked
import GoSem.Claim
import GoSem.ClaimJoined
import GoSem.ClaimMapViews
import Derived.JoinedTies
import Derived.KernelRfl
namespace Go.Proofs.YtgbndbljohpnmaaGreat
/- THE CELL 'sum', in the pinned program and in every row, IS THE sha256 OF THE DUMP (.gsa) THAT YtgbndbljohpnmaaGreatProg.lean LOADS. Nothing in Lean hashes anything: it is a label: what it is worth is what the hold of that sum in a sandbox is worth. -/
noncomputable def Tryz.pinned : Pinned := { name := "ytgbndbljohpnmaagreat", sum := "96640e15537cf7cf77e40508e9df05d6807c7deb90b7432f653835af0909beee", checked := Tryz.checked }
namespace Rows
def none {H : Type} : Left H := { results := [], args := [] }

/-- 'babellaw06.QcpuSteps': WHATEVER THE INPUT: true; the input reads as it did. -/
def qcpuStepsSpec : ChangeSpec := { name := "qcpuSteps", fn := fun _ => fun
  | [d1, d2, d3] => { results := [.lit (.bool true)], args := [d1, d2, d3] }
  | _ => none }
def qcpuStepsRow : OpenClaim := { program := "ytgbndbljohpnmaagreat", sum := "96640e15537cf7cf77e40508e9df05d6807c7deb90b7432f653835af0909beee", func := "babel/babellaw06.QcpuSteps", spec := "qcpuSteps", unfollowed := true, recurses := true, apart := false }
def QcpuStepsSaid : Prop := qcpuStepsRow.holds Tryz.pinned (OpenSpec.ofChange qcpuStepsSpec)

/-- ITS FALSE NEIGHBOUR: 'it returns false'. Refute it at one input. -/
def qcpuStepsWrong : ChangeSpec := { name := "qcpuSteps", fn := fun _ => fun
  | [d1, d2, d3] => { results := [.lit (.bool false)], args := [d1, d2, d3] }
  | _ => none }
def QcpuStepsWrongFalsely : Prop := qcpuStepsRow.holds Tryz.pinned (OpenSpec.ofChange qcpuStepsWrong)

/-- 'babellaw06.QcpuRuns': WHATEVER THE INPUT: true; the input reads as it did. -/
def qcpuRunsSpec : ChangeSpec := { name := "qcpuRuns", fn := fun _ => fun
  | [d1, d2, d3] => { results := [.lit (.bool true)], args := [d1, d2, d3] }
  | _ => none }
def qcpuRunsRow : OpenClaim := { program := "ytgbndbljohpnmaagreat", sum := "96640e15537cf7cf77e40508e9df05d6807c7deb90b7432f653835af0909beee", func := "babel/babellaw06.QcpuRuns", spec := "qcpuRuns", unfollowed := true, recurses := true, apart := false }
def QcpuRunsSaid : Prop := qcpuRunsRow.holds Tryz.pinned (OpenSpec.ofChange qcpuRunsSpec)

/-- ITS FALSE NEIGHBOUR: 'it returns false'. Refute it at one input. -/
def qcpuRunsWrong : ChangeSpec := { name := "qcpuRuns", fn := fun _ => fun
  | [d1, d2, d3] => { results := [.lit (.bool false)], args := [d1, d2, d3] }
  | _ => none }
def QcpuRunsWrongFalsely : Prop := qcpuRunsRow.holds Tryz.pinned (OpenSpec.ofChange qcpuRunsWrong)

/-- 'babellaw06.QcpuSplits': WHATEVER THE INPUT: true; the input reads as it did. -/
def qcpuSplitsSpec : ChangeSpec := { name := "qcpuSplits", fn := fun _ => fun
  | [d1, d2, d3] => { results := [.lit (.bool true)], args := [d1, d2, d3] }
  | _ => none }
def qcpuSplitsRow : OpenClaim := { program := "ytgbndbljohpnmaagreat", sum := "96640e15537cf7cf77e40508e9df05d6807c7deb90b7432f653835af0909beee", func := "babel/babellaw06.QcpuSplits", spec := "qcpuSplits", unfollowed := true, recurses := true, apart := false }
def QcpuSplitsSaid : Prop := qcpuSplitsRow.holds Tryz.pinned (OpenSpec.ofChange qcpuSplitsSpec)

/-- ITS FALSE NEIGHBOUR: 'it returns false'. Refute it at one input. -/
def qcpuSplitsWrong : ChangeSpec := { name := "qcpuSplits", fn := fun _ => fun
  | [d1, d2, d3] => { results := [.lit (.bool false)], args := [d1, d2, d3] }
  | _ => none }
def QcpuSplitsWrongFalsely : Prop := qcpuSplitsRow.holds Tryz.pinned (OpenSpec.ofChange qcpuSplitsWrong)

/-- 'babellaw06.QcpuStops': WHATEVER THE INPUT: true; the input reads as it did. -/
def qcpuStopsSpec : ChangeSpec := { name := "qcpuStops", fn := fun _ => fun
  | [d1, d2, d3] => { results := [.lit (.bool true)], args := [d1, d2, d3] }
  | _ => none }
def qcpuStopsRow : OpenClaim := { program := "ytgbndbljohpnmaagreat", sum := "96640e15537cf7cf77e40508e9df05d6807c7deb90b7432f653835af0909beee", func := "babel/babellaw06.QcpuStops", spec := "qcpuStops", unfollowed := true, recurses := true, apart := false }
def QcpuStopsSaid : Prop := qcpuStopsRow.holds Tryz.pinned (OpenSpec.ofChange qcpuStopsSpec)

/-- ITS FALSE NEIGHBOUR: 'it returns false'. Refute it at one input. -/
def qcpuStopsWrong : ChangeSpec := { name := "qcpuStops", fn := fun _ => fun
  | [d1, d2, d3] => { results := [.lit (.bool false)], args := [d1, d2, d3] }
  | _ => none }
def QcpuStopsWrongFalsely : Prop := qcpuStopsRow.holds Tryz.pinned (OpenSpec.ofChange qcpuStopsWrong)

/-- 'babellaw06.QcpuFaults': WHATEVER THE INPUT: true; the input reads as it did. -/
def qcpuFaultsSpec : ChangeSpec := { name := "qcpuFaults", fn := fun _ => fun
  | [d1, d2, d3] => { results := [.lit (.bool true)], args := [d1, d2, d3] }
  | _ => none }
def qcpuFaultsRow : OpenClaim := { program := "ytgbndbljohpnmaagreat", sum := "96640e15537cf7cf77e40508e9df05d6807c7deb90b7432f653835af0909beee", func := "babel/babellaw06.QcpuFaults", spec := "qcpuFaults", unfollowed := true, recurses := true, apart := false }
def QcpuFaultsSaid : Prop := qcpuFaultsRow.holds Tryz.pinned (OpenSpec.ofChange qcpuFaultsSpec)

/-- ITS FALSE NEIGHBOUR: 'it returns false'. Refute it at one input. -/
def qcpuFaultsWrong : ChangeSpec := { name := "qcpuFaults", fn := fun _ => fun
  | [d1, d2, d3] => { results := [.lit (.bool false)], args := [d1, d2, d3] }
  | _ => none }
def QcpuFaultsWrongFalsely : Prop := qcpuFaultsRow.holds Tryz.pinned (OpenSpec.ofChange qcpuFaultsWrong)

/- THE SECOND FORM. 'bulk': how many values and letters a reading holds, each counted each time it is reached (what is shared counts as often as it is met; a slice's spare places count too). A statement '..UptoSaid' is the law's where the arguments, and the package variables that the reading takes, are together of bulk at most 1048576: NARROWER than '..Said'. Prove '..Said' where nothing that the law and all that it calls make is longer than what came in: it says more and counts as full. Else prove '..UptoSaid'. A law counts once. -/
mutual
def uptoBulk {H : Type} : DataW H → Nat
  | .lit (.string bytes) => bytes.length + 1
  | .lit _ => 1
  | .nil => 1
  | .ptr d => uptoBulk d + 1
  | .slice elems spare => uptoBulkAll elems + uptoBulkAll spare + 1
  | .agg parts => uptoBulkAll parts + 1
  | .iface _ d => uptoBulk d + 1
  | .map entries => uptoBulkEntries entries + 1
  | .held _ => 1
def uptoBulkAll {H : Type} : List (DataW H) → Nat
  | [] => 0
  | d :: r => uptoBulk d + uptoBulkAll r
def uptoBulkEntries {H : Type} : List (Lit × DataW H) → Nat
  | [] => 0
  | x :: r => uptoBulkEntry x + uptoBulkEntries r
def uptoBulkEntry {H : Type} : Lit × DataW H → Nat
  | (.string bytes, d) => bytes.length + uptoBulk d + 1
  | (_, d) => uptoBulk d + 1
 end
def uptoSmall : (H : Type) → List (DataW H) → Bool := fun _ ds => decide (uptoBulkAll ds ≤ 1048576)
def OpenSpec.upto (s : _root_.Go.ChangeSpec) : _root_.Go.OpenSpec := { _root_.Go.OpenSpec.ofChange s with cond := some uptoSmall }

/-- 'babellaw06.QcpuSteps', WHERE WHAT IT READS IS OF BULK AT MOST 1048576: true; the input reads as it did. -/
def qcpuStepsUptoRow : OpenClaim := { program := "ytgbndbljohpnmaagreat", sum := "96640e15537cf7cf77e40508e9df05d6807c7deb90b7432f653835af0909beee", func := "babel/babellaw06.QcpuSteps", spec := "qcpuSteps", unfollowed := true, recurses := true, apart := false, narrowed := true }
def QcpuStepsUptoSaid : Prop := qcpuStepsUptoRow.holds Tryz.pinned (OpenSpec.upto qcpuStepsSpec)

/-- 'babellaw06.QcpuRuns', WHERE WHAT IT READS IS OF BULK AT MOST 1048576: true; the input reads as it did. -/
def qcpuRunsUptoRow : OpenClaim := { program := "ytgbndbljohpnmaagreat", sum := "96640e15537cf7cf77e40508e9df05d6807c7deb90b7432f653835af0909beee", func := "babel/babellaw06.QcpuRuns", spec := "qcpuRuns", unfollowed := true, recurses := true, apart := false, narrowed := true }
def QcpuRunsUptoSaid : Prop := qcpuRunsUptoRow.holds Tryz.pinned (OpenSpec.upto qcpuRunsSpec)

/-- 'babellaw06.QcpuSplits', WHERE WHAT IT READS IS OF BULK AT MOST 1048576: true; the input reads as it did. -/
def qcpuSplitsUptoRow : OpenClaim := { program := "ytgbndbljohpnmaagreat", sum := "96640e15537cf7cf77e40508e9df05d6807c7deb90b7432f653835af0909beee", func := "babel/babellaw06.QcpuSplits", spec := "qcpuSplits", unfollowed := true, recurses := true, apart := false, narrowed := true }
def QcpuSplitsUptoSaid : Prop := qcpuSplitsUptoRow.holds Tryz.pinned (OpenSpec.upto qcpuSplitsSpec)

/-- 'babellaw06.QcpuStops', WHERE WHAT IT READS IS OF BULK AT MOST 1048576: true; the input reads as it did. -/
def qcpuStopsUptoRow : OpenClaim := { program := "ytgbndbljohpnmaagreat", sum := "96640e15537cf7cf77e40508e9df05d6807c7deb90b7432f653835af0909beee", func := "babel/babellaw06.QcpuStops", spec := "qcpuStops", unfollowed := true, recurses := true, apart := false, narrowed := true }
def QcpuStopsUptoSaid : Prop := qcpuStopsUptoRow.holds Tryz.pinned (OpenSpec.upto qcpuStopsSpec)

/-- 'babellaw06.QcpuFaults', WHERE WHAT IT READS IS OF BULK AT MOST 1048576: true; the input reads as it did. -/
def qcpuFaultsUptoRow : OpenClaim := { program := "ytgbndbljohpnmaagreat", sum := "96640e15537cf7cf77e40508e9df05d6807c7deb90b7432f653835af0909beee", func := "babel/babellaw06.QcpuFaults", spec := "qcpuFaults", unfollowed := true, recurses := true, apart := false, narrowed := true }
def QcpuFaultsUptoSaid : Prop := qcpuFaultsUptoRow.holds Tryz.pinned (OpenSpec.upto qcpuFaultsSpec)

end Rows
end Go.Proofs.YtgbndbljohpnmaaGreat
