/-
  No cell of these rows narrows 'for every input' (looked for: loops, veiled, ifaces, maps, wideKeys, modest, calm, conditions, laid).
  DERIVED. THE GIVEN ROWS OF THIS SEAT. 7 by the template 'for every input the law returns true; each argument reads behind the call as it read before'; 0 by the template 'total and deterministic' (their statements: YtgbndbljohpnmaaTotals.lean).
  GIVEN WITH THE SEED: the statements are not yours to turn. If you find one false, say at which input.
  Laid BY PROGRAM, IN A SANDBOX (cutbox-rows.mjs): the forced cells as the released guide's own fill.sh prints them over the translation 262c9702ac1d19f9… (all of the seat's roots in one cut). By AI agents, Wed Nov 11 2026. No macro, syntax, notation, axiom, sorry.
-/
import Derived.Test.YtgbndbljohpnmaaChecked
import GoSem.Claim
import GoSem.ClaimJoined
import GoSem.ClaimMapViews
import Derived.JoinedTies
import Derived.KernelRfl
namespace Go.Proofs.Ytgbndbljohpnmaa
/- THE CELL 'sum', in the pinned program and in every row, IS THE sha256 OF THE DUMP (.gsa) THAT YtgbndbljohpnmaaProg.lean LOADS. Nothing in Lean hashes anything: it is a label: what it is worth is what the hold of that sum in a sandbox is worth. -/
noncomputable def Try.pinned : Pinned := { name := "ytgbndbljohpnmaa", sum := "262c9702ac1d19f9b22a2c94e441318472f34216c8eb20c4f6df38a1b1aba46e", checked := Try.checked }
namespace Rows
def none {H : Type} : Left H := { results := [], args := [] }

/-- 'babellaw06.QcpuStates': WHATEVER THE INPUT: true; the input reads as it did. -/
def qcpuStatesSpec : ChangeSpec := { name := "qcpuStates", fn := fun _ => fun
  | [d1, d2, d3] => { results := [.lit (.bool true)], args := [d1, d2, d3] }
  | _ => none }
def qcpuStatesRow : OpenClaim := { program := "ytgbndbljohpnmaa", sum := "262c9702ac1d19f9b22a2c94e441318472f34216c8eb20c4f6df38a1b1aba46e", func := "babel/babellaw06.QcpuStates", spec := "qcpuStates", unfollowed := true, recurses := true, apart := false }
def QcpuStatesSaid : Prop := qcpuStatesRow.holds Try.pinned (OpenSpec.ofChange qcpuStatesSpec)

/-- ITS FALSE NEIGHBOUR: 'it returns false'. Refute it at one input. -/
def qcpuStatesWrong : ChangeSpec := { name := "qcpuStates", fn := fun _ => fun
  | [d1, d2, d3] => { results := [.lit (.bool false)], args := [d1, d2, d3] }
  | _ => none }
def QcpuStatesWrongFalsely : Prop := qcpuStatesRow.holds Try.pinned (OpenSpec.ofChange qcpuStatesWrong)

/-- 'babellaw06.QcpuZero': WHATEVER THE INPUT: true; the input reads as it did. -/
def qcpuZeroSpec : ChangeSpec := { name := "qcpuZero", fn := fun _ => fun
  | [d1, d2] => { results := [.lit (.bool true)], args := [d1, d2] }
  | _ => none }
def qcpuZeroRow : OpenClaim := { program := "ytgbndbljohpnmaa", sum := "262c9702ac1d19f9b22a2c94e441318472f34216c8eb20c4f6df38a1b1aba46e", func := "babel/babellaw06.QcpuZero", spec := "qcpuZero", unfollowed := true, recurses := true, apart := false }
def QcpuZeroSaid : Prop := qcpuZeroRow.holds Try.pinned (OpenSpec.ofChange qcpuZeroSpec)

/-- ITS FALSE NEIGHBOUR: 'it returns false'. Refute it at one input. -/
def qcpuZeroWrong : ChangeSpec := { name := "qcpuZero", fn := fun _ => fun
  | [d1, d2] => { results := [.lit (.bool false)], args := [d1, d2] }
  | _ => none }
def QcpuZeroWrongFalsely : Prop := qcpuZeroRow.holds Try.pinned (OpenSpec.ofChange qcpuZeroWrong)

/-- 'babellaw06.QcpuTimers': WHATEVER THE INPUT: true; the input reads as it did. -/
def qcpuTimersSpec : ChangeSpec := { name := "qcpuTimers", fn := fun _ => fun
  | [d1, d2, d3] => { results := [.lit (.bool true)], args := [d1, d2, d3] }
  | _ => none }
def qcpuTimersRow : OpenClaim := { program := "ytgbndbljohpnmaa", sum := "262c9702ac1d19f9b22a2c94e441318472f34216c8eb20c4f6df38a1b1aba46e", func := "babel/babellaw06.QcpuTimers", spec := "qcpuTimers", unfollowed := true, recurses := true, apart := false }
def QcpuTimersSaid : Prop := qcpuTimersRow.holds Try.pinned (OpenSpec.ofChange qcpuTimersSpec)

/-- ITS FALSE NEIGHBOUR: 'it returns false'. Refute it at one input. -/
def qcpuTimersWrong : ChangeSpec := { name := "qcpuTimers", fn := fun _ => fun
  | [d1, d2, d3] => { results := [.lit (.bool false)], args := [d1, d2, d3] }
  | _ => none }
def QcpuTimersWrongFalsely : Prop := qcpuTimersRow.holds Try.pinned (OpenSpec.ofChange qcpuTimersWrong)

/-- 'babellaw06.QcpuSyncs': WHATEVER THE INPUT: true; the input reads as it did. -/
def qcpuSyncsSpec : ChangeSpec := { name := "qcpuSyncs", fn := fun _ => fun
  | [d1, d2, d3] => { results := [.lit (.bool true)], args := [d1, d2, d3] }
  | _ => none }
def qcpuSyncsRow : OpenClaim := { program := "ytgbndbljohpnmaa", sum := "262c9702ac1d19f9b22a2c94e441318472f34216c8eb20c4f6df38a1b1aba46e", func := "babel/babellaw06.QcpuSyncs", spec := "qcpuSyncs", unfollowed := true, recurses := true, apart := false }
def QcpuSyncsSaid : Prop := qcpuSyncsRow.holds Try.pinned (OpenSpec.ofChange qcpuSyncsSpec)

/-- ITS FALSE NEIGHBOUR: 'it returns false'. Refute it at one input. -/
def qcpuSyncsWrong : ChangeSpec := { name := "qcpuSyncs", fn := fun _ => fun
  | [d1, d2, d3] => { results := [.lit (.bool false)], args := [d1, d2, d3] }
  | _ => none }
def QcpuSyncsWrongFalsely : Prop := qcpuSyncsRow.holds Try.pinned (OpenSpec.ofChange qcpuSyncsWrong)

/-- 'babellaw06.QcpuBranches': WHATEVER THE INPUT: true; the input reads as it did. -/
def qcpuBranchesSpec : ChangeSpec := { name := "qcpuBranches", fn := fun _ => fun
  | [d1, d2, d3] => { results := [.lit (.bool true)], args := [d1, d2, d3] }
  | _ => none }
def qcpuBranchesRow : OpenClaim := { program := "ytgbndbljohpnmaa", sum := "262c9702ac1d19f9b22a2c94e441318472f34216c8eb20c4f6df38a1b1aba46e", func := "babel/babellaw06.QcpuBranches", spec := "qcpuBranches", unfollowed := true, recurses := true, apart := false }
def QcpuBranchesSaid : Prop := qcpuBranchesRow.holds Try.pinned (OpenSpec.ofChange qcpuBranchesSpec)

/-- ITS FALSE NEIGHBOUR: 'it returns false'. Refute it at one input. -/
def qcpuBranchesWrong : ChangeSpec := { name := "qcpuBranches", fn := fun _ => fun
  | [d1, d2, d3] => { results := [.lit (.bool false)], args := [d1, d2, d3] }
  | _ => none }
def QcpuBranchesWrongFalsely : Prop := qcpuBranchesRow.holds Try.pinned (OpenSpec.ofChange qcpuBranchesWrong)

/-- 'babellaw06.QcpuConsts': WHATEVER THE INPUT: true; the input reads as it did. -/
def qcpuConstsSpec : ChangeSpec := { name := "qcpuConsts", fn := fun _ => fun
  | [d1, d2, d3] => { results := [.lit (.bool true)], args := [d1, d2, d3] }
  | _ => none }
def qcpuConstsRow : OpenClaim := { program := "ytgbndbljohpnmaa", sum := "262c9702ac1d19f9b22a2c94e441318472f34216c8eb20c4f6df38a1b1aba46e", func := "babel/babellaw06.QcpuConsts", spec := "qcpuConsts", unfollowed := true, recurses := true, apart := false }
def QcpuConstsSaid : Prop := qcpuConstsRow.holds Try.pinned (OpenSpec.ofChange qcpuConstsSpec)

/-- ITS FALSE NEIGHBOUR: 'it returns false'. Refute it at one input. -/
def qcpuConstsWrong : ChangeSpec := { name := "qcpuConsts", fn := fun _ => fun
  | [d1, d2, d3] => { results := [.lit (.bool false)], args := [d1, d2, d3] }
  | _ => none }
def QcpuConstsWrongFalsely : Prop := qcpuConstsRow.holds Try.pinned (OpenSpec.ofChange qcpuConstsWrong)

/-- 'babellaw06.QcpuMemory': WHATEVER THE INPUT: true; the input reads as it did. -/
def qcpuMemorySpec : ChangeSpec := { name := "qcpuMemory", fn := fun _ => fun
  | [d1, d2, d3] => { results := [.lit (.bool true)], args := [d1, d2, d3] }
  | _ => none }
def qcpuMemoryRow : OpenClaim := { program := "ytgbndbljohpnmaa", sum := "262c9702ac1d19f9b22a2c94e441318472f34216c8eb20c4f6df38a1b1aba46e", func := "babel/babellaw06.QcpuMemory", spec := "qcpuMemory", unfollowed := true, recurses := true, apart := false }
def QcpuMemorySaid : Prop := qcpuMemoryRow.holds Try.pinned (OpenSpec.ofChange qcpuMemorySpec)

/-- ITS FALSE NEIGHBOUR: 'it returns false'. Refute it at one input. -/
def qcpuMemoryWrong : ChangeSpec := { name := "qcpuMemory", fn := fun _ => fun
  | [d1, d2, d3] => { results := [.lit (.bool false)], args := [d1, d2, d3] }
  | _ => none }
def QcpuMemoryWrongFalsely : Prop := qcpuMemoryRow.holds Try.pinned (OpenSpec.ofChange qcpuMemoryWrong)

/- THE SECOND FORM. 'bulk': how many values and letters a reading holds, each counted each time it is reached (what is shared counts as often as it is met; a slice's spare places count too). A statement '..UptoSaid' is the law's where the arguments, and the package variables that the reading takes, are together of bulk at most 1048576: NARROWER than '..Said'. Prove '..Said' where nothing that the law and all that it calls make is longer than what came in: it says more and counts as full. Else prove '..UptoSaid'. A law counts once. -/
mutual
def uptoBulk {H : Type} : DataW H → Nat
  | .lit (.string bytes) => bytes.length + 1
  | .lit _ => 1
  | .nil => 1
  | .ptr d => uptoBulk d + 1
  | .slice elems spare => uptoBulkAll elems + uptoBulkAll spare + 1
  | .agg parts => uptoBulkAll parts + 1
  | .iface _ d => uptoBulk d + 1
  | .map entries => uptoBulkEntries entries + 1
  | .held _ => 1
def uptoBulkAll {H : Type} : List (DataW H) → Nat
  | [] => 0
  | d :: r => uptoBulk d + uptoBulkAll r
def uptoBulkEntries {H : Type} : List (Lit × DataW H) → Nat
  | [] => 0
  | x :: r => uptoBulkEntry x + uptoBulkEntries r
def uptoBulkEntry {H : Type} : Lit × DataW H → Nat
  | (.string bytes, d) => bytes.length + uptoBulk d + 1
  | (_, d) => uptoBulk d + 1
 end
def uptoSmall : (H : Type) → List (DataW H) → Bool := fun _ ds => decide (uptoBulkAll ds ≤ 1048576)
def OpenSpec.upto (s : _root_.Go.ChangeSpec) : _root_.Go.OpenSpec := { _root_.Go.OpenSpec.ofChange s with cond := some uptoSmall }

/-- 'babellaw06.QcpuStates', WHERE WHAT IT READS IS OF BULK AT MOST 1048576: true; the input reads as it did. -/
def qcpuStatesUptoRow : OpenClaim := { program := "ytgbndbljohpnmaa", sum := "262c9702ac1d19f9b22a2c94e441318472f34216c8eb20c4f6df38a1b1aba46e", func := "babel/babellaw06.QcpuStates", spec := "qcpuStates", unfollowed := true, recurses := true, apart := false, narrowed := true }
def QcpuStatesUptoSaid : Prop := qcpuStatesUptoRow.holds Try.pinned (OpenSpec.upto qcpuStatesSpec)

/-- 'babellaw06.QcpuZero', WHERE WHAT IT READS IS OF BULK AT MOST 1048576: true; the input reads as it did. -/
def qcpuZeroUptoRow : OpenClaim := { program := "ytgbndbljohpnmaa", sum := "262c9702ac1d19f9b22a2c94e441318472f34216c8eb20c4f6df38a1b1aba46e", func := "babel/babellaw06.QcpuZero", spec := "qcpuZero", unfollowed := true, recurses := true, apart := false, narrowed := true }
def QcpuZeroUptoSaid : Prop := qcpuZeroUptoRow.holds Try.pinned (OpenSpec.upto qcpuZeroSpec)

/-- 'babellaw06.QcpuTimers', WHERE WHAT IT READS IS OF BULK AT MOST 1048576: true; the input reads as it did. -/
def qcpuTimersUptoRow : OpenClaim := { program := "ytgbndbljohpnmaa", sum := "262c9702ac1d19f9b22a2c94e441318472f34216c8eb20c4f6df38a1b1aba46e", func := "babel/babellaw06.QcpuTimers", spec := "qcpuTimers", unfollowed := true, recurses := true, apart := false, narrowed := true }
def QcpuTimersUptoSaid : Prop := qcpuTimersUptoRow.holds Try.pinned (OpenSpec.upto qcpuTimersSpec)

/-- 'babellaw06.QcpuSyncs', WHERE WHAT IT READS IS OF BULK AT MOST 1048576: true; the input reads as it did. -/
def qcpuSyncsUptoRow : OpenClaim := { program := "ytgbndbljohpnmaa", sum := "262c9702ac1d19f9b22a2c94e441318472f34216c8eb20c4f6df38a1b1aba46e", func := "babel/babellaw06.QcpuSyncs", spec := "qcpuSyncs", unfollowed := true, recurses := true, apart := false, narrowed := true }
def QcpuSyncsUptoSaid : Prop := qcpuSyncsUptoRow.holds Try.pinned (OpenSpec.upto qcpuSyncsSpec)

/-- 'babellaw06.QcpuBranches', WHERE WHAT IT READS IS OF BULK AT MOST 1048576: true; the input reads as it did. -/
def qcpuBranchesUptoRow : OpenClaim := { program := "ytgbndbljohpnmaa", sum := "262c9702ac1d19f9b22a2c94e441318472f34216c8eb20c4f6df38a1b1aba46e", func := "babel/babellaw06.QcpuBranches", spec := "qcpuBranches", unfollowed := true, recurses := true, apart := false, narrowed := true }
def QcpuBranchesUptoSaid : Prop := qcpuBranchesUptoRow.holds Try.pinned (OpenSpec.upto qcpuBranchesSpec)

/-- 'babellaw06.QcpuConsts', WHERE WHAT IT READS IS OF BULK AT MOST 1048576: true; the input reads as it did. -/
def qcpuConstsUptoRow : OpenClaim := { program := "ytgbndbljohpnmaa", sum := "262c9702ac1d19f9b22a2c94e441318472f34216c8eb20c4f6df38a1b1aba46e", func := "babel/babellaw06.QcpuConsts", spec := "qcpuConsts", unfollowed := true, recurses := true, apart := false, narrowed := true }
def QcpuConstsUptoSaid : Prop := qcpuConstsUptoRow.holds Try.pinned (OpenSpec.upto qcpuConstsSpec)

/-- 'babellaw06.QcpuMemory', WHERE WHAT IT READS IS OF BULK AT MOST 1048576: true; the input reads as it did. -/
def qcpuMemoryUptoRow : OpenClaim := { program := "ytgbndbljohpnmaa", sum := "262c9702ac1d19f9b22a2c94e441318472f34216c8eb20c4f6df38a1b1aba46e", func := "babel/babellaw06.QcpuMemory", spec := "qcpuMemory", unfollowed := true, recurses := true, apart := false, narrowed := true }
def QcpuMemoryUptoSaid : Prop := qcpuMemoryUptoRow.holds Try.pinned (OpenSpec.upto qcpuMemorySpec)

end Rows
end Go.Proofs.Ytgbndbljohpnmaa
