/-
  No cell of these rows narrows 'for every input' (looked for: loops, veiled, ifaces, maps, wideKeys, modest, calm, conditions, laid).
  DERIVED. THE GIVEN ROWS OF THIS SEAT. 12 by the template 'for every input the law returns true; each argument reads behind the call as it read before'; 0 by the template 'total and deterministic' (their statements: YtglidnmmeclneaaGreatTotals.lean).
  GIVEN WITH THE SEED: the statements are not yours to turn. If you find one false, say at which input.
  Laid BY PROGRAM, IN A SANDBOX (cutbox-rows.mjs): the forced cells as the released guide's own fill.sh prints them over the translation 7a3863dd45bc9d04… (all of the seat's roots in one cut). By AI agents, Wed Nov 11 2026. No macro, syntax, notation, axiom, sorry.
-/
import Derived.Test.YtglidnmmeclneaaGreatChecked
import GoSem.Claim
import GoSem.ClaimJoined
import GoSem.ClaimMapViews
import Derived.JoinedTies
import Derived.KernelRfl
namespace Go.Proofs.YtglidnmmeclneaaGreat
/- THE CELL 'sum', in the pinned program and in every row, IS THE sha256 OF THE DUMP (.gsa) THAT YtglidnmmeclneaaGreatProg.lean LOADS. Nothing in Lean hashes anything: it is a label: what it is worth is what the hold of that sum in a sandbox is worth. -/
noncomputable def Tryz.pinned : Pinned := { name := "ytglidnmmeclneaagreat", sum := "7a3863dd45bc9d04f4831063cf29ebea3da0c12a390e23d0a304f409e08ee0a1", checked := Tryz.checked }
namespace Rows
def none {H : Type} : Left H := { results := [], args := [] }

/-- 'babellaw05.KcpuStep': WHATEVER THE INPUT: true; the input reads as it did. -/
def kcpuStepSpec : ChangeSpec := { name := "kcpuStep", fn := fun _ => fun
  | [d] => { results := [.lit (.bool true)], args := [d] }
  | _ => none }
def kcpuStepRow : OpenClaim := { program := "ytglidnmmeclneaagreat", sum := "7a3863dd45bc9d04f4831063cf29ebea3da0c12a390e23d0a304f409e08ee0a1", func := "babel/babellaw05.KcpuStep", spec := "kcpuStep", unfollowed := true, recurses := true, apart := false }
def KcpuStepSaid : Prop := kcpuStepRow.holds Tryz.pinned (OpenSpec.ofChange kcpuStepSpec)

/-- ITS FALSE NEIGHBOUR: 'it returns false'. Refute it at one input. -/
def kcpuStepWrong : ChangeSpec := { name := "kcpuStep", fn := fun _ => fun
  | [d] => { results := [.lit (.bool false)], args := [d] }
  | _ => none }
def KcpuStepWrongFalsely : Prop := kcpuStepRow.holds Tryz.pinned (OpenSpec.ofChange kcpuStepWrong)

/-- 'babellaw05.KcpuTimer': WHATEVER THE INPUT: true; the input reads as it did. -/
def kcpuTimerSpec : ChangeSpec := { name := "kcpuTimer", fn := fun _ => fun
  | [d1, d2, d3] => { results := [.lit (.bool true)], args := [d1, d2, d3] }
  | _ => none }
def kcpuTimerRow : OpenClaim := { program := "ytglidnmmeclneaagreat", sum := "7a3863dd45bc9d04f4831063cf29ebea3da0c12a390e23d0a304f409e08ee0a1", func := "babel/babellaw05.KcpuTimer", spec := "kcpuTimer", unfollowed := true, recurses := true, apart := false }
def KcpuTimerSaid : Prop := kcpuTimerRow.holds Tryz.pinned (OpenSpec.ofChange kcpuTimerSpec)

/-- ITS FALSE NEIGHBOUR: 'it returns false'. Refute it at one input. -/
def kcpuTimerWrong : ChangeSpec := { name := "kcpuTimer", fn := fun _ => fun
  | [d1, d2, d3] => { results := [.lit (.bool false)], args := [d1, d2, d3] }
  | _ => none }
def KcpuTimerWrongFalsely : Prop := kcpuTimerRow.holds Tryz.pinned (OpenSpec.ofChange kcpuTimerWrong)

/-- 'babellaw05.KcpuArith': WHATEVER THE INPUT: true; the input reads as it did. -/
def kcpuArithSpec : ChangeSpec := { name := "kcpuArith", fn := fun _ => fun
  | [d1, d2, d3] => { results := [.lit (.bool true)], args := [d1, d2, d3] }
  | _ => none }
def kcpuArithRow : OpenClaim := { program := "ytglidnmmeclneaagreat", sum := "7a3863dd45bc9d04f4831063cf29ebea3da0c12a390e23d0a304f409e08ee0a1", func := "babel/babellaw05.KcpuArith", spec := "kcpuArith", unfollowed := true, recurses := true, apart := false }
def KcpuArithSaid : Prop := kcpuArithRow.holds Tryz.pinned (OpenSpec.ofChange kcpuArithSpec)

/-- ITS FALSE NEIGHBOUR: 'it returns false'. Refute it at one input. -/
def kcpuArithWrong : ChangeSpec := { name := "kcpuArith", fn := fun _ => fun
  | [d1, d2, d3] => { results := [.lit (.bool false)], args := [d1, d2, d3] }
  | _ => none }
def KcpuArithWrongFalsely : Prop := kcpuArithRow.holds Tryz.pinned (OpenSpec.ofChange kcpuArithWrong)

/-- 'babellaw05.KcpuJumps': WHATEVER THE INPUT: true; the input reads as it did. -/
def kcpuJumpsSpec : ChangeSpec := { name := "kcpuJumps", fn := fun _ => fun
  | [d1, d2, d3] => { results := [.lit (.bool true)], args := [d1, d2, d3] }
  | _ => none }
def kcpuJumpsRow : OpenClaim := { program := "ytglidnmmeclneaagreat", sum := "7a3863dd45bc9d04f4831063cf29ebea3da0c12a390e23d0a304f409e08ee0a1", func := "babel/babellaw05.KcpuJumps", spec := "kcpuJumps", unfollowed := true, recurses := true, apart := false }
def KcpuJumpsSaid : Prop := kcpuJumpsRow.holds Tryz.pinned (OpenSpec.ofChange kcpuJumpsSpec)

/-- ITS FALSE NEIGHBOUR: 'it returns false'. Refute it at one input. -/
def kcpuJumpsWrong : ChangeSpec := { name := "kcpuJumps", fn := fun _ => fun
  | [d1, d2, d3] => { results := [.lit (.bool false)], args := [d1, d2, d3] }
  | _ => none }
def KcpuJumpsWrongFalsely : Prop := kcpuJumpsRow.holds Tryz.pinned (OpenSpec.ofChange kcpuJumpsWrong)

/-- 'babellaw05.KcpuAddress': WHATEVER THE INPUT: true; the input reads as it did. -/
def kcpuAddressSpec : ChangeSpec := { name := "kcpuAddress", fn := fun _ => fun
  | [d1, d2, d3] => { results := [.lit (.bool true)], args := [d1, d2, d3] }
  | _ => none }
def kcpuAddressRow : OpenClaim := { program := "ytglidnmmeclneaagreat", sum := "7a3863dd45bc9d04f4831063cf29ebea3da0c12a390e23d0a304f409e08ee0a1", func := "babel/babellaw05.KcpuAddress", spec := "kcpuAddress", unfollowed := true, recurses := true, apart := false }
def KcpuAddressSaid : Prop := kcpuAddressRow.holds Tryz.pinned (OpenSpec.ofChange kcpuAddressSpec)

/-- ITS FALSE NEIGHBOUR: 'it returns false'. Refute it at one input. -/
def kcpuAddressWrong : ChangeSpec := { name := "kcpuAddress", fn := fun _ => fun
  | [d1, d2, d3] => { results := [.lit (.bool false)], args := [d1, d2, d3] }
  | _ => none }
def KcpuAddressWrongFalsely : Prop := kcpuAddressRow.holds Tryz.pinned (OpenSpec.ofChange kcpuAddressWrong)

/-- 'babellaw05.KcpuControl': WHATEVER THE INPUT: true; the input reads as it did. -/
def kcpuControlSpec : ChangeSpec := { name := "kcpuControl", fn := fun _ => fun
  | [d1, d2, d3] => { results := [.lit (.bool true)], args := [d1, d2, d3] }
  | _ => none }
def kcpuControlRow : OpenClaim := { program := "ytglidnmmeclneaagreat", sum := "7a3863dd45bc9d04f4831063cf29ebea3da0c12a390e23d0a304f409e08ee0a1", func := "babel/babellaw05.KcpuControl", spec := "kcpuControl", unfollowed := true, recurses := true, apart := false }
def KcpuControlSaid : Prop := kcpuControlRow.holds Tryz.pinned (OpenSpec.ofChange kcpuControlSpec)

/-- ITS FALSE NEIGHBOUR: 'it returns false'. Refute it at one input. -/
def kcpuControlWrong : ChangeSpec := { name := "kcpuControl", fn := fun _ => fun
  | [d1, d2, d3] => { results := [.lit (.bool false)], args := [d1, d2, d3] }
  | _ => none }
def KcpuControlWrongFalsely : Prop := kcpuControlRow.holds Tryz.pinned (OpenSpec.ofChange kcpuControlWrong)

/-- 'babellaw05.KcpuRuns': WHATEVER THE INPUT: true; the input reads as it did. -/
def kcpuRunsSpec : ChangeSpec := { name := "kcpuRuns", fn := fun _ => fun
  | [d1, d2] => { results := [.lit (.bool true)], args := [d1, d2] }
  | _ => none }
def kcpuRunsRow : OpenClaim := { program := "ytglidnmmeclneaagreat", sum := "7a3863dd45bc9d04f4831063cf29ebea3da0c12a390e23d0a304f409e08ee0a1", func := "babel/babellaw05.KcpuRuns", spec := "kcpuRuns", unfollowed := true, recurses := true, apart := false }
def KcpuRunsSaid : Prop := kcpuRunsRow.holds Tryz.pinned (OpenSpec.ofChange kcpuRunsSpec)

/-- ITS FALSE NEIGHBOUR: 'it returns false'. Refute it at one input. -/
def kcpuRunsWrong : ChangeSpec := { name := "kcpuRuns", fn := fun _ => fun
  | [d1, d2] => { results := [.lit (.bool false)], args := [d1, d2] }
  | _ => none }
def KcpuRunsWrongFalsely : Prop := kcpuRunsRow.holds Tryz.pinned (OpenSpec.ofChange kcpuRunsWrong)

/-- 'babellaw05.KcpuParts': WHATEVER THE INPUT: true; the input reads as it did. -/
def kcpuPartsSpec : ChangeSpec := { name := "kcpuParts", fn := fun _ => fun
  | [d1, d2, d3] => { results := [.lit (.bool true)], args := [d1, d2, d3] }
  | _ => none }
def kcpuPartsRow : OpenClaim := { program := "ytglidnmmeclneaagreat", sum := "7a3863dd45bc9d04f4831063cf29ebea3da0c12a390e23d0a304f409e08ee0a1", func := "babel/babellaw05.KcpuParts", spec := "kcpuParts", unfollowed := true, recurses := true, apart := false }
def KcpuPartsSaid : Prop := kcpuPartsRow.holds Tryz.pinned (OpenSpec.ofChange kcpuPartsSpec)

/-- ITS FALSE NEIGHBOUR: 'it returns false'. Refute it at one input. -/
def kcpuPartsWrong : ChangeSpec := { name := "kcpuParts", fn := fun _ => fun
  | [d1, d2, d3] => { results := [.lit (.bool false)], args := [d1, d2, d3] }
  | _ => none }
def KcpuPartsWrongFalsely : Prop := kcpuPartsRow.holds Tryz.pinned (OpenSpec.ofChange kcpuPartsWrong)

/-- 'babellaw05.KcpuTraps': WHATEVER THE INPUT: true; the input reads as it did. -/
def kcpuTrapsSpec : ChangeSpec := { name := "kcpuTraps", fn := fun _ => fun
  | [d1, d2] => { results := [.lit (.bool true)], args := [d1, d2] }
  | _ => none }
def kcpuTrapsRow : OpenClaim := { program := "ytglidnmmeclneaagreat", sum := "7a3863dd45bc9d04f4831063cf29ebea3da0c12a390e23d0a304f409e08ee0a1", func := "babel/babellaw05.KcpuTraps", spec := "kcpuTraps", unfollowed := true, recurses := true, apart := false }
def KcpuTrapsSaid : Prop := kcpuTrapsRow.holds Tryz.pinned (OpenSpec.ofChange kcpuTrapsSpec)

/-- ITS FALSE NEIGHBOUR: 'it returns false'. Refute it at one input. -/
def kcpuTrapsWrong : ChangeSpec := { name := "kcpuTraps", fn := fun _ => fun
  | [d1, d2] => { results := [.lit (.bool false)], args := [d1, d2] }
  | _ => none }
def KcpuTrapsWrongFalsely : Prop := kcpuTrapsRow.holds Tryz.pinned (OpenSpec.ofChange kcpuTrapsWrong)

/-- 'babellaw05.KcpuStack': WHATEVER THE INPUT: true; the input reads as it did. -/
def kcpuStackSpec : ChangeSpec := { name := "kcpuStack", fn := fun _ => fun
  | [d1, d2, d3] => { results := [.lit (.bool true)], args := [d1, d2, d3] }
  | _ => none }
def kcpuStackRow : OpenClaim := { program := "ytglidnmmeclneaagreat", sum := "7a3863dd45bc9d04f4831063cf29ebea3da0c12a390e23d0a304f409e08ee0a1", func := "babel/babellaw05.KcpuStack", spec := "kcpuStack", unfollowed := true, recurses := true, apart := false }
def KcpuStackSaid : Prop := kcpuStackRow.holds Tryz.pinned (OpenSpec.ofChange kcpuStackSpec)

/-- ITS FALSE NEIGHBOUR: 'it returns false'. Refute it at one input. -/
def kcpuStackWrong : ChangeSpec := { name := "kcpuStack", fn := fun _ => fun
  | [d1, d2, d3] => { results := [.lit (.bool false)], args := [d1, d2, d3] }
  | _ => none }
def KcpuStackWrongFalsely : Prop := kcpuStackRow.holds Tryz.pinned (OpenSpec.ofChange kcpuStackWrong)

/-- 'babellaw05.KcpuSelf': WHATEVER THE INPUT: true; the input reads as it did. -/
def kcpuSelfSpec : ChangeSpec := { name := "kcpuSelf", fn := fun _ => fun
  | [d1, d2] => { results := [.lit (.bool true)], args := [d1, d2] }
  | _ => none }
def kcpuSelfRow : OpenClaim := { program := "ytglidnmmeclneaagreat", sum := "7a3863dd45bc9d04f4831063cf29ebea3da0c12a390e23d0a304f409e08ee0a1", func := "babel/babellaw05.KcpuSelf", spec := "kcpuSelf", unfollowed := true, recurses := true, apart := false }
def KcpuSelfSaid : Prop := kcpuSelfRow.holds Tryz.pinned (OpenSpec.ofChange kcpuSelfSpec)

/-- ITS FALSE NEIGHBOUR: 'it returns false'. Refute it at one input. -/
def kcpuSelfWrong : ChangeSpec := { name := "kcpuSelf", fn := fun _ => fun
  | [d1, d2] => { results := [.lit (.bool false)], args := [d1, d2] }
  | _ => none }
def KcpuSelfWrongFalsely : Prop := kcpuSelfRow.holds Tryz.pinned (OpenSpec.ofChange kcpuSelfWrong)

/-- 'babellaw05.KcpuStates': WHATEVER THE INPUT: true; the input reads as it did. -/
def kcpuStatesSpec : ChangeSpec := { name := "kcpuStates", fn := fun _ => fun
  | [d1, d2, d3] => { results := [.lit (.bool true)], args := [d1, d2, d3] }
  | _ => none }
def kcpuStatesRow : OpenClaim := { program := "ytglidnmmeclneaagreat", sum := "7a3863dd45bc9d04f4831063cf29ebea3da0c12a390e23d0a304f409e08ee0a1", func := "babel/babellaw05.KcpuStates", spec := "kcpuStates", unfollowed := true, recurses := true, apart := false }
def KcpuStatesSaid : Prop := kcpuStatesRow.holds Tryz.pinned (OpenSpec.ofChange kcpuStatesSpec)

/-- ITS FALSE NEIGHBOUR: 'it returns false'. Refute it at one input. -/
def kcpuStatesWrong : ChangeSpec := { name := "kcpuStates", fn := fun _ => fun
  | [d1, d2, d3] => { results := [.lit (.bool false)], args := [d1, d2, d3] }
  | _ => none }
def KcpuStatesWrongFalsely : Prop := kcpuStatesRow.holds Tryz.pinned (OpenSpec.ofChange kcpuStatesWrong)

/- THE SECOND FORM. 'bulk': how many values and letters a reading holds, each counted each time it is reached (what is shared counts as often as it is met; a slice's spare places count too). A statement '..UptoSaid' is the law's where the arguments, and the package variables that the reading takes, are together of bulk at most 1048576: NARROWER than '..Said'. Prove '..Said' where nothing that the law and all that it calls make is longer than what came in: it says more and counts as full. Else prove '..UptoSaid'. A law counts once. -/
mutual
def uptoBulk {H : Type} : DataW H → Nat
  | .lit (.string bytes) => bytes.length + 1
  | .lit _ => 1
  | .nil => 1
  | .ptr d => uptoBulk d + 1
  | .slice elems spare => uptoBulkAll elems + uptoBulkAll spare + 1
  | .agg parts => uptoBulkAll parts + 1
  | .iface _ d => uptoBulk d + 1
  | .map entries => uptoBulkEntries entries + 1
  | .held _ => 1
def uptoBulkAll {H : Type} : List (DataW H) → Nat
  | [] => 0
  | d :: r => uptoBulk d + uptoBulkAll r
def uptoBulkEntries {H : Type} : List (Lit × DataW H) → Nat
  | [] => 0
  | x :: r => uptoBulkEntry x + uptoBulkEntries r
def uptoBulkEntry {H : Type} : Lit × DataW H → Nat
  | (.string bytes, d) => bytes.length + uptoBulk d + 1
  | (_, d) => uptoBulk d + 1
 end
def uptoSmall : (H : Type) → List (DataW H) → Bool := fun _ ds => decide (uptoBulkAll ds ≤ 1048576)
def OpenSpec.upto (s : _root_.Go.ChangeSpec) : _root_.Go.OpenSpec := { _root_.Go.OpenSpec.ofChange s with cond := some uptoSmall }

/-- 'babellaw05.KcpuStep', WHERE WHAT IT READS IS OF BULK AT MOST 1048576: true; the input reads as it did. -/
def kcpuStepUptoRow : OpenClaim := { program := "ytglidnmmeclneaagreat", sum := "7a3863dd45bc9d04f4831063cf29ebea3da0c12a390e23d0a304f409e08ee0a1", func := "babel/babellaw05.KcpuStep", spec := "kcpuStep", unfollowed := true, recurses := true, apart := false, narrowed := true }
def KcpuStepUptoSaid : Prop := kcpuStepUptoRow.holds Tryz.pinned (OpenSpec.upto kcpuStepSpec)

/-- 'babellaw05.KcpuTimer', WHERE WHAT IT READS IS OF BULK AT MOST 1048576: true; the input reads as it did. -/
def kcpuTimerUptoRow : OpenClaim := { program := "ytglidnmmeclneaagreat", sum := "7a3863dd45bc9d04f4831063cf29ebea3da0c12a390e23d0a304f409e08ee0a1", func := "babel/babellaw05.KcpuTimer", spec := "kcpuTimer", unfollowed := true, recurses := true, apart := false, narrowed := true }
def KcpuTimerUptoSaid : Prop := kcpuTimerUptoRow.holds Tryz.pinned (OpenSpec.upto kcpuTimerSpec)

/-- 'babellaw05.KcpuArith', WHERE WHAT IT READS IS OF BULK AT MOST 1048576: true; the input reads as it did. -/
def kcpuArithUptoRow : OpenClaim := { program := "ytglidnmmeclneaagreat", sum := "7a3863dd45bc9d04f4831063cf29ebea3da0c12a390e23d0a304f409e08ee0a1", func := "babel/babellaw05.KcpuArith", spec := "kcpuArith", unfollowed := true, recurses := true, apart := false, narrowed := true }
def KcpuArithUptoSaid : Prop := kcpuArithUptoRow.holds Tryz.pinned (OpenSpec.upto kcpuArithSpec)

/-- 'babellaw05.KcpuJumps', WHERE WHAT IT READS IS OF BULK AT MOST 1048576: true; the input reads as it did. -/
def kcpuJumpsUptoRow : OpenClaim := { program := "ytglidnmmeclneaagreat", sum := "7a3863dd45bc9d04f4831063cf29ebea3da0c12a390e23d0a304f409e08ee0a1", func := "babel/babellaw05.KcpuJumps", spec := "kcpuJumps", unfollowed := true, recurses := true, apart := false, narrowed := true }
def KcpuJumpsUptoSaid : Prop := kcpuJumpsUptoRow.holds Tryz.pinned (OpenSpec.upto kcpuJumpsSpec)

/-- 'babellaw05.KcpuAddress', WHERE WHAT IT READS IS OF BULK AT MOST 1048576: true; the input reads as it did. -/
def kcpuAddressUptoRow : OpenClaim := { program := "ytglidnmmeclneaagreat", sum := "7a3863dd45bc9d04f4831063cf29ebea3da0c12a390e23d0a304f409e08ee0a1", func := "babel/babellaw05.KcpuAddress", spec := "kcpuAddress", unfollowed := true, recurses := true, apart := false, narrowed := true }
def KcpuAddressUptoSaid : Prop := kcpuAddressUptoRow.holds Tryz.pinned (OpenSpec.upto kcpuAddressSpec)

/-- 'babellaw05.KcpuControl', WHERE WHAT IT READS IS OF BULK AT MOST 1048576: true; the input reads as it did. -/
def kcpuControlUptoRow : OpenClaim := { program := "ytglidnmmeclneaagreat", sum := "7a3863dd45bc9d04f4831063cf29ebea3da0c12a390e23d0a304f409e08ee0a1", func := "babel/babellaw05.KcpuControl", spec := "kcpuControl", unfollowed := true, recurses := true, apart := false, narrowed := true }
def KcpuControlUptoSaid : Prop := kcpuControlUptoRow.holds Tryz.pinned (OpenSpec.upto kcpuControlSpec)

/-- 'babellaw05.KcpuRuns', WHERE WHAT IT READS IS OF BULK AT MOST 1048576: true; the input reads as it did. -/
def kcpuRunsUptoRow : OpenClaim := { program := "ytglidnmmeclneaagreat", sum := "7a3863dd45bc9d04f4831063cf29ebea3da0c12a390e23d0a304f409e08ee0a1", func := "babel/babellaw05.KcpuRuns", spec := "kcpuRuns", unfollowed := true, recurses := true, apart := false, narrowed := true }
def KcpuRunsUptoSaid : Prop := kcpuRunsUptoRow.holds Tryz.pinned (OpenSpec.upto kcpuRunsSpec)

/-- 'babellaw05.KcpuParts', WHERE WHAT IT READS IS OF BULK AT MOST 1048576: true; the input reads as it did. -/
def kcpuPartsUptoRow : OpenClaim := { program := "ytglidnmmeclneaagreat", sum := "7a3863dd45bc9d04f4831063cf29ebea3da0c12a390e23d0a304f409e08ee0a1", func := "babel/babellaw05.KcpuParts", spec := "kcpuParts", unfollowed := true, recurses := true, apart := false, narrowed := true }
def KcpuPartsUptoSaid : Prop := kcpuPartsUptoRow.holds Tryz.pinned (OpenSpec.upto kcpuPartsSpec)

/-- 'babellaw05.KcpuTraps', WHERE WHAT IT READS IS OF BULK AT MOST 1048576: true; the input reads as it did. -/
def kcpuTrapsUptoRow : OpenClaim := { program := "ytglidnmmeclneaagreat", sum := "7a3863dd45bc9d04f4831063cf29ebea3da0c12a390e23d0a304f409e08ee0a1", func := "babel/babellaw05.KcpuTraps", spec := "kcpuTraps", unfollowed := true, recurses := true, apart := false, narrowed := true }
def KcpuTrapsUptoSaid : Prop := kcpuTrapsUptoRow.holds Tryz.pinned (OpenSpec.upto kcpuTrapsSpec)

/-- 'babellaw05.KcpuStack', WHERE WHAT IT READS IS OF BULK AT MOST 1048576: true; the input reads as it did. -/
def kcpuStackUptoRow : OpenClaim := { program := "ytglidnmmeclneaagreat", sum := "7a3863dd45bc9d04f4831063cf29ebea3da0c12a390e23d0a304f409e08ee0a1", func := "babel/babellaw05.KcpuStack", spec := "kcpuStack", unfollowed := true, recurses := true, apart := false, narrowed := true }
def KcpuStackUptoSaid : Prop := kcpuStackUptoRow.holds Tryz.pinned (OpenSpec.upto kcpuStackSpec)

/-- 'babellaw05.KcpuSelf', WHERE WHAT IT READS IS OF BULK AT MOST 1048576: true; the input reads as it did. -/
def kcpuSelfUptoRow : OpenClaim := { program := "ytglidnmmeclneaagreat", sum := "7a3863dd45bc9d04f4831063cf29ebea3da0c12a390e23d0a304f409e08ee0a1", func := "babel/babellaw05.KcpuSelf", spec := "kcpuSelf", unfollowed := true, recurses := true, apart := false, narrowed := true }
def KcpuSelfUptoSaid : Prop := kcpuSelfUptoRow.holds Tryz.pinned (OpenSpec.upto kcpuSelfSpec)

/-- 'babellaw05.KcpuStates', WHERE WHAT IT READS IS OF BULK AT MOST 1048576: true; the input reads as it did. -/
def kcpuStatesUptoRow : OpenClaim := { program := "ytglidnmmeclneaagreat", sum := "7a3863dd45bc9d04f4831063cf29ebea3da0c12a390e23d0a304f409e08ee0a1", func := "babel/babellaw05.KcpuStates", spec := "kcpuStates", unfollowed := true, recurses := true, apart := false, narrowed := true }
def KcpuStatesUptoSaid : Prop := kcpuStatesUptoRow.holds Tryz.pinned (OpenSpec.upto kcpuStatesSpec)

end Rows
end Go.Proofs.YtglidnmmeclneaaGreat
