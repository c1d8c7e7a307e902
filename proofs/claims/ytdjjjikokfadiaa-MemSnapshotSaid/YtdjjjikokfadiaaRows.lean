/-
  No cell of these rows narrows 'for every input' (looked for: loops, veiled, ifaces, maps, wideKeys, modest, calm, conditions, laid).
  DERIVED. THE GIVEN ROWS OF THIS SEAT. 11 by the template 'for every input the law returns true; each argument reads behind the call as it read before'; 0 by the template 'total and deterministic' (their statements: YtdjjjikokfadiaaTotals.lean).
  GIVEN WITH THE SEED: the statements are not yours to turn. If you find one false, say at which input.
  Laid BY PROGRAM, IN A SANDBOX (cutbox-rows.mjs): the forced cells as the released guide's own fill.sh prints them over the translation c6beb2a92bb10748… (all of the seat's roots in one cut). By AI agents, Wed Nov 11 2026. No macro, syntax, notation, axiom, sorry.
-/
import Derived.Test.YtdjjjikokfadiaaChecked
import GoSem.Claim
import GoSem.ClaimJoined
import GoSem.ClaimMapViews
import Derived.JoinedTies
import Derived.KernelRfl
namespace Go.Proofs.Ytdjjjikokfadiaa
/- THE CELL 'sum', in the pinned program and in every row, IS THE sha256 OF THE DUMP (.gsa) THAT YtdjjjikokfadiaaProg.lean LOADS. Nothing in Lean hashes anything: it is a label: what it is worth is what the hold of that sum in a sandbox is worth. -/
noncomputable def Try.pinned : Pinned := { name := "ytdjjjikokfadiaa", sum := "c6beb2a92bb107482b92bccc12366edcbf0c1b759262162af12d5cb7696f0255", checked := Try.checked }
namespace Rows
def none {H : Type} : Left H := { results := [], args := [] }

/-- 'babellaw04.MemRights': WHATEVER THE INPUT: true; the input reads as it did. -/
def memRightsSpec : ChangeSpec := { name := "memRights", fn := fun _ => fun
  | [d1, d2, d3] => { results := [.lit (.bool true)], args := [d1, d2, d3] }
  | _ => none }
def memRightsRow : OpenClaim := { program := "ytdjjjikokfadiaa", sum := "c6beb2a92bb107482b92bccc12366edcbf0c1b759262162af12d5cb7696f0255", func := "babel/babellaw04.MemRights", spec := "memRights", unfollowed := true, recurses := true, apart := false }
def MemRightsSaid : Prop := memRightsRow.holds Try.pinned (OpenSpec.ofChange memRightsSpec)

/-- ITS FALSE NEIGHBOUR: 'it returns false'. Refute it at one input. -/
def memRightsWrong : ChangeSpec := { name := "memRights", fn := fun _ => fun
  | [d1, d2, d3] => { results := [.lit (.bool false)], args := [d1, d2, d3] }
  | _ => none }
def MemRightsWrongFalsely : Prop := memRightsRow.holds Try.pinned (OpenSpec.ofChange memRightsWrong)

/-- 'babellaw04.MemSizes': WHATEVER THE INPUT: true; the input reads as it did. -/
def memSizesSpec : ChangeSpec := { name := "memSizes", fn := fun _ => fun
  | [d1, d2] => { results := [.lit (.bool true)], args := [d1, d2] }
  | _ => none }
def memSizesRow : OpenClaim := { program := "ytdjjjikokfadiaa", sum := "c6beb2a92bb107482b92bccc12366edcbf0c1b759262162af12d5cb7696f0255", func := "babel/babellaw04.MemSizes", spec := "memSizes", unfollowed := true, recurses := true, apart := false }
def MemSizesSaid : Prop := memSizesRow.holds Try.pinned (OpenSpec.ofChange memSizesSpec)

/-- ITS FALSE NEIGHBOUR: 'it returns false'. Refute it at one input. -/
def memSizesWrong : ChangeSpec := { name := "memSizes", fn := fun _ => fun
  | [d1, d2] => { results := [.lit (.bool false)], args := [d1, d2] }
  | _ => none }
def MemSizesWrongFalsely : Prop := memSizesRow.holds Try.pinned (OpenSpec.ofChange memSizesWrong)

/-- 'babellaw04.MemPages': WHATEVER THE INPUT: true; the input reads as it did. -/
def memPagesSpec : ChangeSpec := { name := "memPages", fn := fun _ => fun
  | [d1, d2] => { results := [.lit (.bool true)], args := [d1, d2] }
  | _ => none }
def memPagesRow : OpenClaim := { program := "ytdjjjikokfadiaa", sum := "c6beb2a92bb107482b92bccc12366edcbf0c1b759262162af12d5cb7696f0255", func := "babel/babellaw04.MemPages", spec := "memPages", unfollowed := true, recurses := true, apart := false }
def MemPagesSaid : Prop := memPagesRow.holds Try.pinned (OpenSpec.ofChange memPagesSpec)

/-- ITS FALSE NEIGHBOUR: 'it returns false'. Refute it at one input. -/
def memPagesWrong : ChangeSpec := { name := "memPages", fn := fun _ => fun
  | [d1, d2] => { results := [.lit (.bool false)], args := [d1, d2] }
  | _ => none }
def MemPagesWrongFalsely : Prop := memPagesRow.holds Try.pinned (OpenSpec.ofChange memPagesWrong)

/-- 'babellaw04.MemStoreLoad': WHATEVER THE INPUT: true; the input reads as it did. -/
def memStoreLoadSpec : ChangeSpec := { name := "memStoreLoad", fn := fun _ => fun
  | [d1, d2, d3] => { results := [.lit (.bool true)], args := [d1, d2, d3] }
  | _ => none }
def memStoreLoadRow : OpenClaim := { program := "ytdjjjikokfadiaa", sum := "c6beb2a92bb107482b92bccc12366edcbf0c1b759262162af12d5cb7696f0255", func := "babel/babellaw04.MemStoreLoad", spec := "memStoreLoad", unfollowed := true, recurses := true, apart := false }
def MemStoreLoadSaid : Prop := memStoreLoadRow.holds Try.pinned (OpenSpec.ofChange memStoreLoadSpec)

/-- ITS FALSE NEIGHBOUR: 'it returns false'. Refute it at one input. -/
def memStoreLoadWrong : ChangeSpec := { name := "memStoreLoad", fn := fun _ => fun
  | [d1, d2, d3] => { results := [.lit (.bool false)], args := [d1, d2, d3] }
  | _ => none }
def MemStoreLoadWrongFalsely : Prop := memStoreLoadRow.holds Try.pinned (OpenSpec.ofChange memStoreLoadWrong)

/-- 'babellaw04.MemEqual': WHATEVER THE INPUT: true; the input reads as it did. -/
def memEqualSpec : ChangeSpec := { name := "memEqual", fn := fun _ => fun
  | [d1, d2, d3] => { results := [.lit (.bool true)], args := [d1, d2, d3] }
  | _ => none }
def memEqualRow : OpenClaim := { program := "ytdjjjikokfadiaa", sum := "c6beb2a92bb107482b92bccc12366edcbf0c1b759262162af12d5cb7696f0255", func := "babel/babellaw04.MemEqual", spec := "memEqual", unfollowed := true, recurses := true, apart := false }
def MemEqualSaid : Prop := memEqualRow.holds Try.pinned (OpenSpec.ofChange memEqualSpec)

/-- ITS FALSE NEIGHBOUR: 'it returns false'. Refute it at one input. -/
def memEqualWrong : ChangeSpec := { name := "memEqual", fn := fun _ => fun
  | [d1, d2, d3] => { results := [.lit (.bool false)], args := [d1, d2, d3] }
  | _ => none }
def MemEqualWrongFalsely : Prop := memEqualRow.holds Try.pinned (OpenSpec.ofChange memEqualWrong)

/-- 'babellaw04.MemPlays': WHATEVER THE INPUT: true; the input reads as it did. -/
def memPlaysSpec : ChangeSpec := { name := "memPlays", fn := fun _ => fun
  | [d1, d2, d3] => { results := [.lit (.bool true)], args := [d1, d2, d3] }
  | _ => none }
def memPlaysRow : OpenClaim := { program := "ytdjjjikokfadiaa", sum := "c6beb2a92bb107482b92bccc12366edcbf0c1b759262162af12d5cb7696f0255", func := "babel/babellaw04.MemPlays", spec := "memPlays", unfollowed := true, recurses := true, apart := false }
def MemPlaysSaid : Prop := memPlaysRow.holds Try.pinned (OpenSpec.ofChange memPlaysSpec)

/-- ITS FALSE NEIGHBOUR: 'it returns false'. Refute it at one input. -/
def memPlaysWrong : ChangeSpec := { name := "memPlays", fn := fun _ => fun
  | [d1, d2, d3] => { results := [.lit (.bool false)], args := [d1, d2, d3] }
  | _ => none }
def MemPlaysWrongFalsely : Prop := memPlaysRow.holds Try.pinned (OpenSpec.ofChange memPlaysWrong)

/-- 'babellaw04.MemFetches': WHATEVER THE INPUT: true; the input reads as it did. -/
def memFetchesSpec : ChangeSpec := { name := "memFetches", fn := fun _ => fun
  | [d1, d2, d3] => { results := [.lit (.bool true)], args := [d1, d2, d3] }
  | _ => none }
def memFetchesRow : OpenClaim := { program := "ytdjjjikokfadiaa", sum := "c6beb2a92bb107482b92bccc12366edcbf0c1b759262162af12d5cb7696f0255", func := "babel/babellaw04.MemFetches", spec := "memFetches", unfollowed := true, recurses := true, apart := false }
def MemFetchesSaid : Prop := memFetchesRow.holds Try.pinned (OpenSpec.ofChange memFetchesSpec)

/-- ITS FALSE NEIGHBOUR: 'it returns false'. Refute it at one input. -/
def memFetchesWrong : ChangeSpec := { name := "memFetches", fn := fun _ => fun
  | [d1, d2, d3] => { results := [.lit (.bool false)], args := [d1, d2, d3] }
  | _ => none }
def MemFetchesWrongFalsely : Prop := memFetchesRow.holds Try.pinned (OpenSpec.ofChange memFetchesWrong)

/-- 'babellaw04.MemDirty': WHATEVER THE INPUT: true; the input reads as it did. -/
def memDirtySpec : ChangeSpec := { name := "memDirty", fn := fun _ => fun
  | [d1, d2, d3] => { results := [.lit (.bool true)], args := [d1, d2, d3] }
  | _ => none }
def memDirtyRow : OpenClaim := { program := "ytdjjjikokfadiaa", sum := "c6beb2a92bb107482b92bccc12366edcbf0c1b759262162af12d5cb7696f0255", func := "babel/babellaw04.MemDirty", spec := "memDirty", unfollowed := true, recurses := true, apart := false }
def MemDirtySaid : Prop := memDirtyRow.holds Try.pinned (OpenSpec.ofChange memDirtySpec)

/-- ITS FALSE NEIGHBOUR: 'it returns false'. Refute it at one input. -/
def memDirtyWrong : ChangeSpec := { name := "memDirty", fn := fun _ => fun
  | [d1, d2, d3] => { results := [.lit (.bool false)], args := [d1, d2, d3] }
  | _ => none }
def MemDirtyWrongFalsely : Prop := memDirtyRow.holds Try.pinned (OpenSpec.ofChange memDirtyWrong)

/-- 'babellaw04.MemCoherent': WHATEVER THE INPUT: true; the input reads as it did. -/
def memCoherentSpec : ChangeSpec := { name := "memCoherent", fn := fun _ => fun
  | [d1, d2] => { results := [.lit (.bool true)], args := [d1, d2] }
  | _ => none }
def memCoherentRow : OpenClaim := { program := "ytdjjjikokfadiaa", sum := "c6beb2a92bb107482b92bccc12366edcbf0c1b759262162af12d5cb7696f0255", func := "babel/babellaw04.MemCoherent", spec := "memCoherent", unfollowed := true, recurses := true, apart := false }
def MemCoherentSaid : Prop := memCoherentRow.holds Try.pinned (OpenSpec.ofChange memCoherentSpec)

/-- ITS FALSE NEIGHBOUR: 'it returns false'. Refute it at one input. -/
def memCoherentWrong : ChangeSpec := { name := "memCoherent", fn := fun _ => fun
  | [d1, d2] => { results := [.lit (.bool false)], args := [d1, d2] }
  | _ => none }
def MemCoherentWrongFalsely : Prop := memCoherentRow.holds Try.pinned (OpenSpec.ofChange memCoherentWrong)

/-- 'babellaw04.MemNil': WHATEVER THE INPUT: true; the input reads as it did. -/
def memNilSpec : ChangeSpec := { name := "memNil", fn := fun _ => fun
  | [d1, d2] => { results := [.lit (.bool true)], args := [d1, d2] }
  | _ => none }
def memNilRow : OpenClaim := { program := "ytdjjjikokfadiaa", sum := "c6beb2a92bb107482b92bccc12366edcbf0c1b759262162af12d5cb7696f0255", func := "babel/babellaw04.MemNil", spec := "memNil", unfollowed := true, recurses := true, apart := false }
def MemNilSaid : Prop := memNilRow.holds Try.pinned (OpenSpec.ofChange memNilSpec)

/-- ITS FALSE NEIGHBOUR: 'it returns false'. Refute it at one input. -/
def memNilWrong : ChangeSpec := { name := "memNil", fn := fun _ => fun
  | [d1, d2] => { results := [.lit (.bool false)], args := [d1, d2] }
  | _ => none }
def MemNilWrongFalsely : Prop := memNilRow.holds Try.pinned (OpenSpec.ofChange memNilWrong)

/-- 'babellaw04.MemSnapshot': WHATEVER THE INPUT: true; the input reads as it did. -/
def memSnapshotSpec : ChangeSpec := { name := "memSnapshot", fn := fun _ => fun
  | [d1, d2, d3] => { results := [.lit (.bool true)], args := [d1, d2, d3] }
  | _ => none }
def memSnapshotRow : OpenClaim := { program := "ytdjjjikokfadiaa", sum := "c6beb2a92bb107482b92bccc12366edcbf0c1b759262162af12d5cb7696f0255", func := "babel/babellaw04.MemSnapshot", spec := "memSnapshot", unfollowed := true, recurses := true, apart := false }
def MemSnapshotSaid : Prop := memSnapshotRow.holds Try.pinned (OpenSpec.ofChange memSnapshotSpec)

/-- ITS FALSE NEIGHBOUR: 'it returns false'. Refute it at one input. -/
def memSnapshotWrong : ChangeSpec := { name := "memSnapshot", fn := fun _ => fun
  | [d1, d2, d3] => { results := [.lit (.bool false)], args := [d1, d2, d3] }
  | _ => none }
def MemSnapshotWrongFalsely : Prop := memSnapshotRow.holds Try.pinned (OpenSpec.ofChange memSnapshotWrong)

/- THE SECOND FORM. 'bulk': how many values and letters a reading holds, each counted each time it is reached (what is shared counts as often as it is met; a slice's spare places count too). A statement '..UptoSaid' is the law's where the arguments, and the package variables that the reading takes, are together of bulk at most 1048576: NARROWER than '..Said'. Prove '..Said' where nothing that the law and all that it calls make is longer than what came in: it says more and counts as full. Else prove '..UptoSaid'. A law counts once. -/
mutual
def uptoBulk {H : Type} : DataW H → Nat
  | .lit (.string bytes) => bytes.length + 1
  | .lit _ => 1
  | .nil => 1
  | .ptr d => uptoBulk d + 1
  | .slice elems spare => uptoBulkAll elems + uptoBulkAll spare + 1
  | .agg parts => uptoBulkAll parts + 1
  | .iface _ d => uptoBulk d + 1
  | .map entries => uptoBulkEntries entries + 1
  | .held _ => 1
def uptoBulkAll {H : Type} : List (DataW H) → Nat
  | [] => 0
  | d :: r => uptoBulk d + uptoBulkAll r
def uptoBulkEntries {H : Type} : List (Lit × DataW H) → Nat
  | [] => 0
  | x :: r => uptoBulkEntry x + uptoBulkEntries r
def uptoBulkEntry {H : Type} : Lit × DataW H → Nat
  | (.string bytes, d) => bytes.length + uptoBulk d + 1
  | (_, d) => uptoBulk d + 1
 end
def uptoSmall : (H : Type) → List (DataW H) → Bool := fun _ ds => decide (uptoBulkAll ds ≤ 1048576)
def OpenSpec.upto (s : _root_.Go.ChangeSpec) : _root_.Go.OpenSpec := { _root_.Go.OpenSpec.ofChange s with cond := some uptoSmall }

/-- 'babellaw04.MemRights', WHERE WHAT IT READS IS OF BULK AT MOST 1048576: true; the input reads as it did. -/
def memRightsUptoRow : OpenClaim := { program := "ytdjjjikokfadiaa", sum := "c6beb2a92bb107482b92bccc12366edcbf0c1b759262162af12d5cb7696f0255", func := "babel/babellaw04.MemRights", spec := "memRights", unfollowed := true, recurses := true, apart := false, narrowed := true }
def MemRightsUptoSaid : Prop := memRightsUptoRow.holds Try.pinned (OpenSpec.upto memRightsSpec)

/-- 'babellaw04.MemSizes', WHERE WHAT IT READS IS OF BULK AT MOST 1048576: true; the input reads as it did. -/
def memSizesUptoRow : OpenClaim := { program := "ytdjjjikokfadiaa", sum := "c6beb2a92bb107482b92bccc12366edcbf0c1b759262162af12d5cb7696f0255", func := "babel/babellaw04.MemSizes", spec := "memSizes", unfollowed := true, recurses := true, apart := false, narrowed := true }
def MemSizesUptoSaid : Prop := memSizesUptoRow.holds Try.pinned (OpenSpec.upto memSizesSpec)

/-- 'babellaw04.MemPages', WHERE WHAT IT READS IS OF BULK AT MOST 1048576: true; the input reads as it did. -/
def memPagesUptoRow : OpenClaim := { program := "ytdjjjikokfadiaa", sum := "c6beb2a92bb107482b92bccc12366edcbf0c1b759262162af12d5cb7696f0255", func := "babel/babellaw04.MemPages", spec := "memPages", unfollowed := true, recurses := true, apart := false, narrowed := true }
def MemPagesUptoSaid : Prop := memPagesUptoRow.holds Try.pinned (OpenSpec.upto memPagesSpec)

/-- 'babellaw04.MemStoreLoad', WHERE WHAT IT READS IS OF BULK AT MOST 1048576: true; the input reads as it did. -/
def memStoreLoadUptoRow : OpenClaim := { program := "ytdjjjikokfadiaa", sum := "c6beb2a92bb107482b92bccc12366edcbf0c1b759262162af12d5cb7696f0255", func := "babel/babellaw04.MemStoreLoad", spec := "memStoreLoad", unfollowed := true, recurses := true, apart := false, narrowed := true }
def MemStoreLoadUptoSaid : Prop := memStoreLoadUptoRow.holds Try.pinned (OpenSpec.upto memStoreLoadSpec)

/-- 'babellaw04.MemEqual', WHERE WHAT IT READS IS OF BULK AT MOST 1048576: true; the input reads as it did. -/
def memEqualUptoRow : OpenClaim := { program := "ytdjjjikokfadiaa", sum := "c6beb2a92bb107482b92bccc12366edcbf0c1b759262162af12d5cb7696f0255", func := "babel/babellaw04.MemEqual", spec := "memEqual", unfollowed := true, recurses := true, apart := false, narrowed := true }
def MemEqualUptoSaid : Prop := memEqualUptoRow.holds Try.pinned (OpenSpec.upto memEqualSpec)

/-- 'babellaw04.MemPlays', WHERE WHAT IT READS IS OF BULK AT MOST 1048576: true; the input reads as it did. -/
def memPlaysUptoRow : OpenClaim := { program := "ytdjjjikokfadiaa", sum := "c6beb2a92bb107482b92bccc12366edcbf0c1b759262162af12d5cb7696f0255", func := "babel/babellaw04.MemPlays", spec := "memPlays", unfollowed := true, recurses := true, apart := false, narrowed := true }
def MemPlaysUptoSaid : Prop := memPlaysUptoRow.holds Try.pinned (OpenSpec.upto memPlaysSpec)

/-- 'babellaw04.MemFetches', WHERE WHAT IT READS IS OF BULK AT MOST 1048576: true; the input reads as it did. -/
def memFetchesUptoRow : OpenClaim := { program := "ytdjjjikokfadiaa", sum := "c6beb2a92bb107482b92bccc12366edcbf0c1b759262162af12d5cb7696f0255", func := "babel/babellaw04.MemFetches", spec := "memFetches", unfollowed := true, recurses := true, apart := false, narrowed := true }
def MemFetchesUptoSaid : Prop := memFetchesUptoRow.holds Try.pinned (OpenSpec.upto memFetchesSpec)

/-- 'babellaw04.MemDirty', WHERE WHAT IT READS IS OF BULK AT MOST 1048576: true; the input reads as it did. -/
def memDirtyUptoRow : OpenClaim := { program := "ytdjjjikokfadiaa", sum := "c6beb2a92bb107482b92bccc12366edcbf0c1b759262162af12d5cb7696f0255", func := "babel/babellaw04.MemDirty", spec := "memDirty", unfollowed := true, recurses := true, apart := false, narrowed := true }
def MemDirtyUptoSaid : Prop := memDirtyUptoRow.holds Try.pinned (OpenSpec.upto memDirtySpec)

/-- 'babellaw04.MemCoherent', WHERE WHAT IT READS IS OF BULK AT MOST 1048576: true; the input reads as it did. -/
def memCoherentUptoRow : OpenClaim := { program := "ytdjjjikokfadiaa", sum := "c6beb2a92bb107482b92bccc12366edcbf0c1b759262162af12d5cb7696f0255", func := "babel/babellaw04.MemCoherent", spec := "memCoherent", unfollowed := true, recurses := true, apart := false, narrowed := true }
def MemCoherentUptoSaid : Prop := memCoherentUptoRow.holds Try.pinned (OpenSpec.upto memCoherentSpec)

/-- 'babellaw04.MemNil', WHERE WHAT IT READS IS OF BULK AT MOST 1048576: true; the input reads as it did. -/
def memNilUptoRow : OpenClaim := { program := "ytdjjjikokfadiaa", sum := "c6beb2a92bb107482b92bccc12366edcbf0c1b759262162af12d5cb7696f0255", func := "babel/babellaw04.MemNil", spec := "memNil", unfollowed := true, recurses := true, apart := false, narrowed := true }
def MemNilUptoSaid : Prop := memNilUptoRow.holds Try.pinned (OpenSpec.upto memNilSpec)

/-- 'babellaw04.MemSnapshot', WHERE WHAT IT READS IS OF BULK AT MOST 1048576: true; the input reads as it did. -/
def memSnapshotUptoRow : OpenClaim := { program := "ytdjjjikokfadiaa", sum := "c6beb2a92bb107482b92bccc12366edcbf0c1b759262162af12d5cb7696f0255", func := "babel/babellaw04.MemSnapshot", spec := "memSnapshot", unfollowed := true, recurses := true, apart := false, narrowed := true }
def MemSnapshotUptoSaid : Prop := memSnapshotUptoRow.holds Try.pinned (OpenSpec.upto memSnapshotSpec)

end Rows
end Go.Proofs.Ytdjjjikokfadiaa
