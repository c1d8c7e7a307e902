/-
  No cell of these rows narrows 'for every input' (looked for: loops, veiled, ifaces, maps, wideKeys, modest, calm, conditions, laid).
  DERIVED. THE GIVEN ROWS OF THIS SEAT. 10 by the template 'for every input the law returns true; each argument reads behind the call as it read before'; 0 by the template 'total and deterministic' (their statements: YtnjpmmdjaenomaaTotals.lean).
  GIVEN WITH THE SEED: the statements are not yours to turn. If you find one false, say at which input.
  Laid BY PROGRAM, IN A SANDBOX (cutbox-rows.mjs): the forced cells as the released guide's own fill.sh prints them over the translation 466360a95eac9dbb… (all of the seat's roots in one cut). By AI agents, Wed Nov 11 2026. No macro, syntax, notation, axiom, sorry.
-/
import Derived.Test.YtnjpmmdjaenomaaChecked
import GoSem.Claim
import GoSem.ClaimJoined
import GoSem.ClaimMapViews
import Derived.JoinedTies
import Derived.KernelRfl
namespace Go.Proofs.Ytnjpmmdjaenomaa
/- THE CELL 'sum', in the pinned program and in every row, IS THE sha256 OF THE DUMP (.gsa) THAT YtnjpmmdjaenomaaProg.lean LOADS. Nothing in Lean hashes anything: it is a label: what it is worth is what the hold of that sum in a sandbox is worth. -/
noncomputable def Try.pinned : Pinned := { name := "ytnjpmmdjaenomaa", sum := "466360a95eac9dbb991eca520d55f333ad05e6bc69a2a179561622112d49d0ef", checked := Try.checked }
namespace Rows
def none {H : Type} : Left H := { results := [], args := [] }

/-- 'babellaw01.WordFlags': WHATEVER THE INPUT: true; the input reads as it did. -/
def wordFlagsSpec : ChangeSpec := { name := "wordFlags", fn := fun _ => fun
  | [d1, d2, d3] => { results := [.lit (.bool true)], args := [d1, d2, d3] }
  | _ => none }
def wordFlagsRow : OpenClaim := { program := "ytnjpmmdjaenomaa", sum := "466360a95eac9dbb991eca520d55f333ad05e6bc69a2a179561622112d49d0ef", func := "babel/babellaw01.WordFlags", spec := "wordFlags", unfollowed := true, recurses := true, apart := false }
def WordFlagsSaid : Prop := wordFlagsRow.holds Try.pinned (OpenSpec.ofChange wordFlagsSpec)

/-- ITS FALSE NEIGHBOUR: 'it returns false'. Refute it at one input. -/
def wordFlagsWrong : ChangeSpec := { name := "wordFlags", fn := fun _ => fun
  | [d1, d2, d3] => { results := [.lit (.bool false)], args := [d1, d2, d3] }
  | _ => none }
def WordFlagsWrongFalsely : Prop := wordFlagsRow.holds Try.pinned (OpenSpec.ofChange wordFlagsWrong)

/-- 'babellaw01.WordSums': WHATEVER THE INPUT: true; the input reads as it did. -/
def wordSumsSpec : ChangeSpec := { name := "wordSums", fn := fun _ => fun
  | [d1, d2, d3] => { results := [.lit (.bool true)], args := [d1, d2, d3] }
  | _ => none }
def wordSumsRow : OpenClaim := { program := "ytnjpmmdjaenomaa", sum := "466360a95eac9dbb991eca520d55f333ad05e6bc69a2a179561622112d49d0ef", func := "babel/babellaw01.WordSums", spec := "wordSums", unfollowed := true, recurses := true, apart := false }
def WordSumsSaid : Prop := wordSumsRow.holds Try.pinned (OpenSpec.ofChange wordSumsSpec)

/-- ITS FALSE NEIGHBOUR: 'it returns false'. Refute it at one input. -/
def wordSumsWrong : ChangeSpec := { name := "wordSums", fn := fun _ => fun
  | [d1, d2, d3] => { results := [.lit (.bool false)], args := [d1, d2, d3] }
  | _ => none }
def WordSumsWrongFalsely : Prop := wordSumsRow.holds Try.pinned (OpenSpec.ofChange wordSumsWrong)

/-- 'babellaw01.WordChains': WHATEVER THE INPUT: true; the input reads as it did. -/
def wordChainsSpec : ChangeSpec := { name := "wordChains", fn := fun _ => fun
  | [d] => { results := [.lit (.bool true)], args := [d] }
  | _ => none }
def wordChainsRow : OpenClaim := { program := "ytnjpmmdjaenomaa", sum := "466360a95eac9dbb991eca520d55f333ad05e6bc69a2a179561622112d49d0ef", func := "babel/babellaw01.WordChains", spec := "wordChains", unfollowed := true, recurses := true, apart := false }
def WordChainsSaid : Prop := wordChainsRow.holds Try.pinned (OpenSpec.ofChange wordChainsSpec)

/-- ITS FALSE NEIGHBOUR: 'it returns false'. Refute it at one input. -/
def wordChainsWrong : ChangeSpec := { name := "wordChains", fn := fun _ => fun
  | [d] => { results := [.lit (.bool false)], args := [d] }
  | _ => none }
def WordChainsWrongFalsely : Prop := wordChainsRow.holds Try.pinned (OpenSpec.ofChange wordChainsWrong)

/-- 'babellaw01.WordSigns': WHATEVER THE INPUT: true; the input reads as it did. -/
def wordSignsSpec : ChangeSpec := { name := "wordSigns", fn := fun _ => fun
  | [d1, d2] => { results := [.lit (.bool true)], args := [d1, d2] }
  | _ => none }
def wordSignsRow : OpenClaim := { program := "ytnjpmmdjaenomaa", sum := "466360a95eac9dbb991eca520d55f333ad05e6bc69a2a179561622112d49d0ef", func := "babel/babellaw01.WordSigns", spec := "wordSigns", unfollowed := true, recurses := true, apart := false }
def WordSignsSaid : Prop := wordSignsRow.holds Try.pinned (OpenSpec.ofChange wordSignsSpec)

/-- ITS FALSE NEIGHBOUR: 'it returns false'. Refute it at one input. -/
def wordSignsWrong : ChangeSpec := { name := "wordSigns", fn := fun _ => fun
  | [d1, d2] => { results := [.lit (.bool false)], args := [d1, d2] }
  | _ => none }
def WordSignsWrongFalsely : Prop := wordSignsRow.holds Try.pinned (OpenSpec.ofChange wordSignsWrong)

/-- 'babellaw01.WordBytes': WHATEVER THE INPUT: true; the input reads as it did. -/
def wordBytesSpec : ChangeSpec := { name := "wordBytes", fn := fun _ => fun
  | [d1, d2, d3] => { results := [.lit (.bool true)], args := [d1, d2, d3] }
  | _ => none }
def wordBytesRow : OpenClaim := { program := "ytnjpmmdjaenomaa", sum := "466360a95eac9dbb991eca520d55f333ad05e6bc69a2a179561622112d49d0ef", func := "babel/babellaw01.WordBytes", spec := "wordBytes", unfollowed := true, recurses := true, apart := false }
def WordBytesSaid : Prop := wordBytesRow.holds Try.pinned (OpenSpec.ofChange wordBytesSpec)

/-- ITS FALSE NEIGHBOUR: 'it returns false'. Refute it at one input. -/
def wordBytesWrong : ChangeSpec := { name := "wordBytes", fn := fun _ => fun
  | [d1, d2, d3] => { results := [.lit (.bool false)], args := [d1, d2, d3] }
  | _ => none }
def WordBytesWrongFalsely : Prop := wordBytesRow.holds Try.pinned (OpenSpec.ofChange wordBytesWrong)

/-- 'babellaw01.WordConds': WHATEVER THE INPUT: true; the input reads as it did. -/
def wordCondsSpec : ChangeSpec := { name := "wordConds", fn := fun _ => fun
  | [d1, d2] => { results := [.lit (.bool true)], args := [d1, d2] }
  | _ => none }
def wordCondsRow : OpenClaim := { program := "ytnjpmmdjaenomaa", sum := "466360a95eac9dbb991eca520d55f333ad05e6bc69a2a179561622112d49d0ef", func := "babel/babellaw01.WordConds", spec := "wordConds", unfollowed := true, recurses := true, apart := false }
def WordCondsSaid : Prop := wordCondsRow.holds Try.pinned (OpenSpec.ofChange wordCondsSpec)

/-- ITS FALSE NEIGHBOUR: 'it returns false'. Refute it at one input. -/
def wordCondsWrong : ChangeSpec := { name := "wordConds", fn := fun _ => fun
  | [d1, d2] => { results := [.lit (.bool false)], args := [d1, d2] }
  | _ => none }
def WordCondsWrongFalsely : Prop := wordCondsRow.holds Try.pinned (OpenSpec.ofChange wordCondsWrong)

/-- 'babellaw01.WordNames': WHATEVER THE INPUT: true; the input reads as it did. -/
def wordNamesSpec : ChangeSpec := { name := "wordNames", fn := fun _ => fun
  | [d1, d2] => { results := [.lit (.bool true)], args := [d1, d2] }
  | _ => none }
def wordNamesRow : OpenClaim := { program := "ytnjpmmdjaenomaa", sum := "466360a95eac9dbb991eca520d55f333ad05e6bc69a2a179561622112d49d0ef", func := "babel/babellaw01.WordNames", spec := "wordNames", unfollowed := true, recurses := true, apart := false }
def WordNamesSaid : Prop := wordNamesRow.holds Try.pinned (OpenSpec.ofChange wordNamesSpec)

/-- ITS FALSE NEIGHBOUR: 'it returns false'. Refute it at one input. -/
def wordNamesWrong : ChangeSpec := { name := "wordNames", fn := fun _ => fun
  | [d1, d2] => { results := [.lit (.bool false)], args := [d1, d2] }
  | _ => none }
def WordNamesWrongFalsely : Prop := wordNamesRow.holds Try.pinned (OpenSpec.ofChange wordNamesWrong)

/-- 'babellaw01.WordOps': WHATEVER THE INPUT: true; the input reads as it did. -/
def wordOpsSpec : ChangeSpec := { name := "wordOps", fn := fun _ => fun
  | [d1, d2, d3] => { results := [.lit (.bool true)], args := [d1, d2, d3] }
  | _ => none }
def wordOpsRow : OpenClaim := { program := "ytnjpmmdjaenomaa", sum := "466360a95eac9dbb991eca520d55f333ad05e6bc69a2a179561622112d49d0ef", func := "babel/babellaw01.WordOps", spec := "wordOps", unfollowed := true, recurses := true, apart := false }
def WordOpsSaid : Prop := wordOpsRow.holds Try.pinned (OpenSpec.ofChange wordOpsSpec)

/-- ITS FALSE NEIGHBOUR: 'it returns false'. Refute it at one input. -/
def wordOpsWrong : ChangeSpec := { name := "wordOps", fn := fun _ => fun
  | [d1, d2, d3] => { results := [.lit (.bool false)], args := [d1, d2, d3] }
  | _ => none }
def WordOpsWrongFalsely : Prop := wordOpsRow.holds Try.pinned (OpenSpec.ofChange wordOpsWrong)

/-- 'babellaw01.WordCarries': WHATEVER THE INPUT: true; the input reads as it did. -/
def wordCarriesSpec : ChangeSpec := { name := "wordCarries", fn := fun _ => fun
  | [d1, d2] => { results := [.lit (.bool true)], args := [d1, d2] }
  | _ => none }
def wordCarriesRow : OpenClaim := { program := "ytnjpmmdjaenomaa", sum := "466360a95eac9dbb991eca520d55f333ad05e6bc69a2a179561622112d49d0ef", func := "babel/babellaw01.WordCarries", spec := "wordCarries", unfollowed := true, recurses := true, apart := false }
def WordCarriesSaid : Prop := wordCarriesRow.holds Try.pinned (OpenSpec.ofChange wordCarriesSpec)

/-- ITS FALSE NEIGHBOUR: 'it returns false'. Refute it at one input. -/
def wordCarriesWrong : ChangeSpec := { name := "wordCarries", fn := fun _ => fun
  | [d1, d2] => { results := [.lit (.bool false)], args := [d1, d2] }
  | _ => none }
def WordCarriesWrongFalsely : Prop := wordCarriesRow.holds Try.pinned (OpenSpec.ofChange wordCarriesWrong)

/-- 'babellaw01.WordCompares': WHATEVER THE INPUT: true; the input reads as it did. -/
def wordComparesSpec : ChangeSpec := { name := "wordCompares", fn := fun _ => fun
  | [d1, d2] => { results := [.lit (.bool true)], args := [d1, d2] }
  | _ => none }
def wordComparesRow : OpenClaim := { program := "ytnjpmmdjaenomaa", sum := "466360a95eac9dbb991eca520d55f333ad05e6bc69a2a179561622112d49d0ef", func := "babel/babellaw01.WordCompares", spec := "wordCompares", unfollowed := true, recurses := true, apart := false }
def WordComparesSaid : Prop := wordComparesRow.holds Try.pinned (OpenSpec.ofChange wordComparesSpec)

/-- ITS FALSE NEIGHBOUR: 'it returns false'. Refute it at one input. -/
def wordComparesWrong : ChangeSpec := { name := "wordCompares", fn := fun _ => fun
  | [d1, d2] => { results := [.lit (.bool false)], args := [d1, d2] }
  | _ => none }
def WordComparesWrongFalsely : Prop := wordComparesRow.holds Try.pinned (OpenSpec.ofChange wordComparesWrong)

/- THE SECOND FORM. 'bulk': how many values and letters a reading holds, each counted each time it is reached (what is shared counts as often as it is met; a slice's spare places count too). A statement '..UptoSaid' is the law's where the arguments, and the package variables that the reading takes, are together of bulk at most 1048576: NARROWER than '..Said'. Prove '..Said' where nothing that the law and all that it calls make is longer than what came in: it says more and counts as full. Else prove '..UptoSaid'. A law counts once. -/
mutual
def uptoBulk {H : Type} : DataW H → Nat
  | .lit (.string bytes) => bytes.length + 1
  | .lit _ => 1
  | .nil => 1
  | .ptr d => uptoBulk d + 1
  | .slice elems spare => uptoBulkAll elems + uptoBulkAll spare + 1
  | .agg parts => uptoBulkAll parts + 1
  | .iface _ d => uptoBulk d + 1
  | .map entries => uptoBulkEntries entries + 1
  | .held _ => 1
def uptoBulkAll {H : Type} : List (DataW H) → Nat
  | [] => 0
  | d :: r => uptoBulk d + uptoBulkAll r
def uptoBulkEntries {H : Type} : List (Lit × DataW H) → Nat
  | [] => 0
  | x :: r => uptoBulkEntry x + uptoBulkEntries r
def uptoBulkEntry {H : Type} : Lit × DataW H → Nat
  | (.string bytes, d) => bytes.length + uptoBulk d + 1
  | (_, d) => uptoBulk d + 1
 end
def uptoSmall : (H : Type) → List (DataW H) → Bool := fun _ ds => decide (uptoBulkAll ds ≤ 1048576)
def OpenSpec.upto (s : _root_.Go.ChangeSpec) : _root_.Go.OpenSpec := { _root_.Go.OpenSpec.ofChange s with cond := some uptoSmall }

/-- 'babellaw01.WordFlags', WHERE WHAT IT READS IS OF BULK AT MOST 1048576: true; the input reads as it did. -/
def wordFlagsUptoRow : OpenClaim := { program := "ytnjpmmdjaenomaa", sum := "466360a95eac9dbb991eca520d55f333ad05e6bc69a2a179561622112d49d0ef", func := "babel/babellaw01.WordFlags", spec := "wordFlags", unfollowed := true, recurses := true, apart := false, narrowed := true }
def WordFlagsUptoSaid : Prop := wordFlagsUptoRow.holds Try.pinned (OpenSpec.upto wordFlagsSpec)

/-- 'babellaw01.WordSums', WHERE WHAT IT READS IS OF BULK AT MOST 1048576: true; the input reads as it did. -/
def wordSumsUptoRow : OpenClaim := { program := "ytnjpmmdjaenomaa", sum := "466360a95eac9dbb991eca520d55f333ad05e6bc69a2a179561622112d49d0ef", func := "babel/babellaw01.WordSums", spec := "wordSums", unfollowed := true, recurses := true, apart := false, narrowed := true }
def WordSumsUptoSaid : Prop := wordSumsUptoRow.holds Try.pinned (OpenSpec.upto wordSumsSpec)

/-- 'babellaw01.WordChains', WHERE WHAT IT READS IS OF BULK AT MOST 1048576: true; the input reads as it did. -/
def wordChainsUptoRow : OpenClaim := { program := "ytnjpmmdjaenomaa", sum := "466360a95eac9dbb991eca520d55f333ad05e6bc69a2a179561622112d49d0ef", func := "babel/babellaw01.WordChains", spec := "wordChains", unfollowed := true, recurses := true, apart := false, narrowed := true }
def WordChainsUptoSaid : Prop := wordChainsUptoRow.holds Try.pinned (OpenSpec.upto wordChainsSpec)

/-- 'babellaw01.WordSigns', WHERE WHAT IT READS IS OF BULK AT MOST 1048576: true; the input reads as it did. -/
def wordSignsUptoRow : OpenClaim := { program := "ytnjpmmdjaenomaa", sum := "466360a95eac9dbb991eca520d55f333ad05e6bc69a2a179561622112d49d0ef", func := "babel/babellaw01.WordSigns", spec := "wordSigns", unfollowed := true, recurses := true, apart := false, narrowed := true }
def WordSignsUptoSaid : Prop := wordSignsUptoRow.holds Try.pinned (OpenSpec.upto wordSignsSpec)

/-- 'babellaw01.WordBytes', WHERE WHAT IT READS IS OF BULK AT MOST 1048576: true; the input reads as it did. -/
def wordBytesUptoRow : OpenClaim := { program := "ytnjpmmdjaenomaa", sum := "466360a95eac9dbb991eca520d55f333ad05e6bc69a2a179561622112d49d0ef", func := "babel/babellaw01.WordBytes", spec := "wordBytes", unfollowed := true, recurses := true, apart := false, narrowed := true }
def WordBytesUptoSaid : Prop := wordBytesUptoRow.holds Try.pinned (OpenSpec.upto wordBytesSpec)

/-- 'babellaw01.WordConds', WHERE WHAT IT READS IS OF BULK AT MOST 1048576: true; the input reads as it did. -/
def wordCondsUptoRow : OpenClaim := { program := "ytnjpmmdjaenomaa", sum := "466360a95eac9dbb991eca520d55f333ad05e6bc69a2a179561622112d49d0ef", func := "babel/babellaw01.WordConds", spec := "wordConds", unfollowed := true, recurses := true, apart := false, narrowed := true }
def WordCondsUptoSaid : Prop := wordCondsUptoRow.holds Try.pinned (OpenSpec.upto wordCondsSpec)

/-- 'babellaw01.WordNames', WHERE WHAT IT READS IS OF BULK AT MOST 1048576: true; the input reads as it did. -/
def wordNamesUptoRow : OpenClaim := { program := "ytnjpmmdjaenomaa", sum := "466360a95eac9dbb991eca520d55f333ad05e6bc69a2a179561622112d49d0ef", func := "babel/babellaw01.WordNames", spec := "wordNames", unfollowed := true, recurses := true, apart := false, narrowed := true }
def WordNamesUptoSaid : Prop := wordNamesUptoRow.holds Try.pinned (OpenSpec.upto wordNamesSpec)

/-- 'babellaw01.WordOps', WHERE WHAT IT READS IS OF BULK AT MOST 1048576: true; the input reads as it did. -/
def wordOpsUptoRow : OpenClaim := { program := "ytnjpmmdjaenomaa", sum := "466360a95eac9dbb991eca520d55f333ad05e6bc69a2a179561622112d49d0ef", func := "babel/babellaw01.WordOps", spec := "wordOps", unfollowed := true, recurses := true, apart := false, narrowed := true }
def WordOpsUptoSaid : Prop := wordOpsUptoRow.holds Try.pinned (OpenSpec.upto wordOpsSpec)

/-- 'babellaw01.WordCarries', WHERE WHAT IT READS IS OF BULK AT MOST 1048576: true; the input reads as it did. -/
def wordCarriesUptoRow : OpenClaim := { program := "ytnjpmmdjaenomaa", sum := "466360a95eac9dbb991eca520d55f333ad05e6bc69a2a179561622112d49d0ef", func := "babel/babellaw01.WordCarries", spec := "wordCarries", unfollowed := true, recurses := true, apart := false, narrowed := true }
def WordCarriesUptoSaid : Prop := wordCarriesUptoRow.holds Try.pinned (OpenSpec.upto wordCarriesSpec)

/-- 'babellaw01.WordCompares', WHERE WHAT IT READS IS OF BULK AT MOST 1048576: true; the input reads as it did. -/
def wordComparesUptoRow : OpenClaim := { program := "ytnjpmmdjaenomaa", sum := "466360a95eac9dbb991eca520d55f333ad05e6bc69a2a179561622112d49d0ef", func := "babel/babellaw01.WordCompares", spec := "wordCompares", unfollowed := true, recurses := true, apart := false, narrowed := true }
def WordComparesUptoSaid : Prop := wordComparesUptoRow.holds Try.pinned (OpenSpec.upto wordComparesSpec)

end Rows
end Go.Proofs.Ytnjpmmdjaenomaa
