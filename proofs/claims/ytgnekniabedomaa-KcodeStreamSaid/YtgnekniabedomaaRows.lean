/-
  No cell of these rows narrows 'for every input' (looked for: loops, veiled, ifaces, maps, wideKeys, modest, calm, conditions, laid).
  DERIVED. THE GIVEN ROWS OF THIS SEAT. 10 by the template 'for every input the law returns true; each argument reads behind the call as it read before'; 0 by the template 'total and deterministic' (their statements: YtgnekniabedomaaTotals.lean).
  GIVEN WITH THE SEED: the statements are not yours to turn. If you find one false, say at which input.
  Laid BY PROGRAM, IN A SANDBOX (cutbox-rows.mjs): the forced cells as the released guide's own fill.sh prints them over the translation a10607d8e26f0bc3… (all of the seat's roots in one cut). By AI agents, Wed Nov 11 2026. No macro, syntax, notation, axiom, sorry.
-/
import Derived.Test.YtgnekniabedomaaChecked
import GoSem.Claim
import GoSem.ClaimJoined
import GoSem.ClaimMapViews
import Derived.JoinedTies
import Derived.KernelRfl
namespace Go.Proofs.Ytgnekniabedomaa
/- THE CELL 'sum', in the pinned program and in every row, IS THE sha256 OF THE DUMP (.gsa) THAT YtgnekniabedomaaProg.lean LOADS. Nothing in Lean hashes anything: it is a label: what it is worth is what the hold of that sum in a sandbox is worth. -/
noncomputable def Try.pinned : Pinned := { name := "ytgnekniabedomaa", sum := "a10607d8e26f0bc346f2dbbf6516cfcd156786fc674a9765e2b6a36d4ebba17f", checked := Try.checked }
namespace Rows
def none {H : Type} : Left H := { results := [], args := [] }

/-- 'babellaw02.KcodeDecode': WHATEVER THE INPUT: true; the input reads as it did. -/
def kcodeDecodeSpec : ChangeSpec := { name := "kcodeDecode", fn := fun _ => fun
  | [d1, d2] => { results := [.lit (.bool true)], args := [d1, d2] }
  | _ => none }
def kcodeDecodeRow : OpenClaim := { program := "ytgnekniabedomaa", sum := "a10607d8e26f0bc346f2dbbf6516cfcd156786fc674a9765e2b6a36d4ebba17f", func := "babel/babellaw02.KcodeDecode", spec := "kcodeDecode", unfollowed := true, recurses := true, apart := false }
def KcodeDecodeSaid : Prop := kcodeDecodeRow.holds Try.pinned (OpenSpec.ofChange kcodeDecodeSpec)

/-- ITS FALSE NEIGHBOUR: 'it returns false'. Refute it at one input. -/
def kcodeDecodeWrong : ChangeSpec := { name := "kcodeDecode", fn := fun _ => fun
  | [d1, d2] => { results := [.lit (.bool false)], args := [d1, d2] }
  | _ => none }
def KcodeDecodeWrongFalsely : Prop := kcodeDecodeRow.holds Try.pinned (OpenSpec.ofChange kcodeDecodeWrong)

/-- 'babellaw02.KcodeEncode': WHATEVER THE INPUT: true; the input reads as it did. -/
def kcodeEncodeSpec : ChangeSpec := { name := "kcodeEncode", fn := fun _ => fun
  | [d1, d2, d3] => { results := [.lit (.bool true)], args := [d1, d2, d3] }
  | _ => none }
def kcodeEncodeRow : OpenClaim := { program := "ytgnekniabedomaa", sum := "a10607d8e26f0bc346f2dbbf6516cfcd156786fc674a9765e2b6a36d4ebba17f", func := "babel/babellaw02.KcodeEncode", spec := "kcodeEncode", unfollowed := true, recurses := true, apart := false }
def KcodeEncodeSaid : Prop := kcodeEncodeRow.holds Try.pinned (OpenSpec.ofChange kcodeEncodeSpec)

/-- ITS FALSE NEIGHBOUR: 'it returns false'. Refute it at one input. -/
def kcodeEncodeWrong : ChangeSpec := { name := "kcodeEncode", fn := fun _ => fun
  | [d1, d2, d3] => { results := [.lit (.bool false)], args := [d1, d2, d3] }
  | _ => none }
def KcodeEncodeWrongFalsely : Prop := kcodeEncodeRow.holds Try.pinned (OpenSpec.ofChange kcodeEncodeWrong)

/-- 'babellaw02.KcodeRoundTrip': WHATEVER THE INPUT: true; the input reads as it did. -/
def kcodeRoundTripSpec : ChangeSpec := { name := "kcodeRoundTrip", fn := fun _ => fun
  | [d1, d2] => { results := [.lit (.bool true)], args := [d1, d2] }
  | _ => none }
def kcodeRoundTripRow : OpenClaim := { program := "ytgnekniabedomaa", sum := "a10607d8e26f0bc346f2dbbf6516cfcd156786fc674a9765e2b6a36d4ebba17f", func := "babel/babellaw02.KcodeRoundTrip", spec := "kcodeRoundTrip", unfollowed := true, recurses := true, apart := false }
def KcodeRoundTripSaid : Prop := kcodeRoundTripRow.holds Try.pinned (OpenSpec.ofChange kcodeRoundTripSpec)

/-- ITS FALSE NEIGHBOUR: 'it returns false'. Refute it at one input. -/
def kcodeRoundTripWrong : ChangeSpec := { name := "kcodeRoundTrip", fn := fun _ => fun
  | [d1, d2] => { results := [.lit (.bool false)], args := [d1, d2] }
  | _ => none }
def KcodeRoundTripWrongFalsely : Prop := kcodeRoundTripRow.holds Try.pinned (OpenSpec.ofChange kcodeRoundTripWrong)

/-- 'babellaw02.KcodeUnique': WHATEVER THE INPUT: true; the input reads as it did. -/
def kcodeUniqueSpec : ChangeSpec := { name := "kcodeUnique", fn := fun _ => fun
  | [d1, d2] => { results := [.lit (.bool true)], args := [d1, d2] }
  | _ => none }
def kcodeUniqueRow : OpenClaim := { program := "ytgnekniabedomaa", sum := "a10607d8e26f0bc346f2dbbf6516cfcd156786fc674a9765e2b6a36d4ebba17f", func := "babel/babellaw02.KcodeUnique", spec := "kcodeUnique", unfollowed := true, recurses := true, apart := false }
def KcodeUniqueSaid : Prop := kcodeUniqueRow.holds Try.pinned (OpenSpec.ofChange kcodeUniqueSpec)

/-- ITS FALSE NEIGHBOUR: 'it returns false'. Refute it at one input. -/
def kcodeUniqueWrong : ChangeSpec := { name := "kcodeUnique", fn := fun _ => fun
  | [d1, d2] => { results := [.lit (.bool false)], args := [d1, d2] }
  | _ => none }
def KcodeUniqueWrongFalsely : Prop := kcodeUniqueRow.holds Try.pinned (OpenSpec.ofChange kcodeUniqueWrong)

/-- 'babellaw02.KcodePrefix': WHATEVER THE INPUT: true; the input reads as it did. -/
def kcodePrefixSpec : ChangeSpec := { name := "kcodePrefix", fn := fun _ => fun
  | [d1, d2] => { results := [.lit (.bool true)], args := [d1, d2] }
  | _ => none }
def kcodePrefixRow : OpenClaim := { program := "ytgnekniabedomaa", sum := "a10607d8e26f0bc346f2dbbf6516cfcd156786fc674a9765e2b6a36d4ebba17f", func := "babel/babellaw02.KcodePrefix", spec := "kcodePrefix", unfollowed := true, recurses := true, apart := false }
def KcodePrefixSaid : Prop := kcodePrefixRow.holds Try.pinned (OpenSpec.ofChange kcodePrefixSpec)

/-- ITS FALSE NEIGHBOUR: 'it returns false'. Refute it at one input. -/
def kcodePrefixWrong : ChangeSpec := { name := "kcodePrefix", fn := fun _ => fun
  | [d1, d2] => { results := [.lit (.bool false)], args := [d1, d2] }
  | _ => none }
def KcodePrefixWrongFalsely : Prop := kcodePrefixRow.holds Try.pinned (OpenSpec.ofChange kcodePrefixWrong)

/-- 'babellaw02.KcodeStream': WHATEVER THE INPUT: true; the input reads as it did. -/
def kcodeStreamSpec : ChangeSpec := { name := "kcodeStream", fn := fun _ => fun
  | [d] => { results := [.lit (.bool true)], args := [d] }
  | _ => none }
def kcodeStreamRow : OpenClaim := { program := "ytgnekniabedomaa", sum := "a10607d8e26f0bc346f2dbbf6516cfcd156786fc674a9765e2b6a36d4ebba17f", func := "babel/babellaw02.KcodeStream", spec := "kcodeStream", unfollowed := true, recurses := true, apart := false }
def KcodeStreamSaid : Prop := kcodeStreamRow.holds Try.pinned (OpenSpec.ofChange kcodeStreamSpec)

/-- ITS FALSE NEIGHBOUR: 'it returns false'. Refute it at one input. -/
def kcodeStreamWrong : ChangeSpec := { name := "kcodeStream", fn := fun _ => fun
  | [d] => { results := [.lit (.bool false)], args := [d] }
  | _ => none }
def KcodeStreamWrongFalsely : Prop := kcodeStreamRow.holds Try.pinned (OpenSpec.ofChange kcodeStreamWrong)

/-- 'babellaw02.KcodeForms': WHATEVER THE INPUT: true; the input reads as it did. -/
def kcodeFormsSpec : ChangeSpec := { name := "kcodeForms", fn := fun _ => fun
  | [d1, d2, d3] => { results := [.lit (.bool true)], args := [d1, d2, d3] }
  | _ => none }
def kcodeFormsRow : OpenClaim := { program := "ytgnekniabedomaa", sum := "a10607d8e26f0bc346f2dbbf6516cfcd156786fc674a9765e2b6a36d4ebba17f", func := "babel/babellaw02.KcodeForms", spec := "kcodeForms", unfollowed := true, recurses := true, apart := false }
def KcodeFormsSaid : Prop := kcodeFormsRow.holds Try.pinned (OpenSpec.ofChange kcodeFormsSpec)

/-- ITS FALSE NEIGHBOUR: 'it returns false'. Refute it at one input. -/
def kcodeFormsWrong : ChangeSpec := { name := "kcodeForms", fn := fun _ => fun
  | [d1, d2, d3] => { results := [.lit (.bool false)], args := [d1, d2, d3] }
  | _ => none }
def KcodeFormsWrongFalsely : Prop := kcodeFormsRow.holds Try.pinned (OpenSpec.ofChange kcodeFormsWrong)

/-- 'babellaw02.KcodeTargets': WHATEVER THE INPUT: true; the input reads as it did. -/
def kcodeTargetsSpec : ChangeSpec := { name := "kcodeTargets", fn := fun _ => fun
  | [d1, d2, d3] => { results := [.lit (.bool true)], args := [d1, d2, d3] }
  | _ => none }
def kcodeTargetsRow : OpenClaim := { program := "ytgnekniabedomaa", sum := "a10607d8e26f0bc346f2dbbf6516cfcd156786fc674a9765e2b6a36d4ebba17f", func := "babel/babellaw02.KcodeTargets", spec := "kcodeTargets", unfollowed := true, recurses := true, apart := false }
def KcodeTargetsSaid : Prop := kcodeTargetsRow.holds Try.pinned (OpenSpec.ofChange kcodeTargetsSpec)

/-- ITS FALSE NEIGHBOUR: 'it returns false'. Refute it at one input. -/
def kcodeTargetsWrong : ChangeSpec := { name := "kcodeTargets", fn := fun _ => fun
  | [d1, d2, d3] => { results := [.lit (.bool false)], args := [d1, d2, d3] }
  | _ => none }
def KcodeTargetsWrongFalsely : Prop := kcodeTargetsRow.holds Try.pinned (OpenSpec.ofChange kcodeTargetsWrong)

/-- 'babellaw02.KcodeJumps': WHATEVER THE INPUT: true; the input reads as it did. -/
def kcodeJumpsSpec : ChangeSpec := { name := "kcodeJumps", fn := fun _ => fun
  | [d1, d2, d3] => { results := [.lit (.bool true)], args := [d1, d2, d3] }
  | _ => none }
def kcodeJumpsRow : OpenClaim := { program := "ytgnekniabedomaa", sum := "a10607d8e26f0bc346f2dbbf6516cfcd156786fc674a9765e2b6a36d4ebba17f", func := "babel/babellaw02.KcodeJumps", spec := "kcodeJumps", unfollowed := true, recurses := true, apart := false }
def KcodeJumpsSaid : Prop := kcodeJumpsRow.holds Try.pinned (OpenSpec.ofChange kcodeJumpsSpec)

/-- ITS FALSE NEIGHBOUR: 'it returns false'. Refute it at one input. -/
def kcodeJumpsWrong : ChangeSpec := { name := "kcodeJumps", fn := fun _ => fun
  | [d1, d2, d3] => { results := [.lit (.bool false)], args := [d1, d2, d3] }
  | _ => none }
def KcodeJumpsWrongFalsely : Prop := kcodeJumpsRow.holds Try.pinned (OpenSpec.ofChange kcodeJumpsWrong)

/-- 'babellaw02.KcodeSizes': WHATEVER THE INPUT: true; the input reads as it did. -/
def kcodeSizesSpec : ChangeSpec := { name := "kcodeSizes", fn := fun _ => fun
  | [d] => { results := [.lit (.bool true)], args := [d] }
  | _ => none }
def kcodeSizesRow : OpenClaim := { program := "ytgnekniabedomaa", sum := "a10607d8e26f0bc346f2dbbf6516cfcd156786fc674a9765e2b6a36d4ebba17f", func := "babel/babellaw02.KcodeSizes", spec := "kcodeSizes", unfollowed := true, recurses := true, apart := false }
def KcodeSizesSaid : Prop := kcodeSizesRow.holds Try.pinned (OpenSpec.ofChange kcodeSizesSpec)

/-- ITS FALSE NEIGHBOUR: 'it returns false'. Refute it at one input. -/
def kcodeSizesWrong : ChangeSpec := { name := "kcodeSizes", fn := fun _ => fun
  | [d] => { results := [.lit (.bool false)], args := [d] }
  | _ => none }
def KcodeSizesWrongFalsely : Prop := kcodeSizesRow.holds Try.pinned (OpenSpec.ofChange kcodeSizesWrong)

/- THE SECOND FORM. 'bulk': how many values and letters a reading holds, each counted each time it is reached (what is shared counts as often as it is met; a slice's spare places count too). A statement '..UptoSaid' is the law's where the arguments, and the package variables that the reading takes, are together of bulk at most 1048576: NARROWER than '..Said'. Prove '..Said' where nothing that the law and all that it calls make is longer than what came in: it says more and counts as full. Else prove '..UptoSaid'. A law counts once. -/
mutual
def uptoBulk {H : Type} : DataW H → Nat
  | .lit (.string bytes) => bytes.length + 1
  | .lit _ => 1
  | .nil => 1
  | .ptr d => uptoBulk d + 1
  | .slice elems spare => uptoBulkAll elems + uptoBulkAll spare + 1
  | .agg parts => uptoBulkAll parts + 1
  | .iface _ d => uptoBulk d + 1
  | .map entries => uptoBulkEntries entries + 1
  | .held _ => 1
def uptoBulkAll {H : Type} : List (DataW H) → Nat
  | [] => 0
  | d :: r => uptoBulk d + uptoBulkAll r
def uptoBulkEntries {H : Type} : List (Lit × DataW H) → Nat
  | [] => 0
  | x :: r => uptoBulkEntry x + uptoBulkEntries r
def uptoBulkEntry {H : Type} : Lit × DataW H → Nat
  | (.string bytes, d) => bytes.length + uptoBulk d + 1
  | (_, d) => uptoBulk d + 1
 end
def uptoSmall : (H : Type) → List (DataW H) → Bool := fun _ ds => decide (uptoBulkAll ds ≤ 1048576)
def OpenSpec.upto (s : _root_.Go.ChangeSpec) : _root_.Go.OpenSpec := { _root_.Go.OpenSpec.ofChange s with cond := some uptoSmall }

/-- 'babellaw02.KcodeDecode', WHERE WHAT IT READS IS OF BULK AT MOST 1048576: true; the input reads as it did. -/
def kcodeDecodeUptoRow : OpenClaim := { program := "ytgnekniabedomaa", sum := "a10607d8e26f0bc346f2dbbf6516cfcd156786fc674a9765e2b6a36d4ebba17f", func := "babel/babellaw02.KcodeDecode", spec := "kcodeDecode", unfollowed := true, recurses := true, apart := false, narrowed := true }
def KcodeDecodeUptoSaid : Prop := kcodeDecodeUptoRow.holds Try.pinned (OpenSpec.upto kcodeDecodeSpec)

/-- 'babellaw02.KcodeEncode', WHERE WHAT IT READS IS OF BULK AT MOST 1048576: true; the input reads as it did. -/
def kcodeEncodeUptoRow : OpenClaim := { program := "ytgnekniabedomaa", sum := "a10607d8e26f0bc346f2dbbf6516cfcd156786fc674a9765e2b6a36d4ebba17f", func := "babel/babellaw02.KcodeEncode", spec := "kcodeEncode", unfollowed := true, recurses := true, apart := false, narrowed := true }
def KcodeEncodeUptoSaid : Prop := kcodeEncodeUptoRow.holds Try.pinned (OpenSpec.upto kcodeEncodeSpec)

/-- 'babellaw02.KcodeRoundTrip', WHERE WHAT IT READS IS OF BULK AT MOST 1048576: true; the input reads as it did. -/
def kcodeRoundTripUptoRow : OpenClaim := { program := "ytgnekniabedomaa", sum := "a10607d8e26f0bc346f2dbbf6516cfcd156786fc674a9765e2b6a36d4ebba17f", func := "babel/babellaw02.KcodeRoundTrip", spec := "kcodeRoundTrip", unfollowed := true, recurses := true, apart := false, narrowed := true }
def KcodeRoundTripUptoSaid : Prop := kcodeRoundTripUptoRow.holds Try.pinned (OpenSpec.upto kcodeRoundTripSpec)

/-- 'babellaw02.KcodeUnique', WHERE WHAT IT READS IS OF BULK AT MOST 1048576: true; the input reads as it did. -/
def kcodeUniqueUptoRow : OpenClaim := { program := "ytgnekniabedomaa", sum := "a10607d8e26f0bc346f2dbbf6516cfcd156786fc674a9765e2b6a36d4ebba17f", func := "babel/babellaw02.KcodeUnique", spec := "kcodeUnique", unfollowed := true, recurses := true, apart := false, narrowed := true }
def KcodeUniqueUptoSaid : Prop := kcodeUniqueUptoRow.holds Try.pinned (OpenSpec.upto kcodeUniqueSpec)

/-- 'babellaw02.KcodePrefix', WHERE WHAT IT READS IS OF BULK AT MOST 1048576: true; the input reads as it did. -/
def kcodePrefixUptoRow : OpenClaim := { program := "ytgnekniabedomaa", sum := "a10607d8e26f0bc346f2dbbf6516cfcd156786fc674a9765e2b6a36d4ebba17f", func := "babel/babellaw02.KcodePrefix", spec := "kcodePrefix", unfollowed := true, recurses := true, apart := false, narrowed := true }
def KcodePrefixUptoSaid : Prop := kcodePrefixUptoRow.holds Try.pinned (OpenSpec.upto kcodePrefixSpec)

/-- 'babellaw02.KcodeStream', WHERE WHAT IT READS IS OF BULK AT MOST 1048576: true; the input reads as it did. -/
def kcodeStreamUptoRow : OpenClaim := { program := "ytgnekniabedomaa", sum := "a10607d8e26f0bc346f2dbbf6516cfcd156786fc674a9765e2b6a36d4ebba17f", func := "babel/babellaw02.KcodeStream", spec := "kcodeStream", unfollowed := true, recurses := true, apart := false, narrowed := true }
def KcodeStreamUptoSaid : Prop := kcodeStreamUptoRow.holds Try.pinned (OpenSpec.upto kcodeStreamSpec)

/-- 'babellaw02.KcodeForms', WHERE WHAT IT READS IS OF BULK AT MOST 1048576: true; the input reads as it did. -/
def kcodeFormsUptoRow : OpenClaim := { program := "ytgnekniabedomaa", sum := "a10607d8e26f0bc346f2dbbf6516cfcd156786fc674a9765e2b6a36d4ebba17f", func := "babel/babellaw02.KcodeForms", spec := "kcodeForms", unfollowed := true, recurses := true, apart := false, narrowed := true }
def KcodeFormsUptoSaid : Prop := kcodeFormsUptoRow.holds Try.pinned (OpenSpec.upto kcodeFormsSpec)

/-- 'babellaw02.KcodeTargets', WHERE WHAT IT READS IS OF BULK AT MOST 1048576: true; the input reads as it did. -/
def kcodeTargetsUptoRow : OpenClaim := { program := "ytgnekniabedomaa", sum := "a10607d8e26f0bc346f2dbbf6516cfcd156786fc674a9765e2b6a36d4ebba17f", func := "babel/babellaw02.KcodeTargets", spec := "kcodeTargets", unfollowed := true, recurses := true, apart := false, narrowed := true }
def KcodeTargetsUptoSaid : Prop := kcodeTargetsUptoRow.holds Try.pinned (OpenSpec.upto kcodeTargetsSpec)

/-- 'babellaw02.KcodeJumps', WHERE WHAT IT READS IS OF BULK AT MOST 1048576: true; the input reads as it did. -/
def kcodeJumpsUptoRow : OpenClaim := { program := "ytgnekniabedomaa", sum := "a10607d8e26f0bc346f2dbbf6516cfcd156786fc674a9765e2b6a36d4ebba17f", func := "babel/babellaw02.KcodeJumps", spec := "kcodeJumps", unfollowed := true, recurses := true, apart := false, narrowed := true }
def KcodeJumpsUptoSaid : Prop := kcodeJumpsUptoRow.holds Try.pinned (OpenSpec.upto kcodeJumpsSpec)

/-- 'babellaw02.KcodeSizes', WHERE WHAT IT READS IS OF BULK AT MOST 1048576: true; the input reads as it did. -/
def kcodeSizesUptoRow : OpenClaim := { program := "ytgnekniabedomaa", sum := "a10607d8e26f0bc346f2dbbf6516cfcd156786fc674a9765e2b6a36d4ebba17f", func := "babel/babellaw02.KcodeSizes", spec := "kcodeSizes", unfollowed := true, recurses := true, apart := false, narrowed := true }
def KcodeSizesUptoSaid : Prop := kcodeSizesUptoRow.holds Try.pinned (OpenSpec.upto kcodeSizesSpec)

end Rows
end Go.Proofs.Ytgnekniabedomaa
