/- Plain laws of babellaw02: KcodeEncode. No program in sight but the last theorems. -/
import Derived.Test.YtgnekniabedomaaKw
import Derived.Test.YtgnekniabedomaaLa
namespace Go.Proofs.Ytgnekniabedomaa
set_option linter.unusedVariables false
set_option linter.unusedSimpArgs false
open Go.RowKit
theorem K.lawEncode_true (i : K.Ins) (a b c x y c0 c1 : Int) : K.lawEncode i a b c x y c0 c1 = true := by
  have h := (K.made_good a b c x y).val
  unfold K.lawEncode
  generalize K.chg a b c x y c1 (bits .and .i64 c0 7 == 0) (bits .and .i64 c0 7 == 1) (bits .and .i64 c0 7 == 2) (bits .and .i64 c0 7 == 3) (bits .and .i64 c0 7 == 4) (bits .and .i64 c0 7 == 5) (bits .and .i64 c0 7 == 6) = j
  rw [h]; simp
theorem KcodeEncode_law (op d s ix sc imm sz : Int) (a b c x y : Int) (c0 c1 : Int) (hm : 0 ≤ imm ∧ imm < 4294967296) (w : World) : Calls Try.prog 4 #[.agg #[.int .i64 op, .int .i64 d, .int .i64 s, .int .i64 ix, .int .i64 sc, .int .u32 imm, .int .i64 sz], .agg #[.int .i64 a, .int .i64 b, .int .i64 c, .int .i64 x, .int .i64 y], .agg #[.int .i64 c0, .int .i64 c1]] w fun e w' => e = .returned (.bool true) ∧ Bel w w' := by
  have h := KcodeEncode_any ⟨op, d, s, ix, sc, imm, sz⟩ a b c x y c0 c1 hm w
  rwa [K.lawEncode_true _ a b c x y c0 c1] at h
end Go.Proofs.Ytgnekniabedomaa
