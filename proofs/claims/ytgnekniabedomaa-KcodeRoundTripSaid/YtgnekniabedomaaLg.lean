/- Plain laws of babellaw02: KcodeDecode, KcodeRoundTrip. No program in sight but the last theorems. -/
import Derived.Test.YtgnekniabedomaaKw
import Derived.Test.YtgnekniabedomaaKx
namespace Go.Proofs.Ytgnekniabedomaa
set_option linter.unusedVariables false
set_option linter.unusedSimpArgs false
open Go.RowKit
theorem K.lawDecode_true (s : ByteArray) (b : Int) : K.lawDecode s b = true := by
  unfold K.lawDecode; simp
theorem K.lawRoundTrip_true (a b c x y : Int) (s : ByteArray) : K.lawRoundTrip a b c x y s = true := by
  have h := (K.good_size (K.made_good a b c x y)).1
  unfold K.lawRoundTrip; rw [h]; simp
theorem KcodeDecode_law (s : ByteArray) (b : Int) (hs : s.size ≤ maxLen) (w : World) : Calls Try.prog 3 #[.string s, .int .u8 b] w fun e w' => e = .returned (.bool true) ∧ Bel w w' := by
  have h := KcodeDecode_any s b hs w
  rwa [K.lawDecode_true s b] at h
theorem KcodeRoundTrip_law (a b c x y : Int) (s : ByteArray) (hs : s.size ≤ 140737488351232) (w : World) : Calls Try.prog 5 #[.agg #[.int .i64 a, .int .i64 b, .int .i64 c, .int .i64 x, .int .i64 y], .string s] w fun e w' => e = .returned (.bool true) ∧ Bel w w' := by
  have h := KcodeRoundTrip_any a b c x y s hs w
  rwa [K.lawRoundTrip_true a b c x y s] at h
end Go.Proofs.Ytgnekniabedomaa
