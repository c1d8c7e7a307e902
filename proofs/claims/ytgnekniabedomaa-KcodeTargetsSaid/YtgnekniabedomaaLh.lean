/- Plain laws of babellaw02: KcodeUnique, KcodeTargets. No program in sight but the last theorems. -/
import Derived.Test.YtgnekniabedomaaKw
import Derived.Test.YtgnekniabedomaaKy
namespace Go.Proofs.Ytgnekniabedomaa
set_option linter.unusedVariables false
set_option linter.unusedSimpArgs false
open Go.RowKit
theorem K.lawTargets_true (i : K.Ins) (a b c x y t : Int) : K.lawTargets i a b c x y t = true := by
  unfold K.lawTargets; simp
theorem K.lawUnique_true (b : Int) (s : ByteArray) (hs : s.size ≤ 140737488351232) : K.lawUnique b s = true := by
  have ht : (strOfNums [b] ++ s).size ≤ maxLen := by (first | assumption | decide | ((try simp only [ByteArray.size_append, ByteArray.size_extract, strOfNums_size, List.length_cons, List.length_nil, K.mn_eq] at *); unfold maxLen at *; omega) | ((try simp only [ByteArray.size_append, ByteArray.size_extract, strOfNums_size, List.length_cons, List.length_nil, K.mn_eq] at *); omega))
  unfold K.lawUnique
  generalize strOfNums [b] ++ s = t at *
  rcases K.dec_unique t ht with ⟨h0, hg, hz, he⟩ | ⟨h0, h1⟩
  · obtain ⟨k, hk⟩ := K.good_enc hg
    have e1 : (R2.Encode (R2.Decode t).1).2 = 0 := by rw [hk.enc]
    have e2 : (R2.Encode (R2.Decode t).1).1 = K.bytes (R2.Decode t).1 := rfl
    rw [h0, e1, e2, hg.val]
    generalize K.bytes (R2.Decode t).1 = u at *
    have e3 : (K.mn (u.size : Int) (t.size : Int)).toNat = u.size := by rw [K.mn_eq]; omega
    rw [e3, he]
    simp; omega
  · rw [h1]
    have : ((R2.Decode t).2 != 0) = true := by simpa using h0
    rw [this]; rfl
theorem KcodeUnique_law (b : Int) (s : ByteArray) (hs : s.size ≤ 140737488351232) (w : World) : Calls Try.prog 6 #[.int .u8 b, .string s] w fun e w' => e = .returned (.bool true) ∧ Bel w w' := by
  have h := KcodeUnique_any b s hs w
  rwa [K.lawUnique_true b s hs] at h
theorem KcodeTargets_law (op d s ix sc imm sz : Int) (a b c x y : Int) (t : Int) (hm : 0 ≤ imm ∧ imm < 4294967296) (w : World) : Calls Try.prog 10 #[.agg #[.int .i64 op, .int .i64 d, .int .i64 s, .int .i64 ix, .int .i64 sc, .int .u32 imm, .int .i64 sz], .agg #[.int .i64 a, .int .i64 b, .int .i64 c, .int .i64 x, .int .i64 y], .int .u32 t] w fun e w' => e = .returned (.bool true) ∧ Bel w w' := by
  have h := KcodeTargets_any ⟨op, d, s, ix, sc, imm, sz⟩ a b c x y t hm w
  rwa [K.lawTargets_true _ a b c x y t] at h
end Go.Proofs.Ytgnekniabedomaa
