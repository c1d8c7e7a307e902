/- kcode: its functions in the words of the reference, for the laws. No condition but the numbers' ranges. -/
import Derived.Test.YtgnekniabedomaaKu
namespace Go.Proofs.Ytgnekniabedomaa
set_option linter.unusedVariables false
set_option linter.unusedSimpArgs false
open Go.RowKit
theorem Decode_r (s : ByteArray) (hs : s.size ≤ maxLen) (w : World) : Calls Try.prog 14 #[.string s] w fun e w' => e = .returned (.tuple #[.agg #[.int .i64 (R2.Decode s).1.op, .int .i64 (R2.Decode s).1.d, .int .i64 (R2.Decode s).1.s, .int .i64 (R2.Decode s).1.ix, .int .i64 (R2.Decode s).1.sc, .int .u32 (R2.Decode s).1.imm, .int .i64 (R2.Decode s).1.sz], .int .i64 (R2.Decode s).2]) ∧ Bel w w' := by
  rw [← K.decode_eq s hs]; exact Decode_any s hs w
theorem Encode_r (i : K.Ins) (hm : 0 ≤ i.imm ∧ i.imm < 4294967296) (w : World) : Calls Try.prog 17 #[.agg #[.int .i64 i.op, .int .i64 i.d, .int .i64 i.s, .int .i64 i.ix, .int .i64 i.sc, .int .u32 i.imm, .int .i64 i.sz]] w fun e w' => e = .returned (.tuple #[.string (R2.Encode i).1, .int .i64 (R2.Encode i).2]) ∧ Bel w w' := by
  rw [← K.encode_eq i hm]; exact Encode_any i hm w
theorem Encode_g (i : K.Ins) (h : K.Good i) (w : World) : Calls Try.prog 17 #[.agg #[.int .i64 i.op, .int .i64 i.d, .int .i64 i.s, .int .i64 i.ix, .int .i64 i.sc, .int .u32 i.imm, .int .i64 i.sz]] w fun e w' => e = .returned (.tuple #[.string (K.bytes i), .int .i64 0]) ∧ Bel w w' := by
  obtain ⟨k, hk⟩ := K.good_enc h
  have e : R2.Encode i = (K.bytes i, 0) := by rw [K.bytes_eq hk, hk.enc]
  have := Encode_r i ⟨h.i0, h.i1⟩ w
  rwa [e] at this
theorem Decode_g (i : K.Ins) (h : K.Good i) (more : ByteArray) (hs : (K.bytes i ++ more).size ≤ maxLen) (w : World) : Calls Try.prog 14 #[.string (K.bytes i ++ more)] w fun e w' => e = .returned (.tuple #[.agg #[.int .i64 i.op, .int .i64 i.d, .int .i64 i.s, .int .i64 i.ix, .int .i64 i.sc, .int .u32 i.imm, .int .i64 i.sz], .int .i64 0]) ∧ Bel w w' := by
  have := Decode_r (K.bytes i ++ more) hs w
  rwa [K.dec_app h more hs] at this
theorem Valid_r (i : K.Ins) (hm : 0 ≤ i.imm ∧ i.imm < 4294967296) (w : World) : Calls Try.prog 19 #[.agg #[.int .i64 i.op, .int .i64 i.d, .int .i64 i.s, .int .i64 i.ix, .int .i64 i.sc, .int .u32 i.imm, .int .i64 i.sz]] w fun e w' => e = .returned (.bool (R2.Valid i)) ∧ Bel w w' := by
  rw [← K.valid_eq i hm]; exact Valid_any i hm w
theorem Target_r (i : K.Ins) (a : Int) (hm : 0 ≤ i.imm ∧ i.imm < 4294967296) (w : World) : Calls Try.prog 21 #[.agg #[.int .i64 i.op, .int .i64 i.d, .int .i64 i.s, .int .i64 i.ix, .int .i64 i.sc, .int .u32 i.imm, .int .i64 i.sz], .int .u32 a] w fun e w' => e = .returned (.tuple #[.int .u32 (R2.Target i a).1, .bool (R2.Target i a).2]) ∧ Bel w w' := by
  rw [← K.target_eq i a hm]; exact Target_any i a hm w
theorem Ends_r (i : K.Ins) (w : World) : Calls Try.prog 23 #[.agg #[.int .i64 i.op, .int .i64 i.d, .int .i64 i.s, .int .i64 i.ix, .int .i64 i.sc, .int .u32 i.imm, .int .i64 i.sz]] w fun e w' => e = .returned (.bool (R2.Ends i)) ∧ Bel w w' := by
  rw [← K.ends_eq i]; exact Ends_any i w
theorem Size_r (x : Int) (h0 : 0 ≤ x) (h1 : x < 256) (w : World) : Calls Try.prog 25 #[.int .u8 x] w fun e w' => e = .returned (.int .i64 (R2.Size x)) ∧ Bel w w' := by
  rw [← K.size_eq x h0 h1]; exact Size_any x w
end Go.Proofs.Ytgnekniabedomaa
