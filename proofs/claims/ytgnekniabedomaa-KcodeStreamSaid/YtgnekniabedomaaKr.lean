/- Plain laws of kcode: it is the reference. No program in sight. -/
import Derived.Test.YtgnekniabedomaaKq
namespace Go.Proofs.Ytgnekniabedomaa
set_option linter.unusedVariables false
set_option linter.unusedSimpArgs false
open Go.RowKit
theorem K.wu8 (n : Int) : IntKind.wrap .u8 n = n % 256 := rfl
theorem K.wu32 (n : Int) : IntKind.wrap .u32 n = n % 4294967296 := rfl
theorem K.str_congr {a b : List Int} (h : a = b) : strOfNums a = strOfNums b := by rw [h]
theorem K.encode_eq (i : K.Ins) (hm : 0 ≤ i.imm ∧ i.imm < 4294967296) : K.encode i = R2.Encode i := by
  have hv := K.valid_eq i hm
  unfold K.valid at hv
  unfold K.encode
  rcases K.fmt_cases i.op with ⟨hk, hf⟩ | ⟨hk, hf, h1, h2⟩ | ⟨hk, hf, h1, h2⟩ | ⟨hk, hf, h1, h2⟩ | ⟨hk, hf, h1, h2⟩ | ⟨hk, hf, h1, h2⟩ | ⟨hk, hf, h1, h2⟩ | ⟨hk, hf, h1, h2⟩ | ⟨hk, hf, h1, h2⟩ | ⟨hk, hf, h1, h2⟩ | ⟨hk, hf, h1⟩ | ⟨hk, hf, h1⟩ | ⟨hk, hf, h1⟩
  · rw [hk] at hv ⊢
    have hv : false = R2.Valid i := hv
    unfold K.encode0 R2.Encode; rw [← hv]; rfl
  · rw [hk] at hv ⊢
    have hv : K.valid1 0 i = R2.Valid i := hv
    show K.encode1 0 i = _
    unfold K.encode1 R2.Encode
    rw [← hv]
    cases hq : (!(K.valid1 0 i)) with
    | true => rfl
    | false =>
      obtain ⟨d0, d1, s0, s1, x0, x1, c0, c1, i0, i1⟩ := K.in_valid hm hq
      have e1 := K.w8 i.op (by omega) (by omega)
      have e2 := K.w64 (16 * i.d) (by omega) (by omega)
      have e3 := K.w64 (16 * i.d + i.s) (by omega) (by omega)
      have e4 := K.w64 (16 * i.sc) (by omega) (by omega)
      have e : K.ser 0 i = [i.op] := by unfold K.ser; rw [e1]; rfl
      rw [cond_false, cond_false, K.ser_str, e, hf]
      simp only [e1, e2, e3, K.wu8, K.wu32, Int.tdiv_eq_ediv_of_nonneg i0, Int.reduceBEq, cond_false, cond_true]
      all_goals (refine congrArg (·, 0) (K.str_congr ?_); simp only [List.cons.injEq, and_true, true_and] <;> omega)
  · rw [hk] at hv ⊢
    have hv : K.valid1 1 i = R2.Valid i := hv
    show K.encode1 1 i = _
    unfold K.encode1 R2.Encode
    rw [← hv]
    cases hq : (!(K.valid1 1 i)) with
    | true => rfl
    | false =>
      obtain ⟨d0, d1, s0, s1, x0, x1, c0, c1, i0, i1⟩ := K.in_valid hm hq
      have e1 := K.w8 i.op (by omega) (by omega)
      have e2 := K.w64 (16 * i.d) (by omega) (by omega)
      have e3 := K.w64 (16 * i.d + i.s) (by omega) (by omega)
      have e4 := K.w64 (16 * i.sc) (by omega) (by omega)
      have e : K.ser 1 i = [i.op, i.d] := by unfold K.ser; rw [e1]; rfl
      rw [cond_false, cond_false, K.ser_str, e, hf]
      simp only [e1, e2, e3, K.wu8, K.wu32, Int.tdiv_eq_ediv_of_nonneg i0, Int.reduceBEq, cond_false, cond_true]
      all_goals (refine congrArg (·, 0) (K.str_congr ?_); simp only [List.cons.injEq, and_true, true_and] <;> omega)
  · rw [hk] at hv ⊢
    have hv : K.valid1 2 i = R2.Valid i := hv
    show K.encode1 2 i = _
    unfold K.encode1 R2.Encode
    rw [← hv]
    cases hq : (!(K.valid1 2 i)) with
    | true => rfl
    | false =>
      obtain ⟨d0, d1, s0, s1, x0, x1, c0, c1, i0, i1⟩ := K.in_valid hm hq
      have e1 := K.w8 i.op (by omega) (by omega)
      have e2 := K.w64 (16 * i.d) (by omega) (by omega)
      have e3 := K.w64 (16 * i.d + i.s) (by omega) (by omega)
      have e4 := K.w64 (16 * i.sc) (by omega) (by omega)
      have e : K.ser 2 i = [i.op, i.d * 16 + i.s] := by unfold K.ser; rw [e1]; rfl
      rw [cond_false, cond_false, K.ser_str, e, hf]
      simp only [e1, e2, e3, K.wu8, K.wu32, Int.tdiv_eq_ediv_of_nonneg i0, Int.reduceBEq, cond_false, cond_true]
      all_goals (refine congrArg (·, 0) (K.str_congr ?_); simp only [List.cons.injEq, and_true, true_and] <;> omega)
  · rw [hk] at hv ⊢
    have hv : K.valid1 3 i = R2.Valid i := hv
    show K.encode1 3 i = _
    unfold K.encode1 R2.Encode
    rw [← hv]
    cases hq : (!(K.valid1 3 i)) with
    | true => rfl
    | false =>
      obtain ⟨d0, d1, s0, s1, x0, x1, c0, c1, i0, i1⟩ := K.in_valid hm hq
      have e1 := K.w8 i.op (by omega) (by omega)
      have e2 := K.w64 (16 * i.d) (by omega) (by omega)
      have e3 := K.w64 (16 * i.d + i.s) (by omega) (by omega)
      have e4 := K.w64 (16 * i.sc) (by omega) (by omega)
      have e : K.ser 3 i = [i.op, i.d, i.imm % 256] := by unfold K.ser; rw [e1]; rfl
      rw [cond_false, cond_false, K.ser_str, e, hf]
      simp only [e1, e2, e3, K.wu8, K.wu32, Int.tdiv_eq_ediv_of_nonneg i0, Int.reduceBEq, cond_false, cond_true]
      all_goals (refine congrArg (·, 0) (K.str_congr ?_); simp only [List.cons.injEq, and_true, true_and] <;> omega)
  · rw [hk] at hv ⊢
    have hv : K.valid1 4 i = R2.Valid i := hv
    show K.encode1 4 i = _
    unfold K.encode1 R2.Encode
    rw [← hv]
    cases hq : (!(K.valid1 4 i)) with
    | true => rfl
    | false =>
      obtain ⟨d0, d1, s0, s1, x0, x1, c0, c1, i0, i1⟩ := K.in_valid hm hq
      have e1 := K.w8 i.op (by omega) (by omega)
      have e2 := K.w64 (16 * i.d) (by omega) (by omega)
      have e3 := K.w64 (16 * i.d + i.s) (by omega) (by omega)
      have e4 := K.w64 (16 * i.sc) (by omega) (by omega)
      have e : K.ser 4 i = [i.op, i.d, i.imm % 256, i.imm / 256 % 256, i.imm / 65536 % 256, i.imm / 16777216 % 256] := by unfold K.ser; rw [e1]; rfl
      rw [cond_false, cond_false, K.ser_str, e, hf]
      simp only [e1, e2, e3, K.wu8, K.wu32, Int.tdiv_eq_ediv_of_nonneg i0, Int.reduceBEq, cond_false, cond_true]
      all_goals (refine congrArg (·, 0) (K.str_congr ?_); simp only [List.cons.injEq, and_true, true_and] <;> omega)
  · rw [hk] at hv ⊢
    have hv : K.valid1 5 i = R2.Valid i := hv
    show K.encode1 5 i = _
    unfold K.encode1 R2.Encode
    rw [← hv]
    cases hq : (!(K.valid1 5 i)) with
    | true => rfl
    | false =>
      obtain ⟨d0, d1, s0, s1, x0, x1, c0, c1, i0, i1⟩ := K.in_valid hm hq
      have e1 := K.w8 i.op (by omega) (by omega)
      have e2 := K.w64 (16 * i.d) (by omega) (by omega)
      have e3 := K.w64 (16 * i.d + i.s) (by omega) (by omega)
      have e4 := K.w64 (16 * i.sc) (by omega) (by omega)
      have e : K.ser 5 i = [i.op, i.d * 16 + i.s, i.imm % 256] := by unfold K.ser; rw [e1]; rfl
      rw [cond_false, cond_false, K.ser_str, e, hf]
      simp only [e1, e2, e3, K.wu8, K.wu32, Int.tdiv_eq_ediv_of_nonneg i0, Int.reduceBEq, cond_false, cond_true]
      all_goals (refine congrArg (·, 0) (K.str_congr ?_); simp only [List.cons.injEq, and_true, true_and] <;> omega)
  · rw [hk] at hv ⊢
    have hv : K.valid1 6 i = R2.Valid i := hv
    show K.encode1 6 i = _
    unfold K.encode1 R2.Encode
    rw [← hv]
    cases hq : (!(K.valid1 6 i)) with
    | true => rfl
    | false =>
      obtain ⟨d0, d1, s0, s1, x0, x1, c0, c1, i0, i1⟩ := K.in_valid hm hq
      have e1 := K.w8 i.op (by omega) (by omega)
      have e2 := K.w64 (16 * i.d) (by omega) (by omega)
      have e3 := K.w64 (16 * i.d + i.s) (by omega) (by omega)
      have e4 := K.w64 (16 * i.sc) (by omega) (by omega)
      have e : K.ser 6 i = [i.op, i.d * 16 + i.s, if i.ix < 0 then 8 else i.sc * 16 + i.ix, i.imm % 256, i.imm / 256 % 256, i.imm / 65536 % 256, i.imm / 16777216 % 256] := by unfold K.ser; rw [e1]; rfl
      rw [cond_false, cond_false, K.ser_str, e, hf]
      simp only [e1, e2, e3, K.wu8, K.wu32, Int.tdiv_eq_ediv_of_nonneg i0, Int.reduceBEq, cond_false, cond_true]
      by_cases hx : i.ix < 0
      · rw [if_pos hx, show decide (i.ix ≥ 0) = false by simp; omega, cond_false]
        refine congrArg (·, 0) (K.str_congr ?_)
        simp only [List.cons.injEq, and_true, true_and] <;> omega
      · have e5 := K.w64 (i.ix + 16 * i.sc) (by omega) (by omega)
        rw [if_neg hx, show decide (i.ix ≥ 0) = true by simp; omega, cond_true]
        simp only [e4, e5]
        refine congrArg (·, 0) (K.str_congr ?_)
        simp only [List.cons.injEq, and_true, true_and] <;> omega
  · rw [hk] at hv ⊢
    have hv : K.valid1 7 i = R2.Valid i := hv
    show K.encode1 7 i = _
    unfold K.encode1 R2.Encode
    rw [← hv]
    cases hq : (!(K.valid1 7 i)) with
    | true => rfl
    | false =>
      obtain ⟨d0, d1, s0, s1, x0, x1, c0, c1, i0, i1⟩ := K.in_valid hm hq
      have e1 := K.w8 i.op (by omega) (by omega)
      have e2 := K.w64 (16 * i.d) (by omega) (by omega)
      have e3 := K.w64 (16 * i.d + i.s) (by omega) (by omega)
      have e4 := K.w64 (16 * i.sc) (by omega) (by omega)
      have e : K.ser 7 i = [i.op, i.imm % 256] := by unfold K.ser; rw [e1]; rfl
      rw [cond_false, cond_false, K.ser_str, e, hf]
      simp only [e1, e2, e3, K.wu8, K.wu32, Int.tdiv_eq_ediv_of_nonneg i0, Int.reduceBEq, cond_false, cond_true]
      all_goals (refine congrArg (·, 0) (K.str_congr ?_); simp only [List.cons.injEq, and_true, true_and] <;> omega)
  · rw [hk] at hv ⊢
    have hv : K.valid1 8 i = R2.Valid i := hv
    show K.encode1 8 i = _
    unfold K.encode1 R2.Encode
    rw [← hv]
    cases hq : (!(K.valid1 8 i)) with
    | true => rfl
    | false =>
      obtain ⟨d0, d1, s0, s1, x0, x1, c0, c1, i0, i1⟩ := K.in_valid hm hq
      have e1 := K.w8 i.op (by omega) (by omega)
      have e2 := K.w64 (16 * i.d) (by omega) (by omega)
      have e3 := K.w64 (16 * i.d + i.s) (by omega) (by omega)
      have e4 := K.w64 (16 * i.sc) (by omega) (by omega)
      have e : K.ser 8 i = [i.op, i.imm % 256, i.imm / 256 % 256, i.imm / 65536 % 256, i.imm / 16777216 % 256] := by unfold K.ser; rw [e1]; rfl
      rw [cond_false, cond_false, K.ser_str, e, hf]
      simp only [e1, e2, e3, K.wu8, K.wu32, Int.tdiv_eq_ediv_of_nonneg i0, Int.reduceBEq, cond_false, cond_true]
      all_goals (refine congrArg (·, 0) (K.str_congr ?_); simp only [List.cons.injEq, and_true, true_and] <;> omega)
  · rw [hk] at hv ⊢
    have hv : K.valid1 9 i = R2.Valid i := hv
    show K.encode1 9 i = _
    unfold K.encode1 R2.Encode
    rw [← hv]
    cases hq : (!(K.valid1 9 i)) with
    | true => rfl
    | false =>
      obtain ⟨d0, d1, s0, s1, x0, x1, c0, c1, i0, i1⟩ := K.in_valid hm hq
      have e1 := K.w8 i.op (by omega) (by omega)
      have e2 := K.w64 (16 * i.d) (by omega) (by omega)
      have e3 := K.w64 (16 * i.d + i.s) (by omega) (by omega)
      have e4 := K.w64 (16 * i.sc) (by omega) (by omega)
      have e : K.ser 9 i = [i.op, i.imm % 256] := by unfold K.ser; rw [e1]; rfl
      rw [cond_false, cond_false, K.ser_str, e, hf]
      simp only [e1, e2, e3, K.wu8, K.wu32, Int.tdiv_eq_ediv_of_nonneg i0, Int.reduceBEq, cond_false, cond_true]
      all_goals (refine congrArg (·, 0) (K.str_congr ?_); simp only [List.cons.injEq, and_true, true_and] <;> omega)
  · rw [hk] at hv ⊢
    have hv : K.valid1 10 i = R2.Valid i := hv
    show K.encode1 10 i = _
    unfold K.encode1 R2.Encode
    rw [← hv]
    cases hq : (!(K.valid1 10 i)) with
    | true => rfl
    | false =>
      obtain ⟨d0, d1, s0, s1, x0, x1, c0, c1, i0, i1⟩ := K.in_valid hm hq
      have e1 := K.w8 i.op (by omega) (by omega)
      have e2 := K.w64 (16 * i.d) (by omega) (by omega)
      have e3 := K.w64 (16 * i.d + i.s) (by omega) (by omega)
      have e4 := K.w64 (16 * i.sc) (by omega) (by omega)
      have e : K.ser 10 i = [i.op, i.d * 16 + i.s] := by unfold K.ser; rw [e1]; rfl
      rw [cond_false, cond_false, K.ser_str, e, hf]
      simp only [e1, e2, e3, K.wu8, K.wu32, Int.tdiv_eq_ediv_of_nonneg i0, Int.reduceBEq, cond_false, cond_true]
      all_goals (refine congrArg (·, 0) (K.str_congr ?_); simp only [List.cons.injEq, and_true, true_and] <;> omega)
  · rw [hk] at hv ⊢
    have hv : K.valid1 10 i = R2.Valid i := hv
    show K.encode1 10 i = _
    unfold K.encode1 R2.Encode
    rw [← hv]
    cases hq : (!(K.valid1 10 i)) with
    | true => rfl
    | false =>
      obtain ⟨d0, d1, s0, s1, x0, x1, c0, c1, i0, i1⟩ := K.in_valid hm hq
      have e1 := K.w8 i.op (by omega) (by omega)
      have e2 := K.w64 (16 * i.d) (by omega) (by omega)
      have e3 := K.w64 (16 * i.d + i.s) (by omega) (by omega)
      have e4 := K.w64 (16 * i.sc) (by omega) (by omega)
      have e : K.ser 10 i = [i.op, i.d * 16 + i.s] := by unfold K.ser; rw [e1]; rfl
      rw [cond_false, cond_false, K.ser_str, e, hf]
      simp only [e1, e2, e3, K.wu8, K.wu32, Int.tdiv_eq_ediv_of_nonneg i0, Int.reduceBEq, cond_false, cond_true]
      all_goals (refine congrArg (·, 0) (K.str_congr ?_); simp only [List.cons.injEq, and_true, true_and] <;> omega)
theorem K.size_eq (x : Int) (h0 : 0 ≤ x) (h1 : x < 256) : K.size x = R2.Size x := by
  unfold K.size R2.Size
  rcases K.fmt_cases (IntKind.wrap .i64 x) with ⟨hk, hf⟩ | ⟨hk, hf, h1, h2⟩ | ⟨hk, hf, h1, h2⟩ | ⟨hk, hf, h1, h2⟩ | ⟨hk, hf, h1, h2⟩ | ⟨hk, hf, h1, h2⟩ | ⟨hk, hf, h1, h2⟩ | ⟨hk, hf, h1, h2⟩ | ⟨hk, hf, h1, h2⟩ | ⟨hk, hf, h1, h2⟩ | ⟨hk, hf, h1⟩ | ⟨hk, hf, h1⟩ | ⟨hk, hf, h1⟩ <;> rw [hk, hf] <;> rfl
theorem K.ends_eq (i : K.Ins) : K.ends i = R2.Ends i := by
  rw [Bool.eq_iff_iff]
  unfold K.ends R2.Ends K.inAny
  simp only [List.any_cons, List.any_nil, Bool.or_false, Bool.or_eq_true, Bool.and_eq_true, decide_eq_true_eq, Bool.cond_eq_ite]
  split
  · rename_i h; simp at h; simp; omega
  · rename_i h; simp at h; simp; omega
theorem K.jmpF : ∀ n : Fin 131, (!(K.inAny (n.val : Int) [(96, 109), (112, 113)])) = ((R2.Format n.val != 8) && (R2.Format n.val != 9)) := by decide +kernel
theorem K.target_eq (i : K.Ins) (a : Int) (hm : 0 ≤ i.imm ∧ i.imm < 4294967296) : K.target i a = R2.Target i a := by
  unfold K.target R2.Target
  rw [K.valid_eq i hm]
  have e : (!(K.inAny i.op [(96, 109), (112, 113)])) = ((R2.Format i.op != 8) && (R2.Format i.op != 9)) := by
    by_cases h : i.op < 0 ∨ 130 < i.op
    · rw [R2.Format_none _ h]; unfold K.inAny; simp; omega
    · obtain ⟨n, hn⟩ := Int.eq_ofNat_of_zero_le (by omega : 0 ≤ i.op)
      rw [hn]
      exact K.jmpF ⟨n, by omega⟩
  rw [e]
end Go.Proofs.Ytgnekniabedomaa
