/- Walks: the functions of kcode that write the fields of an instruction, for fields in their ranges. -/
import Derived.Test.YtgnekniabedomaaKc
namespace Go.Proofs.Ytgnekniabedomaa
set_option linter.unusedVariables false
set_option linter.unusedSimpArgs false
open Go.RowKit
/-- The fields are in the ranges that Valid has looked at ahead. -/
structure K.In (i : K.Ins) : Prop where
  d0 : 0 ≤ i.d
  d1 : i.d ≤ 7
  s0 : 0 ≤ i.s
  s1 : i.s ≤ 7
  x0 : -1 ≤ i.ix
  x1 : i.ix ≤ 7
  c0 : 0 ≤ i.sc
  c1 : i.sc ≤ 3
  i0 : 0 ≤ i.imm
  i1 : i.imm < 4294967296
theorem K.cv0 (w : World) (v : Int) : (convert 23 9 (.slice (some ⟨w.heap.size, 0, none⟩) 1 1)).run Try.prog (w.alloc (.cells #[.int .u8 v] 5)) = .ok (.string (strOfNums [v])) (w.alloc (.cells #[.int .u8 v] 5)) := by
  refine run_convert_bytes_arg _ _ _ Try.underlying23 Try.underlying5 _ 0 1 1 _ rfl ?_ _ Try.underlying9
  intro i hi
  have hi' : i < 1 := hi
  obtain rfl : i = 0 := by omega
  simp [List.getD, World.cell?_alloc_mark]
theorem K.cv1 (w : World) (o : Obj) (v : Int) : (convert 23 9 (.slice (some ⟨w.heap.size + 1, 0, none⟩) 1 1)).run Try.prog ((w.alloc o).alloc (.cells #[.int .u8 v] 5)) = .ok (.string (strOfNums [v])) ((w.alloc o).alloc (.cells #[.int .u8 v] 5)) := by
  have h := K.cv0 (w.alloc o) v
  rwa [show (w.alloc o).heap.size = w.heap.size + 1 by simp] at h
theorem K.or16 (a b : Int) (a0 : 0 ≤ a) (a1 : a ≤ 7) (b0 : 0 ≤ b) (b1 : b ≤ 7) : bits .or .i64 (a * 16) b = a * 16 + b := by
  have ha : a = 0 ∨ a = 1 ∨ a = 2 ∨ a = 3 ∨ a = 4 ∨ a = 5 ∨ a = 6 ∨ a = 7 := by omega
  have hb : b = 0 ∨ b = 1 ∨ b = 2 ∨ b = 3 ∨ b = 4 ∨ b = 5 ∨ b = 6 ∨ b = 7 := by omega
  rcases ha with rfl | rfl | rfl | rfl | rfl | rfl | rfl | rfl <;> rcases hb with rfl | rfl | rfl | rfl | rfl | rfl | rfl | rfl <;> decide +kernel
theorem K.put4 (n : Int) : W.put n 4 = strOfNums [n % 256, n / 256 % 256, n / 65536 % 256, n / 16777216 % 256] := rfl
/-- The function with number f writes the bytes g. -/
def PutOK (f : FuncId) (g : K.Ins → List Int) : Prop := ∀ (i : K.Ins) (w : World), K.In i → Calls Try.prog f #[.agg #[.int .i64 i.op, .int .i64 i.d, .int .i64 i.s, .int .i64 i.ix, .int .i64 i.sc, .int .u32 i.imm, .int .i64 i.sz]] w fun e w' => e = .returned (.string (strOfNums (g i))) ∧ Bel w w'
theorem putNone_ok : PutOK 41 (fun _ => []) := by
  intro i w hi
  go_enter Try.func41, Try.ntmps41
  go_wp2
  go_ret
  exact ⟨rfl, (by repeat (first | assumption | exact Bel.refl _ | refine Bel.drew ?_ | refine Bel.drewN ?_ _ | refine Bel.alloc ?_ _ | (refine Bel.trans ?_ (by assumption)) | (refine Bel.then ?_ (by assumption) (by intro x hx; first | (subst hx; simp; done) | (simp at *; omega)))))⟩
theorem putReg_ok : PutOK 43 (fun i => [i.d]) := by
  intro i w hi
  obtain ⟨d0, d1, -, -, -, -, -, -, -, -⟩ := hi
  have hcv := K.cv1 w (.cells #[.int .i64 i.op, .int .i64 i.d, .int .i64 i.s, .int .i64 i.ix, .int .i64 i.sc, .int .u32 i.imm, .int .i64 i.sz] 27) i.d
  go_enter Try.func43, Try.ntmps43
  go_wp2
  go_ret
  exact ⟨rfl, (by repeat (first | assumption | exact Bel.refl _ | refine Bel.drew ?_ | refine Bel.drewN ?_ _ | refine Bel.alloc ?_ _ | (refine Bel.trans ?_ (by assumption)) | (refine Bel.then ?_ (by assumption) (by intro x hx; first | (subst hx; simp; done) | (simp at *; omega)))))⟩
theorem putByte_ok : PutOK 49 (fun i => [i.imm % 256]) := by
  intro i w hi
  obtain ⟨-, -, -, -, -, -, -, -, i0, i1⟩ := hi
  have hcv := K.cv1 w (.cells #[.int .i64 i.op, .int .i64 i.d, .int .i64 i.s, .int .i64 i.ix, .int .i64 i.sc, .int .u32 i.imm, .int .i64 i.sz] 27) (i.imm % 256)
  go_enter Try.func49, Try.ntmps49
  go_wp2
  go_ret
  exact ⟨rfl, (by repeat (first | assumption | exact Bel.refl _ | refine Bel.drew ?_ | refine Bel.drewN ?_ _ | refine Bel.alloc ?_ _ | (refine Bel.trans ?_ (by assumption)) | (refine Bel.then ?_ (by assumption) (by intro x hx; first | (subst hx; simp; done) | (simp at *; omega)))))⟩
theorem putPair_ok : PutOK 45 (fun i => [i.d * 16 + i.s]) := by
  intro i w hi
  obtain ⟨d0, d1, s0, s1, -, -, -, -, -, -⟩ := hi
  have hcv := K.cv1 w (.cells #[.int .i64 i.op, .int .i64 i.d, .int .i64 i.s, .int .i64 i.ix, .int .i64 i.sc, .int .u32 i.imm, .int .i64 i.sz] 27) (i.d * 16 + i.s)
  have ho : bits .or .i64 (i.d * 16) i.s = i.d * 16 + i.s := K.or16 _ _ d0 d1 s0 s1
  go_enter Try.func45, Try.ntmps45
  go_wp2
  go_ret
  exact ⟨rfl, (by repeat (first | assumption | exact Bel.refl _ | refine Bel.drew ?_ | refine Bel.drewN ?_ _ | refine Bel.alloc ?_ _ | (refine Bel.trans ?_ (by assumption)) | (refine Bel.then ?_ (by assumption) (by intro x hx; first | (subst hx; simp; done) | (simp at *; omega)))))⟩
theorem putFull_ok : PutOK 51 (fun i => [i.imm % 256, i.imm / 256 % 256, i.imm / 65536 % 256, i.imm / 16777216 % 256]) := by
  intro i w hi
  obtain ⟨-, -, -, -, -, -, -, -, i0, i1⟩ := hi
  go_enter Try.func51, Try.ntmps51
  go_wp2_with (go_at_call 59; refine (Put_any _ _ (by omega) (by omega) (by omega) (by omega) _).mono ?_; rintro e w' ⟨rfl, hb⟩)
  go_ret
  exact ⟨congrArg (fun s => Ending.returned (.string s)) (K.put4 i.imm), (by repeat (first | assumption | exact Bel.refl _ | refine Bel.drew ?_ | refine Bel.drewN ?_ _ | refine Bel.alloc ?_ _ | (refine Bel.trans ?_ (by assumption)) | (refine Bel.then ?_ (by assumption) (by intro x hx; first | (subst hx; simp; done) | (simp at *; omega)))))⟩
theorem putIndex_ok : PutOK 53 (fun i => [if i.ix < 0 then 8 else i.sc * 16 + i.ix]) := by
  intro i w hi
  obtain ⟨-, -, -, -, x0, x1, c0, c1, -, -⟩ := hi
  by_cases hx : i.ix < 0
  · go_enter Try.func53, Try.ntmps53
    go_wp2
    go_ret
    exact ⟨by simp [hx]; rfl, (by repeat (first | assumption | exact Bel.refl _ | refine Bel.drew ?_ | refine Bel.drewN ?_ _ | refine Bel.alloc ?_ _ | (refine Bel.trans ?_ (by assumption)) | (refine Bel.then ?_ (by assumption) (by intro x hx; first | (subst hx; simp; done) | (simp at *; omega)))))⟩
  · have hcv := K.cv1 w (.cells #[.int .i64 i.op, .int .i64 i.d, .int .i64 i.s, .int .i64 i.ix, .int .i64 i.sc, .int .u32 i.imm, .int .i64 i.sz] 27) (i.sc * 16 + i.ix)
    have ho : bits .or .i64 (i.sc * 16) i.ix = i.sc * 16 + i.ix := K.or16 _ _ c0 (by omega) (by omega) x1
    go_enter Try.func53, Try.ntmps53
    go_wp2
    go_ret
    exact ⟨by simp [hx], (by repeat (first | assumption | exact Bel.refl _ | refine Bel.drew ?_ | refine Bel.drewN ?_ _ | refine Bel.alloc ?_ _ | (refine Bel.trans ?_ (by assumption)) | (refine Bel.then ?_ (by assumption) (by intro x hx; first | (subst hx; simp; done) | (simp at *; omega)))))⟩
end Go.Proofs.Ytgnekniabedomaa
