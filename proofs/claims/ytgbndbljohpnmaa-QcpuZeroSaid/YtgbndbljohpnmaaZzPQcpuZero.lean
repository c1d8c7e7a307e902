/- The statement QcpuZeroSaid of the Rows text is proved; it takes no condition. -/
import Derived.Test.YtgbndbljohpnmaaZz7
namespace Go.Proofs.Ytgbndbljohpnmaa
open Go.ChangeShapes Go.WideShapes Go.ChangeAt Go.RowKit
open Go.ChangeMaps (open_string shut_string)
set_option maxRecDepth 100000 in
theorem qcpuZero_lifted (os : Os) (started : os.Started) (H : Type) (enc : TypeId × Value → H) :
    ReturnsInHanded {} Try.checked os 4 .any (Rows.qcpuZeroSpec.pre6 enc Try.prog Try.f4 Rows.qcpuZeroRow.domain false) (Rows.qcpuZeroSpec.post enc Try.prog Try.f4 false true false false) := by
  refine returnsInHanded_of_change (C := Try.checked) own started (by kernel_rfl) Try.func4
    (ChangeSpec.witness6 (enc := enc) (C := Try.checked) false ⟨#[], #[.agg #[.int .i64 0, .int .i64 0, .int .i64 0, .int .i64 0, .int .i64 0], .agg #[.int .u32 0, .int .u32 0]], []⟩ 8 (by kernel_rfl) (by kernel_rfl) (by kernel_rfl) (by kernel_rfl)) ?_
  intro W base args ds gs before hval0 hW hcnd _
  have hval : ∀ (j : Nat) t v, Try.f4.params[j]? = some t → args[j]? = some v → Value.okWide Try.prog W .any base t v := hval0
  have hW' := hW
  obtain ⟨p, q, hA0, hV, rfl, hfz, hnd⟩ := hW
  have hA : DataW.TrodAll enc Try.prog W 0 (fun _ => true) true Try.f4.params.toList args.toList ds p := hA0
  rw [Try.params4] at hA hval
  obtain ⟨v0, vs0, d0, ds0, p0, q0, hargs, rfl, rfl, h0, r0⟩ := trodAll_cons hA
  obtain ⟨v1, vs1, d1, ds1, p1, q1, rfl, rfl, rfl, h1, r1⟩ := trodAll_cons r0
  obtain ⟨rfl, rfl, rfl⟩ := trodAll_nil r1
  obtain rfl : args = #[v0, v1] := by cases args; simp_all
  obtain ⟨rfl, rfl⟩ := trodVars_none hV
  have k0 := h0
  have lt0 : ∀ x ∈ p0, x.block < W.heap.size := by obtain ⟨m, hm⟩ := k0; exact DataW.trod_lt m _ _ _ hm
  have k1 := h1
  have lt1 : ∀ x ∈ p1, x.block < W.heap.size := by obtain ⟨m, hm⟩ := k1; exact DataW.trod_lt m _ _ _ hm
  obtain ⟨a0, b0, c0, x0, y0, rfl, wa0, wb0, wc0, wx0, wy0⟩ := open_five Try.underlying44 Try.underlying3 (by kernel_rfl) (by kernel_rfl) (hval 0 44 v0 rfl rfl) h0
  obtain ⟨a1, b1, rfl, w1, x1⟩ := open_two Try.underlying45 Try.underlying22 (by kernel_rfl) (by kernel_rfl) (hval 1 45 v1 rfl rfl) h1
  clear hA0 hval0
  have CW : Calls Try.prog 4 _ W fun e w' => e = .returned (.bool true) ∧ Bel W w' := QcpuZero_law a0 b0 c0 x0 y0 a1 b1 ⟨(bounds_i64 wa0).1, by have := (bounds_i64 wa0).2; omega⟩ ⟨(bounds_i64 wb0).1, by have := (bounds_i64 wb0).2; omega⟩ ⟨(bounds_i64 wc0).1, by have := (bounds_i64 wc0).2; omega⟩ ⟨(bounds_i64 wx0).1, by have := (bounds_i64 wx0).2; omega⟩ ⟨(bounds_i64 wy0).1, by have := (bounds_i64 wy0).2; omega⟩ W
  refine CW.mono fun e W' ⟨he, bel⟩ => ?_
  subst he
  exact ⟨_, rfl, _, _, _, [], _, [], hW', trodAll_mk1 (shut_bool Try.underlying4 _), (trodAll_cons_mk (Below.trod laidOut (by kernel_rfl) (of_decide_eq_true (by kernel_rfl)) k0 bel lt0) (trodAll_cons_mk (Below.trod laidOut (by kernel_rfl) (of_decide_eq_true (by kernel_rfl)) k1 bel lt1) trodAll_mk0)), rfl, Below.frame bel _, fun h => by cases h⟩
theorem qcpuZero_over : Rows.qcpuZeroRow.holds Try.pinned (OpenSpec.ofChange Rows.qcpuZeroSpec) :=
  OpenClaim.holds_of_wide 4 Try.f4 rfl rfl rfl rfl rfl rfl rfl ⟨rfl, rfl, rfl, rfl, rfl⟩ rfl rfl rfl rfl rfl (by kernel_rfl) Try.func4 (by kernel_rfl)
    (of_decide_eq_true (by kernel_rfl)) (by unfold Func.isWrapper; first | (rw [if_pos (by decide +kernel)]; kernel_rfl) | (rw [if_neg (by decide +kernel)]; exact ⟨rfl, rfl⟩))
    (fun os started H enc _ => qcpuZero_lifted os started H enc)
theorem qcpuZero_proved : Rows.QcpuZeroSaid := qcpuZero_over
#print axioms qcpuZero_proved
end Go.Proofs.Ytgbndbljohpnmaa
