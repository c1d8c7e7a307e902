/- Walks: KcpuJumps: the law, printed by wip/eng. No condition but what is named. -/
import Derived.Test.YtglidnmmeclneaaGreatKcSKcpuJumps
import Derived.Test.YtglidnmmeclneaaGreatKcIh
import Derived.Test.YtglidnmmeclneaaGreatKcIj
import Derived.Test.YtglidnmmeclneaaGreatProg
namespace Go.Proofs.YtglidnmmeclneaaGreat
set_option linter.unusedVariables false
set_option linter.unusedSimpArgs false
open Go.RowKit
theorem K.sx_signed {d e : Int} (he : IntKind.wrap .u32 (IntKind.wrap .i32 (IntKind.wrap .i8 d)) = e) : R2.signed e = true := by
  have e8 : IntKind.wrap .i8 d = if (true && decide (d % 256 ≥ 128)) = true then d % 256 - 256 else d % 256 := rfl
  have e32 : ∀ x, IntKind.wrap .i32 x = if (true && decide (x % 4294967296 ≥ 2147483648)) = true then x % 4294967296 - 4294967296 else x % 4294967296 := fun _ => rfl
  have eu : ∀ x, IntKind.wrap .u32 x = x % 4294967296 := fun _ => rfl
  rw [eu, e32, e8] at he
  simp only [Bool.true_and, decide_eq_true_eq] at he
  unfold R2.signed
  rw [Bool.or_eq_true, decide_eq_true_eq, decide_eq_true_eq]
  split at he <;> split at he <;> omega
theorem K.good_jcc {k e : Int} (hk : 0 ≤ k ∧ k < 14) (hb : 0 ≤ e ∧ e < 4294967296) (he : R2.signed e = true) : K.Good ⟨96 + k, 0, 0, -1, 0, e, 2⟩ := by
  refine ⟨?_, hb.1, hb.2⟩
  rcases (by omega : k = 0 ∨ k = 1 ∨ k = 2 ∨ k = 3 ∨ k = 4 ∨ k = 5 ∨ k = 6 ∨ k = 7 ∨ k = 8 ∨ k = 9 ∨ k = 10 ∨ k = 11 ∨ k = 12 ∨ k = 13) with rfl | rfl | rfl | rfl | rfl | rfl | rfl | rfl | rfl | rfl | rfl | rfl | rfl | rfl <;> exact he
theorem K.step_jcc {k e : Int} (hk : 0 ≤ k ∧ k < 14) (s : Q.S) (V : M.V) : K.stepI ⟨96 + k, 0, 0, -1, 0, e, 2⟩ 0 0 s V = (⟨bif W.cond k s.f then IntKind.wrap .u32 (IntKind.wrap .u32 (s.pc + 2) + e) else IntKind.wrap .u32 (s.pc + 2), s.r, s.f, s.c, IntKind.wrap .i64 (s.st + 1), s.du⟩, 0, 0, V) := by
  have h : ∀ b, (K.stepI ⟨96 + k, 0, 0, -1, 0, e, 2⟩ 0 0 s V = bif W.cond (IntKind.wrap .i64 (96 + k - 96)) s.f then (⟨IntKind.wrap .u32 (IntKind.wrap .u32 (s.pc + 2) + e), s.r, s.f, s.c, IntKind.wrap .i64 (s.st + 1), s.du⟩, 0, 0, V) else (⟨IntKind.wrap .u32 (s.pc + 2), s.r, s.f, s.c, IntKind.wrap .i64 (s.st + 1), s.du⟩, 0, 0, V)) ∨ b = false := fun b => .inl (by
    rcases (by omega : k = 0 ∨ k = 1 ∨ k = 2 ∨ k = 3 ∨ k = 4 ∨ k = 5 ∨ k = 6 ∨ k = 7 ∨ k = 8 ∨ k = 9 ∨ k = 10 ∨ k = 11 ∨ k = 12 ∨ k = 13) with rfl | rfl | rfl | rfl | rfl | rfl | rfl | rfl | rfl | rfl | rfl | rfl | rfl | rfl <;> rfl)
  rw [(h true).resolve_right (by decide), show 96 + k - 96 = k by omega, IntWalk.i64_in _ (by omega)]
  cases W.cond k s.f <;> rfl
theorem K.step_jmp (d : Int) (s : Q.S) (V : M.V) : K.stepI ⟨112, 0, 0, -1, 0, d, 5⟩ 0 0 s V = (⟨IntKind.wrap .u32 (IntKind.wrap .u32 (s.pc + 5) + d), s.r, s.f, s.c, IntKind.wrap .i64 (s.st + 1), s.du⟩, 0, 0, V) := by kernel_rfl
theorem K.step_jmpr (s : Q.S) (V : M.V) : K.stepI ⟨20, 3, 0, -1, 0, 0, 2⟩ 0 0 s V = (⟨s.r 3, s.r, s.f, s.c, IntKind.wrap .i64 (s.st + 1), s.du⟩, 0, 0, V) := by kernel_rfl
theorem K.jpage (j : Nat) (h : j = (300 : Int).toNat / 256 ∨ j = ((300 : Int).toNat + 6) / 256) : (bits .and .i64 (K.br 0 4 0 0 j) 4 == 0) = false := by
  have : j = 1 := by rcases h with rfl | rfl <;> rfl
  subst this; rfl
theorem K.run_300 {S S' : Q.S} {i : K.Ins} {t : Int} (h1 : S.pc = 300) (h2 : S.du = 0) (g : K.Good i) (hs : ∀ V, K.stepI i 0 0 S V = (S', 0, t, V)) (h3 : S'.du = 0) : K.runs 1 S (K.bV 0 4 0 0 0 300 (R2.Encode i).1) = (S', 1, 0, K.bV 0 4 0 0 0 300 (R2.Encode i).1) :=
  K.one_run (K.nd0 (by omega)) (by rw [h1]; show K.fetch (K.bV 0 4 0 0 0 300 (K.bytes i)) 300 = _; exact K.fetch_one g ⟨by decide, by decide⟩ K.jpage) (hs _) (K.nd0 (by omega))
theorem KcpuJumps_law (c f d : Int) (hc : 0 ≤ c ∧ c < 256) (hf : 0 ≤ f ∧ f < 256) (hd : 0 ≤ d ∧ d < 4294967296) (w : World) : Calls Tryz.prog 6 #[.int .u8 c, .int .u8 f, .int .u32 d] w fun e w' => e = .returned (.bool true) ∧ Bel w w' := by
  obtain ⟨k, hk⟩ : ∃ k, IntKind.wrap .i64 (Int.tmod c 14) = k := ⟨_, rfl⟩
  obtain ⟨q, hq⟩ : ∃ q, IntKind.wrap .u32 (Int.tmod f 16) = q := ⟨_, rfl⟩
  obtain ⟨e, he⟩ : ∃ e, IntKind.wrap .u32 (IntKind.wrap .i32 (IntKind.wrap .i8 d)) = e := ⟨_, rfl⟩
  have ec : Int.tmod c 14 = c % 14 := Int.tmod_eq_emod_of_nonneg hc.1
  have ef : Int.tmod f 16 = f % 16 := Int.tmod_eq_emod_of_nonneg hf.1
  have hk0 : 0 ≤ k ∧ k < 14 := by rw [ec, IntWalk.i64_in _ (by omega)] at hk; omega
  have hq0 : 0 ≤ q ∧ q < 16 := by rw [ef, K.w32 (by omega)] at hq; omega
  have he0 : 0 ≤ e ∧ e < 4294967296 := he ▸ Q.wrap_bd _
  have hS : K.norm (⟨300, (fun k => [0, 0, 0, d, 0, 0, 0, 0, 0, 0, 0, 0, 0, 0, 0, 0].getD k 0), q, (fun _ => 0), 0, 0⟩ : Q.S) = ⟨300, (fun k => [0, 0, 0, d, 0, 0, 0, 0, 0, 0, 0, 0, 0, 0, 0, 0].getD k 0), q, (fun _ => 0), 0, 0⟩ := K.norm_id (fun k h1 h2 => K.tail8 k h1 h2) hq0 (Int.le_refl 0) (Int.le_refl 0)
  have hr : ∀ k, 0 ≤ ([0, 0, 0, d, 0, 0, 0, 0, 0, 0, 0, 0, 0, 0, 0, 0] : List Int).getD k 0 ∧ ([0, 0, 0, d, 0, 0, 0, 0, 0, 0, 0, 0, 0, 0, 0, 0] : List Int).getD k 0 < 4294967296 := K.row_bd K.z32 K.z32 K.z32 hd K.z32 K.z32 K.z32 K.z32
  have hwS : Q.wf (⟨300, (fun k => [0, 0, 0, d, 0, 0, 0, 0, 0, 0, 0, 0, 0, 0, 0, 0].getD k 0), q, (fun _ => 0), 0, 0⟩ : Q.S) := ⟨by show (0 : Int) ≤ 300 ∧ (300 : Int) < 4294967296; decide, hr, K.zero_bd⟩
  have g0 := K.good_jcc hk0 he0 (K.sx_signed he)
  have g1 : K.Good ⟨112, 0, 0, -1, 0, d, 5⟩ := ⟨by kernel_rfl, hd.1, hd.2⟩
  have g2 : K.Good ⟨20, 3, 0, -1, 0, 0, 2⟩ := ⟨by kernel_rfl, by decide, by decide⟩
  have r0 : K.runs 1 (⟨300, (fun k => [0, 0, 0, d, 0, 0, 0, 0, 0, 0, 0, 0, 0, 0, 0, 0].getD k 0), q, (fun _ => 0), 0, 0⟩ : Q.S) (K.bV 0 4 0 0 0 300 (R2.Encode (⟨96 + k, 0, 0, -1, 0, e, 2⟩ : K.Ins)).1) = ((⟨(bif (W.cond k q) then (IntKind.wrap .u32 (302 + e)) else 302), (fun k => [0, 0, 0, d, 0, 0, 0, 0, 0, 0, 0, 0, 0, 0, 0, 0].getD k 0), q, (fun _ => 0), 1, 0⟩ : Q.S), 1, 0, K.bV 0 4 0 0 0 300 (R2.Encode (⟨96 + k, 0, 0, -1, 0, e, 2⟩ : K.Ins)).1) := K.run_300 (t := 0) rfl rfl g0 (fun V => (K.step_jcc hk0 _ V).trans (by kernel_rfl)) rfl
  have r1 : K.runs 1 (⟨300, (fun k => [0, 0, 0, d, 0, 0, 0, 0, 0, 0, 0, 0, 0, 0, 0, 0].getD k 0), q, (fun _ => 0), 0, 0⟩ : Q.S) (K.bV 0 4 0 0 0 300 (R2.Encode (⟨112, 0, 0, -1, 0, d, 5⟩ : K.Ins)).1) = ((⟨(IntKind.wrap .u32 (305 + d)), (fun k => [0, 0, 0, d, 0, 0, 0, 0, 0, 0, 0, 0, 0, 0, 0, 0].getD k 0), q, (fun _ => 0), 1, 0⟩ : Q.S), 1, 0, K.bV 0 4 0 0 0 300 (R2.Encode (⟨112, 0, 0, -1, 0, d, 5⟩ : K.Ins)).1) := K.run_300 (t := 0) rfl rfl g1 (fun V => (K.step_jmp d _ V).trans (by kernel_rfl)) rfl
  have r2 : K.runs 1 (⟨300, (fun k => [0, 0, 0, d, 0, 0, 0, 0, 0, 0, 0, 0, 0, 0, 0, 0].getD k 0), q, (fun _ => 0), 0, 0⟩ : Q.S) (K.bV 0 4 0 0 0 300 (R2.Encode (⟨20, 3, 0, -1, 0, 0, 2⟩ : K.Ins)).1) = ((⟨d, (fun k => [0, 0, 0, d, 0, 0, 0, 0, 0, 0, 0, 0, 0, 0, 0, 0].getD k 0), q, (fun _ => 0), 1, 0⟩ : Q.S), 1, 0, K.bV 0 4 0 0 0 300 (R2.Encode (⟨20, 3, 0, -1, 0, 0, 2⟩ : K.Ins)).1) := K.run_300 (t := 0) rfl rfl g2 (fun V => (K.step_jmpr _ V).trans (by kernel_rfl)) rfl
  have v0 := K.bV_wf 0 4 0 0 0 300 (R2.Encode (⟨96 + k, 0, 0, -1, 0, e, 2⟩ : K.Ins)).1
  generalize hV0 : K.bV 0 4 0 0 0 300 (R2.Encode (⟨96 + k, 0, 0, -1, 0, e, 2⟩ : K.Ins)).1 = V0 at r0 v0
  have w0 := K.runs_wf (most := 1) hwS v0
  rw [r0] at w0
  have v1 := K.bV_wf 0 4 0 0 0 300 (R2.Encode (⟨112, 0, 0, -1, 0, d, 5⟩ : K.Ins)).1
  generalize hV1 : K.bV 0 4 0 0 0 300 (R2.Encode (⟨112, 0, 0, -1, 0, d, 5⟩ : K.Ins)).1 = V1 at r1 v1
  have w1 := K.runs_wf (most := 1) hwS v1
  rw [r1] at w1
  have v2 := K.bV_wf 0 4 0 0 0 300 (R2.Encode (⟨20, 3, 0, -1, 0, 0, 2⟩ : K.Ins)).1
  generalize hV2 : K.bV 0 4 0 0 0 300 (R2.Encode (⟨20, 3, 0, -1, 0, 0, 2⟩ : K.Ins)).1 = V2 at r2 v2
  have w2 := K.runs_wf (most := 1) hwS v2
  rw [r2] at w2
  exact KcpuJumps_rd c f d k e q hk0 hk he hq _ _ rfl rfl _ hS hwS V0 V1 V2 V0 V1 V2 hV0 v0 r0 w0 hV1 v1 r1 w1 hV2 v2 r2 w2 w _ _ ⟨fun _ h => h, fun _ h => h⟩
end Go.Proofs.YtglidnmmeclneaaGreat
