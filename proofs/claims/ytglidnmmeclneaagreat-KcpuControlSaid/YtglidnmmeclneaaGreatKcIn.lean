/- KcpuControl: the plain law and the law. No condition but what is named. -/
import Derived.Test.YtglidnmmeclneaaGreatKcSKcpuControl
import Derived.Test.YtglidnmmeclneaaGreatKcIm
namespace Go.Proofs.YtglidnmmeclneaaGreat
set_option linter.unusedVariables false
set_option linter.unusedSimpArgs false
open Go.RowKit
/-- The state behind Setc. -/
def K.setc (k : Int) (s : Q.S) : Q.S := ⟨IntKind.wrap .u32 (s.pc + 2), s.r, s.f, bif (k == 0) || (k == 1) then Q.up s.c k.toNat (s.r 1) else s.c, IntKind.wrap .i64 (s.st + 1), bif (k == 4) then (bif (s.r 1 != 0) then IntKind.wrap .i64 (IntKind.wrap .i64 (s.st + 1) + IntKind.wrap .i64 (s.r 1)) else 0) else s.du⟩
theorem K.step_setc {k : Int} (hk : 0 ≤ k ∧ k < 5) (s : Q.S) (V : M.V) : K.stepI ⟨130, 1, k, -1, 0, 0, 2⟩ 0 0 s V = (K.setc k s, 0, 0, V) := by
  rcases (by omega : k = 0 ∨ k = 1 ∨ k = 2 ∨ k = 3 ∨ k = 4) with rfl | rfl | rfl | rfl | rfl
  · kernel_rfl
  · kernel_rfl
  · kernel_rfl
  · kernel_rfl
  · have e : K.stepI ⟨130, 1, 4, -1, 0, 0, 2⟩ 0 0 s V = (fun y : K.W × M.V => bif (y.1.k != 0) then (s, y.1.k, y.1.t, y.2) else (y.1.s, y.1.k, y.1.t, y.2)) (bif (s.r 1 != 0) then ((⟨s, ⟨IntKind.wrap .u32 (s.pc + 2), s.r, s.f, s.c, IntKind.wrap .i64 (s.st + 1), IntKind.wrap .i64 (IntKind.wrap .i64 (s.st + 1) + IntKind.wrap .i64 (s.r 1))⟩, ⟨130, 1, 4, -1, 0, 0, 2⟩, 0, 0⟩ : K.W), V) else ((⟨s, ⟨IntKind.wrap .u32 (s.pc + 2), s.r, s.f, s.c, IntKind.wrap .i64 (s.st + 1), 0⟩, ⟨130, 1, 4, -1, 0, 0, 2⟩, 0, 0⟩ : K.W), V)) := by kernel_rfl
    rw [e]
    unfold K.setc
    cases (s.r 1 != 0) <;> rfl
theorem K.step_getc (j : Int) (s : Q.S) (V : M.V) : K.stepI ⟨129, 2, j, -1, 0, 0, 2⟩ 0 0 s V = (⟨IntKind.wrap .u32 (s.pc + 2), Q.up s.r 2 (s.c j.toNat), s.f, s.c, IntKind.wrap .i64 (s.st + 1), s.du⟩, 0, 0, V) := by kernel_rfl
theorem K.step_rett (s : Q.S) (V : M.V) : K.stepI ⟨4, 0, 0, -1, 0, 0, 1⟩ 0 0 s V = (⟨s.c 1, s.r, s.f, s.c, IntKind.wrap .i64 (s.st + 1), s.du⟩, 0, 0, V) := by kernel_rfl
theorem K.cpage {p : Int} (h : 0 ≤ p ∧ p < 200) (j : Nat) (hj : j = p.toNat / 256 ∨ j = (p.toNat + 6) / 256) : (bits .and .i64 (K.br 4 0 0 0 j) 4 == 0) = false := by
  have : j = 0 := by omega
  subst this; rfl
theorem KcpuControl_law (n v o0 o1 o2 o3 : Int) (hn : 0 ≤ n ∧ n < 256) (hv : 0 ≤ v ∧ v < 4294967296) (h0 : 0 ≤ o0 ∧ o0 < 4294967296) (h1 : 0 ≤ o1 ∧ o1 < 4294967296) (h2 : 0 ≤ o2 ∧ o2 < 4294967296) (h3 : 0 ≤ o3 ∧ o3 < 4294967296) (w : World) : Calls Tryz.prog 8 #[.int .u8 n, .int .u32 v, .agg #[.int .u32 o0, .int .u32 o1, .int .u32 o2, .int .u32 o3]] w fun e w' => e = .returned (.bool true) ∧ Bel w w' := by
  obtain ⟨k, hk⟩ : ∃ k, IntKind.wrap .i64 (Int.tmod n 5) = k := ⟨_, rfl⟩
  obtain ⟨j, hj⟩ : ∃ j, Int.tmod k 4 = j := ⟨_, rfl⟩
  have en : Int.tmod n 5 = n % 5 := Int.tmod_eq_emod_of_nonneg hn.1
  have hk0 : 0 ≤ k ∧ k < 5 := by rw [en, IntWalk.i64_in _ (by omega)] at hk; omega
  have ej : Int.tmod k 4 = k % 4 := Int.tmod_eq_emod_of_nonneg hk0.1
  have hj0 : 0 ≤ j ∧ j < ((4 : Nat) : Int) := by rw [ej] at hj; omega
  obtain ⟨a, ha⟩ : ∃ a, (R2.Encode (⟨130, 1, k, -1, 0, 0, 2⟩ : K.Ins)).1 = a := ⟨_, rfl⟩
  obtain ⟨b, hb⟩ : ∃ b, (R2.Encode (⟨129, 2, j, -1, 0, 0, 2⟩ : K.Ins)).1 = b := ⟨_, rfl⟩
  have ga : K.Good ⟨130, 1, k, -1, 0, 0, 2⟩ := by
    refine ⟨?_, by show (0 : Int) ≤ 0; decide, by show (0 : Int) < 4294967296; decide⟩
    rcases (by omega : k = 0 ∨ k = 1 ∨ k = 2 ∨ k = 3 ∨ k = 4) with h | h | h | h | h <;> rw [h] <;> kernel_rfl
  have gb : K.Good ⟨129, 2, j, -1, 0, 0, 2⟩ := by
    refine ⟨?_, by show (0 : Int) ≤ 0; decide, by show (0 : Int) < 4294967296; decide⟩
    rcases (by omega : j = 0 ∨ j = 1 ∨ j = 2 ∨ j = 3) with h | h | h | h <;> rw [h] <;> kernel_rfl
  have gr : K.Good ⟨4, 0, 0, -1, 0, 0, 1⟩ := ⟨by kernel_rfl, by decide, by decide⟩
  have hr : (R2.Encode (⟨4, 0, 0, -1, 0, 0, 1⟩ : K.Ins)).1 = (⟨#[4]⟩ : ByteArray) := by kernel_rfl
  have za : a.size = 2 := by have : ((a.size : Nat) : Int) = 2 := ha ▸ (K.good_size ga).1; omega
  have zb : b.size = 2 := by have : ((b.size : Nat) : Int) = 2 := hb ▸ (K.good_size gb).1; omega
  obtain ⟨cd, hcd⟩ : ∃ cd, (a ++ b) ++ (⟨#[4]⟩ : ByteArray) = cd := ⟨_, rfl⟩
  have zc : cd.size = 5 := by subst hcd; rw [ByteArray.size_append, ByteArray.size_append, za, zb]; rfl
  obtain ⟨S, hS0⟩ : ∃ S : Q.S, (⟨0, (fun k => [0, v, 0, 0, 0, 0, 0, 0, 0, 0, 0, 0, 0, 0, 0, 0].getD k 0), 0, (fun k => [o0, o1, o2, o3].getD k 0), 7, 1000⟩ : Q.S) = S := ⟨_, rfl⟩
  have hrow : ∀ k, 0 ≤ ([0, v, 0, 0, 0, 0, 0, 0, 0, 0, 0, 0, 0, 0, 0, 0] : List Int).getD k 0 ∧ ([0, v, 0, 0, 0, 0, 0, 0, 0, 0, 0, 0, 0, 0, 0, 0] : List Int).getD k 0 < 4294967296 := K.row_bd K.z32 hv K.z32 K.z32 K.z32 K.z32 K.z32 K.z32
  have hctl : ∀ k, 0 ≤ ([o0, o1, o2, o3] : List Int).getD k 0 ∧ ([o0, o1, o2, o3] : List Int).getD k 0 < 4294967296 := K.lst_bd _ (fun x hx => by
    simp only [List.mem_cons, List.not_mem_nil, or_false] at hx
    rcases hx with rfl | rfl | rfl | rfl <;> assumption)
  have hS : K.norm S = S := by
    subst hS0
    exact K.norm_id (fun k h1 h2 => K.tail8 k h1 h2) (by show (0 : Int) ≤ 0 ∧ (0 : Int) < 16; decide) (by show (0 : Int) ≤ 7; decide) (by show (0 : Int) ≤ 1000; decide)
  have hwS : Q.wf S := by subst hS0; exact ⟨K.z32, hrow, hctl⟩
  have v0 := K.bV_wf 4 0 0 0 0 0 cd
  have fa : K.fetch (K.bV 4 0 0 0 0 0 cd) 0 = (⟨130, 1, k, -1, 0, 0, 2⟩, 0, 0) := K.fetch_cat (pre := ⟨#[]⟩) (post := b ++ ⟨#[4]⟩) ga (by rw [ha, ← hcd, K.nil_cat, K.cat_cat]) (by omega) (by decide) rfl (K.cpage (by decide))
  have fb : K.fetch (K.bV 4 0 0 0 0 0 cd) 2 = (⟨129, 2, j, -1, 0, 0, 2⟩, 0, 0) := K.fetch_cat (pre := a) (post := ⟨#[4]⟩) gb (by rw [hb, ← hcd]) (by omega) (by decide) (by rw [za]; rfl) (K.cpage (by decide))
  have fr : K.fetch (K.bV 4 0 0 0 0 0 cd) 4 = (⟨4, 0, 0, -1, 0, 0, 1⟩, 0, 0) := K.fetch_cat (pre := a ++ b) (post := ⟨#[]⟩) gr (by rw [hr, ← hcd, K.append_empty]) (by omega) (by decide) (by rw [ByteArray.size_append, za, zb]; rfl) (K.cpage (by decide))
  generalize hV : K.bV 4 0 0 0 0 0 cd = V at v0 fa fb fr
  have sa := K.step_setc hk0 S V
  obtain ⟨T, hT⟩ : ∃ T, K.setc k S = T := ⟨_, rfl⟩
  rw [hT] at sa
  have tpc : T.pc = 2 := by subst hT; subst hS0; kernel_rfl
  have tst : T.st = 8 := by subst hT; subst hS0; kernel_rfl
  have tf : T.f = 0 := by subst hT; subst hS0; kernel_rfl
  have tr : T.r = fun k => [0, v, 0, 0, 0, 0, 0, 0, 0, 0, 0, 0, 0, 0, 0, 0].getD k 0 := by subst hT; subst hS0; rfl
  have ev : IntKind.wrap .i64 v = v := IntWalk.i64_in _ (by omega)
  have tdu : T.du = bif (k == 4) then (bif (v != 0) then 8 + v else 0) else 1000 := by
    subst hT; subst hS0
    show (bif (k == 4) then (bif (v != 0) then IntKind.wrap .i64 (IntKind.wrap .i64 (7 + 1) + IntKind.wrap .i64 v) else 0) else 1000) = _
    rw [ev, show IntKind.wrap .i64 (7 + 1) = 8 from by kernel_rfl, IntWalk.i64_in (8 + v) (by omega)]
  have ndT : K.nd T := by
    cases h4 : (k == 4) with
    | false => exact K.nd1 (by rw [tdu, tst, h4]; show (8 : Int) < 1000; decide)
    | true =>
      cases hz : (v != 0) with
      | false => exact K.nd0 (by rw [tdu, h4, hz]; show (0 : Int) ≤ 0; decide)
      | true =>
        have : v ≠ 0 := bne_iff_ne.1 hz
        exact K.nd1 (by rw [tdu, tst, h4, hz]; show 8 < 8 + v; omega)
  have r1 : K.runs 1 S V = (T, 1, 0, V) := K.one_run (K.nd1 (by subst hS0; show (7 : Int) < 1000; decide)) (by subst hS0; exact fa) sa ndT
  have hwT := K.runs_wf (most := 1) hwS v0
  rw [r1] at hwT
  obtain ⟨U, hU0⟩ : ∃ U : Q.S, (⟨T.pc, T.r, T.f, T.c, T.st, 0⟩ : Q.S) = U := ⟨_, rfl⟩
  have hU : K.norm (⟨T.pc, T.r, T.f, T.c, T.st, 0⟩ : Q.S) = U := by
    rw [← hU0]
    exact K.norm_id (fun k h1 h2 => by show T.r k = 0; rw [tr]; exact K.tail8 k h1 h2) (by show 0 ≤ T.f ∧ T.f < 16; rw [tf]; decide) (by show 0 ≤ T.st; rw [tst]; decide) (Int.le_refl 0)
  have hwU : Q.wf U := by subst hU0; exact ⟨hwT.1.pc, hwT.1.r, hwT.1.c⟩
  have sb := K.step_getc j U V
  obtain ⟨U2, hU2⟩ : ∃ U2 : Q.S, (⟨IntKind.wrap .u32 (U.pc + 2), Q.up U.r 2 (U.c j.toNat), U.f, U.c, IntKind.wrap .i64 (U.st + 1), U.du⟩ : Q.S) = U2 := ⟨_, rfl⟩
  rw [hU2] at sb
  have sr := K.step_rett U2 V
  obtain ⟨X, hX⟩ : ∃ X : Q.S, (⟨U2.c 1, U2.r, U2.f, U2.c, IntKind.wrap .i64 (U2.st + 1), U2.du⟩ : Q.S) = X := ⟨_, rfl⟩
  rw [hX] at sr
  have upc : U.pc = 2 := by subst hU0; exact tpc
  have ust : U.st = 8 := by subst hU0; exact tst
  have udu : U.du = 0 := by subst hU0; rfl
  have uc : U.c = T.c := by subst hU0; rfl
  have u2pc : U2.pc = 4 := by subst hU2; show IntKind.wrap .u32 (U.pc + 2) = 4; rw [upc]; kernel_rfl
  have u2st : U2.st = 9 := by subst hU2; show IntKind.wrap .i64 (U.st + 1) = 9; rw [ust]; kernel_rfl
  have u2du : U2.du = 0 := by subst hU2; exact udu
  have u2c : U2.c = T.c := by subst hU2; exact uc
  have xdu : X.du = 0 := by subst hX; exact u2du
  have q1 : K.runs 1 U2 V = (X, 1, 0, V) := K.one_run (K.nd0 (by omega)) (by rw [u2pc]; exact fr) sr (K.nd0 (by omega))
  have q2 : K.runs (((1 + 1 : Nat)) : Int) U V = K.runs (((1 : Nat)) : Int) U2 V := K.runs_s 1 (K.nd0 (by omega)) (K.step_at (by rw [upc]; exact fb) |>.trans sb)
  have r2 : K.runs 2 U V = (X, 1, 0, V) := q2.trans q1
  have hwX := K.runs_wf (most := 2) hwU v0
  rw [r2] at hwX
  have hX2 : X.r 2 = T.c j.toNat := by subst hX; subst hU2; rw [← uc]; rfl
  have hX0 : X.pc = T.c 1 := by subst hX; show U2.c 1 = _; rw [u2c]
  have hXs : X.st = 10 := by subst hX; show IntKind.wrap .i64 (U2.st + 1) = 10; rw [u2st]; kernel_rfl
  refine KcpuControl_rd n v o0 o1 o2 o3 k j hk hj hj0 a b cd (by omega) (by omega) ha hb hcd S T U X V V V (by rw [hS0]; exact hS) hwS hV v0 r1 hwT hU hwU r2 hwX hX2 hX0 hXs (fun h => ?_) (fun h => ?_) (fun h h' h4 => ?_) (fun h hz => ?_) (fun h hz => ?_) w _ _ ⟨fun _ h => h, fun _ h => h⟩
  · have e := eq_of_beq h
    subst hT; subst hS0; rw [e] <;> rfl
  · have e := eq_of_beq h
    subst hT; subst hS0; rw [e] <;> rfl
  · subst hT; subst hS0; unfold K.setc; rw [h, h', h4]; kernel_rfl
  · have e := eq_of_beq h
    subst hT; subst hS0; unfold K.setc
    show _ = (⟨_, _, _, _, _, bif (k == 4) then (bif (v != 0) then _ else _) else _⟩ : Q.S)
    rw [h, hz, e]; kernel_rfl
  · have e := eq_of_beq h
    subst hT; subst hS0; unfold K.setc
    show _ = (⟨_, _, _, _, _, bif (k == 4) then (bif (v != 0) then _ else _) else _⟩ : Q.S)
    rw [h, hz, e]; kernel_rfl
end Go.Proofs.YtglidnmmeclneaaGreat
