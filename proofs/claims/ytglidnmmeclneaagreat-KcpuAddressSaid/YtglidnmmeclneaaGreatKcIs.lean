/- KcpuAddress: the plain law and the law. No condition but what is named. -/
import Derived.Test.YtglidnmmeclneaaGreatKcSKcpuAddress
import Derived.Test.YtglidnmmeclneaaGreatKcIr
import Derived.Test.YtglidnmmeclneaaGreatKcIp
namespace Go.Proofs.YtglidnmmeclneaaGreat
set_option linter.unusedVariables false
set_option linter.unusedSimpArgs false
open Go.RowKit
/-- The effective address of an instruction with base 2. -/
def K.eaO (ix sc d : Int) (s : Q.S) : Int := bif (decide (ix ≥ 0)) then (IntKind.wrap .u32 ((IntKind.wrap .u32 ((s.r 2) + d)) + (IntKind.wrap .u32 ((s.r ((ix).toNat)) * 2 ^ (min (sc).toNat 32))))) else (IntKind.wrap .u32 ((s.r 2) + d))
/-- A state one instruction of seven bytes later, with other registers. -/
abbrev K.nx (s : Q.S) (r : Nat → Int) : Q.S := ⟨IntKind.wrap .u32 (s.pc + 7), r, s.f, s.c, IntKind.wrap .i64 (s.st + 1), s.du⟩
theorem K.step_lea (ix sc d : Int) (s : Q.S) (V : M.V) : K.stepI ⟨94, 4, 2, ix, sc, d, 7⟩ 0 0 s V = (K.nx s (Q.up s.r 4 (K.eaO ix sc d s)), 0, 0, V) := by kernel_rfl
theorem K.step_st (ix sc d : Int) (s : Q.S) (V : M.V) : K.stepI ⟨89, 1, 2, ix, sc, d, 7⟩ 0 0 s V = K.fin s (K.put ⟨s, K.nx s s.r, ⟨89, 1, 2, ix, sc, d, 7⟩, 0, 0⟩ V (K.eaO ix sc d s) 4 (s.r 1)) := by kernel_rfl
theorem K.step_ld (ix sc d : Int) (s : Q.S) (V : M.V) : K.stepI ⟨88, 5, 2, ix, sc, d, 7⟩ 0 0 s V = K.fin s (K.ga1 ⟨s, K.nx s s.r, ⟨88, 5, 2, ix, sc, d, 7⟩, 0, 0⟩ V (K.eaO ix sc d s) 4 5) := by kernel_rfl
theorem K.step_ldb (ix sc d : Int) (s : Q.S) (V : M.V) : K.stepI ⟨90, 6, 2, ix, sc, d, 7⟩ 0 0 s V = K.fin s (K.ga2 ⟨s, K.nx s s.r, ⟨90, 6, 2, ix, sc, d, 7⟩, 0, 0⟩ V (K.eaO ix sc d s) 1 6) := by kernel_rfl
theorem K.step_st_ok {ix sc d : Int} {s : Q.S} {V : M.V} (h : V.chk (K.eaO ix sc d s).toNat 2 4 = (0, true)) : K.stepI ⟨89, 1, 2, ix, sc, d, 7⟩ 0 0 s V = (K.nx s s.r, 0, 0, V.sto (K.eaO ix sc d s).toNat 4 (s.r 1)) := by
  rw [K.step_st]; unfold K.put; rw [h]; rfl
theorem K.step_st_no {ix sc d at_ : Int} {s : Q.S} {V : M.V} (h : V.chk (K.eaO ix sc d s).toNat 2 4 = (at_, false)) : K.stepI ⟨89, 1, 2, ix, sc, d, 7⟩ 0 0 s V = (s, 5, at_, V) := by
  rw [K.step_st]; unfold K.put; rw [Q.sto_no (by rw [h]), h]; rfl
theorem K.step_ld_ok {ix sc d v : Int} {s : Q.S} {V : M.V} (h : V.load (K.eaO ix sc d s).toNat 4 = (v, 0, true)) : K.stepI ⟨88, 5, 2, ix, sc, d, 7⟩ 0 0 s V = (K.nx s (Q.up s.r 5 v), 0, 0, V) := by
  rw [K.step_ld]; unfold K.ga1; rw [h]; rfl
theorem K.step_ldb_ok {ix sc d v : Int} {s : Q.S} {V : M.V} (h : V.load (K.eaO ix sc d s).toNat 1 = (v, 0, true)) : K.stepI ⟨90, 6, 2, ix, sc, d, 7⟩ 0 0 s V = (K.nx s (Q.up s.r 6 v), 0, 0, V) := by
  rw [K.step_ldb]; unfold K.ga2; rw [h]; rfl
theorem K.eaO_r {ix sc d : Int} {s t : Q.S} (hix : ix = -1 ∨ ix = 3) (h2 : s.r 2 = t.r 2) (h3 : s.r 3 = t.r 3) : K.eaO ix sc d s = K.eaO ix sc d t := by
  unfold K.eaO
  rcases hix with rfl | rfl
  · rw [h2]; rfl
  · show (bif (decide ((3 : Int) ≥ 0)) then (IntKind.wrap .u32 ((IntKind.wrap .u32 ((s.r 2) + d)) + (IntKind.wrap .u32 ((s.r 3) * 2 ^ (min (sc).toNat 32))))) else (IntKind.wrap .u32 ((s.r 2) + d))) = _
    rw [h2, h3]; rfl
/-- The rights 4 3 3 3: where a store fails. -/
theorem K.chk_out {V : M.V} {f : Nat → Int} (h : K.Mem V f (K.br 4 3 3 3)) {e : Int} (he : 0 ≤ e ∧ e < 4294967296) (ho : ¬ (256 ≤ e ∧ e ≤ 1020)) : V.chk e.toNat 2 4 = ((if e < 256 ∨ 1024 ≤ e then e else 1024), false) := by
  have hs : ∀ (a i c : Nat), V.chkN a 2 i (c + 1) = bif V.ok ((a + i) % 4294967296) 2 then V.chkN a 2 (i + 1) c else ((((a + i) % 4294967296 : Nat) : Int), false) := fun _ _ _ => rfl
  have h0 : V.chk e.toNat 2 4 = V.chkN e.toNat 2 0 (3 + 1) := rfl
  have hin : ∀ x, 256 ≤ x → x < 1024 → V.ok x 2 = true := fun x h1 h2 => by
    rw [h.ok x 2 h2]
    rcases (by omega : x / 256 = 1 ∨ x / 256 = 2 ∨ x / 256 = 3) with k | k | k <;> rw [k] <;> rfl
  have h24 : V.ok 1024 2 = false := h.ok_out 1024 2 (Nat.le_refl _)
  by_cases h1 : e < 256 ∨ 1024 ≤ e
  · rw [if_pos h1, h0, hs, Nat.add_zero, Nat.mod_eq_of_lt (by omega : e.toNat < 4294967296)]
    have : V.ok e.toNat 2 = false := by
      rcases h1 with h1 | h1
      · rw [h.ok _ 2 (by omega), show e.toNat / 256 = 0 by omega]; rfl
      · exact h.ok_out _ 2 (by omega)
    rw [this, cond_false, Int.toNat_of_nonneg he.1]
  · rw [if_neg h1, h0]
    rcases (by omega : e = 1021 ∨ e = 1022 ∨ e = 1023) with rfl | rfl | rfl
    · show V.chkN 1021 2 0 (3 + 1) = _
      rw [hs, hin ((1021 + 0) % 4294967296) (by decide) (by decide), cond_true, hs 1021 1 2, hin ((1021 + 1) % 4294967296) (by decide) (by decide), cond_true, hs 1021 2 1, hin ((1021 + 2) % 4294967296) (by decide) (by decide), cond_true, hs 1021 3 0, show (1021 + 3) % 4294967296 = 1024 from rfl, h24]; rfl
    · show V.chkN 1022 2 0 (3 + 1) = _
      rw [hs, hin ((1022 + 0) % 4294967296) (by decide) (by decide), cond_true, hs 1022 1 2, hin ((1022 + 1) % 4294967296) (by decide) (by decide), cond_true, hs 1022 2 1, show (1022 + 2) % 4294967296 = 1024 from rfl, h24]; rfl
    · show V.chkN 1023 2 0 (3 + 1) = _
      rw [hs, hin ((1023 + 0) % 4294967296) (by decide) (by decide), cond_true, hs 1023 1 2, show (1023 + 1) % 4294967296 = 1024 from rfl, h24]; rfl
theorem KcpuAddress_law (r0 r1 d c : Int) (h0 : 0 ≤ r0 ∧ r0 < 4294967296) (h1 : 0 ≤ r1 ∧ r1 < 4294967296) (hd : 0 ≤ d ∧ d < 4294967296) (hc : 0 ≤ c ∧ c < 256) (w : World) : Calls Tryz.prog 7 #[.agg #[.int .u32 r0, .int .u32 r1], .int .u32 d, .int .u8 c] w fun e w' => e = .returned (.bool true) ∧ Bel w w' := by
  obtain ⟨q, hq8⟩ : ∃ q, Int.tmod c 4 = q := ⟨_, rfl⟩
  have hq0 : 0 ≤ q ∧ q < 4 := by rw [Int.tmod_eq_emod_of_nonneg hc.1] at hq8; omega
  have hq : IntKind.wrap .i64 (Int.tmod c 4) = q := by rw [hq8]; exact IntWalk.i64_in _ (by omega)
  obtain ⟨ix, hix⟩ : ∃ ix : Int, (bif (decide ((Int.tmod c 8) > 3)) then (-1) else 3) = ix := ⟨_, rfl⟩
  obtain ⟨sc, hsc⟩ : ∃ sc : Int, (bif (decide ((Int.tmod c 8) > 3)) then 0 else q) = sc := ⟨_, rfl⟩
  obtain ⟨ea, hea⟩ : ∃ ea : Int, (bif (decide ((Int.tmod c 8) > 3)) then (IntKind.wrap .u32 (r0 + d)) else (IntKind.wrap .u32 ((IntKind.wrap .u32 (r0 + (IntKind.wrap .u32 (r1 * 2 ^ (min (q).toNat 32))))) + d))) = ea := ⟨_, rfl⟩
  have heb : 0 ≤ ea ∧ ea < 4294967296 := hea ▸ Q.bif_bd (Q.wrap_bd _) (Q.wrap_bd _)
  have hi : (ix = -1 ∧ sc = 0) ∨ (ix = 3 ∧ sc = q) := by
    cases h : (decide ((Int.tmod c 8) > 3)) with
    | true => rw [h] at hix hsc; exact .inl ⟨hix.symm, hsc.symm⟩
    | false => rw [h] at hix hsc; exact .inr ⟨hix.symm, hsc.symm⟩
  have hi2 : ix = -1 ∨ ix = 3 := hi.imp (·.1) (·.1)
  have good : ∀ op dd : Int, (op = 94 ∧ dd = 4) ∨ (op = 89 ∧ dd = 1) ∨ (op = 88 ∧ dd = 5) ∨ (op = 90 ∧ dd = 6) → K.Good ⟨op, dd, 2, ix, sc, d, 7⟩ := fun op dd h => by
    refine ⟨?_, hd.1, hd.2⟩
    rcases (by omega : (ix = -1 ∧ sc = 0) ∨ (ix = 3 ∧ sc = 0) ∨ (ix = 3 ∧ sc = 1) ∨ (ix = 3 ∧ sc = 2) ∨ (ix = 3 ∧ sc = 3)) with ⟨e1, e2⟩ | ⟨e1, e2⟩ | ⟨e1, e2⟩ | ⟨e1, e2⟩ | ⟨e1, e2⟩ <;> rw [e1, e2] <;> rcases h with ⟨e3, e4⟩ | ⟨e3, e4⟩ | ⟨e3, e4⟩ | ⟨e3, e4⟩ <;> rw [e3, e4] <;> kernel_rfl
  have g0 := good 94 4 (.inl ⟨rfl, rfl⟩)
  have g1 := good 89 1 (.inr (.inl ⟨rfl, rfl⟩))
  have g2 := good 88 5 (.inr (.inr (.inl ⟨rfl, rfl⟩)))
  have g3 := good 90 6 (.inr (.inr (.inr ⟨rfl, rfl⟩)))
  obtain ⟨a, ha⟩ : ∃ a, (R2.Encode (⟨94, 4, 2, ix, sc, d, 7⟩ : K.Ins)).1 = a := ⟨_, rfl⟩
  obtain ⟨b, hb⟩ : ∃ b, (R2.Encode (⟨89, 1, 2, ix, sc, d, 7⟩ : K.Ins)).1 = b := ⟨_, rfl⟩
  obtain ⟨c2, hc2⟩ : ∃ c2, (R2.Encode (⟨88, 5, 2, ix, sc, d, 7⟩ : K.Ins)).1 = c2 := ⟨_, rfl⟩
  obtain ⟨e2, he2⟩ : ∃ e2, (R2.Encode (⟨90, 6, 2, ix, sc, d, 7⟩ : K.Ins)).1 = e2 := ⟨_, rfl⟩
  have za : a.size = 7 := by have : ((a.size : Nat) : Int) = 7 := ha ▸ (K.good_size g0).1; omega
  have zb : b.size = 7 := by have : ((b.size : Nat) : Int) = 7 := hb ▸ (K.good_size g1).1; omega
  have zc : c2.size = 7 := by have : ((c2.size : Nat) : Int) = 7 := hc2 ▸ (K.good_size g2).1; omega
  have ze : e2.size = 7 := by have : ((e2.size : Nat) : Int) = 7 := he2 ▸ (K.good_size g3).1; omega
  obtain ⟨cd, hcd⟩ : ∃ cd, ((a ++ b) ++ c2) ++ e2 = cd := ⟨_, rfl⟩
  have zd : cd.size = 28 := by subst hcd; rw [ByteArray.size_append, ByteArray.size_append, ByteArray.size_append, za, zb, zc, ze]
  obtain ⟨S, hS0⟩ : ∃ S : Q.S, (⟨0, (fun k => [0, 2712847316, r0, r1, 0, 0, 0, 0, 0, 0, 0, 0, 0, 0, 0, 0].getD k 0), 0, (fun _ => 0), 0, 0⟩ : Q.S) = S := ⟨_, rfl⟩
  have hrow : ∀ k, 0 ≤ ([0, 2712847316, r0, r1, 0, 0, 0, 0, 0, 0, 0, 0, 0, 0, 0, 0] : List Int).getD k 0 ∧ ([0, 2712847316, r0, r1, 0, 0, 0, 0, 0, 0, 0, 0, 0, 0, 0, 0] : List Int).getD k 0 < 4294967296 := K.row_bd K.z32 (by decide) h0 h1 K.z32 K.z32 K.z32 K.z32
  have hS : K.norm S = S := by
    subst hS0
    exact K.norm_id (fun k h1 h2 => K.tail8 k h1 h2) (by show (0 : Int) ≤ 0 ∧ (0 : Int) < 16; decide) (Int.le_refl 0) (Int.le_refl 0)
  have hwS : Q.wf S := by subst hS0; exact ⟨K.z32, hrow, K.zero_bd⟩
  have eS : K.eaO ix sc d S = ea := by
    have e2r : S.r 2 = r0 := by subst hS0; rfl
    have e3r : S.r 3 = r1 := by subst hS0; rfl
    have eu : ∀ y, IntKind.wrap .u32 y = y % 4294967296 := fun _ => rfl
    cases h : (decide ((Int.tmod c 8) > 3)) with
    | true =>
      rw [h] at hix hsc hea
      rw [← hea, ← hix]
      unfold K.eaO
      rw [e2r]; rfl
    | false =>
      rw [h] at hix hsc hea
      rw [← hea, ← hix, ← hsc]
      unfold K.eaO
      show IntKind.wrap .u32 ((IntKind.wrap .u32 ((S.r 2) + d)) + (IntKind.wrap .u32 ((S.r 3) * 2 ^ (min (q).toNat 32)))) = IntKind.wrap .u32 ((IntKind.wrap .u32 (r0 + (IntKind.wrap .u32 (r1 * 2 ^ (min (q).toNat 32))))) + d)
      rw [e2r, e3r]
      generalize IntKind.wrap .u32 (r1 * 2 ^ (min (q).toNat 32)) = t
      rw [eu, eu, eu, eu]
      omega
  obtain ⟨T1, hT1⟩ : ∃ T1 : Q.S, (⟨7, Q.up S.r 4 ea, 0, (fun _ => 0), 1, 0⟩ : Q.S) = T1 := ⟨_, rfl⟩
  have sr : S.r 2 = T1.r 2 ∧ S.r 3 = T1.r 3 := by subst hT1; exact ⟨rfl, rfl⟩
  have t1e : K.eaO ix sc d T1 = ea := (K.eaO_r hi2 sr.1.symm sr.2.symm).trans eS
  have t11 : T1.r 1 = 2712847316 := by subst hT1; subst hS0; rfl
  have m0 := K.bV_mem 4 3 3 3 0 0 cd (by decide)
  have v0 := K.bV_wf 4 3 3 3 0 0 cd
  generalize hV : K.bV 4 3 3 3 0 0 cd = V at m0 v0
  have s1 : K.stepI ⟨94, 4, 2, ix, sc, d, 7⟩ 0 0 S V = (T1, 0, 0, V) := by
    rw [K.step_lea, eS]
    subst hT1; subst hS0; kernel_rfl
  have px : ∀ o : Nat, o ≤ 200 → ∀ x, o ≤ x → x < o + 7 → (bits .and .i64 (K.br 4 3 3 3 (x / 256)) 4 == 0) = false := fun o ho x _ h2 => by
    rw [show x / 256 = 0 by omega]; rfl
  have cA := K.bf_cat (i := ⟨94, 4, 2, ix, sc, d, 7⟩) (z := 0) (code := cd) (pre := ⟨#[]⟩) (post := b ++ (c2 ++ e2)) (by rw [ha, ← hcd, K.nil_cat, K.cat_cat, K.cat_cat]) (by omega)
  have cB := K.bf_cat (i := ⟨89, 1, 2, ix, sc, d, 7⟩) (z := 0) (code := cd) (pre := a) (post := c2 ++ e2) (by rw [hb, ← hcd, K.cat_cat]) (by omega)
  have cC := K.bf_cat (i := ⟨88, 5, 2, ix, sc, d, 7⟩) (z := 0) (code := cd) (pre := a ++ b) (post := e2) (by rw [hc2, ← hcd]) (by omega)
  have cE := K.bf_cat (i := ⟨90, 6, 2, ix, sc, d, 7⟩) (z := 0) (code := cd) (pre := (a ++ b) ++ c2) (post := ⟨#[]⟩) (by rw [he2, ← hcd, K.append_empty]) (by omega)
  have f1 : K.fetch V 0 = (⟨94, 4, 2, ix, sc, d, 7⟩, 0, 0) := K.fetch_mem g0 m0 (by decide) (px 0 (by decide)) (fun i hi => cA i hi)
  have f2 : K.fetch V 7 = (⟨89, 1, 2, ix, sc, d, 7⟩, 0, 0) := K.fetch_mem g1 m0 (by decide) (px 7 (by decide)) (fun i hi => by have := cB i hi; rw [za] at this; exact this)
  have n0 : K.nd S := K.nd0 (by subst hS0; exact Int.le_refl 0)
  have n1 : K.nd T1 := K.nd0 (by subst hT1; exact Int.le_refl 0)
  have r1 : K.runs 1 S V = (T1, 1, 0, V) := K.one_run n0 (by subst hS0; exact f1) s1 n1
  have w1 := K.runs_wf (most := 1) hwS v0
  rw [r1] at w1
  have t1f2 : K.step T1 V = K.stepI ⟨89, 1, 2, ix, sc, d, 7⟩ 0 0 T1 V := K.step_at (by subst hT1; exact f2)
  have h14 : T1.r 4 = ea := by subst hT1; rfl
  have h1f : T1.f = 0 := by subst hT1; rfl
  by_cases hr : 256 ≤ ea ∧ ea ≤ 1020
  · have q4 : ea.toNat + 4 ≤ 1024 := by omega
    have pr : ∀ q : Int, q = 1 ∨ q = 2 → ∀ x, ea.toNat ≤ x → x < ea.toNat + 4 → (bits .and .i64 (K.br 4 3 3 3 (x / 256)) q == 0) = false := fun q hq x k1 k2 => by
      rcases (by omega : x / 256 = 1 ∨ x / 256 = 2 ∨ x / 256 = 3) with k | k | k <;> rw [k] <;> rcases hq with rfl | rfl <;> rfl
    have m1 := m0.sto4 (v := 2712847316) q4 (by decide) (pr 2 (.inr rfl))
    have v1 : R.Wf (V.sto ea.toNat 4 2712847316) := Q.wf_sto v0 _ _ _
    have hck : V.chk ea.toNat 2 4 = (0, true) := m0.chk_ok (q := 2) (m := 4) (by decide) q4 (pr 2 (.inr rfl))
    have fb := K.w4_bd (K.bf_bd 0 0 cd) ea.toNat 2712847316
    have flo : ∀ y, y < 256 → K.w4 (K.bf 0 0 cd) ea.toNat 2712847316 y = K.bf 0 0 cd y := fun y hy => K.w4_out _ _ _ (.inl (by omega))
    obtain ⟨T2, hT2⟩ : ∃ T2 : Q.S, (⟨14, T1.r, 0, (fun _ => 0), 2, 0⟩ : Q.S) = T2 := ⟨_, rfl⟩
    have s2 : K.step T1 V = (T2, 0, 0, V.sto ea.toNat 4 2712847316) := by
      have h := K.step_st_ok (ix := ix) (sc := sc) (d := d) (s := T1) (V := V) (by rw [t1e]; exact hck)
      rw [t1e, t11] at h
      refine (t1f2.trans h).trans ?_
      subst hT2; subst hT1; kernel_rfl
    generalize hW : V.sto ea.toNat 4 2712847316 = W at m1 v1 s2
    have t2e : K.eaO ix sc d T2 = ea := (K.eaO_r hi2 (by subst hT2; rfl) (by subst hT2; rfl)).trans t1e
    obtain ⟨T3, hT3⟩ : ∃ T3 : Q.S, (⟨21, Q.up T1.r 5 2712847316, 0, (fun _ => 0), 3, 0⟩ : Q.S) = T3 := ⟨_, rfl⟩
    have f3 : K.fetch W 14 = (⟨88, 5, 2, ix, sc, d, 7⟩, 0, 0) := K.fetch_mem g2 m1 (by decide) (px 14 (by decide)) (fun i hi => by have := cC i hi; rw [ByteArray.size_append, za, zb] at this; rw [hc2, zc] at hi; rw [flo _ (by show 14 + i < 256; omega)]; exact this)
    have f4 : K.fetch W 21 = (⟨90, 6, 2, ix, sc, d, 7⟩, 0, 0) := K.fetch_mem g3 m1 (by decide) (px 21 (by decide)) (fun i hi => by have := cE i hi; rw [ByteArray.size_append, ByteArray.size_append, za, zb, zc] at this; rw [he2, ze] at hi; rw [flo _ (by show 21 + i < 256; omega)]; exact this)
    have s3 : K.step T2 W = (T3, 0, 0, W) := by
      refine ((K.step_at (i := ⟨88, 5, 2, ix, sc, d, 7⟩) (by subst hT2; exact f3)).trans (K.step_ld_ok (v := 2712847316) (by rw [t2e]; exact m1.load4 v1 fb q4 (by decide) (K.w4_at _ _ _) (pr 1 (.inl rfl))))).trans ?_
      subst hT3; subst hT2; kernel_rfl
    have t3e : K.eaO ix sc d T3 = ea := (K.eaO_r hi2 (by subst hT3; rfl) (by subst hT3; rfl)).trans t1e
    obtain ⟨X, hX⟩ : ∃ X : Q.S, (⟨28, Q.up T3.r 6 212, 0, (fun _ => 0), 4, 0⟩ : Q.S) = X := ⟨_, rfl⟩
    have s4 : K.stepI ⟨90, 6, 2, ix, sc, d, 7⟩ 0 0 T3 W = (X, 0, 0, W) := by
      have hl := m1.load1 v1 fb (a := ea.toNat) (by omega) (fun x k1 k2 => pr 1 (.inl rfl) x k1 (by omega))
      rw [(K.w4_at (K.bf 0 0 cd) ea.toNat 2712847316).b0] at hl
      refine (K.step_ldb_ok (v := 212) (by rw [t3e]; exact hl)).trans ?_
      subst hX; subst hT3; kernel_rfl
    have n2 : K.nd T2 := K.nd0 (by subst hT2; exact Int.le_refl 0)
    have n3 : K.nd T3 := K.nd0 (by subst hT3; exact Int.le_refl 0)
    have n4 : K.nd X := K.nd0 (by subst hX; exact Int.le_refl 0)
    have q1 : K.runs 1 T3 W = (X, 1, 0, W) := K.one_run n3 (by subst hT3; exact f4) s4 n4
    have q2 : K.runs (((1 + 1 : Nat)) : Int) T2 W = K.runs (((1 : Nat)) : Int) T3 W := K.runs_s 1 n2 s3
    have q3 : K.runs (((2 + 1 : Nat)) : Int) T1 V = K.runs (((2 : Nat)) : Int) T2 W := K.runs_s 2 n1 s2
    have r3 : K.runs 3 T1 V = (X, 1, 0, W) := q3.trans (q2.trans q1)
    have w3 := K.runs_wf (most := 3) w1.1 v0
    rw [r3] at w3
    refine KcpuAddress_rd r0 _ d c q ix sc ea hq0 hq hq8 hix hsc hea heb a b c2 e2 cd (by omega) (by omega) (by omega) (by omega) ha hb hc2 he2 hcd S T1 X V V W 1 0 (by rw [hS0]; exact hS) hwS hV v0 r1 w1 h14 h1f r3 w3 (fun _ => ⟨rfl, ?_, ?_, ?_⟩) (fun h => absurd hr h) w _ _ ⟨fun _ h => h, fun _ h => h⟩
    · subst hX; subst hT3; rfl
    · subst hX; rfl
    · subst hX; rfl
  · have hck := K.chk_out m0 heb hr
    have s2 : K.step T1 V = (T1, 5, (if ea < 256 ∨ 1024 ≤ ea then ea else 1024), V) := by
      rw [t1f2]; exact K.step_st_no (by rw [t1e]; exact hck)
    have r3 : K.runs 3 T1 V = (T1, 5, (if ea < 256 ∨ 1024 ≤ ea then ea else 1024), V) := K.runs_t (by decide) n1 s2 (by decide)
    have w3 := K.runs_wf (most := 3) w1.1 v0
    rw [r3] at w3
    exact KcpuAddress_rd r0 _ d c q ix sc ea hq0 hq hq8 hix hsc hea heb a b c2 e2 cd (by omega) (by omega) (by omega) (by omega) ha hb hc2 he2 hcd S T1 T1 V V V 5 _ (by rw [hS0]; exact hS) hwS hV v0 r1 w1 h14 h1f r3 w3 (fun h => absurd h hr) (fun _ => ⟨rfl, rfl, rfl⟩) w _ _ ⟨fun _ h => h, fun _ h => h⟩
end Go.Proofs.YtglidnmmeclneaaGreat
