/- KcpuStack: the law. No condition but what is named. -/
import Derived.Test.YtglidnmmeclneaaGreatKcSKcpuStack
import Derived.Test.YtglidnmmeclneaaGreatKcIo
import Derived.Test.YtglidnmmeclneaaGreatKcIp
namespace Go.Proofs.YtglidnmmeclneaaGreat
set_option linter.unusedVariables false
set_option linter.unusedSimpArgs false
open Go.RowKit
theorem K.word_of {W : M.V} {f r : Nat → Int} (h : K.Mem W f r) {p x : Int} (hp : 4 ≤ p ∧ p ≤ 1024) (hx : 0 ≤ x ∧ x < 4294967296) (hb : K.at4 f (p - 4).toNat x) : (IntKind.wrap .u32 ((IntKind.wrap .u32 ((IntKind.wrap .u32 ((IntKind.wrap .u32 (W.peek ((p - 4)).toNat)) + (IntKind.wrap .u32 ((IntKind.wrap .u32 (W.peek ((p - 3)).toNat)) * 2 ^ 8)))) + (IntKind.wrap .u32 ((IntKind.wrap .u32 (W.peek ((p - 2)).toNat)) * 2 ^ 16)))) + (IntKind.wrap .u32 ((IntKind.wrap .u32 (W.peek ((p - 1)).toNat)) * 2 ^ 24)))) = x := by
  rw [h.peek (by omega), h.peek (by omega), h.peek (by omega), h.peek (by omega), hb.b0, show (p - 3).toNat = (p - 4).toNat + 1 by omega, hb.b1, show (p - 2).toNat = (p - 4).toNat + 2 by omega, hb.b2, show (p - 1).toNat = (p - 4).toNat + 3 by omega, hb.b3]
  have eu : ∀ y, IntKind.wrap .u32 y = y % 4294967296 := fun _ => rfl
  simp only [eu]
  rw [show (2 : Int) ^ 8 = 256 from rfl, show (2 : Int) ^ 16 = 65536 from rfl, show (2 : Int) ^ 24 = 16777216 from rfl]
  omega
theorem KcpuStack_law (d t v : Int) (hd : 0 ≤ d ∧ d < 256) (ht : 0 ≤ t ∧ t < 65536) (hv : 0 ≤ v ∧ v < 4294967296) (w : World) : Calls Tryz.prog 12 #[.int .u8 d, .int .u16 t, .int .u32 v] w fun e w' => e = .returned (.bool true) ∧ Bel w w' := by
  obtain ⟨r, hr⟩ : ∃ r, IntKind.wrap .i64 (Int.tmod d 8) = r := ⟨_, rfl⟩
  obtain ⟨p, hp⟩ : ∃ p, IntKind.wrap .u32 (516 + (Int.tmod (IntKind.wrap .u32 t) 500)) = p := ⟨_, rfl⟩
  obtain ⟨j, hj⟩ : ∃ j, Int.tmod (IntKind.wrap .i64 (r + 1)) 7 = j := ⟨_, rfl⟩
  have hr0 : 0 ≤ r ∧ r < 8 := by rw [Int.tmod_eq_emod_of_nonneg hd.1, IntWalk.i64_in _ (by omega)] at hr; omega
  have hp0 : 516 ≤ p ∧ p < 1016 := by rw [K.w32 (by omega : 0 ≤ t ∧ t < 4294967296), Int.tmod_eq_emod_of_nonneg ht.1, K.w32 (by omega)] at hp; omega
  have hj0 : 0 ≤ j ∧ j < 7 := by rw [IntWalk.i64_in _ (by omega), Int.tmod_eq_emod_of_nonneg (by omega)] at hj; omega
  obtain ⟨R0, hR0⟩ : ∃ R0 : Nat → Int, Q.up (Q.up (fun _ => 0) (r).toNat v) 7 p = R0 := ⟨_, rfl⟩
  have hRb : ∀ k, 0 ≤ R0 k ∧ R0 k < 4294967296 := by subst hR0; exact fun k => Q.up_bd (Q.up_bd K.zero_bd hv) (by omega) k
  have r07 : R0 7 = p := by subst hR0; rfl
  obtain ⟨x, hx⟩ : ∃ x, R0 (r).toNat = x := ⟨_, rfl⟩
  have hxb : 0 ≤ x ∧ x < 4294967296 := hx ▸ hRb _
  obtain ⟨a, ha⟩ : ∃ a, (R2.Encode (⟨16, r, 0, -1, 0, 0, 2⟩ : K.Ins)).1 = a := ⟨_, rfl⟩
  obtain ⟨b, hb⟩ : ∃ b, (R2.Encode (⟨17, j, 0, -1, 0, 0, 2⟩ : K.Ins)).1 = b := ⟨_, rfl⟩
  obtain ⟨c, hc⟩ : ∃ c, (R2.Encode (⟨113, 0, 0, -1, 0, 11, 5⟩ : K.Ins)).1 = c := ⟨_, rfl⟩
  have ga : K.Good ⟨16, r, 0, -1, 0, 0, 2⟩ := by
    refine ⟨?_, by show (0 : Int) ≤ 0; decide, by show (0 : Int) < 4294967296; decide⟩
    rcases (by omega : r = 0 ∨ r = 1 ∨ r = 2 ∨ r = 3 ∨ r = 4 ∨ r = 5 ∨ r = 6 ∨ r = 7) with h | h | h | h | h | h | h | h <;> rw [h] <;> kernel_rfl
  have gb : K.Good ⟨17, j, 0, -1, 0, 0, 2⟩ := by
    refine ⟨?_, by show (0 : Int) ≤ 0; decide, by show (0 : Int) < 4294967296; decide⟩
    rcases (by omega : j = 0 ∨ j = 1 ∨ j = 2 ∨ j = 3 ∨ j = 4 ∨ j = 5 ∨ j = 6) with h | h | h | h | h | h | h <;> rw [h] <;> kernel_rfl
  have gc : K.Good ⟨113, 0, 0, -1, 0, 11, 5⟩ := ⟨by kernel_rfl, by decide, by decide⟩
  have gt : K.Good ⟨1, 0, 0, -1, 0, 0, 1⟩ := ⟨by kernel_rfl, by decide, by decide⟩
  have et : (R2.Encode (⟨1, 0, 0, -1, 0, 0, 1⟩ : K.Ins)).1 = (⟨#[1]⟩ : ByteArray) := by kernel_rfl
  have za : a.size = 2 := by have : ((a.size : Nat) : Int) = 2 := ha ▸ (K.good_size ga).1; omega
  have zb : b.size = 2 := by have : ((b.size : Nat) : Int) = 2 := hb ▸ (K.good_size gb).1; omega
  have zc : c.size = 5 := by have : ((c.size : Nat) : Int) = 5 := hc ▸ (K.good_size gc).1; omega
  obtain ⟨cd, hcd⟩ : ∃ cd, (a ++ b) ++ c = cd := ⟨_, rfl⟩
  have zd : cd.size = 9 := by subst hcd; rw [ByteArray.size_append, ByteArray.size_append, za, zb, zc]
  -- the states
  obtain ⟨S, hS0⟩ : ∃ S : Q.S, (⟨0, R0, 0, (fun _ => 0), 0, 0⟩ : Q.S) = S := ⟨_, rfl⟩
  have hS : K.norm S = S := by
    subst hS0
    refine K.norm_id (fun k h1 h2 => ?_) (by show (0 : Int) ≤ 0 ∧ (0 : Int) < 16; decide) (Int.le_refl 0) (Int.le_refl 0)
    show R0 k = 0
    subst hR0
    show (if k = 7 then p else if k = (r).toNat then v else 0) = 0
    rw [if_neg (by omega), if_neg (by omega)]
  have hwS : Q.wf S := by subst hS0; exact ⟨K.z32, hRb, K.zero_bd⟩
  have e4 : IntKind.wrap .u32 (p - 4) = p - 4 := K.w32 (by omega)
  have ep : IntKind.wrap .u32 (p - 4 + 4) = p := by rw [K.w32 (by omega)]; omega
  obtain ⟨T1, hT1⟩ : ∃ T1 : Q.S, (⟨2, Q.up R0 7 (p - 4), 0, (fun _ => 0), 1, 0⟩ : Q.S) = T1 := ⟨_, rfl⟩
  obtain ⟨T2, hT2⟩ : ∃ T2 : Q.S, (⟨4, Q.up (Q.up T1.r 7 p) (j).toNat x, 0, (fun _ => 0), 2, 0⟩ : Q.S) = T2 := ⟨_, rfl⟩
  obtain ⟨T3, hT3⟩ : ∃ T3 : Q.S, (⟨20, Q.up T2.r 7 (p - 4), 0, (fun _ => 0), 3, 0⟩ : Q.S) = T3 := ⟨_, rfl⟩
  obtain ⟨T4, hT4⟩ : ∃ T4 : Q.S, (⟨9, Q.up T3.r 7 p, 0, (fun _ => 0), 4, 0⟩ : Q.S) = T4 := ⟨_, rfl⟩
  have t17 : T1.r 7 = p - 4 := by subst hT1; rfl
  have t27 : T2.r 7 = p := by
    subst hT2
    show (if 7 = (j).toNat then x else if 7 = 7 then p else T1.r 7) = p
    rw [if_neg (by omega), if_pos rfl]
  have t2j : T2.r (j).toNat = x := by
    subst hT2
    show (if (j).toNat = (j).toNat then x else _) = x
    rw [if_pos rfl]
  have t37 : T3.r 7 = p - 4 := by subst hT3; rfl
  have t47 : T4.r 7 = p := by subst hT4; rfl
  -- the memories
  have m0 := K.bV_mem 7 7 7 7 0 0 cd (by decide)
  have v0 := K.bV_wf 7 7 7 7 0 0 cd
  generalize hV : K.bV 7 7 7 7 0 0 cd = V0 at m0 v0
  have hq : ∀ q : Int, q = 1 ∨ q = 2 ∨ q = 4 → ∀ x, x < 1024 → (bits .and .i64 (K.br 7 7 7 7 (x / 256)) q == 0) = false := fun q hq x hx => K.r7777 x hx q hq
  have m1 := m0.poke (20 : Int).toNat (⟨#[1]⟩ : ByteArray) (⟨#[1]⟩ : ByteArray).size (by decide)
  have v1 : R.Wf (V0.poke (20 : Int).toNat (⟨#[1]⟩ : ByteArray) (⟨#[1]⟩ : ByteArray).size) := R.Wf.poke v0 _ _ _
  generalize hV1 : V0.poke (20 : Int).toNat (⟨#[1]⟩ : ByteArray) (⟨#[1]⟩ : ByteArray).size = V1 at m1 v1
  obtain ⟨f1, hf1⟩ : ∃ f1 : Nat → Int, (fun x => if (20 : Int).toNat ≤ x ∧ x < (20 : Int).toNat + (⟨#[1]⟩ : ByteArray).size then W.byt (⟨#[1]⟩ : ByteArray).data.toList (x - (20 : Int).toNat) else K.bf 0 0 cd x) = f1 := ⟨_, rfl⟩
  rw [hf1] at m1
  have f1b : ∀ x, 0 ≤ f1 x ∧ f1 x < 256 := fun x => by
    subst hf1
    show 0 ≤ (if (20 : Int).toNat ≤ x ∧ x < (20 : Int).toNat + (⟨#[1]⟩ : ByteArray).size then W.byt (⟨#[1]⟩ : ByteArray).data.toList (x - (20 : Int).toNat) else K.bf 0 0 cd x) ∧ (if (20 : Int).toNat ≤ x ∧ x < (20 : Int).toNat + (⟨#[1]⟩ : ByteArray).size then W.byt (⟨#[1]⟩ : ByteArray).data.toList (x - (20 : Int).toNat) else K.bf 0 0 cd x) < 256
    split
    · have := W.byt_bd (⟨#[1]⟩ : ByteArray).data.toList (x - (20 : Int).toNat); omega
    · exact K.bf_bd 0 0 cd x
  have f1lo : ∀ x, x < 9 → f1 x = K.bf 0 0 cd x := fun x hx => by
    subst hf1
    show (if (20 : Int).toNat ≤ x ∧ x < (20 : Int).toNat + (⟨#[1]⟩ : ByteArray).size then W.byt (⟨#[1]⟩ : ByteArray).data.toList (x - (20 : Int).toNat) else K.bf 0 0 cd x) = _
    rw [if_neg (fun h => by have : (20 : Nat) ≤ x := h.1; omega)]
  have f120 : f1 20 = 1 := by subst hf1; rfl
  have cA : ∀ i, i < a.size → f1 (0 + i) = W.byt a.data.toList i := fun i hi => by
    rw [f1lo _ (by omega)]
    have := K.bf_cat (i := ⟨16, r, 0, -1, 0, 0, 2⟩) (z := 0) (code := cd) (pre := ⟨#[]⟩) (post := b ++ c) (by rw [ha, ← hcd, K.nil_cat, K.cat_cat]) (by omega) i (by rw [ha]; exact hi)
    rw [ha] at this; exact this
  have cB : ∀ i, i < b.size → f1 (2 + i) = W.byt b.data.toList i := fun i hi => by
    rw [f1lo _ (by omega)]
    have := K.bf_cat (i := ⟨17, j, 0, -1, 0, 0, 2⟩) (z := 0) (code := cd) (pre := a) (post := c) (by rw [hb, ← hcd]) (by omega) i (by rw [hb]; exact hi)
    rw [hb, za] at this; exact this
  have cC : ∀ i, i < c.size → f1 (4 + i) = W.byt c.data.toList i := fun i hi => by
    rw [f1lo _ (by omega)]
    have := K.bf_cat (i := ⟨113, 0, 0, -1, 0, 11, 5⟩) (z := 0) (code := cd) (pre := a ++ b) (post := ⟨#[]⟩) (by rw [hc, ← hcd, K.append_empty]) (by omega) i (by rw [hc]; exact hi)
    rw [hc, ByteArray.size_append, za, zb] at this; exact this
  -- the first push
  have q4 : (p - 4).toNat + 4 ≤ 1024 := by omega
  have sp : ∀ {V : M.V} {f : Nat → Int}, K.Mem V f (K.br 7 7 7 7) → V.chk (p - 4).toNat 2 4 = (0, true) := fun hm => hm.chk_ok (q := 2) (m := 4) (by decide) q4 (fun x _ h2 => hq 2 (.inr (.inl rfl)) x (by omega))
  have m2 := m1.sto4 (a := (p - 4).toNat) q4 hxb.1 (fun x _ h2 => hq 2 (.inr (.inl rfl)) x (by omega))
  have v2 : R.Wf (V1.sto (p - 4).toNat 4 x) := Q.wf_sto v1 _ _ _
  have s1 : K.stepI ⟨16, r, 0, -1, 0, 0, 2⟩ 0 0 S V1 = (T1, 0, 0, V1.sto (p - 4).toNat 4 x) := by
    have h := K.step_push r S V1
    have er : S.r 7 = p := by subst hS0; exact r07
    have ex : S.r (r).toNat = x := by subst hS0; exact hx
    rw [er, ex, e4] at h
    refine (h (sp m1)).trans ?_
    subst hS0; subst hT1; kernel_rfl
  generalize hW1 : V1.sto (p - 4).toNat 4 x = W1 at m2 v2 s1
  have f2b := K.w4_bd f1b (p - 4).toNat x
  have f2lo : ∀ y, y < 500 → K.w4 f1 (p - 4).toNat x y = f1 y := fun y hy => K.w4_out _ _ _ (.inl (by omega))
  -- the pop
  have s2 : K.stepI ⟨17, j, 0, -1, 0, 0, 2⟩ 0 0 T1 W1 = (T2, 0, 0, W1) := by
    have hl : W1.load (T1.r 7).toNat 4 = (x, 0, true) := by
      rw [t17]; exact m2.load4 v2 f2b q4 hxb (K.w4_at _ _ _) (fun y _ h2 => hq 1 (.inl rfl) y (by omega))
    have h := K.step_pop j T1 W1 hl
    rw [t17, ep] at h
    refine h.trans ?_
    subst hT2; subst hT1; kernel_rfl
  -- the call
  have m3 := m2.sto4 (a := (p - 4).toNat) (v := 9) q4 (by decide) (fun x _ h2 => hq 2 (.inr (.inl rfl)) x (by omega))
  have v3 : R.Wf (W1.sto (p - 4).toNat 4 9) := Q.wf_sto v2 _ _ _
  have s3 : K.stepI ⟨113, 0, 0, -1, 0, 11, 5⟩ 0 0 T2 W1 = (T3, 0, 0, W1.sto (p - 4).toNat 4 9) := by
    have h := K.step_call 11 T2 W1
    have e9 : IntKind.wrap .u32 (T2.pc + 5) = 9 := by subst hT2; kernel_rfl
    rw [t27, e4, e9] at h
    refine (h (sp m2)).trans ?_
    subst hT3; subst hT2; kernel_rfl
  generalize hW3 : W1.sto (p - 4).toNat 4 9 = W3 at m3 v3 s3
  have f3b := K.w4_bd f2b (p - 4).toNat 9
  -- the return
  have s4 : K.stepI ⟨1, 0, 0, -1, 0, 0, 1⟩ 0 0 T3 W3 = (T4, 0, 0, W3) := by
    have hl : W3.load (T3.r 7).toNat 4 = (9, 0, true) := by
      rw [t37]; exact m3.load4 v3 f3b q4 (by decide) (K.w4_at _ _ _) (fun y _ h2 => hq 1 (.inl rfl) y (by omega))
    have h := K.step_ret T3 W3 hl
    rw [t37, ep] at h
    refine h.trans ?_
    subst hT4; subst hT3; kernel_rfl
  -- what is fetched
  have hx4 : ∀ (o : Nat), o ≤ 100 → ∀ x, o ≤ x → x < o + 7 → (bits .and .i64 (K.br 7 7 7 7 (x / 256)) 4 == 0) = false := fun o ho x _ h2 => hq 4 (.inr (.inr rfl)) x (by omega)
  have fa : K.fetch V1 0 = (⟨16, r, 0, -1, 0, 0, 2⟩, 0, 0) := K.fetch_mem ga m1 (by decide) (hx4 0 (by decide)) (fun i hi => by rw [ha] at hi ⊢; exact cA i hi)
  have fb : K.fetch W1 2 = (⟨17, j, 0, -1, 0, 0, 2⟩, 0, 0) := K.fetch_mem gb m2 (by decide) (hx4 2 (by decide)) (fun i hi => by rw [hb] at hi ⊢; rw [f2lo _ (by show 2 + i < 500; omega)]; exact cB i hi)
  have fc : K.fetch W1 4 = (⟨113, 0, 0, -1, 0, 11, 5⟩, 0, 0) := K.fetch_mem gc m2 (by decide) (hx4 4 (by decide)) (fun i hi => by rw [hc] at hi ⊢; rw [f2lo _ (by show 4 + i < 500; omega)]; exact cC i hi)
  have ft : K.fetch W3 20 = (⟨1, 0, 0, -1, 0, 0, 1⟩, 0, 0) := K.fetch_mem gt m3 (by decide) (hx4 20 (by decide)) (fun i hi => by
    rw [et] at hi ⊢
    have : i = 0 := by have : i < 1 := hi; omega
    subst this
    rw [K.w4_out _ _ _ (.inl (by show 20 + 0 < (p - 4).toNat; omega)), f2lo _ (by show 20 + 0 < 500; omega)]
    exact f120)
  have n0 : K.nd S := K.nd0 (by subst hS0; exact Int.le_refl 0)
  have n1 : K.nd T1 := K.nd0 (by subst hT1; exact Int.le_refl 0)
  have n2 : K.nd T2 := K.nd0 (by subst hT2; exact Int.le_refl 0)
  have n3 : K.nd T3 := K.nd0 (by subst hT3; exact Int.le_refl 0)
  have n4 : K.nd T4 := K.nd0 (by subst hT4; exact Int.le_refl 0)
  have r1 : K.runs 1 S V1 = (T1, 1, 0, W1) := K.one_run n0 (by subst hS0; exact fa) s1 n1
  have r2 : K.runs 1 T1 W1 = (T2, 1, 0, W1) := K.one_run n1 (by subst hT1; exact fb) s2 n2
  have r3 : K.runs 1 T2 W1 = (T3, 1, 0, W3) := K.one_run n2 (by subst hT2; exact fc) s3 n3
  have r4 : K.runs 1 T3 W3 = (T4, 1, 0, W3) := K.one_run n3 (by subst hT3; exact ft) s4 n4
  have w1 := K.runs_wf (most := 1) hwS v1
  rw [r1] at w1
  have w2 := K.runs_wf (most := 1) w1.1 v2
  rw [r2] at w2
  have w3 := K.runs_wf (most := 1) w2.1 v2
  rw [r3] at w3
  have w4 := K.runs_wf (most := 1) w3.1 v3
  rw [r4] at w4
  refine KcpuStack_rd d t v r p j x hr hp hj (by omega) (by omega) hp0 (by rw [hR0]; exact hx) a b c cd (by omega) (by omega) (by omega) ha hb hc hcd S T1 T2 T3 T4 V0 W1 W1 W3 W3 (by rw [hR0, hS0]; exact hS) hwS hV v0 (by rw [hV1]; exact r1) w1 r2 w2 r3 w3 r4 w4 t17 (K.word_of m2 (by omega) hxb (K.w4_at _ _ _)) t27 t2j (by subst hT3; rfl) t37 (by subst hT4; rfl) t47 (by subst hT4; rfl) w _ _ ⟨fun _ h => h, fun _ h => h⟩
end Go.Proofs.YtglidnmmeclneaaGreat
