/- Texts of the walk, merged (7): see the remark ahead of each. -/
import Derived.Test.YtgbndbljohpnmaaZt6
import Derived.Test.YtgbndbljohpnmaaProg
/- XQac -/
namespace Go.Proofs.Ytgbndbljohpnmaa
set_option linter.unusedVariables false
set_option linter.unusedSimpArgs false
open Go.RowKit
def Q.ck (d : Int) : Int := 1 + d % 15
def Q.cy (d : Int) : Int := 1 + Q.ck d % 15
theorem Q.ck_bd (d : Int) : 1 ≤ Q.ck d ∧ Q.ck d < 16 := by
  have h : 0 ≤ d % 15 ∧ d % 15 < 15 := ⟨Int.emod_nonneg _ (by decide), Int.emod_lt_of_pos _ (by decide)⟩
  unfold Q.ck; omega
theorem Q.cy_bd (d : Int) : 1 ≤ Q.cy d ∧ Q.cy d < 16 ∧ Q.cy d ≠ Q.ck d := by
  have h := Q.ck_bd d
  unfold Q.cy; omega
theorem Q.c21 (d : Int) : IntKind.wrap .i64 (1 + d % 15) = Q.ck d := by have := Q.ck_bd d; unfold Q.ck at *; exact IntWalk.i64_in _ (by omega)
theorem Q.c41 (d : Int) : Int.tmod (Q.ck d) 15 = Q.ck d % 15 := Int.tmod_eq_emod_of_nonneg (by have := Q.ck_bd d; omega)
theorem Q.c42 (d : Int) : IntKind.wrap .i64 (1 + Q.ck d % 15) = Q.cy d := by have := Q.cy_bd d; unfold Q.cy at *; exact IntWalk.i64_in _ (by omega)
theorem Q.c4 (c : Int) : 0 ≤ c % 4 ∧ c % 4 < 4 := ⟨Int.emod_nonneg _ (by decide), Int.emod_lt_of_pos _ (by decide)⟩
theorem Q.c38 (c : Int) : IntKind.wrap .u32 (c % 4) = c % 4 := by have := Q.c4 c; rw [Q.wr]; omega
def Q.cos : Q.S := Q.norm ⟨0, (fun _ => 0), 0, (fun k => [7, 7, 7, 7].getD k 0), 0, 0⟩
def Q.coV0 (n d : Int) : M.V := Q.oneV ((Q3.cst (Q.ck d) n).1)
def Q.coV1 (n d : Int) : M.V := ((Q.coV0 n d).poke (4 : Int).toNat (W.put ((Q3.encode ((Q3.cst (Q.ck d) n).2)).1) 4) (W.put ((Q3.encode ((Q3.cst (Q.ck d) n).2)).1) 4).size)
def Q.coV2 (n d c : Int) : M.V := ((Q.coV1 n d).poke (8 : Int).toNat (W.put ((Q3.encode (⟨54, 0, (Q.ck d), 0, (c % 4)⟩ : Q.I)).1) 4) (W.put ((Q3.encode (⟨54, 0, (Q.ck d), 0, (c % 4)⟩ : Q.I)).1) 4).size)
def Q.coV3 (n d c : Int) : M.V := ((Q.coV2 n d c).poke (12 : Int).toNat (W.put ((Q3.encode (⟨53, (Q.cy d), 0, 0, (c % 4)⟩ : Q.I)).1) 4) (W.put ((Q3.encode (⟨53, (Q.cy d), 0, 0, (c % 4)⟩ : Q.I)).1) 4).size)
def Q.coV (n d c : Int) : M.V := ((Q.coV3 n d c).sync ((0 : Int).toNat / 256))
theorem Q.cos_wf : Q.wf Q.cos := Q.norm_wf ⟨by show (0 : Int) ≤ 0 ∧ (0 : Int) < 4294967296; decide, fun _ => by show (0 : Int) ≤ 0 ∧ (0 : Int) < 4294967296; decide, fun k => by
  show 0 ≤ ([7, 7, 7, 7] : List Int).getD k 0 ∧ ([7, 7, 7, 7] : List Int).getD k 0 < 4294967296
  rcases k with _ | _ | _ | _ | k <;> first | decide | (show (0 : Int) ≤ 0 ∧ (0 : Int) < 4294967296; decide)⟩
theorem Q.c4b (c : Int) : 0 ≤ c % 4 ∧ c % 4 < 4294967296 := by have := Q.c4 c; omega
theorem Q.cst1_bd {k n : Int} (hn : 0 ≤ n ∧ n < 4294967296) : 0 ≤ (Q3.cst k n).1.imm ∧ (Q3.cst k n).1.imm < 4294967296 := Q.wrap_bd _
theorem Q.cst2_bd {k n : Int} (hn : 0 ≤ n ∧ n < 4294967296) : 0 ≤ (Q3.cst k n).2.imm ∧ (Q3.cst k n).2.imm < 4294967296 := by
  show 0 ≤ Int.tmod n 1024 ∧ Int.tmod n 1024 < 4294967296
  rw [Int.tmod_eq_emod_of_nonneg hn.1]; omega
theorem Q.pk_one {V : M.V} (h : Q.one V) (a : Nat) (ha : a + 4 ≤ 256) (z : Int) : Q.one (V.poke a (W.put z 4) (W.put z 4).size) ∧ ∀ x, (V.poke a (W.put z 4) (W.put z 4).size).d 0 x = if a ≤ x ∧ x < a + 4 then W.byt (W.put z 4).data.toList (x - a) else V.d 0 x := by
  rw [Q.put_size]
  exact ⟨h.poke _ _ _, M.poke_d0 h.n a (W.put z 4) 4 ha⟩
theorem Q.coV0_is (n d : Int) : Q.one (Q.coV0 n d) ∧ ∀ x, x < 4 → (Q.coV0 n d).d 0 x = W.byt (W.put (Q3.encode (Q3.cst (Q.ck d) n).1).1 4).data.toList x := by
  obtain ⟨h0, d0, _⟩ := Q.oneV_one ((Q3.cst (Q.ck d) n).1)
  unfold Q.coV0
  exact ⟨h0, d0⟩
theorem Q.coV1_is (n d : Int) : Q.one (Q.coV1 n d) ∧ ∀ x, (Q.coV1 n d).d 0 x = if 4 ≤ x ∧ x < 4 + 4 then W.byt (W.put (Q3.encode ((Q3.cst (Q.ck d) n).2)).1 4).data.toList (x - 4) else (Q.coV0 n d).d 0 x := by
  unfold Q.coV1
  rw [show (4 : Int).toNat = 4 from rfl]
  exact Q.pk_one (Q.coV0_is n d).1 4 (by decide) _
theorem Q.coV2_is (n d c : Int) : Q.one (Q.coV2 n d c) ∧ ∀ x, (Q.coV2 n d c).d 0 x = if 8 ≤ x ∧ x < 8 + 4 then W.byt (W.put (Q3.encode (⟨54, 0, (Q.ck d), 0, (c % 4)⟩ : Q.I)).1 4).data.toList (x - 8) else (Q.coV1 n d).d 0 x := by
  unfold Q.coV2
  rw [show (8 : Int).toNat = 8 from rfl]
  exact Q.pk_one (Q.coV1_is n d).1 8 (by decide) _
theorem Q.coV3_is (n d c : Int) : Q.one (Q.coV3 n d c) ∧ ∀ x, (Q.coV3 n d c).d 0 x = if 12 ≤ x ∧ x < 12 + 4 then W.byt (W.put (Q3.encode (⟨53, (Q.cy d), 0, 0, (c % 4)⟩ : Q.I)).1 4).data.toList (x - 12) else (Q.coV2 n d c).d 0 x := by
  unfold Q.coV3
  rw [show (12 : Int).toNat = 12 from rfl]
  exact Q.pk_one (Q.coV2_is n d c).1 12 (by decide) _
theorem Q.coV_one (n d c : Int) : Q.one (Q.coV n d c) ∧ ∀ x, x < 256 → (Q.coV n d c).fetch x = ((Q.coV3 n d c).d 0 x, true) := by
  obtain ⟨h4, i4, _⟩ := (Q.coV3_is n d c).1.sync
  have e : Q.coV n d c = (Q.coV3 n d c).sync 0 := rfl
  rw [e]
  exact ⟨h4, fun x hx => by rw [h4.fetch hx, i4]⟩
theorem Q.coV_is (n d c : Int) : Q.one (Q.coV n d c) ∧ Q.holds (Q.coV n d c) 0 (Q3.encode (Q3.cst (Q.ck d) n).1).1 ∧ Q.holds (Q.coV n d c) 4 (Q3.encode (Q3.cst (Q.ck d) n).2).1 ∧ Q.holds (Q.coV n d c) 8 (Q3.encode (⟨54, 0, (Q.ck d), 0, (c % 4)⟩ : Q.I)).1 ∧ Q.holds (Q.coV n d c) 12 (Q3.encode (⟨53, (Q.cy d), 0, 0, (c % 4)⟩ : Q.I)).1 := by
  obtain ⟨hV, hi⟩ := Q.coV_one n d c
  refine ⟨hV, fun k hk => ?_, fun k hk => ?_, fun k hk => ?_, fun k hk => ?_⟩
  · rw [hi _ (by omega), (Q.coV3_is n d c).2, if_neg (by omega), (Q.coV2_is n d c).2, if_neg (by omega), (Q.coV1_is n d).2, if_neg (by omega), Nat.zero_add, (Q.coV0_is n d).2 k hk]
  · rw [hi _ (by omega), (Q.coV3_is n d c).2, if_neg (by omega), (Q.coV2_is n d c).2, if_neg (by omega), (Q.coV1_is n d).2, if_pos (by omega), Nat.add_sub_cancel_left]
  · rw [hi _ (by omega), (Q.coV3_is n d c).2, if_neg (by omega), (Q.coV2_is n d c).2, if_pos (by omega), Nat.add_sub_cancel_left]
  · rw [hi _ (by omega), (Q.coV3_is n d c).2, if_pos (by omega), Nat.add_sub_cancel_left]
theorem Q.run4 {s s1 s2 s3 s4 : Q.S} {V : M.V} (h0 : s.du = 0) (e1 : Q.step s V = (s1, 0, 0, V)) (h1 : s1.du = 0) (e2 : Q.step s1 V = (s2, 0, 0, V)) (h2 : s2.du = 0) (e3 : Q.step s2 V = (s3, 0, 0, V)) (h3 : s3.du = 0) (e4 : Q.step s3 V = (s4, 0, 0, V)) (h4 : s4.du = 0) : Q.runs 4 s V = (s4, 1, 0, V) := by
  show Q.run 4 5 0 s V = _
  rw [Q.run, h0, e1]
  show Q.run 4 4 1 s1 V = _
  rw [Q.run, h1, e2]
  show Q.run 4 3 2 s2 V = _
  rw [Q.run, h2, e3]
  show Q.run 4 2 3 s3 V = _
  rw [Q.run, h3, e4]
  show Q.run 4 1 4 s4 V = _
  rw [Q.run, h4]; rfl
theorem Q.s41 (s : Q.S) (V : M.V) (k m : Int) : Q.stepI ⟨41, k, 0, 0, m⟩ 0 0 s V = (⟨IntKind.wrap .u32 (s.pc + 4), Q.up (Q.up (Q.up s.r 0 0) k.toNat (IntKind.wrap .u32 (m * 2 ^ 10))) 0 0, s.f, s.c, IntKind.wrap .i64 (s.st + 1), s.du⟩, 0, 0, V) := rfl
theorem Q.s18 (s : Q.S) (V : M.V) (k m : Int) : Q.stepI ⟨18, k, k, 0, m⟩ 0 0 s V = (⟨IntKind.wrap .u32 (s.pc + 4), Q.up (Q.up (Q.up s.r 0 0) k.toNat (W.op 6 (Q.up s.r 0 0 k.toNat) m)) 0 0, s.f, s.c, IntKind.wrap .i64 (s.st + 1), s.du⟩, 0, 0, V) := rfl
theorem Q.s54x (s : Q.S) (V : M.V) (k x : Int) : Q.stepI ⟨54, 0, k, 0, x⟩ 0 0 s V = (⟨IntKind.wrap .u32 (s.pc + 4), Q.up (Q.ctl ⟨s.pc, Q.up s.r 0 0, s.f, s.c, s.st, s.du⟩ x (Q.up s.r 0 0 k.toNat)).r 0 0, (Q.ctl ⟨s.pc, Q.up s.r 0 0, s.f, s.c, s.st, s.du⟩ x (Q.up s.r 0 0 k.toNat)).f, (Q.ctl ⟨s.pc, Q.up s.r 0 0, s.f, s.c, s.st, s.du⟩ x (Q.up s.r 0 0 k.toNat)).c, IntKind.wrap .i64 ((Q.ctl ⟨s.pc, Q.up s.r 0 0, s.f, s.c, s.st, s.du⟩ x (Q.up s.r 0 0 k.toNat)).st + 1), (Q.ctl ⟨s.pc, Q.up s.r 0 0, s.f, s.c, s.st, s.du⟩ x (Q.up s.r 0 0 k.toNat)).du⟩, 0, 0, V) := rfl
theorem Q.s53x (s : Q.S) (V : M.V) (y x : Int) : Q.stepI ⟨53, y, 0, 0, x⟩ 0 0 s V = (⟨IntKind.wrap .u32 (s.pc + 4), Q.up (Q.up (Q.up s.r 0 0) y.toNat (s.c x.toNat)) 0 0, s.f, s.c, IntKind.wrap .i64 (s.st + 1), s.du⟩, 0, 0, V) := rfl
theorem Q.co_ctl (s : Q.S) (v : Int) {x : Int} (hx : 0 ≤ x ∧ x < 4) : Q.ctl s x v = if 2 ≤ x then s else ⟨s.pc, s.r, s.f, Q.up s.c x.toNat v, s.st, s.du⟩ := by
  rcases (by omega : x = 0 ∨ x = 1 ∨ x = 2 ∨ x = 3) with rfl | rfl | rfl | rfl <;> rfl
theorem Q.co_valid {i : Q.I} {F : Q3.Fm} (e : Q3.of i.op = F) (h1 : F.is = true) (hd : Q3.reg i.d F.d = true) (ha : Q3.reg i.a F.a = true) (hb : Q3.reg i.b F.b = true) (hm : Q3.iimm F i.imm = true) : Q3.valid i = true := by
  unfold Q3.valid
  show (bif (!((Q3.of i.op).is)) then false else (bif (((!(Q3.reg i.d ((Q3.of i.op).d))) || (!(Q3.reg i.a ((Q3.of i.op).a)))) || (!(Q3.reg i.b ((Q3.of i.op).b)))) then false else Q3.iimm (Q3.of i.op) i.imm)) = true
  rw [e, h1, hd, ha, hb, hm]; rfl
theorem Q.co_reg {x : Int} (h : 0 ≤ x ∧ x < 16) : Q3.reg x true = true := by unfold Q3.reg; simp; omega
theorem Q.co_st {s : Q.S} {V : M.V} {p : Nat} {i : Q.I} (hp : s.pc = ((p : Nat) : Int)) (h4 : p % 4 = 0) (hl : p + 4 ≤ 4294967296) (hi : 0 ≤ i.imm ∧ i.imm < 4294967296) (hv : Q3.valid i = true) (hh : Q.holds V p (Q3.encode i).1) : Q.step s V = Q.stepI i 0 0 s V := by
  unfold Q.step
  rw [hp, Q.fetch_holds h4 hl (Q3.enc_bd i) hh (Q3.valid_enc hi hv).2.2]
theorem Q.co_all {n : Int} (hn : 0 ≤ n ∧ n < 4294967296) (d c : Int) : ((Q.runs 4 Q.cos (Q.coV n d c)).1.r (Q.cy d).toNat = if 2 ≤ c % 4 then 7 else n) ∧ ((Q.runs 4 Q.cos (Q.coV n d c)).1.c (c % 4).toNat = if 2 ≤ c % 4 then 7 else n) ∧ (Q.runs 4 Q.cos (Q.coV n d c)).1.r (Q.ck d).toNat = n ∧ (Q.runs 4 Q.cos (Q.coV n d c)).1.st = 4 := by
  obtain ⟨_, g0, g1, g2, g3⟩ := Q.coV_is n d c
  have hk := Q.ck_bd d
  have hy := Q.cy_bd d
  have hc := Q.c4 c
  generalize Q.coV n d c = V at *
  generalize Q.ck d = k at *
  generalize Q.cy d = y at *
  generalize c % 4 = x at *
  have t1 : Int.tdiv n 1024 = n / 1024 := Int.tdiv_eq_ediv_of_nonneg hn.1
  have t2 : Int.tmod n 1024 = n % 1024 := Int.tmod_eq_emod_of_nonneg hn.1
  have c0 : (Q3.cst k n).1 = ⟨41, k, 0, 0, n / 1024⟩ := by
    show (⟨41, k, 0, 0, IntKind.wrap .u32 (Int.tdiv n 1024)⟩ : Q.I) = _
    rw [t1, Q.wr, show n / 1024 % 4294967296 = n / 1024 by omega]
  have c1 : (Q3.cst k n).2 = ⟨18, k, k, 0, n % 1024⟩ := by
    show (⟨18, k, k, 0, Int.tmod n 1024⟩ : Q.I) = _
    rw [t2]
  rw [c0] at g0; rw [c1] at g1
  have v0 : Q3.valid ⟨41, k, 0, 0, n / 1024⟩ = true := Q.co_valid (F := ⟨true, true, false, false, false, 22, 0⟩) rfl rfl (Q.co_reg (x := k) (by omega)) rfl rfl (by show decide (n / 1024 < 4194304) = true; simp; omega)
  have v1 : Q3.valid ⟨18, k, k, 0, n % 1024⟩ = true := Q.co_valid (F := ⟨true, true, true, false, false, 18, 0⟩) rfl rfl (Q.co_reg (x := k) (by omega)) (Q.co_reg (x := k) (by omega)) rfl (by show decide (n % 1024 < 262144) = true; simp; omega)
  have v2 : Q3.valid ⟨54, 0, k, 0, x⟩ = true := Q.co_valid (F := ⟨true, false, true, false, false, 18, 4⟩) rfl rfl rfl (Q.co_reg (x := k) (by omega)) rfl (by show decide (x ≤ 4) = true; simp; omega)
  have v3 : Q3.valid ⟨53, y, 0, 0, x⟩ = true := Q.co_valid (F := ⟨true, true, false, false, false, 18, 3⟩) rfl rfl (Q.co_reg (x := y) (by omega)) rfl rfl (by show decide (x ≤ 3) = true; simp; omega)
  have e1 := (Q.co_st (s := Q.cos) (p := 0) rfl (by decide) (by decide) (by show 0 ≤ n / 1024 ∧ n / 1024 < 4294967296; omega) v0 g0).trans (Q.s41 _ _ _ _)
  generalize hs1 : (⟨IntKind.wrap .u32 (Q.cos.pc + 4), Q.up (Q.up (Q.up Q.cos.r 0 0) k.toNat (IntKind.wrap .u32 (n / 1024 * 2 ^ 10))) 0 0, Q.cos.f, Q.cos.c, IntKind.wrap .i64 (Q.cos.st + 1), Q.cos.du⟩ : Q.S) = s1 at e1
  have e2 := (Q.co_st (s := s1) (p := 4) (by rw [← hs1]; rfl) (by decide) (by decide) (by show 0 ≤ n % 1024 ∧ n % 1024 < 4294967296; omega) v1 g1).trans (Q.s18 _ _ _ _)
  have k0 : k.toNat ≠ 0 := by omega
  have a1 : Q.up s1.r 0 0 k.toNat = n / 1024 * 1024 := by
    rw [← hs1]
    show (if k.toNat = 0 then 0 else if k.toNat = 0 then 0 else if k.toNat = k.toNat then IntKind.wrap .u32 (n / 1024 * 2 ^ 10) else _) = _
    rw [if_neg k0, if_neg k0, if_pos rfl, Q.wr]; omega
  have a2 : W.op 6 (n / 1024 * 1024) (n % 1024) = n := by
    rw [W.op_6, Q.or_hi _ _ 10 (by omega) (by show n / 1024 * 1024 % 1024 = 0; omega) (by show 0 ≤ n % 1024 ∧ n % 1024 < 1024; omega) (by omega)]; omega
  rw [a1, a2] at e2
  generalize hs2 : (⟨IntKind.wrap .u32 (s1.pc + 4), Q.up (Q.up (Q.up s1.r 0 0) k.toNat n) 0 0, s1.f, s1.c, IntKind.wrap .i64 (s1.st + 1), s1.du⟩ : Q.S) = s2 at e2
  have p1 : s1.pc = 4 ∧ s1.st = 1 ∧ s1.du = 0 ∧ s1.c = Q.cos.c := by rw [← hs1]; exact ⟨rfl, rfl, rfl, rfl⟩
  have p2 : s2.pc = 8 ∧ s2.st = 2 ∧ s2.du = 0 ∧ s2.c = Q.cos.c := by rw [← hs2]; refine ⟨?_, ?_, p1.2.2.1, p1.2.2.2⟩ <;> simp only [p1] <;> rfl
  have e3 := (Q.co_st (s := s2) (p := 8) p2.1 (by decide) (by decide) (by show 0 ≤ x ∧ x < 4294967296; omega) v2 g2).trans (Q.s54x _ _ _ _)
  have b1 : Q.up s2.r 0 0 k.toNat = n := by
    rw [← hs2]
    show (if k.toNat = 0 then 0 else if k.toNat = 0 then 0 else if k.toNat = k.toNat then n else _) = _
    rw [if_neg k0, if_neg k0, if_pos rfl]
  rw [b1, Q.co_ctl _ _ hc] at e3
  have hC : ∃ C : Q.S, Q.step s2 V = (⟨12, Q.up C.r 0 0, C.f, C.c, 3, 0⟩, 0, 0, V) ∧ C.r = Q.up s2.r 0 0 ∧ C.c x.toNat = if 2 ≤ x then 7 else n := by
    by_cases h : 2 ≤ x
    · rw [if_pos h] at e3
      refine ⟨⟨s2.pc, Q.up s2.r 0 0, s2.f, s2.c, s2.st, s2.du⟩, e3.trans ?_, rfl, ?_⟩
      · simp only [p2]; rfl
      · rw [if_pos h]
        show s2.c x.toNat = 7
        rw [p2.2.2.2]
        rcases (by omega : x = 2 ∨ x = 3) with rfl | rfl <;> rfl
    · rw [if_neg h] at e3
      refine ⟨⟨s2.pc, Q.up s2.r 0 0, s2.f, Q.up s2.c x.toNat n, s2.st, s2.du⟩, e3.trans ?_, rfl, ?_⟩
      · simp only [p2]; rfl
      · rw [if_neg h]; exact if_pos rfl
  obtain ⟨C, e3, r3, c3⟩ := hC
  have e4 := (Q.co_st (s := ⟨12, Q.up C.r 0 0, C.f, C.c, 3, 0⟩) (p := 12) rfl (by decide) (by decide) (by show 0 ≤ x ∧ x < 4294967296; omega) v3 g3).trans (Q.s53x _ _ _ _)
  rw [Q.run4 rfl e1 (by rw [p1.2.2.1]) e2 (by rw [p2.2.2.1]) e3 rfl e4 rfl]
  have y0 : y.toNat ≠ 0 := by omega
  have yk : k.toNat ≠ y.toNat := by omega
  refine ⟨?_, c3, ?_, rfl⟩
  · show (if y.toNat = 0 then 0 else if y.toNat = y.toNat then C.c x.toNat else _) = _
    rw [if_neg y0, if_pos rfl, c3]
  · show (if k.toNat = 0 then 0 else if k.toNat = y.toNat then C.c x.toNat else if k.toNat = 0 then 0 else if k.toNat = 0 then 0 else C.r k.toNat) = _
    rw [if_neg k0, if_neg yk, if_neg k0, if_neg k0, r3]; exact b1
variable {n d c : Int}
theorem Q.c91t (hn : 0 ≤ n ∧ n < 4294967296) (h : decide ((c % 4) ≥ 2) = true) : (((((Q.runs 4 Q.cos (Q.coV n d c)).1).r) (((Q.cy d)).toNat)) == 7) = true := by rw [(Q.co_all hn d c).1, if_pos (of_decide_eq_true h)]; rfl
theorem Q.c91f (hn : 0 ≤ n ∧ n < 4294967296) (h : decide ((c % 4) ≥ 2) = false) : (((((Q.runs 4 Q.cos (Q.coV n d c)).1).r) (((Q.cy d)).toNat)) == n) = true := by rw [(Q.co_all hn d c).1, if_neg (of_decide_eq_false h), beq_self_eq_true]
theorem Q.c99t (hn : 0 ≤ n ∧ n < 4294967296) (h : decide ((c % 4) ≥ 2) = true) : (((((Q.runs 4 Q.cos (Q.coV n d c)).1).c) (((c % 4)).toNat)) == 7) = true := by rw [(Q.co_all hn d c).2.1, if_pos (of_decide_eq_true h)]; rfl
theorem Q.c99f (hn : 0 ≤ n ∧ n < 4294967296) (h : decide ((c % 4) ≥ 2) = false) : (((((Q.runs 4 Q.cos (Q.coV n d c)).1).c) (((c % 4)).toNat)) == n) = true := by rw [(Q.co_all hn d c).2.1, if_neg (of_decide_eq_false h), beq_self_eq_true]
theorem Q.c107 (hn : 0 ≤ n ∧ n < 4294967296) : (((((Q.runs 4 Q.cos (Q.coV n d c)).1).r) (((Q.ck d)).toNat)) == n) = true := by rw [(Q.co_all hn d c).2.2.1, beq_self_eq_true]
theorem Q.c112 (hn : 0 ≤ n ∧ n < 4294967296) : ((((Q.runs 4 Q.cos (Q.coV n d c)).1).st) == 4) = true := by rw [(Q.co_all hn d c).2.2.2]; rfl
set_option maxHeartbeats 4000000 in
theorem QcpuConsts_rd (n d c : Int) (hn : 0 ≤ n ∧ n < 4294967296) (hd : -9223372036854775808 ≤ d ∧ d < 9223372036854775808) (hc : -9223372036854775808 ≤ c ∧ c < 9223372036854775808) : A.Rd Try.prog 8 #[.int .u32 n, .int .i64 d, .int .i64 c] [] (.bool true) := by
  intro w oo aa hh
  refine E.enter (n := 114) (S := oo) Try.func8 rfl rfl (by kernel_rfl) (A.start (L := []) hh) ?_
  refine E.sr ?_
  refine E.op (.bool false) ?_
  refine E.tr ?_
  refine E.G.call (.bool true) (fun w h => A.call_rd [] (San6) h (by kernel_rfl) (A.pm [] (by kernel_rfl) (by kernel_rfl))) (fun w _ => by kernel_rfl) (by kernel_rfl) ?_
  refine E.op (.bool true) ?_
  refine E.tr ?_
  refine E.op (.int .i64 d) ?_
  refine E.G.call (.int .i64 (d % 15)) (fun w h => Mod_any d 15 hd (by decide) w) (fun w _ => by kernel_rfl) (by kernel_rfl) ?_
  refine E.G.val (.int .i64 (Q.ck d)) (by kernel_rfl) (fun w h => E.run_as (a := .int .i64 (IntKind.wrap .i64 (1 + (d % 15)))) (by kernel_rfl) (congrArg (Value.int .i64) (Q.c21 d))) ?_
  refine E.op (.int .i64 (Q.ck d)) ?_
  refine E.tr ?_
  refine E.op (.int .i64 c) ?_
  refine E.G.call (.int .i64 (c % 4)) (fun w h => Mod_any c 4 hc (by decide) w) (fun w _ => by kernel_rfl) (by kernel_rfl) ?_
  refine E.op (.int .i64 (c % 4)) ?_
  refine E.To.code ?_
  refine E.C.weak [(0, .int .u32 n), (6, .bool false), (7, .bool true), (8, .int .i64 (Q.ck d)), (9, .int .i64 (c % 4))] [] ⟨by kernel_rfl, by kernel_rfl⟩ (List.Sublist.refl _) ?_
  refine E.sr ?_
  refine E.op (.int .i64 (Q.ck d)) ?_
  refine E.op (.int .u32 n) ?_
  refine E.G.call (.agg #[.int .i64 (((Q3.cst (Q.ck d) n).1).op), .int .i64 (((Q3.cst (Q.ck d) n).1).d), .int .i64 (((Q3.cst (Q.ck d) n).1).a), .int .i64 (((Q3.cst (Q.ck d) n).1).b), .int .u32 (((Q3.cst (Q.ck d) n).1).imm), .int .i64 (((Q3.cst (Q.ck d) n).2).op), .int .i64 (((Q3.cst (Q.ck d) n).2).d), .int .i64 (((Q3.cst (Q.ck d) n).2).a), .int .i64 (((Q3.cst (Q.ck d) n).2).b), .int .u32 (((Q3.cst (Q.ck d) n).2).imm)]) (fun w h => Const3_any (Q.ck d) n w) (fun w _ => by kernel_rfl) (by kernel_rfl) ?_
  refine E.G.new (fun g => .pointer (some ⟨g, 0, none⟩)) [.int .i64 0, .int .i64 0, .int .i64 0, .int .i64 0, .int .u32 0, .int .i64 0, .int .i64 0, .int .i64 0, .int .i64 0, .int .u32 0] 70 (fun w => by kernel_rfl) (by kernel_rfl) (fun g1 => ?_)
  refine E.G.store 0 [.int .i64 (((Q3.cst (Q.ck d) n).1).op), .int .i64 (((Q3.cst (Q.ck d) n).1).d), .int .i64 (((Q3.cst (Q.ck d) n).1).a), .int .i64 (((Q3.cst (Q.ck d) n).1).b), .int .u32 (((Q3.cst (Q.ck d) n).1).imm), .int .i64 (((Q3.cst (Q.ck d) n).2).op), .int .i64 (((Q3.cst (Q.ck d) n).2).d), .int .i64 (((Q3.cst (Q.ck d) n).2).a), .int .i64 (((Q3.cst (Q.ck d) n).2).b), .int .u32 (((Q3.cst (Q.ck d) n).2).imm)] rfl rfl (by kernel_rfl) (by kernel_rfl) ?_
  refine E.tr ?_
  refine E.op (.pointer (some ⟨g1, 0, none⟩)) ?_
  refine E.li (.agg #[.int .i64 (((Q3.cst (Q.ck d) n).1).op), .int .i64 (((Q3.cst (Q.ck d) n).1).d), .int .i64 (((Q3.cst (Q.ck d) n).1).a), .int .i64 (((Q3.cst (Q.ck d) n).1).b), .int .u32 (((Q3.cst (Q.ck d) n).1).imm)]) 0 rfl rfl ?_
  refine E.G.val (.agg #[.int .u32 7, .int .u32 7, .int .u32 7, .int .u32 7]) (by kernel_rfl) (fun w h => E.run_build #[.int .u32 7, .int .u32 7, .int .u32 7, .int .u32 7] (by kernel_rfl) w) ?_
  refine E.G.val (Q.S.val (⟨0, (fun _ => 0), 0, (fun k => [7, 7, 7, 7].getD k 0), 0, 0⟩)) (by kernel_rfl) (fun w h => E.run_build (Q.S.cells ⟨0, (fun _ => 0), 0, (fun k => [7, 7, 7, 7].getD k 0), 0, 0⟩).toArray (by kernel_rfl) w) ?_
  refine A.G.call (I := Nat) (D := fun c2 => True) (V := fun c2 => .pointer (some ⟨c2, 0, none⟩)) (q := fun c2 => [M.It c2 (Q.coV0 n d) (Q.S.cells Q.cos)]) [A.blk g1 ([.int .i64 (((Q3.cst (Q.ck d) n).1).op), .int .i64 (((Q3.cst (Q.ck d) n).1).d), .int .i64 (((Q3.cst (Q.ck d) n).1).a), .int .i64 (((Q3.cst (Q.ck d) n).1).b), .int .u32 (((Q3.cst (Q.ck d) n).1).imm), .int .i64 (((Q3.cst (Q.ck d) n).2).op), .int .i64 (((Q3.cst (Q.ck d) n).2).d), .int .i64 (((Q3.cst (Q.ck d) n).2).a), .int .i64 (((Q3.cst (Q.ck d) n).2).b), .int .u32 (((Q3.cst (Q.ck d) n).2).imm)])] (fun c2 => [(g1, [.int .i64 (((Q3.cst (Q.ck d) n).1).op), .int .i64 (((Q3.cst (Q.ck d) n).1).d), .int .i64 (((Q3.cst (Q.ck d) n).1).a), .int .i64 (((Q3.cst (Q.ck d) n).1).b), .int .u32 (((Q3.cst (Q.ck d) n).1).imm), .int .i64 (((Q3.cst (Q.ck d) n).2).op), .int .i64 (((Q3.cst (Q.ck d) n).2).d), .int .i64 (((Q3.cst (Q.ck d) n).2).a), .int .i64 (((Q3.cst (Q.ck d) n).2).b), .int .u32 (((Q3.cst (Q.ck d) n).2).imm)])]) (fun c2 => [M.It c2 (Q.coV0 n d) (Q.S.cells Q.cos)]) (COne ((Q3.cst (Q.ck d) n).1) (⟨0, (fun _ => 0), 0, (fun k => [7, 7, 7, 7].getD k 0), 0, 0⟩ : Q.S) (Q.cst1_bd hn)) (by kernel_rfl) (A.pm [0] (by kernel_rfl) (by kernel_rfl)) (fun c2 => A.pm [1, 0] (by kernel_rfl) (by kernel_rfl)) (fun w _ => by kernel_rfl) (by kernel_rfl) (fun c2 hd3 => ?_)
  refine E.op (.pointer (some ⟨c2, 0, none⟩)) ?_
  refine E.To.code ?_
  refine E.C.weak [(0, .int .u32 n), (6, .bool false), (7, .bool true), (8, .int .i64 (Q.ck d)), (9, .int .i64 (c % 4)), (10, .pointer (some ⟨g1, 0, none⟩)), (11, .pointer (some ⟨c2, 0, none⟩))] [(g1, [.int .i64 (((Q3.cst (Q.ck d) n).1).op), .int .i64 (((Q3.cst (Q.ck d) n).1).d), .int .i64 (((Q3.cst (Q.ck d) n).1).a), .int .i64 (((Q3.cst (Q.ck d) n).1).b), .int .u32 (((Q3.cst (Q.ck d) n).1).imm), .int .i64 (((Q3.cst (Q.ck d) n).2).op), .int .i64 (((Q3.cst (Q.ck d) n).2).d), .int .i64 (((Q3.cst (Q.ck d) n).2).a), .int .i64 (((Q3.cst (Q.ck d) n).2).b), .int .u32 (((Q3.cst (Q.ck d) n).2).imm)])] ⟨by kernel_rfl, by kernel_rfl⟩ (List.Sublist.refl _) ?_
  refine E.C.seq ?_
  refine E.sr ?_
  refine E.op (.pointer (some ⟨c2, 0, none⟩)) ?_
  refine E.op (.bool false) ?_
  refine E.To.code ?_
  refine E.C.condF (by kernel_rfl) (by kernel_rfl) ?_
  refine E.C.skip (E.To.code ?_)
  refine E.sr ?_
  refine E.op (.pointer (some ⟨g1, 5, none⟩)) ?_
  refine E.li (.agg #[.int .i64 (((Q3.cst (Q.ck d) n).2).op), .int .i64 (((Q3.cst (Q.ck d) n).2).d), .int .i64 (((Q3.cst (Q.ck d) n).2).a), .int .i64 (((Q3.cst (Q.ck d) n).2).b), .int .u32 (((Q3.cst (Q.ck d) n).2).imm)]) 0 rfl rfl ?_
  refine E.op (.int .i64 (Q.ck d)) ?_
  refine E.op (.int .i64 (c % 4)) ?_
  refine E.G.val (.int .u32 (c % 4)) (by kernel_rfl) (fun w h => E.run_as (a := .int .u32 (IntKind.wrap .u32 (c % 4))) (by kernel_rfl) (congrArg (Value.int .u32) (Q.c38 c))) ?_
  refine E.G.val (.agg #[.int .i64 54, .int .i64 0, .int .i64 (Q.ck d), .int .i64 0, .int .u32 (c % 4)]) (by kernel_rfl) (fun w h => E.run_build #[.int .i64 54, .int .i64 0, .int .i64 (Q.ck d), .int .i64 0, .int .u32 (c % 4)] (by kernel_rfl) w) ?_
  refine E.op (.int .i64 (Q.ck d)) ?_
  refine E.G.val (.int .i64 ((Q.ck d) % 15)) (by kernel_rfl) (fun w h => E.run_as (a := .int .i64 (Int.tmod (Q.ck d) 15)) (by kernel_rfl) (congrArg (Value.int .i64) (Q.c41 d))) ?_
  refine E.G.val (.int .i64 (Q.cy d)) (by kernel_rfl) (fun w h => E.run_as (a := .int .i64 (IntKind.wrap .i64 (1 + ((Q.ck d) % 15)))) (by kernel_rfl) (congrArg (Value.int .i64) (Q.c42 d))) ?_
  refine E.op (.int .i64 (c % 4)) ?_
  refine E.G.val (.int .u32 (c % 4)) (by kernel_rfl) (fun w h => E.run_as (a := .int .u32 (IntKind.wrap .u32 (c % 4))) (by kernel_rfl) (congrArg (Value.int .u32) (Q.c38 c))) ?_
  refine E.G.val (.agg #[.int .i64 53, .int .i64 (Q.cy d), .int .i64 0, .int .i64 0, .int .u32 (c % 4)]) (by kernel_rfl) (fun w h => E.run_build #[.int .i64 53, .int .i64 (Q.cy d), .int .i64 0, .int .i64 0, .int .u32 (c % 4)] (by kernel_rfl) w) ?_
  refine E.G.buildSlice [.int .i64 (((Q3.cst (Q.ck d) n).2).op), .int .i64 (((Q3.cst (Q.ck d) n).2).d), .int .i64 (((Q3.cst (Q.ck d) n).2).a), .int .i64 (((Q3.cst (Q.ck d) n).2).b), .int .u32 (((Q3.cst (Q.ck d) n).2).imm), .int .i64 54, .int .i64 0, .int .i64 (Q.ck d), .int .i64 0, .int .u32 (c % 4), .int .i64 53, .int .i64 (Q.cy d), .int .i64 0, .int .i64 0, .int .u32 (c % 4)] (by kernel_rfl) (by kernel_rfl) (fun g4 => ?_)
  refine E.op (.slice (some ⟨g4, 0, none⟩) 3 3) ?_
  refine E.To.code ?_
  refine E.C.weak [(0, .int .u32 n), (6, .bool false), (7, .bool true), (8, .int .i64 (Q.ck d)), (9, .int .i64 (c % 4)), (11, .pointer (some ⟨c2, 0, none⟩)), (12, .slice (some ⟨g4, 0, none⟩) 3 3)] [(g4, [.int .i64 (((Q3.cst (Q.ck d) n).2).op), .int .i64 (((Q3.cst (Q.ck d) n).2).d), .int .i64 (((Q3.cst (Q.ck d) n).2).a), .int .i64 (((Q3.cst (Q.ck d) n).2).b), .int .u32 (((Q3.cst (Q.ck d) n).2).imm), .int .i64 54, .int .i64 0, .int .i64 (Q.ck d), .int .i64 0, .int .u32 (c % 4), .int .i64 53, .int .i64 (Q.cy d), .int .i64 0, .int .i64 0, .int .u32 (c % 4)])] ⟨by kernel_rfl, by kernel_rfl⟩ (List.Sublist.cons_cons _ (List.nil_sublist _)) ?_
  refine E.C.seq ?_
  refine E.sr ?_
  refine E.op (.int .i64 0) ?_
  refine E.To.code ?_
  refine E.C.block ?_
  refine E.C.rounds 4 ?_
  refine E.C.seq ?_
  refine E.sr ?_
  refine E.op (.int .i64 0) ?_
  refine E.op (.slice (some ⟨g4, 0, none⟩) 3 3) ?_
  refine E.op (.int .i64 3) ?_
  refine E.op (.bool true) ?_
  refine E.To.code ?_
  refine E.C.condT (by kernel_rfl) (by kernel_rfl) ?_
  refine E.C.skip (E.To.code ?_)
  refine E.C.seq ?_
  refine E.C.block ?_
  refine E.sr ?_
  refine E.op (.slice (some ⟨g4, 0, none⟩) 3 3) ?_
  refine E.op (.int .i64 0) ?_
  refine E.op (.pointer (some ⟨g4, 0, none⟩)) ?_
  refine E.li (.agg #[.int .i64 (((Q3.cst (Q.ck d) n).2).op), .int .i64 (((Q3.cst (Q.ck d) n).2).d), .int .i64 (((Q3.cst (Q.ck d) n).2).a), .int .i64 (((Q3.cst (Q.ck d) n).2).b), .int .u32 (((Q3.cst (Q.ck d) n).2).imm)]) 0 rfl rfl ?_
  refine E.G.call (.tuple #[.int .u32 ((Q3.encode ((Q3.cst (Q.ck d) n).2)).1), .int .i64 ((Q3.encode ((Q3.cst (Q.ck d) n).2)).2)]) (fun w h => Encode3_any ((Q3.cst (Q.ck d) n).2) (Q.cst2_bd hn) w) (fun w _ => by kernel_rfl) (by kernel_rfl) ?_
  refine E.op (.tuple #[.int .u32 ((Q3.encode ((Q3.cst (Q.ck d) n).2)).1), .int .i64 ((Q3.encode ((Q3.cst (Q.ck d) n).2)).2)]) ?_
  refine E.op (.int .u32 ((Q3.encode ((Q3.cst (Q.ck d) n).2)).1)) ?_
  refine E.op (.int .i64 ((Q3.encode ((Q3.cst (Q.ck d) n).2)).2)) ?_
  refine E.op (.int .u32 ((Q3.encode ((Q3.cst (Q.ck d) n).2)).1)) ?_
  refine E.op (.int .i64 ((Q3.encode ((Q3.cst (Q.ck d) n).2)).2)) ?_
  refine E.To.code ?_
  refine E.C.held (A.Y [A.blk g4 ([.int .i64 (((Q3.cst (Q.ck d) n).2).op), .int .i64 (((Q3.cst (Q.ck d) n).2).d), .int .i64 (((Q3.cst (Q.ck d) n).2).a), .int .i64 (((Q3.cst (Q.ck d) n).2).b), .int .u32 (((Q3.cst (Q.ck d) n).2).imm), .int .i64 54, .int .i64 0, .int .i64 (Q.ck d), .int .i64 0, .int .u32 (c % 4), .int .i64 53, .int .i64 (Q.cy d), .int .i64 0, .int .i64 0, .int .u32 (c % 4)])]) (by kernel_rfl) ?_
  refine E.H.take 0 (.pointer (some ⟨c2, 0, none⟩)) rfl (by kernel_rfl) (by kernel_rfl) (by kernel_rfl) (fun _ _ _ h => h) (fun w h => A.hpY (p := [A.blk g4 ([.int .i64 (((Q3.cst (Q.ck d) n).2).op), .int .i64 (((Q3.cst (Q.ck d) n).2).d), .int .i64 (((Q3.cst (Q.ck d) n).2).a), .int .i64 (((Q3.cst (Q.ck d) n).2).b), .int .u32 (((Q3.cst (Q.ck d) n).2).imm), .int .i64 54, .int .i64 0, .int .i64 (Q.ck d), .int .i64 0, .int .u32 (c % 4), .int .i64 53, .int .i64 (Q.cy d), .int .i64 0, .int .i64 0, .int .u32 (c % 4)])]) (r := [M.It c2 (Q.coV0 n d) (Q.S.cells Q.cos)]) h (by kernel_rfl) (A.pm [0, 1] (by kernel_rfl) (by kernel_rfl))) (.inl ⟨by kernel_rfl, by kernel_rfl, fun w h => by kernel_rfl⟩) (by kernel_rfl) ?_
  refine E.H.take 1 (.pointer (some ⟨c2, 0, none⟩)) rfl (by kernel_rfl) (by kernel_rfl) (by kernel_rfl) (fun _ _ _ h => h) (fun w h => A.hpY (p := [A.blk g4 ([.int .i64 (((Q3.cst (Q.ck d) n).2).op), .int .i64 (((Q3.cst (Q.ck d) n).2).d), .int .i64 (((Q3.cst (Q.ck d) n).2).a), .int .i64 (((Q3.cst (Q.ck d) n).2).b), .int .u32 (((Q3.cst (Q.ck d) n).2).imm), .int .i64 54, .int .i64 0, .int .i64 (Q.ck d), .int .i64 0, .int .u32 (c % 4), .int .i64 53, .int .i64 (Q.cy d), .int .i64 0, .int .i64 0, .int .u32 (c % 4)])]) (r := [M.It c2 (Q.coV0 n d) (Q.S.cells Q.cos)]) h (by kernel_rfl) (A.pm [0, 1] (by kernel_rfl) (by kernel_rfl))) (.inl ⟨by kernel_rfl, by kernel_rfl, fun w h => by kernel_rfl⟩) (by kernel_rfl) ?_
  refine E.H.take 2 (.pointer (some ⟨c2, 0, none⟩)) rfl (by kernel_rfl) (by kernel_rfl) (by kernel_rfl) (fun _ _ _ h => h) (fun w h => A.hpY (p := [A.blk g4 ([.int .i64 (((Q3.cst (Q.ck d) n).2).op), .int .i64 (((Q3.cst (Q.ck d) n).2).d), .int .i64 (((Q3.cst (Q.ck d) n).2).a), .int .i64 (((Q3.cst (Q.ck d) n).2).b), .int .u32 (((Q3.cst (Q.ck d) n).2).imm), .int .i64 54, .int .i64 0, .int .i64 (Q.ck d), .int .i64 0, .int .u32 (c % 4), .int .i64 53, .int .i64 (Q.cy d), .int .i64 0, .int .i64 0, .int .u32 (c % 4)])]) (r := [M.It c2 (Q.coV0 n d) (Q.S.cells Q.cos)]) h (by kernel_rfl) (A.pm [0, 1] (by kernel_rfl) (by kernel_rfl))) (.inl ⟨by kernel_rfl, by kernel_rfl, fun w h => by kernel_rfl⟩) (by kernel_rfl) ?_
  refine E.H.take 3 (.int .i64 0) rfl (by kernel_rfl) (by kernel_rfl) (by kernel_rfl) (fun _ _ _ h => h) (fun w h => A.hpY (p := [A.blk g4 ([.int .i64 (((Q3.cst (Q.ck d) n).2).op), .int .i64 (((Q3.cst (Q.ck d) n).2).d), .int .i64 (((Q3.cst (Q.ck d) n).2).a), .int .i64 (((Q3.cst (Q.ck d) n).2).b), .int .u32 (((Q3.cst (Q.ck d) n).2).imm), .int .i64 54, .int .i64 0, .int .i64 (Q.ck d), .int .i64 0, .int .u32 (c % 4), .int .i64 53, .int .i64 (Q.cy d), .int .i64 0, .int .i64 0, .int .u32 (c % 4)])]) (r := [M.It c2 (Q.coV0 n d) (Q.S.cells Q.cos)]) h (by kernel_rfl) (A.pm [0, 1] (by kernel_rfl) (by kernel_rfl))) (.inl ⟨by kernel_rfl, by kernel_rfl, fun w h => by kernel_rfl⟩) (by kernel_rfl) ?_
  refine E.H.take 4 (.int .i64 0) rfl (by kernel_rfl) (by kernel_rfl) (by kernel_rfl) (fun _ _ _ h => h) (fun w h => A.hpY (p := [A.blk g4 ([.int .i64 (((Q3.cst (Q.ck d) n).2).op), .int .i64 (((Q3.cst (Q.ck d) n).2).d), .int .i64 (((Q3.cst (Q.ck d) n).2).a), .int .i64 (((Q3.cst (Q.ck d) n).2).b), .int .u32 (((Q3.cst (Q.ck d) n).2).imm), .int .i64 54, .int .i64 0, .int .i64 (Q.ck d), .int .i64 0, .int .u32 (c % 4), .int .i64 53, .int .i64 (Q.cy d), .int .i64 0, .int .i64 0, .int .u32 (c % 4)])]) (r := [M.It c2 (Q.coV0 n d) (Q.S.cells Q.cos)]) h (by kernel_rfl) (A.pm [0, 1] (by kernel_rfl) (by kernel_rfl))) (.inl ⟨by kernel_rfl, by kernel_rfl, fun w h => by kernel_rfl⟩) (by kernel_rfl) ?_
  refine E.H.take 5 (.int .i64 4) rfl (by kernel_rfl) (by kernel_rfl) (by kernel_rfl) (fun _ _ _ h => h) (fun w h => A.hpY (p := [A.blk g4 ([.int .i64 (((Q3.cst (Q.ck d) n).2).op), .int .i64 (((Q3.cst (Q.ck d) n).2).d), .int .i64 (((Q3.cst (Q.ck d) n).2).a), .int .i64 (((Q3.cst (Q.ck d) n).2).b), .int .u32 (((Q3.cst (Q.ck d) n).2).imm), .int .i64 54, .int .i64 0, .int .i64 (Q.ck d), .int .i64 0, .int .u32 (c % 4), .int .i64 53, .int .i64 (Q.cy d), .int .i64 0, .int .i64 0, .int .u32 (c % 4)])]) (r := [M.It c2 (Q.coV0 n d) (Q.S.cells Q.cos)]) h (by kernel_rfl) (A.pm [0, 1] (by kernel_rfl) (by kernel_rfl))) (.inl ⟨by kernel_rfl, by kernel_rfl, fun w h => by kernel_rfl⟩) (by kernel_rfl) ?_
  refine E.H.take 6 (.int .u32 4) rfl (by kernel_rfl) (by kernel_rfl) (by kernel_rfl) (fun _ _ _ h => h) (fun w h => A.hpY (p := [A.blk g4 ([.int .i64 (((Q3.cst (Q.ck d) n).2).op), .int .i64 (((Q3.cst (Q.ck d) n).2).d), .int .i64 (((Q3.cst (Q.ck d) n).2).a), .int .i64 (((Q3.cst (Q.ck d) n).2).b), .int .u32 (((Q3.cst (Q.ck d) n).2).imm), .int .i64 54, .int .i64 0, .int .i64 (Q.ck d), .int .i64 0, .int .u32 (c % 4), .int .i64 53, .int .i64 (Q.cy d), .int .i64 0, .int .i64 0, .int .u32 (c % 4)])]) (r := [M.It c2 (Q.coV0 n d) (Q.S.cells Q.cos)]) h (by kernel_rfl) (A.pm [0, 1] (by kernel_rfl) (by kernel_rfl))) (.inl ⟨by kernel_rfl, by kernel_rfl, fun w h => by kernel_rfl⟩) (by kernel_rfl) ?_
  refine E.H.take 7 (.int .u32 ((Q3.encode ((Q3.cst (Q.ck d) n).2)).1)) rfl (by kernel_rfl) (by kernel_rfl) (by kernel_rfl) (fun _ _ _ h => h) (fun w h => A.hpY (p := [A.blk g4 ([.int .i64 (((Q3.cst (Q.ck d) n).2).op), .int .i64 (((Q3.cst (Q.ck d) n).2).d), .int .i64 (((Q3.cst (Q.ck d) n).2).a), .int .i64 (((Q3.cst (Q.ck d) n).2).b), .int .u32 (((Q3.cst (Q.ck d) n).2).imm), .int .i64 54, .int .i64 0, .int .i64 (Q.ck d), .int .i64 0, .int .u32 (c % 4), .int .i64 53, .int .i64 (Q.cy d), .int .i64 0, .int .i64 0, .int .u32 (c % 4)])]) (r := [M.It c2 (Q.coV0 n d) (Q.S.cells Q.cos)]) h (by kernel_rfl) (A.pm [0, 1] (by kernel_rfl) (by kernel_rfl))) (.inl ⟨by kernel_rfl, by kernel_rfl, fun w h => by kernel_rfl⟩) (by kernel_rfl) ?_
  refine E.H.all [8] (by kernel_rfl) (by simp) (List.forall_mem_cons.2 ⟨⟨_, rfl, ?_⟩, fun _ h => (List.not_mem_nil h).elim⟩)
  · skip
    refine E.G.call (.string (W.put ((Q3.encode ((Q3.cst (Q.ck d) n).2)).1) 4)) (fun w h => rPut_all ((Q3.encode ((Q3.cst (Q.ck d) n).2)).1) 4 (Q3.enc_bd _) (by omega) w) (fun w _ => by kernel_rfl) (by kernel_rfl) ?_
    refine E.H.back (fun w h => A.hpY (p := [A.blk g4 ([.int .i64 (((Q3.cst (Q.ck d) n).2).op), .int .i64 (((Q3.cst (Q.ck d) n).2).d), .int .i64 (((Q3.cst (Q.ck d) n).2).a), .int .i64 (((Q3.cst (Q.ck d) n).2).b), .int .u32 (((Q3.cst (Q.ck d) n).2).imm), .int .i64 54, .int .i64 0, .int .i64 (Q.ck d), .int .i64 0, .int .u32 (c % 4), .int .i64 53, .int .i64 (Q.cy d), .int .i64 0, .int .i64 0, .int .u32 (c % 4)])]) (r := [M.It c2 (Q.coV0 n d) (Q.S.cells Q.cos)]) h (by kernel_rfl) (A.pm [0, 1] (by kernel_rfl) (by kernel_rfl))) ?_
    refine E.H.all [9] (by kernel_rfl) (by simp) (List.forall_mem_cons.2 ⟨⟨_, rfl, ?_⟩, fun _ h => (List.not_mem_nil h).elim⟩)
    · skip
      refine A.G.call (I := Unit) (D := fun _ => True) (V := fun _ => .tuple #[]) (q := fun _ => [M.It c2 (Q.coV1 n d) (Q.S.cells Q.cos)]) [A.blk g4 ([.int .i64 (((Q3.cst (Q.ck d) n).2).op), .int .i64 (((Q3.cst (Q.ck d) n).2).d), .int .i64 (((Q3.cst (Q.ck d) n).2).a), .int .i64 (((Q3.cst (Q.ck d) n).2).b), .int .u32 (((Q3.cst (Q.ck d) n).2).imm), .int .i64 54, .int .i64 0, .int .i64 (Q.ck d), .int .i64 0, .int .u32 (c % 4), .int .i64 53, .int .i64 (Q.cy d), .int .i64 0, .int .i64 0, .int .u32 (c % 4)])] (fun _ => [(g4, [.int .i64 (((Q3.cst (Q.ck d) n).2).op), .int .i64 (((Q3.cst (Q.ck d) n).2).d), .int .i64 (((Q3.cst (Q.ck d) n).2).a), .int .i64 (((Q3.cst (Q.ck d) n).2).b), .int .u32 (((Q3.cst (Q.ck d) n).2).imm), .int .i64 54, .int .i64 0, .int .i64 (Q.ck d), .int .i64 0, .int .u32 (c % 4), .int .i64 53, .int .i64 (Q.cy d), .int .i64 0, .int .i64 0, .int .u32 (c % 4)])]) (fun _ => [M.It c2 (Q.coV1 n d) (Q.S.cells Q.cos)]) (I_Poke 4 (W.put ((Q3.encode ((Q3.cst (Q.ck d) n).2)).1) 4) (by decide) (by rw [Q.put_size]; decide) (m := c2) (V := (Q.coV0 n d)) (xs := (Q.S.cells Q.cos))) (by kernel_rfl) (A.pm [1, 0] (by kernel_rfl) (by kernel_rfl)) (fun _ => A.pm [1, 0] (by kernel_rfl) (by kernel_rfl)) (fun w _ => by kernel_rfl) (by kernel_rfl) (fun _ hd5 => ?_)
      refine E.H.back (fun w h => A.hpY (p := [A.blk g4 ([.int .i64 (((Q3.cst (Q.ck d) n).2).op), .int .i64 (((Q3.cst (Q.ck d) n).2).d), .int .i64 (((Q3.cst (Q.ck d) n).2).a), .int .i64 (((Q3.cst (Q.ck d) n).2).b), .int .u32 (((Q3.cst (Q.ck d) n).2).imm), .int .i64 54, .int .i64 0, .int .i64 (Q.ck d), .int .i64 0, .int .u32 (c % 4), .int .i64 53, .int .i64 (Q.cy d), .int .i64 0, .int .i64 0, .int .u32 (c % 4)])]) (r := [M.It c2 (Q.coV1 n d) (Q.S.cells Q.cos)]) h (by kernel_rfl) (A.pm [0, 1] (by kernel_rfl) (by kernel_rfl))) ?_
      refine E.H.done (by kernel_rfl) ?_
      refine E.P.nb (E.To.code ?_)
      refine E.C.region ?_
      refine E.op (.int .i64 0) ?_
      refine E.op (.int .i64 1) ?_
      refine E.op (.int .i64 1) ?_
      refine E.To.rounds 3 ?_
      refine E.C.weak [(0, .int .u32 n), (6, .bool false), (7, .bool true), (8, .int .i64 (Q.ck d)), (9, .int .i64 (c % 4)), (11, .pointer (some ⟨c2, 0, none⟩)), (12, .slice (some ⟨g4, 0, none⟩) 3 3), (13, .int .i64 1), (14, .int .u32 ((Q3.encode ((Q3.cst (Q.ck d) n).2)).1)), (47, .int .i64 0), (48, .slice (some ⟨g4, 0, none⟩) 3 3), (49, .int .i64 3), (50, .bool true), (51, .int .i64 0), (52, .int .i64 1), (53, .tuple #[.int .u32 ((Q3.encode ((Q3.cst (Q.ck d) n).2)).1), .int .i64 ((Q3.encode ((Q3.cst (Q.ck d) n).2)).2)]), (54, .slice (some ⟨g4, 0, none⟩) 3 3), (55, .int .i64 0), (56, .pointer (some ⟨g4, 0, none⟩)), (57, .agg #[.int .i64 (((Q3.cst (Q.ck d) n).2).op), .int .i64 (((Q3.cst (Q.ck d) n).2).d), .int .i64 (((Q3.cst (Q.ck d) n).2).a), .int .i64 (((Q3.cst (Q.ck d) n).2).b), .int .u32 (((Q3.cst (Q.ck d) n).2).imm)]), (58, .tuple #[.int .u32 ((Q3.encode ((Q3.cst (Q.ck d) n).2)).1), .int .i64 ((Q3.encode ((Q3.cst (Q.ck d) n).2)).2)]), (59, .int .u32 ((Q3.encode ((Q3.cst (Q.ck d) n).2)).1)), (60, .int .i64 ((Q3.encode ((Q3.cst (Q.ck d) n).2)).2)), (61, .pointer (some ⟨c2, 0, none⟩)), (62, .pointer (some ⟨c2, 0, none⟩)), (63, .pointer (some ⟨c2, 0, none⟩)), (64, .int .i64 0), (65, .int .i64 0), (66, .int .i64 4), (67, .int .u32 4), (68, .int .u32 ((Q3.encode ((Q3.cst (Q.ck d) n).2)).1)), (69, .string (W.put ((Q3.encode ((Q3.cst (Q.ck d) n).2)).1) 4))] [(g4, [.int .i64 (((Q3.cst (Q.ck d) n).2).op), .int .i64 (((Q3.cst (Q.ck d) n).2).d), .int .i64 (((Q3.cst (Q.ck d) n).2).a), .int .i64 (((Q3.cst (Q.ck d) n).2).b), .int .u32 (((Q3.cst (Q.ck d) n).2).imm), .int .i64 54, .int .i64 0, .int .i64 (Q.ck d), .int .i64 0, .int .u32 (c % 4), .int .i64 53, .int .i64 (Q.cy d), .int .i64 0, .int .i64 0, .int .u32 (c % 4)])] ⟨by kernel_rfl, by kernel_rfl⟩ (List.Sublist.refl _) ?_
      refine E.C.seq ?_
      refine E.sr ?_
      refine E.op (.int .i64 1) ?_
      refine E.op (.slice (some ⟨g4, 0, none⟩) 3 3) ?_
      refine E.op (.int .i64 3) ?_
      refine E.op (.bool true) ?_
      refine E.To.code ?_
      refine E.C.condT (by kernel_rfl) (by kernel_rfl) ?_
      refine E.C.skip (E.To.code ?_)
      refine E.C.seq ?_
      refine E.C.block ?_
      refine E.sr ?_
      refine E.op (.slice (some ⟨g4, 0, none⟩) 3 3) ?_
      refine E.op (.int .i64 1) ?_
      refine E.op (.pointer (some ⟨g4, 5, none⟩)) ?_
      refine E.li (.agg #[.int .i64 54, .int .i64 0, .int .i64 (Q.ck d), .int .i64 0, .int .u32 (c % 4)]) 0 rfl rfl ?_
      refine E.G.call (.tuple #[.int .u32 ((Q3.encode (⟨54, 0, (Q.ck d), 0, (c % 4)⟩ : Q.I)).1), .int .i64 ((Q3.encode (⟨54, 0, (Q.ck d), 0, (c % 4)⟩ : Q.I)).2)]) (fun w h => Encode3_any (⟨54, 0, (Q.ck d), 0, (c % 4)⟩ : Q.I) (Q.c4b c) w) (fun w _ => by kernel_rfl) (by kernel_rfl) ?_
      refine E.op (.tuple #[.int .u32 ((Q3.encode (⟨54, 0, (Q.ck d), 0, (c % 4)⟩ : Q.I)).1), .int .i64 ((Q3.encode (⟨54, 0, (Q.ck d), 0, (c % 4)⟩ : Q.I)).2)]) ?_
      refine E.op (.int .u32 ((Q3.encode (⟨54, 0, (Q.ck d), 0, (c % 4)⟩ : Q.I)).1)) ?_
      refine E.op (.int .i64 ((Q3.encode (⟨54, 0, (Q.ck d), 0, (c % 4)⟩ : Q.I)).2)) ?_
      refine E.op (.int .u32 ((Q3.encode (⟨54, 0, (Q.ck d), 0, (c % 4)⟩ : Q.I)).1)) ?_
      refine E.op (.int .i64 ((Q3.encode (⟨54, 0, (Q.ck d), 0, (c % 4)⟩ : Q.I)).2)) ?_
      refine E.To.code ?_
      refine E.C.held (A.Y [A.blk g4 ([.int .i64 (((Q3.cst (Q.ck d) n).2).op), .int .i64 (((Q3.cst (Q.ck d) n).2).d), .int .i64 (((Q3.cst (Q.ck d) n).2).a), .int .i64 (((Q3.cst (Q.ck d) n).2).b), .int .u32 (((Q3.cst (Q.ck d) n).2).imm), .int .i64 54, .int .i64 0, .int .i64 (Q.ck d), .int .i64 0, .int .u32 (c % 4), .int .i64 53, .int .i64 (Q.cy d), .int .i64 0, .int .i64 0, .int .u32 (c % 4)])]) (by kernel_rfl) ?_
      refine E.H.take 0 (.pointer (some ⟨c2, 0, none⟩)) rfl (by kernel_rfl) (by kernel_rfl) (by kernel_rfl) (fun _ _ _ h => h) (fun w h => A.hpY (p := [A.blk g4 ([.int .i64 (((Q3.cst (Q.ck d) n).2).op), .int .i64 (((Q3.cst (Q.ck d) n).2).d), .int .i64 (((Q3.cst (Q.ck d) n).2).a), .int .i64 (((Q3.cst (Q.ck d) n).2).b), .int .u32 (((Q3.cst (Q.ck d) n).2).imm), .int .i64 54, .int .i64 0, .int .i64 (Q.ck d), .int .i64 0, .int .u32 (c % 4), .int .i64 53, .int .i64 (Q.cy d), .int .i64 0, .int .i64 0, .int .u32 (c % 4)])]) (r := [M.It c2 (Q.coV1 n d) (Q.S.cells Q.cos)]) h (by kernel_rfl) (A.pm [0, 1] (by kernel_rfl) (by kernel_rfl))) (.inl ⟨by kernel_rfl, by kernel_rfl, fun w h => by kernel_rfl⟩) (by kernel_rfl) ?_
      refine E.H.take 1 (.pointer (some ⟨c2, 0, none⟩)) rfl (by kernel_rfl) (by kernel_rfl) (by kernel_rfl) (fun _ _ _ h => h) (fun w h => A.hpY (p := [A.blk g4 ([.int .i64 (((Q3.cst (Q.ck d) n).2).op), .int .i64 (((Q3.cst (Q.ck d) n).2).d), .int .i64 (((Q3.cst (Q.ck d) n).2).a), .int .i64 (((Q3.cst (Q.ck d) n).2).b), .int .u32 (((Q3.cst (Q.ck d) n).2).imm), .int .i64 54, .int .i64 0, .int .i64 (Q.ck d), .int .i64 0, .int .u32 (c % 4), .int .i64 53, .int .i64 (Q.cy d), .int .i64 0, .int .i64 0, .int .u32 (c % 4)])]) (r := [M.It c2 (Q.coV1 n d) (Q.S.cells Q.cos)]) h (by kernel_rfl) (A.pm [0, 1] (by kernel_rfl) (by kernel_rfl))) (.inl ⟨by kernel_rfl, by kernel_rfl, fun w h => by kernel_rfl⟩) (by kernel_rfl) ?_
      refine E.H.take 2 (.pointer (some ⟨c2, 0, none⟩)) rfl (by kernel_rfl) (by kernel_rfl) (by kernel_rfl) (fun _ _ _ h => h) (fun w h => A.hpY (p := [A.blk g4 ([.int .i64 (((Q3.cst (Q.ck d) n).2).op), .int .i64 (((Q3.cst (Q.ck d) n).2).d), .int .i64 (((Q3.cst (Q.ck d) n).2).a), .int .i64 (((Q3.cst (Q.ck d) n).2).b), .int .u32 (((Q3.cst (Q.ck d) n).2).imm), .int .i64 54, .int .i64 0, .int .i64 (Q.ck d), .int .i64 0, .int .u32 (c % 4), .int .i64 53, .int .i64 (Q.cy d), .int .i64 0, .int .i64 0, .int .u32 (c % 4)])]) (r := [M.It c2 (Q.coV1 n d) (Q.S.cells Q.cos)]) h (by kernel_rfl) (A.pm [0, 1] (by kernel_rfl) (by kernel_rfl))) (.inl ⟨by kernel_rfl, by kernel_rfl, fun w h => by kernel_rfl⟩) (by kernel_rfl) ?_
      refine E.H.take 3 (.int .i64 1) rfl (by kernel_rfl) (by kernel_rfl) (by kernel_rfl) (fun _ _ _ h => h) (fun w h => A.hpY (p := [A.blk g4 ([.int .i64 (((Q3.cst (Q.ck d) n).2).op), .int .i64 (((Q3.cst (Q.ck d) n).2).d), .int .i64 (((Q3.cst (Q.ck d) n).2).a), .int .i64 (((Q3.cst (Q.ck d) n).2).b), .int .u32 (((Q3.cst (Q.ck d) n).2).imm), .int .i64 54, .int .i64 0, .int .i64 (Q.ck d), .int .i64 0, .int .u32 (c % 4), .int .i64 53, .int .i64 (Q.cy d), .int .i64 0, .int .i64 0, .int .u32 (c % 4)])]) (r := [M.It c2 (Q.coV1 n d) (Q.S.cells Q.cos)]) h (by kernel_rfl) (A.pm [0, 1] (by kernel_rfl) (by kernel_rfl))) (.inl ⟨by kernel_rfl, by kernel_rfl, fun w h => by kernel_rfl⟩) (by kernel_rfl) ?_
      refine E.H.take 4 (.int .i64 4) rfl (by kernel_rfl) (by kernel_rfl) (by kernel_rfl) (fun _ _ _ h => h) (fun w h => A.hpY (p := [A.blk g4 ([.int .i64 (((Q3.cst (Q.ck d) n).2).op), .int .i64 (((Q3.cst (Q.ck d) n).2).d), .int .i64 (((Q3.cst (Q.ck d) n).2).a), .int .i64 (((Q3.cst (Q.ck d) n).2).b), .int .u32 (((Q3.cst (Q.ck d) n).2).imm), .int .i64 54, .int .i64 0, .int .i64 (Q.ck d), .int .i64 0, .int .u32 (c % 4), .int .i64 53, .int .i64 (Q.cy d), .int .i64 0, .int .i64 0, .int .u32 (c % 4)])]) (r := [M.It c2 (Q.coV1 n d) (Q.S.cells Q.cos)]) h (by kernel_rfl) (A.pm [0, 1] (by kernel_rfl) (by kernel_rfl))) (.inl ⟨by kernel_rfl, by kernel_rfl, fun w h => by kernel_rfl⟩) (by kernel_rfl) ?_
      refine E.H.take 5 (.int .i64 8) rfl (by kernel_rfl) (by kernel_rfl) (by kernel_rfl) (fun _ _ _ h => h) (fun w h => A.hpY (p := [A.blk g4 ([.int .i64 (((Q3.cst (Q.ck d) n).2).op), .int .i64 (((Q3.cst (Q.ck d) n).2).d), .int .i64 (((Q3.cst (Q.ck d) n).2).a), .int .i64 (((Q3.cst (Q.ck d) n).2).b), .int .u32 (((Q3.cst (Q.ck d) n).2).imm), .int .i64 54, .int .i64 0, .int .i64 (Q.ck d), .int .i64 0, .int .u32 (c % 4), .int .i64 53, .int .i64 (Q.cy d), .int .i64 0, .int .i64 0, .int .u32 (c % 4)])]) (r := [M.It c2 (Q.coV1 n d) (Q.S.cells Q.cos)]) h (by kernel_rfl) (A.pm [0, 1] (by kernel_rfl) (by kernel_rfl))) (.inl ⟨by kernel_rfl, by kernel_rfl, fun w h => by kernel_rfl⟩) (by kernel_rfl) ?_
      refine E.H.take 6 (.int .u32 8) rfl (by kernel_rfl) (by kernel_rfl) (by kernel_rfl) (fun _ _ _ h => h) (fun w h => A.hpY (p := [A.blk g4 ([.int .i64 (((Q3.cst (Q.ck d) n).2).op), .int .i64 (((Q3.cst (Q.ck d) n).2).d), .int .i64 (((Q3.cst (Q.ck d) n).2).a), .int .i64 (((Q3.cst (Q.ck d) n).2).b), .int .u32 (((Q3.cst (Q.ck d) n).2).imm), .int .i64 54, .int .i64 0, .int .i64 (Q.ck d), .int .i64 0, .int .u32 (c % 4), .int .i64 53, .int .i64 (Q.cy d), .int .i64 0, .int .i64 0, .int .u32 (c % 4)])]) (r := [M.It c2 (Q.coV1 n d) (Q.S.cells Q.cos)]) h (by kernel_rfl) (A.pm [0, 1] (by kernel_rfl) (by kernel_rfl))) (.inl ⟨by kernel_rfl, by kernel_rfl, fun w h => by kernel_rfl⟩) (by kernel_rfl) ?_
      refine E.H.take 7 (.int .u32 ((Q3.encode (⟨54, 0, (Q.ck d), 0, (c % 4)⟩ : Q.I)).1)) rfl (by kernel_rfl) (by kernel_rfl) (by kernel_rfl) (fun _ _ _ h => h) (fun w h => A.hpY (p := [A.blk g4 ([.int .i64 (((Q3.cst (Q.ck d) n).2).op), .int .i64 (((Q3.cst (Q.ck d) n).2).d), .int .i64 (((Q3.cst (Q.ck d) n).2).a), .int .i64 (((Q3.cst (Q.ck d) n).2).b), .int .u32 (((Q3.cst (Q.ck d) n).2).imm), .int .i64 54, .int .i64 0, .int .i64 (Q.ck d), .int .i64 0, .int .u32 (c % 4), .int .i64 53, .int .i64 (Q.cy d), .int .i64 0, .int .i64 0, .int .u32 (c % 4)])]) (r := [M.It c2 (Q.coV1 n d) (Q.S.cells Q.cos)]) h (by kernel_rfl) (A.pm [0, 1] (by kernel_rfl) (by kernel_rfl))) (.inl ⟨by kernel_rfl, by kernel_rfl, fun w h => by kernel_rfl⟩) (by kernel_rfl) ?_
      refine E.H.all [8] (by kernel_rfl) (by simp) (List.forall_mem_cons.2 ⟨⟨_, rfl, ?_⟩, fun _ h => (List.not_mem_nil h).elim⟩)
      · skip
        refine E.G.call (.string (W.put ((Q3.encode (⟨54, 0, (Q.ck d), 0, (c % 4)⟩ : Q.I)).1) 4)) (fun w h => rPut_all ((Q3.encode (⟨54, 0, (Q.ck d), 0, (c % 4)⟩ : Q.I)).1) 4 (Q3.enc_bd _) (by omega) w) (fun w _ => by kernel_rfl) (by kernel_rfl) ?_
        refine E.H.back (fun w h => A.hpY (p := [A.blk g4 ([.int .i64 (((Q3.cst (Q.ck d) n).2).op), .int .i64 (((Q3.cst (Q.ck d) n).2).d), .int .i64 (((Q3.cst (Q.ck d) n).2).a), .int .i64 (((Q3.cst (Q.ck d) n).2).b), .int .u32 (((Q3.cst (Q.ck d) n).2).imm), .int .i64 54, .int .i64 0, .int .i64 (Q.ck d), .int .i64 0, .int .u32 (c % 4), .int .i64 53, .int .i64 (Q.cy d), .int .i64 0, .int .i64 0, .int .u32 (c % 4)])]) (r := [M.It c2 (Q.coV1 n d) (Q.S.cells Q.cos)]) h (by kernel_rfl) (A.pm [0, 1] (by kernel_rfl) (by kernel_rfl))) ?_
        refine E.H.all [9] (by kernel_rfl) (by simp) (List.forall_mem_cons.2 ⟨⟨_, rfl, ?_⟩, fun _ h => (List.not_mem_nil h).elim⟩)
        · skip
          refine A.G.call (I := Unit) (D := fun _ => True) (V := fun _ => .tuple #[]) (q := fun _ => [M.It c2 (Q.coV2 n d c) (Q.S.cells Q.cos)]) [A.blk g4 ([.int .i64 (((Q3.cst (Q.ck d) n).2).op), .int .i64 (((Q3.cst (Q.ck d) n).2).d), .int .i64 (((Q3.cst (Q.ck d) n).2).a), .int .i64 (((Q3.cst (Q.ck d) n).2).b), .int .u32 (((Q3.cst (Q.ck d) n).2).imm), .int .i64 54, .int .i64 0, .int .i64 (Q.ck d), .int .i64 0, .int .u32 (c % 4), .int .i64 53, .int .i64 (Q.cy d), .int .i64 0, .int .i64 0, .int .u32 (c % 4)])] (fun _ => [(g4, [.int .i64 (((Q3.cst (Q.ck d) n).2).op), .int .i64 (((Q3.cst (Q.ck d) n).2).d), .int .i64 (((Q3.cst (Q.ck d) n).2).a), .int .i64 (((Q3.cst (Q.ck d) n).2).b), .int .u32 (((Q3.cst (Q.ck d) n).2).imm), .int .i64 54, .int .i64 0, .int .i64 (Q.ck d), .int .i64 0, .int .u32 (c % 4), .int .i64 53, .int .i64 (Q.cy d), .int .i64 0, .int .i64 0, .int .u32 (c % 4)])]) (fun _ => [M.It c2 (Q.coV2 n d c) (Q.S.cells Q.cos)]) (I_Poke 8 (W.put ((Q3.encode (⟨54, 0, (Q.ck d), 0, (c % 4)⟩ : Q.I)).1) 4) (by decide) (by rw [Q.put_size]; decide) (m := c2) (V := (Q.coV1 n d)) (xs := (Q.S.cells Q.cos))) (by kernel_rfl) (A.pm [1, 0] (by kernel_rfl) (by kernel_rfl)) (fun _ => A.pm [1, 0] (by kernel_rfl) (by kernel_rfl)) (fun w _ => by kernel_rfl) (by kernel_rfl) (fun _ hd6 => ?_)
          refine E.H.back (fun w h => A.hpY (p := [A.blk g4 ([.int .i64 (((Q3.cst (Q.ck d) n).2).op), .int .i64 (((Q3.cst (Q.ck d) n).2).d), .int .i64 (((Q3.cst (Q.ck d) n).2).a), .int .i64 (((Q3.cst (Q.ck d) n).2).b), .int .u32 (((Q3.cst (Q.ck d) n).2).imm), .int .i64 54, .int .i64 0, .int .i64 (Q.ck d), .int .i64 0, .int .u32 (c % 4), .int .i64 53, .int .i64 (Q.cy d), .int .i64 0, .int .i64 0, .int .u32 (c % 4)])]) (r := [M.It c2 (Q.coV2 n d c) (Q.S.cells Q.cos)]) h (by kernel_rfl) (A.pm [0, 1] (by kernel_rfl) (by kernel_rfl))) ?_
          refine E.H.done (by kernel_rfl) ?_
          refine E.P.nb (E.To.code ?_)
          refine E.C.region ?_
          refine E.op (.int .i64 1) ?_
          refine E.op (.int .i64 2) ?_
          refine E.op (.int .i64 2) ?_
          refine E.To.rounds 2 ?_
          refine E.C.weak [(0, .int .u32 n), (6, .bool false), (7, .bool true), (8, .int .i64 (Q.ck d)), (9, .int .i64 (c % 4)), (11, .pointer (some ⟨c2, 0, none⟩)), (12, .slice (some ⟨g4, 0, none⟩) 3 3), (13, .int .i64 2), (14, .int .u32 ((Q3.encode (⟨54, 0, (Q.ck d), 0, (c % 4)⟩ : Q.I)).1)), (47, .int .i64 1), (48, .slice (some ⟨g4, 0, none⟩) 3 3), (49, .int .i64 3), (50, .bool true), (51, .int .i64 1), (52, .int .i64 2), (53, .tuple #[.int .u32 ((Q3.encode (⟨54, 0, (Q.ck d), 0, (c % 4)⟩ : Q.I)).1), .int .i64 ((Q3.encode (⟨54, 0, (Q.ck d), 0, (c % 4)⟩ : Q.I)).2)]), (54, .slice (some ⟨g4, 0, none⟩) 3 3), (55, .int .i64 1), (56, .pointer (some ⟨g4, 5, none⟩)), (57, .agg #[.int .i64 54, .int .i64 0, .int .i64 (Q.ck d), .int .i64 0, .int .u32 (c % 4)]), (58, .tuple #[.int .u32 ((Q3.encode (⟨54, 0, (Q.ck d), 0, (c % 4)⟩ : Q.I)).1), .int .i64 ((Q3.encode (⟨54, 0, (Q.ck d), 0, (c % 4)⟩ : Q.I)).2)]), (59, .int .u32 ((Q3.encode (⟨54, 0, (Q.ck d), 0, (c % 4)⟩ : Q.I)).1)), (60, .int .i64 ((Q3.encode (⟨54, 0, (Q.ck d), 0, (c % 4)⟩ : Q.I)).2)), (61, .pointer (some ⟨c2, 0, none⟩)), (62, .pointer (some ⟨c2, 0, none⟩)), (63, .pointer (some ⟨c2, 0, none⟩)), (64, .int .i64 1), (65, .int .i64 4), (66, .int .i64 8), (67, .int .u32 8), (68, .int .u32 ((Q3.encode (⟨54, 0, (Q.ck d), 0, (c % 4)⟩ : Q.I)).1)), (69, .string (W.put ((Q3.encode (⟨54, 0, (Q.ck d), 0, (c % 4)⟩ : Q.I)).1) 4))] [(g4, [.int .i64 (((Q3.cst (Q.ck d) n).2).op), .int .i64 (((Q3.cst (Q.ck d) n).2).d), .int .i64 (((Q3.cst (Q.ck d) n).2).a), .int .i64 (((Q3.cst (Q.ck d) n).2).b), .int .u32 (((Q3.cst (Q.ck d) n).2).imm), .int .i64 54, .int .i64 0, .int .i64 (Q.ck d), .int .i64 0, .int .u32 (c % 4), .int .i64 53, .int .i64 (Q.cy d), .int .i64 0, .int .i64 0, .int .u32 (c % 4)])] ⟨by kernel_rfl, by kernel_rfl⟩ (List.Sublist.refl _) ?_
          refine E.C.seq ?_
          refine E.sr ?_
          refine E.op (.int .i64 2) ?_
          refine E.op (.slice (some ⟨g4, 0, none⟩) 3 3) ?_
          refine E.op (.int .i64 3) ?_
          refine E.op (.bool true) ?_
          refine E.To.code ?_
          refine E.C.condT (by kernel_rfl) (by kernel_rfl) ?_
          refine E.C.skip (E.To.code ?_)
          refine E.C.seq ?_
          refine E.C.block ?_
          refine E.sr ?_
          refine E.op (.slice (some ⟨g4, 0, none⟩) 3 3) ?_
          refine E.op (.int .i64 2) ?_
          refine E.op (.pointer (some ⟨g4, 10, none⟩)) ?_
          refine E.li (.agg #[.int .i64 53, .int .i64 (Q.cy d), .int .i64 0, .int .i64 0, .int .u32 (c % 4)]) 0 rfl rfl ?_
          refine E.G.call (.tuple #[.int .u32 ((Q3.encode (⟨53, (Q.cy d), 0, 0, (c % 4)⟩ : Q.I)).1), .int .i64 ((Q3.encode (⟨53, (Q.cy d), 0, 0, (c % 4)⟩ : Q.I)).2)]) (fun w h => Encode3_any (⟨53, (Q.cy d), 0, 0, (c % 4)⟩ : Q.I) (Q.c4b c) w) (fun w _ => by kernel_rfl) (by kernel_rfl) ?_
          refine E.op (.tuple #[.int .u32 ((Q3.encode (⟨53, (Q.cy d), 0, 0, (c % 4)⟩ : Q.I)).1), .int .i64 ((Q3.encode (⟨53, (Q.cy d), 0, 0, (c % 4)⟩ : Q.I)).2)]) ?_
          refine E.op (.int .u32 ((Q3.encode (⟨53, (Q.cy d), 0, 0, (c % 4)⟩ : Q.I)).1)) ?_
          refine E.op (.int .i64 ((Q3.encode (⟨53, (Q.cy d), 0, 0, (c % 4)⟩ : Q.I)).2)) ?_
          refine E.op (.int .u32 ((Q3.encode (⟨53, (Q.cy d), 0, 0, (c % 4)⟩ : Q.I)).1)) ?_
          refine E.op (.int .i64 ((Q3.encode (⟨53, (Q.cy d), 0, 0, (c % 4)⟩ : Q.I)).2)) ?_
          refine E.To.code ?_
          refine E.C.held (A.Y [A.blk g4 ([.int .i64 (((Q3.cst (Q.ck d) n).2).op), .int .i64 (((Q3.cst (Q.ck d) n).2).d), .int .i64 (((Q3.cst (Q.ck d) n).2).a), .int .i64 (((Q3.cst (Q.ck d) n).2).b), .int .u32 (((Q3.cst (Q.ck d) n).2).imm), .int .i64 54, .int .i64 0, .int .i64 (Q.ck d), .int .i64 0, .int .u32 (c % 4), .int .i64 53, .int .i64 (Q.cy d), .int .i64 0, .int .i64 0, .int .u32 (c % 4)])]) (by kernel_rfl) ?_
          refine E.H.take 0 (.pointer (some ⟨c2, 0, none⟩)) rfl (by kernel_rfl) (by kernel_rfl) (by kernel_rfl) (fun _ _ _ h => h) (fun w h => A.hpY (p := [A.blk g4 ([.int .i64 (((Q3.cst (Q.ck d) n).2).op), .int .i64 (((Q3.cst (Q.ck d) n).2).d), .int .i64 (((Q3.cst (Q.ck d) n).2).a), .int .i64 (((Q3.cst (Q.ck d) n).2).b), .int .u32 (((Q3.cst (Q.ck d) n).2).imm), .int .i64 54, .int .i64 0, .int .i64 (Q.ck d), .int .i64 0, .int .u32 (c % 4), .int .i64 53, .int .i64 (Q.cy d), .int .i64 0, .int .i64 0, .int .u32 (c % 4)])]) (r := [M.It c2 (Q.coV2 n d c) (Q.S.cells Q.cos)]) h (by kernel_rfl) (A.pm [0, 1] (by kernel_rfl) (by kernel_rfl))) (.inl ⟨by kernel_rfl, by kernel_rfl, fun w h => by kernel_rfl⟩) (by kernel_rfl) ?_
          refine E.H.take 1 (.pointer (some ⟨c2, 0, none⟩)) rfl (by kernel_rfl) (by kernel_rfl) (by kernel_rfl) (fun _ _ _ h => h) (fun w h => A.hpY (p := [A.blk g4 ([.int .i64 (((Q3.cst (Q.ck d) n).2).op), .int .i64 (((Q3.cst (Q.ck d) n).2).d), .int .i64 (((Q3.cst (Q.ck d) n).2).a), .int .i64 (((Q3.cst (Q.ck d) n).2).b), .int .u32 (((Q3.cst (Q.ck d) n).2).imm), .int .i64 54, .int .i64 0, .int .i64 (Q.ck d), .int .i64 0, .int .u32 (c % 4), .int .i64 53, .int .i64 (Q.cy d), .int .i64 0, .int .i64 0, .int .u32 (c % 4)])]) (r := [M.It c2 (Q.coV2 n d c) (Q.S.cells Q.cos)]) h (by kernel_rfl) (A.pm [0, 1] (by kernel_rfl) (by kernel_rfl))) (.inl ⟨by kernel_rfl, by kernel_rfl, fun w h => by kernel_rfl⟩) (by kernel_rfl) ?_
          refine E.H.take 2 (.pointer (some ⟨c2, 0, none⟩)) rfl (by kernel_rfl) (by kernel_rfl) (by kernel_rfl) (fun _ _ _ h => h) (fun w h => A.hpY (p := [A.blk g4 ([.int .i64 (((Q3.cst (Q.ck d) n).2).op), .int .i64 (((Q3.cst (Q.ck d) n).2).d), .int .i64 (((Q3.cst (Q.ck d) n).2).a), .int .i64 (((Q3.cst (Q.ck d) n).2).b), .int .u32 (((Q3.cst (Q.ck d) n).2).imm), .int .i64 54, .int .i64 0, .int .i64 (Q.ck d), .int .i64 0, .int .u32 (c % 4), .int .i64 53, .int .i64 (Q.cy d), .int .i64 0, .int .i64 0, .int .u32 (c % 4)])]) (r := [M.It c2 (Q.coV2 n d c) (Q.S.cells Q.cos)]) h (by kernel_rfl) (A.pm [0, 1] (by kernel_rfl) (by kernel_rfl))) (.inl ⟨by kernel_rfl, by kernel_rfl, fun w h => by kernel_rfl⟩) (by kernel_rfl) ?_
          refine E.H.take 3 (.int .i64 2) rfl (by kernel_rfl) (by kernel_rfl) (by kernel_rfl) (fun _ _ _ h => h) (fun w h => A.hpY (p := [A.blk g4 ([.int .i64 (((Q3.cst (Q.ck d) n).2).op), .int .i64 (((Q3.cst (Q.ck d) n).2).d), .int .i64 (((Q3.cst (Q.ck d) n).2).a), .int .i64 (((Q3.cst (Q.ck d) n).2).b), .int .u32 (((Q3.cst (Q.ck d) n).2).imm), .int .i64 54, .int .i64 0, .int .i64 (Q.ck d), .int .i64 0, .int .u32 (c % 4), .int .i64 53, .int .i64 (Q.cy d), .int .i64 0, .int .i64 0, .int .u32 (c % 4)])]) (r := [M.It c2 (Q.coV2 n d c) (Q.S.cells Q.cos)]) h (by kernel_rfl) (A.pm [0, 1] (by kernel_rfl) (by kernel_rfl))) (.inl ⟨by kernel_rfl, by kernel_rfl, fun w h => by kernel_rfl⟩) (by kernel_rfl) ?_
          refine E.H.take 4 (.int .i64 8) rfl (by kernel_rfl) (by kernel_rfl) (by kernel_rfl) (fun _ _ _ h => h) (fun w h => A.hpY (p := [A.blk g4 ([.int .i64 (((Q3.cst (Q.ck d) n).2).op), .int .i64 (((Q3.cst (Q.ck d) n).2).d), .int .i64 (((Q3.cst (Q.ck d) n).2).a), .int .i64 (((Q3.cst (Q.ck d) n).2).b), .int .u32 (((Q3.cst (Q.ck d) n).2).imm), .int .i64 54, .int .i64 0, .int .i64 (Q.ck d), .int .i64 0, .int .u32 (c % 4), .int .i64 53, .int .i64 (Q.cy d), .int .i64 0, .int .i64 0, .int .u32 (c % 4)])]) (r := [M.It c2 (Q.coV2 n d c) (Q.S.cells Q.cos)]) h (by kernel_rfl) (A.pm [0, 1] (by kernel_rfl) (by kernel_rfl))) (.inl ⟨by kernel_rfl, by kernel_rfl, fun w h => by kernel_rfl⟩) (by kernel_rfl) ?_
          refine E.H.take 5 (.int .i64 12) rfl (by kernel_rfl) (by kernel_rfl) (by kernel_rfl) (fun _ _ _ h => h) (fun w h => A.hpY (p := [A.blk g4 ([.int .i64 (((Q3.cst (Q.ck d) n).2).op), .int .i64 (((Q3.cst (Q.ck d) n).2).d), .int .i64 (((Q3.cst (Q.ck d) n).2).a), .int .i64 (((Q3.cst (Q.ck d) n).2).b), .int .u32 (((Q3.cst (Q.ck d) n).2).imm), .int .i64 54, .int .i64 0, .int .i64 (Q.ck d), .int .i64 0, .int .u32 (c % 4), .int .i64 53, .int .i64 (Q.cy d), .int .i64 0, .int .i64 0, .int .u32 (c % 4)])]) (r := [M.It c2 (Q.coV2 n d c) (Q.S.cells Q.cos)]) h (by kernel_rfl) (A.pm [0, 1] (by kernel_rfl) (by kernel_rfl))) (.inl ⟨by kernel_rfl, by kernel_rfl, fun w h => by kernel_rfl⟩) (by kernel_rfl) ?_
          refine E.H.take 6 (.int .u32 12) rfl (by kernel_rfl) (by kernel_rfl) (by kernel_rfl) (fun _ _ _ h => h) (fun w h => A.hpY (p := [A.blk g4 ([.int .i64 (((Q3.cst (Q.ck d) n).2).op), .int .i64 (((Q3.cst (Q.ck d) n).2).d), .int .i64 (((Q3.cst (Q.ck d) n).2).a), .int .i64 (((Q3.cst (Q.ck d) n).2).b), .int .u32 (((Q3.cst (Q.ck d) n).2).imm), .int .i64 54, .int .i64 0, .int .i64 (Q.ck d), .int .i64 0, .int .u32 (c % 4), .int .i64 53, .int .i64 (Q.cy d), .int .i64 0, .int .i64 0, .int .u32 (c % 4)])]) (r := [M.It c2 (Q.coV2 n d c) (Q.S.cells Q.cos)]) h (by kernel_rfl) (A.pm [0, 1] (by kernel_rfl) (by kernel_rfl))) (.inl ⟨by kernel_rfl, by kernel_rfl, fun w h => by kernel_rfl⟩) (by kernel_rfl) ?_
          refine E.H.take 7 (.int .u32 ((Q3.encode (⟨53, (Q.cy d), 0, 0, (c % 4)⟩ : Q.I)).1)) rfl (by kernel_rfl) (by kernel_rfl) (by kernel_rfl) (fun _ _ _ h => h) (fun w h => A.hpY (p := [A.blk g4 ([.int .i64 (((Q3.cst (Q.ck d) n).2).op), .int .i64 (((Q3.cst (Q.ck d) n).2).d), .int .i64 (((Q3.cst (Q.ck d) n).2).a), .int .i64 (((Q3.cst (Q.ck d) n).2).b), .int .u32 (((Q3.cst (Q.ck d) n).2).imm), .int .i64 54, .int .i64 0, .int .i64 (Q.ck d), .int .i64 0, .int .u32 (c % 4), .int .i64 53, .int .i64 (Q.cy d), .int .i64 0, .int .i64 0, .int .u32 (c % 4)])]) (r := [M.It c2 (Q.coV2 n d c) (Q.S.cells Q.cos)]) h (by kernel_rfl) (A.pm [0, 1] (by kernel_rfl) (by kernel_rfl))) (.inl ⟨by kernel_rfl, by kernel_rfl, fun w h => by kernel_rfl⟩) (by kernel_rfl) ?_
          refine E.H.all [8] (by kernel_rfl) (by simp) (List.forall_mem_cons.2 ⟨⟨_, rfl, ?_⟩, fun _ h => (List.not_mem_nil h).elim⟩)
          · skip
            refine E.G.call (.string (W.put ((Q3.encode (⟨53, (Q.cy d), 0, 0, (c % 4)⟩ : Q.I)).1) 4)) (fun w h => rPut_all ((Q3.encode (⟨53, (Q.cy d), 0, 0, (c % 4)⟩ : Q.I)).1) 4 (Q3.enc_bd _) (by omega) w) (fun w _ => by kernel_rfl) (by kernel_rfl) ?_
            refine E.H.back (fun w h => A.hpY (p := [A.blk g4 ([.int .i64 (((Q3.cst (Q.ck d) n).2).op), .int .i64 (((Q3.cst (Q.ck d) n).2).d), .int .i64 (((Q3.cst (Q.ck d) n).2).a), .int .i64 (((Q3.cst (Q.ck d) n).2).b), .int .u32 (((Q3.cst (Q.ck d) n).2).imm), .int .i64 54, .int .i64 0, .int .i64 (Q.ck d), .int .i64 0, .int .u32 (c % 4), .int .i64 53, .int .i64 (Q.cy d), .int .i64 0, .int .i64 0, .int .u32 (c % 4)])]) (r := [M.It c2 (Q.coV2 n d c) (Q.S.cells Q.cos)]) h (by kernel_rfl) (A.pm [0, 1] (by kernel_rfl) (by kernel_rfl))) ?_
            refine E.H.all [9] (by kernel_rfl) (by simp) (List.forall_mem_cons.2 ⟨⟨_, rfl, ?_⟩, fun _ h => (List.not_mem_nil h).elim⟩)
            · skip
              refine A.G.call (I := Unit) (D := fun _ => True) (V := fun _ => .tuple #[]) (q := fun _ => [M.It c2 (Q.coV3 n d c) (Q.S.cells Q.cos)]) [A.blk g4 ([.int .i64 (((Q3.cst (Q.ck d) n).2).op), .int .i64 (((Q3.cst (Q.ck d) n).2).d), .int .i64 (((Q3.cst (Q.ck d) n).2).a), .int .i64 (((Q3.cst (Q.ck d) n).2).b), .int .u32 (((Q3.cst (Q.ck d) n).2).imm), .int .i64 54, .int .i64 0, .int .i64 (Q.ck d), .int .i64 0, .int .u32 (c % 4), .int .i64 53, .int .i64 (Q.cy d), .int .i64 0, .int .i64 0, .int .u32 (c % 4)])] (fun _ => [(g4, [.int .i64 (((Q3.cst (Q.ck d) n).2).op), .int .i64 (((Q3.cst (Q.ck d) n).2).d), .int .i64 (((Q3.cst (Q.ck d) n).2).a), .int .i64 (((Q3.cst (Q.ck d) n).2).b), .int .u32 (((Q3.cst (Q.ck d) n).2).imm), .int .i64 54, .int .i64 0, .int .i64 (Q.ck d), .int .i64 0, .int .u32 (c % 4), .int .i64 53, .int .i64 (Q.cy d), .int .i64 0, .int .i64 0, .int .u32 (c % 4)])]) (fun _ => [M.It c2 (Q.coV3 n d c) (Q.S.cells Q.cos)]) (I_Poke 12 (W.put ((Q3.encode (⟨53, (Q.cy d), 0, 0, (c % 4)⟩ : Q.I)).1) 4) (by decide) (by rw [Q.put_size]; decide) (m := c2) (V := (Q.coV2 n d c)) (xs := (Q.S.cells Q.cos))) (by kernel_rfl) (A.pm [1, 0] (by kernel_rfl) (by kernel_rfl)) (fun _ => A.pm [1, 0] (by kernel_rfl) (by kernel_rfl)) (fun w _ => by kernel_rfl) (by kernel_rfl) (fun _ hd7 => ?_)
              refine E.H.back (fun w h => A.hpY (p := [A.blk g4 ([.int .i64 (((Q3.cst (Q.ck d) n).2).op), .int .i64 (((Q3.cst (Q.ck d) n).2).d), .int .i64 (((Q3.cst (Q.ck d) n).2).a), .int .i64 (((Q3.cst (Q.ck d) n).2).b), .int .u32 (((Q3.cst (Q.ck d) n).2).imm), .int .i64 54, .int .i64 0, .int .i64 (Q.ck d), .int .i64 0, .int .u32 (c % 4), .int .i64 53, .int .i64 (Q.cy d), .int .i64 0, .int .i64 0, .int .u32 (c % 4)])]) (r := [M.It c2 (Q.coV3 n d c) (Q.S.cells Q.cos)]) h (by kernel_rfl) (A.pm [0, 1] (by kernel_rfl) (by kernel_rfl))) ?_
              refine E.H.done (by kernel_rfl) ?_
              refine E.P.nb (E.To.code ?_)
              refine E.C.region ?_
              refine E.op (.int .i64 2) ?_
              refine E.op (.int .i64 3) ?_
              refine E.op (.int .i64 3) ?_
              refine E.To.rounds 1 ?_
              refine E.C.weak [(0, .int .u32 n), (6, .bool false), (7, .bool true), (8, .int .i64 (Q.ck d)), (9, .int .i64 (c % 4)), (11, .pointer (some ⟨c2, 0, none⟩)), (12, .slice (some ⟨g4, 0, none⟩) 3 3), (13, .int .i64 3), (14, .int .u32 ((Q3.encode (⟨53, (Q.cy d), 0, 0, (c % 4)⟩ : Q.I)).1)), (47, .int .i64 2), (48, .slice (some ⟨g4, 0, none⟩) 3 3), (49, .int .i64 3), (50, .bool true), (51, .int .i64 2), (52, .int .i64 3), (53, .tuple #[.int .u32 ((Q3.encode (⟨53, (Q.cy d), 0, 0, (c % 4)⟩ : Q.I)).1), .int .i64 ((Q3.encode (⟨53, (Q.cy d), 0, 0, (c % 4)⟩ : Q.I)).2)]), (54, .slice (some ⟨g4, 0, none⟩) 3 3), (55, .int .i64 2), (56, .pointer (some ⟨g4, 10, none⟩)), (57, .agg #[.int .i64 53, .int .i64 (Q.cy d), .int .i64 0, .int .i64 0, .int .u32 (c % 4)]), (58, .tuple #[.int .u32 ((Q3.encode (⟨53, (Q.cy d), 0, 0, (c % 4)⟩ : Q.I)).1), .int .i64 ((Q3.encode (⟨53, (Q.cy d), 0, 0, (c % 4)⟩ : Q.I)).2)]), (59, .int .u32 ((Q3.encode (⟨53, (Q.cy d), 0, 0, (c % 4)⟩ : Q.I)).1)), (60, .int .i64 ((Q3.encode (⟨53, (Q.cy d), 0, 0, (c % 4)⟩ : Q.I)).2)), (61, .pointer (some ⟨c2, 0, none⟩)), (62, .pointer (some ⟨c2, 0, none⟩)), (63, .pointer (some ⟨c2, 0, none⟩)), (64, .int .i64 2), (65, .int .i64 8), (66, .int .i64 12), (67, .int .u32 12), (68, .int .u32 ((Q3.encode (⟨53, (Q.cy d), 0, 0, (c % 4)⟩ : Q.I)).1)), (69, .string (W.put ((Q3.encode (⟨53, (Q.cy d), 0, 0, (c % 4)⟩ : Q.I)).1) 4))] [(g4, [.int .i64 (((Q3.cst (Q.ck d) n).2).op), .int .i64 (((Q3.cst (Q.ck d) n).2).d), .int .i64 (((Q3.cst (Q.ck d) n).2).a), .int .i64 (((Q3.cst (Q.ck d) n).2).b), .int .u32 (((Q3.cst (Q.ck d) n).2).imm), .int .i64 54, .int .i64 0, .int .i64 (Q.ck d), .int .i64 0, .int .u32 (c % 4), .int .i64 53, .int .i64 (Q.cy d), .int .i64 0, .int .i64 0, .int .u32 (c % 4)])] ⟨by kernel_rfl, by kernel_rfl⟩ (List.Sublist.refl _) ?_
              refine E.C.seq ?_
              refine E.sr ?_
              refine E.op (.int .i64 3) ?_
              refine E.op (.slice (some ⟨g4, 0, none⟩) 3 3) ?_
              refine E.op (.int .i64 3) ?_
              refine E.op (.bool false) ?_
              refine E.To.code ?_
              refine E.C.condF (by kernel_rfl) (by kernel_rfl) ?_
              refine E.C.exit (E.P.et (E.P.et (E.P.eh (E.To.code ?_))))
              refine E.C.weak [(0, .int .u32 n), (6, .bool false), (7, .bool true), (8, .int .i64 (Q.ck d)), (9, .int .i64 (c % 4)), (11, .pointer (some ⟨c2, 0, none⟩))] [] ⟨by kernel_rfl, by kernel_rfl⟩ (List.nil_sublist _) ?_
              refine E.sr ?_
              refine E.op (.pointer (some ⟨c2, 0, none⟩)) ?_
              refine E.op (.pointer (some ⟨c2, 0, none⟩)) ?_
              refine E.op (.pointer (some ⟨c2, 0, none⟩)) ?_
              refine A.G.call (I := Unit) (D := fun _ => True) (V := fun _ => .bool (decide ((0 : Int).toNat / 256 < (Q.coV3 n d c).n))) (q := fun _ => [M.It c2 (Q.coV n d c) (Q.S.cells Q.cos)]) [] (fun _ => []) (fun _ => [M.It c2 (Q.coV n d c) (Q.S.cells Q.cos)]) (I_Sync 0 (by decide) (m := c2) (V := (Q.coV3 n d c)) (xs := (Q.S.cells Q.cos))) (by kernel_rfl) (A.pm [0] (by kernel_rfl) (by kernel_rfl)) (fun _ => A.pm [0] (by kernel_rfl) (by kernel_rfl)) (fun w _ => by kernel_rfl) (by kernel_rfl) (fun _ hd8 => ?_)
              refine E.tr ?_
              refine E.op (.pointer (some ⟨c2, 0, none⟩)) ?_
              refine A.G.call (I := Unit) (D := fun _ => True) (V := fun _ => .agg #[.int .i64 ((Q.runs 4 Q.cos (Q.coV n d c)).2.1), .int .u32 ((Q.runs 4 Q.cos (Q.coV n d c)).2.2.1)]) (q := fun _ => [M.It c2 ((Q.runs 4 Q.cos (Q.coV n d c)).2.2.2) (Q.S.cells ((Q.runs 4 Q.cos (Q.coV n d c)).1))]) [] (fun _ => []) (fun _ => [M.It c2 ((Q.runs 4 Q.cos (Q.coV n d c)).2.2.2) (Q.S.cells ((Q.runs 4 Q.cos (Q.coV n d c)).1))]) (CRun (c := c2) 4 Q.cos (Q.coV n d c) (by omega) Q.cos_wf (R.Wf.sync (R.Wf.poke (R.Wf.poke (R.Wf.poke (Q.oneV_wf _) _ _ _) _ _ _) _ _ _) _)) (by kernel_rfl) (A.pm [0] (by kernel_rfl) (by kernel_rfl)) (fun _ => A.pm [0] (by kernel_rfl) (by kernel_rfl)) (fun w _ => by kernel_rfl) (by kernel_rfl) (fun _ hd9 => ?_)
              refine E.tr ?_
              refine E.op (.int .u32 n) ?_
              refine E.op (.int .u32 n) ?_
              refine E.To.code ?_
              refine E.C.seq ?_
              refine E.sr ?_
              refine E.op (.int .i64 (c % 4)) ?_
              refine E.op (.bool (decide ((c % 4) ≥ 2))) ?_
              refine E.To.code ?_
              refine E.C.weak [(0, .int .u32 n), (6, .bool false), (7, .bool true), (8, .int .i64 (Q.ck d)), (9, .int .i64 (c % 4)), (11, .pointer (some ⟨c2, 0, none⟩)), (16, .int .u32 n), (79, .bool (decide ((c % 4) ≥ 2)))] [] ⟨by kernel_rfl, by kernel_rfl⟩ (List.Sublist.refl _) ?_
              refine E.C.cond (decide ((c % 4) ≥ 2)) (by kernel_rfl) (by kernel_rfl) (fun hc10 => ?_) (fun hc10 => ?_)
              · skip
                refine E.C.region ?_
                refine E.op (.int .u32 7) ?_
                refine E.tr ?_
                refine E.op (.pointer (some ⟨c2, 0, none⟩)) ?_
                refine E.G.call (Q.S.val ((Q.runs 4 Q.cos (Q.coV n d c)).1)) (fun w h => A.call_rd [] (CState (c := c2) (V := (Q.runs 4 Q.cos (Q.coV n d c)).2.2.2) ((Q.runs 4 Q.cos (Q.coV n d c)).1)) h (by kernel_rfl) (A.pm [0] (by kernel_rfl) (by kernel_rfl))) (fun w _ => by kernel_rfl) (by kernel_rfl) ?_
                refine E.G.new (fun g => .pointer (some ⟨g, 0, none⟩)) (Q.S.cells Q.z0) 27 (fun w => by kernel_rfl) (by kernel_rfl) (fun g11 => ?_)
                refine E.G.store 0 (Q.S.cells ((Q.runs 4 Q.cos (Q.coV n d c)).1)) rfl rfl (by kernel_rfl) (by kernel_rfl) ?_
                refine E.tr ?_
                refine E.op (.bool true) ?_
                refine E.op (.bool true) ?_
                refine E.op (.int .i64 (Q.ck d)) ?_
                refine E.G.val (.int .i64 ((Q.ck d) % 15)) (by kernel_rfl) (fun w h => E.run_as (a := .int .i64 (Int.tmod (Q.ck d) 15)) (by kernel_rfl) (congrArg (Value.int .i64) (Q.c41 d))) ?_
                refine E.G.val (.int .i64 (Q.cy d)) (by kernel_rfl) (fun w h => E.run_as (a := .int .i64 (IntKind.wrap .i64 (1 + ((Q.ck d) % 15)))) (by kernel_rfl) (congrArg (Value.int .i64) (Q.c42 d))) ?_
                refine E.op (.pointer (some ⟨g11, 1, none⟩)) ?_
                refine E.G.val (.pointer (some ⟨g11, 1 + ((Q.cy d)).toNat, none⟩)) (by kernel_rfl) (fun w h => E.idxI (e := 22) g11 1 16 .i64 (Q.cy d) (by kernel_rfl) (by kernel_rfl) (by kernel_rfl) (by kernel_rfl) (by have := Q.cy_bd d; have := Q.ck_bd d; have := Q.c4 c; omega) w) ?_
                refine E.G.val (.int .u32 ((((Q.runs 4 Q.cos (Q.coV n d c)).1).r) (((Q.cy d)).toNat))) (by kernel_rfl) (fun w h => E.run_load h 0 rfl rfl (Q.ld_r (by kernel_rfl) (by have := Q.cy_bd d; have := Q.ck_bd d; have := Q.c4 c; omega))) ?_
                refine E.op (.int .u32 7) ?_
                refine E.G.val (.bool true) (by kernel_rfl) (fun w h => E.run_as (a := .bool (((((Q.runs 4 Q.cos (Q.coV n d c)).1).r) (((Q.cy d)).toNat)) == 7)) (by kernel_rfl) (congrArg Value.bool (Q.c91t hn (by assumption)))) ?_
                refine E.op (.bool true) ?_
                refine E.op (.bool true) ?_
                refine E.op (.int .i64 (c % 4)) ?_
                refine E.op (.pointer (some ⟨g11, 18, none⟩)) ?_
                refine E.G.val (.pointer (some ⟨g11, 18 + ((c % 4)).toNat, none⟩)) (by kernel_rfl) (fun w h => E.idxI (e := 22) g11 18 4 .i64 (c % 4) (by kernel_rfl) (by kernel_rfl) (by kernel_rfl) (by kernel_rfl) (by have := Q.cy_bd d; have := Q.ck_bd d; have := Q.c4 c; omega) w) ?_
                refine E.G.val (.int .u32 ((((Q.runs 4 Q.cos (Q.coV n d c)).1).c) (((c % 4)).toNat))) (by kernel_rfl) (fun w h => E.run_load h 0 rfl rfl (Q.ld_c (by kernel_rfl) (by have := Q.cy_bd d; have := Q.ck_bd d; have := Q.c4 c; omega))) ?_
                refine E.op (.int .u32 7) ?_
                refine E.G.val (.bool true) (by kernel_rfl) (fun w h => E.run_as (a := .bool (((((Q.runs 4 Q.cos (Q.coV n d c)).1).c) (((c % 4)).toNat)) == 7)) (by kernel_rfl) (congrArg Value.bool (Q.c99t hn (by assumption)))) ?_
                refine E.op (.bool true) ?_
                refine E.op (.bool true) ?_
                refine E.op (.int .i64 (Q.ck d)) ?_
                refine E.op (.pointer (some ⟨g11, 1, none⟩)) ?_
                refine E.G.val (.pointer (some ⟨g11, 1 + ((Q.ck d)).toNat, none⟩)) (by kernel_rfl) (fun w h => E.idxI (e := 22) g11 1 16 .i64 (Q.ck d) (by kernel_rfl) (by kernel_rfl) (by kernel_rfl) (by kernel_rfl) (by have := Q.cy_bd d; have := Q.ck_bd d; have := Q.c4 c; omega) w) ?_
                refine E.G.val (.int .u32 ((((Q.runs 4 Q.cos (Q.coV n d c)).1).r) (((Q.ck d)).toNat))) (by kernel_rfl) (fun w h => E.run_load h 0 rfl rfl (Q.ld_r (by kernel_rfl) (by have := Q.cy_bd d; have := Q.ck_bd d; have := Q.c4 c; omega))) ?_
                refine E.op (.int .u32 n) ?_
                refine E.G.val (.bool true) (by kernel_rfl) (fun w h => E.run_as (a := .bool (((((Q.runs 4 Q.cos (Q.coV n d c)).1).r) (((Q.ck d)).toNat)) == n)) (by kernel_rfl) (congrArg Value.bool (Q.c107 hn))) ?_
                refine E.op (.bool true) ?_
                refine E.op (.bool true) ?_
                refine E.op (.pointer (some ⟨g11, 22, none⟩)) ?_
                refine E.li (.int .i64 (((Q.runs 4 Q.cos (Q.coV n d c)).1).st)) 0 rfl rfl ?_
                refine E.G.val (.bool true) (by kernel_rfl) (fun w h => E.run_as (a := .bool ((((Q.runs 4 Q.cos (Q.coV n d c)).1).st) == 4)) (by kernel_rfl) (congrArg Value.bool (Q.c112 hn))) ?_
                refine E.op (.bool true) ?_
                refine E.op (.bool true) ?_
                refine E.To.code ?_
                refine E.C.weak [(6, .bool true)] [] ⟨by kernel_rfl, by kernel_rfl⟩ (List.nil_sublist _) ?_
                refine E.C.ret (E.To.body (fn := Try.f8) [.bool true] ?_ ?_)
                · exact ⟨⟨by kernel_rfl, by kernel_rfl⟩, trivial⟩
                · intro w h
                  exact ⟨rfl, h.ch.bel (fun x hx => (hh.1 x hx).elim)⟩
              · skip
                refine E.C.skip (E.To.code ?_)
                refine E.sr ?_
                refine E.op (.pointer (some ⟨c2, 0, none⟩)) ?_
                refine E.G.call (Q.S.val ((Q.runs 4 Q.cos (Q.coV n d c)).1)) (fun w h => A.call_rd [] (CState (c := c2) (V := (Q.runs 4 Q.cos (Q.coV n d c)).2.2.2) ((Q.runs 4 Q.cos (Q.coV n d c)).1)) h (by kernel_rfl) (A.pm [0] (by kernel_rfl) (by kernel_rfl))) (fun w _ => by kernel_rfl) (by kernel_rfl) ?_
                refine E.G.new (fun g => .pointer (some ⟨g, 0, none⟩)) (Q.S.cells Q.z0) 27 (fun w => by kernel_rfl) (by kernel_rfl) (fun g12 => ?_)
                refine E.G.store 0 (Q.S.cells ((Q.runs 4 Q.cos (Q.coV n d c)).1)) rfl rfl (by kernel_rfl) (by kernel_rfl) ?_
                refine E.tr ?_
                refine E.op (.bool true) ?_
                refine E.op (.bool true) ?_
                refine E.op (.int .i64 (Q.ck d)) ?_
                refine E.G.val (.int .i64 ((Q.ck d) % 15)) (by kernel_rfl) (fun w h => E.run_as (a := .int .i64 (Int.tmod (Q.ck d) 15)) (by kernel_rfl) (congrArg (Value.int .i64) (Q.c41 d))) ?_
                refine E.G.val (.int .i64 (Q.cy d)) (by kernel_rfl) (fun w h => E.run_as (a := .int .i64 (IntKind.wrap .i64 (1 + ((Q.ck d) % 15)))) (by kernel_rfl) (congrArg (Value.int .i64) (Q.c42 d))) ?_
                refine E.op (.pointer (some ⟨g12, 1, none⟩)) ?_
                refine E.G.val (.pointer (some ⟨g12, 1 + ((Q.cy d)).toNat, none⟩)) (by kernel_rfl) (fun w h => E.idxI (e := 22) g12 1 16 .i64 (Q.cy d) (by kernel_rfl) (by kernel_rfl) (by kernel_rfl) (by kernel_rfl) (by have := Q.cy_bd d; have := Q.ck_bd d; have := Q.c4 c; omega) w) ?_
                refine E.G.val (.int .u32 ((((Q.runs 4 Q.cos (Q.coV n d c)).1).r) (((Q.cy d)).toNat))) (by kernel_rfl) (fun w h => E.run_load h 0 rfl rfl (Q.ld_r (by kernel_rfl) (by have := Q.cy_bd d; have := Q.ck_bd d; have := Q.c4 c; omega))) ?_
                refine E.op (.int .u32 n) ?_
                refine E.G.val (.bool true) (by kernel_rfl) (fun w h => E.run_as (a := .bool (((((Q.runs 4 Q.cos (Q.coV n d c)).1).r) (((Q.cy d)).toNat)) == n)) (by kernel_rfl) (congrArg Value.bool (Q.c91f hn (by assumption)))) ?_
                refine E.op (.bool true) ?_
                refine E.op (.bool true) ?_
                refine E.op (.int .i64 (c % 4)) ?_
                refine E.op (.pointer (some ⟨g12, 18, none⟩)) ?_
                refine E.G.val (.pointer (some ⟨g12, 18 + ((c % 4)).toNat, none⟩)) (by kernel_rfl) (fun w h => E.idxI (e := 22) g12 18 4 .i64 (c % 4) (by kernel_rfl) (by kernel_rfl) (by kernel_rfl) (by kernel_rfl) (by have := Q.cy_bd d; have := Q.ck_bd d; have := Q.c4 c; omega) w) ?_
                refine E.G.val (.int .u32 ((((Q.runs 4 Q.cos (Q.coV n d c)).1).c) (((c % 4)).toNat))) (by kernel_rfl) (fun w h => E.run_load h 0 rfl rfl (Q.ld_c (by kernel_rfl) (by have := Q.cy_bd d; have := Q.ck_bd d; have := Q.c4 c; omega))) ?_
                refine E.op (.int .u32 n) ?_
                refine E.G.val (.bool true) (by kernel_rfl) (fun w h => E.run_as (a := .bool (((((Q.runs 4 Q.cos (Q.coV n d c)).1).c) (((c % 4)).toNat)) == n)) (by kernel_rfl) (congrArg Value.bool (Q.c99f hn (by assumption)))) ?_
                refine E.op (.bool true) ?_
                refine E.op (.bool true) ?_
                refine E.op (.int .i64 (Q.ck d)) ?_
                refine E.op (.pointer (some ⟨g12, 1, none⟩)) ?_
                refine E.G.val (.pointer (some ⟨g12, 1 + ((Q.ck d)).toNat, none⟩)) (by kernel_rfl) (fun w h => E.idxI (e := 22) g12 1 16 .i64 (Q.ck d) (by kernel_rfl) (by kernel_rfl) (by kernel_rfl) (by kernel_rfl) (by have := Q.cy_bd d; have := Q.ck_bd d; have := Q.c4 c; omega) w) ?_
                refine E.G.val (.int .u32 ((((Q.runs 4 Q.cos (Q.coV n d c)).1).r) (((Q.ck d)).toNat))) (by kernel_rfl) (fun w h => E.run_load h 0 rfl rfl (Q.ld_r (by kernel_rfl) (by have := Q.cy_bd d; have := Q.ck_bd d; have := Q.c4 c; omega))) ?_
                refine E.op (.int .u32 n) ?_
                refine E.G.val (.bool true) (by kernel_rfl) (fun w h => E.run_as (a := .bool (((((Q.runs 4 Q.cos (Q.coV n d c)).1).r) (((Q.ck d)).toNat)) == n)) (by kernel_rfl) (congrArg Value.bool (Q.c107 hn))) ?_
                refine E.op (.bool true) ?_
                refine E.op (.bool true) ?_
                refine E.op (.pointer (some ⟨g12, 22, none⟩)) ?_
                refine E.li (.int .i64 (((Q.runs 4 Q.cos (Q.coV n d c)).1).st)) 0 rfl rfl ?_
                refine E.G.val (.bool true) (by kernel_rfl) (fun w h => E.run_as (a := .bool ((((Q.runs 4 Q.cos (Q.coV n d c)).1).st) == 4)) (by kernel_rfl) (congrArg Value.bool (Q.c112 hn))) ?_
                refine E.op (.bool true) ?_
                refine E.op (.bool true) ?_
                refine E.To.code ?_
                refine E.C.weak [(6, .bool true)] [] ⟨by kernel_rfl, by kernel_rfl⟩ (List.nil_sublist _) ?_
                refine E.C.ret (E.To.body (fn := Try.f8) [.bool true] ?_ ?_)
                · exact ⟨⟨by kernel_rfl, by kernel_rfl⟩, trivial⟩
                · intro w h
                  exact ⟨rfl, h.ch.bel (fun x hx => (hh.1 x hx).elim)⟩
theorem QcpuConsts_law (n d c : Int) (hn : 0 ≤ n ∧ n < 4294967296) (hd : -9223372036854775808 ≤ d ∧ d < 9223372036854775808) (hc : -9223372036854775808 ≤ c ∧ c < 9223372036854775808) (w : World) : Calls Try.prog 8 #[.int .u32 n, .int .i64 d, .int .i64 c] w fun e w' => e = .returned (.bool true) ∧ Bel w w' := by
  skip
  exact QcpuConsts_rd n d c hn hd hc w _ _ ⟨fun _ h => h, fun _ h => h⟩
end Go.Proofs.Ytgbndbljohpnmaa
