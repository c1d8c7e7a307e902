/- Walks: KcpuTraps, printed by wip/eng. No condition but what is named. -/
import Derived.Test.YtglidnmmeclneaaGreatKcSKcpuTraps
import Derived.Test.YtglidnmmeclneaaGreatProg
namespace Go.Proofs.YtglidnmmeclneaaGreat
set_option linter.unusedVariables false
set_option linter.unusedSimpArgs false
open Go.RowKit
theorem K.runs_one {S : Q.S} {V : M.V} {rn : Q.S × Int × Int × M.V} (hr : K.runs 1 S V = rn) (hs : Q.wf S) (hV : R.Wf V) (hb : 0 ≤ S.st ∧ S.st < 1099511627776) :
    (rn.1 = S ∧ rn.2.2.2 = V ∧ 2 ≤ rn.2.1 ∧ rn.2.1 ≤ 8) ∨ (rn.1.st = S.st + 1 ∧ (rn.2.1 = 1 ∨ rn.2.1 = 8)) := by
  have ht := K.step_trp hs hV
  subst hr
  show (((K.run 1 2 0 S V).1 = S ∧ (K.run 1 2 0 S V).2.2.2 = V ∧ 2 ≤ (K.run 1 2 0 S V).2.1 ∧ (K.run 1 2 0 S V).2.1 ≤ 8) ∨ ((K.run 1 2 0 S V).1.st = S.st + 1 ∧ ((K.run 1 2 0 S V).2.1 = 1 ∨ (K.run 1 2 0 S V).2.1 = 8)))
  rw [K.run]
  cases h1 : (decide (S.du > 0) && decide (S.st ≥ S.du)) with
  | true => rw [cond_true]; exact .inl ⟨rfl, rfl, by show (2 : Int) ≤ 8; decide, by show (8 : Int) ≤ 8; decide⟩
  | false =>
    rw [cond_false, show decide ((((0 : Nat)) : Int) ≥ 1) = false from rfl, cond_false]
    cases h2 : ((K.step S V).2.1 != 0) with
    | true =>
      rw [cond_true]
      have hk := ht.k
      have hne : (K.step S V).2.1 ≠ 0 := fun e => by rw [e] at h2; cases h2
      exact .inl ⟨rfl, ht.mem h2, by show 2 ≤ (K.step S V).2.1; omega, by show (K.step S V).2.1 ≤ 8; omega⟩
    | false =>
      rw [cond_false]
      have hst : (K.step S V).1.st = S.st + 1 := by rw [ht.st h2, IntWalk.i64_in _ (by omega)]
      rw [K.run]
      cases h3 : (decide ((K.step S V).1.du > 0) && decide ((K.step S V).1.st ≥ (K.step S V).1.du)) with
      | true => rw [cond_true]; exact .inr ⟨hst, .inr rfl⟩
      | false => rw [cond_false, show decide ((((0 + 1 : Nat)) : Int) ≥ 1) = true from rfl, cond_true]; exact .inr ⟨hst, .inl rfl⟩
theorem K.run_count {n : Int} (hn : 0 ≤ n) : ∀ (f m : Nat) {s : Q.S} {V : M.V}, Q.wf s → R.Wf V → n.toNat + 1 ≤ m + f → m ≤ n.toNat → 0 ≤ s.st ∧ s.st + (n - ((m : Nat) : Int)) < 2199023255552 →
    s.st ≤ (K.run n f m s V).1.st ∧ (K.run n f m s V).1.st ≤ s.st + (n - ((m : Nat) : Int)) ∧ ((K.run n f m s V).2.1 = 1 → (K.run n f m s V).1.st = s.st + (n - ((m : Nat) : Int)))
  | 0, m, s, V, hs, hV, hf, hm, hb => absurd hf (by omega)
  | f + 1, m, s, V, hs, hV, hf, hm, hb => by
    have ht := K.step_trp hs hV
    have hw := K.step_wf hs hV
    rw [K.run]
    cases h1 : (decide (s.du > 0) && decide (s.st ≥ s.du)) with
    | true => rw [cond_true]; exact ⟨by show s.st ≤ s.st; omega, by show s.st ≤ _; omega, fun h => by cases h⟩
    | false =>
      rw [cond_false]
      cases h2 : decide (((m : Nat) : Int) ≥ n) with
      | true =>
        have := of_decide_eq_true h2
        rw [cond_true]; exact ⟨by show s.st ≤ s.st; omega, by show s.st ≤ _; omega, fun _ => by show s.st = _; omega⟩
      | false =>
        have h2' := of_decide_eq_false h2
        rw [cond_false]
        cases h3 : ((K.step s V).2.1 != 0) with
        | true => rw [cond_true]; exact ⟨by show s.st ≤ s.st; omega, by show s.st ≤ _; omega, fun h => absurd h ht.one⟩
        | false =>
          rw [cond_false]
          have hst : (K.step s V).1.st = s.st + 1 := by rw [ht.st h3, IntWalk.i64_in _ (by omega)]
          have ih := K.run_count hn f (m + 1) hw.1 hw.2 (by omega) (by omega) (by rw [hst]; omega)
          rw [hst] at ih
          refine ⟨by omega, by omega, fun h => ?_⟩
          have := ih.2.2 h
          omega
theorem K.runs_count {n : Int} {S : Q.S} {V : M.V} {rn : Q.S × Int × Int × M.V} (hr : K.runs n S V = rn) (hn : 0 ≤ n ∧ n < 256) (hs : Q.wf S) (hV : R.Wf V) (hb : 0 ≤ S.st ∧ S.st < 1099511627776) : S.st ≤ rn.1.st ∧ rn.1.st ≤ S.st + n ∧ (rn.2.1 = 1 → rn.1.st = S.st + n) := by
  subst hr
  have h := K.run_count hn.1 (n.toNat + 1) 0 hs hV (by omega) (Nat.zero_le _) (by omega)
  have e : n - ((0 : Nat) : Int) = n := by omega
  rw [e] at h
  exact h
theorem K.tr_t {S : Q.S} {V : M.V} {rn : Q.S × Int × Int × M.V} (h : (rn.1 = S ∧ rn.2.2.2 = V ∧ 2 ≤ rn.2.1 ∧ rn.2.1 ≤ 8) ∨ (rn.1.st = S.st + 1 ∧ (rn.2.1 = 1 ∨ rn.2.1 = 8))) (hc : ((rn.2.1 != 1) && (rn.1.st == S.st)) = true) : rn.1 = S ∧ rn.2.2.2 = V ∧ 2 ≤ rn.2.1 ∧ rn.2.1 ≤ 8 := by
  rcases h with h | h
  · exact h
  · rw [Bool.and_eq_true] at hc
    have := eq_of_beq hc.2
    omega
theorem K.tr_f {S : Q.S} {V : M.V} {rn : Q.S × Int × Int × M.V} (h : (rn.1 = S ∧ rn.2.2.2 = V ∧ 2 ≤ rn.2.1 ∧ rn.2.1 ≤ 8) ∨ (rn.1.st = S.st + 1 ∧ (rn.2.1 = 1 ∨ rn.2.1 = 8))) (hc : ((rn.2.1 != 1) && (rn.1.st == S.st)) = false) : rn.1.st = S.st + 1 ∧ (rn.2.1 = 1 ∨ rn.2.1 = 8) := by
  rcases h with h | h
  · have h1 : (rn.2.1 != 1) = true := bne_iff_ne.2 (by omega)
    rw [h1, h.1, beq_self_eq_true] at hc
    cases hc
  · exact h
theorem K.tr_cs {V W : M.V} (h : W = V) : (!((K.cs W).toList == (K.cs V).toList)) = false := by rw [h, beq_self_eq_true]; rfl
theorem K.tr_k {k : Int} (h : k = 1 ∨ k = 8) (h1 : (k != 1) = true) : (k != 8) = false := by
  rcases h with rfl | rfl
  · cases h1
  · rfl
theorem K.tr_z {S : Q.S} {V : M.V} : ((K.runs 0 S V).2.1 != 2) = true := by
  show ((K.run 0 1 0 S V).2.1 != 2) = true
  rw [K.run]
  cases (decide (S.du > 0) && decide (S.st ≥ S.du)) with
  | true => rfl
  | false => rfl
theorem K.and_le (x : Int) : 0 ≤ bits .and .i64 x 16777215 ∧ bits .and .i64 x 16777215 ≤ 16777215 := by
  have e : bits .and .i64 x 16777215 = x % 16777216 := W.i64_and_mask 24 (by decide) x
  rw [e]; omega
theorem K.tr_b {x : Int} : 0 ≤ (if 0 > bits .and .i64 x 16777215 then 0 else bits .and .i64 x 16777215) ∧ (if 0 > bits .and .i64 x 16777215 then 0 else bits .and .i64 x 16777215) ≤ 16777215 := by
  have h : 0 ≤ bits .and .i64 x 16777215 ∧ bits .and .i64 x 16777215 ≤ 16777215 := K.and_le x
  rw [if_neg (by omega)]; exact h
theorem K.tr_i {k : Nat} (h : k ≤ 20) : IntKind.wrap .i64 (((k : Nat) : Int) + 1) = ((k + 1 : Nat) : Int) := by rw [IntWalk.i64_in _ (by omega)]; omega
theorem K.tr_d {k n a b : Int} (h : a ≤ b ∧ b ≤ a + n ∧ (k = 1 → b = a + n)) (h1 : (k != 1) = false) : ((b - a) == n) = true := by
  have hk : k = 1 := by
    by_cases e : k = 1
    · exact e
    · rw [bne_iff_ne.2 e] at h1; cases h1
  have := h.2.2 hk
  exact beq_iff_eq.2 (by omega)
theorem KcpuTraps_rd (s : Q.S) (x0 x1 x2 x3 z a : Int) (code : ByteArray) (ha : 0 ≤ a ∧ a < 4294967296) (hx0 : 0 ≤ x0 ∧ x0 < 256) (hx1 : 0 ≤ x1 ∧ x1 < 256) (hx2 : 0 ≤ x2 ∧ x2 < 256) (hx3 : 0 ≤ x3 ∧ x3 < 256) (n : Int) (hn : 0 ≤ n ∧ n < 256) (S : Q.S) (V : M.V) (hS : K.norm (⟨s.pc, s.r, s.f, s.c, (bits .and .i64 s.st 16777215), s.du⟩ : Q.S) = S) (hV : K.bV x0 x1 x2 x3 z a code = V) (hwS : Q.wf S) (hwV : R.Wf V) (hbS : 0 ≤ S.st ∧ S.st ≤ 16777215 + ((0 : Nat) : Int)) : A.Rd Tryz.prog 11 #[.agg (Q.S.cells s ++ [Value.int .u8 x0, Value.int .u8 x1, Value.int .u8 x2, Value.int .u8 x3, Value.int .u32 z, Value.int .u32 a, Value.string code]).toArray, .int .u8 n] [] (.bool true) := by
 intro w oo aa hh
 refine E.enter (n := 125) (S := oo) Tryz.func11 rfl rfl (by kernel_rfl) (A.start (L := []) hh) (E.sr (E.nw (Q.S.cells s ++ [.int .u8 x0, .int .u8 x1, .int .u8 x2, .int .u8 x3, E.u z, E.u a, .string code]) 29 (fun g1 => E.op (.bool false) (E.tr (E.ca (.bool true) (fun w h => A.cq [] [0] (San5) h) (E.op (.bool true) (E.tr (E.op (E.pt g1) (E.op (.pointer (some ⟨g1, 22, none⟩)) (E.li (E.i s.st) 0 rfl rfl (E.op (E.i (bits .and .i64 s.st 16777215)) ?_)))))))))))
 refine E.op (E.pt g1) (E.op (.pointer (some ⟨g1, 22, none⟩)) (E.st 0 (Q.S.cells (⟨s.pc, s.r, s.f, s.c, (bits .and .i64 s.st 16777215), s.du⟩) ++ [.int .u8 x0, .int .u8 x1, .int .u8 x2, .int .u8 x3, E.u z, E.u a, .string code]) rfl rfl (E.To.code (E.wk [(1, .int .u8 n), (2, E.pt g1), (4, .bool false), (5, .bool true)] [(g1, (Q.S.cells (⟨s.pc, s.r, s.f, s.c, (bits .and .i64 s.st 16777215), s.du⟩) ++ [.int .u8 x0, .int .u8 x1, .int .u8 x2, .int .u8 x3, E.u z, E.u a, .string code]))] Nz.sub (E.sr (E.li (.agg (Q.S.cells (⟨s.pc, s.r, s.f, s.c, (bits .and .i64 s.st 16777215), s.du⟩ : Q.S) ++ [Value.int .u8 x0, Value.int .u8 x1, Value.int .u8 x2, Value.int .u8 x3, Value.int .u32 z, Value.int .u32 a, Value.string code]).toArray) 0 rfl rfl (A.G.call (I := (Nat × Nat) × (Nat × Nat)) (D := fun i2 => True) (V := fun i2 => .tuple #[E.pt i2.1.1, E.pt i2.2.1]) (q := fun i2 => [A.blk i2.1.1 (E.pt i2.1.2 :: Q.S.cells S), M.It i2.1.2 V ([])]) [A.blk g1 (Q.S.cells (⟨s.pc, s.r, s.f, s.c, (bits .and .i64 s.st 16777215), s.du⟩) ++ [.int .u8 x0, .int .u8 x1, .int .u8 x2, .int .u8 x3, E.u z, E.u a, .string code])] (fun i2 => [(i2.1.1, (E.pt i2.1.2 :: Q.S.cells S)), (g1, (Q.S.cells (⟨s.pc, s.r, s.f, s.c, (bits .and .i64 s.st 16777215), s.du⟩) ++ [.int .u8 x0, .int .u8 x1, .int .u8 x2, .int .u8 x3, E.u z, E.u a, .string code]))]) (fun i2 => [M.It i2.1.2 V ([])]) (Both1 (⟨s.pc, s.r, s.f, s.c, (bits .and .i64 s.st 16777215), s.du⟩ : Q.S) x0 x1 x2 x3 z a code (by assumption) hx0 hx1 hx2 hx3 hS hV) (by kernel_rfl) (A.pn [0]) (fun i2 => A.pm [0, 2, 1] (by kernel_rfl) (by kernel_rfl)) (fun w _ => by kernel_rfl) (by kernel_rfl) (fun i2 hd3 => E.op (.tuple #[E.pt i2.1.1, E.pt i2.2.1]) (E.op (E.pt i2.1.1) (E.op (E.pt i2.2.1) (E.op (E.pt i2.1.1) ?_)))))))))))
 refine E.op (E.pt i2.2.1) (E.To.code (E.C.seq (E.sr (E.op (E.i 0) (E.To.code (E.C.block (E.C.loop (I := Nat × Q.S × M.V) (fun i => 20 - i.1) (fun i => i.1 ≤ 20 ∧ Q.wf i.2.1 ∧ R.Wf i.2.2 ∧ 0 ≤ i.2.1.st ∧ i.2.1.st ≤ 16777215 + ((i.1 : Nat) : Int)) (fun i => [(1, .int .u8 n), (4, .bool false), (5, .bool true), (6, E.pt i2.1.1), (8, E.i ((i.1 : Nat) : Int))]) (fun i => A.X w oo aa [M.It i2.1.2 i.2.2 ([])]) (fun i => [(i2.1.1, (E.pt i2.1.2 :: Q.S.cells i.2.1))]) (0, S, V) (⟨Nat.zero_le _, hwS, hwV, hbS.1, hbS.2⟩) ⟨by kernel_rfl, by kernel_rfl⟩ Nz.sub (fun _ h => h) (fun i hk1 => E.C.seq (E.sr (E.op (E.i ((i.1 : Nat) : Int)) (E.op (.bool (decide (((i.1 : Nat) : Int) < 20))) ?_)))))))))))
 refine E.To.code (E.cd (decide (((i.1 : Nat) : Int) < 20)) (fun hc4 => ?_) (fun hc4 => ?_))
 ·
  refine E.C.skip (E.To.code (E.C.seq (E.C.block (E.sr (E.op (E.pt i2.1.1) (E.ca (Q.S.val i.2.1) (fun w h => A.cq [0] [1] (CState (c := i2.1.1) (m := i2.1.2) i.2.1) h) (E.nw (Q.S.cells Q.z0) 26 (fun g5 => E.st 0 (Q.S.cells i.2.1) rfl rfl (E.tr (E.op (E.pt i2.1.1) (A.G.call (I := Unit) (D := fun _ => True) (V := fun _ => .string (K.cs i.2.2)) (q := fun _ => [A.blk i2.1.1 (E.pt i2.1.2 :: Q.S.cells i.2.1), M.It i2.1.2 i.2.2 ([])]) [A.blk g5 (Q.S.cells i.2.1)] (fun _ => [(i2.1.1, (E.pt i2.1.2 :: Q.S.cells i.2.1)), (g5, (Q.S.cells i.2.1))]) (fun _ => [M.It i2.1.2 i.2.2 ([])]) (Content (c := i2.1.1) (m := i2.1.2) (s := i.2.1) (V := i.2.2)) (by kernel_rfl) (A.pn [1, 2, 0]) (fun _ => A.pm [0, 2, 1] (by kernel_rfl) (by kernel_rfl)) (fun w _ => by kernel_rfl) (by kernel_rfl) (fun _ hd6 => E.op (.string (K.cs i.2.2)) ?_))))))))))))
  refine E.tr (E.op (E.pt i2.1.1) (A.G.call (I := Unit) (D := fun _ => True) (V := fun _ => .agg #[E.i ((K.runs 1 i.2.1 i.2.2).2.1), E.u ((K.runs 1 i.2.1 i.2.2).2.2.1)]) (q := fun _ => [A.blk i2.1.1 (E.pt i2.1.2 :: Q.S.cells ((K.runs 1 i.2.1 i.2.2).1)), M.It i2.1.2 ((K.runs 1 i.2.1 i.2.2).2.2.2) ([])]) [A.blk g5 (Q.S.cells i.2.1)] (fun _ => [(i2.1.1, (E.pt i2.1.2 :: Q.S.cells ((K.runs 1 i.2.1 i.2.2).1))), (g5, (Q.S.cells i.2.1))]) (fun _ => [M.It i2.1.2 ((K.runs 1 i.2.1 i.2.2).2.2.2) ([])]) (CRun (c := i2.1.1) (m := i2.1.2) 1 i.2.1 i.2.2 (by decide) hk1.2.1 hk1.2.2.1) (by kernel_rfl) (A.pn [0, 2, 1]) (fun _ => A.pm [0, 2, 1] (by kernel_rfl) (by kernel_rfl)) (fun w _ => by kernel_rfl) (by kernel_rfl) (fun _ hd7 => ?_)))
  have hwrn8 := K.runs_wf (most := 1) (s := i.2.1) (V := i.2.2) hk1.2.1 hk1.2.2.1
  generalize hrrn8 : K.runs 1 i.2.1 i.2.2 = rn8 at hwrn8 ⊢
  have horn8 := K.runs_one hrrn8 hk1.2.1 hk1.2.2.1 (by omega)
  refine E.nw [E.i 0, E.u 0] 47 (fun g9 => E.st 0 [E.i rn8.2.1, E.u rn8.2.2.1] rfl rfl (E.tr (E.op (E.pt i2.1.1) (E.ca (Q.S.val (rn8.1)) (fun w h => A.cq [1] [0, 2, 3] (CState (c := i2.1.1) (m := i2.1.2) (rn8.1)) h) (E.nw (Q.S.cells Q.z0) 26 (fun g10 => E.st 0 (Q.S.cells (rn8.1)) rfl rfl (E.To.code (E.C.seq (E.sr (E.op (E.pt g9) (E.li (E.i rn8.2.1) 1 rfl rfl ?_)))))))))))
  refine E.op (.bool (rn8.2.1 != 1)) (E.op (.bool (rn8.2.1 != 1)) (E.G.cut 6 [(1, .int .u8 n), (4, .bool false), (5, .bool true), (6, E.pt i2.1.1), (8, E.i ((i.1 : Nat) : Int)), (9, E.pt g5), (10, .string (K.cs i.2.2)), (11, E.pt g9), (12, E.pt g10), (28, E.i ((i.1 : Nat) : Int)), (29, .bool (decide (((i.1 : Nat) : Int) < 20))), (32, E.pt i2.1.1), (33, Q.S.val i.2.1), (34, E.pt i2.1.1), (35, .string (K.cs i.2.2)), (36, E.pt i2.1.1), (37, .agg #[E.i rn8.2.1, E.u rn8.2.2.1]), (38, E.pt i2.1.1), (39, Q.S.val (rn8.1)), (40, E.pt g9), (41, E.i rn8.2.1), (42, .bool (rn8.2.1 != 1)), (43, .bool (rn8.2.1 != 1)), (49, .bool ((rn8.2.1 != 1) && (((rn8.1).st) == i.2.1.st)))] (A.X w oo aa [M.It i2.1.2 rn8.2.2.2 ([])]) [(g10, (Q.S.cells (rn8.1))), (g9, [E.i rn8.2.1, E.u rn8.2.2.1]), (i2.1.1, (E.pt i2.1.2 :: Q.S.cells (rn8.1))), (g5, (Q.S.cells i.2.1))] ?_ ?_))
  ·
   generalize hc11 : (rn8.2.1 != 1) = b12
   cases b12
   ·
    exact E.sk (E.sk (E.sk (E.sk (E.sk (E.op (.bool false) (E.G.end_pst ⟨by kernel_rfl, by kernel_rfl⟩ Nz.sub (fun _ h => h)))))))
   exact E.op (.pointer (some ⟨g10, 22, none⟩)) (E.li (E.i ((rn8.1).st)) 0 rfl rfl (E.op (.pointer (some ⟨g5, 22, none⟩)) (E.li (E.i i.2.1.st) 3 rfl rfl (E.op (.bool (((rn8.1).st) == i.2.1.st)) (E.op (.bool (((rn8.1).st) == i.2.1.st)) (E.G.end_pst ⟨by kernel_rfl, by kernel_rfl⟩ Nz.sub (fun _ h => h)))))))
  refine E.To.code (E.cd ((rn8.2.1 != 1) && (((rn8.1).st) == i.2.1.st)) (fun hc13 => ?_) (fun hc13 => ?_))
  ·
   refine E.C.seq (E.sr (E.li (Q.S.val (rn8.1)) 0 rfl rfl (E.li (Q.S.val i.2.1) 3 rfl rfl (E.vl (.bool false) (fun w h => E.api_State_nsame ((K.tr_t horn8 hc13).1) (by kernel_rfl) (by kernel_rfl)) (E.op (.bool false) (E.op (E.pt i2.1.1) (A.G.call (I := Unit) (D := fun _ => True) (V := fun _ => .string (K.cs rn8.2.2.2)) (q := fun _ => [A.blk i2.1.1 (E.pt i2.1.2 :: Q.S.cells (rn8.1)), M.It i2.1.2 rn8.2.2.2 ([])]) [A.blk g10 (Q.S.cells (rn8.1)), A.blk g9 ([E.i rn8.2.1, E.u rn8.2.2.1]), A.blk g5 (Q.S.cells i.2.1)] (fun _ => [(i2.1.1, (E.pt i2.1.2 :: Q.S.cells (rn8.1))), (g10, (Q.S.cells (rn8.1))), (g9, [E.i rn8.2.1, E.u rn8.2.2.1]), (g5, (Q.S.cells i.2.1))]) (fun _ => [M.It i2.1.2 rn8.2.2.2 ([])]) (Content (c := i2.1.1) (m := i2.1.2) (s := (rn8.1)) (V := rn8.2.2.2)) (by kernel_rfl) (A.pn [2, 4, 0, 1, 3]) (fun _ => A.pm [0, 2, 3, 4, 1] (by kernel_rfl) (by kernel_rfl)) (fun w _ => by kernel_rfl) (by kernel_rfl) (fun _ hd14 => E.op (.string (K.cs i.2.2)) (E.vl (.bool false) (fun w h => E.run_as (a := .bool (!((K.cs rn8.2.2.2).toList == (K.cs i.2.2).toList))) (by kernel_rfl) (congrArg Value.bool (K.tr_cs (K.tr_t horn8 hc13).2.1))) (E.op (.bool false) (E.op (.bool false) ?_)))))))))))
   refine E.op (E.pt g9) (E.li (E.i rn8.2.1) 2 rfl rfl (E.vl (.bool false) (fun w h => E.run_as (a := .bool (rn8.2.1 == 0)) (by kernel_rfl) (congrArg Value.bool (beq_false_of_ne (by have := (K.tr_t horn8 hc13).2.2; omega)))) (E.op (.bool false) (E.op (.bool false) (E.op (E.pt g9) (E.li (E.i rn8.2.1) 2 rfl rfl (E.vl (.bool false) (fun w h => E.run_as (a := .bool (decide (rn8.2.1 > 8))) (by kernel_rfl) (congrArg Value.bool (decide_eq_false (by have := (K.tr_t horn8 hc13).2.2; omega)))) (E.op (.bool false) (E.To.code (E.C.condF (by kernel_rfl) (by kernel_rfl) (E.C.skip (E.To.code ?_))))))))))))
   refine E.C.exit (E.P.et (E.P.eb (by kernel_rfl) (E.P.et (E.P.et (E.P.eh (E.To.code (E.wk [(1, .int .u8 n), (4, .bool false), (5, .bool true), (6, E.pt i2.1.1)] [(i2.1.1, (E.pt i2.1.2 :: Q.S.cells (rn8.1)))] Nz.sub (E.sr (E.op (E.pt i2.1.1) (E.ca (Q.S.val (rn8.1)) (fun w h => A.cq [0] [1] (CState (c := i2.1.1) (m := i2.1.2) (rn8.1)) h) (E.nw (Q.S.cells Q.z0) 26 (fun g15 => E.st 0 (Q.S.cells (rn8.1)) rfl rfl (E.tr (E.op (E.pt i2.1.1) (E.op (.int .u8 n) (E.vl (E.i n) (fun w h => E.run_as (a := E.i (IntKind.wrap .i64 n)) (by kernel_rfl) (congrArg (Value.int .i64) (IntWalk.i64_in _ (by omega)))) (A.G.call (I := Unit) (D := fun _ => True) (V := fun _ => .agg #[E.i ((K.runs n (rn8.1) rn8.2.2.2).2.1), E.u ((K.runs n (rn8.1) rn8.2.2.2).2.2.1)]) (q := fun _ => [A.blk i2.1.1 (E.pt i2.1.2 :: Q.S.cells ((K.runs n (rn8.1) rn8.2.2.2).1)), M.It i2.1.2 ((K.runs n (rn8.1) rn8.2.2.2).2.2.2) ([])]) [A.blk g15 (Q.S.cells (rn8.1))] (fun _ => [(i2.1.1, (E.pt i2.1.2 :: Q.S.cells ((K.runs n (rn8.1) rn8.2.2.2).1))), (g15, (Q.S.cells (rn8.1)))]) (fun _ => [M.It i2.1.2 ((K.runs n (rn8.1) rn8.2.2.2).2.2.2) ([])]) (CRun (c := i2.1.1) (m := i2.1.2) n (rn8.1) rn8.2.2.2 (by omega) hwrn8.1 hwrn8.2) (by kernel_rfl) (A.pn [1, 2, 0]) (fun _ => A.pm [0, 2, 1] (by kernel_rfl) (by kernel_rfl)) (fun w _ => by kernel_rfl) (by kernel_rfl) (fun _ hd16 => ?_))))))))))))))))))
   have hwrn17 := K.runs_wf (most := n) (s := (rn8.1)) (V := rn8.2.2.2) hwrn8.1 hwrn8.2
   generalize hrrn17 : K.runs n (rn8.1) rn8.2.2.2 = rn17 at hwrn17 ⊢
   have hst := congrArg Q.S.st (K.tr_t horn8 hc13).1
   have horn17 := K.runs_count hrrn17 hn hwrn8.1 hwrn8.2 (by omega)
   refine E.nw [E.i 0, E.u 0] 47 (fun g18 => E.st 0 [E.i rn17.2.1, E.u rn17.2.2.1] rfl rfl (E.To.code (E.C.seq (E.C.held (A.Y [A.blk g18 ([E.i rn17.2.1, E.u rn17.2.2.1]), A.blk g15 (Q.S.cells (rn8.1))]) (by kernel_rfl) (E.tk 0 (E.pt i2.1.1) rfl (fun w h => A.hq [0, 2] [1, 3] h) (E.tk 3 (.pointer (some ⟨g15, 22, none⟩)) rfl (fun w h => A.hq [0, 2] [1, 3] h) (E.tj 4 (E.i ((rn8.1).st)) rfl (fun w h => A.hq [0, 2] [1, 3] h) (fun w h => A.Y.bld h (k := 1) (j := 22) rfl (by kernel_rfl) (by kernel_rfl)) (E.al 1 rfl (E.ca (Q.S.val (rn17.1)) (fun w h => A.cq [1] [0, 2, 3] (CState (c := i2.1.1) (m := i2.1.2) (rn17.1)) h) (E.H.back (fun w h => A.hq [0, 2] [1, 3] h) (E.tk 2 (E.i ((rn17.1).st)) rfl (fun w h => A.hq [0, 2] [1, 3] h) ?_)))))))))))
   refine E.tj 5 (E.i (((rn17.1).st) - ((rn8.1).st))) rfl (fun w h => A.hq [0, 2] [1, 3] h) (fun w h => E.run_as (a := E.i (IntKind.wrap .i64 (((rn17.1).st) - ((rn8.1).st)))) (by kernel_rfl) (congrArg (Value.int .i64) (IntWalk.i64_in _ (by omega)))) (E.tk 6 (E.i (((rn17.1).st) - ((rn8.1).st))) rfl (fun w h => A.hq [0, 2] [1, 3] h) (E.H.done (by kernel_rfl) (E.To.code (E.wk [(1, .int .u8 n), (4, .bool false), (5, .bool true), (6, E.pt i2.1.1), (14, E.pt g18), (15, E.i (((rn17.1).st) - ((rn8.1).st)))] [(g18, [E.i rn17.2.1, E.u rn17.2.2.1]), (i2.1.1, (E.pt i2.1.2 :: Q.S.cells (rn17.1)))] Nz.sub (E.sr (E.op (.bool true) (E.op (.bool true) (E.op (E.i (((rn17.1).st) - ((rn8.1).st))) (E.vl (.bool true) (fun w h => E.run_as (a := .bool (decide ((((rn17.1).st) - ((rn8.1).st)) ≥ 0))) (by kernel_rfl) (congrArg Value.bool (decide_eq_true (by omega)))) (E.op (.bool true) (E.op (.bool true) ?_)))))))))))
   refine E.op (E.i (((rn17.1).st) - ((rn8.1).st))) (E.op (.int .u8 n) (E.vl (E.i n) (fun w h => E.run_as (a := E.i (IntKind.wrap .i64 n)) (by kernel_rfl) (congrArg (Value.int .i64) (IntWalk.i64_in _ (by omega)))) (E.vl (.bool true) (fun w h => E.run_as (a := .bool (decide ((((rn17.1).st) - ((rn8.1).st)) ≤ n))) (by kernel_rfl) (congrArg Value.bool (decide_eq_true (by omega)))) (E.op (.bool true) (E.op (.bool true) (E.op (E.pt g18) (E.li (E.i rn17.2.1) 0 rfl rfl (E.op (.bool (rn17.2.1 != 1)) (E.op (.bool (rn17.2.1 != 1)) (E.G.cut 5 [(4, .bool false), (6, E.pt i2.1.1), (108, .bool true), (117, .bool true)] (A.X w oo aa [M.It i2.1.2 rn17.2.2.2 ([])]) [(g18, [E.i rn17.2.1, E.u rn17.2.2.1]), (i2.1.1, (E.pt i2.1.2 :: Q.S.cells (rn17.1)))] ?_ ?_))))))))))
   ·
    generalize hc19 : (rn17.2.1 != 1) = b20
    cases b20
    ·
     exact E.op (E.i (((rn17.1).st) - ((rn8.1).st))) (E.op (.int .u8 n) (E.vl (E.i n) (fun w h => E.run_as (a := E.i (IntKind.wrap .i64 n)) (by kernel_rfl) (congrArg (Value.int .i64) (IntWalk.i64_in _ (by omega)))) (E.op (.bool ((((rn17.1).st) - ((rn8.1).st)) == n)) (E.vl (.bool true) (fun w h => E.run_as (a := .bool ((((rn17.1).st) - ((rn8.1).st)) == n)) (by kernel_rfl) (congrArg Value.bool (K.tr_d (by assumption) (by assumption)))) (E.G.end_pst ⟨by kernel_rfl, by kernel_rfl⟩ Nz.sub (fun _ h => h))))))
    exact E.sk (E.sk (E.sk (E.sk (E.vl (.bool true) (fun w h => E.run_as (a := .bool true) (by kernel_rfl) (rfl)) (E.G.end_pst ⟨by kernel_rfl, by kernel_rfl⟩ Nz.sub (fun _ h => h))))))
   exact E.op (.bool true) (E.op (.bool true) (E.op (E.pt i2.1.1) (A.G.call (I := Unit) (D := fun _ => True) (V := fun _ => .agg #[E.i ((K.runs 0 (rn17.1) rn17.2.2.2).2.1), E.u ((K.runs 0 (rn17.1) rn17.2.2.2).2.2.1)]) (q := fun _ => [A.blk i2.1.1 (E.pt i2.1.2 :: Q.S.cells ((K.runs 0 (rn17.1) rn17.2.2.2).1)), M.It i2.1.2 ((K.runs 0 (rn17.1) rn17.2.2.2).2.2.2) ([])]) [A.blk g18 ([E.i rn17.2.1, E.u rn17.2.2.1])] (fun _ => [(i2.1.1, (E.pt i2.1.2 :: Q.S.cells ((K.runs 0 (rn17.1) rn17.2.2.2).1))), (g18, [E.i rn17.2.1, E.u rn17.2.2.1])]) (fun _ => [M.It i2.1.2 ((K.runs 0 (rn17.1) rn17.2.2.2).2.2.2) ([])]) (CRun (c := i2.1.1) (m := i2.1.2) 0 (rn17.1) rn17.2.2.2 (by decide) hwrn17.1 hwrn17.2) (by kernel_rfl) (A.pn [1, 2, 0]) (fun _ => A.pm [0, 2, 1] (by kernel_rfl) (by kernel_rfl)) (fun w _ => by kernel_rfl) (by kernel_rfl) (fun _ hd21 => E.op (E.i ((K.runs 0 (rn17.1) rn17.2.2.2).2.1)) (E.vl (.bool true) (fun w h => E.run_as (a := .bool (((K.runs 0 (rn17.1) rn17.2.2.2).2.1) != 2)) (by kernel_rfl) (congrArg Value.bool (K.tr_z))) (E.op (.bool true) (E.op (.bool true) (E.To.code (E.wk [(4, .bool true)] [] Nz.sub (E.C.ret (E.bd Tryz.f11 [.bool true] (fun w h => ⟨rfl, h.ch.bel (fun x hx => (hh.1 x hx).elim)⟩))))))))))))
  refine E.C.skip (E.To.code (E.sr (E.op (.pointer (some ⟨g10, 22, none⟩)) (E.li (E.i ((rn8.1).st)) 0 rfl rfl (E.op (.pointer (some ⟨g5, 22, none⟩)) (E.li (E.i i.2.1.st) 3 rfl rfl (E.vl (E.i (i.2.1.st + 1)) (fun w h => E.run_as (a := E.i (IntKind.wrap .i64 (i.2.1.st + 1))) (by kernel_rfl) (congrArg (Value.int .i64) (IntWalk.i64_in _ (by omega)))) (E.vl (.bool false) (fun w h => E.run_as (a := .bool (((rn8.1).st) != (i.2.1.st + 1))) (by kernel_rfl) (congrArg Value.bool (by rw [(K.tr_f horn8 hc13).1]; exact bne_self_eq_false _))) (E.op (.bool false) (E.op (E.pt g9) (E.li (E.i rn8.2.1) 1 rfl rfl (E.op (.bool (rn8.2.1 != 1)) ?_))))))))))))
  refine E.op (.bool (rn8.2.1 != 1)) (E.G.cut 4 [(1, .int .u8 n), (4, .bool false), (5, .bool true), (6, E.pt i2.1.1), (8, E.i ((i.1 : Nat) : Int)), (9, E.pt g5), (10, .string (K.cs i.2.2)), (11, E.pt g9), (12, E.pt g10), (28, E.i ((i.1 : Nat) : Int)), (29, .bool (decide (((i.1 : Nat) : Int) < 20))), (32, E.pt i2.1.1), (33, Q.S.val i.2.1), (34, E.pt i2.1.1), (35, .string (K.cs i.2.2)), (36, E.pt i2.1.1), (37, .agg #[E.i rn8.2.1, E.u rn8.2.2.1]), (38, E.pt i2.1.1), (39, Q.S.val (rn8.1)), (40, E.pt g9), (41, E.i rn8.2.1), (42, .bool (rn8.2.1 != 1)), (43, .bool (rn8.2.1 != 1)), (49, .bool ((rn8.2.1 != 1) && (((rn8.1).st) == i.2.1.st))), (69, .pointer (some ⟨g10, 22, none⟩)), (70, E.i ((rn8.1).st)), (71, .pointer (some ⟨g5, 22, none⟩)), (72, E.i i.2.1.st), (73, E.i (i.2.1.st + 1)), (74, .bool false), (75, .bool false), (76, E.pt g9), (77, E.i rn8.2.1), (78, .bool (rn8.2.1 != 1)), (79, .bool (rn8.2.1 != 1)), (83, .bool false)] (A.X w oo aa [M.It i2.1.2 rn8.2.2.2 ([])]) [(g10, (Q.S.cells (rn8.1))), (g9, [E.i rn8.2.1, E.u rn8.2.2.1]), (i2.1.1, (E.pt i2.1.2 :: Q.S.cells (rn8.1))), (g5, (Q.S.cells i.2.1))] ?_ ?_)
  ·
   generalize hc22 : (rn8.2.1 != 1) = b23
   cases b23
   ·
    exact E.sk (E.sk (E.sk (E.vl (.bool false) (fun w h => E.run_as (a := .bool false) (by kernel_rfl) (rfl)) (E.G.end_pst ⟨by kernel_rfl, by kernel_rfl⟩ Nz.sub (fun _ h => h)))))
   exact E.op (E.pt g9) (E.li (E.i rn8.2.1) 1 rfl rfl (E.op (.bool (rn8.2.1 != 8)) (E.vl (.bool false) (fun w h => E.run_as (a := .bool (rn8.2.1 != 8)) (by kernel_rfl) (congrArg Value.bool (K.tr_k (K.tr_f horn8 hc13).2 (by assumption)))) (E.G.end_pst ⟨by kernel_rfl, by kernel_rfl⟩ Nz.sub (fun _ h => h)))))
  exact E.op (.bool false) (E.To.code (E.C.condF (by kernel_rfl) (by kernel_rfl) (E.C.skip (E.P.nb (E.To.code (E.C.region (E.op (E.i ((i.1 : Nat) : Int)) (E.vl (E.i ((i.1 + 1 : Nat) : Int)) (fun w h => E.run_as (a := E.i (IntKind.wrap .i64 (((i.1 : Nat) : Int) + 1))) (by kernel_rfl) (congrArg (Value.int .i64) (K.tr_i hk1.1))) (E.op (E.i ((i.1 + 1 : Nat) : Int)) (E.To.round (i.1 + 1, rn8.1, rn8.2.2.2) (by have := of_decide_eq_true hc4; show 20 - (i.1 + 1) < 20 - i.1; omega) (by have := of_decide_eq_true hc4; have := (K.tr_f horn8 hc13).1; exact ⟨by show i.1 + 1 ≤ 20; omega, hwrn8.1, hwrn8.2, by show 0 ≤ rn8.1.st; omega, by show rn8.1.st ≤ 16777215 + (((i.1 + 1 : Nat)) : Int); omega⟩) ⟨by kernel_rfl, by kernel_rfl⟩ Nz.sub (fun _ h => h)))))))))))
 refine E.C.exit (E.P.et (E.P.et (E.P.eh (E.To.code (E.sr (E.op (E.pt i2.1.1) (E.ca (Q.S.val i.2.1) (fun w h => A.cq [0] [1] (CState (c := i2.1.1) (m := i2.1.2) i.2.1) h) (E.nw (Q.S.cells Q.z0) 26 (fun g24 => E.st 0 (Q.S.cells i.2.1) rfl rfl (E.tr (E.op (E.pt i2.1.1) (E.op (.int .u8 n) (E.vl (E.i n) (fun w h => E.run_as (a := E.i (IntKind.wrap .i64 n)) (by kernel_rfl) (congrArg (Value.int .i64) (IntWalk.i64_in _ (by omega)))) (A.G.call (I := Unit) (D := fun _ => True) (V := fun _ => .agg #[E.i ((K.runs n i.2.1 i.2.2).2.1), E.u ((K.runs n i.2.1 i.2.2).2.2.1)]) (q := fun _ => [A.blk i2.1.1 (E.pt i2.1.2 :: Q.S.cells ((K.runs n i.2.1 i.2.2).1)), M.It i2.1.2 ((K.runs n i.2.1 i.2.2).2.2.2) ([])]) [A.blk g24 (Q.S.cells i.2.1)] (fun _ => [(i2.1.1, (E.pt i2.1.2 :: Q.S.cells ((K.runs n i.2.1 i.2.2).1))), (g24, (Q.S.cells i.2.1))]) (fun _ => [M.It i2.1.2 ((K.runs n i.2.1 i.2.2).2.2.2) ([])]) (CRun (c := i2.1.1) (m := i2.1.2) n i.2.1 i.2.2 (by omega) hk1.2.1 hk1.2.2.1) (by kernel_rfl) (A.pn [1, 2, 0]) (fun _ => A.pm [0, 2, 1] (by kernel_rfl) (by kernel_rfl)) (fun w _ => by kernel_rfl) (by kernel_rfl) (fun _ hd25 => ?_)))))))))))))))
 have hwrn26 := K.runs_wf (most := n) (s := i.2.1) (V := i.2.2) hk1.2.1 hk1.2.2.1
 generalize hrrn26 : K.runs n i.2.1 i.2.2 = rn26 at hwrn26 ⊢
 have horn26 := K.runs_count hrrn26 hn hk1.2.1 hk1.2.2.1 (by omega)
 refine E.nw [E.i 0, E.u 0] 47 (fun g27 => E.st 0 [E.i rn26.2.1, E.u rn26.2.2.1] rfl rfl (E.To.code (E.wk [(1, .int .u8 n), (4, .bool false), (5, .bool true), (6, E.pt i2.1.1), (13, E.pt g24), (14, E.pt g27)] [(g27, [E.i rn26.2.1, E.u rn26.2.2.1]), (i2.1.1, (E.pt i2.1.2 :: Q.S.cells (rn26.1))), (g24, (Q.S.cells i.2.1))] Nz.sub (E.C.seq (E.C.held (A.Y [A.blk g27 ([E.i rn26.2.1, E.u rn26.2.2.1]), A.blk g24 (Q.S.cells i.2.1)]) (by kernel_rfl) (E.tk 0 (E.pt i2.1.1) rfl (fun w h => A.hq [0, 2] [1, 3] h) (E.tk 3 (.pointer (some ⟨g24, 22, none⟩)) rfl (fun w h => A.hq [0, 2] [1, 3] h) (E.tj 4 (E.i i.2.1.st) rfl (fun w h => A.hq [0, 2] [1, 3] h) (fun w h => A.Y.bld h (k := 1) (j := 22) rfl (by kernel_rfl) (by kernel_rfl)) (E.al 1 rfl (E.ca (Q.S.val (rn26.1)) (fun w h => A.cq [1] [0, 2, 3] (CState (c := i2.1.1) (m := i2.1.2) (rn26.1)) h) (E.H.back (fun w h => A.hq [0, 2] [1, 3] h) ?_)))))))))))
 refine E.tk 2 (E.i ((rn26.1).st)) rfl (fun w h => A.hq [0, 2] [1, 3] h) (E.tj 5 (E.i (((rn26.1).st) - i.2.1.st)) rfl (fun w h => A.hq [0, 2] [1, 3] h) (fun w h => E.run_as (a := E.i (IntKind.wrap .i64 (((rn26.1).st) - i.2.1.st))) (by kernel_rfl) (congrArg (Value.int .i64) (IntWalk.i64_in _ (by omega)))) (E.tk 6 (E.i (((rn26.1).st) - i.2.1.st)) rfl (fun w h => A.hq [0, 2] [1, 3] h) (E.H.done (by kernel_rfl) (E.tr (E.op (.bool true) (E.op (.bool true) (E.op (E.i (((rn26.1).st) - i.2.1.st)) (E.vl (.bool true) (fun w h => E.run_as (a := .bool (decide ((((rn26.1).st) - i.2.1.st) ≥ 0))) (by kernel_rfl) (congrArg Value.bool (decide_eq_true (by omega)))) (E.op (.bool true) (E.op (.bool true) (E.op (E.i (((rn26.1).st) - i.2.1.st)) ?_)))))))))))
 refine E.op (.int .u8 n) (E.vl (E.i n) (fun w h => E.run_as (a := E.i (IntKind.wrap .i64 n)) (by kernel_rfl) (congrArg (Value.int .i64) (IntWalk.i64_in _ (by omega)))) (E.vl (.bool true) (fun w h => E.run_as (a := .bool (decide ((((rn26.1).st) - i.2.1.st) ≤ n))) (by kernel_rfl) (congrArg Value.bool (decide_eq_true (by omega)))) (E.op (.bool true) (E.op (.bool true) (E.op (E.pt g27) (E.li (E.i rn26.2.1) 0 rfl rfl (E.op (.bool (rn26.2.1 != 1)) (E.op (.bool (rn26.2.1 != 1)) (E.G.cut 5 [(4, .bool false), (6, E.pt i2.1.1), (108, .bool true), (117, .bool true)] (A.X w oo aa [M.It i2.1.2 rn26.2.2.2 ([])]) [(g27, [E.i rn26.2.1, E.u rn26.2.2.1]), (i2.1.1, (E.pt i2.1.2 :: Q.S.cells (rn26.1))), (g24, (Q.S.cells i.2.1))] ?_ ?_)))))))))
 ·
  generalize hc28 : (rn26.2.1 != 1) = b29
  cases b29
  ·
   exact E.op (E.i (((rn26.1).st) - i.2.1.st)) (E.op (.int .u8 n) (E.vl (E.i n) (fun w h => E.run_as (a := E.i (IntKind.wrap .i64 n)) (by kernel_rfl) (congrArg (Value.int .i64) (IntWalk.i64_in _ (by omega)))) (E.op (.bool ((((rn26.1).st) - i.2.1.st) == n)) (E.vl (.bool true) (fun w h => E.run_as (a := .bool ((((rn26.1).st) - i.2.1.st) == n)) (by kernel_rfl) (congrArg Value.bool (K.tr_d (by assumption) (by assumption)))) (E.G.end_pst ⟨by kernel_rfl, by kernel_rfl⟩ Nz.sub (fun _ h => h))))))
  exact E.sk (E.sk (E.sk (E.sk (E.vl (.bool true) (fun w h => E.run_as (a := .bool true) (by kernel_rfl) (rfl)) (E.G.end_pst ⟨by kernel_rfl, by kernel_rfl⟩ Nz.sub (fun _ h => h))))))
 exact E.op (.bool true) (E.op (.bool true) (E.op (E.pt i2.1.1) (A.G.call (I := Unit) (D := fun _ => True) (V := fun _ => .agg #[E.i ((K.runs 0 (rn26.1) rn26.2.2.2).2.1), E.u ((K.runs 0 (rn26.1) rn26.2.2.2).2.2.1)]) (q := fun _ => [A.blk i2.1.1 (E.pt i2.1.2 :: Q.S.cells ((K.runs 0 (rn26.1) rn26.2.2.2).1)), M.It i2.1.2 ((K.runs 0 (rn26.1) rn26.2.2.2).2.2.2) ([])]) [A.blk g27 ([E.i rn26.2.1, E.u rn26.2.2.1]), A.blk g24 (Q.S.cells i.2.1)] (fun _ => [(i2.1.1, (E.pt i2.1.2 :: Q.S.cells ((K.runs 0 (rn26.1) rn26.2.2.2).1))), (g27, [E.i rn26.2.1, E.u rn26.2.2.1]), (g24, (Q.S.cells i.2.1))]) (fun _ => [M.It i2.1.2 ((K.runs 0 (rn26.1) rn26.2.2.2).2.2.2) ([])]) (CRun (c := i2.1.1) (m := i2.1.2) 0 (rn26.1) rn26.2.2.2 (by decide) hwrn26.1 hwrn26.2) (by kernel_rfl) (A.pn [1, 3, 0, 2]) (fun _ => A.pm [0, 2, 3, 1] (by kernel_rfl) (by kernel_rfl)) (fun w _ => by kernel_rfl) (by kernel_rfl) (fun _ hd30 => E.op (E.i ((K.runs 0 (rn26.1) rn26.2.2.2).2.1)) (E.vl (.bool true) (fun w h => E.run_as (a := .bool (((K.runs 0 (rn26.1) rn26.2.2.2).2.1) != 2)) (by kernel_rfl) (congrArg Value.bool (K.tr_z))) (E.op (.bool true) (E.op (.bool true) (E.To.code (E.wk [(4, .bool true)] [] Nz.sub (E.C.ret (E.bd Tryz.f11 [.bool true] (fun w h => ⟨rfl, h.ch.bel (fun x hx => (hh.1 x hx).elim)⟩))))))))))))
theorem KcpuTraps_law (s : Q.S) (x0 x1 x2 x3 z a : Int) (code : ByteArray) (n : Int) (hs0 : K.sok s) (hx0 : 0 ≤ x0 ∧ x0 < 256) (hx1 : 0 ≤ x1 ∧ x1 < 256) (hx2 : 0 ≤ x2 ∧ x2 < 256) (hx3 : 0 ≤ x3 ∧ x3 < 256) (hz : 0 ≤ z ∧ z < 4294967296) (ha : 0 ≤ a ∧ a < 4294967296) (hcode : code.size ≤ maxLen) (hn : 0 ≤ n ∧ n < 256) (w : World) : Calls Tryz.prog 11 #[.agg (Q.S.cells s ++ [Value.int .u8 x0, Value.int .u8 x1, Value.int .u8 x2, Value.int .u8 x3, Value.int .u32 z, Value.int .u32 a, Value.string code]).toArray, .int .u8 n] w fun e w' => e = .returned (.bool true) ∧ Bel w w' := by
  have hb := K.tr_b (x := s.st)
  exact KcpuTraps_rd s x0 x1 x2 x3 z a code ha hx0 hx1 hx2 hx3 n hn _ _ rfl rfl (K.norm_wf ⟨hs0.wf.pc, hs0.wf.r, hs0.wf.c⟩) (K.bV_wf _ _ _ _ _ _ _) ⟨hb.1, by show _ ≤ (16777215 : Int) + 0; exact hb.2⟩ w _ _ ⟨fun _ h => h, fun _ h => h⟩
end Go.Proofs.YtglidnmmeclneaaGreat
