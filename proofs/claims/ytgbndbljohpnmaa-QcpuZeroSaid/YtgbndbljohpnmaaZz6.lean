/- Texts of the walk, merged (6): see the remark ahead of each. -/
import Derived.Test.YtgbndbljohpnmaaZz5
import Derived.Test.YtgbndbljohpnmaaProg
/- XQm -/
namespace Go.Proofs.Ytgbndbljohpnmaa
set_option linter.unusedVariables false
set_option linter.unusedSimpArgs false
open Go.RowKit
section
variable {most : Int} {F n : Nat} {s : Q.S} {V : M.V}
theorem Q.run_f (h : n < F) : ∃ f, F - n = f + 1 ∧ F - (n + 1) = f := ⟨F - (n + 1), by omega, rfl⟩
theorem Q.run_t (h : n < F) (h1 : (decide (s.du > 0) && decide (s.st ≥ s.du)) = true) : Q.run most (F - n) n s V = (s, 8, 0, V) := by
  obtain ⟨f, e, _⟩ := Q.run_f h
  rw [e, Q.run, h1]; rfl
theorem Q.run_b (h : n < F) (h1 : (decide (s.du > 0) && decide (s.st ≥ s.du)) = false) (h2 : decide (((n : Nat) : Int) ≥ most) = true) : Q.run most (F - n) n s V = (s, 1, 0, V) := by
  obtain ⟨f, e, _⟩ := Q.run_f h
  rw [e, Q.run, h1, h2]; rfl
theorem Q.run_s (h : n < F) (h1 : (decide (s.du > 0) && decide (s.st ≥ s.du)) = false) (h2 : decide (((n : Nat) : Int) ≥ most) = false) (h3 : ((Q.step s V).2.1 != 0) = true) : Q.run most (F - n) n s V = (s, (Q.step s V).2.1, (Q.step s V).2.2.1, (Q.step s V).2.2.2) := by
  obtain ⟨f, e, _⟩ := Q.run_f h
  rw [e, Q.run, h1, h2, h3]; rfl
theorem Q.run_n (h : n < F) (h1 : (decide (s.du > 0) && decide (s.st ≥ s.du)) = false) (h2 : decide (((n : Nat) : Int) ≥ most) = false) (h3 : ((Q.step s V).2.1 != 0) = false) : Q.run most (F - n) n s V = Q.run most (F - (n + 1)) (n + 1) (Q.step s V).1 (Q.step s V).2.2.2 := by
  obtain ⟨f, e, e2⟩ := Q.run_f h
  rw [e2, e, Q.run, h1, h2, h3]; rfl
theorem Q.run_lt (hm : most < 9223372036854775808) (h2 : decide (((n : Nat) : Int) ≥ most) = false) : n + 1 < most.toNat + 1 ∧ IntKind.wrap .i64 (((n : Nat) : Int) + 1) = ((n + 1 : Nat) : Int) := by
  have := of_decide_eq_false h2
  rw [IntKind.wrap_i64]
  omega
end
theorem CRun {c : Nat} (most : Int) (s : Q.S) (V : M.V) (hm : -9223372036854775808 ≤ most ∧ most < 9223372036854775808) (hs : Q.wf s) (hV : R.Wf V) : A.Tr Try.prog 20 #[.pointer (some ⟨c, 0, none⟩), .int .i64 most] [M.It c V (Q.S.cells s)] (I := Unit) (fun _ => True) (fun _ => .agg #[.int .i64 (Q.runs most s V).2.1, .int .u32 (Q.runs most s V).2.2.1]) (fun _ => [M.It c (Q.runs most s V).2.2.2 (Q.S.cells (Q.runs most s V).1)]) := by
  intro w oo aa hh
  refine E.enter (n := 54) (S := oo) Try.func20 rfl rfl (by kernel_rfl) (A.start (L := []) hh) ?_
  refine E.sr ?_
  refine E.G.new (fun g => .pointer (some ⟨g, 0, none⟩)) [.int .i64 0, .int .u32 0] 51 (fun w => by kernel_rfl) (by kernel_rfl) (fun g1 => ?_)
  refine E.tr ?_
  refine E.op (.int .i64 0) ?_
  refine E.To.code ?_
  refine E.C.block ?_
  refine E.C.loop (I := Nat × Q.S × M.V) (fun i => (most.toNat + 1) - i.1) (fun i => i.1 < (most.toNat + 1) ∧ Q.wf i.2.1 ∧ R.Wf i.2.2 ∧ Q.run most ((most.toNat + 1) - i.1) i.1 i.2.1 i.2.2 = (Q.runs most s V)) (fun i => [(0, .pointer (some ⟨c, 0, none⟩)), (1, .int .i64 most), (4, .pointer (some ⟨g1, 0, none⟩)), (5, .int .i64 ((i.1 : Nat) : Int))]) (fun i => A.X w oo aa [M.It c i.2.2 (Q.S.cells i.2.1)]) (fun i => [(g1, [.int .i64 0, .int .u32 0])]) (0, s, V) (⟨Nat.succ_pos _, hs, hV, rfl⟩) ⟨by kernel_rfl, by kernel_rfl⟩ (List.Sublist.refl _) (fun _ h => h) (fun i hk1 => ?_)
  refine E.C.seq ?_
  refine E.C.block ?_
  refine E.C.seq ?_
  refine E.C.seq ?_
  refine E.C.quiet (by kernel_rfl) (by kernel_rfl) ?_
  refine E.W.op (.pointer (some ⟨c, 0, none⟩)) (fun w => by kernel_rfl) (by kernel_rfl) ?_
  refine E.W.op (.pointer (some ⟨c, 0, none⟩)) (fun w => by kernel_rfl) (by kernel_rfl) ?_
  refine E.W.op (.pointer (some ⟨c, 2, none⟩)) (fun w => by kernel_rfl) (by kernel_rfl) ?_
  refine E.W.op (.pointer (some ⟨c, 25, none⟩)) (fun w => by kernel_rfl) (by kernel_rfl) ?_
  refine E.W.val (.int .i64 i.2.1.du) (by kernel_rfl) (fun w h => A.Y.xld (A.X.y h.x) (k := 0) (j := 23) rfl (by kernel_rfl) (by kernel_rfl)) ?_
  refine E.W.op (.bool (decide (i.2.1.du > 0))) (fun w => by kernel_rfl) (by kernel_rfl) ?_
  refine E.W.op (.bool (decide (i.2.1.du > 0))) (fun w => by kernel_rfl) (by kernel_rfl) ?_
  refine E.W.cut 12 [(0, .pointer (some ⟨c, 0, none⟩)), (1, .int .i64 most), (4, .pointer (some ⟨g1, 0, none⟩)), (5, .int .i64 ((i.1 : Nat) : Int)), (10, .pointer (some ⟨c, 0, none⟩)), (11, .pointer (some ⟨c, 0, none⟩)), (12, .pointer (some ⟨c, 2, none⟩)), (13, .pointer (some ⟨c, 25, none⟩)), (14, .int .i64 i.2.1.du), (15, .bool (decide (i.2.1.du > 0))), (16, .bool (decide (i.2.1.du > 0))), (28, .bool ((decide (i.2.1.du > 0)) && (decide (i.2.1.st ≥ i.2.1.du))))] ?_ ?_
  · generalize hc2 : (decide (i.2.1.du > 0)) = b3
    cases b3
    · skip
      refine E.W.skip (by kernel_rfl) (by kernel_rfl) ?_
      refine E.W.skip (by kernel_rfl) (by kernel_rfl) ?_
      refine E.W.skip (by kernel_rfl) (by kernel_rfl) ?_
      refine E.W.skip (by kernel_rfl) (by kernel_rfl) ?_
      refine E.W.skip (by kernel_rfl) (by kernel_rfl) ?_
      refine E.W.skip (by kernel_rfl) (by kernel_rfl) ?_
      refine E.W.skip (by kernel_rfl) (by kernel_rfl) ?_
      refine E.W.skip (by kernel_rfl) (by kernel_rfl) ?_
      refine E.W.skip (by kernel_rfl) (by kernel_rfl) ?_
      refine E.W.skip (by kernel_rfl) (by kernel_rfl) ?_
      refine E.W.skip (by kernel_rfl) (by kernel_rfl) ?_
      refine E.W.op (.bool false) (fun w => by kernel_rfl) (by kernel_rfl) ?_
      exact E.W.end_cut ⟨by kernel_rfl, by kernel_rfl⟩
    · skip
      refine E.W.op (.pointer (some ⟨c, 0, none⟩)) (fun w => by kernel_rfl) (by kernel_rfl) ?_
      refine E.W.op (.pointer (some ⟨c, 0, none⟩)) (fun w => by kernel_rfl) (by kernel_rfl) ?_
      refine E.W.op (.pointer (some ⟨c, 2, none⟩)) (fun w => by kernel_rfl) (by kernel_rfl) ?_
      refine E.W.op (.pointer (some ⟨c, 24, none⟩)) (fun w => by kernel_rfl) (by kernel_rfl) ?_
      refine E.W.val (.int .i64 i.2.1.st) (by kernel_rfl) (fun w h => A.Y.xld (A.X.y h.x) (k := 0) (j := 22) rfl (by kernel_rfl) (by kernel_rfl)) ?_
      refine E.W.op (.pointer (some ⟨c, 0, none⟩)) (fun w => by kernel_rfl) (by kernel_rfl) ?_
      refine E.W.op (.pointer (some ⟨c, 0, none⟩)) (fun w => by kernel_rfl) (by kernel_rfl) ?_
      refine E.W.op (.pointer (some ⟨c, 2, none⟩)) (fun w => by kernel_rfl) (by kernel_rfl) ?_
      refine E.W.op (.pointer (some ⟨c, 25, none⟩)) (fun w => by kernel_rfl) (by kernel_rfl) ?_
      refine E.W.val (.int .i64 i.2.1.du) (by kernel_rfl) (fun w h => A.Y.xld (A.X.y h.x) (k := 0) (j := 23) rfl (by kernel_rfl) (by kernel_rfl)) ?_
      refine E.W.op (.bool (decide (i.2.1.st ≥ i.2.1.du))) (fun w => by kernel_rfl) (by kernel_rfl) ?_
      refine E.W.op (.bool (decide (i.2.1.st ≥ i.2.1.du))) (fun w => by kernel_rfl) (by kernel_rfl) ?_
      exact E.W.end_cut ⟨by kernel_rfl, by kernel_rfl⟩
  refine E.W.done (E.To.code ?_)
  refine E.C.cond ((decide (i.2.1.du > 0)) && (decide (i.2.1.st ≥ i.2.1.du))) (by kernel_rfl) (by kernel_rfl) (fun hc4 => ?_) (fun hc4 => ?_)
  · skip
    refine E.sr ?_
    refine E.G.val (.agg #[.int .i64 8, .int .u32 0]) (by kernel_rfl) (fun w h => E.run_build #[.int .i64 8, .int .u32 0] (by kernel_rfl) w) ?_
    refine E.G.store 0 [.int .i64 8, .int .u32 0] rfl rfl (by kernel_rfl) (by kernel_rfl) ?_
    refine E.To.code ?_
    refine E.C.ret (E.P.rt (E.P.rb (E.P.rt (E.P.rt (E.P.rb (E.To.body (fn := Try.f20) [.agg #[.int .i64 8, .int .u32 0]] ?_ ?_))))))
    · exact ⟨⟨by kernel_rfl, _, _, 0, _, rfl, rfl, by kernel_rfl⟩, trivial⟩
    · intro w h
      have e := hk1.2.2.2
      rw [Q.run_t hk1.1 hc4] at e
      rw [← e]
      exact ⟨(), trivial, rfl, A.done (q := [M.It c i.2.2 (Q.S.cells i.2.1)]) (r := [A.blk g1 ([.int .i64 8, .int .u32 0])]) h (by kernel_rfl) (A.pm [1, 0] (by kernel_rfl) (by kernel_rfl))⟩
  · skip
    refine E.C.skip (E.To.code ?_)
    refine E.C.seq ?_
    refine E.sr ?_
    refine E.op (.int .i64 ((i.1 : Nat) : Int)) ?_
    refine E.op (.int .i64 most) ?_
    refine E.op (.bool (decide (((i.1 : Nat) : Int) ≥ most))) ?_
    refine E.To.code ?_
    refine E.C.cond (decide (((i.1 : Nat) : Int) ≥ most)) (by kernel_rfl) (by kernel_rfl) (fun hc5 => ?_) (fun hc5 => ?_)
    · skip
      refine E.sr ?_
      refine E.G.val (.agg #[.int .i64 1, .int .u32 0]) (by kernel_rfl) (fun w h => E.run_build #[.int .i64 1, .int .u32 0] (by kernel_rfl) w) ?_
      refine E.G.store 0 [.int .i64 1, .int .u32 0] rfl rfl (by kernel_rfl) (by kernel_rfl) ?_
      refine E.To.code ?_
      refine E.C.ret (E.P.rt (E.P.rb (E.P.rt (E.P.rt (E.P.rb (E.To.body (fn := Try.f20) [.agg #[.int .i64 1, .int .u32 0]] ?_ ?_))))))
      · exact ⟨⟨by kernel_rfl, _, _, 0, _, rfl, rfl, by kernel_rfl⟩, trivial⟩
      · intro w h
        have e := hk1.2.2.2
        rw [Q.run_b hk1.1 hc4 hc5] at e
        rw [← e]
        exact ⟨(), trivial, rfl, A.done (q := [M.It c i.2.2 (Q.S.cells i.2.1)]) (r := [A.blk g1 ([.int .i64 1, .int .u32 0])]) h (by kernel_rfl) (A.pm [1, 0] (by kernel_rfl) (by kernel_rfl))⟩
    · skip
      refine E.C.skip (E.To.code ?_)
      refine E.C.seq ?_
      refine E.C.held (M.Xc c (Q.S.cells i.2.1)) (by kernel_rfl) ?_
      refine E.H.gen (fun H up dn => ?_)
      have nd4 : ∀ (v1_g_6_1 : Nat) (v1_g_7_1 : Nat), H 0 (E.bits 16 65535) [(0, .pointer (some ⟨c, 0, none⟩)), (1, .int .i64 most), (4, .pointer (some ⟨g1, 0, none⟩)), (5, .int .i64 ((i.1 : Nat) : Int)), (6, .pointer (some ⟨v1_g_6_1, 0, none⟩)), (7, .pointer (some ⟨v1_g_7_1, 0, none⟩)), (10, .pointer (some ⟨c, 0, none⟩)), (11, .pointer (some ⟨c, 0, none⟩)), (12, .pointer (some ⟨c, 2, none⟩)), (13, .pointer (some ⟨c, 25, none⟩)), (14, .int .i64 i.2.1.du), (15, .bool (decide (i.2.1.du > 0))), (16, .bool (decide (i.2.1.du > 0))), (28, .bool ((decide (i.2.1.du > 0)) && (decide (i.2.1.st ≥ i.2.1.du)))), (30, .int .i64 ((i.1 : Nat) : Int)), (31, .int .i64 most), (32, .bool (decide (((i.1 : Nat) : Int) ≥ most))), (34, .tuple #[Q.S.val ((Q.step i.2.1 i.2.2).1), .agg #[.int .i64 ((Q.step i.2.1 i.2.2).2.1), .int .u32 ((Q.step i.2.1 i.2.2).2.2.1)]]), (35, .pointer (some ⟨c, 0, none⟩)), (36, .pointer (some ⟨c, 0, none⟩)), (37, .pointer (some ⟨c, 2, none⟩)), (38, Q.S.val i.2.1), (39, .pointer (some ⟨c, 0, none⟩)), (40, .pointer (some ⟨c, 0, none⟩)), (41, .pointer (some ⟨c, 0, none⟩)), (42, .iface 82 (.pointer (some ⟨c, 0, none⟩))), (43, .tuple #[Q.S.val ((Q.step i.2.1 i.2.2).1), .agg #[.int .i64 ((Q.step i.2.1 i.2.2).2.1), .int .u32 ((Q.step i.2.1 i.2.2).2.2.1)]]), (44, Q.S.val ((Q.step i.2.1 i.2.2).1)), (45, .agg #[.int .i64 ((Q.step i.2.1 i.2.2).2.1), .int .u32 ((Q.step i.2.1 i.2.2).2.2.1)])] (A.X w oo aa [M.It c ((Q.step i.2.1 i.2.2).2.2.2) (Q.S.cells i.2.1)]) [(v1_g_6_1, (Q.S.cells ((Q.step i.2.1 i.2.2).1))), (v1_g_7_1, [.int .i64 ((Q.step i.2.1 i.2.2).2.1), .int .u32 ((Q.step i.2.1 i.2.2).2.2.1)]), (g1, [.int .i64 0, .int .u32 0])] := by
        intro v1_g_6_1 v1_g_7_1
        refine up _ _ _ _ _ ?_
        refine E.H.done (by kernel_rfl) ?_
        refine E.To.code ?_
        refine E.C.seq ?_
        refine E.sr ?_
        refine E.op (.pointer (some ⟨v1_g_7_1, 0, none⟩)) ?_
        refine E.li (.int .i64 ((Q.step i.2.1 i.2.2).2.1)) 1 rfl rfl ?_
        refine E.op (.bool (((Q.step i.2.1 i.2.2).2.1) != 0)) ?_
        refine E.To.code ?_
        refine E.C.cond (((Q.step i.2.1 i.2.2).2.1) != 0) (by kernel_rfl) (by kernel_rfl) (fun hc6 => ?_) (fun hc6 => ?_)
        · skip
          refine E.sr ?_
          refine E.li (.agg #[.int .i64 ((Q.step i.2.1 i.2.2).2.1), .int .u32 ((Q.step i.2.1 i.2.2).2.2.1)]) 1 rfl rfl ?_
          refine E.G.store 2 [.int .i64 ((Q.step i.2.1 i.2.2).2.1), .int .u32 ((Q.step i.2.1 i.2.2).2.2.1)] rfl rfl (by kernel_rfl) (by kernel_rfl) ?_
          refine E.To.code ?_
          refine E.C.ret (E.P.rt (E.P.rb (E.P.rt (E.P.rt (E.P.rb (E.To.body (fn := Try.f20) [.agg #[.int .i64 ((Q.step i.2.1 i.2.2).2.1), .int .u32 ((Q.step i.2.1 i.2.2).2.2.1)]] ?_ ?_))))))
          · exact ⟨⟨by kernel_rfl, _, _, 2, _, rfl, rfl, by kernel_rfl⟩, trivial⟩
          · intro w h
            have e := hk1.2.2.2
            rw [Q.run_s hk1.1 hc4 hc5 hc6] at e
            rw [← e]
            exact ⟨(), trivial, rfl, A.done (q := [M.It c ((Q.step i.2.1 i.2.2).2.2.2) (Q.S.cells i.2.1)]) (r := [A.blk v1_g_6_1 (Q.S.cells ((Q.step i.2.1 i.2.2).1)), A.blk v1_g_7_1 ([.int .i64 ((Q.step i.2.1 i.2.2).2.1), .int .u32 ((Q.step i.2.1 i.2.2).2.2.1)]), A.blk g1 ([.int .i64 ((Q.step i.2.1 i.2.2).2.1), .int .u32 ((Q.step i.2.1 i.2.2).2.2.1)])]) h (by kernel_rfl) (A.pm [3, 0, 1, 2] (by kernel_rfl) (by kernel_rfl))⟩
        · skip
          refine E.C.skip (E.To.code ?_)
          refine E.C.region ?_
          refine E.op (.pointer (some ⟨c, 0, none⟩)) ?_
          refine E.li (Q.S.val ((Q.step i.2.1 i.2.2).1)) 0 rfl rfl ?_
          refine E.op (.pointer (some ⟨c, 0, none⟩)) ?_
          refine E.op (.pointer (some ⟨c, 2, none⟩)) ?_
          refine A.G.openM (m := c) (V := (Q.step i.2.1 i.2.2).2.2.2) (xs := (Q.S.cells i.2.1)) (fun b7 => [(c, (M.hdr b7 ++ (Q.S.cells i.2.1))), (v1_g_6_1, (Q.S.cells ((Q.step i.2.1 i.2.2).1))), (v1_g_7_1, [.int .i64 ((Q.step i.2.1 i.2.2).2.1), .int .u32 ((Q.step i.2.1 i.2.2).2.2.1)]), (g1, [.int .i64 0, .int .u32 0])]) (fun b7 => [M.Bd b7 ((Q.step i.2.1 i.2.2).2.2.2)]) [A.blk v1_g_6_1 (Q.S.cells ((Q.step i.2.1 i.2.2).1)), A.blk v1_g_7_1 ([.int .i64 ((Q.step i.2.1 i.2.2).2.1), .int .u32 ((Q.step i.2.1 i.2.2).2.2.1)]), A.blk g1 ([.int .i64 0, .int .u32 0])] (by kernel_rfl) (A.pm [3, 0, 1, 2] (by kernel_rfl) (by kernel_rfl)) (fun b7 => A.pm [0, 2, 3, 4, 1] (by kernel_rfl) (by kernel_rfl)) (fun b7 => ?_)
          refine E.G.store 0 (M.hdr b7 ++ (Q.S.cells ((Q.step i.2.1 i.2.2).1))) rfl rfl (by kernel_rfl) (by kernel_rfl) ?_
          refine A.G.closeM (b := b7) (m := c) (V := (Q.step i.2.1 i.2.2).2.2.2) (xs := (Q.S.cells ((Q.step i.2.1 i.2.2).1))) [(v1_g_6_1, (Q.S.cells ((Q.step i.2.1 i.2.2).1))), (v1_g_7_1, [.int .i64 ((Q.step i.2.1 i.2.2).2.1), .int .u32 ((Q.step i.2.1 i.2.2).2.2.1)]), (g1, [.int .i64 0, .int .u32 0])] [M.It c ((Q.step i.2.1 i.2.2).2.2.2) (Q.S.cells ((Q.step i.2.1 i.2.2).1))] [A.blk v1_g_6_1 (Q.S.cells ((Q.step i.2.1 i.2.2).1)), A.blk v1_g_7_1 ([.int .i64 ((Q.step i.2.1 i.2.2).2.1), .int .u32 ((Q.step i.2.1 i.2.2).2.2.1)]), A.blk g1 ([.int .i64 0, .int .u32 0])] (by kernel_rfl) (A.pm [0, 4, 1, 2, 3] (by kernel_rfl) (by kernel_rfl)) (A.pm [1, 2, 3, 0] (by kernel_rfl) (by kernel_rfl)) ?_
          refine E.P.nb (E.To.code ?_)
          refine E.C.region ?_
          refine E.op (.int .i64 ((i.1 : Nat) : Int)) ?_
          refine E.G.val (.int .i64 ((i.1 + 1 : Nat) : Int)) (by kernel_rfl) (fun w h => E.run_as (a := .int .i64 (IntKind.wrap .i64 (((i.1 : Nat) : Int) + 1))) (by kernel_rfl) (congrArg (Value.int .i64) (Q.run_lt hm.2 hc5).2)) ?_
          refine E.op (.int .i64 ((i.1 + 1 : Nat) : Int)) ?_
          exact E.To.round (i.1 + 1, (Q.step i.2.1 i.2.2).1, (Q.step i.2.1 i.2.2).2.2.2) (by show (most.toNat + 1) - (i.1 + 1) < (most.toNat + 1) - i.1; have := hk1.1; omega) (⟨(Q.run_lt hm.2 hc5).1, (Q.step_wf hk1.2.1 hk1.2.2.1).1, (Q.step_wf hk1.2.1 hk1.2.2.1).2, (Q.run_n hk1.1 hc4 hc5 hc6).symm.trans hk1.2.2.2⟩) ⟨by kernel_rfl, by kernel_rfl⟩ (List.Sublist.cons _ (List.Sublist.cons _ (List.Sublist.refl _))) (fun _ h => h)
      have nd3 : ∀ (v1_g_6_1 : Nat) (v1_g_7_1 : Nat), H 1 (E.bits 16 32767) [(0, .pointer (some ⟨c, 0, none⟩)), (1, .int .i64 most), (4, .pointer (some ⟨g1, 0, none⟩)), (5, .int .i64 ((i.1 : Nat) : Int)), (6, .pointer (some ⟨v1_g_6_1, 0, none⟩)), (7, .pointer (some ⟨v1_g_7_1, 0, none⟩)), (10, .pointer (some ⟨c, 0, none⟩)), (11, .pointer (some ⟨c, 0, none⟩)), (12, .pointer (some ⟨c, 2, none⟩)), (13, .pointer (some ⟨c, 25, none⟩)), (14, .int .i64 i.2.1.du), (15, .bool (decide (i.2.1.du > 0))), (16, .bool (decide (i.2.1.du > 0))), (28, .bool ((decide (i.2.1.du > 0)) && (decide (i.2.1.st ≥ i.2.1.du)))), (30, .int .i64 ((i.1 : Nat) : Int)), (31, .int .i64 most), (32, .bool (decide (((i.1 : Nat) : Int) ≥ most))), (34, .tuple #[Q.S.val ((Q.step i.2.1 i.2.2).1), .agg #[.int .i64 ((Q.step i.2.1 i.2.2).2.1), .int .u32 ((Q.step i.2.1 i.2.2).2.2.1)]]), (35, .pointer (some ⟨c, 0, none⟩)), (36, .pointer (some ⟨c, 0, none⟩)), (37, .pointer (some ⟨c, 2, none⟩)), (38, Q.S.val i.2.1), (39, .pointer (some ⟨c, 0, none⟩)), (40, .pointer (some ⟨c, 0, none⟩)), (41, .pointer (some ⟨c, 0, none⟩)), (42, .iface 82 (.pointer (some ⟨c, 0, none⟩))), (43, .tuple #[Q.S.val ((Q.step i.2.1 i.2.2).1), .agg #[.int .i64 ((Q.step i.2.1 i.2.2).2.1), .int .u32 ((Q.step i.2.1 i.2.2).2.2.1)]]), (44, Q.S.val ((Q.step i.2.1 i.2.2).1)), (45, .agg #[.int .i64 ((Q.step i.2.1 i.2.2).2.1), .int .u32 ((Q.step i.2.1 i.2.2).2.2.1)])] (A.X w oo aa [M.It c ((Q.step i.2.1 i.2.2).2.2.2) (Q.S.cells i.2.1)]) [(v1_g_6_1, (Q.S.cells ((Q.step i.2.1 i.2.2).1))), (v1_g_7_1, [.int .i64 0, .int .u32 0]), (g1, [.int .i64 0, .int .u32 0])] := by
        intro v1_g_6_1 v1_g_7_1
        refine up _ _ _ _ _ ?_
        refine E.H.all [15] (by kernel_rfl) (by simp) (List.forall_mem_cons.2 ⟨⟨_, rfl, ?_⟩, fun _ h => (List.not_mem_nil h).elim⟩)
        · skip
          refine E.G.store 1 [.int .i64 ((Q.step i.2.1 i.2.2).2.1), .int .u32 ((Q.step i.2.1 i.2.2).2.2.1)] rfl rfl (by kernel_rfl) (by kernel_rfl) ?_
          refine E.H.back (fun w h => A.Y.xc (A.X.y h.x) (k := 0) rfl) ?_
          exact E.H.to _ _ _ (by kernel_rfl) ⟨by kernel_rfl, by kernel_rfl⟩ (List.Sublist.refl _) (dn _ _ _ _ _ (nd4 v1_g_6_1 v1_g_7_1))
      have nd2 : ∀ (v1_g_6_1 : Nat) (v1_g_7_1 : Nat), H 2 (E.bits 16 16383) [(0, .pointer (some ⟨c, 0, none⟩)), (1, .int .i64 most), (4, .pointer (some ⟨g1, 0, none⟩)), (5, .int .i64 ((i.1 : Nat) : Int)), (6, .pointer (some ⟨v1_g_6_1, 0, none⟩)), (7, .pointer (some ⟨v1_g_7_1, 0, none⟩)), (10, .pointer (some ⟨c, 0, none⟩)), (11, .pointer (some ⟨c, 0, none⟩)), (12, .pointer (some ⟨c, 2, none⟩)), (13, .pointer (some ⟨c, 25, none⟩)), (14, .int .i64 i.2.1.du), (15, .bool (decide (i.2.1.du > 0))), (16, .bool (decide (i.2.1.du > 0))), (28, .bool ((decide (i.2.1.du > 0)) && (decide (i.2.1.st ≥ i.2.1.du)))), (30, .int .i64 ((i.1 : Nat) : Int)), (31, .int .i64 most), (32, .bool (decide (((i.1 : Nat) : Int) ≥ most))), (34, .tuple #[Q.S.val ((Q.step i.2.1 i.2.2).1), .agg #[.int .i64 ((Q.step i.2.1 i.2.2).2.1), .int .u32 ((Q.step i.2.1 i.2.2).2.2.1)]]), (35, .pointer (some ⟨c, 0, none⟩)), (36, .pointer (some ⟨c, 0, none⟩)), (37, .pointer (some ⟨c, 2, none⟩)), (38, Q.S.val i.2.1), (39, .pointer (some ⟨c, 0, none⟩)), (40, .pointer (some ⟨c, 0, none⟩)), (41, .pointer (some ⟨c, 0, none⟩)), (42, .iface 82 (.pointer (some ⟨c, 0, none⟩))), (43, .tuple #[Q.S.val ((Q.step i.2.1 i.2.2).1), .agg #[.int .i64 ((Q.step i.2.1 i.2.2).2.1), .int .u32 ((Q.step i.2.1 i.2.2).2.2.1)]]), (44, Q.S.val ((Q.step i.2.1 i.2.2).1)), (45, .agg #[.int .i64 ((Q.step i.2.1 i.2.2).2.1), .int .u32 ((Q.step i.2.1 i.2.2).2.2.1)])] (A.X w oo aa [M.It c ((Q.step i.2.1 i.2.2).2.2.2) (Q.S.cells i.2.1)]) [(v1_g_6_1, (Q.S.cells Q.z0)), (v1_g_7_1, [.int .i64 0, .int .u32 0]), (g1, [.int .i64 0, .int .u32 0])] := by
        intro v1_g_6_1 v1_g_7_1
        refine up _ _ _ _ _ ?_
        refine E.H.all [14] (by kernel_rfl) (by simp) (List.forall_mem_cons.2 ⟨⟨_, rfl, ?_⟩, fun _ h => (List.not_mem_nil h).elim⟩)
        · skip
          refine E.G.store 0 (Q.S.cells ((Q.step i.2.1 i.2.2).1)) rfl rfl (by kernel_rfl) (by kernel_rfl) ?_
          refine E.H.back (fun w h => A.Y.xc (A.X.y h.x) (k := 0) rfl) ?_
          exact E.H.to _ _ _ (by kernel_rfl) ⟨by kernel_rfl, by kernel_rfl⟩ (List.Sublist.refl _) (dn _ _ _ _ _ (nd3 v1_g_6_1 v1_g_7_1))
      have nd1 : ∀ (v1_g_6_1 : Nat), H 3 (E.bits 16 8191) [(0, .pointer (some ⟨c, 0, none⟩)), (1, .int .i64 most), (4, .pointer (some ⟨g1, 0, none⟩)), (5, .int .i64 ((i.1 : Nat) : Int)), (6, .pointer (some ⟨v1_g_6_1, 0, none⟩)), (10, .pointer (some ⟨c, 0, none⟩)), (11, .pointer (some ⟨c, 0, none⟩)), (12, .pointer (some ⟨c, 2, none⟩)), (13, .pointer (some ⟨c, 25, none⟩)), (14, .int .i64 i.2.1.du), (15, .bool (decide (i.2.1.du > 0))), (16, .bool (decide (i.2.1.du > 0))), (28, .bool ((decide (i.2.1.du > 0)) && (decide (i.2.1.st ≥ i.2.1.du)))), (30, .int .i64 ((i.1 : Nat) : Int)), (31, .int .i64 most), (32, .bool (decide (((i.1 : Nat) : Int) ≥ most))), (34, .tuple #[Q.S.val ((Q.step i.2.1 i.2.2).1), .agg #[.int .i64 ((Q.step i.2.1 i.2.2).2.1), .int .u32 ((Q.step i.2.1 i.2.2).2.2.1)]]), (35, .pointer (some ⟨c, 0, none⟩)), (36, .pointer (some ⟨c, 0, none⟩)), (37, .pointer (some ⟨c, 2, none⟩)), (38, Q.S.val i.2.1), (39, .pointer (some ⟨c, 0, none⟩)), (40, .pointer (some ⟨c, 0, none⟩)), (41, .pointer (some ⟨c, 0, none⟩)), (42, .iface 82 (.pointer (some ⟨c, 0, none⟩))), (43, .tuple #[Q.S.val ((Q.step i.2.1 i.2.2).1), .agg #[.int .i64 ((Q.step i.2.1 i.2.2).2.1), .int .u32 ((Q.step i.2.1 i.2.2).2.2.1)]]), (44, Q.S.val ((Q.step i.2.1 i.2.2).1)), (45, .agg #[.int .i64 ((Q.step i.2.1 i.2.2).2.1), .int .u32 ((Q.step i.2.1 i.2.2).2.2.1)])] (A.X w oo aa [M.It c ((Q.step i.2.1 i.2.2).2.2.2) (Q.S.cells i.2.1)]) [(v1_g_6_1, (Q.S.cells Q.z0)), (g1, [.int .i64 0, .int .u32 0])] := by
        intro v1_g_6_1
        refine up _ _ _ _ _ ?_
        refine E.H.all [13] (by kernel_rfl) (by simp) (List.forall_mem_cons.2 ⟨⟨_, rfl, ?_⟩, fun _ h => (List.not_mem_nil h).elim⟩)
        · skip
          refine E.G.new (fun g => .pointer (some ⟨g, 0, none⟩)) [.int .i64 0, .int .u32 0] 51 (fun w => by kernel_rfl) (by kernel_rfl) (fun v1_g_7_1 => ?_)
          refine E.H.back (fun w h => A.Y.xc (A.X.y h.x) (k := 0) rfl) ?_
          exact E.H.toP _ _ [(v1_g_6_1, (Q.S.cells Q.z0)), (v1_g_7_1, [.int .i64 0, .int .u32 0]), (g1, [.int .i64 0, .int .u32 0])] (by kernel_rfl) ⟨by kernel_rfl, by kernel_rfl⟩ (A.pm [1, 0, 2] (by kernel_rfl) (by kernel_rfl)) (dn _ _ _ _ _ (nd2 v1_g_6_1 v1_g_7_1))
      have nd5 : ∀ (v1_g_7_1 : Nat), H 3 (E.bits 16 12287) [(0, .pointer (some ⟨c, 0, none⟩)), (1, .int .i64 most), (4, .pointer (some ⟨g1, 0, none⟩)), (5, .int .i64 ((i.1 : Nat) : Int)), (7, .pointer (some ⟨v1_g_7_1, 0, none⟩)), (10, .pointer (some ⟨c, 0, none⟩)), (11, .pointer (some ⟨c, 0, none⟩)), (12, .pointer (some ⟨c, 2, none⟩)), (13, .pointer (some ⟨c, 25, none⟩)), (14, .int .i64 i.2.1.du), (15, .bool (decide (i.2.1.du > 0))), (16, .bool (decide (i.2.1.du > 0))), (28, .bool ((decide (i.2.1.du > 0)) && (decide (i.2.1.st ≥ i.2.1.du)))), (30, .int .i64 ((i.1 : Nat) : Int)), (31, .int .i64 most), (32, .bool (decide (((i.1 : Nat) : Int) ≥ most))), (34, .tuple #[Q.S.val ((Q.step i.2.1 i.2.2).1), .agg #[.int .i64 ((Q.step i.2.1 i.2.2).2.1), .int .u32 ((Q.step i.2.1 i.2.2).2.2.1)]]), (35, .pointer (some ⟨c, 0, none⟩)), (36, .pointer (some ⟨c, 0, none⟩)), (37, .pointer (some ⟨c, 2, none⟩)), (38, Q.S.val i.2.1), (39, .pointer (some ⟨c, 0, none⟩)), (40, .pointer (some ⟨c, 0, none⟩)), (41, .pointer (some ⟨c, 0, none⟩)), (42, .iface 82 (.pointer (some ⟨c, 0, none⟩))), (43, .tuple #[Q.S.val ((Q.step i.2.1 i.2.2).1), .agg #[.int .i64 ((Q.step i.2.1 i.2.2).2.1), .int .u32 ((Q.step i.2.1 i.2.2).2.2.1)]]), (44, Q.S.val ((Q.step i.2.1 i.2.2).1)), (45, .agg #[.int .i64 ((Q.step i.2.1 i.2.2).2.1), .int .u32 ((Q.step i.2.1 i.2.2).2.2.1)])] (A.X w oo aa [M.It c ((Q.step i.2.1 i.2.2).2.2.2) (Q.S.cells i.2.1)]) [(v1_g_7_1, [.int .i64 0, .int .u32 0]), (g1, [.int .i64 0, .int .u32 0])] := by
        intro v1_g_7_1
        refine up _ _ _ _ _ ?_
        refine E.H.all [12] (by kernel_rfl) (by simp) (List.forall_mem_cons.2 ⟨⟨_, rfl, ?_⟩, fun _ h => (List.not_mem_nil h).elim⟩)
        · skip
          refine E.G.new (fun g => .pointer (some ⟨g, 0, none⟩)) (Q.S.cells Q.z0) 27 (fun w => by kernel_rfl) (by kernel_rfl) (fun v1_g_6_1 => ?_)
          refine E.H.back (fun w h => A.Y.xc (A.X.y h.x) (k := 0) rfl) ?_
          exact E.H.to _ _ _ (by kernel_rfl) ⟨by kernel_rfl, by kernel_rfl⟩ (List.Sublist.refl _) (dn _ _ _ _ _ (nd2 v1_g_6_1 v1_g_7_1))
      have nd0 : H 7 (E.bits 16 511) [(0, .pointer (some ⟨c, 0, none⟩)), (1, .int .i64 most), (4, .pointer (some ⟨g1, 0, none⟩)), (5, .int .i64 ((i.1 : Nat) : Int)), (10, .pointer (some ⟨c, 0, none⟩)), (11, .pointer (some ⟨c, 0, none⟩)), (12, .pointer (some ⟨c, 2, none⟩)), (13, .pointer (some ⟨c, 25, none⟩)), (14, .int .i64 i.2.1.du), (15, .bool (decide (i.2.1.du > 0))), (16, .bool (decide (i.2.1.du > 0))), (28, .bool ((decide (i.2.1.du > 0)) && (decide (i.2.1.st ≥ i.2.1.du)))), (30, .int .i64 ((i.1 : Nat) : Int)), (31, .int .i64 most), (32, .bool (decide (((i.1 : Nat) : Int) ≥ most))), (35, .pointer (some ⟨c, 0, none⟩)), (36, .pointer (some ⟨c, 0, none⟩)), (37, .pointer (some ⟨c, 2, none⟩)), (38, Q.S.val i.2.1), (39, .pointer (some ⟨c, 0, none⟩)), (40, .pointer (some ⟨c, 0, none⟩)), (41, .pointer (some ⟨c, 0, none⟩)), (42, .iface 82 (.pointer (some ⟨c, 0, none⟩))), (43, .tuple #[Q.S.val ((Q.step i.2.1 i.2.2).1), .agg #[.int .i64 ((Q.step i.2.1 i.2.2).2.1), .int .u32 ((Q.step i.2.1 i.2.2).2.2.1)]])] (A.X w oo aa [M.It c ((Q.step i.2.1 i.2.2).2.2.2) (Q.S.cells i.2.1)]) [(g1, [.int .i64 0, .int .u32 0])] := by
        refine up _ _ _ _ _ ?_
        refine E.H.take 9 (.tuple #[Q.S.val ((Q.step i.2.1 i.2.2).1), .agg #[.int .i64 ((Q.step i.2.1 i.2.2).2.1), .int .u32 ((Q.step i.2.1 i.2.2).2.2.1)]]) rfl (by kernel_rfl) (by kernel_rfl) (by kernel_rfl) (fun _ _ _ h => h) (fun w h => A.Y.xc (A.X.y h.x) (k := 0) rfl) (.inl ⟨by kernel_rfl, by kernel_rfl, fun w h => by kernel_rfl⟩) (by kernel_rfl) ?_
        refine E.H.take 10 (Q.S.val ((Q.step i.2.1 i.2.2).1)) rfl (by kernel_rfl) (by kernel_rfl) (by kernel_rfl) (fun _ _ _ h => h) (fun w h => A.Y.xc (A.X.y h.x) (k := 0) rfl) (.inl ⟨by kernel_rfl, by kernel_rfl, fun w h => by kernel_rfl⟩) (by kernel_rfl) ?_
        refine E.H.take 11 (.agg #[.int .i64 ((Q.step i.2.1 i.2.2).2.1), .int .u32 ((Q.step i.2.1 i.2.2).2.2.1)]) rfl (by kernel_rfl) (by kernel_rfl) (by kernel_rfl) (fun _ _ _ h => h) (fun w h => A.Y.xc (A.X.y h.x) (k := 0) rfl) (.inl ⟨by kernel_rfl, by kernel_rfl, fun w h => by kernel_rfl⟩) (by kernel_rfl) ?_
        refine E.H.all [12, 13] (by kernel_rfl) (by simp) (List.forall_mem_cons.2 ⟨⟨_, rfl, ?_⟩, List.forall_mem_cons.2 ⟨⟨_, rfl, ?_⟩, fun _ h => (List.not_mem_nil h).elim⟩⟩)
        · skip
          refine E.G.new (fun g => .pointer (some ⟨g, 0, none⟩)) (Q.S.cells Q.z0) 27 (fun w => by kernel_rfl) (by kernel_rfl) (fun v1_g_6_1 => ?_)
          refine E.H.back (fun w h => A.Y.xc (A.X.y h.x) (k := 0) rfl) ?_
          exact E.H.to _ _ _ (by kernel_rfl) ⟨by kernel_rfl, by kernel_rfl⟩ (List.Sublist.refl _) (dn _ _ _ _ _ (nd1 v1_g_6_1))
        · skip
          refine E.G.new (fun g => .pointer (some ⟨g, 0, none⟩)) [.int .i64 0, .int .u32 0] 51 (fun w => by kernel_rfl) (by kernel_rfl) (fun v1_g_7_1 => ?_)
          refine E.H.back (fun w h => A.Y.xc (A.X.y h.x) (k := 0) rfl) ?_
          exact E.H.to _ _ _ (by kernel_rfl) ⟨by kernel_rfl, by kernel_rfl⟩ (List.Sublist.refl _) (dn _ _ _ _ _ (nd5 v1_g_7_1))
      have nd7 : ∀ (v1_g_6_1 : Nat), H 6 (E.bits 16 4607) [(0, .pointer (some ⟨c, 0, none⟩)), (1, .int .i64 most), (4, .pointer (some ⟨g1, 0, none⟩)), (5, .int .i64 ((i.1 : Nat) : Int)), (6, .pointer (some ⟨v1_g_6_1, 0, none⟩)), (10, .pointer (some ⟨c, 0, none⟩)), (11, .pointer (some ⟨c, 0, none⟩)), (12, .pointer (some ⟨c, 2, none⟩)), (13, .pointer (some ⟨c, 25, none⟩)), (14, .int .i64 i.2.1.du), (15, .bool (decide (i.2.1.du > 0))), (16, .bool (decide (i.2.1.du > 0))), (28, .bool ((decide (i.2.1.du > 0)) && (decide (i.2.1.st ≥ i.2.1.du)))), (30, .int .i64 ((i.1 : Nat) : Int)), (31, .int .i64 most), (32, .bool (decide (((i.1 : Nat) : Int) ≥ most))), (35, .pointer (some ⟨c, 0, none⟩)), (36, .pointer (some ⟨c, 0, none⟩)), (37, .pointer (some ⟨c, 2, none⟩)), (38, Q.S.val i.2.1), (39, .pointer (some ⟨c, 0, none⟩)), (40, .pointer (some ⟨c, 0, none⟩)), (41, .pointer (some ⟨c, 0, none⟩)), (42, .iface 82 (.pointer (some ⟨c, 0, none⟩))), (43, .tuple #[Q.S.val ((Q.step i.2.1 i.2.2).1), .agg #[.int .i64 ((Q.step i.2.1 i.2.2).2.1), .int .u32 ((Q.step i.2.1 i.2.2).2.2.1)]])] (A.X w oo aa [M.It c ((Q.step i.2.1 i.2.2).2.2.2) (Q.S.cells i.2.1)]) [(v1_g_6_1, (Q.S.cells Q.z0)), (g1, [.int .i64 0, .int .u32 0])] := by
        intro v1_g_6_1
        refine up _ _ _ _ _ ?_
        refine E.H.take 9 (.tuple #[Q.S.val ((Q.step i.2.1 i.2.2).1), .agg #[.int .i64 ((Q.step i.2.1 i.2.2).2.1), .int .u32 ((Q.step i.2.1 i.2.2).2.2.1)]]) rfl (by kernel_rfl) (by kernel_rfl) (by kernel_rfl) (fun _ _ _ h => h) (fun w h => A.Y.xc (A.X.y h.x) (k := 0) rfl) (.inl ⟨by kernel_rfl, by kernel_rfl, fun w h => by kernel_rfl⟩) (by kernel_rfl) ?_
        refine E.H.take 10 (Q.S.val ((Q.step i.2.1 i.2.2).1)) rfl (by kernel_rfl) (by kernel_rfl) (by kernel_rfl) (fun _ _ _ h => h) (fun w h => A.Y.xc (A.X.y h.x) (k := 0) rfl) (.inl ⟨by kernel_rfl, by kernel_rfl, fun w h => by kernel_rfl⟩) (by kernel_rfl) ?_
        refine E.H.take 11 (.agg #[.int .i64 ((Q.step i.2.1 i.2.2).2.1), .int .u32 ((Q.step i.2.1 i.2.2).2.2.1)]) rfl (by kernel_rfl) (by kernel_rfl) (by kernel_rfl) (fun _ _ _ h => h) (fun w h => A.Y.xc (A.X.y h.x) (k := 0) rfl) (.inl ⟨by kernel_rfl, by kernel_rfl, fun w h => by kernel_rfl⟩) (by kernel_rfl) ?_
        refine E.H.all [13] (by kernel_rfl) (by simp) (List.forall_mem_cons.2 ⟨⟨_, rfl, ?_⟩, fun _ h => (List.not_mem_nil h).elim⟩)
        · skip
          refine E.G.new (fun g => .pointer (some ⟨g, 0, none⟩)) [.int .i64 0, .int .u32 0] 51 (fun w => by kernel_rfl) (by kernel_rfl) (fun v1_g_7_1 => ?_)
          refine E.H.back (fun w h => A.Y.xc (A.X.y h.x) (k := 0) rfl) ?_
          exact E.H.toP _ _ [(v1_g_6_1, (Q.S.cells Q.z0)), (v1_g_7_1, [.int .i64 0, .int .u32 0]), (g1, [.int .i64 0, .int .u32 0])] (by kernel_rfl) ⟨by kernel_rfl, by kernel_rfl⟩ (A.pm [1, 0, 2] (by kernel_rfl) (by kernel_rfl)) (dn _ _ _ _ _ (nd2 v1_g_6_1 v1_g_7_1))
      have nd9 : ∀ (v1_g_6_1 : Nat) (v1_g_7_1 : Nat), H 5 (E.bits 16 12799) [(0, .pointer (some ⟨c, 0, none⟩)), (1, .int .i64 most), (4, .pointer (some ⟨g1, 0, none⟩)), (5, .int .i64 ((i.1 : Nat) : Int)), (6, .pointer (some ⟨v1_g_6_1, 0, none⟩)), (7, .pointer (some ⟨v1_g_7_1, 0, none⟩)), (10, .pointer (some ⟨c, 0, none⟩)), (11, .pointer (some ⟨c, 0, none⟩)), (12, .pointer (some ⟨c, 2, none⟩)), (13, .pointer (some ⟨c, 25, none⟩)), (14, .int .i64 i.2.1.du), (15, .bool (decide (i.2.1.du > 0))), (16, .bool (decide (i.2.1.du > 0))), (28, .bool ((decide (i.2.1.du > 0)) && (decide (i.2.1.st ≥ i.2.1.du)))), (30, .int .i64 ((i.1 : Nat) : Int)), (31, .int .i64 most), (32, .bool (decide (((i.1 : Nat) : Int) ≥ most))), (35, .pointer (some ⟨c, 0, none⟩)), (36, .pointer (some ⟨c, 0, none⟩)), (37, .pointer (some ⟨c, 2, none⟩)), (38, Q.S.val i.2.1), (39, .pointer (some ⟨c, 0, none⟩)), (40, .pointer (some ⟨c, 0, none⟩)), (41, .pointer (some ⟨c, 0, none⟩)), (42, .iface 82 (.pointer (some ⟨c, 0, none⟩))), (43, .tuple #[Q.S.val ((Q.step i.2.1 i.2.2).1), .agg #[.int .i64 ((Q.step i.2.1 i.2.2).2.1), .int .u32 ((Q.step i.2.1 i.2.2).2.2.1)]])] (A.X w oo aa [M.It c ((Q.step i.2.1 i.2.2).2.2.2) (Q.S.cells i.2.1)]) [(v1_g_6_1, (Q.S.cells Q.z0)), (v1_g_7_1, [.int .i64 0, .int .u32 0]), (g1, [.int .i64 0, .int .u32 0])] := by
        intro v1_g_6_1 v1_g_7_1
        refine up _ _ _ _ _ ?_
        refine E.H.take 9 (.tuple #[Q.S.val ((Q.step i.2.1 i.2.2).1), .agg #[.int .i64 ((Q.step i.2.1 i.2.2).2.1), .int .u32 ((Q.step i.2.1 i.2.2).2.2.1)]]) rfl (by kernel_rfl) (by kernel_rfl) (by kernel_rfl) (fun _ _ _ h => h) (fun w h => A.Y.xc (A.X.y h.x) (k := 0) rfl) (.inl ⟨by kernel_rfl, by kernel_rfl, fun w h => by kernel_rfl⟩) (by kernel_rfl) ?_
        refine E.H.take 10 (Q.S.val ((Q.step i.2.1 i.2.2).1)) rfl (by kernel_rfl) (by kernel_rfl) (by kernel_rfl) (fun _ _ _ h => h) (fun w h => A.Y.xc (A.X.y h.x) (k := 0) rfl) (.inl ⟨by kernel_rfl, by kernel_rfl, fun w h => by kernel_rfl⟩) (by kernel_rfl) ?_
        refine E.H.take 11 (.agg #[.int .i64 ((Q.step i.2.1 i.2.2).2.1), .int .u32 ((Q.step i.2.1 i.2.2).2.2.1)]) rfl (by kernel_rfl) (by kernel_rfl) (by kernel_rfl) (fun _ _ _ h => h) (fun w h => A.Y.xc (A.X.y h.x) (k := 0) rfl) (.inl ⟨by kernel_rfl, by kernel_rfl, fun w h => by kernel_rfl⟩) (by kernel_rfl) ?_
        refine E.H.all [14] (by kernel_rfl) (by simp) (List.forall_mem_cons.2 ⟨⟨_, rfl, ?_⟩, fun _ h => (List.not_mem_nil h).elim⟩)
        · skip
          refine E.G.store 0 (Q.S.cells ((Q.step i.2.1 i.2.2).1)) rfl rfl (by kernel_rfl) (by kernel_rfl) ?_
          refine E.H.back (fun w h => A.Y.xc (A.X.y h.x) (k := 0) rfl) ?_
          exact E.H.to _ _ _ (by kernel_rfl) ⟨by kernel_rfl, by kernel_rfl⟩ (List.Sublist.refl _) (dn _ _ _ _ _ (nd3 v1_g_6_1 v1_g_7_1))
      have nd8 : ∀ (v1_g_6_1 : Nat) (v1_g_7_1 : Nat), H 6 (E.bits 16 12543) [(0, .pointer (some ⟨c, 0, none⟩)), (1, .int .i64 most), (4, .pointer (some ⟨g1, 0, none⟩)), (5, .int .i64 ((i.1 : Nat) : Int)), (6, .pointer (some ⟨v1_g_6_1, 0, none⟩)), (7, .pointer (some ⟨v1_g_7_1, 0, none⟩)), (10, .pointer (some ⟨c, 0, none⟩)), (11, .pointer (some ⟨c, 0, none⟩)), (12, .pointer (some ⟨c, 2, none⟩)), (13, .pointer (some ⟨c, 25, none⟩)), (14, .int .i64 i.2.1.du), (15, .bool (decide (i.2.1.du > 0))), (16, .bool (decide (i.2.1.du > 0))), (28, .bool ((decide (i.2.1.du > 0)) && (decide (i.2.1.st ≥ i.2.1.du)))), (30, .int .i64 ((i.1 : Nat) : Int)), (31, .int .i64 most), (32, .bool (decide (((i.1 : Nat) : Int) ≥ most))), (35, .pointer (some ⟨c, 0, none⟩)), (36, .pointer (some ⟨c, 0, none⟩)), (37, .pointer (some ⟨c, 2, none⟩)), (38, Q.S.val i.2.1), (39, .pointer (some ⟨c, 0, none⟩)), (40, .pointer (some ⟨c, 0, none⟩)), (41, .pointer (some ⟨c, 0, none⟩)), (42, .iface 82 (.pointer (some ⟨c, 0, none⟩)))] (A.X w oo aa [M.It c i.2.2 (Q.S.cells i.2.1)]) [(v1_g_6_1, (Q.S.cells Q.z0)), (v1_g_7_1, [.int .i64 0, .int .u32 0]), (g1, [.int .i64 0, .int .u32 0])] := by
        intro v1_g_6_1 v1_g_7_1
        refine up _ _ _ _ _ ?_
        refine E.H.all [8] (by kernel_rfl) (by simp) (List.forall_mem_cons.2 ⟨⟨_, rfl, ?_⟩, fun _ h => (List.not_mem_nil h).elim⟩)
        · skip
          refine A.G.call (I := Unit) (D := fun _ => True) (V := fun _ => .tuple #[Q.S.val ((Q.step i.2.1 i.2.2).1), .agg #[.int .i64 ((Q.step i.2.1 i.2.2).2.1), .int .u32 ((Q.step i.2.1 i.2.2).2.2.1)]]) (q := fun _ => [M.It c ((Q.step i.2.1 i.2.2).2.2.2) (Q.S.cells i.2.1)]) [A.blk v1_g_6_1 (Q.S.cells Q.z0), A.blk v1_g_7_1 ([.int .i64 0, .int .u32 0]), A.blk g1 ([.int .i64 0, .int .u32 0])] (fun _ => [(v1_g_6_1, (Q.S.cells Q.z0)), (v1_g_7_1, [.int .i64 0, .int .u32 0]), (g1, [.int .i64 0, .int .u32 0])]) (fun _ => [M.It c ((Q.step i.2.1 i.2.2).2.2.2) (Q.S.cells i.2.1)]) (Step_any (m := c) (xs := (Q.S.cells i.2.1)) i.2.1 i.2.2 hk1.2.1) (by kernel_rfl) (A.pm [3, 0, 1, 2] (by kernel_rfl) (by kernel_rfl)) (fun _ => A.pm [1, 2, 3, 0] (by kernel_rfl) (by kernel_rfl)) (fun w _ => by kernel_rfl) (by kernel_rfl) (fun _ v1_hd_43_1 => ?_)
          refine E.H.back (fun w h => A.Y.xc (A.X.y h.x) (k := 0) rfl) ?_
          exact E.H.to _ _ _ (by kernel_rfl) ⟨by kernel_rfl, by kernel_rfl⟩ (List.Sublist.refl _) (dn _ _ _ _ _ (nd9 v1_g_6_1 v1_g_7_1))
      have nd6 : ∀ (v1_g_6_1 : Nat), H 7 (E.bits 16 4351) [(0, .pointer (some ⟨c, 0, none⟩)), (1, .int .i64 most), (4, .pointer (some ⟨g1, 0, none⟩)), (5, .int .i64 ((i.1 : Nat) : Int)), (6, .pointer (some ⟨v1_g_6_1, 0, none⟩)), (10, .pointer (some ⟨c, 0, none⟩)), (11, .pointer (some ⟨c, 0, none⟩)), (12, .pointer (some ⟨c, 2, none⟩)), (13, .pointer (some ⟨c, 25, none⟩)), (14, .int .i64 i.2.1.du), (15, .bool (decide (i.2.1.du > 0))), (16, .bool (decide (i.2.1.du > 0))), (28, .bool ((decide (i.2.1.du > 0)) && (decide (i.2.1.st ≥ i.2.1.du)))), (30, .int .i64 ((i.1 : Nat) : Int)), (31, .int .i64 most), (32, .bool (decide (((i.1 : Nat) : Int) ≥ most))), (35, .pointer (some ⟨c, 0, none⟩)), (36, .pointer (some ⟨c, 0, none⟩)), (37, .pointer (some ⟨c, 2, none⟩)), (38, Q.S.val i.2.1), (39, .pointer (some ⟨c, 0, none⟩)), (40, .pointer (some ⟨c, 0, none⟩)), (41, .pointer (some ⟨c, 0, none⟩)), (42, .iface 82 (.pointer (some ⟨c, 0, none⟩)))] (A.X w oo aa [M.It c i.2.2 (Q.S.cells i.2.1)]) [(v1_g_6_1, (Q.S.cells Q.z0)), (g1, [.int .i64 0, .int .u32 0])] := by
        intro v1_g_6_1
        refine up _ _ _ _ _ ?_
        refine E.H.all [8, 13] (by kernel_rfl) (by simp) (List.forall_mem_cons.2 ⟨⟨_, rfl, ?_⟩, List.forall_mem_cons.2 ⟨⟨_, rfl, ?_⟩, fun _ h => (List.not_mem_nil h).elim⟩⟩)
        · skip
          refine A.G.call (I := Unit) (D := fun _ => True) (V := fun _ => .tuple #[Q.S.val ((Q.step i.2.1 i.2.2).1), .agg #[.int .i64 ((Q.step i.2.1 i.2.2).2.1), .int .u32 ((Q.step i.2.1 i.2.2).2.2.1)]]) (q := fun _ => [M.It c ((Q.step i.2.1 i.2.2).2.2.2) (Q.S.cells i.2.1)]) [A.blk v1_g_6_1 (Q.S.cells Q.z0), A.blk g1 ([.int .i64 0, .int .u32 0])] (fun _ => [(v1_g_6_1, (Q.S.cells Q.z0)), (g1, [.int .i64 0, .int .u32 0])]) (fun _ => [M.It c ((Q.step i.2.1 i.2.2).2.2.2) (Q.S.cells i.2.1)]) (Step_any (m := c) (xs := (Q.S.cells i.2.1)) i.2.1 i.2.2 hk1.2.1) (by kernel_rfl) (A.pm [2, 0, 1] (by kernel_rfl) (by kernel_rfl)) (fun _ => A.pm [1, 2, 0] (by kernel_rfl) (by kernel_rfl)) (fun w _ => by kernel_rfl) (by kernel_rfl) (fun _ v1_hd_43_1 => ?_)
          refine E.H.back (fun w h => A.Y.xc (A.X.y h.x) (k := 0) rfl) ?_
          exact E.H.to _ _ _ (by kernel_rfl) ⟨by kernel_rfl, by kernel_rfl⟩ (List.Sublist.refl _) (dn _ _ _ _ _ (nd7 v1_g_6_1))
        · skip
          refine E.G.new (fun g => .pointer (some ⟨g, 0, none⟩)) [.int .i64 0, .int .u32 0] 51 (fun w => by kernel_rfl) (by kernel_rfl) (fun v1_g_7_1 => ?_)
          refine E.H.back (fun w h => A.Y.xc (A.X.y h.x) (k := 0) rfl) ?_
          exact E.H.toP _ _ [(v1_g_6_1, (Q.S.cells Q.z0)), (v1_g_7_1, [.int .i64 0, .int .u32 0]), (g1, [.int .i64 0, .int .u32 0])] (by kernel_rfl) ⟨by kernel_rfl, by kernel_rfl⟩ (A.pm [1, 0, 2] (by kernel_rfl) (by kernel_rfl)) (dn _ _ _ _ _ (nd8 v1_g_6_1 v1_g_7_1))
      have nd11 : ∀ (v1_g_7_1 : Nat), H 6 (E.bits 16 8703) [(0, .pointer (some ⟨c, 0, none⟩)), (1, .int .i64 most), (4, .pointer (some ⟨g1, 0, none⟩)), (5, .int .i64 ((i.1 : Nat) : Int)), (7, .pointer (some ⟨v1_g_7_1, 0, none⟩)), (10, .pointer (some ⟨c, 0, none⟩)), (11, .pointer (some ⟨c, 0, none⟩)), (12, .pointer (some ⟨c, 2, none⟩)), (13, .pointer (some ⟨c, 25, none⟩)), (14, .int .i64 i.2.1.du), (15, .bool (decide (i.2.1.du > 0))), (16, .bool (decide (i.2.1.du > 0))), (28, .bool ((decide (i.2.1.du > 0)) && (decide (i.2.1.st ≥ i.2.1.du)))), (30, .int .i64 ((i.1 : Nat) : Int)), (31, .int .i64 most), (32, .bool (decide (((i.1 : Nat) : Int) ≥ most))), (35, .pointer (some ⟨c, 0, none⟩)), (36, .pointer (some ⟨c, 0, none⟩)), (37, .pointer (some ⟨c, 2, none⟩)), (38, Q.S.val i.2.1), (39, .pointer (some ⟨c, 0, none⟩)), (40, .pointer (some ⟨c, 0, none⟩)), (41, .pointer (some ⟨c, 0, none⟩)), (42, .iface 82 (.pointer (some ⟨c, 0, none⟩))), (43, .tuple #[Q.S.val ((Q.step i.2.1 i.2.2).1), .agg #[.int .i64 ((Q.step i.2.1 i.2.2).2.1), .int .u32 ((Q.step i.2.1 i.2.2).2.2.1)]])] (A.X w oo aa [M.It c ((Q.step i.2.1 i.2.2).2.2.2) (Q.S.cells i.2.1)]) [(v1_g_7_1, [.int .i64 0, .int .u32 0]), (g1, [.int .i64 0, .int .u32 0])] := by
        intro v1_g_7_1
        refine up _ _ _ _ _ ?_
        refine E.H.take 9 (.tuple #[Q.S.val ((Q.step i.2.1 i.2.2).1), .agg #[.int .i64 ((Q.step i.2.1 i.2.2).2.1), .int .u32 ((Q.step i.2.1 i.2.2).2.2.1)]]) rfl (by kernel_rfl) (by kernel_rfl) (by kernel_rfl) (fun _ _ _ h => h) (fun w h => A.Y.xc (A.X.y h.x) (k := 0) rfl) (.inl ⟨by kernel_rfl, by kernel_rfl, fun w h => by kernel_rfl⟩) (by kernel_rfl) ?_
        refine E.H.take 10 (Q.S.val ((Q.step i.2.1 i.2.2).1)) rfl (by kernel_rfl) (by kernel_rfl) (by kernel_rfl) (fun _ _ _ h => h) (fun w h => A.Y.xc (A.X.y h.x) (k := 0) rfl) (.inl ⟨by kernel_rfl, by kernel_rfl, fun w h => by kernel_rfl⟩) (by kernel_rfl) ?_
        refine E.H.take 11 (.agg #[.int .i64 ((Q.step i.2.1 i.2.2).2.1), .int .u32 ((Q.step i.2.1 i.2.2).2.2.1)]) rfl (by kernel_rfl) (by kernel_rfl) (by kernel_rfl) (fun _ _ _ h => h) (fun w h => A.Y.xc (A.X.y h.x) (k := 0) rfl) (.inl ⟨by kernel_rfl, by kernel_rfl, fun w h => by kernel_rfl⟩) (by kernel_rfl) ?_
        refine E.H.all [12] (by kernel_rfl) (by simp) (List.forall_mem_cons.2 ⟨⟨_, rfl, ?_⟩, fun _ h => (List.not_mem_nil h).elim⟩)
        · skip
          refine E.G.new (fun g => .pointer (some ⟨g, 0, none⟩)) (Q.S.cells Q.z0) 27 (fun w => by kernel_rfl) (by kernel_rfl) (fun v1_g_6_1 => ?_)
          refine E.H.back (fun w h => A.Y.xc (A.X.y h.x) (k := 0) rfl) ?_
          exact E.H.to _ _ _ (by kernel_rfl) ⟨by kernel_rfl, by kernel_rfl⟩ (List.Sublist.refl _) (dn _ _ _ _ _ (nd2 v1_g_6_1 v1_g_7_1))
      have nd10 : ∀ (v1_g_7_1 : Nat), H 7 (E.bits 16 8447) [(0, .pointer (some ⟨c, 0, none⟩)), (1, .int .i64 most), (4, .pointer (some ⟨g1, 0, none⟩)), (5, .int .i64 ((i.1 : Nat) : Int)), (7, .pointer (some ⟨v1_g_7_1, 0, none⟩)), (10, .pointer (some ⟨c, 0, none⟩)), (11, .pointer (some ⟨c, 0, none⟩)), (12, .pointer (some ⟨c, 2, none⟩)), (13, .pointer (some ⟨c, 25, none⟩)), (14, .int .i64 i.2.1.du), (15, .bool (decide (i.2.1.du > 0))), (16, .bool (decide (i.2.1.du > 0))), (28, .bool ((decide (i.2.1.du > 0)) && (decide (i.2.1.st ≥ i.2.1.du)))), (30, .int .i64 ((i.1 : Nat) : Int)), (31, .int .i64 most), (32, .bool (decide (((i.1 : Nat) : Int) ≥ most))), (35, .pointer (some ⟨c, 0, none⟩)), (36, .pointer (some ⟨c, 0, none⟩)), (37, .pointer (some ⟨c, 2, none⟩)), (38, Q.S.val i.2.1), (39, .pointer (some ⟨c, 0, none⟩)), (40, .pointer (some ⟨c, 0, none⟩)), (41, .pointer (some ⟨c, 0, none⟩)), (42, .iface 82 (.pointer (some ⟨c, 0, none⟩)))] (A.X w oo aa [M.It c i.2.2 (Q.S.cells i.2.1)]) [(v1_g_7_1, [.int .i64 0, .int .u32 0]), (g1, [.int .i64 0, .int .u32 0])] := by
        intro v1_g_7_1
        refine up _ _ _ _ _ ?_
        refine E.H.all [8, 12] (by kernel_rfl) (by simp) (List.forall_mem_cons.2 ⟨⟨_, rfl, ?_⟩, List.forall_mem_cons.2 ⟨⟨_, rfl, ?_⟩, fun _ h => (List.not_mem_nil h).elim⟩⟩)
        · skip
          refine A.G.call (I := Unit) (D := fun _ => True) (V := fun _ => .tuple #[Q.S.val ((Q.step i.2.1 i.2.2).1), .agg #[.int .i64 ((Q.step i.2.1 i.2.2).2.1), .int .u32 ((Q.step i.2.1 i.2.2).2.2.1)]]) (q := fun _ => [M.It c ((Q.step i.2.1 i.2.2).2.2.2) (Q.S.cells i.2.1)]) [A.blk v1_g_7_1 ([.int .i64 0, .int .u32 0]), A.blk g1 ([.int .i64 0, .int .u32 0])] (fun _ => [(v1_g_7_1, [.int .i64 0, .int .u32 0]), (g1, [.int .i64 0, .int .u32 0])]) (fun _ => [M.It c ((Q.step i.2.1 i.2.2).2.2.2) (Q.S.cells i.2.1)]) (Step_any (m := c) (xs := (Q.S.cells i.2.1)) i.2.1 i.2.2 hk1.2.1) (by kernel_rfl) (A.pm [2, 0, 1] (by kernel_rfl) (by kernel_rfl)) (fun _ => A.pm [1, 2, 0] (by kernel_rfl) (by kernel_rfl)) (fun w _ => by kernel_rfl) (by kernel_rfl) (fun _ v1_hd_43_1 => ?_)
          refine E.H.back (fun w h => A.Y.xc (A.X.y h.x) (k := 0) rfl) ?_
          exact E.H.to _ _ _ (by kernel_rfl) ⟨by kernel_rfl, by kernel_rfl⟩ (List.Sublist.refl _) (dn _ _ _ _ _ (nd11 v1_g_7_1))
        · skip
          refine E.G.new (fun g => .pointer (some ⟨g, 0, none⟩)) (Q.S.cells Q.z0) 27 (fun w => by kernel_rfl) (by kernel_rfl) (fun v1_g_6_1 => ?_)
          refine E.H.back (fun w h => A.Y.xc (A.X.y h.x) (k := 0) rfl) ?_
          exact E.H.to _ _ _ (by kernel_rfl) ⟨by kernel_rfl, by kernel_rfl⟩ (List.Sublist.refl _) (dn _ _ _ _ _ (nd8 v1_g_6_1 v1_g_7_1))
      refine up _ _ _ _ _ ?_
      refine E.H.take 0 (.pointer (some ⟨c, 0, none⟩)) rfl (by kernel_rfl) (by kernel_rfl) (by kernel_rfl) (fun _ _ _ h => h) (fun w h => A.Y.xc (A.X.y h.x) (k := 0) rfl) (.inl ⟨by kernel_rfl, by kernel_rfl, fun w h => by kernel_rfl⟩) (by kernel_rfl) ?_
      refine E.H.take 1 (.pointer (some ⟨c, 0, none⟩)) rfl (by kernel_rfl) (by kernel_rfl) (by kernel_rfl) (fun _ _ _ h => h) (fun w h => A.Y.xc (A.X.y h.x) (k := 0) rfl) (.inl ⟨by kernel_rfl, by kernel_rfl, fun w h => by kernel_rfl⟩) (by kernel_rfl) ?_
      refine E.H.take 2 (.pointer (some ⟨c, 2, none⟩)) rfl (by kernel_rfl) (by kernel_rfl) (by kernel_rfl) (fun _ _ _ h => h) (fun w h => A.Y.xc (A.X.y h.x) (k := 0) rfl) (.inl ⟨by kernel_rfl, by kernel_rfl, fun w h => by kernel_rfl⟩) (by kernel_rfl) ?_
      refine E.H.take 3 (Q.S.val i.2.1) rfl (by kernel_rfl) (by kernel_rfl) (by kernel_rfl) (fun _ _ _ h => h) (fun w h => A.Y.xc (A.X.y h.x) (k := 0) rfl) (.inl ⟨by kernel_rfl, by kernel_rfl, fun w h => M.Xc.ld (j := 0) h (by kernel_rfl) (by kernel_rfl)⟩) (by kernel_rfl) ?_
      refine E.H.take 4 (.pointer (some ⟨c, 0, none⟩)) rfl (by kernel_rfl) (by kernel_rfl) (by kernel_rfl) (fun _ _ _ h => h) (fun w h => A.Y.xc (A.X.y h.x) (k := 0) rfl) (.inl ⟨by kernel_rfl, by kernel_rfl, fun w h => by kernel_rfl⟩) (by kernel_rfl) ?_
      refine E.H.take 5 (.pointer (some ⟨c, 0, none⟩)) rfl (by kernel_rfl) (by kernel_rfl) (by kernel_rfl) (fun _ _ _ h => h) (fun w h => A.Y.xc (A.X.y h.x) (k := 0) rfl) (.inl ⟨by kernel_rfl, by kernel_rfl, fun w h => by kernel_rfl⟩) (by kernel_rfl) ?_
      refine E.H.take 6 (.pointer (some ⟨c, 0, none⟩)) rfl (by kernel_rfl) (by kernel_rfl) (by kernel_rfl) (fun _ _ _ h => h) (fun w h => A.Y.xc (A.X.y h.x) (k := 0) rfl) (.inl ⟨by kernel_rfl, by kernel_rfl, fun w h => by kernel_rfl⟩) (by kernel_rfl) ?_
      refine E.H.take 7 (.iface 82 (.pointer (some ⟨c, 0, none⟩))) rfl (by kernel_rfl) (by kernel_rfl) (by kernel_rfl) (fun _ _ _ h => h) (fun w h => A.Y.xc (A.X.y h.x) (k := 0) rfl) (.inl ⟨by kernel_rfl, by kernel_rfl, fun w h => by kernel_rfl⟩) (by kernel_rfl) ?_
      refine E.H.all [8, 12, 13] (by kernel_rfl) (by simp) (List.forall_mem_cons.2 ⟨⟨_, rfl, ?_⟩, List.forall_mem_cons.2 ⟨⟨_, rfl, ?_⟩, List.forall_mem_cons.2 ⟨⟨_, rfl, ?_⟩, fun _ h => (List.not_mem_nil h).elim⟩⟩⟩)
      · skip
        refine A.G.call (I := Unit) (D := fun _ => True) (V := fun _ => .tuple #[Q.S.val ((Q.step i.2.1 i.2.2).1), .agg #[.int .i64 ((Q.step i.2.1 i.2.2).2.1), .int .u32 ((Q.step i.2.1 i.2.2).2.2.1)]]) (q := fun _ => [M.It c ((Q.step i.2.1 i.2.2).2.2.2) (Q.S.cells i.2.1)]) [A.blk g1 ([.int .i64 0, .int .u32 0])] (fun _ => [(g1, [.int .i64 0, .int .u32 0])]) (fun _ => [M.It c ((Q.step i.2.1 i.2.2).2.2.2) (Q.S.cells i.2.1)]) (Step_any (m := c) (xs := (Q.S.cells i.2.1)) i.2.1 i.2.2 hk1.2.1) (by kernel_rfl) (A.pm [1, 0] (by kernel_rfl) (by kernel_rfl)) (fun _ => A.pm [1, 0] (by kernel_rfl) (by kernel_rfl)) (fun w _ => by kernel_rfl) (by kernel_rfl) (fun _ v1_hd_43_1 => ?_)
        refine E.H.back (fun w h => A.Y.xc (A.X.y h.x) (k := 0) rfl) ?_
        exact E.H.to _ _ _ (by kernel_rfl) ⟨by kernel_rfl, by kernel_rfl⟩ (List.Sublist.refl _) (dn _ _ _ _ _ (nd0))
      · skip
        refine E.G.new (fun g => .pointer (some ⟨g, 0, none⟩)) (Q.S.cells Q.z0) 27 (fun w => by kernel_rfl) (by kernel_rfl) (fun v1_g_6_1 => ?_)
        refine E.H.back (fun w h => A.Y.xc (A.X.y h.x) (k := 0) rfl) ?_
        exact E.H.to _ _ _ (by kernel_rfl) ⟨by kernel_rfl, by kernel_rfl⟩ (List.Sublist.refl _) (dn _ _ _ _ _ (nd6 v1_g_6_1))
      · skip
        refine E.G.new (fun g => .pointer (some ⟨g, 0, none⟩)) [.int .i64 0, .int .u32 0] 51 (fun w => by kernel_rfl) (by kernel_rfl) (fun v1_g_7_1 => ?_)
        refine E.H.back (fun w h => A.Y.xc (A.X.y h.x) (k := 0) rfl) ?_
        exact E.H.to _ _ _ (by kernel_rfl) ⟨by kernel_rfl, by kernel_rfl⟩ (List.Sublist.refl _) (dn _ _ _ _ _ (nd10 v1_g_7_1))
end Go.Proofs.Ytgbndbljohpnmaa

/- XQn -/
namespace Go.Proofs.Ytgbndbljohpnmaa
set_option linter.unusedVariables false
set_option linter.unusedSimpArgs false
open Go.RowKit
/-- A format of the reference. -/
structure Q3.Fm where
  is : Bool
  d : Bool
  a : Bool
  b : Bool
  sg : Bool
  bits : Nat
  most : Int
section
variable {P : Program} {fr : E.Fr} {T : TypeId} {d : Option Nat} {pos : String} {af : Array Edge} {gd : Option (Nat × Bool)}
theorem E.remI {t u : TypeId} {x y : Operand} {k : IntKind} (a b : Int) (hx : E.ev fr x = .int k a) (hy : E.ev fr y = .int k b) (hb : b ≠ 0) (w : World) :
    (execOp (E.ev fr) ⟨d, .binOp .rem t x y u, T, pos, af, gd⟩).run P w = .ok (.value (.int k (Int.tmod a b))) w := by
  show (do let r ← (do eqGuard .rem t x y (E.ev fr x) (E.ev fr y); binOp .rem t (E.ev fr x) (E.ev fr y)); pure (Next.value r) : Sem Next).run P w = _
  rw [hx, hy]
  simp [eqGuard, binOp, Op.intDiv, hb]
end
theorem Q.mod_eq (n m : Int) (hn : -9223372036854775808 ≤ n ∧ n < 9223372036854775808) (hm : 0 < m ∧ m < 4611686018427387904) : Int.tmod (IntKind.wrap .i64 (Int.tmod n m + m)) m = n % m := by
  have h1 : -m < Int.tmod n m := Int.lt_tmod_of_pos n hm.1
  have h2 : Int.tmod n m < m := Int.tmod_lt_of_pos n hm.1
  rw [IntWalk.i64_in _ (by omega), Int.tmod_eq_emod_of_nonneg (by omega), Int.add_emod_right]
  by_cases h : 0 ≤ n
  · rw [Int.tmod_eq_emod_of_nonneg h, Int.emod_emod]
  · have e := Int.tmod_def n m
    have := Int.emod_emod_of_dvd n (Int.dvd_refl m)
    rw [e, Int.sub_emod, Int.mul_emod_right, Int.sub_zero, Int.emod_emod]
theorem Q.callAs {P : Program} {f : FuncId} {args : Array Value} {w : World} {v v' : Value} (h : Calls P f args w fun e w' => e = .returned v ∧ Bel w w') (e : v = v') : Calls P f args w fun e w' => e = .returned v' ∧ Bel w w' := e ▸ h
theorem Q.w64u {n : Nat} (h : n < 64) : IntKind.wrap .u64 ((n : Nat) : Int) = ((n : Nat) : Int) := by
  show ((n : Nat) : Int) % 18446744073709551616 = _
  omega
def Q3.modr (n m : Int) : Int := (Int.tmod (IntKind.wrap .i64 ((Int.tmod n m) + m)) m)
theorem mod_raw (n m : Int) (hm : 0 < m ∧ m < 4611686018427387904) (w : World) : Calls Try.prog 21 #[.int .i64 n, .int .i64 m] w fun e w' => e = .returned (.int .i64 (Q3.modr n m)) ∧ Bel w w' := by
  refine E.enter (n := 12) (S := fun _ => False) Try.func21 rfl rfl (by kernel_rfl) (E.Hp.start w) ?_
  refine E.sr ?_
  refine E.op (.int .i64 0) ?_
  refine E.tr ?_
  refine E.op (.int .i64 n) ?_
  refine E.op (.int .i64 m) ?_
  refine E.G.val (.int .i64 (Int.tmod n m)) (by kernel_rfl) (fun w h => E.remI n m (by kernel_rfl) (by kernel_rfl) (by omega) w) ?_
  refine E.op (.int .i64 m) ?_
  refine E.op (.int .i64 (IntKind.wrap .i64 ((Int.tmod n m) + m))) ?_
  refine E.op (.int .i64 m) ?_
  refine E.G.val (.int .i64 (Int.tmod (IntKind.wrap .i64 ((Int.tmod n m) + m)) m)) (by kernel_rfl) (fun w h => E.remI (IntKind.wrap .i64 ((Int.tmod n m) + m)) m (by kernel_rfl) (by kernel_rfl) (by omega) w) ?_
  refine E.op (.int .i64 (Int.tmod (IntKind.wrap .i64 ((Int.tmod n m) + m)) m)) ?_
  refine E.To.code ?_
  refine E.C.weak [(4, .int .i64 (Int.tmod (IntKind.wrap .i64 ((Int.tmod n m) + m)) m))] [] ⟨by kernel_rfl, by kernel_rfl⟩ (List.Sublist.refl _) ?_
  refine E.C.ret (E.To.body (fn := Try.f21) [.int .i64 (Int.tmod (IntKind.wrap .i64 ((Int.tmod n m) + m)) m)] ?_ ?_)
  · exact ⟨⟨by kernel_rfl, by kernel_rfl⟩, trivial⟩
  · intro w h
    exact ⟨rfl, h.ch.bel (fun _ h => h.elim)⟩

theorem Mod_any (n m : Int) (hn : -9223372036854775808 ≤ n ∧ n < 9223372036854775808) (hm : 0 < m ∧ m < 4611686018427387904) (w : World) : Calls Try.prog 21 #[.int .i64 n, .int .i64 m] w fun e w' => e = .returned (.int .i64 (n % m)) ∧ Bel w w' := Q.callAs (mod_raw n m hm w) (congrArg (Value.int .i64) (Q.mod_eq n m hn hm))

def Q3.of (op : Int) : Q3.Fm := (bif ((decide (op ≥ 1)) && (decide (op ≤ 12))) then ⟨true, true, true, true, false, 0, 0⟩ else (bif (((op == 17) || (op == 18)) || (op == 19)) then ⟨true, true, true, false, false, 18, 0⟩ else (bif (((decide (op ≥ 16)) && (decide (op ≤ 27))) || ((decide (op ≥ 32)) && (decide (op ≤ 37)))) then ⟨true, true, true, false, true, 18, 0⟩ else (bif (op == 40) then ⟨true, true, false, false, true, 22, 0⟩ else (bif (op == 41) then ⟨true, true, false, false, false, 22, 0⟩ else (bif (op == 48) then ⟨true, false, false, false, false, 18, 0⟩ else (bif (((op == 49) || (op == 50)) || (op == 51)) then ⟨true, false, false, false, false, 0, 0⟩ else (bif (op == 52) then ⟨true, false, true, false, false, 0, 0⟩ else (bif (op == 53) then ⟨true, true, false, false, false, 18, 3⟩ else (bif (op == 54) then ⟨true, false, true, false, false, 18, 4⟩ else ⟨false, false, false, false, false, 0, 0⟩))))))))))
theorem Of3_any (op : Int) (w : World) : Calls Try.prog 47 #[.int .i64 op] w fun e w' => e = .returned (.agg #[.bool ((Q3.of op).is), .bool ((Q3.of op).d), .bool ((Q3.of op).a), .bool ((Q3.of op).b), .bool ((Q3.of op).sg), .int .i64 (((Q3.of op).bits : Nat) : Int), .int .u32 ((Q3.of op).most)]) ∧ Bel w w' := by
  refine E.enter (n := 76) (S := fun _ => False) Try.func47 rfl rfl (by kernel_rfl) (E.Hp.start w) ?_
  refine E.sr ?_
  refine E.G.new (fun g => .pointer (some ⟨g, 0, none⟩)) [.bool false, .bool false, .bool false, .bool false, .bool false, .int .i64 0, .int .u32 0] 88 (fun w => by kernel_rfl) (by kernel_rfl) (fun g1 => ?_)
  refine E.To.code ?_
  refine E.C.seq ?_
  refine E.C.block ?_
  refine E.sr ?_
  refine E.op (.int .i64 op) ?_
  refine E.op (.bool (decide (op ≥ 1))) ?_
  refine E.op (.bool (decide (op ≥ 1))) ?_
  refine E.G.cut 3 [(0, .int .i64 op), (2, .pointer (some ⟨g1, 0, none⟩)), (9, .bool ((decide (op ≥ 1)) && (decide (op ≤ 12))))] (fun _ => True) [(g1, [.bool false, .bool false, .bool false, .bool false, .bool false, .int .i64 0, .int .u32 0])] ?_ ?_
  · generalize hc2 : (decide (op ≥ 1)) = b3
    cases b3
    · skip
      refine E.sk ?_
      refine E.sk ?_
      refine E.op (.bool false) ?_
      exact E.G.end_pst ⟨by kernel_rfl, by kernel_rfl⟩ (List.Sublist.refl _) (fun _ h => h)
    · skip
      refine E.op (.int .i64 op) ?_
      refine E.op (.bool (decide (op ≤ 12))) ?_
      refine E.op (.bool (decide (op ≤ 12))) ?_
      exact E.G.end_pst ⟨by kernel_rfl, by kernel_rfl⟩ (List.Sublist.refl _) (fun _ h => h)
  refine E.op (.bool ((decide (op ≥ 1)) && (decide (op ≤ 12)))) ?_
  refine E.To.code ?_
  refine E.C.cond ((decide (op ≥ 1)) && (decide (op ≤ 12))) (by kernel_rfl) (by kernel_rfl) (fun hc4 => ?_) (fun hc4 => ?_)
  · skip
    refine E.sr ?_
    refine E.G.val (.agg #[.bool true, .bool true, .bool true, .bool true, .bool false, .int .i64 0, .int .u32 0]) (by kernel_rfl) (fun w h => E.run_build #[.bool true, .bool true, .bool true, .bool true, .bool false, .int .i64 0, .int .u32 0] (by kernel_rfl) w) ?_
    refine E.G.store 0 [.bool true, .bool true, .bool true, .bool true, .bool false, .int .i64 0, .int .u32 0] rfl rfl (by kernel_rfl) (by kernel_rfl) ?_
    refine E.To.code ?_
    refine E.C.ret (E.P.rb (E.P.rt (E.To.body (fn := Try.f47) [.agg #[.bool true, .bool true, .bool true, .bool true, .bool false, .int .i64 0, .int .u32 0]] ?_ ?_)))
    · exact ⟨⟨by kernel_rfl, _, _, 0, _, rfl, rfl, by kernel_rfl⟩, trivial⟩
    · intro w h
      exact ⟨by show Ending.returned (.agg #[.bool true, .bool true, .bool true, .bool true, .bool false, .int .i64 0, .int .u32 0]) = _; unfold Q3.of; rw [hc4, cond_true] <;> rfl, h.ch.bel (fun _ h => h.elim)⟩
  · skip
    refine E.sr ?_
    refine E.op (.int .i64 op) ?_
    refine E.op (.bool (op == 17)) ?_
    refine E.op (.bool (op == 17)) ?_
    refine E.G.cut 3 [(0, .int .i64 op), (2, .pointer (some ⟨g1, 0, none⟩)), (17, .bool ((op == 17) || (op == 18)))] (fun _ => True) [(g1, [.bool false, .bool false, .bool false, .bool false, .bool false, .int .i64 0, .int .u32 0])] ?_ ?_
    · generalize hc5 : (op == 17) = b6
      cases b6
      · skip
        refine E.op (.int .i64 op) ?_
        refine E.op (.bool (op == 18)) ?_
        refine E.op (.bool (op == 18)) ?_
        exact E.G.end_pst ⟨by kernel_rfl, by kernel_rfl⟩ (List.Sublist.refl _) (fun _ h => h)
      · skip
        refine E.sk ?_
        refine E.sk ?_
        refine E.op (.bool true) ?_
        exact E.G.end_pst ⟨by kernel_rfl, by kernel_rfl⟩ (List.Sublist.refl _) (fun _ h => h)
    refine E.op (.bool ((op == 17) || (op == 18))) ?_
    refine E.G.cut 3 [(0, .int .i64 op), (2, .pointer (some ⟨g1, 0, none⟩)), (21, .bool (((op == 17) || (op == 18)) || (op == 19)))] (fun _ => True) [(g1, [.bool false, .bool false, .bool false, .bool false, .bool false, .int .i64 0, .int .u32 0])] ?_ ?_
    · generalize hc7 : ((op == 17) || (op == 18)) = b8
      cases b8
      · skip
        refine E.op (.int .i64 op) ?_
        refine E.op (.bool (op == 19)) ?_
        refine E.op (.bool (op == 19)) ?_
        exact E.G.end_pst ⟨by kernel_rfl, by kernel_rfl⟩ (List.Sublist.refl _) (fun _ h => h)
      · skip
        refine E.sk ?_
        refine E.sk ?_
        refine E.op (.bool true) ?_
        exact E.G.end_pst ⟨by kernel_rfl, by kernel_rfl⟩ (List.Sublist.refl _) (fun _ h => h)
    refine E.op (.bool (((op == 17) || (op == 18)) || (op == 19))) ?_
    refine E.To.code ?_
    refine E.C.cond (((op == 17) || (op == 18)) || (op == 19)) (by kernel_rfl) (by kernel_rfl) (fun hc9 => ?_) (fun hc9 => ?_)
    · skip
      refine E.sr ?_
      refine E.G.val (.agg #[.bool true, .bool true, .bool true, .bool false, .bool false, .int .i64 18, .int .u32 0]) (by kernel_rfl) (fun w h => E.run_build #[.bool true, .bool true, .bool true, .bool false, .bool false, .int .i64 18, .int .u32 0] (by kernel_rfl) w) ?_
      refine E.G.store 0 [.bool true, .bool true, .bool true, .bool false, .bool false, .int .i64 18, .int .u32 0] rfl rfl (by kernel_rfl) (by kernel_rfl) ?_
      refine E.To.code ?_
      refine E.C.ret (E.P.rb (E.P.rt (E.To.body (fn := Try.f47) [.agg #[.bool true, .bool true, .bool true, .bool false, .bool false, .int .i64 18, .int .u32 0]] ?_ ?_)))
      · exact ⟨⟨by kernel_rfl, _, _, 0, _, rfl, rfl, by kernel_rfl⟩, trivial⟩
      · intro w h
        exact ⟨by show Ending.returned (.agg #[.bool true, .bool true, .bool true, .bool false, .bool false, .int .i64 18, .int .u32 0]) = _; unfold Q3.of; rw [hc4, cond_false, hc9, cond_true] <;> rfl, h.ch.bel (fun _ h => h.elim)⟩
    · skip
      refine E.sr ?_
      refine E.op (.int .i64 op) ?_
      refine E.op (.bool (decide (op ≥ 16))) ?_
      refine E.op (.bool (decide (op ≥ 16))) ?_
      refine E.G.cut 3 [(0, .int .i64 op), (2, .pointer (some ⟨g1, 0, none⟩)), (29, .bool ((decide (op ≥ 16)) && (decide (op ≤ 27))))] (fun _ => True) [(g1, [.bool false, .bool false, .bool false, .bool false, .bool false, .int .i64 0, .int .u32 0])] ?_ ?_
      · generalize hc10 : (decide (op ≥ 16)) = b11
        cases b11
        · skip
          refine E.sk ?_
          refine E.sk ?_
          refine E.op (.bool false) ?_
          exact E.G.end_pst ⟨by kernel_rfl, by kernel_rfl⟩ (List.Sublist.refl _) (fun _ h => h)
        · skip
          refine E.op (.int .i64 op) ?_
          refine E.op (.bool (decide (op ≤ 27))) ?_
          refine E.op (.bool (decide (op ≤ 27))) ?_
          exact E.G.end_pst ⟨by kernel_rfl, by kernel_rfl⟩ (List.Sublist.refl _) (fun _ h => h)
      refine E.op (.bool ((decide (op ≥ 16)) && (decide (op ≤ 27)))) ?_
      refine E.G.cut 7 [(0, .int .i64 op), (2, .pointer (some ⟨g1, 0, none⟩)), (37, .bool (((decide (op ≥ 16)) && (decide (op ≤ 27))) || ((decide (op ≥ 32)) && (decide (op ≤ 37)))))] (fun _ => True) [(g1, [.bool false, .bool false, .bool false, .bool false, .bool false, .int .i64 0, .int .u32 0])] ?_ ?_
      · generalize hc12 : ((decide (op ≥ 16)) && (decide (op ≤ 27))) = b13
        cases b13
        · skip
          refine E.op (.int .i64 op) ?_
          refine E.op (.bool (decide (op ≥ 32))) ?_
          refine E.op (.bool (decide (op ≥ 32))) ?_
          refine E.G.cut 3 [(0, .int .i64 op), (2, .pointer (some ⟨g1, 0, none⟩)), (30, .bool false), (36, .bool ((decide (op ≥ 32)) && (decide (op ≤ 37))))] (fun _ => True) [(g1, [.bool false, .bool false, .bool false, .bool false, .bool false, .int .i64 0, .int .u32 0])] ?_ ?_
          · generalize hc14 : (decide (op ≥ 32)) = b15
            cases b15
            · skip
              refine E.sk ?_
              refine E.sk ?_
              refine E.op (.bool false) ?_
              exact E.G.end_pst ⟨by kernel_rfl, by kernel_rfl⟩ (List.Sublist.refl _) (fun _ h => h)
            · skip
              refine E.op (.int .i64 op) ?_
              refine E.op (.bool (decide (op ≤ 37))) ?_
              refine E.op (.bool (decide (op ≤ 37))) ?_
              exact E.G.end_pst ⟨by kernel_rfl, by kernel_rfl⟩ (List.Sublist.refl _) (fun _ h => h)
          refine E.op (.bool ((decide (op ≥ 32)) && (decide (op ≤ 37)))) ?_
          exact E.G.end_pst ⟨by kernel_rfl, by kernel_rfl⟩ (List.Sublist.refl _) (fun _ h => h)
        · skip
          refine E.sk ?_
          refine E.sk ?_
          refine E.sk ?_
          refine E.sk ?_
          refine E.sk ?_
          refine E.sk ?_
          refine E.op (.bool true) ?_
          exact E.G.end_pst ⟨by kernel_rfl, by kernel_rfl⟩ (List.Sublist.refl _) (fun _ h => h)
      refine E.op (.bool (((decide (op ≥ 16)) && (decide (op ≤ 27))) || ((decide (op ≥ 32)) && (decide (op ≤ 37))))) ?_
      refine E.To.code ?_
      refine E.C.cond (((decide (op ≥ 16)) && (decide (op ≤ 27))) || ((decide (op ≥ 32)) && (decide (op ≤ 37)))) (by kernel_rfl) (by kernel_rfl) (fun hc16 => ?_) (fun hc16 => ?_)
      · skip
        refine E.sr ?_
        refine E.G.val (.agg #[.bool true, .bool true, .bool true, .bool false, .bool true, .int .i64 18, .int .u32 0]) (by kernel_rfl) (fun w h => E.run_build #[.bool true, .bool true, .bool true, .bool false, .bool true, .int .i64 18, .int .u32 0] (by kernel_rfl) w) ?_
        refine E.G.store 0 [.bool true, .bool true, .bool true, .bool false, .bool true, .int .i64 18, .int .u32 0] rfl rfl (by kernel_rfl) (by kernel_rfl) ?_
        refine E.To.code ?_
        refine E.C.ret (E.P.rb (E.P.rt (E.To.body (fn := Try.f47) [.agg #[.bool true, .bool true, .bool true, .bool false, .bool true, .int .i64 18, .int .u32 0]] ?_ ?_)))
        · exact ⟨⟨by kernel_rfl, _, _, 0, _, rfl, rfl, by kernel_rfl⟩, trivial⟩
        · intro w h
          exact ⟨by show Ending.returned (.agg #[.bool true, .bool true, .bool true, .bool false, .bool true, .int .i64 18, .int .u32 0]) = _; unfold Q3.of; rw [hc4, cond_false, hc9, cond_false, hc16, cond_true] <;> rfl, h.ch.bel (fun _ h => h.elim)⟩
      · skip
        refine E.sr ?_
        refine E.op (.int .i64 op) ?_
        refine E.op (.bool (op == 40)) ?_
        refine E.op (.bool (op == 40)) ?_
        refine E.To.code ?_
        refine E.C.cond (op == 40) (by kernel_rfl) (by kernel_rfl) (fun hc17 => ?_) (fun hc17 => ?_)
        · skip
          refine E.sr ?_
          refine E.G.val (.agg #[.bool true, .bool true, .bool false, .bool false, .bool true, .int .i64 22, .int .u32 0]) (by kernel_rfl) (fun w h => E.run_build #[.bool true, .bool true, .bool false, .bool false, .bool true, .int .i64 22, .int .u32 0] (by kernel_rfl) w) ?_
          refine E.G.store 0 [.bool true, .bool true, .bool false, .bool false, .bool true, .int .i64 22, .int .u32 0] rfl rfl (by kernel_rfl) (by kernel_rfl) ?_
          refine E.To.code ?_
          refine E.C.ret (E.P.rb (E.P.rt (E.To.body (fn := Try.f47) [.agg #[.bool true, .bool true, .bool false, .bool false, .bool true, .int .i64 22, .int .u32 0]] ?_ ?_)))
          · exact ⟨⟨by kernel_rfl, _, _, 0, _, rfl, rfl, by kernel_rfl⟩, trivial⟩
          · intro w h
            exact ⟨by show Ending.returned (.agg #[.bool true, .bool true, .bool false, .bool false, .bool true, .int .i64 22, .int .u32 0]) = _; unfold Q3.of; rw [hc4, cond_false, hc9, cond_false, hc16, cond_false, hc17, cond_true] <;> rfl, h.ch.bel (fun _ h => h.elim)⟩
        · skip
          refine E.sr ?_
          refine E.op (.int .i64 op) ?_
          refine E.op (.bool (op == 41)) ?_
          refine E.op (.bool (op == 41)) ?_
          refine E.To.code ?_
          refine E.C.cond (op == 41) (by kernel_rfl) (by kernel_rfl) (fun hc18 => ?_) (fun hc18 => ?_)
          · skip
            refine E.sr ?_
            refine E.G.val (.agg #[.bool true, .bool true, .bool false, .bool false, .bool false, .int .i64 22, .int .u32 0]) (by kernel_rfl) (fun w h => E.run_build #[.bool true, .bool true, .bool false, .bool false, .bool false, .int .i64 22, .int .u32 0] (by kernel_rfl) w) ?_
            refine E.G.store 0 [.bool true, .bool true, .bool false, .bool false, .bool false, .int .i64 22, .int .u32 0] rfl rfl (by kernel_rfl) (by kernel_rfl) ?_
            refine E.To.code ?_
            refine E.C.weak [(2, .pointer (some ⟨g1, 0, none⟩))] [(g1, [.bool true, .bool true, .bool false, .bool false, .bool false, .int .i64 22, .int .u32 0])] ⟨by kernel_rfl, by kernel_rfl⟩ (List.Sublist.refl _) ?_
            refine E.C.ret (E.P.rb (E.P.rt (E.To.body (fn := Try.f47) [.agg #[.bool true, .bool true, .bool false, .bool false, .bool false, .int .i64 22, .int .u32 0]] ?_ ?_)))
            · exact ⟨⟨by kernel_rfl, _, _, 0, _, rfl, rfl, by kernel_rfl⟩, trivial⟩
            · intro w h
              exact ⟨by show Ending.returned (.agg #[.bool true, .bool true, .bool false, .bool false, .bool false, .int .i64 22, .int .u32 0]) = _; unfold Q3.of; rw [hc4, cond_false, hc9, cond_false, hc16, cond_false, hc17, cond_false, hc18, cond_true] <;> rfl, h.ch.bel (fun _ h => h.elim)⟩
          · skip
            refine E.sr ?_
            refine E.op (.int .i64 op) ?_
            refine E.op (.bool (op == 48)) ?_
            refine E.op (.bool (op == 48)) ?_
            refine E.To.code ?_
            refine E.C.weak [(0, .int .i64 op), (2, .pointer (some ⟨g1, 0, none⟩)), (47, .bool (op == 48))] [(g1, [.bool false, .bool false, .bool false, .bool false, .bool false, .int .i64 0, .int .u32 0])] ⟨by kernel_rfl, by kernel_rfl⟩ (List.Sublist.refl _) ?_
            refine E.C.cond (op == 48) (by kernel_rfl) (by kernel_rfl) (fun hc19 => ?_) (fun hc19 => ?_)
            · skip
              refine E.sr ?_
              refine E.G.val (.agg #[.bool true, .bool false, .bool false, .bool false, .bool false, .int .i64 18, .int .u32 0]) (by kernel_rfl) (fun w h => E.run_build #[.bool true, .bool false, .bool false, .bool false, .bool false, .int .i64 18, .int .u32 0] (by kernel_rfl) w) ?_
              refine E.G.store 0 [.bool true, .bool false, .bool false, .bool false, .bool false, .int .i64 18, .int .u32 0] rfl rfl (by kernel_rfl) (by kernel_rfl) ?_
              refine E.To.code ?_
              refine E.C.ret (E.P.rb (E.P.rt (E.To.body (fn := Try.f47) [.agg #[.bool true, .bool false, .bool false, .bool false, .bool false, .int .i64 18, .int .u32 0]] ?_ ?_)))
              · exact ⟨⟨by kernel_rfl, _, _, 0, _, rfl, rfl, by kernel_rfl⟩, trivial⟩
              · intro w h
                exact ⟨by show Ending.returned (.agg #[.bool true, .bool false, .bool false, .bool false, .bool false, .int .i64 18, .int .u32 0]) = _; unfold Q3.of; rw [hc4, cond_false, hc9, cond_false, hc16, cond_false, hc17, cond_false, hc18, cond_false, hc19, cond_true] <;> rfl, h.ch.bel (fun _ h => h.elim)⟩
            · skip
              refine E.sr ?_
              refine E.op (.int .i64 op) ?_
              refine E.op (.bool (op == 49)) ?_
              refine E.op (.bool (op == 49)) ?_
              refine E.G.cut 3 [(0, .int .i64 op), (2, .pointer (some ⟨g1, 0, none⟩)), (57, .bool ((op == 49) || (op == 50)))] (fun _ => True) [(g1, [.bool false, .bool false, .bool false, .bool false, .bool false, .int .i64 0, .int .u32 0])] ?_ ?_
              · generalize hc20 : (op == 49) = b21
                cases b21
                · skip
                  refine E.op (.int .i64 op) ?_
                  refine E.op (.bool (op == 50)) ?_
                  refine E.op (.bool (op == 50)) ?_
                  exact E.G.end_pst ⟨by kernel_rfl, by kernel_rfl⟩ (List.Sublist.refl _) (fun _ h => h)
                · skip
                  refine E.sk ?_
                  refine E.sk ?_
                  refine E.op (.bool true) ?_
                  exact E.G.end_pst ⟨by kernel_rfl, by kernel_rfl⟩ (List.Sublist.refl _) (fun _ h => h)
              refine E.op (.bool ((op == 49) || (op == 50))) ?_
              refine E.G.cut 3 [(0, .int .i64 op), (2, .pointer (some ⟨g1, 0, none⟩)), (61, .bool (((op == 49) || (op == 50)) || (op == 51)))] (fun _ => True) [(g1, [.bool false, .bool false, .bool false, .bool false, .bool false, .int .i64 0, .int .u32 0])] ?_ ?_
              · generalize hc22 : ((op == 49) || (op == 50)) = b23
                cases b23
                · skip
                  refine E.op (.int .i64 op) ?_
                  refine E.op (.bool (op == 51)) ?_
                  refine E.op (.bool (op == 51)) ?_
                  exact E.G.end_pst ⟨by kernel_rfl, by kernel_rfl⟩ (List.Sublist.refl _) (fun _ h => h)
                · skip
                  refine E.sk ?_
                  refine E.sk ?_
                  refine E.op (.bool true) ?_
                  exact E.G.end_pst ⟨by kernel_rfl, by kernel_rfl⟩ (List.Sublist.refl _) (fun _ h => h)
              refine E.op (.bool (((op == 49) || (op == 50)) || (op == 51))) ?_
              refine E.To.code ?_
              refine E.C.cond (((op == 49) || (op == 50)) || (op == 51)) (by kernel_rfl) (by kernel_rfl) (fun hc24 => ?_) (fun hc24 => ?_)
              · skip
                refine E.sr ?_
                refine E.G.val (.agg #[.bool true, .bool false, .bool false, .bool false, .bool false, .int .i64 0, .int .u32 0]) (by kernel_rfl) (fun w h => E.run_build #[.bool true, .bool false, .bool false, .bool false, .bool false, .int .i64 0, .int .u32 0] (by kernel_rfl) w) ?_
                refine E.G.store 0 [.bool true, .bool false, .bool false, .bool false, .bool false, .int .i64 0, .int .u32 0] rfl rfl (by kernel_rfl) (by kernel_rfl) ?_
                refine E.To.code ?_
                refine E.C.ret (E.P.rb (E.P.rt (E.To.body (fn := Try.f47) [.agg #[.bool true, .bool false, .bool false, .bool false, .bool false, .int .i64 0, .int .u32 0]] ?_ ?_)))
                · exact ⟨⟨by kernel_rfl, _, _, 0, _, rfl, rfl, by kernel_rfl⟩, trivial⟩
                · intro w h
                  exact ⟨by show Ending.returned (.agg #[.bool true, .bool false, .bool false, .bool false, .bool false, .int .i64 0, .int .u32 0]) = _; unfold Q3.of; rw [hc4, cond_false, hc9, cond_false, hc16, cond_false, hc17, cond_false, hc18, cond_false, hc19, cond_false, hc24, cond_true] <;> rfl, h.ch.bel (fun _ h => h.elim)⟩
              · skip
                refine E.sr ?_
                refine E.op (.int .i64 op) ?_
                refine E.op (.bool (op == 52)) ?_
                refine E.op (.bool (op == 52)) ?_
                refine E.To.code ?_
                refine E.C.cond (op == 52) (by kernel_rfl) (by kernel_rfl) (fun hc25 => ?_) (fun hc25 => ?_)
                · skip
                  refine E.sr ?_
                  refine E.G.val (.agg #[.bool true, .bool false, .bool true, .bool false, .bool false, .int .i64 0, .int .u32 0]) (by kernel_rfl) (fun w h => E.run_build #[.bool true, .bool false, .bool true, .bool false, .bool false, .int .i64 0, .int .u32 0] (by kernel_rfl) w) ?_
                  refine E.G.store 0 [.bool true, .bool false, .bool true, .bool false, .bool false, .int .i64 0, .int .u32 0] rfl rfl (by kernel_rfl) (by kernel_rfl) ?_
                  refine E.To.code ?_
                  refine E.C.ret (E.P.rb (E.P.rt (E.To.body (fn := Try.f47) [.agg #[.bool true, .bool false, .bool true, .bool false, .bool false, .int .i64 0, .int .u32 0]] ?_ ?_)))
                  · exact ⟨⟨by kernel_rfl, _, _, 0, _, rfl, rfl, by kernel_rfl⟩, trivial⟩
                  · intro w h
                    exact ⟨by show Ending.returned (.agg #[.bool true, .bool false, .bool true, .bool false, .bool false, .int .i64 0, .int .u32 0]) = _; unfold Q3.of; rw [hc4, cond_false, hc9, cond_false, hc16, cond_false, hc17, cond_false, hc18, cond_false, hc19, cond_false, hc24, cond_false, hc25, cond_true] <;> rfl, h.ch.bel (fun _ h => h.elim)⟩
                · skip
                  refine E.sr ?_
                  refine E.op (.int .i64 op) ?_
                  refine E.op (.bool (op == 53)) ?_
                  refine E.op (.bool (op == 53)) ?_
                  refine E.To.code ?_
                  refine E.C.cond (op == 53) (by kernel_rfl) (by kernel_rfl) (fun hc26 => ?_) (fun hc26 => ?_)
                  · skip
                    refine E.sr ?_
                    refine E.G.val (.agg #[.bool true, .bool true, .bool false, .bool false, .bool false, .int .i64 18, .int .u32 3]) (by kernel_rfl) (fun w h => E.run_build #[.bool true, .bool true, .bool false, .bool false, .bool false, .int .i64 18, .int .u32 3] (by kernel_rfl) w) ?_
                    refine E.G.store 0 [.bool true, .bool true, .bool false, .bool false, .bool false, .int .i64 18, .int .u32 3] rfl rfl (by kernel_rfl) (by kernel_rfl) ?_
                    refine E.To.code ?_
                    refine E.C.weak [(2, .pointer (some ⟨g1, 0, none⟩))] [(g1, [.bool true, .bool true, .bool false, .bool false, .bool false, .int .i64 18, .int .u32 3])] ⟨by kernel_rfl, by kernel_rfl⟩ (List.Sublist.refl _) ?_
                    refine E.C.ret (E.P.rb (E.P.rt (E.To.body (fn := Try.f47) [.agg #[.bool true, .bool true, .bool false, .bool false, .bool false, .int .i64 18, .int .u32 3]] ?_ ?_)))
                    · exact ⟨⟨by kernel_rfl, _, _, 0, _, rfl, rfl, by kernel_rfl⟩, trivial⟩
                    · intro w h
                      exact ⟨by show Ending.returned (.agg #[.bool true, .bool true, .bool false, .bool false, .bool false, .int .i64 18, .int .u32 3]) = _; unfold Q3.of; rw [hc4, cond_false, hc9, cond_false, hc16, cond_false, hc17, cond_false, hc18, cond_false, hc19, cond_false, hc24, cond_false, hc25, cond_false, hc26, cond_true] <;> rfl, h.ch.bel (fun _ h => h.elim)⟩
                  · skip
                    refine E.sr ?_
                    refine E.op (.int .i64 op) ?_
                    refine E.op (.bool (op == 54)) ?_
                    refine E.op (.bool (op == 54)) ?_
                    refine E.To.code ?_
                    refine E.C.weak [(2, .pointer (some ⟨g1, 0, none⟩)), (71, .bool (op == 54))] [(g1, [.bool false, .bool false, .bool false, .bool false, .bool false, .int .i64 0, .int .u32 0])] ⟨by kernel_rfl, by kernel_rfl⟩ (List.Sublist.refl _) ?_
                    refine E.C.cond (op == 54) (by kernel_rfl) (by kernel_rfl) (fun hc27 => ?_) (fun hc27 => ?_)
                    · skip
                      refine E.sr ?_
                      refine E.G.val (.agg #[.bool true, .bool false, .bool true, .bool false, .bool false, .int .i64 18, .int .u32 4]) (by kernel_rfl) (fun w h => E.run_build #[.bool true, .bool false, .bool true, .bool false, .bool false, .int .i64 18, .int .u32 4] (by kernel_rfl) w) ?_
                      refine E.G.store 0 [.bool true, .bool false, .bool true, .bool false, .bool false, .int .i64 18, .int .u32 4] rfl rfl (by kernel_rfl) (by kernel_rfl) ?_
                      refine E.To.code ?_
                      refine E.C.ret (E.P.rb (E.P.rt (E.To.body (fn := Try.f47) [.agg #[.bool true, .bool false, .bool true, .bool false, .bool false, .int .i64 18, .int .u32 4]] ?_ ?_)))
                      · exact ⟨⟨by kernel_rfl, _, _, 0, _, rfl, rfl, by kernel_rfl⟩, trivial⟩
                      · intro w h
                        exact ⟨by show Ending.returned (.agg #[.bool true, .bool false, .bool true, .bool false, .bool false, .int .i64 18, .int .u32 4]) = _; unfold Q3.of; rw [hc4, cond_false, hc9, cond_false, hc16, cond_false, hc17, cond_false, hc18, cond_false, hc19, cond_false, hc24, cond_false, hc25, cond_false, hc26, cond_false, hc27, cond_true] <;> rfl, h.ch.bel (fun _ h => h.elim)⟩
                    · skip
                      refine E.C.skip (E.P.nb (E.To.code ?_))
                      refine E.sr ?_
                      refine E.G.val (.agg #[.bool false, .bool false, .bool false, .bool false, .bool false, .int .i64 0, .int .u32 0]) (by kernel_rfl) (fun w h => E.run_build #[.bool false, .bool false, .bool false, .bool false, .bool false, .int .i64 0, .int .u32 0] (by kernel_rfl) w) ?_
                      refine E.G.store 0 [.bool false, .bool false, .bool false, .bool false, .bool false, .int .i64 0, .int .u32 0] rfl rfl (by kernel_rfl) (by kernel_rfl) ?_
                      refine E.To.code ?_
                      refine E.C.ret (E.To.body (fn := Try.f47) [.agg #[.bool false, .bool false, .bool false, .bool false, .bool false, .int .i64 0, .int .u32 0]] ?_ ?_)
                      · exact ⟨⟨by kernel_rfl, _, _, 0, _, rfl, rfl, by kernel_rfl⟩, trivial⟩
                      · intro w h
                        exact ⟨by show Ending.returned (.agg #[.bool false, .bool false, .bool false, .bool false, .bool false, .int .i64 0, .int .u32 0]) = _; unfold Q3.of; rw [hc4, cond_false, hc9, cond_false, hc16, cond_false, hc17, cond_false, hc18, cond_false, hc19, cond_false, hc24, cond_false, hc25, cond_false, hc26, cond_false, hc27, cond_false] <;> rfl, h.ch.bel (fun _ h => h.elim)⟩

def Q3.reg (n : Int) (u : Bool) : Bool := ((n == 0) || ((u && (decide (n > 0))) && (decide (n < 16))))
theorem reg3_any (n : Int) (u : Bool) (w : World) : Calls Try.prog 65 #[.int .i64 n, .bool u] w fun e w' => e = .returned (.bool (Q3.reg n u)) ∧ Bel w w' := by
  refine E.enter (n := 18) (S := fun _ => False) Try.func65 rfl rfl (by kernel_rfl) (E.Hp.start w) ?_
  refine E.sr ?_
  refine E.op (.bool false) ?_
  refine E.tr ?_
  refine E.op (.int .i64 n) ?_
  refine E.op (.bool (n == 0)) ?_
  refine E.op (.bool (n == 0)) ?_
  refine E.G.cut 10 [(4, .bool false), (17, .bool ((n == 0) || ((u && (decide (n > 0))) && (decide (n < 16)))))] (fun _ => True) [] ?_ ?_
  · generalize hc1 : (n == 0) = b2
    cases b2
    · skip
      refine E.op (.bool u) ?_
      refine E.op (.bool u) ?_
      refine E.G.cut 3 [(0, .int .i64 n), (4, .bool false), (7, .bool false), (12, .bool (u && (decide (n > 0))))] (fun _ => True) [] ?_ ?_
      · generalize hc3 : u = b4
        cases b4
        · skip
          refine E.sk ?_
          refine E.sk ?_
          refine E.op (.bool false) ?_
          exact E.G.end_pst ⟨by kernel_rfl, by kernel_rfl⟩ (List.Sublist.refl _) (fun _ h => h)
        · skip
          refine E.op (.int .i64 n) ?_
          refine E.op (.bool (decide (n > 0))) ?_
          refine E.op (.bool (decide (n > 0))) ?_
          exact E.G.end_pst ⟨by kernel_rfl, by kernel_rfl⟩ (List.Sublist.refl _) (fun _ h => h)
      refine E.op (.bool (u && (decide (n > 0)))) ?_
      refine E.G.cut 3 [(4, .bool false), (7, .bool false), (16, .bool ((u && (decide (n > 0))) && (decide (n < 16))))] (fun _ => True) [] ?_ ?_
      · generalize hc5 : (u && (decide (n > 0))) = b6
        cases b6
        · skip
          refine E.sk ?_
          refine E.sk ?_
          refine E.op (.bool false) ?_
          exact E.G.end_pst ⟨by kernel_rfl, by kernel_rfl⟩ (List.Sublist.refl _) (fun _ h => h)
        · skip
          refine E.op (.int .i64 n) ?_
          refine E.op (.bool (decide (n < 16))) ?_
          refine E.op (.bool (decide (n < 16))) ?_
          exact E.G.end_pst ⟨by kernel_rfl, by kernel_rfl⟩ (List.Sublist.refl _) (fun _ h => h)
      refine E.op (.bool ((u && (decide (n > 0))) && (decide (n < 16)))) ?_
      exact E.G.end_pst ⟨by kernel_rfl, by kernel_rfl⟩ (List.Sublist.refl _) (fun _ h => h)
    · skip
      refine E.sk ?_
      refine E.sk ?_
      refine E.sk ?_
      refine E.sk ?_
      refine E.sk ?_
      refine E.sk ?_
      refine E.sk ?_
      refine E.sk ?_
      refine E.sk ?_
      refine E.op (.bool true) ?_
      exact E.G.end_pst ⟨by kernel_rfl, by kernel_rfl⟩ (List.Sublist.refl _) (fun _ h => h)
  refine E.op (.bool ((n == 0) || ((u && (decide (n > 0))) && (decide (n < 16))))) ?_
  refine E.To.code ?_
  refine E.C.ret (E.To.body (fn := Try.f65) [.bool ((n == 0) || ((u && (decide (n > 0))) && (decide (n < 16))))] ?_ ?_)
  · exact ⟨⟨by kernel_rfl, by kernel_rfl⟩, trivial⟩
  · intro w h
    exact ⟨rfl, h.ch.bel (fun _ h => h.elim)⟩

theorem Q3.bifb {c : Bool} {x y : Q3.Fm} (hx : x.bits ≤ 22) (hy : y.bits ≤ 22) : (bif c then x else y).bits ≤ 22 := by
  cases c
  · exact hy
  · exact hx
theorem Q3.of_bits (x : Int) : (Q3.of x).bits ≤ 22 := by
  unfold Q3.of
  repeat' (first | (show (_ : Nat) ≤ 22; decide) | refine Q3.bifb ?_ ?_)

def Q3.valid (i : Q.I) : Bool := (bif (!((Q3.of i.op).is)) then false else (bif (((!(Q3.reg i.d ((Q3.of i.op).d))) || (!(Q3.reg i.a ((Q3.of i.op).a)))) || (!(Q3.reg i.b ((Q3.of i.op).b)))) then false else (bif ((((Q3.of i.op).bits : Nat) : Int) == 0) then (i.imm == 0) else (bif (Q3.of i.op).sg then (W.sign i.imm (((Q3.of i.op).bits : Nat) : Int) == i.imm) else (bif (decide (((Q3.of i.op).most) > 0)) then (decide (i.imm ≤ ((Q3.of i.op).most))) else (decide (i.imm < (IntKind.wrap .u32 (1 * 2 ^ (min ((Q3.of i.op).bits) 32))))))))))
theorem Valid3_any (i : Q.I) (hm : 0 ≤ i.imm ∧ i.imm < 4294967296) (w : World) : Calls Try.prog 49 #[.agg #[.int .i64 i.op, .int .i64 i.d, .int .i64 i.a, .int .i64 i.b, .int .u32 i.imm]] w fun e w' => e = .returned (.bool (Q3.valid i)) ∧ Bel w w' := by
  have hb := Q3.of_bits i.op
  refine E.enter (n := 66) (S := fun _ => False) Try.func49 rfl rfl (by kernel_rfl) (E.Hp.start w) ?_
  refine E.sr ?_
  refine E.G.new (fun g => .pointer (some ⟨g, 0, none⟩)) [.int .i64 i.op, .int .i64 i.d, .int .i64 i.a, .int .i64 i.b, .int .u32 i.imm] 47 (fun w => by kernel_rfl) (by kernel_rfl) (fun g1 => ?_)
  refine E.op (.bool false) ?_
  refine E.tr ?_
  refine E.op (.pointer (some ⟨g1, 0, none⟩)) ?_
  refine E.li (.int .i64 i.op) 0 rfl rfl ?_
  refine E.G.call (.agg #[.bool ((Q3.of i.op).is), .bool ((Q3.of i.op).d), .bool ((Q3.of i.op).a), .bool ((Q3.of i.op).b), .bool ((Q3.of i.op).sg), .int .i64 (((Q3.of i.op).bits : Nat) : Int), .int .u32 ((Q3.of i.op).most)]) (fun w h => Of3_any i.op w) (fun w _ => by kernel_rfl) (by kernel_rfl) ?_
  refine E.G.new (fun g => .pointer (some ⟨g, 0, none⟩)) [.bool false, .bool false, .bool false, .bool false, .bool false, .int .i64 0, .int .u32 0] 88 (fun w => by kernel_rfl) (by kernel_rfl) (fun g2 => ?_)
  refine E.G.store 0 [.bool ((Q3.of i.op).is), .bool ((Q3.of i.op).d), .bool ((Q3.of i.op).a), .bool ((Q3.of i.op).b), .bool ((Q3.of i.op).sg), .int .i64 (((Q3.of i.op).bits : Nat) : Int), .int .u32 ((Q3.of i.op).most)] rfl rfl (by kernel_rfl) (by kernel_rfl) ?_
  refine E.To.code ?_
  refine E.C.seq ?_
  refine E.sr ?_
  refine E.op (.pointer (some ⟨g2, 0, none⟩)) ?_
  refine E.li (.bool ((Q3.of i.op).is)) 0 rfl rfl ?_
  refine E.op (.bool (!((Q3.of i.op).is))) ?_
  refine E.To.code ?_
  refine E.C.cond (!((Q3.of i.op).is)) (by kernel_rfl) (by kernel_rfl) (fun hc3 => ?_) (fun hc3 => ?_)
  · skip
    refine E.sr ?_
    refine E.op (.bool false) ?_
    refine E.To.code ?_
    refine E.C.ret (E.P.rt (E.To.body (fn := Try.f49) [.bool false] ?_ ?_))
    · exact ⟨⟨by kernel_rfl, by kernel_rfl⟩, trivial⟩
    · intro w h
      exact ⟨by show Ending.returned (.bool false) = _; unfold Q3.valid; rw [hc3, cond_true] <;> rfl, h.ch.bel (fun _ h => h.elim)⟩
  · skip
    refine E.C.skip (E.To.code ?_)
    refine E.sr ?_
    refine E.op (.pointer (some ⟨g1, 1, none⟩)) ?_
    refine E.li (.int .i64 i.d) 1 rfl rfl ?_
    refine E.op (.pointer (some ⟨g2, 1, none⟩)) ?_
    refine E.li (.bool ((Q3.of i.op).d)) 0 rfl rfl ?_
    refine E.G.call (.bool (Q3.reg i.d ((Q3.of i.op).d))) (fun w h => reg3_any i.d ((Q3.of i.op).d) w) (fun w _ => by kernel_rfl) (by kernel_rfl) ?_
    refine E.op (.bool (Q3.reg i.d ((Q3.of i.op).d))) ?_
    refine E.To.code ?_
    refine E.C.weak [(1, .pointer (some ⟨g1, 0, none⟩)), (2, .bool false), (3, .pointer (some ⟨g2, 0, none⟩)), (4, .bool (Q3.reg i.d ((Q3.of i.op).d)))] [(g2, [.bool ((Q3.of i.op).is), .bool ((Q3.of i.op).d), .bool ((Q3.of i.op).a), .bool ((Q3.of i.op).b), .bool ((Q3.of i.op).sg), .int .i64 (((Q3.of i.op).bits : Nat) : Int), .int .u32 ((Q3.of i.op).most)]), (g1, [.int .i64 i.op, .int .i64 i.d, .int .i64 i.a, .int .i64 i.b, .int .u32 i.imm])] ⟨by kernel_rfl, by kernel_rfl⟩ (List.Sublist.refl _) ?_
    refine E.sr ?_
    refine E.op (.pointer (some ⟨g1, 2, none⟩)) ?_
    refine E.li (.int .i64 i.a) 1 rfl rfl ?_
    refine E.op (.pointer (some ⟨g2, 2, none⟩)) ?_
    refine E.li (.bool ((Q3.of i.op).a)) 0 rfl rfl ?_
    refine E.G.call (.bool (Q3.reg i.a ((Q3.of i.op).a))) (fun w h => reg3_any i.a ((Q3.of i.op).a) w) (fun w _ => by kernel_rfl) (by kernel_rfl) ?_
    refine E.op (.bool (Q3.reg i.a ((Q3.of i.op).a))) ?_
    refine E.tr ?_
    refine E.op (.pointer (some ⟨g1, 3, none⟩)) ?_
    refine E.li (.int .i64 i.b) 1 rfl rfl ?_
    refine E.op (.pointer (some ⟨g2, 3, none⟩)) ?_
    refine E.li (.bool ((Q3.of i.op).b)) 0 rfl rfl ?_
    refine E.G.call (.bool (Q3.reg i.b ((Q3.of i.op).b))) (fun w h => reg3_any i.b ((Q3.of i.op).b) w) (fun w _ => by kernel_rfl) (by kernel_rfl) ?_
    refine E.op (.bool (Q3.reg i.b ((Q3.of i.op).b))) ?_
    refine E.To.code ?_
    refine E.C.weak [(1, .pointer (some ⟨g1, 0, none⟩)), (2, .bool false), (3, .pointer (some ⟨g2, 0, none⟩)), (4, .bool (Q3.reg i.d ((Q3.of i.op).d))), (5, .bool (Q3.reg i.a ((Q3.of i.op).a))), (6, .bool (Q3.reg i.b ((Q3.of i.op).b)))] [(g2, [.bool ((Q3.of i.op).is), .bool ((Q3.of i.op).d), .bool ((Q3.of i.op).a), .bool ((Q3.of i.op).b), .bool ((Q3.of i.op).sg), .int .i64 (((Q3.of i.op).bits : Nat) : Int), .int .u32 ((Q3.of i.op).most)]), (g1, [.int .i64 i.op, .int .i64 i.d, .int .i64 i.a, .int .i64 i.b, .int .u32 i.imm])] ⟨by kernel_rfl, by kernel_rfl⟩ (List.Sublist.refl _) ?_
    refine E.C.seq ?_
    refine E.sr ?_
    refine E.op (.bool (Q3.reg i.d ((Q3.of i.op).d))) ?_
    refine E.op (.bool (!(Q3.reg i.d ((Q3.of i.op).d)))) ?_
    refine E.op (.bool (!(Q3.reg i.d ((Q3.of i.op).d)))) ?_
    refine E.G.cut 3 [(1, .pointer (some ⟨g1, 0, none⟩)), (2, .bool false), (3, .pointer (some ⟨g2, 0, none⟩)), (6, .bool (Q3.reg i.b ((Q3.of i.op).b))), (33, .bool ((!(Q3.reg i.d ((Q3.of i.op).d))) || (!(Q3.reg i.a ((Q3.of i.op).a)))))] (fun _ => True) [(g2, [.bool ((Q3.of i.op).is), .bool ((Q3.of i.op).d), .bool ((Q3.of i.op).a), .bool ((Q3.of i.op).b), .bool ((Q3.of i.op).sg), .int .i64 (((Q3.of i.op).bits : Nat) : Int), .int .u32 ((Q3.of i.op).most)]), (g1, [.int .i64 i.op, .int .i64 i.d, .int .i64 i.a, .int .i64 i.b, .int .u32 i.imm])] ?_ ?_
    · generalize hc4 : (!(Q3.reg i.d ((Q3.of i.op).d))) = b5
      cases b5
      · skip
        refine E.op (.bool (Q3.reg i.a ((Q3.of i.op).a))) ?_
        refine E.op (.bool (!(Q3.reg i.a ((Q3.of i.op).a)))) ?_
        refine E.op (.bool (!(Q3.reg i.a ((Q3.of i.op).a)))) ?_
        exact E.G.end_pst ⟨by kernel_rfl, by kernel_rfl⟩ (List.Sublist.refl _) (fun _ h => h)
      · skip
        refine E.sk ?_
        refine E.sk ?_
        refine E.op (.bool true) ?_
        exact E.G.end_pst ⟨by kernel_rfl, by kernel_rfl⟩ (List.Sublist.refl _) (fun _ h => h)
    refine E.op (.bool ((!(Q3.reg i.d ((Q3.of i.op).d))) || (!(Q3.reg i.a ((Q3.of i.op).a))))) ?_
    refine E.G.cut 3 [(1, .pointer (some ⟨g1, 0, none⟩)), (2, .bool false), (3, .pointer (some ⟨g2, 0, none⟩)), (37, .bool (((!(Q3.reg i.d ((Q3.of i.op).d))) || (!(Q3.reg i.a ((Q3.of i.op).a)))) || (!(Q3.reg i.b ((Q3.of i.op).b)))))] (fun _ => True) [(g2, [.bool ((Q3.of i.op).is), .bool ((Q3.of i.op).d), .bool ((Q3.of i.op).a), .bool ((Q3.of i.op).b), .bool ((Q3.of i.op).sg), .int .i64 (((Q3.of i.op).bits : Nat) : Int), .int .u32 ((Q3.of i.op).most)]), (g1, [.int .i64 i.op, .int .i64 i.d, .int .i64 i.a, .int .i64 i.b, .int .u32 i.imm])] ?_ ?_
    · generalize hc6 : ((!(Q3.reg i.d ((Q3.of i.op).d))) || (!(Q3.reg i.a ((Q3.of i.op).a)))) = b7
      cases b7
      · skip
        refine E.op (.bool (Q3.reg i.b ((Q3.of i.op).b))) ?_
        refine E.op (.bool (!(Q3.reg i.b ((Q3.of i.op).b)))) ?_
        refine E.op (.bool (!(Q3.reg i.b ((Q3.of i.op).b)))) ?_
        exact E.G.end_pst ⟨by kernel_rfl, by kernel_rfl⟩ (List.Sublist.refl _) (fun _ h => h)
      · skip
        refine E.sk ?_
        refine E.sk ?_
        refine E.op (.bool true) ?_
        exact E.G.end_pst ⟨by kernel_rfl, by kernel_rfl⟩ (List.Sublist.refl _) (fun _ h => h)
    refine E.To.code ?_
    refine E.C.cond (((!(Q3.reg i.d ((Q3.of i.op).d))) || (!(Q3.reg i.a ((Q3.of i.op).a)))) || (!(Q3.reg i.b ((Q3.of i.op).b)))) (by kernel_rfl) (by kernel_rfl) (fun hc8 => ?_) (fun hc8 => ?_)
    · skip
      refine E.sr ?_
      refine E.op (.bool false) ?_
      refine E.To.code ?_
      refine E.C.ret (E.P.rt (E.To.body (fn := Try.f49) [.bool false] ?_ ?_))
      · exact ⟨⟨by kernel_rfl, by kernel_rfl⟩, trivial⟩
      · intro w h
        exact ⟨by show Ending.returned (.bool false) = _; unfold Q3.valid; rw [hc3, cond_false, hc8, cond_true] <;> rfl, h.ch.bel (fun _ h => h.elim)⟩
    · skip
      refine E.C.skip (E.To.code ?_)
      refine E.C.seq ?_
      refine E.sr ?_
      refine E.op (.pointer (some ⟨g2, 5, none⟩)) ?_
      refine E.li (.int .i64 (((Q3.of i.op).bits : Nat) : Int)) 0 rfl rfl ?_
      refine E.op (.bool ((((Q3.of i.op).bits : Nat) : Int) == 0)) ?_
      refine E.To.code ?_
      refine E.C.cond ((((Q3.of i.op).bits : Nat) : Int) == 0) (by kernel_rfl) (by kernel_rfl) (fun hc9 => ?_) (fun hc9 => ?_)
      · skip
        refine E.sr ?_
        refine E.op (.pointer (some ⟨g1, 4, none⟩)) ?_
        refine E.li (.int .u32 i.imm) 1 rfl rfl ?_
        refine E.op (.bool (i.imm == 0)) ?_
        refine E.op (.bool (i.imm == 0)) ?_
        refine E.To.code ?_
        refine E.C.ret (E.P.rt (E.To.body (fn := Try.f49) [.bool (i.imm == 0)] ?_ ?_))
        · exact ⟨⟨by kernel_rfl, by kernel_rfl⟩, trivial⟩
        · intro w h
          exact ⟨by show Ending.returned (.bool (i.imm == 0)) = _; unfold Q3.valid; rw [hc3, cond_false, hc8, cond_false, hc9, cond_true] <;> rfl, h.ch.bel (fun _ h => h.elim)⟩
      · skip
        refine E.C.skip (E.To.code ?_)
        refine E.C.seq ?_
        refine E.sr ?_
        refine E.op (.pointer (some ⟨g2, 4, none⟩)) ?_
        refine E.li (.bool ((Q3.of i.op).sg)) 0 rfl rfl ?_
        refine E.To.code ?_
        refine E.C.cond ((Q3.of i.op).sg) (by kernel_rfl) (by kernel_rfl) (fun hc10 => ?_) (fun hc10 => ?_)
        · skip
          refine E.sr ?_
          refine E.op (.pointer (some ⟨g1, 4, none⟩)) ?_
          refine E.li (.int .u32 i.imm) 1 rfl rfl ?_
          refine E.op (.pointer (some ⟨g2, 5, none⟩)) ?_
          refine E.li (.int .i64 (((Q3.of i.op).bits : Nat) : Int)) 0 rfl rfl ?_
          refine E.G.call (.bool (W.sign i.imm (((Q3.of i.op).bits : Nat) : Int) == i.imm)) (fun w h => rFits_any i.imm (((Q3.of i.op).bits : Nat) : Int) hm.1 hm.2 (by omega) (by omega) w) (fun w _ => by kernel_rfl) (by kernel_rfl) ?_
          refine E.op (.bool (W.sign i.imm (((Q3.of i.op).bits : Nat) : Int) == i.imm)) ?_
          refine E.To.code ?_
          refine E.C.weak [(1, .pointer (some ⟨g1, 0, none⟩)), (2, .bool (W.sign i.imm (((Q3.of i.op).bits : Nat) : Int) == i.imm)), (3, .pointer (some ⟨g2, 0, none⟩))] [(g2, [.bool ((Q3.of i.op).is), .bool ((Q3.of i.op).d), .bool ((Q3.of i.op).a), .bool ((Q3.of i.op).b), .bool ((Q3.of i.op).sg), .int .i64 (((Q3.of i.op).bits : Nat) : Int), .int .u32 ((Q3.of i.op).most)]), (g1, [.int .i64 i.op, .int .i64 i.d, .int .i64 i.a, .int .i64 i.b, .int .u32 i.imm])] ⟨by kernel_rfl, by kernel_rfl⟩ (List.Sublist.refl _) ?_
          refine E.C.ret (E.P.rt (E.To.body (fn := Try.f49) [.bool (W.sign i.imm (((Q3.of i.op).bits : Nat) : Int) == i.imm)] ?_ ?_))
          · exact ⟨⟨by kernel_rfl, by kernel_rfl⟩, trivial⟩
          · intro w h
            exact ⟨by show Ending.returned (.bool (W.sign i.imm (((Q3.of i.op).bits : Nat) : Int) == i.imm)) = _; unfold Q3.valid; rw [hc3, cond_false, hc8, cond_false, hc9, cond_false, hc10, cond_true] <;> rfl, h.ch.bel (fun _ h => h.elim)⟩
        · skip
          refine E.C.skip (E.To.code ?_)
          refine E.C.seq ?_
          refine E.sr ?_
          refine E.op (.pointer (some ⟨g2, 6, none⟩)) ?_
          refine E.li (.int .u32 ((Q3.of i.op).most)) 0 rfl rfl ?_
          refine E.op (.bool (decide (((Q3.of i.op).most) > 0))) ?_
          refine E.To.code ?_
          refine E.C.weak [(1, .pointer (some ⟨g1, 0, none⟩)), (2, .bool false), (3, .pointer (some ⟨g2, 0, none⟩)), (53, .bool (decide (((Q3.of i.op).most) > 0)))] [(g2, [.bool ((Q3.of i.op).is), .bool ((Q3.of i.op).d), .bool ((Q3.of i.op).a), .bool ((Q3.of i.op).b), .bool ((Q3.of i.op).sg), .int .i64 (((Q3.of i.op).bits : Nat) : Int), .int .u32 ((Q3.of i.op).most)]), (g1, [.int .i64 i.op, .int .i64 i.d, .int .i64 i.a, .int .i64 i.b, .int .u32 i.imm])] ⟨by kernel_rfl, by kernel_rfl⟩ (List.Sublist.refl _) ?_
          refine E.C.cond (decide (((Q3.of i.op).most) > 0)) (by kernel_rfl) (by kernel_rfl) (fun hc11 => ?_) (fun hc11 => ?_)
          · skip
            refine E.sr ?_
            refine E.op (.pointer (some ⟨g1, 4, none⟩)) ?_
            refine E.li (.int .u32 i.imm) 1 rfl rfl ?_
            refine E.op (.pointer (some ⟨g2, 6, none⟩)) ?_
            refine E.li (.int .u32 ((Q3.of i.op).most)) 0 rfl rfl ?_
            refine E.op (.bool (decide (i.imm ≤ ((Q3.of i.op).most)))) ?_
            refine E.op (.bool (decide (i.imm ≤ ((Q3.of i.op).most)))) ?_
            refine E.To.code ?_
            refine E.C.ret (E.P.rt (E.To.body (fn := Try.f49) [.bool (decide (i.imm ≤ ((Q3.of i.op).most)))] ?_ ?_))
            · exact ⟨⟨by kernel_rfl, by kernel_rfl⟩, trivial⟩
            · intro w h
              exact ⟨by show Ending.returned (.bool (decide (i.imm ≤ ((Q3.of i.op).most)))) = _; unfold Q3.valid; rw [hc3, cond_false, hc8, cond_false, hc9, cond_false, hc10, cond_false, hc11, cond_true] <;> rfl, h.ch.bel (fun _ h => h.elim)⟩
          · skip
            refine E.C.skip (E.To.code ?_)
            refine E.sr ?_
            refine E.op (.pointer (some ⟨g1, 4, none⟩)) ?_
            refine E.li (.int .u32 i.imm) 1 rfl rfl ?_
            refine E.op (.pointer (some ⟨g2, 5, none⟩)) ?_
            refine E.li (.int .i64 (((Q3.of i.op).bits : Nat) : Int)) 0 rfl rfl ?_
            refine E.G.val (.int .u64 (((Q3.of i.op).bits : Nat) : Int)) (by kernel_rfl) (fun w h => E.run_as (a := .int .u64 (IntKind.wrap .u64 (((Q3.of i.op).bits : Nat) : Int))) (by kernel_rfl) (congrArg (Value.int .u64) (Q.w64u (by omega)))) ?_
            refine E.G.val (.int .u32 (IntKind.wrap .u32 (1 * 2 ^ (min ((Q3.of i.op).bits) 32)))) (by kernel_rfl) (fun w h => E.shlN (k2 := .u64) 1 ((Q3.of i.op).bits) 32 (by rfl) (by kernel_rfl) (by kernel_rfl) w) ?_
            refine E.op (.bool (decide (i.imm < (IntKind.wrap .u32 (1 * 2 ^ (min ((Q3.of i.op).bits) 32)))))) ?_
            refine E.op (.bool (decide (i.imm < (IntKind.wrap .u32 (1 * 2 ^ (min ((Q3.of i.op).bits) 32)))))) ?_
            refine E.To.code ?_
            refine E.C.weak [(2, .bool (decide (i.imm < (IntKind.wrap .u32 (1 * 2 ^ (min ((Q3.of i.op).bits) 32))))))] [] ⟨by kernel_rfl, by kernel_rfl⟩ (List.nil_sublist _) ?_
            refine E.C.ret (E.To.body (fn := Try.f49) [.bool (decide (i.imm < (IntKind.wrap .u32 (1 * 2 ^ (min ((Q3.of i.op).bits) 32)))))] ?_ ?_)
            · exact ⟨⟨by kernel_rfl, by kernel_rfl⟩, trivial⟩
            · intro w h
              exact ⟨by show Ending.returned (.bool (decide (i.imm < (IntKind.wrap .u32 (1 * 2 ^ (min ((Q3.of i.op).bits) 32)))))) = _; unfold Q3.valid; rw [hc3, cond_false, hc8, cond_false, hc9, cond_false, hc10, cond_false, hc11, cond_false] <;> rfl, h.ch.bel (fun _ h => h.elim)⟩

theorem Q3.pow_ne {b : Nat} (h : b ≤ 22) : IntKind.wrap .u32 (1 * 2 ^ (min b 32)) ≠ 0 := by
  have e : ∀ b : Fin 23, IntKind.wrap .u32 (1 * 2 ^ (min b.val 32)) ≠ 0 := by decide +kernel
  exact e ⟨b, by omega⟩

def Q3.encode (i : Q.I) : Int × Int := (bif (!(Q3.valid i)) then (0, 12) else (bif ((((Q3.of i.op).bits : Nat) : Int) == 0) then ((IntKind.wrap .u32 ((IntKind.wrap .u32 ((IntKind.wrap .u32 ((IntKind.wrap .u32 ((IntKind.wrap .u32 i.op) * 67108864)) + (IntKind.wrap .u32 ((IntKind.wrap .u32 i.d) * 4194304)))) + (IntKind.wrap .u32 ((IntKind.wrap .u32 i.a) * 262144)))) + (IntKind.wrap .u32 ((IntKind.wrap .u32 i.b) * 16384)))), 0) else ((IntKind.wrap .u32 ((IntKind.wrap .u32 ((IntKind.wrap .u32 ((IntKind.wrap .u32 ((IntKind.wrap .u32 ((IntKind.wrap .u32 i.op) * 67108864)) + (IntKind.wrap .u32 ((IntKind.wrap .u32 i.d) * 4194304)))) + (IntKind.wrap .u32 ((IntKind.wrap .u32 i.a) * 262144)))) + (IntKind.wrap .u32 ((IntKind.wrap .u32 i.b) * 16384)))) + (Int.tmod i.imm (IntKind.wrap .u32 (1 * 2 ^ (min ((Q3.of i.op).bits) 32)))))), 0)))
theorem Encode3_any (i : Q.I) (hm : 0 ≤ i.imm ∧ i.imm < 4294967296) (w : World) : Calls Try.prog 22 #[.agg #[.int .i64 i.op, .int .i64 i.d, .int .i64 i.a, .int .i64 i.b, .int .u32 i.imm]] w fun e w' => e = .returned (.tuple #[.int .u32 (((Q3.encode i)).1), .int .i64 (((Q3.encode i)).2)]) ∧ Bel w w' := by
  have hb := Q3.of_bits i.op
  refine E.enter (n := 45) (S := fun _ => False) Try.func22 rfl rfl (by kernel_rfl) (E.Hp.start w) ?_
  refine E.sr ?_
  refine E.G.new (fun g => .pointer (some ⟨g, 0, none⟩)) [.int .i64 i.op, .int .i64 i.d, .int .i64 i.a, .int .i64 i.b, .int .u32 i.imm] 47 (fun w => by kernel_rfl) (by kernel_rfl) (fun g1 => ?_)
  refine E.op (.int .u32 0) ?_
  refine E.op (.int .i64 0) ?_
  refine E.tr ?_
  refine E.li (.agg #[.int .i64 i.op, .int .i64 i.d, .int .i64 i.a, .int .i64 i.b, .int .u32 i.imm]) 0 rfl rfl ?_
  refine E.G.call (.bool (Q3.valid i)) (fun w h => Valid3_any i hm w) (fun w _ => by kernel_rfl) (by kernel_rfl) ?_
  refine E.op (.bool (Q3.valid i)) ?_
  refine E.To.code ?_
  refine E.C.seq ?_
  refine E.sr ?_
  refine E.op (.bool (Q3.valid i)) ?_
  refine E.op (.bool (!(Q3.valid i))) ?_
  refine E.To.code ?_
  refine E.C.cond (!(Q3.valid i)) (by kernel_rfl) (by kernel_rfl) (fun hc2 => ?_) (fun hc2 => ?_)
  · skip
    refine E.sr ?_
    refine E.op (.int .u32 0) ?_
    refine E.op (.int .i64 12) ?_
    refine E.To.code ?_
    refine E.C.ret (E.P.rt (E.To.body (fn := Try.f22) [.int .u32 0, .int .i64 12] ?_ ?_))
    · exact ⟨⟨by kernel_rfl, by kernel_rfl⟩, ⟨by kernel_rfl, by kernel_rfl⟩, trivial⟩
    · intro w h
      exact ⟨by show Ending.returned (.tuple #[.int .u32 0, .int .i64 12]) = _; unfold Q3.encode; rw [hc2, cond_true] <;> rfl, h.ch.bel (fun _ h => h.elim)⟩
  · skip
    refine E.C.skip (E.To.code ?_)
    refine E.sr ?_
    refine E.op (.pointer (some ⟨g1, 0, none⟩)) ?_
    refine E.li (.int .i64 i.op) 0 rfl rfl ?_
    refine E.op (.int .u32 (IntKind.wrap .u32 i.op)) ?_
    refine E.op (.int .u32 (IntKind.wrap .u32 ((IntKind.wrap .u32 i.op) * 67108864))) ?_
    refine E.op (.pointer (some ⟨g1, 1, none⟩)) ?_
    refine E.li (.int .i64 i.d) 0 rfl rfl ?_
    refine E.op (.int .u32 (IntKind.wrap .u32 i.d)) ?_
    refine E.op (.int .u32 (IntKind.wrap .u32 ((IntKind.wrap .u32 i.d) * 4194304))) ?_
    refine E.op (.int .u32 (IntKind.wrap .u32 ((IntKind.wrap .u32 ((IntKind.wrap .u32 i.op) * 67108864)) + (IntKind.wrap .u32 ((IntKind.wrap .u32 i.d) * 4194304))))) ?_
    refine E.op (.pointer (some ⟨g1, 2, none⟩)) ?_
    refine E.li (.int .i64 i.a) 0 rfl rfl ?_
    refine E.op (.int .u32 (IntKind.wrap .u32 i.a)) ?_
    refine E.op (.int .u32 (IntKind.wrap .u32 ((IntKind.wrap .u32 i.a) * 262144))) ?_
    refine E.op (.int .u32 (IntKind.wrap .u32 ((IntKind.wrap .u32 ((IntKind.wrap .u32 ((IntKind.wrap .u32 i.op) * 67108864)) + (IntKind.wrap .u32 ((IntKind.wrap .u32 i.d) * 4194304)))) + (IntKind.wrap .u32 ((IntKind.wrap .u32 i.a) * 262144))))) ?_
    refine E.op (.pointer (some ⟨g1, 3, none⟩)) ?_
    refine E.li (.int .i64 i.b) 0 rfl rfl ?_
    refine E.op (.int .u32 (IntKind.wrap .u32 i.b)) ?_
    refine E.op (.int .u32 (IntKind.wrap .u32 ((IntKind.wrap .u32 i.b) * 16384))) ?_
    refine E.op (.int .u32 (IntKind.wrap .u32 ((IntKind.wrap .u32 ((IntKind.wrap .u32 ((IntKind.wrap .u32 ((IntKind.wrap .u32 i.op) * 67108864)) + (IntKind.wrap .u32 ((IntKind.wrap .u32 i.d) * 4194304)))) + (IntKind.wrap .u32 ((IntKind.wrap .u32 i.a) * 262144)))) + (IntKind.wrap .u32 ((IntKind.wrap .u32 i.b) * 16384))))) ?_
    refine E.op (.int .u32 (IntKind.wrap .u32 ((IntKind.wrap .u32 ((IntKind.wrap .u32 ((IntKind.wrap .u32 ((IntKind.wrap .u32 i.op) * 67108864)) + (IntKind.wrap .u32 ((IntKind.wrap .u32 i.d) * 4194304)))) + (IntKind.wrap .u32 ((IntKind.wrap .u32 i.a) * 262144)))) + (IntKind.wrap .u32 ((IntKind.wrap .u32 i.b) * 16384))))) ?_
    refine E.To.code ?_
    refine E.C.weak [(1, .pointer (some ⟨g1, 0, none⟩)), (2, .int .u32 0), (3, .int .i64 0), (5, .int .u32 (IntKind.wrap .u32 ((IntKind.wrap .u32 ((IntKind.wrap .u32 ((IntKind.wrap .u32 ((IntKind.wrap .u32 i.op) * 67108864)) + (IntKind.wrap .u32 ((IntKind.wrap .u32 i.d) * 4194304)))) + (IntKind.wrap .u32 ((IntKind.wrap .u32 i.a) * 262144)))) + (IntKind.wrap .u32 ((IntKind.wrap .u32 i.b) * 16384)))))] [(g1, [.int .i64 i.op, .int .i64 i.d, .int .i64 i.a, .int .i64 i.b, .int .u32 i.imm])] ⟨by kernel_rfl, by kernel_rfl⟩ (List.Sublist.refl _) ?_
    refine E.sr ?_
    refine E.op (.pointer (some ⟨g1, 0, none⟩)) ?_
    refine E.li (.int .i64 i.op) 0 rfl rfl ?_
    refine E.G.call (.agg #[.bool ((Q3.of i.op).is), .bool ((Q3.of i.op).d), .bool ((Q3.of i.op).a), .bool ((Q3.of i.op).b), .bool ((Q3.of i.op).sg), .int .i64 (((Q3.of i.op).bits : Nat) : Int), .int .u32 ((Q3.of i.op).most)]) (fun w h => Of3_any i.op w) (fun w _ => by kernel_rfl) (by kernel_rfl) ?_
    refine E.op (.int .i64 (((Q3.of i.op).bits : Nat) : Int)) ?_
    refine E.op (.int .i64 (((Q3.of i.op).bits : Nat) : Int)) ?_
    refine E.To.code ?_
    refine E.C.seq ?_
    refine E.sr ?_
    refine E.op (.int .i64 (((Q3.of i.op).bits : Nat) : Int)) ?_
    refine E.op (.bool ((((Q3.of i.op).bits : Nat) : Int) == 0)) ?_
    refine E.To.code ?_
    refine E.C.cond ((((Q3.of i.op).bits : Nat) : Int) == 0) (by kernel_rfl) (by kernel_rfl) (fun hc3 => ?_) (fun hc3 => ?_)
    · skip
      refine E.sr ?_
      refine E.op (.int .u32 (IntKind.wrap .u32 ((IntKind.wrap .u32 ((IntKind.wrap .u32 ((IntKind.wrap .u32 ((IntKind.wrap .u32 i.op) * 67108864)) + (IntKind.wrap .u32 ((IntKind.wrap .u32 i.d) * 4194304)))) + (IntKind.wrap .u32 ((IntKind.wrap .u32 i.a) * 262144)))) + (IntKind.wrap .u32 ((IntKind.wrap .u32 i.b) * 16384))))) ?_
      refine E.op (.int .u32 (IntKind.wrap .u32 ((IntKind.wrap .u32 ((IntKind.wrap .u32 ((IntKind.wrap .u32 ((IntKind.wrap .u32 i.op) * 67108864)) + (IntKind.wrap .u32 ((IntKind.wrap .u32 i.d) * 4194304)))) + (IntKind.wrap .u32 ((IntKind.wrap .u32 i.a) * 262144)))) + (IntKind.wrap .u32 ((IntKind.wrap .u32 i.b) * 16384))))) ?_
      refine E.op (.int .i64 0) ?_
      refine E.To.code ?_
      refine E.C.ret (E.P.rt (E.To.body (fn := Try.f22) [.int .u32 (IntKind.wrap .u32 ((IntKind.wrap .u32 ((IntKind.wrap .u32 ((IntKind.wrap .u32 ((IntKind.wrap .u32 i.op) * 67108864)) + (IntKind.wrap .u32 ((IntKind.wrap .u32 i.d) * 4194304)))) + (IntKind.wrap .u32 ((IntKind.wrap .u32 i.a) * 262144)))) + (IntKind.wrap .u32 ((IntKind.wrap .u32 i.b) * 16384)))), .int .i64 0] ?_ ?_))
      · exact ⟨⟨by kernel_rfl, by kernel_rfl⟩, ⟨by kernel_rfl, by kernel_rfl⟩, trivial⟩
      · intro w h
        exact ⟨by show Ending.returned (.tuple #[.int .u32 (IntKind.wrap .u32 ((IntKind.wrap .u32 ((IntKind.wrap .u32 ((IntKind.wrap .u32 ((IntKind.wrap .u32 i.op) * 67108864)) + (IntKind.wrap .u32 ((IntKind.wrap .u32 i.d) * 4194304)))) + (IntKind.wrap .u32 ((IntKind.wrap .u32 i.a) * 262144)))) + (IntKind.wrap .u32 ((IntKind.wrap .u32 i.b) * 16384)))), .int .i64 0]) = _; unfold Q3.encode; rw [hc2, cond_false, hc3, cond_true] <;> rfl, h.ch.bel (fun _ h => h.elim)⟩
    · skip
      refine E.C.skip (E.To.code ?_)
      refine E.sr ?_
      refine E.op (.int .u32 (IntKind.wrap .u32 ((IntKind.wrap .u32 ((IntKind.wrap .u32 ((IntKind.wrap .u32 ((IntKind.wrap .u32 i.op) * 67108864)) + (IntKind.wrap .u32 ((IntKind.wrap .u32 i.d) * 4194304)))) + (IntKind.wrap .u32 ((IntKind.wrap .u32 i.a) * 262144)))) + (IntKind.wrap .u32 ((IntKind.wrap .u32 i.b) * 16384))))) ?_
      refine E.op (.pointer (some ⟨g1, 4, none⟩)) ?_
      refine E.li (.int .u32 i.imm) 0 rfl rfl ?_
      refine E.op (.int .i64 (((Q3.of i.op).bits : Nat) : Int)) ?_
      refine E.G.val (.int .u64 (((Q3.of i.op).bits : Nat) : Int)) (by kernel_rfl) (fun w h => E.run_as (a := .int .u64 (IntKind.wrap .u64 (((Q3.of i.op).bits : Nat) : Int))) (by kernel_rfl) (congrArg (Value.int .u64) (Q.w64u (by omega)))) ?_
      refine E.G.val (.int .u32 (IntKind.wrap .u32 (1 * 2 ^ (min ((Q3.of i.op).bits) 32)))) (by kernel_rfl) (fun w h => E.shlN (k2 := .u64) 1 ((Q3.of i.op).bits) 32 (by rfl) (by kernel_rfl) (by kernel_rfl) w) ?_
      refine E.G.val (.int .u32 (Int.tmod i.imm (IntKind.wrap .u32 (1 * 2 ^ (min ((Q3.of i.op).bits) 32))))) (by kernel_rfl) (fun w h => E.remI i.imm (IntKind.wrap .u32 (1 * 2 ^ (min ((Q3.of i.op).bits) 32))) (by kernel_rfl) (by kernel_rfl) (Q3.pow_ne hb) w) ?_
      refine E.op (.int .u32 (IntKind.wrap .u32 ((IntKind.wrap .u32 ((IntKind.wrap .u32 ((IntKind.wrap .u32 ((IntKind.wrap .u32 ((IntKind.wrap .u32 i.op) * 67108864)) + (IntKind.wrap .u32 ((IntKind.wrap .u32 i.d) * 4194304)))) + (IntKind.wrap .u32 ((IntKind.wrap .u32 i.a) * 262144)))) + (IntKind.wrap .u32 ((IntKind.wrap .u32 i.b) * 16384)))) + (Int.tmod i.imm (IntKind.wrap .u32 (1 * 2 ^ (min ((Q3.of i.op).bits) 32))))))) ?_
      refine E.op (.int .u32 (IntKind.wrap .u32 ((IntKind.wrap .u32 ((IntKind.wrap .u32 ((IntKind.wrap .u32 ((IntKind.wrap .u32 ((IntKind.wrap .u32 i.op) * 67108864)) + (IntKind.wrap .u32 ((IntKind.wrap .u32 i.d) * 4194304)))) + (IntKind.wrap .u32 ((IntKind.wrap .u32 i.a) * 262144)))) + (IntKind.wrap .u32 ((IntKind.wrap .u32 i.b) * 16384)))) + (Int.tmod i.imm (IntKind.wrap .u32 (1 * 2 ^ (min ((Q3.of i.op).bits) 32))))))) ?_
      refine E.op (.int .i64 0) ?_
      refine E.To.code ?_
      refine E.C.weak [(2, .int .u32 (IntKind.wrap .u32 ((IntKind.wrap .u32 ((IntKind.wrap .u32 ((IntKind.wrap .u32 ((IntKind.wrap .u32 ((IntKind.wrap .u32 i.op) * 67108864)) + (IntKind.wrap .u32 ((IntKind.wrap .u32 i.d) * 4194304)))) + (IntKind.wrap .u32 ((IntKind.wrap .u32 i.a) * 262144)))) + (IntKind.wrap .u32 ((IntKind.wrap .u32 i.b) * 16384)))) + (Int.tmod i.imm (IntKind.wrap .u32 (1 * 2 ^ (min ((Q3.of i.op).bits) 32))))))), (3, .int .i64 0)] [] ⟨by kernel_rfl, by kernel_rfl⟩ (List.nil_sublist _) ?_
      refine E.C.ret (E.To.body (fn := Try.f22) [.int .u32 (IntKind.wrap .u32 ((IntKind.wrap .u32 ((IntKind.wrap .u32 ((IntKind.wrap .u32 ((IntKind.wrap .u32 ((IntKind.wrap .u32 i.op) * 67108864)) + (IntKind.wrap .u32 ((IntKind.wrap .u32 i.d) * 4194304)))) + (IntKind.wrap .u32 ((IntKind.wrap .u32 i.a) * 262144)))) + (IntKind.wrap .u32 ((IntKind.wrap .u32 i.b) * 16384)))) + (Int.tmod i.imm (IntKind.wrap .u32 (1 * 2 ^ (min ((Q3.of i.op).bits) 32)))))), .int .i64 0] ?_ ?_)
      · exact ⟨⟨by kernel_rfl, by kernel_rfl⟩, ⟨by kernel_rfl, by kernel_rfl⟩, trivial⟩
      · intro w h
        exact ⟨by show Ending.returned (.tuple #[.int .u32 (IntKind.wrap .u32 ((IntKind.wrap .u32 ((IntKind.wrap .u32 ((IntKind.wrap .u32 ((IntKind.wrap .u32 ((IntKind.wrap .u32 i.op) * 67108864)) + (IntKind.wrap .u32 ((IntKind.wrap .u32 i.d) * 4194304)))) + (IntKind.wrap .u32 ((IntKind.wrap .u32 i.a) * 262144)))) + (IntKind.wrap .u32 ((IntKind.wrap .u32 i.b) * 16384)))) + (Int.tmod i.imm (IntKind.wrap .u32 (1 * 2 ^ (min ((Q3.of i.op).bits) 32)))))), .int .i64 0]) = _; unfold Q3.encode; rw [hc2, cond_false, hc3, cond_false] <;> rfl, h.ch.bel (fun _ h => h.elim)⟩
end Go.Proofs.Ytgbndbljohpnmaa

/- XQs -/
namespace Go.Proofs.Ytgbndbljohpnmaa
set_option linter.unusedVariables false
set_option linter.unusedSimpArgs false
open Go.RowKit
def Q3.ops : List Int := [1, 2, 3, 4, 5, 6, 7, 8, 9, 10, 11, 12, 16, 17, 18, 19, 20, 21, 22, 23, 24, 25, 26, 27, 32, 33, 34, 35, 36, 37, 40, 41, 48, 49, 50, 51, 52, 53, 54]
def Q3.o2 : List Value := [.int .i64 1, .int .i64 2]
def Q3.o3 : List Value := [.int .i64 1, .int .i64 2, .int .i64 3]
def Q3.o4 : List Value := [.int .i64 1, .int .i64 2, .int .i64 3, .int .i64 4]
def Q3.o5 : List Value := [.int .i64 1, .int .i64 2, .int .i64 3, .int .i64 4, .int .i64 5]
def Q3.o6 : List Value := [.int .i64 1, .int .i64 2, .int .i64 3, .int .i64 4, .int .i64 5, .int .i64 6]
def Q3.o7 : List Value := [.int .i64 1, .int .i64 2, .int .i64 3, .int .i64 4, .int .i64 5, .int .i64 6, .int .i64 7]
def Q3.o8 : List Value := [.int .i64 1, .int .i64 2, .int .i64 3, .int .i64 4, .int .i64 5, .int .i64 6, .int .i64 7, .int .i64 8]
def Q3.o9 : List Value := [.int .i64 1, .int .i64 2, .int .i64 3, .int .i64 4, .int .i64 5, .int .i64 6, .int .i64 7, .int .i64 8, .int .i64 9]
def Q3.o10 : List Value := [.int .i64 1, .int .i64 2, .int .i64 3, .int .i64 4, .int .i64 5, .int .i64 6, .int .i64 7, .int .i64 8, .int .i64 9, .int .i64 10]
def Q3.o11 : List Value := [.int .i64 1, .int .i64 2, .int .i64 3, .int .i64 4, .int .i64 5, .int .i64 6, .int .i64 7, .int .i64 8, .int .i64 9, .int .i64 10, .int .i64 11]
def Q3.o12 : List Value := [.int .i64 1, .int .i64 2, .int .i64 3, .int .i64 4, .int .i64 5, .int .i64 6, .int .i64 7, .int .i64 8, .int .i64 9, .int .i64 10, .int .i64 11, .int .i64 12]
def Q3.o13 : List Value := [.int .i64 1, .int .i64 2, .int .i64 3, .int .i64 4, .int .i64 5, .int .i64 6, .int .i64 7, .int .i64 8, .int .i64 9, .int .i64 10, .int .i64 11, .int .i64 12, .int .i64 16]
def Q3.o14 : List Value := [.int .i64 1, .int .i64 2, .int .i64 3, .int .i64 4, .int .i64 5, .int .i64 6, .int .i64 7, .int .i64 8, .int .i64 9, .int .i64 10, .int .i64 11, .int .i64 12, .int .i64 16, .int .i64 17]
def Q3.o15 : List Value := [.int .i64 1, .int .i64 2, .int .i64 3, .int .i64 4, .int .i64 5, .int .i64 6, .int .i64 7, .int .i64 8, .int .i64 9, .int .i64 10, .int .i64 11, .int .i64 12, .int .i64 16, .int .i64 17, .int .i64 18]
def Q3.o16 : List Value := [.int .i64 1, .int .i64 2, .int .i64 3, .int .i64 4, .int .i64 5, .int .i64 6, .int .i64 7, .int .i64 8, .int .i64 9, .int .i64 10, .int .i64 11, .int .i64 12, .int .i64 16, .int .i64 17, .int .i64 18, .int .i64 19]
def Q3.o17 : List Value := [.int .i64 1, .int .i64 2, .int .i64 3, .int .i64 4, .int .i64 5, .int .i64 6, .int .i64 7, .int .i64 8, .int .i64 9, .int .i64 10, .int .i64 11, .int .i64 12, .int .i64 16, .int .i64 17, .int .i64 18, .int .i64 19, .int .i64 20]
def Q3.o18 : List Value := [.int .i64 1, .int .i64 2, .int .i64 3, .int .i64 4, .int .i64 5, .int .i64 6, .int .i64 7, .int .i64 8, .int .i64 9, .int .i64 10, .int .i64 11, .int .i64 12, .int .i64 16, .int .i64 17, .int .i64 18, .int .i64 19, .int .i64 20, .int .i64 21]
def Q3.o19 : List Value := [.int .i64 1, .int .i64 2, .int .i64 3, .int .i64 4, .int .i64 5, .int .i64 6, .int .i64 7, .int .i64 8, .int .i64 9, .int .i64 10, .int .i64 11, .int .i64 12, .int .i64 16, .int .i64 17, .int .i64 18, .int .i64 19, .int .i64 20, .int .i64 21, .int .i64 22]
def Q3.o20 : List Value := [.int .i64 1, .int .i64 2, .int .i64 3, .int .i64 4, .int .i64 5, .int .i64 6, .int .i64 7, .int .i64 8, .int .i64 9, .int .i64 10, .int .i64 11, .int .i64 12, .int .i64 16, .int .i64 17, .int .i64 18, .int .i64 19, .int .i64 20, .int .i64 21, .int .i64 22, .int .i64 23]
def Q3.o21 : List Value := [.int .i64 1, .int .i64 2, .int .i64 3, .int .i64 4, .int .i64 5, .int .i64 6, .int .i64 7, .int .i64 8, .int .i64 9, .int .i64 10, .int .i64 11, .int .i64 12, .int .i64 16, .int .i64 17, .int .i64 18, .int .i64 19, .int .i64 20, .int .i64 21, .int .i64 22, .int .i64 23, .int .i64 24]
def Q3.o22 : List Value := [.int .i64 1, .int .i64 2, .int .i64 3, .int .i64 4, .int .i64 5, .int .i64 6, .int .i64 7, .int .i64 8, .int .i64 9, .int .i64 10, .int .i64 11, .int .i64 12, .int .i64 16, .int .i64 17, .int .i64 18, .int .i64 19, .int .i64 20, .int .i64 21, .int .i64 22, .int .i64 23, .int .i64 24, .int .i64 25]
def Q3.o23 : List Value := [.int .i64 1, .int .i64 2, .int .i64 3, .int .i64 4, .int .i64 5, .int .i64 6, .int .i64 7, .int .i64 8, .int .i64 9, .int .i64 10, .int .i64 11, .int .i64 12, .int .i64 16, .int .i64 17, .int .i64 18, .int .i64 19, .int .i64 20, .int .i64 21, .int .i64 22, .int .i64 23, .int .i64 24, .int .i64 25, .int .i64 26]
def Q3.o24 : List Value := [.int .i64 1, .int .i64 2, .int .i64 3, .int .i64 4, .int .i64 5, .int .i64 6, .int .i64 7, .int .i64 8, .int .i64 9, .int .i64 10, .int .i64 11, .int .i64 12, .int .i64 16, .int .i64 17, .int .i64 18, .int .i64 19, .int .i64 20, .int .i64 21, .int .i64 22, .int .i64 23, .int .i64 24, .int .i64 25, .int .i64 26, .int .i64 27]
def Q3.o25 : List Value := [.int .i64 1, .int .i64 2, .int .i64 3, .int .i64 4, .int .i64 5, .int .i64 6, .int .i64 7, .int .i64 8, .int .i64 9, .int .i64 10, .int .i64 11, .int .i64 12, .int .i64 16, .int .i64 17, .int .i64 18, .int .i64 19, .int .i64 20, .int .i64 21, .int .i64 22, .int .i64 23, .int .i64 24, .int .i64 25, .int .i64 26, .int .i64 27, .int .i64 32]
def Q3.o26 : List Value := [.int .i64 1, .int .i64 2, .int .i64 3, .int .i64 4, .int .i64 5, .int .i64 6, .int .i64 7, .int .i64 8, .int .i64 9, .int .i64 10, .int .i64 11, .int .i64 12, .int .i64 16, .int .i64 17, .int .i64 18, .int .i64 19, .int .i64 20, .int .i64 21, .int .i64 22, .int .i64 23, .int .i64 24, .int .i64 25, .int .i64 26, .int .i64 27, .int .i64 32, .int .i64 33]
def Q3.o27 : List Value := [.int .i64 1, .int .i64 2, .int .i64 3, .int .i64 4, .int .i64 5, .int .i64 6, .int .i64 7, .int .i64 8, .int .i64 9, .int .i64 10, .int .i64 11, .int .i64 12, .int .i64 16, .int .i64 17, .int .i64 18, .int .i64 19, .int .i64 20, .int .i64 21, .int .i64 22, .int .i64 23, .int .i64 24, .int .i64 25, .int .i64 26, .int .i64 27, .int .i64 32, .int .i64 33, .int .i64 34]
def Q3.o28 : List Value := [.int .i64 1, .int .i64 2, .int .i64 3, .int .i64 4, .int .i64 5, .int .i64 6, .int .i64 7, .int .i64 8, .int .i64 9, .int .i64 10, .int .i64 11, .int .i64 12, .int .i64 16, .int .i64 17, .int .i64 18, .int .i64 19, .int .i64 20, .int .i64 21, .int .i64 22, .int .i64 23, .int .i64 24, .int .i64 25, .int .i64 26, .int .i64 27, .int .i64 32, .int .i64 33, .int .i64 34, .int .i64 35]
def Q3.o29 : List Value := [.int .i64 1, .int .i64 2, .int .i64 3, .int .i64 4, .int .i64 5, .int .i64 6, .int .i64 7, .int .i64 8, .int .i64 9, .int .i64 10, .int .i64 11, .int .i64 12, .int .i64 16, .int .i64 17, .int .i64 18, .int .i64 19, .int .i64 20, .int .i64 21, .int .i64 22, .int .i64 23, .int .i64 24, .int .i64 25, .int .i64 26, .int .i64 27, .int .i64 32, .int .i64 33, .int .i64 34, .int .i64 35, .int .i64 36]
def Q3.o30 : List Value := [.int .i64 1, .int .i64 2, .int .i64 3, .int .i64 4, .int .i64 5, .int .i64 6, .int .i64 7, .int .i64 8, .int .i64 9, .int .i64 10, .int .i64 11, .int .i64 12, .int .i64 16, .int .i64 17, .int .i64 18, .int .i64 19, .int .i64 20, .int .i64 21, .int .i64 22, .int .i64 23, .int .i64 24, .int .i64 25, .int .i64 26, .int .i64 27, .int .i64 32, .int .i64 33, .int .i64 34, .int .i64 35, .int .i64 36, .int .i64 37]
def Q3.o31 : List Value := [.int .i64 1, .int .i64 2, .int .i64 3, .int .i64 4, .int .i64 5, .int .i64 6, .int .i64 7, .int .i64 8, .int .i64 9, .int .i64 10, .int .i64 11, .int .i64 12, .int .i64 16, .int .i64 17, .int .i64 18, .int .i64 19, .int .i64 20, .int .i64 21, .int .i64 22, .int .i64 23, .int .i64 24, .int .i64 25, .int .i64 26, .int .i64 27, .int .i64 32, .int .i64 33, .int .i64 34, .int .i64 35, .int .i64 36, .int .i64 37, .int .i64 40]
def Q3.o32 : List Value := [.int .i64 1, .int .i64 2, .int .i64 3, .int .i64 4, .int .i64 5, .int .i64 6, .int .i64 7, .int .i64 8, .int .i64 9, .int .i64 10, .int .i64 11, .int .i64 12, .int .i64 16, .int .i64 17, .int .i64 18, .int .i64 19, .int .i64 20, .int .i64 21, .int .i64 22, .int .i64 23, .int .i64 24, .int .i64 25, .int .i64 26, .int .i64 27, .int .i64 32, .int .i64 33, .int .i64 34, .int .i64 35, .int .i64 36, .int .i64 37, .int .i64 40, .int .i64 41]
def Q3.o33 : List Value := [.int .i64 1, .int .i64 2, .int .i64 3, .int .i64 4, .int .i64 5, .int .i64 6, .int .i64 7, .int .i64 8, .int .i64 9, .int .i64 10, .int .i64 11, .int .i64 12, .int .i64 16, .int .i64 17, .int .i64 18, .int .i64 19, .int .i64 20, .int .i64 21, .int .i64 22, .int .i64 23, .int .i64 24, .int .i64 25, .int .i64 26, .int .i64 27, .int .i64 32, .int .i64 33, .int .i64 34, .int .i64 35, .int .i64 36, .int .i64 37, .int .i64 40, .int .i64 41, .int .i64 48]
def Q3.o34 : List Value := [.int .i64 1, .int .i64 2, .int .i64 3, .int .i64 4, .int .i64 5, .int .i64 6, .int .i64 7, .int .i64 8, .int .i64 9, .int .i64 10, .int .i64 11, .int .i64 12, .int .i64 16, .int .i64 17, .int .i64 18, .int .i64 19, .int .i64 20, .int .i64 21, .int .i64 22, .int .i64 23, .int .i64 24, .int .i64 25, .int .i64 26, .int .i64 27, .int .i64 32, .int .i64 33, .int .i64 34, .int .i64 35, .int .i64 36, .int .i64 37, .int .i64 40, .int .i64 41, .int .i64 48, .int .i64 49]
def Q3.o35 : List Value := [.int .i64 1, .int .i64 2, .int .i64 3, .int .i64 4, .int .i64 5, .int .i64 6, .int .i64 7, .int .i64 8, .int .i64 9, .int .i64 10, .int .i64 11, .int .i64 12, .int .i64 16, .int .i64 17, .int .i64 18, .int .i64 19, .int .i64 20, .int .i64 21, .int .i64 22, .int .i64 23, .int .i64 24, .int .i64 25, .int .i64 26, .int .i64 27, .int .i64 32, .int .i64 33, .int .i64 34, .int .i64 35, .int .i64 36, .int .i64 37, .int .i64 40, .int .i64 41, .int .i64 48, .int .i64 49, .int .i64 50]
def Q3.o36 : List Value := [.int .i64 1, .int .i64 2, .int .i64 3, .int .i64 4, .int .i64 5, .int .i64 6, .int .i64 7, .int .i64 8, .int .i64 9, .int .i64 10, .int .i64 11, .int .i64 12, .int .i64 16, .int .i64 17, .int .i64 18, .int .i64 19, .int .i64 20, .int .i64 21, .int .i64 22, .int .i64 23, .int .i64 24, .int .i64 25, .int .i64 26, .int .i64 27, .int .i64 32, .int .i64 33, .int .i64 34, .int .i64 35, .int .i64 36, .int .i64 37, .int .i64 40, .int .i64 41, .int .i64 48, .int .i64 49, .int .i64 50, .int .i64 51]
def Q3.o37 : List Value := [.int .i64 1, .int .i64 2, .int .i64 3, .int .i64 4, .int .i64 5, .int .i64 6, .int .i64 7, .int .i64 8, .int .i64 9, .int .i64 10, .int .i64 11, .int .i64 12, .int .i64 16, .int .i64 17, .int .i64 18, .int .i64 19, .int .i64 20, .int .i64 21, .int .i64 22, .int .i64 23, .int .i64 24, .int .i64 25, .int .i64 26, .int .i64 27, .int .i64 32, .int .i64 33, .int .i64 34, .int .i64 35, .int .i64 36, .int .i64 37, .int .i64 40, .int .i64 41, .int .i64 48, .int .i64 49, .int .i64 50, .int .i64 51, .int .i64 52]
def Q3.o38 : List Value := [.int .i64 1, .int .i64 2, .int .i64 3, .int .i64 4, .int .i64 5, .int .i64 6, .int .i64 7, .int .i64 8, .int .i64 9, .int .i64 10, .int .i64 11, .int .i64 12, .int .i64 16, .int .i64 17, .int .i64 18, .int .i64 19, .int .i64 20, .int .i64 21, .int .i64 22, .int .i64 23, .int .i64 24, .int .i64 25, .int .i64 26, .int .i64 27, .int .i64 32, .int .i64 33, .int .i64 34, .int .i64 35, .int .i64 36, .int .i64 37, .int .i64 40, .int .i64 41, .int .i64 48, .int .i64 49, .int .i64 50, .int .i64 51, .int .i64 52, .int .i64 53]
def Q3.o39 : List Value := [.int .i64 1, .int .i64 2, .int .i64 3, .int .i64 4, .int .i64 5, .int .i64 6, .int .i64 7, .int .i64 8, .int .i64 9, .int .i64 10, .int .i64 11, .int .i64 12, .int .i64 16, .int .i64 17, .int .i64 18, .int .i64 19, .int .i64 20, .int .i64 21, .int .i64 22, .int .i64 23, .int .i64 24, .int .i64 25, .int .i64 26, .int .i64 27, .int .i64 32, .int .i64 33, .int .i64 34, .int .i64 35, .int .i64 36, .int .i64 37, .int .i64 40, .int .i64 41, .int .i64 48, .int .i64 49, .int .i64 50, .int .i64 51, .int .i64 52, .int .i64 53, .int .i64 54]
set_option maxHeartbeats 4000000 in
theorem Ops3_new {S : Nat → Prop} {w0 : World} {X : World → Prop} {L : List (Nat × List Value)} (w : World) (hh : E.Hp S w0 X L w) : Calls Try.prog 46 #[] w fun e w' => ∃ x : Nat × Nat × List Value, e = .returned (.slice (some ⟨x.1, 0, none⟩) 39 x.2.1) ∧ E.Hp S w0 X ((x.1, (Q3.o39 ++ x.2.2)) :: L) w' := by
  refine E.enter (n := 15) (S := S) Try.func46 rfl rfl (by kernel_rfl) (hh) ?_
  refine E.sr ?_
  refine E.op (.slice none 0 0) ?_
  refine E.tr ?_
  refine E.op (.slice none 0 0) ?_
  refine E.To.code ?_
  refine E.C.seq ?_
  refine E.sr ?_
  refine E.op (.int .i64 0) ?_
  refine E.To.code ?_
  refine E.C.block ?_
  refine E.C.rounds 64 ?_
  refine E.C.seq ?_
  refine E.sr ?_
  refine E.op (.int .i64 0) ?_
  refine E.op (.bool true) ?_
  refine E.To.code ?_
  refine E.C.condT (by kernel_rfl) (by kernel_rfl) ?_
  refine E.C.skip (E.To.code ?_)
  refine E.C.seq ?_
  refine E.C.block ?_
  refine E.sr ?_
  refine E.op (.int .i64 0) ?_
  refine E.G.call (.agg #[.bool false, .bool false, .bool false, .bool false, .bool false, .int .i64 0, .int .u32 0]) (fun w h => Q.callAs (Of3_any 0 w) (by kernel_rfl)) (fun w _ => by kernel_rfl) (by kernel_rfl) ?_
  refine E.op (.bool false) ?_
  refine E.To.code ?_
  refine E.C.condF (by kernel_rfl) (by kernel_rfl) ?_
  refine E.C.skip (E.P.nb (E.To.code ?_))
  refine E.C.region ?_
  refine E.op (.int .i64 0) ?_
  refine E.op (.int .i64 1) ?_
  refine E.op (.int .i64 1) ?_
  refine E.To.rounds 63 ?_
  refine E.C.weak [(0, .slice none 0 0), (1, .slice none 0 0), (2, .int .i64 1), (3, .int .i64 0), (4, .bool true), (5, .int .i64 0), (6, .int .i64 1), (7, .int .i64 0), (8, .agg #[.bool false, .bool false, .bool false, .bool false, .bool false, .int .i64 0, .int .u32 0]), (9, .bool false)] (L) ⟨by kernel_rfl, by kernel_rfl⟩ (List.Sublist.refl _) ?_
  refine E.C.seq ?_
  refine E.sr ?_
  refine E.op (.int .i64 1) ?_
  refine E.op (.bool true) ?_
  refine E.To.code ?_
  refine E.C.condT (by kernel_rfl) (by kernel_rfl) ?_
  refine E.C.skip (E.To.code ?_)
  refine E.C.seq ?_
  refine E.C.block ?_
  refine E.sr ?_
  refine E.op (.int .i64 1) ?_
  refine E.G.call (.agg #[.bool true, .bool true, .bool true, .bool true, .bool false, .int .i64 0, .int .u32 0]) (fun w h => Q.callAs (Of3_any 1 w) (by kernel_rfl)) (fun w _ => by kernel_rfl) (by kernel_rfl) ?_
  refine E.op (.bool true) ?_
  refine E.To.code ?_
  refine E.C.condT (by kernel_rfl) (by kernel_rfl) ?_
  refine E.C.region ?_
  refine E.op (.slice none 0 0) ?_
  refine E.op (.int .i64 1) ?_
  refine E.G.buildSlice [.int .i64 1] (by kernel_rfl) (by kernel_rfl) (fun g1 => ?_)
  refine E.G.appendNil (e := 3) 0 g1 0 1 1 1 8 [.int .i64 1] _ (by kernel_rfl) (by kernel_rfl) (by kernel_rfl) (by kernel_rfl) rfl (by kernel_rfl) rfl (by omega) (by omega) (by omega) (by kernel_rfl) (fun g2 c3 r4 hc5 hr6 => ?_)
  refine E.op (.slice (some ⟨g2, 0, none⟩) 1 c3) ?_
  refine E.P.nb (E.To.code ?_)
  refine E.C.region ?_
  refine E.op (.int .i64 1) ?_
  refine E.op (.int .i64 2) ?_
  refine E.op (.int .i64 2) ?_
  refine E.To.rounds 62 ?_
  refine E.C.weak [(0, .slice none 0 0), (1, .slice (some ⟨g2, 0, none⟩) 1 c3), (2, .int .i64 2), (3, .int .i64 1), (4, .bool true), (5, .int .i64 1), (6, .int .i64 2), (7, .int .i64 1), (8, .agg #[.bool true, .bool true, .bool true, .bool true, .bool false, .int .i64 0, .int .u32 0]), (9, .bool true), (10, .slice none 0 0), (11, .int .i64 1), (12, .slice (some ⟨g1, 0, none⟩) 1 1), (13, .slice (some ⟨g2, 0, none⟩) 1 c3)] ((g2, ([.int .i64 1] ++ r4)) :: (g1, [.int .i64 1]) :: L) ⟨by kernel_rfl, by kernel_rfl⟩ (List.Sublist.refl _) ?_
  refine E.C.seq ?_
  refine E.sr ?_
  refine E.op (.int .i64 2) ?_
  refine E.op (.bool true) ?_
  refine E.To.code ?_
  refine E.C.condT (by kernel_rfl) (by kernel_rfl) ?_
  refine E.C.skip (E.To.code ?_)
  refine E.C.seq ?_
  refine E.C.block ?_
  refine E.sr ?_
  refine E.op (.int .i64 2) ?_
  refine E.G.call (.agg #[.bool true, .bool true, .bool true, .bool true, .bool false, .int .i64 0, .int .u32 0]) (fun w h => Q.callAs (Of3_any 2 w) (by kernel_rfl)) (fun w _ => by kernel_rfl) (by kernel_rfl) ?_
  refine E.op (.bool true) ?_
  refine E.To.code ?_
  refine E.C.condT (by kernel_rfl) (by kernel_rfl) ?_
  refine E.C.region ?_
  refine E.op (.slice (some ⟨g2, 0, none⟩) 1 c3) ?_
  refine E.op (.int .i64 2) ?_
  refine E.G.buildSlice [.int .i64 2] (by kernel_rfl) (by kernel_rfl) (fun g7 => ?_)
  refine E.G.append (e := 3) 1 g2 1 c3 0 g7 0 1 1 1 8 [.int .i64 1] r4 [.int .i64 2] _ (by kernel_rfl) (by kernel_rfl) (by kernel_rfl) rfl (by kernel_rfl) (by first | rfl | omega | assumption) (by first | omega | decide) (by kernel_rfl) rfl (by kernel_rfl) rfl (by rfl) (by omega) (by omega) (by omega) (by kernel_rfl) (fun g8 c9 r10 hc11 hr12 => ?_)
  refine E.G.relist ((g8, (Q3.o2 ++ r10)) :: (g7, [.int .i64 2]) :: (g1, [.int .i64 1]) :: L) (by kernel_rfl) ?_
  refine E.op (.slice (some ⟨g8, 0, none⟩) 2 c9) ?_
  refine E.P.nb (E.To.code ?_)
  refine E.C.region ?_
  refine E.op (.int .i64 2) ?_
  refine E.op (.int .i64 3) ?_
  refine E.op (.int .i64 3) ?_
  refine E.To.rounds 61 ?_
  refine E.C.weak [(0, .slice none 0 0), (1, .slice (some ⟨g8, 0, none⟩) 2 c9), (2, .int .i64 3), (3, .int .i64 2), (4, .bool true), (5, .int .i64 2), (6, .int .i64 3), (7, .int .i64 2), (8, .agg #[.bool true, .bool true, .bool true, .bool true, .bool false, .int .i64 0, .int .u32 0]), (9, .bool true), (10, .slice (some ⟨g2, 0, none⟩) 1 c3), (11, .int .i64 2), (12, .slice (some ⟨g7, 0, none⟩) 1 1), (13, .slice (some ⟨g8, 0, none⟩) 2 c9)] ((g8, (Q3.o2 ++ r10)) :: (g7, [.int .i64 2]) :: L) ⟨by kernel_rfl, by kernel_rfl⟩ (List.Sublist.cons_cons _ (List.Sublist.cons_cons _ (List.Sublist.cons _ (List.Sublist.refl _)))) ?_
  refine E.C.seq ?_
  refine E.sr ?_
  refine E.op (.int .i64 3) ?_
  refine E.op (.bool true) ?_
  refine E.To.code ?_
  refine E.C.condT (by kernel_rfl) (by kernel_rfl) ?_
  refine E.C.skip (E.To.code ?_)
  refine E.C.seq ?_
  refine E.C.block ?_
  refine E.sr ?_
  refine E.op (.int .i64 3) ?_
  refine E.G.call (.agg #[.bool true, .bool true, .bool true, .bool true, .bool false, .int .i64 0, .int .u32 0]) (fun w h => Q.callAs (Of3_any 3 w) (by kernel_rfl)) (fun w _ => by kernel_rfl) (by kernel_rfl) ?_
  refine E.op (.bool true) ?_
  refine E.To.code ?_
  refine E.C.condT (by kernel_rfl) (by kernel_rfl) ?_
  refine E.C.region ?_
  refine E.op (.slice (some ⟨g8, 0, none⟩) 2 c9) ?_
  refine E.op (.int .i64 3) ?_
  refine E.G.buildSlice [.int .i64 3] (by kernel_rfl) (by kernel_rfl) (fun g13 => ?_)
  refine E.G.append (e := 3) 1 g8 2 c9 0 g13 0 1 1 1 8 Q3.o2 r10 [.int .i64 3] _ (by kernel_rfl) (by kernel_rfl) (by kernel_rfl) rfl (by kernel_rfl) (by first | rfl | omega | assumption) (by first | omega | decide) (by kernel_rfl) rfl (by kernel_rfl) rfl (by rfl) (by omega) (by omega) (by omega) (by kernel_rfl) (fun g14 c15 r16 hc17 hr18 => ?_)
  refine E.G.relist ((g14, (Q3.o3 ++ r16)) :: (g13, [.int .i64 3]) :: (g7, [.int .i64 2]) :: L) (by kernel_rfl) ?_
  refine E.op (.slice (some ⟨g14, 0, none⟩) 3 c15) ?_
  refine E.P.nb (E.To.code ?_)
  refine E.C.region ?_
  refine E.op (.int .i64 3) ?_
  refine E.op (.int .i64 4) ?_
  refine E.op (.int .i64 4) ?_
  refine E.To.rounds 60 ?_
  refine E.C.weak [(0, .slice none 0 0), (1, .slice (some ⟨g14, 0, none⟩) 3 c15), (2, .int .i64 4), (3, .int .i64 3), (4, .bool true), (5, .int .i64 3), (6, .int .i64 4), (7, .int .i64 3), (8, .agg #[.bool true, .bool true, .bool true, .bool true, .bool false, .int .i64 0, .int .u32 0]), (9, .bool true), (10, .slice (some ⟨g8, 0, none⟩) 2 c9), (11, .int .i64 3), (12, .slice (some ⟨g13, 0, none⟩) 1 1), (13, .slice (some ⟨g14, 0, none⟩) 3 c15)] ((g14, (Q3.o3 ++ r16)) :: (g13, [.int .i64 3]) :: L) ⟨by kernel_rfl, by kernel_rfl⟩ (List.Sublist.cons_cons _ (List.Sublist.cons_cons _ (List.Sublist.cons _ (List.Sublist.refl _)))) ?_
  refine E.C.seq ?_
  refine E.sr ?_
  refine E.op (.int .i64 4) ?_
  refine E.op (.bool true) ?_
  refine E.To.code ?_
  refine E.C.condT (by kernel_rfl) (by kernel_rfl) ?_
  refine E.C.skip (E.To.code ?_)
  refine E.C.seq ?_
  refine E.C.block ?_
  refine E.sr ?_
  refine E.op (.int .i64 4) ?_
  refine E.G.call (.agg #[.bool true, .bool true, .bool true, .bool true, .bool false, .int .i64 0, .int .u32 0]) (fun w h => Q.callAs (Of3_any 4 w) (by kernel_rfl)) (fun w _ => by kernel_rfl) (by kernel_rfl) ?_
  refine E.op (.bool true) ?_
  refine E.To.code ?_
  refine E.C.condT (by kernel_rfl) (by kernel_rfl) ?_
  refine E.C.region ?_
  refine E.op (.slice (some ⟨g14, 0, none⟩) 3 c15) ?_
  refine E.op (.int .i64 4) ?_
  refine E.G.buildSlice [.int .i64 4] (by kernel_rfl) (by kernel_rfl) (fun g19 => ?_)
  refine E.G.append (e := 3) 1 g14 3 c15 0 g19 0 1 1 1 8 Q3.o3 r16 [.int .i64 4] _ (by kernel_rfl) (by kernel_rfl) (by kernel_rfl) rfl (by kernel_rfl) (by first | rfl | omega | assumption) (by first | omega | decide) (by kernel_rfl) rfl (by kernel_rfl) rfl (by rfl) (by omega) (by omega) (by omega) (by kernel_rfl) (fun g20 c21 r22 hc23 hr24 => ?_)
  refine E.G.relist ((g20, (Q3.o4 ++ r22)) :: (g19, [.int .i64 4]) :: (g13, [.int .i64 3]) :: L) (by kernel_rfl) ?_
  refine E.op (.slice (some ⟨g20, 0, none⟩) 4 c21) ?_
  refine E.P.nb (E.To.code ?_)
  refine E.C.region ?_
  refine E.op (.int .i64 4) ?_
  refine E.op (.int .i64 5) ?_
  refine E.op (.int .i64 5) ?_
  refine E.To.rounds 59 ?_
  refine E.C.weak [(0, .slice none 0 0), (1, .slice (some ⟨g20, 0, none⟩) 4 c21), (2, .int .i64 5), (3, .int .i64 4), (4, .bool true), (5, .int .i64 4), (6, .int .i64 5), (7, .int .i64 4), (8, .agg #[.bool true, .bool true, .bool true, .bool true, .bool false, .int .i64 0, .int .u32 0]), (9, .bool true), (10, .slice (some ⟨g14, 0, none⟩) 3 c15), (11, .int .i64 4), (12, .slice (some ⟨g19, 0, none⟩) 1 1), (13, .slice (some ⟨g20, 0, none⟩) 4 c21)] ((g20, (Q3.o4 ++ r22)) :: (g19, [.int .i64 4]) :: L) ⟨by kernel_rfl, by kernel_rfl⟩ (List.Sublist.cons_cons _ (List.Sublist.cons_cons _ (List.Sublist.cons _ (List.Sublist.refl _)))) ?_
  refine E.C.seq ?_
  refine E.sr ?_
  refine E.op (.int .i64 5) ?_
  refine E.op (.bool true) ?_
  refine E.To.code ?_
  refine E.C.condT (by kernel_rfl) (by kernel_rfl) ?_
  refine E.C.skip (E.To.code ?_)
  refine E.C.seq ?_
  refine E.C.block ?_
  refine E.sr ?_
  refine E.op (.int .i64 5) ?_
  refine E.G.call (.agg #[.bool true, .bool true, .bool true, .bool true, .bool false, .int .i64 0, .int .u32 0]) (fun w h => Q.callAs (Of3_any 5 w) (by kernel_rfl)) (fun w _ => by kernel_rfl) (by kernel_rfl) ?_
  refine E.op (.bool true) ?_
  refine E.To.code ?_
  refine E.C.condT (by kernel_rfl) (by kernel_rfl) ?_
  refine E.C.region ?_
  refine E.op (.slice (some ⟨g20, 0, none⟩) 4 c21) ?_
  refine E.op (.int .i64 5) ?_
  refine E.G.buildSlice [.int .i64 5] (by kernel_rfl) (by kernel_rfl) (fun g25 => ?_)
  refine E.G.append (e := 3) 1 g20 4 c21 0 g25 0 1 1 1 8 Q3.o4 r22 [.int .i64 5] _ (by kernel_rfl) (by kernel_rfl) (by kernel_rfl) rfl (by kernel_rfl) (by first | rfl | omega | assumption) (by first | omega | decide) (by kernel_rfl) rfl (by kernel_rfl) rfl (by rfl) (by omega) (by omega) (by omega) (by kernel_rfl) (fun g26 c27 r28 hc29 hr30 => ?_)
  refine E.G.relist ((g26, (Q3.o5 ++ r28)) :: (g25, [.int .i64 5]) :: (g19, [.int .i64 4]) :: L) (by kernel_rfl) ?_
  refine E.op (.slice (some ⟨g26, 0, none⟩) 5 c27) ?_
  refine E.P.nb (E.To.code ?_)
  refine E.C.region ?_
  refine E.op (.int .i64 5) ?_
  refine E.op (.int .i64 6) ?_
  refine E.op (.int .i64 6) ?_
  refine E.To.rounds 58 ?_
  refine E.C.weak [(0, .slice none 0 0), (1, .slice (some ⟨g26, 0, none⟩) 5 c27), (2, .int .i64 6), (3, .int .i64 5), (4, .bool true), (5, .int .i64 5), (6, .int .i64 6), (7, .int .i64 5), (8, .agg #[.bool true, .bool true, .bool true, .bool true, .bool false, .int .i64 0, .int .u32 0]), (9, .bool true), (10, .slice (some ⟨g20, 0, none⟩) 4 c21), (11, .int .i64 5), (12, .slice (some ⟨g25, 0, none⟩) 1 1), (13, .slice (some ⟨g26, 0, none⟩) 5 c27)] ((g26, (Q3.o5 ++ r28)) :: (g25, [.int .i64 5]) :: L) ⟨by kernel_rfl, by kernel_rfl⟩ (List.Sublist.cons_cons _ (List.Sublist.cons_cons _ (List.Sublist.cons _ (List.Sublist.refl _)))) ?_
  refine E.C.seq ?_
  refine E.sr ?_
  refine E.op (.int .i64 6) ?_
  refine E.op (.bool true) ?_
  refine E.To.code ?_
  refine E.C.condT (by kernel_rfl) (by kernel_rfl) ?_
  refine E.C.skip (E.To.code ?_)
  refine E.C.seq ?_
  refine E.C.block ?_
  refine E.sr ?_
  refine E.op (.int .i64 6) ?_
  refine E.G.call (.agg #[.bool true, .bool true, .bool true, .bool true, .bool false, .int .i64 0, .int .u32 0]) (fun w h => Q.callAs (Of3_any 6 w) (by kernel_rfl)) (fun w _ => by kernel_rfl) (by kernel_rfl) ?_
  refine E.op (.bool true) ?_
  refine E.To.code ?_
  refine E.C.condT (by kernel_rfl) (by kernel_rfl) ?_
  refine E.C.region ?_
  refine E.op (.slice (some ⟨g26, 0, none⟩) 5 c27) ?_
  refine E.op (.int .i64 6) ?_
  refine E.G.buildSlice [.int .i64 6] (by kernel_rfl) (by kernel_rfl) (fun g31 => ?_)
  refine E.G.append (e := 3) 1 g26 5 c27 0 g31 0 1 1 1 8 Q3.o5 r28 [.int .i64 6] _ (by kernel_rfl) (by kernel_rfl) (by kernel_rfl) rfl (by kernel_rfl) (by first | rfl | omega | assumption) (by first | omega | decide) (by kernel_rfl) rfl (by kernel_rfl) rfl (by rfl) (by omega) (by omega) (by omega) (by kernel_rfl) (fun g32 c33 r34 hc35 hr36 => ?_)
  refine E.G.relist ((g32, (Q3.o6 ++ r34)) :: (g31, [.int .i64 6]) :: (g25, [.int .i64 5]) :: L) (by kernel_rfl) ?_
  refine E.op (.slice (some ⟨g32, 0, none⟩) 6 c33) ?_
  refine E.P.nb (E.To.code ?_)
  refine E.C.region ?_
  refine E.op (.int .i64 6) ?_
  refine E.op (.int .i64 7) ?_
  refine E.op (.int .i64 7) ?_
  refine E.To.rounds 57 ?_
  refine E.C.weak [(0, .slice none 0 0), (1, .slice (some ⟨g32, 0, none⟩) 6 c33), (2, .int .i64 7), (3, .int .i64 6), (4, .bool true), (5, .int .i64 6), (6, .int .i64 7), (7, .int .i64 6), (8, .agg #[.bool true, .bool true, .bool true, .bool true, .bool false, .int .i64 0, .int .u32 0]), (9, .bool true), (10, .slice (some ⟨g26, 0, none⟩) 5 c27), (11, .int .i64 6), (12, .slice (some ⟨g31, 0, none⟩) 1 1), (13, .slice (some ⟨g32, 0, none⟩) 6 c33)] ((g32, (Q3.o6 ++ r34)) :: (g31, [.int .i64 6]) :: L) ⟨by kernel_rfl, by kernel_rfl⟩ (List.Sublist.cons_cons _ (List.Sublist.cons_cons _ (List.Sublist.cons _ (List.Sublist.refl _)))) ?_
  refine E.C.seq ?_
  refine E.sr ?_
  refine E.op (.int .i64 7) ?_
  refine E.op (.bool true) ?_
  refine E.To.code ?_
  refine E.C.condT (by kernel_rfl) (by kernel_rfl) ?_
  refine E.C.skip (E.To.code ?_)
  refine E.C.seq ?_
  refine E.C.block ?_
  refine E.sr ?_
  refine E.op (.int .i64 7) ?_
  refine E.G.call (.agg #[.bool true, .bool true, .bool true, .bool true, .bool false, .int .i64 0, .int .u32 0]) (fun w h => Q.callAs (Of3_any 7 w) (by kernel_rfl)) (fun w _ => by kernel_rfl) (by kernel_rfl) ?_
  refine E.op (.bool true) ?_
  refine E.To.code ?_
  refine E.C.condT (by kernel_rfl) (by kernel_rfl) ?_
  refine E.C.region ?_
  refine E.op (.slice (some ⟨g32, 0, none⟩) 6 c33) ?_
  refine E.op (.int .i64 7) ?_
  refine E.G.buildSlice [.int .i64 7] (by kernel_rfl) (by kernel_rfl) (fun g37 => ?_)
  refine E.G.append (e := 3) 1 g32 6 c33 0 g37 0 1 1 1 8 Q3.o6 r34 [.int .i64 7] _ (by kernel_rfl) (by kernel_rfl) (by kernel_rfl) rfl (by kernel_rfl) (by first | rfl | omega | assumption) (by first | omega | decide) (by kernel_rfl) rfl (by kernel_rfl) rfl (by rfl) (by omega) (by omega) (by omega) (by kernel_rfl) (fun g38 c39 r40 hc41 hr42 => ?_)
  refine E.G.relist ((g38, (Q3.o7 ++ r40)) :: (g37, [.int .i64 7]) :: (g31, [.int .i64 6]) :: L) (by kernel_rfl) ?_
  refine E.op (.slice (some ⟨g38, 0, none⟩) 7 c39) ?_
  refine E.P.nb (E.To.code ?_)
  refine E.C.region ?_
  refine E.op (.int .i64 7) ?_
  refine E.op (.int .i64 8) ?_
  refine E.op (.int .i64 8) ?_
  refine E.To.rounds 56 ?_
  refine E.C.weak [(0, .slice none 0 0), (1, .slice (some ⟨g38, 0, none⟩) 7 c39), (2, .int .i64 8), (3, .int .i64 7), (4, .bool true), (5, .int .i64 7), (6, .int .i64 8), (7, .int .i64 7), (8, .agg #[.bool true, .bool true, .bool true, .bool true, .bool false, .int .i64 0, .int .u32 0]), (9, .bool true), (10, .slice (some ⟨g32, 0, none⟩) 6 c33), (11, .int .i64 7), (12, .slice (some ⟨g37, 0, none⟩) 1 1), (13, .slice (some ⟨g38, 0, none⟩) 7 c39)] ((g38, (Q3.o7 ++ r40)) :: (g37, [.int .i64 7]) :: L) ⟨by kernel_rfl, by kernel_rfl⟩ (List.Sublist.cons_cons _ (List.Sublist.cons_cons _ (List.Sublist.cons _ (List.Sublist.refl _)))) ?_
  refine E.C.seq ?_
  refine E.sr ?_
  refine E.op (.int .i64 8) ?_
  refine E.op (.bool true) ?_
  refine E.To.code ?_
  refine E.C.condT (by kernel_rfl) (by kernel_rfl) ?_
  refine E.C.skip (E.To.code ?_)
  refine E.C.seq ?_
  refine E.C.block ?_
  refine E.sr ?_
  refine E.op (.int .i64 8) ?_
  refine E.G.call (.agg #[.bool true, .bool true, .bool true, .bool true, .bool false, .int .i64 0, .int .u32 0]) (fun w h => Q.callAs (Of3_any 8 w) (by kernel_rfl)) (fun w _ => by kernel_rfl) (by kernel_rfl) ?_
  refine E.op (.bool true) ?_
  refine E.To.code ?_
  refine E.C.condT (by kernel_rfl) (by kernel_rfl) ?_
  refine E.C.region ?_
  refine E.op (.slice (some ⟨g38, 0, none⟩) 7 c39) ?_
  refine E.op (.int .i64 8) ?_
  refine E.G.buildSlice [.int .i64 8] (by kernel_rfl) (by kernel_rfl) (fun g43 => ?_)
  refine E.G.append (e := 3) 1 g38 7 c39 0 g43 0 1 1 1 8 Q3.o7 r40 [.int .i64 8] _ (by kernel_rfl) (by kernel_rfl) (by kernel_rfl) rfl (by kernel_rfl) (by first | rfl | omega | assumption) (by first | omega | decide) (by kernel_rfl) rfl (by kernel_rfl) rfl (by rfl) (by omega) (by omega) (by omega) (by kernel_rfl) (fun g44 c45 r46 hc47 hr48 => ?_)
  refine E.G.relist ((g44, (Q3.o8 ++ r46)) :: (g43, [.int .i64 8]) :: (g37, [.int .i64 7]) :: L) (by kernel_rfl) ?_
  refine E.op (.slice (some ⟨g44, 0, none⟩) 8 c45) ?_
  refine E.P.nb (E.To.code ?_)
  refine E.C.region ?_
  refine E.op (.int .i64 8) ?_
  refine E.op (.int .i64 9) ?_
  refine E.op (.int .i64 9) ?_
  refine E.To.rounds 55 ?_
  refine E.C.weak [(0, .slice none 0 0), (1, .slice (some ⟨g44, 0, none⟩) 8 c45), (2, .int .i64 9), (3, .int .i64 8), (4, .bool true), (5, .int .i64 8), (6, .int .i64 9), (7, .int .i64 8), (8, .agg #[.bool true, .bool true, .bool true, .bool true, .bool false, .int .i64 0, .int .u32 0]), (9, .bool true), (10, .slice (some ⟨g38, 0, none⟩) 7 c39), (11, .int .i64 8), (12, .slice (some ⟨g43, 0, none⟩) 1 1), (13, .slice (some ⟨g44, 0, none⟩) 8 c45)] ((g44, (Q3.o8 ++ r46)) :: (g43, [.int .i64 8]) :: L) ⟨by kernel_rfl, by kernel_rfl⟩ (List.Sublist.cons_cons _ (List.Sublist.cons_cons _ (List.Sublist.cons _ (List.Sublist.refl _)))) ?_
  refine E.C.seq ?_
  refine E.sr ?_
  refine E.op (.int .i64 9) ?_
  refine E.op (.bool true) ?_
  refine E.To.code ?_
  refine E.C.condT (by kernel_rfl) (by kernel_rfl) ?_
  refine E.C.skip (E.To.code ?_)
  refine E.C.seq ?_
  refine E.C.block ?_
  refine E.sr ?_
  refine E.op (.int .i64 9) ?_
  refine E.G.call (.agg #[.bool true, .bool true, .bool true, .bool true, .bool false, .int .i64 0, .int .u32 0]) (fun w h => Q.callAs (Of3_any 9 w) (by kernel_rfl)) (fun w _ => by kernel_rfl) (by kernel_rfl) ?_
  refine E.op (.bool true) ?_
  refine E.To.code ?_
  refine E.C.condT (by kernel_rfl) (by kernel_rfl) ?_
  refine E.C.region ?_
  refine E.op (.slice (some ⟨g44, 0, none⟩) 8 c45) ?_
  refine E.op (.int .i64 9) ?_
  refine E.G.buildSlice [.int .i64 9] (by kernel_rfl) (by kernel_rfl) (fun g49 => ?_)
  refine E.G.append (e := 3) 1 g44 8 c45 0 g49 0 1 1 1 8 Q3.o8 r46 [.int .i64 9] _ (by kernel_rfl) (by kernel_rfl) (by kernel_rfl) rfl (by kernel_rfl) (by first | rfl | omega | assumption) (by first | omega | decide) (by kernel_rfl) rfl (by kernel_rfl) rfl (by rfl) (by omega) (by omega) (by omega) (by kernel_rfl) (fun g50 c51 r52 hc53 hr54 => ?_)
  refine E.G.relist ((g50, (Q3.o9 ++ r52)) :: (g49, [.int .i64 9]) :: (g43, [.int .i64 8]) :: L) (by kernel_rfl) ?_
  refine E.op (.slice (some ⟨g50, 0, none⟩) 9 c51) ?_
  refine E.P.nb (E.To.code ?_)
  refine E.C.region ?_
  refine E.op (.int .i64 9) ?_
  refine E.op (.int .i64 10) ?_
  refine E.op (.int .i64 10) ?_
  refine E.To.rounds 54 ?_
  refine E.C.weak [(0, .slice none 0 0), (1, .slice (some ⟨g50, 0, none⟩) 9 c51), (2, .int .i64 10), (3, .int .i64 9), (4, .bool true), (5, .int .i64 9), (6, .int .i64 10), (7, .int .i64 9), (8, .agg #[.bool true, .bool true, .bool true, .bool true, .bool false, .int .i64 0, .int .u32 0]), (9, .bool true), (10, .slice (some ⟨g44, 0, none⟩) 8 c45), (11, .int .i64 9), (12, .slice (some ⟨g49, 0, none⟩) 1 1), (13, .slice (some ⟨g50, 0, none⟩) 9 c51)] ((g50, (Q3.o9 ++ r52)) :: (g49, [.int .i64 9]) :: L) ⟨by kernel_rfl, by kernel_rfl⟩ (List.Sublist.cons_cons _ (List.Sublist.cons_cons _ (List.Sublist.cons _ (List.Sublist.refl _)))) ?_
  refine E.C.seq ?_
  refine E.sr ?_
  refine E.op (.int .i64 10) ?_
  refine E.op (.bool true) ?_
  refine E.To.code ?_
  refine E.C.condT (by kernel_rfl) (by kernel_rfl) ?_
  refine E.C.skip (E.To.code ?_)
  refine E.C.seq ?_
  refine E.C.block ?_
  refine E.sr ?_
  refine E.op (.int .i64 10) ?_
  refine E.G.call (.agg #[.bool true, .bool true, .bool true, .bool true, .bool false, .int .i64 0, .int .u32 0]) (fun w h => Q.callAs (Of3_any 10 w) (by kernel_rfl)) (fun w _ => by kernel_rfl) (by kernel_rfl) ?_
  refine E.op (.bool true) ?_
  refine E.To.code ?_
  refine E.C.condT (by kernel_rfl) (by kernel_rfl) ?_
  refine E.C.region ?_
  refine E.op (.slice (some ⟨g50, 0, none⟩) 9 c51) ?_
  refine E.op (.int .i64 10) ?_
  refine E.G.buildSlice [.int .i64 10] (by kernel_rfl) (by kernel_rfl) (fun g55 => ?_)
  refine E.G.append (e := 3) 1 g50 9 c51 0 g55 0 1 1 1 8 Q3.o9 r52 [.int .i64 10] _ (by kernel_rfl) (by kernel_rfl) (by kernel_rfl) rfl (by kernel_rfl) (by first | rfl | omega | assumption) (by first | omega | decide) (by kernel_rfl) rfl (by kernel_rfl) rfl (by rfl) (by omega) (by omega) (by omega) (by kernel_rfl) (fun g56 c57 r58 hc59 hr60 => ?_)
  refine E.G.relist ((g56, (Q3.o10 ++ r58)) :: (g55, [.int .i64 10]) :: (g49, [.int .i64 9]) :: L) (by kernel_rfl) ?_
  refine E.op (.slice (some ⟨g56, 0, none⟩) 10 c57) ?_
  refine E.P.nb (E.To.code ?_)
  refine E.C.region ?_
  refine E.op (.int .i64 10) ?_
  refine E.op (.int .i64 11) ?_
  refine E.op (.int .i64 11) ?_
  refine E.To.rounds 53 ?_
  refine E.C.weak [(0, .slice none 0 0), (1, .slice (some ⟨g56, 0, none⟩) 10 c57), (2, .int .i64 11), (3, .int .i64 10), (4, .bool true), (5, .int .i64 10), (6, .int .i64 11), (7, .int .i64 10), (8, .agg #[.bool true, .bool true, .bool true, .bool true, .bool false, .int .i64 0, .int .u32 0]), (9, .bool true), (10, .slice (some ⟨g50, 0, none⟩) 9 c51), (11, .int .i64 10), (12, .slice (some ⟨g55, 0, none⟩) 1 1), (13, .slice (some ⟨g56, 0, none⟩) 10 c57)] ((g56, (Q3.o10 ++ r58)) :: (g55, [.int .i64 10]) :: L) ⟨by kernel_rfl, by kernel_rfl⟩ (List.Sublist.cons_cons _ (List.Sublist.cons_cons _ (List.Sublist.cons _ (List.Sublist.refl _)))) ?_
  refine E.C.seq ?_
  refine E.sr ?_
  refine E.op (.int .i64 11) ?_
  refine E.op (.bool true) ?_
  refine E.To.code ?_
  refine E.C.condT (by kernel_rfl) (by kernel_rfl) ?_
  refine E.C.skip (E.To.code ?_)
  refine E.C.seq ?_
  refine E.C.block ?_
  refine E.sr ?_
  refine E.op (.int .i64 11) ?_
  refine E.G.call (.agg #[.bool true, .bool true, .bool true, .bool true, .bool false, .int .i64 0, .int .u32 0]) (fun w h => Q.callAs (Of3_any 11 w) (by kernel_rfl)) (fun w _ => by kernel_rfl) (by kernel_rfl) ?_
  refine E.op (.bool true) ?_
  refine E.To.code ?_
  refine E.C.condT (by kernel_rfl) (by kernel_rfl) ?_
  refine E.C.region ?_
  refine E.op (.slice (some ⟨g56, 0, none⟩) 10 c57) ?_
  refine E.op (.int .i64 11) ?_
  refine E.G.buildSlice [.int .i64 11] (by kernel_rfl) (by kernel_rfl) (fun g61 => ?_)
  refine E.G.append (e := 3) 1 g56 10 c57 0 g61 0 1 1 1 8 Q3.o10 r58 [.int .i64 11] _ (by kernel_rfl) (by kernel_rfl) (by kernel_rfl) rfl (by kernel_rfl) (by first | rfl | omega | assumption) (by first | omega | decide) (by kernel_rfl) rfl (by kernel_rfl) rfl (by rfl) (by omega) (by omega) (by omega) (by kernel_rfl) (fun g62 c63 r64 hc65 hr66 => ?_)
  refine E.G.relist ((g62, (Q3.o11 ++ r64)) :: (g61, [.int .i64 11]) :: (g55, [.int .i64 10]) :: L) (by kernel_rfl) ?_
  refine E.op (.slice (some ⟨g62, 0, none⟩) 11 c63) ?_
  refine E.P.nb (E.To.code ?_)
  refine E.C.region ?_
  refine E.op (.int .i64 11) ?_
  refine E.op (.int .i64 12) ?_
  refine E.op (.int .i64 12) ?_
  refine E.To.rounds 52 ?_
  refine E.C.weak [(0, .slice none 0 0), (1, .slice (some ⟨g62, 0, none⟩) 11 c63), (2, .int .i64 12), (3, .int .i64 11), (4, .bool true), (5, .int .i64 11), (6, .int .i64 12), (7, .int .i64 11), (8, .agg #[.bool true, .bool true, .bool true, .bool true, .bool false, .int .i64 0, .int .u32 0]), (9, .bool true), (10, .slice (some ⟨g56, 0, none⟩) 10 c57), (11, .int .i64 11), (12, .slice (some ⟨g61, 0, none⟩) 1 1), (13, .slice (some ⟨g62, 0, none⟩) 11 c63)] ((g62, (Q3.o11 ++ r64)) :: (g61, [.int .i64 11]) :: L) ⟨by kernel_rfl, by kernel_rfl⟩ (List.Sublist.cons_cons _ (List.Sublist.cons_cons _ (List.Sublist.cons _ (List.Sublist.refl _)))) ?_
  refine E.C.seq ?_
  refine E.sr ?_
  refine E.op (.int .i64 12) ?_
  refine E.op (.bool true) ?_
  refine E.To.code ?_
  refine E.C.condT (by kernel_rfl) (by kernel_rfl) ?_
  refine E.C.skip (E.To.code ?_)
  refine E.C.seq ?_
  refine E.C.block ?_
  refine E.sr ?_
  refine E.op (.int .i64 12) ?_
  refine E.G.call (.agg #[.bool true, .bool true, .bool true, .bool true, .bool false, .int .i64 0, .int .u32 0]) (fun w h => Q.callAs (Of3_any 12 w) (by kernel_rfl)) (fun w _ => by kernel_rfl) (by kernel_rfl) ?_
  refine E.op (.bool true) ?_
  refine E.To.code ?_
  refine E.C.condT (by kernel_rfl) (by kernel_rfl) ?_
  refine E.C.region ?_
  refine E.op (.slice (some ⟨g62, 0, none⟩) 11 c63) ?_
  refine E.op (.int .i64 12) ?_
  refine E.G.buildSlice [.int .i64 12] (by kernel_rfl) (by kernel_rfl) (fun g67 => ?_)
  refine E.G.append (e := 3) 1 g62 11 c63 0 g67 0 1 1 1 8 Q3.o11 r64 [.int .i64 12] _ (by kernel_rfl) (by kernel_rfl) (by kernel_rfl) rfl (by kernel_rfl) (by first | rfl | omega | assumption) (by first | omega | decide) (by kernel_rfl) rfl (by kernel_rfl) rfl (by rfl) (by omega) (by omega) (by omega) (by kernel_rfl) (fun g68 c69 r70 hc71 hr72 => ?_)
  refine E.G.relist ((g68, (Q3.o12 ++ r70)) :: (g67, [.int .i64 12]) :: (g61, [.int .i64 11]) :: L) (by kernel_rfl) ?_
  refine E.op (.slice (some ⟨g68, 0, none⟩) 12 c69) ?_
  refine E.P.nb (E.To.code ?_)
  refine E.C.region ?_
  refine E.op (.int .i64 12) ?_
  refine E.op (.int .i64 13) ?_
  refine E.op (.int .i64 13) ?_
  refine E.To.rounds 51 ?_
  refine E.C.weak [(0, .slice none 0 0), (1, .slice (some ⟨g68, 0, none⟩) 12 c69), (2, .int .i64 13), (3, .int .i64 12), (4, .bool true), (5, .int .i64 12), (6, .int .i64 13), (7, .int .i64 12), (8, .agg #[.bool true, .bool true, .bool true, .bool true, .bool false, .int .i64 0, .int .u32 0]), (9, .bool true), (10, .slice (some ⟨g62, 0, none⟩) 11 c63), (11, .int .i64 12), (12, .slice (some ⟨g67, 0, none⟩) 1 1), (13, .slice (some ⟨g68, 0, none⟩) 12 c69)] ((g68, (Q3.o12 ++ r70)) :: (g67, [.int .i64 12]) :: L) ⟨by kernel_rfl, by kernel_rfl⟩ (List.Sublist.cons_cons _ (List.Sublist.cons_cons _ (List.Sublist.cons _ (List.Sublist.refl _)))) ?_
  refine E.C.seq ?_
  refine E.sr ?_
  refine E.op (.int .i64 13) ?_
  refine E.op (.bool true) ?_
  refine E.To.code ?_
  refine E.C.condT (by kernel_rfl) (by kernel_rfl) ?_
  refine E.C.skip (E.To.code ?_)
  refine E.C.seq ?_
  refine E.C.block ?_
  refine E.sr ?_
  refine E.op (.int .i64 13) ?_
  refine E.G.call (.agg #[.bool false, .bool false, .bool false, .bool false, .bool false, .int .i64 0, .int .u32 0]) (fun w h => Q.callAs (Of3_any 13 w) (by kernel_rfl)) (fun w _ => by kernel_rfl) (by kernel_rfl) ?_
  refine E.op (.bool false) ?_
  refine E.To.code ?_
  refine E.C.condF (by kernel_rfl) (by kernel_rfl) ?_
  refine E.C.skip (E.P.nb (E.To.code ?_))
  refine E.C.region ?_
  refine E.op (.int .i64 13) ?_
  refine E.op (.int .i64 14) ?_
  refine E.op (.int .i64 14) ?_
  refine E.To.rounds 50 ?_
  refine E.C.weak [(0, .slice none 0 0), (1, .slice (some ⟨g68, 0, none⟩) 12 c69), (2, .int .i64 14), (3, .int .i64 13), (4, .bool true), (5, .int .i64 13), (6, .int .i64 14), (7, .int .i64 13), (8, .agg #[.bool false, .bool false, .bool false, .bool false, .bool false, .int .i64 0, .int .u32 0]), (9, .bool false), (10, .slice (some ⟨g62, 0, none⟩) 11 c63), (11, .int .i64 12), (12, .slice (some ⟨g67, 0, none⟩) 1 1), (13, .slice (some ⟨g68, 0, none⟩) 12 c69)] ((g68, (Q3.o12 ++ r70)) :: (g67, [.int .i64 12]) :: L) ⟨by kernel_rfl, by kernel_rfl⟩ (List.Sublist.refl _) ?_
  refine E.C.seq ?_
  refine E.sr ?_
  refine E.op (.int .i64 14) ?_
  refine E.op (.bool true) ?_
  refine E.To.code ?_
  refine E.C.condT (by kernel_rfl) (by kernel_rfl) ?_
  refine E.C.skip (E.To.code ?_)
  refine E.C.seq ?_
  refine E.C.block ?_
  refine E.sr ?_
  refine E.op (.int .i64 14) ?_
  refine E.G.call (.agg #[.bool false, .bool false, .bool false, .bool false, .bool false, .int .i64 0, .int .u32 0]) (fun w h => Q.callAs (Of3_any 14 w) (by kernel_rfl)) (fun w _ => by kernel_rfl) (by kernel_rfl) ?_
  refine E.op (.bool false) ?_
  refine E.To.code ?_
  refine E.C.condF (by kernel_rfl) (by kernel_rfl) ?_
  refine E.C.skip (E.P.nb (E.To.code ?_))
  refine E.C.region ?_
  refine E.op (.int .i64 14) ?_
  refine E.op (.int .i64 15) ?_
  refine E.op (.int .i64 15) ?_
  refine E.To.rounds 49 ?_
  refine E.C.weak [(0, .slice none 0 0), (1, .slice (some ⟨g68, 0, none⟩) 12 c69), (2, .int .i64 15), (3, .int .i64 14), (4, .bool true), (5, .int .i64 14), (6, .int .i64 15), (7, .int .i64 14), (8, .agg #[.bool false, .bool false, .bool false, .bool false, .bool false, .int .i64 0, .int .u32 0]), (9, .bool false), (10, .slice (some ⟨g62, 0, none⟩) 11 c63), (11, .int .i64 12), (12, .slice (some ⟨g67, 0, none⟩) 1 1), (13, .slice (some ⟨g68, 0, none⟩) 12 c69)] ((g68, (Q3.o12 ++ r70)) :: (g67, [.int .i64 12]) :: L) ⟨by kernel_rfl, by kernel_rfl⟩ (List.Sublist.refl _) ?_
  refine E.C.seq ?_
  refine E.sr ?_
  refine E.op (.int .i64 15) ?_
  refine E.op (.bool true) ?_
  refine E.To.code ?_
  refine E.C.condT (by kernel_rfl) (by kernel_rfl) ?_
  refine E.C.skip (E.To.code ?_)
  refine E.C.seq ?_
  refine E.C.block ?_
  refine E.sr ?_
  refine E.op (.int .i64 15) ?_
  refine E.G.call (.agg #[.bool false, .bool false, .bool false, .bool false, .bool false, .int .i64 0, .int .u32 0]) (fun w h => Q.callAs (Of3_any 15 w) (by kernel_rfl)) (fun w _ => by kernel_rfl) (by kernel_rfl) ?_
  refine E.op (.bool false) ?_
  refine E.To.code ?_
  refine E.C.condF (by kernel_rfl) (by kernel_rfl) ?_
  refine E.C.skip (E.P.nb (E.To.code ?_))
  refine E.C.region ?_
  refine E.op (.int .i64 15) ?_
  refine E.op (.int .i64 16) ?_
  refine E.op (.int .i64 16) ?_
  refine E.To.rounds 48 ?_
  refine E.C.weak [(0, .slice none 0 0), (1, .slice (some ⟨g68, 0, none⟩) 12 c69), (2, .int .i64 16), (3, .int .i64 15), (4, .bool true), (5, .int .i64 15), (6, .int .i64 16), (7, .int .i64 15), (8, .agg #[.bool false, .bool false, .bool false, .bool false, .bool false, .int .i64 0, .int .u32 0]), (9, .bool false), (10, .slice (some ⟨g62, 0, none⟩) 11 c63), (11, .int .i64 12), (12, .slice (some ⟨g67, 0, none⟩) 1 1), (13, .slice (some ⟨g68, 0, none⟩) 12 c69)] ((g68, (Q3.o12 ++ r70)) :: (g67, [.int .i64 12]) :: L) ⟨by kernel_rfl, by kernel_rfl⟩ (List.Sublist.refl _) ?_
  refine E.C.seq ?_
  refine E.sr ?_
  refine E.op (.int .i64 16) ?_
  refine E.op (.bool true) ?_
  refine E.To.code ?_
  refine E.C.condT (by kernel_rfl) (by kernel_rfl) ?_
  refine E.C.skip (E.To.code ?_)
  refine E.C.seq ?_
  refine E.C.block ?_
  refine E.sr ?_
  refine E.op (.int .i64 16) ?_
  refine E.G.call (.agg #[.bool true, .bool true, .bool true, .bool false, .bool true, .int .i64 18, .int .u32 0]) (fun w h => Q.callAs (Of3_any 16 w) (by kernel_rfl)) (fun w _ => by kernel_rfl) (by kernel_rfl) ?_
  refine E.op (.bool true) ?_
  refine E.To.code ?_
  refine E.C.condT (by kernel_rfl) (by kernel_rfl) ?_
  refine E.C.region ?_
  refine E.op (.slice (some ⟨g68, 0, none⟩) 12 c69) ?_
  refine E.op (.int .i64 16) ?_
  refine E.G.buildSlice [.int .i64 16] (by kernel_rfl) (by kernel_rfl) (fun g73 => ?_)
  refine E.G.append (e := 3) 1 g68 12 c69 0 g73 0 1 1 1 8 Q3.o12 r70 [.int .i64 16] _ (by kernel_rfl) (by kernel_rfl) (by kernel_rfl) rfl (by kernel_rfl) (by first | rfl | omega | assumption) (by first | omega | decide) (by kernel_rfl) rfl (by kernel_rfl) rfl (by rfl) (by omega) (by omega) (by omega) (by kernel_rfl) (fun g74 c75 r76 hc77 hr78 => ?_)
  refine E.G.relist ((g74, (Q3.o13 ++ r76)) :: (g73, [.int .i64 16]) :: (g67, [.int .i64 12]) :: L) (by kernel_rfl) ?_
  refine E.op (.slice (some ⟨g74, 0, none⟩) 13 c75) ?_
  refine E.P.nb (E.To.code ?_)
  refine E.C.region ?_
  refine E.op (.int .i64 16) ?_
  refine E.op (.int .i64 17) ?_
  refine E.op (.int .i64 17) ?_
  refine E.To.rounds 47 ?_
  refine E.C.weak [(0, .slice none 0 0), (1, .slice (some ⟨g74, 0, none⟩) 13 c75), (2, .int .i64 17), (3, .int .i64 16), (4, .bool true), (5, .int .i64 16), (6, .int .i64 17), (7, .int .i64 16), (8, .agg #[.bool true, .bool true, .bool true, .bool false, .bool true, .int .i64 18, .int .u32 0]), (9, .bool true), (10, .slice (some ⟨g68, 0, none⟩) 12 c69), (11, .int .i64 16), (12, .slice (some ⟨g73, 0, none⟩) 1 1), (13, .slice (some ⟨g74, 0, none⟩) 13 c75)] ((g74, (Q3.o13 ++ r76)) :: (g73, [.int .i64 16]) :: L) ⟨by kernel_rfl, by kernel_rfl⟩ (List.Sublist.cons_cons _ (List.Sublist.cons_cons _ (List.Sublist.cons _ (List.Sublist.refl _)))) ?_
  refine E.C.seq ?_
  refine E.sr ?_
  refine E.op (.int .i64 17) ?_
  refine E.op (.bool true) ?_
  refine E.To.code ?_
  refine E.C.condT (by kernel_rfl) (by kernel_rfl) ?_
  refine E.C.skip (E.To.code ?_)
  refine E.C.seq ?_
  refine E.C.block ?_
  refine E.sr ?_
  refine E.op (.int .i64 17) ?_
  refine E.G.call (.agg #[.bool true, .bool true, .bool true, .bool false, .bool false, .int .i64 18, .int .u32 0]) (fun w h => Q.callAs (Of3_any 17 w) (by kernel_rfl)) (fun w _ => by kernel_rfl) (by kernel_rfl) ?_
  refine E.op (.bool true) ?_
  refine E.To.code ?_
  refine E.C.condT (by kernel_rfl) (by kernel_rfl) ?_
  refine E.C.region ?_
  refine E.op (.slice (some ⟨g74, 0, none⟩) 13 c75) ?_
  refine E.op (.int .i64 17) ?_
  refine E.G.buildSlice [.int .i64 17] (by kernel_rfl) (by kernel_rfl) (fun g79 => ?_)
  refine E.G.append (e := 3) 1 g74 13 c75 0 g79 0 1 1 1 8 Q3.o13 r76 [.int .i64 17] _ (by kernel_rfl) (by kernel_rfl) (by kernel_rfl) rfl (by kernel_rfl) (by first | rfl | omega | assumption) (by first | omega | decide) (by kernel_rfl) rfl (by kernel_rfl) rfl (by rfl) (by omega) (by omega) (by omega) (by kernel_rfl) (fun g80 c81 r82 hc83 hr84 => ?_)
  refine E.G.relist ((g80, (Q3.o14 ++ r82)) :: (g79, [.int .i64 17]) :: (g73, [.int .i64 16]) :: L) (by kernel_rfl) ?_
  refine E.op (.slice (some ⟨g80, 0, none⟩) 14 c81) ?_
  refine E.P.nb (E.To.code ?_)
  refine E.C.region ?_
  refine E.op (.int .i64 17) ?_
  refine E.op (.int .i64 18) ?_
  refine E.op (.int .i64 18) ?_
  refine E.To.rounds 46 ?_
  refine E.C.weak [(0, .slice none 0 0), (1, .slice (some ⟨g80, 0, none⟩) 14 c81), (2, .int .i64 18), (3, .int .i64 17), (4, .bool true), (5, .int .i64 17), (6, .int .i64 18), (7, .int .i64 17), (8, .agg #[.bool true, .bool true, .bool true, .bool false, .bool false, .int .i64 18, .int .u32 0]), (9, .bool true), (10, .slice (some ⟨g74, 0, none⟩) 13 c75), (11, .int .i64 17), (12, .slice (some ⟨g79, 0, none⟩) 1 1), (13, .slice (some ⟨g80, 0, none⟩) 14 c81)] ((g80, (Q3.o14 ++ r82)) :: (g79, [.int .i64 17]) :: L) ⟨by kernel_rfl, by kernel_rfl⟩ (List.Sublist.cons_cons _ (List.Sublist.cons_cons _ (List.Sublist.cons _ (List.Sublist.refl _)))) ?_
  refine E.C.seq ?_
  refine E.sr ?_
  refine E.op (.int .i64 18) ?_
  refine E.op (.bool true) ?_
  refine E.To.code ?_
  refine E.C.condT (by kernel_rfl) (by kernel_rfl) ?_
  refine E.C.skip (E.To.code ?_)
  refine E.C.seq ?_
  refine E.C.block ?_
  refine E.sr ?_
  refine E.op (.int .i64 18) ?_
  refine E.G.call (.agg #[.bool true, .bool true, .bool true, .bool false, .bool false, .int .i64 18, .int .u32 0]) (fun w h => Q.callAs (Of3_any 18 w) (by kernel_rfl)) (fun w _ => by kernel_rfl) (by kernel_rfl) ?_
  refine E.op (.bool true) ?_
  refine E.To.code ?_
  refine E.C.condT (by kernel_rfl) (by kernel_rfl) ?_
  refine E.C.region ?_
  refine E.op (.slice (some ⟨g80, 0, none⟩) 14 c81) ?_
  refine E.op (.int .i64 18) ?_
  refine E.G.buildSlice [.int .i64 18] (by kernel_rfl) (by kernel_rfl) (fun g85 => ?_)
  refine E.G.append (e := 3) 1 g80 14 c81 0 g85 0 1 1 1 8 Q3.o14 r82 [.int .i64 18] _ (by kernel_rfl) (by kernel_rfl) (by kernel_rfl) rfl (by kernel_rfl) (by first | rfl | omega | assumption) (by first | omega | decide) (by kernel_rfl) rfl (by kernel_rfl) rfl (by rfl) (by omega) (by omega) (by omega) (by kernel_rfl) (fun g86 c87 r88 hc89 hr90 => ?_)
  refine E.G.relist ((g86, (Q3.o15 ++ r88)) :: (g85, [.int .i64 18]) :: (g79, [.int .i64 17]) :: L) (by kernel_rfl) ?_
  refine E.op (.slice (some ⟨g86, 0, none⟩) 15 c87) ?_
  refine E.P.nb (E.To.code ?_)
  refine E.C.region ?_
  refine E.op (.int .i64 18) ?_
  refine E.op (.int .i64 19) ?_
  refine E.op (.int .i64 19) ?_
  refine E.To.rounds 45 ?_
  refine E.C.weak [(0, .slice none 0 0), (1, .slice (some ⟨g86, 0, none⟩) 15 c87), (2, .int .i64 19), (3, .int .i64 18), (4, .bool true), (5, .int .i64 18), (6, .int .i64 19), (7, .int .i64 18), (8, .agg #[.bool true, .bool true, .bool true, .bool false, .bool false, .int .i64 18, .int .u32 0]), (9, .bool true), (10, .slice (some ⟨g80, 0, none⟩) 14 c81), (11, .int .i64 18), (12, .slice (some ⟨g85, 0, none⟩) 1 1), (13, .slice (some ⟨g86, 0, none⟩) 15 c87)] ((g86, (Q3.o15 ++ r88)) :: (g85, [.int .i64 18]) :: L) ⟨by kernel_rfl, by kernel_rfl⟩ (List.Sublist.cons_cons _ (List.Sublist.cons_cons _ (List.Sublist.cons _ (List.Sublist.refl _)))) ?_
  refine E.C.seq ?_
  refine E.sr ?_
  refine E.op (.int .i64 19) ?_
  refine E.op (.bool true) ?_
  refine E.To.code ?_
  refine E.C.condT (by kernel_rfl) (by kernel_rfl) ?_
  refine E.C.skip (E.To.code ?_)
  refine E.C.seq ?_
  refine E.C.block ?_
  refine E.sr ?_
  refine E.op (.int .i64 19) ?_
  refine E.G.call (.agg #[.bool true, .bool true, .bool true, .bool false, .bool false, .int .i64 18, .int .u32 0]) (fun w h => Q.callAs (Of3_any 19 w) (by kernel_rfl)) (fun w _ => by kernel_rfl) (by kernel_rfl) ?_
  refine E.op (.bool true) ?_
  refine E.To.code ?_
  refine E.C.condT (by kernel_rfl) (by kernel_rfl) ?_
  refine E.C.region ?_
  refine E.op (.slice (some ⟨g86, 0, none⟩) 15 c87) ?_
  refine E.op (.int .i64 19) ?_
  refine E.G.buildSlice [.int .i64 19] (by kernel_rfl) (by kernel_rfl) (fun g91 => ?_)
  refine E.G.append (e := 3) 1 g86 15 c87 0 g91 0 1 1 1 8 Q3.o15 r88 [.int .i64 19] _ (by kernel_rfl) (by kernel_rfl) (by kernel_rfl) rfl (by kernel_rfl) (by first | rfl | omega | assumption) (by first | omega | decide) (by kernel_rfl) rfl (by kernel_rfl) rfl (by rfl) (by omega) (by omega) (by omega) (by kernel_rfl) (fun g92 c93 r94 hc95 hr96 => ?_)
  refine E.G.relist ((g92, (Q3.o16 ++ r94)) :: (g91, [.int .i64 19]) :: (g85, [.int .i64 18]) :: L) (by kernel_rfl) ?_
  refine E.op (.slice (some ⟨g92, 0, none⟩) 16 c93) ?_
  refine E.P.nb (E.To.code ?_)
  refine E.C.region ?_
  refine E.op (.int .i64 19) ?_
  refine E.op (.int .i64 20) ?_
  refine E.op (.int .i64 20) ?_
  refine E.To.rounds 44 ?_
  refine E.C.weak [(0, .slice none 0 0), (1, .slice (some ⟨g92, 0, none⟩) 16 c93), (2, .int .i64 20), (3, .int .i64 19), (4, .bool true), (5, .int .i64 19), (6, .int .i64 20), (7, .int .i64 19), (8, .agg #[.bool true, .bool true, .bool true, .bool false, .bool false, .int .i64 18, .int .u32 0]), (9, .bool true), (10, .slice (some ⟨g86, 0, none⟩) 15 c87), (11, .int .i64 19), (12, .slice (some ⟨g91, 0, none⟩) 1 1), (13, .slice (some ⟨g92, 0, none⟩) 16 c93)] ((g92, (Q3.o16 ++ r94)) :: (g91, [.int .i64 19]) :: L) ⟨by kernel_rfl, by kernel_rfl⟩ (List.Sublist.cons_cons _ (List.Sublist.cons_cons _ (List.Sublist.cons _ (List.Sublist.refl _)))) ?_
  refine E.C.seq ?_
  refine E.sr ?_
  refine E.op (.int .i64 20) ?_
  refine E.op (.bool true) ?_
  refine E.To.code ?_
  refine E.C.condT (by kernel_rfl) (by kernel_rfl) ?_
  refine E.C.skip (E.To.code ?_)
  refine E.C.seq ?_
  refine E.C.block ?_
  refine E.sr ?_
  refine E.op (.int .i64 20) ?_
  refine E.G.call (.agg #[.bool true, .bool true, .bool true, .bool false, .bool true, .int .i64 18, .int .u32 0]) (fun w h => Q.callAs (Of3_any 20 w) (by kernel_rfl)) (fun w _ => by kernel_rfl) (by kernel_rfl) ?_
  refine E.op (.bool true) ?_
  refine E.To.code ?_
  refine E.C.condT (by kernel_rfl) (by kernel_rfl) ?_
  refine E.C.region ?_
  refine E.op (.slice (some ⟨g92, 0, none⟩) 16 c93) ?_
  refine E.op (.int .i64 20) ?_
  refine E.G.buildSlice [.int .i64 20] (by kernel_rfl) (by kernel_rfl) (fun g97 => ?_)
  refine E.G.append (e := 3) 1 g92 16 c93 0 g97 0 1 1 1 8 Q3.o16 r94 [.int .i64 20] _ (by kernel_rfl) (by kernel_rfl) (by kernel_rfl) rfl (by kernel_rfl) (by first | rfl | omega | assumption) (by first | omega | decide) (by kernel_rfl) rfl (by kernel_rfl) rfl (by rfl) (by omega) (by omega) (by omega) (by kernel_rfl) (fun g98 c99 r100 hc101 hr102 => ?_)
  refine E.G.relist ((g98, (Q3.o17 ++ r100)) :: (g97, [.int .i64 20]) :: (g91, [.int .i64 19]) :: L) (by kernel_rfl) ?_
  refine E.op (.slice (some ⟨g98, 0, none⟩) 17 c99) ?_
  refine E.P.nb (E.To.code ?_)
  refine E.C.region ?_
  refine E.op (.int .i64 20) ?_
  refine E.op (.int .i64 21) ?_
  refine E.op (.int .i64 21) ?_
  refine E.To.rounds 43 ?_
  refine E.C.weak [(0, .slice none 0 0), (1, .slice (some ⟨g98, 0, none⟩) 17 c99), (2, .int .i64 21), (3, .int .i64 20), (4, .bool true), (5, .int .i64 20), (6, .int .i64 21), (7, .int .i64 20), (8, .agg #[.bool true, .bool true, .bool true, .bool false, .bool true, .int .i64 18, .int .u32 0]), (9, .bool true), (10, .slice (some ⟨g92, 0, none⟩) 16 c93), (11, .int .i64 20), (12, .slice (some ⟨g97, 0, none⟩) 1 1), (13, .slice (some ⟨g98, 0, none⟩) 17 c99)] ((g98, (Q3.o17 ++ r100)) :: (g97, [.int .i64 20]) :: L) ⟨by kernel_rfl, by kernel_rfl⟩ (List.Sublist.cons_cons _ (List.Sublist.cons_cons _ (List.Sublist.cons _ (List.Sublist.refl _)))) ?_
  refine E.C.seq ?_
  refine E.sr ?_
  refine E.op (.int .i64 21) ?_
  refine E.op (.bool true) ?_
  refine E.To.code ?_
  refine E.C.condT (by kernel_rfl) (by kernel_rfl) ?_
  refine E.C.skip (E.To.code ?_)
  refine E.C.seq ?_
  refine E.C.block ?_
  refine E.sr ?_
  refine E.op (.int .i64 21) ?_
  refine E.G.call (.agg #[.bool true, .bool true, .bool true, .bool false, .bool true, .int .i64 18, .int .u32 0]) (fun w h => Q.callAs (Of3_any 21 w) (by kernel_rfl)) (fun w _ => by kernel_rfl) (by kernel_rfl) ?_
  refine E.op (.bool true) ?_
  refine E.To.code ?_
  refine E.C.condT (by kernel_rfl) (by kernel_rfl) ?_
  refine E.C.region ?_
  refine E.op (.slice (some ⟨g98, 0, none⟩) 17 c99) ?_
  refine E.op (.int .i64 21) ?_
  refine E.G.buildSlice [.int .i64 21] (by kernel_rfl) (by kernel_rfl) (fun g103 => ?_)
  refine E.G.append (e := 3) 1 g98 17 c99 0 g103 0 1 1 1 8 Q3.o17 r100 [.int .i64 21] _ (by kernel_rfl) (by kernel_rfl) (by kernel_rfl) rfl (by kernel_rfl) (by first | rfl | omega | assumption) (by first | omega | decide) (by kernel_rfl) rfl (by kernel_rfl) rfl (by rfl) (by omega) (by omega) (by omega) (by kernel_rfl) (fun g104 c105 r106 hc107 hr108 => ?_)
  refine E.G.relist ((g104, (Q3.o18 ++ r106)) :: (g103, [.int .i64 21]) :: (g97, [.int .i64 20]) :: L) (by kernel_rfl) ?_
  refine E.op (.slice (some ⟨g104, 0, none⟩) 18 c105) ?_
  refine E.P.nb (E.To.code ?_)
  refine E.C.region ?_
  refine E.op (.int .i64 21) ?_
  refine E.op (.int .i64 22) ?_
  refine E.op (.int .i64 22) ?_
  refine E.To.rounds 42 ?_
  refine E.C.weak [(0, .slice none 0 0), (1, .slice (some ⟨g104, 0, none⟩) 18 c105), (2, .int .i64 22), (3, .int .i64 21), (4, .bool true), (5, .int .i64 21), (6, .int .i64 22), (7, .int .i64 21), (8, .agg #[.bool true, .bool true, .bool true, .bool false, .bool true, .int .i64 18, .int .u32 0]), (9, .bool true), (10, .slice (some ⟨g98, 0, none⟩) 17 c99), (11, .int .i64 21), (12, .slice (some ⟨g103, 0, none⟩) 1 1), (13, .slice (some ⟨g104, 0, none⟩) 18 c105)] ((g104, (Q3.o18 ++ r106)) :: (g103, [.int .i64 21]) :: L) ⟨by kernel_rfl, by kernel_rfl⟩ (List.Sublist.cons_cons _ (List.Sublist.cons_cons _ (List.Sublist.cons _ (List.Sublist.refl _)))) ?_
  refine E.C.seq ?_
  refine E.sr ?_
  refine E.op (.int .i64 22) ?_
  refine E.op (.bool true) ?_
  refine E.To.code ?_
  refine E.C.condT (by kernel_rfl) (by kernel_rfl) ?_
  refine E.C.skip (E.To.code ?_)
  refine E.C.seq ?_
  refine E.C.block ?_
  refine E.sr ?_
  refine E.op (.int .i64 22) ?_
  refine E.G.call (.agg #[.bool true, .bool true, .bool true, .bool false, .bool true, .int .i64 18, .int .u32 0]) (fun w h => Q.callAs (Of3_any 22 w) (by kernel_rfl)) (fun w _ => by kernel_rfl) (by kernel_rfl) ?_
  refine E.op (.bool true) ?_
  refine E.To.code ?_
  refine E.C.condT (by kernel_rfl) (by kernel_rfl) ?_
  refine E.C.region ?_
  refine E.op (.slice (some ⟨g104, 0, none⟩) 18 c105) ?_
  refine E.op (.int .i64 22) ?_
  refine E.G.buildSlice [.int .i64 22] (by kernel_rfl) (by kernel_rfl) (fun g109 => ?_)
  refine E.G.append (e := 3) 1 g104 18 c105 0 g109 0 1 1 1 8 Q3.o18 r106 [.int .i64 22] _ (by kernel_rfl) (by kernel_rfl) (by kernel_rfl) rfl (by kernel_rfl) (by first | rfl | omega | assumption) (by first | omega | decide) (by kernel_rfl) rfl (by kernel_rfl) rfl (by rfl) (by omega) (by omega) (by omega) (by kernel_rfl) (fun g110 c111 r112 hc113 hr114 => ?_)
  refine E.G.relist ((g110, (Q3.o19 ++ r112)) :: (g109, [.int .i64 22]) :: (g103, [.int .i64 21]) :: L) (by kernel_rfl) ?_
  refine E.op (.slice (some ⟨g110, 0, none⟩) 19 c111) ?_
  refine E.P.nb (E.To.code ?_)
  refine E.C.region ?_
  refine E.op (.int .i64 22) ?_
  refine E.op (.int .i64 23) ?_
  refine E.op (.int .i64 23) ?_
  refine E.To.rounds 41 ?_
  refine E.C.weak [(0, .slice none 0 0), (1, .slice (some ⟨g110, 0, none⟩) 19 c111), (2, .int .i64 23), (3, .int .i64 22), (4, .bool true), (5, .int .i64 22), (6, .int .i64 23), (7, .int .i64 22), (8, .agg #[.bool true, .bool true, .bool true, .bool false, .bool true, .int .i64 18, .int .u32 0]), (9, .bool true), (10, .slice (some ⟨g104, 0, none⟩) 18 c105), (11, .int .i64 22), (12, .slice (some ⟨g109, 0, none⟩) 1 1), (13, .slice (some ⟨g110, 0, none⟩) 19 c111)] ((g110, (Q3.o19 ++ r112)) :: (g109, [.int .i64 22]) :: L) ⟨by kernel_rfl, by kernel_rfl⟩ (List.Sublist.cons_cons _ (List.Sublist.cons_cons _ (List.Sublist.cons _ (List.Sublist.refl _)))) ?_
  refine E.C.seq ?_
  refine E.sr ?_
  refine E.op (.int .i64 23) ?_
  refine E.op (.bool true) ?_
  refine E.To.code ?_
  refine E.C.condT (by kernel_rfl) (by kernel_rfl) ?_
  refine E.C.skip (E.To.code ?_)
  refine E.C.seq ?_
  refine E.C.block ?_
  refine E.sr ?_
  refine E.op (.int .i64 23) ?_
  refine E.G.call (.agg #[.bool true, .bool true, .bool true, .bool false, .bool true, .int .i64 18, .int .u32 0]) (fun w h => Q.callAs (Of3_any 23 w) (by kernel_rfl)) (fun w _ => by kernel_rfl) (by kernel_rfl) ?_
  refine E.op (.bool true) ?_
  refine E.To.code ?_
  refine E.C.condT (by kernel_rfl) (by kernel_rfl) ?_
  refine E.C.region ?_
  refine E.op (.slice (some ⟨g110, 0, none⟩) 19 c111) ?_
  refine E.op (.int .i64 23) ?_
  refine E.G.buildSlice [.int .i64 23] (by kernel_rfl) (by kernel_rfl) (fun g115 => ?_)
  refine E.G.append (e := 3) 1 g110 19 c111 0 g115 0 1 1 1 8 Q3.o19 r112 [.int .i64 23] _ (by kernel_rfl) (by kernel_rfl) (by kernel_rfl) rfl (by kernel_rfl) (by first | rfl | omega | assumption) (by first | omega | decide) (by kernel_rfl) rfl (by kernel_rfl) rfl (by rfl) (by omega) (by omega) (by omega) (by kernel_rfl) (fun g116 c117 r118 hc119 hr120 => ?_)
  refine E.G.relist ((g116, (Q3.o20 ++ r118)) :: (g115, [.int .i64 23]) :: (g109, [.int .i64 22]) :: L) (by kernel_rfl) ?_
  refine E.op (.slice (some ⟨g116, 0, none⟩) 20 c117) ?_
  refine E.P.nb (E.To.code ?_)
  refine E.C.region ?_
  refine E.op (.int .i64 23) ?_
  refine E.op (.int .i64 24) ?_
  refine E.op (.int .i64 24) ?_
  refine E.To.rounds 40 ?_
  refine E.C.weak [(0, .slice none 0 0), (1, .slice (some ⟨g116, 0, none⟩) 20 c117), (2, .int .i64 24), (3, .int .i64 23), (4, .bool true), (5, .int .i64 23), (6, .int .i64 24), (7, .int .i64 23), (8, .agg #[.bool true, .bool true, .bool true, .bool false, .bool true, .int .i64 18, .int .u32 0]), (9, .bool true), (10, .slice (some ⟨g110, 0, none⟩) 19 c111), (11, .int .i64 23), (12, .slice (some ⟨g115, 0, none⟩) 1 1), (13, .slice (some ⟨g116, 0, none⟩) 20 c117)] ((g116, (Q3.o20 ++ r118)) :: (g115, [.int .i64 23]) :: L) ⟨by kernel_rfl, by kernel_rfl⟩ (List.Sublist.cons_cons _ (List.Sublist.cons_cons _ (List.Sublist.cons _ (List.Sublist.refl _)))) ?_
  refine E.C.seq ?_
  refine E.sr ?_
  refine E.op (.int .i64 24) ?_
  refine E.op (.bool true) ?_
  refine E.To.code ?_
  refine E.C.condT (by kernel_rfl) (by kernel_rfl) ?_
  refine E.C.skip (E.To.code ?_)
  refine E.C.seq ?_
  refine E.C.block ?_
  refine E.sr ?_
  refine E.op (.int .i64 24) ?_
  refine E.G.call (.agg #[.bool true, .bool true, .bool true, .bool false, .bool true, .int .i64 18, .int .u32 0]) (fun w h => Q.callAs (Of3_any 24 w) (by kernel_rfl)) (fun w _ => by kernel_rfl) (by kernel_rfl) ?_
  refine E.op (.bool true) ?_
  refine E.To.code ?_
  refine E.C.condT (by kernel_rfl) (by kernel_rfl) ?_
  refine E.C.region ?_
  refine E.op (.slice (some ⟨g116, 0, none⟩) 20 c117) ?_
  refine E.op (.int .i64 24) ?_
  refine E.G.buildSlice [.int .i64 24] (by kernel_rfl) (by kernel_rfl) (fun g121 => ?_)
  refine E.G.append (e := 3) 1 g116 20 c117 0 g121 0 1 1 1 8 Q3.o20 r118 [.int .i64 24] _ (by kernel_rfl) (by kernel_rfl) (by kernel_rfl) rfl (by kernel_rfl) (by first | rfl | omega | assumption) (by first | omega | decide) (by kernel_rfl) rfl (by kernel_rfl) rfl (by rfl) (by omega) (by omega) (by omega) (by kernel_rfl) (fun g122 c123 r124 hc125 hr126 => ?_)
  refine E.G.relist ((g122, (Q3.o21 ++ r124)) :: (g121, [.int .i64 24]) :: (g115, [.int .i64 23]) :: L) (by kernel_rfl) ?_
  refine E.op (.slice (some ⟨g122, 0, none⟩) 21 c123) ?_
  refine E.P.nb (E.To.code ?_)
  refine E.C.region ?_
  refine E.op (.int .i64 24) ?_
  refine E.op (.int .i64 25) ?_
  refine E.op (.int .i64 25) ?_
  refine E.To.rounds 39 ?_
  refine E.C.weak [(0, .slice none 0 0), (1, .slice (some ⟨g122, 0, none⟩) 21 c123), (2, .int .i64 25), (3, .int .i64 24), (4, .bool true), (5, .int .i64 24), (6, .int .i64 25), (7, .int .i64 24), (8, .agg #[.bool true, .bool true, .bool true, .bool false, .bool true, .int .i64 18, .int .u32 0]), (9, .bool true), (10, .slice (some ⟨g116, 0, none⟩) 20 c117), (11, .int .i64 24), (12, .slice (some ⟨g121, 0, none⟩) 1 1), (13, .slice (some ⟨g122, 0, none⟩) 21 c123)] ((g122, (Q3.o21 ++ r124)) :: (g121, [.int .i64 24]) :: L) ⟨by kernel_rfl, by kernel_rfl⟩ (List.Sublist.cons_cons _ (List.Sublist.cons_cons _ (List.Sublist.cons _ (List.Sublist.refl _)))) ?_
  refine E.C.seq ?_
  refine E.sr ?_
  refine E.op (.int .i64 25) ?_
  refine E.op (.bool true) ?_
  refine E.To.code ?_
  refine E.C.condT (by kernel_rfl) (by kernel_rfl) ?_
  refine E.C.skip (E.To.code ?_)
  refine E.C.seq ?_
  refine E.C.block ?_
  refine E.sr ?_
  refine E.op (.int .i64 25) ?_
  refine E.G.call (.agg #[.bool true, .bool true, .bool true, .bool false, .bool true, .int .i64 18, .int .u32 0]) (fun w h => Q.callAs (Of3_any 25 w) (by kernel_rfl)) (fun w _ => by kernel_rfl) (by kernel_rfl) ?_
  refine E.op (.bool true) ?_
  refine E.To.code ?_
  refine E.C.condT (by kernel_rfl) (by kernel_rfl) ?_
  refine E.C.region ?_
  refine E.op (.slice (some ⟨g122, 0, none⟩) 21 c123) ?_
  refine E.op (.int .i64 25) ?_
  refine E.G.buildSlice [.int .i64 25] (by kernel_rfl) (by kernel_rfl) (fun g127 => ?_)
  refine E.G.append (e := 3) 1 g122 21 c123 0 g127 0 1 1 1 8 Q3.o21 r124 [.int .i64 25] _ (by kernel_rfl) (by kernel_rfl) (by kernel_rfl) rfl (by kernel_rfl) (by first | rfl | omega | assumption) (by first | omega | decide) (by kernel_rfl) rfl (by kernel_rfl) rfl (by rfl) (by omega) (by omega) (by omega) (by kernel_rfl) (fun g128 c129 r130 hc131 hr132 => ?_)
  refine E.G.relist ((g128, (Q3.o22 ++ r130)) :: (g127, [.int .i64 25]) :: (g121, [.int .i64 24]) :: L) (by kernel_rfl) ?_
  refine E.op (.slice (some ⟨g128, 0, none⟩) 22 c129) ?_
  refine E.P.nb (E.To.code ?_)
  refine E.C.region ?_
  refine E.op (.int .i64 25) ?_
  refine E.op (.int .i64 26) ?_
  refine E.op (.int .i64 26) ?_
  refine E.To.rounds 38 ?_
  refine E.C.weak [(0, .slice none 0 0), (1, .slice (some ⟨g128, 0, none⟩) 22 c129), (2, .int .i64 26), (3, .int .i64 25), (4, .bool true), (5, .int .i64 25), (6, .int .i64 26), (7, .int .i64 25), (8, .agg #[.bool true, .bool true, .bool true, .bool false, .bool true, .int .i64 18, .int .u32 0]), (9, .bool true), (10, .slice (some ⟨g122, 0, none⟩) 21 c123), (11, .int .i64 25), (12, .slice (some ⟨g127, 0, none⟩) 1 1), (13, .slice (some ⟨g128, 0, none⟩) 22 c129)] ((g128, (Q3.o22 ++ r130)) :: (g127, [.int .i64 25]) :: L) ⟨by kernel_rfl, by kernel_rfl⟩ (List.Sublist.cons_cons _ (List.Sublist.cons_cons _ (List.Sublist.cons _ (List.Sublist.refl _)))) ?_
  refine E.C.seq ?_
  refine E.sr ?_
  refine E.op (.int .i64 26) ?_
  refine E.op (.bool true) ?_
  refine E.To.code ?_
  refine E.C.condT (by kernel_rfl) (by kernel_rfl) ?_
  refine E.C.skip (E.To.code ?_)
  refine E.C.seq ?_
  refine E.C.block ?_
  refine E.sr ?_
  refine E.op (.int .i64 26) ?_
  refine E.G.call (.agg #[.bool true, .bool true, .bool true, .bool false, .bool true, .int .i64 18, .int .u32 0]) (fun w h => Q.callAs (Of3_any 26 w) (by kernel_rfl)) (fun w _ => by kernel_rfl) (by kernel_rfl) ?_
  refine E.op (.bool true) ?_
  refine E.To.code ?_
  refine E.C.condT (by kernel_rfl) (by kernel_rfl) ?_
  refine E.C.region ?_
  refine E.op (.slice (some ⟨g128, 0, none⟩) 22 c129) ?_
  refine E.op (.int .i64 26) ?_
  refine E.G.buildSlice [.int .i64 26] (by kernel_rfl) (by kernel_rfl) (fun g133 => ?_)
  refine E.G.append (e := 3) 1 g128 22 c129 0 g133 0 1 1 1 8 Q3.o22 r130 [.int .i64 26] _ (by kernel_rfl) (by kernel_rfl) (by kernel_rfl) rfl (by kernel_rfl) (by first | rfl | omega | assumption) (by first | omega | decide) (by kernel_rfl) rfl (by kernel_rfl) rfl (by rfl) (by omega) (by omega) (by omega) (by kernel_rfl) (fun g134 c135 r136 hc137 hr138 => ?_)
  refine E.G.relist ((g134, (Q3.o23 ++ r136)) :: (g133, [.int .i64 26]) :: (g127, [.int .i64 25]) :: L) (by kernel_rfl) ?_
  refine E.op (.slice (some ⟨g134, 0, none⟩) 23 c135) ?_
  refine E.P.nb (E.To.code ?_)
  refine E.C.region ?_
  refine E.op (.int .i64 26) ?_
  refine E.op (.int .i64 27) ?_
  refine E.op (.int .i64 27) ?_
  refine E.To.rounds 37 ?_
  refine E.C.weak [(0, .slice none 0 0), (1, .slice (some ⟨g134, 0, none⟩) 23 c135), (2, .int .i64 27), (3, .int .i64 26), (4, .bool true), (5, .int .i64 26), (6, .int .i64 27), (7, .int .i64 26), (8, .agg #[.bool true, .bool true, .bool true, .bool false, .bool true, .int .i64 18, .int .u32 0]), (9, .bool true), (10, .slice (some ⟨g128, 0, none⟩) 22 c129), (11, .int .i64 26), (12, .slice (some ⟨g133, 0, none⟩) 1 1), (13, .slice (some ⟨g134, 0, none⟩) 23 c135)] ((g134, (Q3.o23 ++ r136)) :: (g133, [.int .i64 26]) :: L) ⟨by kernel_rfl, by kernel_rfl⟩ (List.Sublist.cons_cons _ (List.Sublist.cons_cons _ (List.Sublist.cons _ (List.Sublist.refl _)))) ?_
  refine E.C.seq ?_
  refine E.sr ?_
  refine E.op (.int .i64 27) ?_
  refine E.op (.bool true) ?_
  refine E.To.code ?_
  refine E.C.condT (by kernel_rfl) (by kernel_rfl) ?_
  refine E.C.skip (E.To.code ?_)
  refine E.C.seq ?_
  refine E.C.block ?_
  refine E.sr ?_
  refine E.op (.int .i64 27) ?_
  refine E.G.call (.agg #[.bool true, .bool true, .bool true, .bool false, .bool true, .int .i64 18, .int .u32 0]) (fun w h => Q.callAs (Of3_any 27 w) (by kernel_rfl)) (fun w _ => by kernel_rfl) (by kernel_rfl) ?_
  refine E.op (.bool true) ?_
  refine E.To.code ?_
  refine E.C.condT (by kernel_rfl) (by kernel_rfl) ?_
  refine E.C.region ?_
  refine E.op (.slice (some ⟨g134, 0, none⟩) 23 c135) ?_
  refine E.op (.int .i64 27) ?_
  refine E.G.buildSlice [.int .i64 27] (by kernel_rfl) (by kernel_rfl) (fun g139 => ?_)
  refine E.G.append (e := 3) 1 g134 23 c135 0 g139 0 1 1 1 8 Q3.o23 r136 [.int .i64 27] _ (by kernel_rfl) (by kernel_rfl) (by kernel_rfl) rfl (by kernel_rfl) (by first | rfl | omega | assumption) (by first | omega | decide) (by kernel_rfl) rfl (by kernel_rfl) rfl (by rfl) (by omega) (by omega) (by omega) (by kernel_rfl) (fun g140 c141 r142 hc143 hr144 => ?_)
  refine E.G.relist ((g140, (Q3.o24 ++ r142)) :: (g139, [.int .i64 27]) :: (g133, [.int .i64 26]) :: L) (by kernel_rfl) ?_
  refine E.op (.slice (some ⟨g140, 0, none⟩) 24 c141) ?_
  refine E.P.nb (E.To.code ?_)
  refine E.C.region ?_
  refine E.op (.int .i64 27) ?_
  refine E.op (.int .i64 28) ?_
  refine E.op (.int .i64 28) ?_
  refine E.To.rounds 36 ?_
  refine E.C.weak [(0, .slice none 0 0), (1, .slice (some ⟨g140, 0, none⟩) 24 c141), (2, .int .i64 28), (3, .int .i64 27), (4, .bool true), (5, .int .i64 27), (6, .int .i64 28), (7, .int .i64 27), (8, .agg #[.bool true, .bool true, .bool true, .bool false, .bool true, .int .i64 18, .int .u32 0]), (9, .bool true), (10, .slice (some ⟨g134, 0, none⟩) 23 c135), (11, .int .i64 27), (12, .slice (some ⟨g139, 0, none⟩) 1 1), (13, .slice (some ⟨g140, 0, none⟩) 24 c141)] ((g140, (Q3.o24 ++ r142)) :: (g139, [.int .i64 27]) :: L) ⟨by kernel_rfl, by kernel_rfl⟩ (List.Sublist.cons_cons _ (List.Sublist.cons_cons _ (List.Sublist.cons _ (List.Sublist.refl _)))) ?_
  refine E.C.seq ?_
  refine E.sr ?_
  refine E.op (.int .i64 28) ?_
  refine E.op (.bool true) ?_
  refine E.To.code ?_
  refine E.C.condT (by kernel_rfl) (by kernel_rfl) ?_
  refine E.C.skip (E.To.code ?_)
  refine E.C.seq ?_
  refine E.C.block ?_
  refine E.sr ?_
  refine E.op (.int .i64 28) ?_
  refine E.G.call (.agg #[.bool false, .bool false, .bool false, .bool false, .bool false, .int .i64 0, .int .u32 0]) (fun w h => Q.callAs (Of3_any 28 w) (by kernel_rfl)) (fun w _ => by kernel_rfl) (by kernel_rfl) ?_
  refine E.op (.bool false) ?_
  refine E.To.code ?_
  refine E.C.condF (by kernel_rfl) (by kernel_rfl) ?_
  refine E.C.skip (E.P.nb (E.To.code ?_))
  refine E.C.region ?_
  refine E.op (.int .i64 28) ?_
  refine E.op (.int .i64 29) ?_
  refine E.op (.int .i64 29) ?_
  refine E.To.rounds 35 ?_
  refine E.C.weak [(0, .slice none 0 0), (1, .slice (some ⟨g140, 0, none⟩) 24 c141), (2, .int .i64 29), (3, .int .i64 28), (4, .bool true), (5, .int .i64 28), (6, .int .i64 29), (7, .int .i64 28), (8, .agg #[.bool false, .bool false, .bool false, .bool false, .bool false, .int .i64 0, .int .u32 0]), (9, .bool false), (10, .slice (some ⟨g134, 0, none⟩) 23 c135), (11, .int .i64 27), (12, .slice (some ⟨g139, 0, none⟩) 1 1), (13, .slice (some ⟨g140, 0, none⟩) 24 c141)] ((g140, (Q3.o24 ++ r142)) :: (g139, [.int .i64 27]) :: L) ⟨by kernel_rfl, by kernel_rfl⟩ (List.Sublist.refl _) ?_
  refine E.C.seq ?_
  refine E.sr ?_
  refine E.op (.int .i64 29) ?_
  refine E.op (.bool true) ?_
  refine E.To.code ?_
  refine E.C.condT (by kernel_rfl) (by kernel_rfl) ?_
  refine E.C.skip (E.To.code ?_)
  refine E.C.seq ?_
  refine E.C.block ?_
  refine E.sr ?_
  refine E.op (.int .i64 29) ?_
  refine E.G.call (.agg #[.bool false, .bool false, .bool false, .bool false, .bool false, .int .i64 0, .int .u32 0]) (fun w h => Q.callAs (Of3_any 29 w) (by kernel_rfl)) (fun w _ => by kernel_rfl) (by kernel_rfl) ?_
  refine E.op (.bool false) ?_
  refine E.To.code ?_
  refine E.C.condF (by kernel_rfl) (by kernel_rfl) ?_
  refine E.C.skip (E.P.nb (E.To.code ?_))
  refine E.C.region ?_
  refine E.op (.int .i64 29) ?_
  refine E.op (.int .i64 30) ?_
  refine E.op (.int .i64 30) ?_
  refine E.To.rounds 34 ?_
  refine E.C.weak [(0, .slice none 0 0), (1, .slice (some ⟨g140, 0, none⟩) 24 c141), (2, .int .i64 30), (3, .int .i64 29), (4, .bool true), (5, .int .i64 29), (6, .int .i64 30), (7, .int .i64 29), (8, .agg #[.bool false, .bool false, .bool false, .bool false, .bool false, .int .i64 0, .int .u32 0]), (9, .bool false), (10, .slice (some ⟨g134, 0, none⟩) 23 c135), (11, .int .i64 27), (12, .slice (some ⟨g139, 0, none⟩) 1 1), (13, .slice (some ⟨g140, 0, none⟩) 24 c141)] ((g140, (Q3.o24 ++ r142)) :: (g139, [.int .i64 27]) :: L) ⟨by kernel_rfl, by kernel_rfl⟩ (List.Sublist.refl _) ?_
  refine E.C.seq ?_
  refine E.sr ?_
  refine E.op (.int .i64 30) ?_
  refine E.op (.bool true) ?_
  refine E.To.code ?_
  refine E.C.condT (by kernel_rfl) (by kernel_rfl) ?_
  refine E.C.skip (E.To.code ?_)
  refine E.C.seq ?_
  refine E.C.block ?_
  refine E.sr ?_
  refine E.op (.int .i64 30) ?_
  refine E.G.call (.agg #[.bool false, .bool false, .bool false, .bool false, .bool false, .int .i64 0, .int .u32 0]) (fun w h => Q.callAs (Of3_any 30 w) (by kernel_rfl)) (fun w _ => by kernel_rfl) (by kernel_rfl) ?_
  refine E.op (.bool false) ?_
  refine E.To.code ?_
  refine E.C.condF (by kernel_rfl) (by kernel_rfl) ?_
  refine E.C.skip (E.P.nb (E.To.code ?_))
  refine E.C.region ?_
  refine E.op (.int .i64 30) ?_
  refine E.op (.int .i64 31) ?_
  refine E.op (.int .i64 31) ?_
  refine E.To.rounds 33 ?_
  refine E.C.weak [(0, .slice none 0 0), (1, .slice (some ⟨g140, 0, none⟩) 24 c141), (2, .int .i64 31), (3, .int .i64 30), (4, .bool true), (5, .int .i64 30), (6, .int .i64 31), (7, .int .i64 30), (8, .agg #[.bool false, .bool false, .bool false, .bool false, .bool false, .int .i64 0, .int .u32 0]), (9, .bool false), (10, .slice (some ⟨g134, 0, none⟩) 23 c135), (11, .int .i64 27), (12, .slice (some ⟨g139, 0, none⟩) 1 1), (13, .slice (some ⟨g140, 0, none⟩) 24 c141)] ((g140, (Q3.o24 ++ r142)) :: (g139, [.int .i64 27]) :: L) ⟨by kernel_rfl, by kernel_rfl⟩ (List.Sublist.refl _) ?_
  refine E.C.seq ?_
  refine E.sr ?_
  refine E.op (.int .i64 31) ?_
  refine E.op (.bool true) ?_
  refine E.To.code ?_
  refine E.C.condT (by kernel_rfl) (by kernel_rfl) ?_
  refine E.C.skip (E.To.code ?_)
  refine E.C.seq ?_
  refine E.C.block ?_
  refine E.sr ?_
  refine E.op (.int .i64 31) ?_
  refine E.G.call (.agg #[.bool false, .bool false, .bool false, .bool false, .bool false, .int .i64 0, .int .u32 0]) (fun w h => Q.callAs (Of3_any 31 w) (by kernel_rfl)) (fun w _ => by kernel_rfl) (by kernel_rfl) ?_
  refine E.op (.bool false) ?_
  refine E.To.code ?_
  refine E.C.condF (by kernel_rfl) (by kernel_rfl) ?_
  refine E.C.skip (E.P.nb (E.To.code ?_))
  refine E.C.region ?_
  refine E.op (.int .i64 31) ?_
  refine E.op (.int .i64 32) ?_
  refine E.op (.int .i64 32) ?_
  refine E.To.rounds 32 ?_
  refine E.C.weak [(0, .slice none 0 0), (1, .slice (some ⟨g140, 0, none⟩) 24 c141), (2, .int .i64 32), (3, .int .i64 31), (4, .bool true), (5, .int .i64 31), (6, .int .i64 32), (7, .int .i64 31), (8, .agg #[.bool false, .bool false, .bool false, .bool false, .bool false, .int .i64 0, .int .u32 0]), (9, .bool false), (10, .slice (some ⟨g134, 0, none⟩) 23 c135), (11, .int .i64 27), (12, .slice (some ⟨g139, 0, none⟩) 1 1), (13, .slice (some ⟨g140, 0, none⟩) 24 c141)] ((g140, (Q3.o24 ++ r142)) :: (g139, [.int .i64 27]) :: L) ⟨by kernel_rfl, by kernel_rfl⟩ (List.Sublist.refl _) ?_
  refine E.C.seq ?_
  refine E.sr ?_
  refine E.op (.int .i64 32) ?_
  refine E.op (.bool true) ?_
  refine E.To.code ?_
  refine E.C.condT (by kernel_rfl) (by kernel_rfl) ?_
  refine E.C.skip (E.To.code ?_)
  refine E.C.seq ?_
  refine E.C.block ?_
  refine E.sr ?_
  refine E.op (.int .i64 32) ?_
  refine E.G.call (.agg #[.bool true, .bool true, .bool true, .bool false, .bool true, .int .i64 18, .int .u32 0]) (fun w h => Q.callAs (Of3_any 32 w) (by kernel_rfl)) (fun w _ => by kernel_rfl) (by kernel_rfl) ?_
  refine E.op (.bool true) ?_
  refine E.To.code ?_
  refine E.C.condT (by kernel_rfl) (by kernel_rfl) ?_
  refine E.C.region ?_
  refine E.op (.slice (some ⟨g140, 0, none⟩) 24 c141) ?_
  refine E.op (.int .i64 32) ?_
  refine E.G.buildSlice [.int .i64 32] (by kernel_rfl) (by kernel_rfl) (fun g145 => ?_)
  refine E.G.append (e := 3) 1 g140 24 c141 0 g145 0 1 1 1 8 Q3.o24 r142 [.int .i64 32] _ (by kernel_rfl) (by kernel_rfl) (by kernel_rfl) rfl (by kernel_rfl) (by first | rfl | omega | assumption) (by first | omega | decide) (by kernel_rfl) rfl (by kernel_rfl) rfl (by rfl) (by omega) (by omega) (by omega) (by kernel_rfl) (fun g146 c147 r148 hc149 hr150 => ?_)
  refine E.G.relist ((g146, (Q3.o25 ++ r148)) :: (g145, [.int .i64 32]) :: (g139, [.int .i64 27]) :: L) (by kernel_rfl) ?_
  refine E.op (.slice (some ⟨g146, 0, none⟩) 25 c147) ?_
  refine E.P.nb (E.To.code ?_)
  refine E.C.region ?_
  refine E.op (.int .i64 32) ?_
  refine E.op (.int .i64 33) ?_
  refine E.op (.int .i64 33) ?_
  refine E.To.rounds 31 ?_
  refine E.C.weak [(0, .slice none 0 0), (1, .slice (some ⟨g146, 0, none⟩) 25 c147), (2, .int .i64 33), (3, .int .i64 32), (4, .bool true), (5, .int .i64 32), (6, .int .i64 33), (7, .int .i64 32), (8, .agg #[.bool true, .bool true, .bool true, .bool false, .bool true, .int .i64 18, .int .u32 0]), (9, .bool true), (10, .slice (some ⟨g140, 0, none⟩) 24 c141), (11, .int .i64 32), (12, .slice (some ⟨g145, 0, none⟩) 1 1), (13, .slice (some ⟨g146, 0, none⟩) 25 c147)] ((g146, (Q3.o25 ++ r148)) :: (g145, [.int .i64 32]) :: L) ⟨by kernel_rfl, by kernel_rfl⟩ (List.Sublist.cons_cons _ (List.Sublist.cons_cons _ (List.Sublist.cons _ (List.Sublist.refl _)))) ?_
  refine E.C.seq ?_
  refine E.sr ?_
  refine E.op (.int .i64 33) ?_
  refine E.op (.bool true) ?_
  refine E.To.code ?_
  refine E.C.condT (by kernel_rfl) (by kernel_rfl) ?_
  refine E.C.skip (E.To.code ?_)
  refine E.C.seq ?_
  refine E.C.block ?_
  refine E.sr ?_
  refine E.op (.int .i64 33) ?_
  refine E.G.call (.agg #[.bool true, .bool true, .bool true, .bool false, .bool true, .int .i64 18, .int .u32 0]) (fun w h => Q.callAs (Of3_any 33 w) (by kernel_rfl)) (fun w _ => by kernel_rfl) (by kernel_rfl) ?_
  refine E.op (.bool true) ?_
  refine E.To.code ?_
  refine E.C.condT (by kernel_rfl) (by kernel_rfl) ?_
  refine E.C.region ?_
  refine E.op (.slice (some ⟨g146, 0, none⟩) 25 c147) ?_
  refine E.op (.int .i64 33) ?_
  refine E.G.buildSlice [.int .i64 33] (by kernel_rfl) (by kernel_rfl) (fun g151 => ?_)
  refine E.G.append (e := 3) 1 g146 25 c147 0 g151 0 1 1 1 8 Q3.o25 r148 [.int .i64 33] _ (by kernel_rfl) (by kernel_rfl) (by kernel_rfl) rfl (by kernel_rfl) (by first | rfl | omega | assumption) (by first | omega | decide) (by kernel_rfl) rfl (by kernel_rfl) rfl (by rfl) (by omega) (by omega) (by omega) (by kernel_rfl) (fun g152 c153 r154 hc155 hr156 => ?_)
  refine E.G.relist ((g152, (Q3.o26 ++ r154)) :: (g151, [.int .i64 33]) :: (g145, [.int .i64 32]) :: L) (by kernel_rfl) ?_
  refine E.op (.slice (some ⟨g152, 0, none⟩) 26 c153) ?_
  refine E.P.nb (E.To.code ?_)
  refine E.C.region ?_
  refine E.op (.int .i64 33) ?_
  refine E.op (.int .i64 34) ?_
  refine E.op (.int .i64 34) ?_
  refine E.To.rounds 30 ?_
  refine E.C.weak [(0, .slice none 0 0), (1, .slice (some ⟨g152, 0, none⟩) 26 c153), (2, .int .i64 34), (3, .int .i64 33), (4, .bool true), (5, .int .i64 33), (6, .int .i64 34), (7, .int .i64 33), (8, .agg #[.bool true, .bool true, .bool true, .bool false, .bool true, .int .i64 18, .int .u32 0]), (9, .bool true), (10, .slice (some ⟨g146, 0, none⟩) 25 c147), (11, .int .i64 33), (12, .slice (some ⟨g151, 0, none⟩) 1 1), (13, .slice (some ⟨g152, 0, none⟩) 26 c153)] ((g152, (Q3.o26 ++ r154)) :: (g151, [.int .i64 33]) :: L) ⟨by kernel_rfl, by kernel_rfl⟩ (List.Sublist.cons_cons _ (List.Sublist.cons_cons _ (List.Sublist.cons _ (List.Sublist.refl _)))) ?_
  refine E.C.seq ?_
  refine E.sr ?_
  refine E.op (.int .i64 34) ?_
  refine E.op (.bool true) ?_
  refine E.To.code ?_
  refine E.C.condT (by kernel_rfl) (by kernel_rfl) ?_
  refine E.C.skip (E.To.code ?_)
  refine E.C.seq ?_
  refine E.C.block ?_
  refine E.sr ?_
  refine E.op (.int .i64 34) ?_
  refine E.G.call (.agg #[.bool true, .bool true, .bool true, .bool false, .bool true, .int .i64 18, .int .u32 0]) (fun w h => Q.callAs (Of3_any 34 w) (by kernel_rfl)) (fun w _ => by kernel_rfl) (by kernel_rfl) ?_
  refine E.op (.bool true) ?_
  refine E.To.code ?_
  refine E.C.condT (by kernel_rfl) (by kernel_rfl) ?_
  refine E.C.region ?_
  refine E.op (.slice (some ⟨g152, 0, none⟩) 26 c153) ?_
  refine E.op (.int .i64 34) ?_
  refine E.G.buildSlice [.int .i64 34] (by kernel_rfl) (by kernel_rfl) (fun g157 => ?_)
  refine E.G.append (e := 3) 1 g152 26 c153 0 g157 0 1 1 1 8 Q3.o26 r154 [.int .i64 34] _ (by kernel_rfl) (by kernel_rfl) (by kernel_rfl) rfl (by kernel_rfl) (by first | rfl | omega | assumption) (by first | omega | decide) (by kernel_rfl) rfl (by kernel_rfl) rfl (by rfl) (by omega) (by omega) (by omega) (by kernel_rfl) (fun g158 c159 r160 hc161 hr162 => ?_)
  refine E.G.relist ((g158, (Q3.o27 ++ r160)) :: (g157, [.int .i64 34]) :: (g151, [.int .i64 33]) :: L) (by kernel_rfl) ?_
  refine E.op (.slice (some ⟨g158, 0, none⟩) 27 c159) ?_
  refine E.P.nb (E.To.code ?_)
  refine E.C.region ?_
  refine E.op (.int .i64 34) ?_
  refine E.op (.int .i64 35) ?_
  refine E.op (.int .i64 35) ?_
  refine E.To.rounds 29 ?_
  refine E.C.weak [(0, .slice none 0 0), (1, .slice (some ⟨g158, 0, none⟩) 27 c159), (2, .int .i64 35), (3, .int .i64 34), (4, .bool true), (5, .int .i64 34), (6, .int .i64 35), (7, .int .i64 34), (8, .agg #[.bool true, .bool true, .bool true, .bool false, .bool true, .int .i64 18, .int .u32 0]), (9, .bool true), (10, .slice (some ⟨g152, 0, none⟩) 26 c153), (11, .int .i64 34), (12, .slice (some ⟨g157, 0, none⟩) 1 1), (13, .slice (some ⟨g158, 0, none⟩) 27 c159)] ((g158, (Q3.o27 ++ r160)) :: (g157, [.int .i64 34]) :: L) ⟨by kernel_rfl, by kernel_rfl⟩ (List.Sublist.cons_cons _ (List.Sublist.cons_cons _ (List.Sublist.cons _ (List.Sublist.refl _)))) ?_
  refine E.C.seq ?_
  refine E.sr ?_
  refine E.op (.int .i64 35) ?_
  refine E.op (.bool true) ?_
  refine E.To.code ?_
  refine E.C.condT (by kernel_rfl) (by kernel_rfl) ?_
  refine E.C.skip (E.To.code ?_)
  refine E.C.seq ?_
  refine E.C.block ?_
  refine E.sr ?_
  refine E.op (.int .i64 35) ?_
  refine E.G.call (.agg #[.bool true, .bool true, .bool true, .bool false, .bool true, .int .i64 18, .int .u32 0]) (fun w h => Q.callAs (Of3_any 35 w) (by kernel_rfl)) (fun w _ => by kernel_rfl) (by kernel_rfl) ?_
  refine E.op (.bool true) ?_
  refine E.To.code ?_
  refine E.C.condT (by kernel_rfl) (by kernel_rfl) ?_
  refine E.C.region ?_
  refine E.op (.slice (some ⟨g158, 0, none⟩) 27 c159) ?_
  refine E.op (.int .i64 35) ?_
  refine E.G.buildSlice [.int .i64 35] (by kernel_rfl) (by kernel_rfl) (fun g163 => ?_)
  refine E.G.append (e := 3) 1 g158 27 c159 0 g163 0 1 1 1 8 Q3.o27 r160 [.int .i64 35] _ (by kernel_rfl) (by kernel_rfl) (by kernel_rfl) rfl (by kernel_rfl) (by first | rfl | omega | assumption) (by first | omega | decide) (by kernel_rfl) rfl (by kernel_rfl) rfl (by rfl) (by omega) (by omega) (by omega) (by kernel_rfl) (fun g164 c165 r166 hc167 hr168 => ?_)
  refine E.G.relist ((g164, (Q3.o28 ++ r166)) :: (g163, [.int .i64 35]) :: (g157, [.int .i64 34]) :: L) (by kernel_rfl) ?_
  refine E.op (.slice (some ⟨g164, 0, none⟩) 28 c165) ?_
  refine E.P.nb (E.To.code ?_)
  refine E.C.region ?_
  refine E.op (.int .i64 35) ?_
  refine E.op (.int .i64 36) ?_
  refine E.op (.int .i64 36) ?_
  refine E.To.rounds 28 ?_
  refine E.C.weak [(0, .slice none 0 0), (1, .slice (some ⟨g164, 0, none⟩) 28 c165), (2, .int .i64 36), (3, .int .i64 35), (4, .bool true), (5, .int .i64 35), (6, .int .i64 36), (7, .int .i64 35), (8, .agg #[.bool true, .bool true, .bool true, .bool false, .bool true, .int .i64 18, .int .u32 0]), (9, .bool true), (10, .slice (some ⟨g158, 0, none⟩) 27 c159), (11, .int .i64 35), (12, .slice (some ⟨g163, 0, none⟩) 1 1), (13, .slice (some ⟨g164, 0, none⟩) 28 c165)] ((g164, (Q3.o28 ++ r166)) :: (g163, [.int .i64 35]) :: L) ⟨by kernel_rfl, by kernel_rfl⟩ (List.Sublist.cons_cons _ (List.Sublist.cons_cons _ (List.Sublist.cons _ (List.Sublist.refl _)))) ?_
  refine E.C.seq ?_
  refine E.sr ?_
  refine E.op (.int .i64 36) ?_
  refine E.op (.bool true) ?_
  refine E.To.code ?_
  refine E.C.condT (by kernel_rfl) (by kernel_rfl) ?_
  refine E.C.skip (E.To.code ?_)
  refine E.C.seq ?_
  refine E.C.block ?_
  refine E.sr ?_
  refine E.op (.int .i64 36) ?_
  refine E.G.call (.agg #[.bool true, .bool true, .bool true, .bool false, .bool true, .int .i64 18, .int .u32 0]) (fun w h => Q.callAs (Of3_any 36 w) (by kernel_rfl)) (fun w _ => by kernel_rfl) (by kernel_rfl) ?_
  refine E.op (.bool true) ?_
  refine E.To.code ?_
  refine E.C.condT (by kernel_rfl) (by kernel_rfl) ?_
  refine E.C.region ?_
  refine E.op (.slice (some ⟨g164, 0, none⟩) 28 c165) ?_
  refine E.op (.int .i64 36) ?_
  refine E.G.buildSlice [.int .i64 36] (by kernel_rfl) (by kernel_rfl) (fun g169 => ?_)
  refine E.G.append (e := 3) 1 g164 28 c165 0 g169 0 1 1 1 8 Q3.o28 r166 [.int .i64 36] _ (by kernel_rfl) (by kernel_rfl) (by kernel_rfl) rfl (by kernel_rfl) (by first | rfl | omega | assumption) (by first | omega | decide) (by kernel_rfl) rfl (by kernel_rfl) rfl (by rfl) (by omega) (by omega) (by omega) (by kernel_rfl) (fun g170 c171 r172 hc173 hr174 => ?_)
  refine E.G.relist ((g170, (Q3.o29 ++ r172)) :: (g169, [.int .i64 36]) :: (g163, [.int .i64 35]) :: L) (by kernel_rfl) ?_
  refine E.op (.slice (some ⟨g170, 0, none⟩) 29 c171) ?_
  refine E.P.nb (E.To.code ?_)
  refine E.C.region ?_
  refine E.op (.int .i64 36) ?_
  refine E.op (.int .i64 37) ?_
  refine E.op (.int .i64 37) ?_
  refine E.To.rounds 27 ?_
  refine E.C.weak [(0, .slice none 0 0), (1, .slice (some ⟨g170, 0, none⟩) 29 c171), (2, .int .i64 37), (3, .int .i64 36), (4, .bool true), (5, .int .i64 36), (6, .int .i64 37), (7, .int .i64 36), (8, .agg #[.bool true, .bool true, .bool true, .bool false, .bool true, .int .i64 18, .int .u32 0]), (9, .bool true), (10, .slice (some ⟨g164, 0, none⟩) 28 c165), (11, .int .i64 36), (12, .slice (some ⟨g169, 0, none⟩) 1 1), (13, .slice (some ⟨g170, 0, none⟩) 29 c171)] ((g170, (Q3.o29 ++ r172)) :: (g169, [.int .i64 36]) :: L) ⟨by kernel_rfl, by kernel_rfl⟩ (List.Sublist.cons_cons _ (List.Sublist.cons_cons _ (List.Sublist.cons _ (List.Sublist.refl _)))) ?_
  refine E.C.seq ?_
  refine E.sr ?_
  refine E.op (.int .i64 37) ?_
  refine E.op (.bool true) ?_
  refine E.To.code ?_
  refine E.C.condT (by kernel_rfl) (by kernel_rfl) ?_
  refine E.C.skip (E.To.code ?_)
  refine E.C.seq ?_
  refine E.C.block ?_
  refine E.sr ?_
  refine E.op (.int .i64 37) ?_
  refine E.G.call (.agg #[.bool true, .bool true, .bool true, .bool false, .bool true, .int .i64 18, .int .u32 0]) (fun w h => Q.callAs (Of3_any 37 w) (by kernel_rfl)) (fun w _ => by kernel_rfl) (by kernel_rfl) ?_
  refine E.op (.bool true) ?_
  refine E.To.code ?_
  refine E.C.condT (by kernel_rfl) (by kernel_rfl) ?_
  refine E.C.region ?_
  refine E.op (.slice (some ⟨g170, 0, none⟩) 29 c171) ?_
  refine E.op (.int .i64 37) ?_
  refine E.G.buildSlice [.int .i64 37] (by kernel_rfl) (by kernel_rfl) (fun g175 => ?_)
  refine E.G.append (e := 3) 1 g170 29 c171 0 g175 0 1 1 1 8 Q3.o29 r172 [.int .i64 37] _ (by kernel_rfl) (by kernel_rfl) (by kernel_rfl) rfl (by kernel_rfl) (by first | rfl | omega | assumption) (by first | omega | decide) (by kernel_rfl) rfl (by kernel_rfl) rfl (by rfl) (by omega) (by omega) (by omega) (by kernel_rfl) (fun g176 c177 r178 hc179 hr180 => ?_)
  refine E.G.relist ((g176, (Q3.o30 ++ r178)) :: (g175, [.int .i64 37]) :: (g169, [.int .i64 36]) :: L) (by kernel_rfl) ?_
  refine E.op (.slice (some ⟨g176, 0, none⟩) 30 c177) ?_
  refine E.P.nb (E.To.code ?_)
  refine E.C.region ?_
  refine E.op (.int .i64 37) ?_
  refine E.op (.int .i64 38) ?_
  refine E.op (.int .i64 38) ?_
  refine E.To.rounds 26 ?_
  refine E.C.weak [(0, .slice none 0 0), (1, .slice (some ⟨g176, 0, none⟩) 30 c177), (2, .int .i64 38), (3, .int .i64 37), (4, .bool true), (5, .int .i64 37), (6, .int .i64 38), (7, .int .i64 37), (8, .agg #[.bool true, .bool true, .bool true, .bool false, .bool true, .int .i64 18, .int .u32 0]), (9, .bool true), (10, .slice (some ⟨g170, 0, none⟩) 29 c171), (11, .int .i64 37), (12, .slice (some ⟨g175, 0, none⟩) 1 1), (13, .slice (some ⟨g176, 0, none⟩) 30 c177)] ((g176, (Q3.o30 ++ r178)) :: (g175, [.int .i64 37]) :: L) ⟨by kernel_rfl, by kernel_rfl⟩ (List.Sublist.cons_cons _ (List.Sublist.cons_cons _ (List.Sublist.cons _ (List.Sublist.refl _)))) ?_
  refine E.C.seq ?_
  refine E.sr ?_
  refine E.op (.int .i64 38) ?_
  refine E.op (.bool true) ?_
  refine E.To.code ?_
  refine E.C.condT (by kernel_rfl) (by kernel_rfl) ?_
  refine E.C.skip (E.To.code ?_)
  refine E.C.seq ?_
  refine E.C.block ?_
  refine E.sr ?_
  refine E.op (.int .i64 38) ?_
  refine E.G.call (.agg #[.bool false, .bool false, .bool false, .bool false, .bool false, .int .i64 0, .int .u32 0]) (fun w h => Q.callAs (Of3_any 38 w) (by kernel_rfl)) (fun w _ => by kernel_rfl) (by kernel_rfl) ?_
  refine E.op (.bool false) ?_
  refine E.To.code ?_
  refine E.C.condF (by kernel_rfl) (by kernel_rfl) ?_
  refine E.C.skip (E.P.nb (E.To.code ?_))
  refine E.C.region ?_
  refine E.op (.int .i64 38) ?_
  refine E.op (.int .i64 39) ?_
  refine E.op (.int .i64 39) ?_
  refine E.To.rounds 25 ?_
  refine E.C.weak [(0, .slice none 0 0), (1, .slice (some ⟨g176, 0, none⟩) 30 c177), (2, .int .i64 39), (3, .int .i64 38), (4, .bool true), (5, .int .i64 38), (6, .int .i64 39), (7, .int .i64 38), (8, .agg #[.bool false, .bool false, .bool false, .bool false, .bool false, .int .i64 0, .int .u32 0]), (9, .bool false), (10, .slice (some ⟨g170, 0, none⟩) 29 c171), (11, .int .i64 37), (12, .slice (some ⟨g175, 0, none⟩) 1 1), (13, .slice (some ⟨g176, 0, none⟩) 30 c177)] ((g176, (Q3.o30 ++ r178)) :: (g175, [.int .i64 37]) :: L) ⟨by kernel_rfl, by kernel_rfl⟩ (List.Sublist.refl _) ?_
  refine E.C.seq ?_
  refine E.sr ?_
  refine E.op (.int .i64 39) ?_
  refine E.op (.bool true) ?_
  refine E.To.code ?_
  refine E.C.condT (by kernel_rfl) (by kernel_rfl) ?_
  refine E.C.skip (E.To.code ?_)
  refine E.C.seq ?_
  refine E.C.block ?_
  refine E.sr ?_
  refine E.op (.int .i64 39) ?_
  refine E.G.call (.agg #[.bool false, .bool false, .bool false, .bool false, .bool false, .int .i64 0, .int .u32 0]) (fun w h => Q.callAs (Of3_any 39 w) (by kernel_rfl)) (fun w _ => by kernel_rfl) (by kernel_rfl) ?_
  refine E.op (.bool false) ?_
  refine E.To.code ?_
  refine E.C.condF (by kernel_rfl) (by kernel_rfl) ?_
  refine E.C.skip (E.P.nb (E.To.code ?_))
  refine E.C.region ?_
  refine E.op (.int .i64 39) ?_
  refine E.op (.int .i64 40) ?_
  refine E.op (.int .i64 40) ?_
  refine E.To.rounds 24 ?_
  refine E.C.weak [(0, .slice none 0 0), (1, .slice (some ⟨g176, 0, none⟩) 30 c177), (2, .int .i64 40), (3, .int .i64 39), (4, .bool true), (5, .int .i64 39), (6, .int .i64 40), (7, .int .i64 39), (8, .agg #[.bool false, .bool false, .bool false, .bool false, .bool false, .int .i64 0, .int .u32 0]), (9, .bool false), (10, .slice (some ⟨g170, 0, none⟩) 29 c171), (11, .int .i64 37), (12, .slice (some ⟨g175, 0, none⟩) 1 1), (13, .slice (some ⟨g176, 0, none⟩) 30 c177)] ((g176, (Q3.o30 ++ r178)) :: (g175, [.int .i64 37]) :: L) ⟨by kernel_rfl, by kernel_rfl⟩ (List.Sublist.refl _) ?_
  refine E.C.seq ?_
  refine E.sr ?_
  refine E.op (.int .i64 40) ?_
  refine E.op (.bool true) ?_
  refine E.To.code ?_
  refine E.C.condT (by kernel_rfl) (by kernel_rfl) ?_
  refine E.C.skip (E.To.code ?_)
  refine E.C.seq ?_
  refine E.C.block ?_
  refine E.sr ?_
  refine E.op (.int .i64 40) ?_
  refine E.G.call (.agg #[.bool true, .bool true, .bool false, .bool false, .bool true, .int .i64 22, .int .u32 0]) (fun w h => Q.callAs (Of3_any 40 w) (by kernel_rfl)) (fun w _ => by kernel_rfl) (by kernel_rfl) ?_
  refine E.op (.bool true) ?_
  refine E.To.code ?_
  refine E.C.condT (by kernel_rfl) (by kernel_rfl) ?_
  refine E.C.region ?_
  refine E.op (.slice (some ⟨g176, 0, none⟩) 30 c177) ?_
  refine E.op (.int .i64 40) ?_
  refine E.G.buildSlice [.int .i64 40] (by kernel_rfl) (by kernel_rfl) (fun g181 => ?_)
  refine E.G.append (e := 3) 1 g176 30 c177 0 g181 0 1 1 1 8 Q3.o30 r178 [.int .i64 40] _ (by kernel_rfl) (by kernel_rfl) (by kernel_rfl) rfl (by kernel_rfl) (by first | rfl | omega | assumption) (by first | omega | decide) (by kernel_rfl) rfl (by kernel_rfl) rfl (by rfl) (by omega) (by omega) (by omega) (by kernel_rfl) (fun g182 c183 r184 hc185 hr186 => ?_)
  refine E.G.relist ((g182, (Q3.o31 ++ r184)) :: (g181, [.int .i64 40]) :: (g175, [.int .i64 37]) :: L) (by kernel_rfl) ?_
  refine E.op (.slice (some ⟨g182, 0, none⟩) 31 c183) ?_
  refine E.P.nb (E.To.code ?_)
  refine E.C.region ?_
  refine E.op (.int .i64 40) ?_
  refine E.op (.int .i64 41) ?_
  refine E.op (.int .i64 41) ?_
  refine E.To.rounds 23 ?_
  refine E.C.weak [(0, .slice none 0 0), (1, .slice (some ⟨g182, 0, none⟩) 31 c183), (2, .int .i64 41), (3, .int .i64 40), (4, .bool true), (5, .int .i64 40), (6, .int .i64 41), (7, .int .i64 40), (8, .agg #[.bool true, .bool true, .bool false, .bool false, .bool true, .int .i64 22, .int .u32 0]), (9, .bool true), (10, .slice (some ⟨g176, 0, none⟩) 30 c177), (11, .int .i64 40), (12, .slice (some ⟨g181, 0, none⟩) 1 1), (13, .slice (some ⟨g182, 0, none⟩) 31 c183)] ((g182, (Q3.o31 ++ r184)) :: (g181, [.int .i64 40]) :: L) ⟨by kernel_rfl, by kernel_rfl⟩ (List.Sublist.cons_cons _ (List.Sublist.cons_cons _ (List.Sublist.cons _ (List.Sublist.refl _)))) ?_
  refine E.C.seq ?_
  refine E.sr ?_
  refine E.op (.int .i64 41) ?_
  refine E.op (.bool true) ?_
  refine E.To.code ?_
  refine E.C.condT (by kernel_rfl) (by kernel_rfl) ?_
  refine E.C.skip (E.To.code ?_)
  refine E.C.seq ?_
  refine E.C.block ?_
  refine E.sr ?_
  refine E.op (.int .i64 41) ?_
  refine E.G.call (.agg #[.bool true, .bool true, .bool false, .bool false, .bool false, .int .i64 22, .int .u32 0]) (fun w h => Q.callAs (Of3_any 41 w) (by kernel_rfl)) (fun w _ => by kernel_rfl) (by kernel_rfl) ?_
  refine E.op (.bool true) ?_
  refine E.To.code ?_
  refine E.C.condT (by kernel_rfl) (by kernel_rfl) ?_
  refine E.C.region ?_
  refine E.op (.slice (some ⟨g182, 0, none⟩) 31 c183) ?_
  refine E.op (.int .i64 41) ?_
  refine E.G.buildSlice [.int .i64 41] (by kernel_rfl) (by kernel_rfl) (fun g187 => ?_)
  refine E.G.append (e := 3) 1 g182 31 c183 0 g187 0 1 1 1 8 Q3.o31 r184 [.int .i64 41] _ (by kernel_rfl) (by kernel_rfl) (by kernel_rfl) rfl (by kernel_rfl) (by first | rfl | omega | assumption) (by first | omega | decide) (by kernel_rfl) rfl (by kernel_rfl) rfl (by rfl) (by omega) (by omega) (by omega) (by kernel_rfl) (fun g188 c189 r190 hc191 hr192 => ?_)
  refine E.G.relist ((g188, (Q3.o32 ++ r190)) :: (g187, [.int .i64 41]) :: (g181, [.int .i64 40]) :: L) (by kernel_rfl) ?_
  refine E.op (.slice (some ⟨g188, 0, none⟩) 32 c189) ?_
  refine E.P.nb (E.To.code ?_)
  refine E.C.region ?_
  refine E.op (.int .i64 41) ?_
  refine E.op (.int .i64 42) ?_
  refine E.op (.int .i64 42) ?_
  refine E.To.rounds 22 ?_
  refine E.C.weak [(0, .slice none 0 0), (1, .slice (some ⟨g188, 0, none⟩) 32 c189), (2, .int .i64 42), (3, .int .i64 41), (4, .bool true), (5, .int .i64 41), (6, .int .i64 42), (7, .int .i64 41), (8, .agg #[.bool true, .bool true, .bool false, .bool false, .bool false, .int .i64 22, .int .u32 0]), (9, .bool true), (10, .slice (some ⟨g182, 0, none⟩) 31 c183), (11, .int .i64 41), (12, .slice (some ⟨g187, 0, none⟩) 1 1), (13, .slice (some ⟨g188, 0, none⟩) 32 c189)] ((g188, (Q3.o32 ++ r190)) :: (g187, [.int .i64 41]) :: L) ⟨by kernel_rfl, by kernel_rfl⟩ (List.Sublist.cons_cons _ (List.Sublist.cons_cons _ (List.Sublist.cons _ (List.Sublist.refl _)))) ?_
  refine E.C.seq ?_
  refine E.sr ?_
  refine E.op (.int .i64 42) ?_
  refine E.op (.bool true) ?_
  refine E.To.code ?_
  refine E.C.condT (by kernel_rfl) (by kernel_rfl) ?_
  refine E.C.skip (E.To.code ?_)
  refine E.C.seq ?_
  refine E.C.block ?_
  refine E.sr ?_
  refine E.op (.int .i64 42) ?_
  refine E.G.call (.agg #[.bool false, .bool false, .bool false, .bool false, .bool false, .int .i64 0, .int .u32 0]) (fun w h => Q.callAs (Of3_any 42 w) (by kernel_rfl)) (fun w _ => by kernel_rfl) (by kernel_rfl) ?_
  refine E.op (.bool false) ?_
  refine E.To.code ?_
  refine E.C.condF (by kernel_rfl) (by kernel_rfl) ?_
  refine E.C.skip (E.P.nb (E.To.code ?_))
  refine E.C.region ?_
  refine E.op (.int .i64 42) ?_
  refine E.op (.int .i64 43) ?_
  refine E.op (.int .i64 43) ?_
  refine E.To.rounds 21 ?_
  refine E.C.weak [(0, .slice none 0 0), (1, .slice (some ⟨g188, 0, none⟩) 32 c189), (2, .int .i64 43), (3, .int .i64 42), (4, .bool true), (5, .int .i64 42), (6, .int .i64 43), (7, .int .i64 42), (8, .agg #[.bool false, .bool false, .bool false, .bool false, .bool false, .int .i64 0, .int .u32 0]), (9, .bool false), (10, .slice (some ⟨g182, 0, none⟩) 31 c183), (11, .int .i64 41), (12, .slice (some ⟨g187, 0, none⟩) 1 1), (13, .slice (some ⟨g188, 0, none⟩) 32 c189)] ((g188, (Q3.o32 ++ r190)) :: (g187, [.int .i64 41]) :: L) ⟨by kernel_rfl, by kernel_rfl⟩ (List.Sublist.refl _) ?_
  refine E.C.seq ?_
  refine E.sr ?_
  refine E.op (.int .i64 43) ?_
  refine E.op (.bool true) ?_
  refine E.To.code ?_
  refine E.C.condT (by kernel_rfl) (by kernel_rfl) ?_
  refine E.C.skip (E.To.code ?_)
  refine E.C.seq ?_
  refine E.C.block ?_
  refine E.sr ?_
  refine E.op (.int .i64 43) ?_
  refine E.G.call (.agg #[.bool false, .bool false, .bool false, .bool false, .bool false, .int .i64 0, .int .u32 0]) (fun w h => Q.callAs (Of3_any 43 w) (by kernel_rfl)) (fun w _ => by kernel_rfl) (by kernel_rfl) ?_
  refine E.op (.bool false) ?_
  refine E.To.code ?_
  refine E.C.condF (by kernel_rfl) (by kernel_rfl) ?_
  refine E.C.skip (E.P.nb (E.To.code ?_))
  refine E.C.region ?_
  refine E.op (.int .i64 43) ?_
  refine E.op (.int .i64 44) ?_
  refine E.op (.int .i64 44) ?_
  refine E.To.rounds 20 ?_
  refine E.C.weak [(0, .slice none 0 0), (1, .slice (some ⟨g188, 0, none⟩) 32 c189), (2, .int .i64 44), (3, .int .i64 43), (4, .bool true), (5, .int .i64 43), (6, .int .i64 44), (7, .int .i64 43), (8, .agg #[.bool false, .bool false, .bool false, .bool false, .bool false, .int .i64 0, .int .u32 0]), (9, .bool false), (10, .slice (some ⟨g182, 0, none⟩) 31 c183), (11, .int .i64 41), (12, .slice (some ⟨g187, 0, none⟩) 1 1), (13, .slice (some ⟨g188, 0, none⟩) 32 c189)] ((g188, (Q3.o32 ++ r190)) :: (g187, [.int .i64 41]) :: L) ⟨by kernel_rfl, by kernel_rfl⟩ (List.Sublist.refl _) ?_
  refine E.C.seq ?_
  refine E.sr ?_
  refine E.op (.int .i64 44) ?_
  refine E.op (.bool true) ?_
  refine E.To.code ?_
  refine E.C.condT (by kernel_rfl) (by kernel_rfl) ?_
  refine E.C.skip (E.To.code ?_)
  refine E.C.seq ?_
  refine E.C.block ?_
  refine E.sr ?_
  refine E.op (.int .i64 44) ?_
  refine E.G.call (.agg #[.bool false, .bool false, .bool false, .bool false, .bool false, .int .i64 0, .int .u32 0]) (fun w h => Q.callAs (Of3_any 44 w) (by kernel_rfl)) (fun w _ => by kernel_rfl) (by kernel_rfl) ?_
  refine E.op (.bool false) ?_
  refine E.To.code ?_
  refine E.C.condF (by kernel_rfl) (by kernel_rfl) ?_
  refine E.C.skip (E.P.nb (E.To.code ?_))
  refine E.C.region ?_
  refine E.op (.int .i64 44) ?_
  refine E.op (.int .i64 45) ?_
  refine E.op (.int .i64 45) ?_
  refine E.To.rounds 19 ?_
  refine E.C.weak [(0, .slice none 0 0), (1, .slice (some ⟨g188, 0, none⟩) 32 c189), (2, .int .i64 45), (3, .int .i64 44), (4, .bool true), (5, .int .i64 44), (6, .int .i64 45), (7, .int .i64 44), (8, .agg #[.bool false, .bool false, .bool false, .bool false, .bool false, .int .i64 0, .int .u32 0]), (9, .bool false), (10, .slice (some ⟨g182, 0, none⟩) 31 c183), (11, .int .i64 41), (12, .slice (some ⟨g187, 0, none⟩) 1 1), (13, .slice (some ⟨g188, 0, none⟩) 32 c189)] ((g188, (Q3.o32 ++ r190)) :: (g187, [.int .i64 41]) :: L) ⟨by kernel_rfl, by kernel_rfl⟩ (List.Sublist.refl _) ?_
  refine E.C.seq ?_
  refine E.sr ?_
  refine E.op (.int .i64 45) ?_
  refine E.op (.bool true) ?_
  refine E.To.code ?_
  refine E.C.condT (by kernel_rfl) (by kernel_rfl) ?_
  refine E.C.skip (E.To.code ?_)
  refine E.C.seq ?_
  refine E.C.block ?_
  refine E.sr ?_
  refine E.op (.int .i64 45) ?_
  refine E.G.call (.agg #[.bool false, .bool false, .bool false, .bool false, .bool false, .int .i64 0, .int .u32 0]) (fun w h => Q.callAs (Of3_any 45 w) (by kernel_rfl)) (fun w _ => by kernel_rfl) (by kernel_rfl) ?_
  refine E.op (.bool false) ?_
  refine E.To.code ?_
  refine E.C.condF (by kernel_rfl) (by kernel_rfl) ?_
  refine E.C.skip (E.P.nb (E.To.code ?_))
  refine E.C.region ?_
  refine E.op (.int .i64 45) ?_
  refine E.op (.int .i64 46) ?_
  refine E.op (.int .i64 46) ?_
  refine E.To.rounds 18 ?_
  refine E.C.weak [(0, .slice none 0 0), (1, .slice (some ⟨g188, 0, none⟩) 32 c189), (2, .int .i64 46), (3, .int .i64 45), (4, .bool true), (5, .int .i64 45), (6, .int .i64 46), (7, .int .i64 45), (8, .agg #[.bool false, .bool false, .bool false, .bool false, .bool false, .int .i64 0, .int .u32 0]), (9, .bool false), (10, .slice (some ⟨g182, 0, none⟩) 31 c183), (11, .int .i64 41), (12, .slice (some ⟨g187, 0, none⟩) 1 1), (13, .slice (some ⟨g188, 0, none⟩) 32 c189)] ((g188, (Q3.o32 ++ r190)) :: (g187, [.int .i64 41]) :: L) ⟨by kernel_rfl, by kernel_rfl⟩ (List.Sublist.refl _) ?_
  refine E.C.seq ?_
  refine E.sr ?_
  refine E.op (.int .i64 46) ?_
  refine E.op (.bool true) ?_
  refine E.To.code ?_
  refine E.C.condT (by kernel_rfl) (by kernel_rfl) ?_
  refine E.C.skip (E.To.code ?_)
  refine E.C.seq ?_
  refine E.C.block ?_
  refine E.sr ?_
  refine E.op (.int .i64 46) ?_
  refine E.G.call (.agg #[.bool false, .bool false, .bool false, .bool false, .bool false, .int .i64 0, .int .u32 0]) (fun w h => Q.callAs (Of3_any 46 w) (by kernel_rfl)) (fun w _ => by kernel_rfl) (by kernel_rfl) ?_
  refine E.op (.bool false) ?_
  refine E.To.code ?_
  refine E.C.condF (by kernel_rfl) (by kernel_rfl) ?_
  refine E.C.skip (E.P.nb (E.To.code ?_))
  refine E.C.region ?_
  refine E.op (.int .i64 46) ?_
  refine E.op (.int .i64 47) ?_
  refine E.op (.int .i64 47) ?_
  refine E.To.rounds 17 ?_
  refine E.C.weak [(0, .slice none 0 0), (1, .slice (some ⟨g188, 0, none⟩) 32 c189), (2, .int .i64 47), (3, .int .i64 46), (4, .bool true), (5, .int .i64 46), (6, .int .i64 47), (7, .int .i64 46), (8, .agg #[.bool false, .bool false, .bool false, .bool false, .bool false, .int .i64 0, .int .u32 0]), (9, .bool false), (10, .slice (some ⟨g182, 0, none⟩) 31 c183), (11, .int .i64 41), (12, .slice (some ⟨g187, 0, none⟩) 1 1), (13, .slice (some ⟨g188, 0, none⟩) 32 c189)] ((g188, (Q3.o32 ++ r190)) :: (g187, [.int .i64 41]) :: L) ⟨by kernel_rfl, by kernel_rfl⟩ (List.Sublist.refl _) ?_
  refine E.C.seq ?_
  refine E.sr ?_
  refine E.op (.int .i64 47) ?_
  refine E.op (.bool true) ?_
  refine E.To.code ?_
  refine E.C.condT (by kernel_rfl) (by kernel_rfl) ?_
  refine E.C.skip (E.To.code ?_)
  refine E.C.seq ?_
  refine E.C.block ?_
  refine E.sr ?_
  refine E.op (.int .i64 47) ?_
  refine E.G.call (.agg #[.bool false, .bool false, .bool false, .bool false, .bool false, .int .i64 0, .int .u32 0]) (fun w h => Q.callAs (Of3_any 47 w) (by kernel_rfl)) (fun w _ => by kernel_rfl) (by kernel_rfl) ?_
  refine E.op (.bool false) ?_
  refine E.To.code ?_
  refine E.C.condF (by kernel_rfl) (by kernel_rfl) ?_
  refine E.C.skip (E.P.nb (E.To.code ?_))
  refine E.C.region ?_
  refine E.op (.int .i64 47) ?_
  refine E.op (.int .i64 48) ?_
  refine E.op (.int .i64 48) ?_
  refine E.To.rounds 16 ?_
  refine E.C.weak [(0, .slice none 0 0), (1, .slice (some ⟨g188, 0, none⟩) 32 c189), (2, .int .i64 48), (3, .int .i64 47), (4, .bool true), (5, .int .i64 47), (6, .int .i64 48), (7, .int .i64 47), (8, .agg #[.bool false, .bool false, .bool false, .bool false, .bool false, .int .i64 0, .int .u32 0]), (9, .bool false), (10, .slice (some ⟨g182, 0, none⟩) 31 c183), (11, .int .i64 41), (12, .slice (some ⟨g187, 0, none⟩) 1 1), (13, .slice (some ⟨g188, 0, none⟩) 32 c189)] ((g188, (Q3.o32 ++ r190)) :: (g187, [.int .i64 41]) :: L) ⟨by kernel_rfl, by kernel_rfl⟩ (List.Sublist.refl _) ?_
  refine E.C.seq ?_
  refine E.sr ?_
  refine E.op (.int .i64 48) ?_
  refine E.op (.bool true) ?_
  refine E.To.code ?_
  refine E.C.condT (by kernel_rfl) (by kernel_rfl) ?_
  refine E.C.skip (E.To.code ?_)
  refine E.C.seq ?_
  refine E.C.block ?_
  refine E.sr ?_
  refine E.op (.int .i64 48) ?_
  refine E.G.call (.agg #[.bool true, .bool false, .bool false, .bool false, .bool false, .int .i64 18, .int .u32 0]) (fun w h => Q.callAs (Of3_any 48 w) (by kernel_rfl)) (fun w _ => by kernel_rfl) (by kernel_rfl) ?_
  refine E.op (.bool true) ?_
  refine E.To.code ?_
  refine E.C.condT (by kernel_rfl) (by kernel_rfl) ?_
  refine E.C.region ?_
  refine E.op (.slice (some ⟨g188, 0, none⟩) 32 c189) ?_
  refine E.op (.int .i64 48) ?_
  refine E.G.buildSlice [.int .i64 48] (by kernel_rfl) (by kernel_rfl) (fun g193 => ?_)
  refine E.G.append (e := 3) 1 g188 32 c189 0 g193 0 1 1 1 8 Q3.o32 r190 [.int .i64 48] _ (by kernel_rfl) (by kernel_rfl) (by kernel_rfl) rfl (by kernel_rfl) (by first | rfl | omega | assumption) (by first | omega | decide) (by kernel_rfl) rfl (by kernel_rfl) rfl (by rfl) (by omega) (by omega) (by omega) (by kernel_rfl) (fun g194 c195 r196 hc197 hr198 => ?_)
  refine E.G.relist ((g194, (Q3.o33 ++ r196)) :: (g193, [.int .i64 48]) :: (g187, [.int .i64 41]) :: L) (by kernel_rfl) ?_
  refine E.op (.slice (some ⟨g194, 0, none⟩) 33 c195) ?_
  refine E.P.nb (E.To.code ?_)
  refine E.C.region ?_
  refine E.op (.int .i64 48) ?_
  refine E.op (.int .i64 49) ?_
  refine E.op (.int .i64 49) ?_
  refine E.To.rounds 15 ?_
  refine E.C.weak [(0, .slice none 0 0), (1, .slice (some ⟨g194, 0, none⟩) 33 c195), (2, .int .i64 49), (3, .int .i64 48), (4, .bool true), (5, .int .i64 48), (6, .int .i64 49), (7, .int .i64 48), (8, .agg #[.bool true, .bool false, .bool false, .bool false, .bool false, .int .i64 18, .int .u32 0]), (9, .bool true), (10, .slice (some ⟨g188, 0, none⟩) 32 c189), (11, .int .i64 48), (12, .slice (some ⟨g193, 0, none⟩) 1 1), (13, .slice (some ⟨g194, 0, none⟩) 33 c195)] ((g194, (Q3.o33 ++ r196)) :: (g193, [.int .i64 48]) :: L) ⟨by kernel_rfl, by kernel_rfl⟩ (List.Sublist.cons_cons _ (List.Sublist.cons_cons _ (List.Sublist.cons _ (List.Sublist.refl _)))) ?_
  refine E.C.seq ?_
  refine E.sr ?_
  refine E.op (.int .i64 49) ?_
  refine E.op (.bool true) ?_
  refine E.To.code ?_
  refine E.C.condT (by kernel_rfl) (by kernel_rfl) ?_
  refine E.C.skip (E.To.code ?_)
  refine E.C.seq ?_
  refine E.C.block ?_
  refine E.sr ?_
  refine E.op (.int .i64 49) ?_
  refine E.G.call (.agg #[.bool true, .bool false, .bool false, .bool false, .bool false, .int .i64 0, .int .u32 0]) (fun w h => Q.callAs (Of3_any 49 w) (by kernel_rfl)) (fun w _ => by kernel_rfl) (by kernel_rfl) ?_
  refine E.op (.bool true) ?_
  refine E.To.code ?_
  refine E.C.condT (by kernel_rfl) (by kernel_rfl) ?_
  refine E.C.region ?_
  refine E.op (.slice (some ⟨g194, 0, none⟩) 33 c195) ?_
  refine E.op (.int .i64 49) ?_
  refine E.G.buildSlice [.int .i64 49] (by kernel_rfl) (by kernel_rfl) (fun g199 => ?_)
  refine E.G.append (e := 3) 1 g194 33 c195 0 g199 0 1 1 1 8 Q3.o33 r196 [.int .i64 49] _ (by kernel_rfl) (by kernel_rfl) (by kernel_rfl) rfl (by kernel_rfl) (by first | rfl | omega | assumption) (by first | omega | decide) (by kernel_rfl) rfl (by kernel_rfl) rfl (by rfl) (by omega) (by omega) (by omega) (by kernel_rfl) (fun g200 c201 r202 hc203 hr204 => ?_)
  refine E.G.relist ((g200, (Q3.o34 ++ r202)) :: (g199, [.int .i64 49]) :: (g193, [.int .i64 48]) :: L) (by kernel_rfl) ?_
  refine E.op (.slice (some ⟨g200, 0, none⟩) 34 c201) ?_
  refine E.P.nb (E.To.code ?_)
  refine E.C.region ?_
  refine E.op (.int .i64 49) ?_
  refine E.op (.int .i64 50) ?_
  refine E.op (.int .i64 50) ?_
  refine E.To.rounds 14 ?_
  refine E.C.weak [(0, .slice none 0 0), (1, .slice (some ⟨g200, 0, none⟩) 34 c201), (2, .int .i64 50), (3, .int .i64 49), (4, .bool true), (5, .int .i64 49), (6, .int .i64 50), (7, .int .i64 49), (8, .agg #[.bool true, .bool false, .bool false, .bool false, .bool false, .int .i64 0, .int .u32 0]), (9, .bool true), (10, .slice (some ⟨g194, 0, none⟩) 33 c195), (11, .int .i64 49), (12, .slice (some ⟨g199, 0, none⟩) 1 1), (13, .slice (some ⟨g200, 0, none⟩) 34 c201)] ((g200, (Q3.o34 ++ r202)) :: (g199, [.int .i64 49]) :: L) ⟨by kernel_rfl, by kernel_rfl⟩ (List.Sublist.cons_cons _ (List.Sublist.cons_cons _ (List.Sublist.cons _ (List.Sublist.refl _)))) ?_
  refine E.C.seq ?_
  refine E.sr ?_
  refine E.op (.int .i64 50) ?_
  refine E.op (.bool true) ?_
  refine E.To.code ?_
  refine E.C.condT (by kernel_rfl) (by kernel_rfl) ?_
  refine E.C.skip (E.To.code ?_)
  refine E.C.seq ?_
  refine E.C.block ?_
  refine E.sr ?_
  refine E.op (.int .i64 50) ?_
  refine E.G.call (.agg #[.bool true, .bool false, .bool false, .bool false, .bool false, .int .i64 0, .int .u32 0]) (fun w h => Q.callAs (Of3_any 50 w) (by kernel_rfl)) (fun w _ => by kernel_rfl) (by kernel_rfl) ?_
  refine E.op (.bool true) ?_
  refine E.To.code ?_
  refine E.C.condT (by kernel_rfl) (by kernel_rfl) ?_
  refine E.C.region ?_
  refine E.op (.slice (some ⟨g200, 0, none⟩) 34 c201) ?_
  refine E.op (.int .i64 50) ?_
  refine E.G.buildSlice [.int .i64 50] (by kernel_rfl) (by kernel_rfl) (fun g205 => ?_)
  refine E.G.append (e := 3) 1 g200 34 c201 0 g205 0 1 1 1 8 Q3.o34 r202 [.int .i64 50] _ (by kernel_rfl) (by kernel_rfl) (by kernel_rfl) rfl (by kernel_rfl) (by first | rfl | omega | assumption) (by first | omega | decide) (by kernel_rfl) rfl (by kernel_rfl) rfl (by rfl) (by omega) (by omega) (by omega) (by kernel_rfl) (fun g206 c207 r208 hc209 hr210 => ?_)
  refine E.G.relist ((g206, (Q3.o35 ++ r208)) :: (g205, [.int .i64 50]) :: (g199, [.int .i64 49]) :: L) (by kernel_rfl) ?_
  refine E.op (.slice (some ⟨g206, 0, none⟩) 35 c207) ?_
  refine E.P.nb (E.To.code ?_)
  refine E.C.region ?_
  refine E.op (.int .i64 50) ?_
  refine E.op (.int .i64 51) ?_
  refine E.op (.int .i64 51) ?_
  refine E.To.rounds 13 ?_
  refine E.C.weak [(0, .slice none 0 0), (1, .slice (some ⟨g206, 0, none⟩) 35 c207), (2, .int .i64 51), (3, .int .i64 50), (4, .bool true), (5, .int .i64 50), (6, .int .i64 51), (7, .int .i64 50), (8, .agg #[.bool true, .bool false, .bool false, .bool false, .bool false, .int .i64 0, .int .u32 0]), (9, .bool true), (10, .slice (some ⟨g200, 0, none⟩) 34 c201), (11, .int .i64 50), (12, .slice (some ⟨g205, 0, none⟩) 1 1), (13, .slice (some ⟨g206, 0, none⟩) 35 c207)] ((g206, (Q3.o35 ++ r208)) :: (g205, [.int .i64 50]) :: L) ⟨by kernel_rfl, by kernel_rfl⟩ (List.Sublist.cons_cons _ (List.Sublist.cons_cons _ (List.Sublist.cons _ (List.Sublist.refl _)))) ?_
  refine E.C.seq ?_
  refine E.sr ?_
  refine E.op (.int .i64 51) ?_
  refine E.op (.bool true) ?_
  refine E.To.code ?_
  refine E.C.condT (by kernel_rfl) (by kernel_rfl) ?_
  refine E.C.skip (E.To.code ?_)
  refine E.C.seq ?_
  refine E.C.block ?_
  refine E.sr ?_
  refine E.op (.int .i64 51) ?_
  refine E.G.call (.agg #[.bool true, .bool false, .bool false, .bool false, .bool false, .int .i64 0, .int .u32 0]) (fun w h => Q.callAs (Of3_any 51 w) (by kernel_rfl)) (fun w _ => by kernel_rfl) (by kernel_rfl) ?_
  refine E.op (.bool true) ?_
  refine E.To.code ?_
  refine E.C.condT (by kernel_rfl) (by kernel_rfl) ?_
  refine E.C.region ?_
  refine E.op (.slice (some ⟨g206, 0, none⟩) 35 c207) ?_
  refine E.op (.int .i64 51) ?_
  refine E.G.buildSlice [.int .i64 51] (by kernel_rfl) (by kernel_rfl) (fun g211 => ?_)
  refine E.G.append (e := 3) 1 g206 35 c207 0 g211 0 1 1 1 8 Q3.o35 r208 [.int .i64 51] _ (by kernel_rfl) (by kernel_rfl) (by kernel_rfl) rfl (by kernel_rfl) (by first | rfl | omega | assumption) (by first | omega | decide) (by kernel_rfl) rfl (by kernel_rfl) rfl (by rfl) (by omega) (by omega) (by omega) (by kernel_rfl) (fun g212 c213 r214 hc215 hr216 => ?_)
  refine E.G.relist ((g212, (Q3.o36 ++ r214)) :: (g211, [.int .i64 51]) :: (g205, [.int .i64 50]) :: L) (by kernel_rfl) ?_
  refine E.op (.slice (some ⟨g212, 0, none⟩) 36 c213) ?_
  refine E.P.nb (E.To.code ?_)
  refine E.C.region ?_
  refine E.op (.int .i64 51) ?_
  refine E.op (.int .i64 52) ?_
  refine E.op (.int .i64 52) ?_
  refine E.To.rounds 12 ?_
  refine E.C.weak [(0, .slice none 0 0), (1, .slice (some ⟨g212, 0, none⟩) 36 c213), (2, .int .i64 52), (3, .int .i64 51), (4, .bool true), (5, .int .i64 51), (6, .int .i64 52), (7, .int .i64 51), (8, .agg #[.bool true, .bool false, .bool false, .bool false, .bool false, .int .i64 0, .int .u32 0]), (9, .bool true), (10, .slice (some ⟨g206, 0, none⟩) 35 c207), (11, .int .i64 51), (12, .slice (some ⟨g211, 0, none⟩) 1 1), (13, .slice (some ⟨g212, 0, none⟩) 36 c213)] ((g212, (Q3.o36 ++ r214)) :: (g211, [.int .i64 51]) :: L) ⟨by kernel_rfl, by kernel_rfl⟩ (List.Sublist.cons_cons _ (List.Sublist.cons_cons _ (List.Sublist.cons _ (List.Sublist.refl _)))) ?_
  refine E.C.seq ?_
  refine E.sr ?_
  refine E.op (.int .i64 52) ?_
  refine E.op (.bool true) ?_
  refine E.To.code ?_
  refine E.C.condT (by kernel_rfl) (by kernel_rfl) ?_
  refine E.C.skip (E.To.code ?_)
  refine E.C.seq ?_
  refine E.C.block ?_
  refine E.sr ?_
  refine E.op (.int .i64 52) ?_
  refine E.G.call (.agg #[.bool true, .bool false, .bool true, .bool false, .bool false, .int .i64 0, .int .u32 0]) (fun w h => Q.callAs (Of3_any 52 w) (by kernel_rfl)) (fun w _ => by kernel_rfl) (by kernel_rfl) ?_
  refine E.op (.bool true) ?_
  refine E.To.code ?_
  refine E.C.condT (by kernel_rfl) (by kernel_rfl) ?_
  refine E.C.region ?_
  refine E.op (.slice (some ⟨g212, 0, none⟩) 36 c213) ?_
  refine E.op (.int .i64 52) ?_
  refine E.G.buildSlice [.int .i64 52] (by kernel_rfl) (by kernel_rfl) (fun g217 => ?_)
  refine E.G.append (e := 3) 1 g212 36 c213 0 g217 0 1 1 1 8 Q3.o36 r214 [.int .i64 52] _ (by kernel_rfl) (by kernel_rfl) (by kernel_rfl) rfl (by kernel_rfl) (by first | rfl | omega | assumption) (by first | omega | decide) (by kernel_rfl) rfl (by kernel_rfl) rfl (by rfl) (by omega) (by omega) (by omega) (by kernel_rfl) (fun g218 c219 r220 hc221 hr222 => ?_)
  refine E.G.relist ((g218, (Q3.o37 ++ r220)) :: (g217, [.int .i64 52]) :: (g211, [.int .i64 51]) :: L) (by kernel_rfl) ?_
  refine E.op (.slice (some ⟨g218, 0, none⟩) 37 c219) ?_
  refine E.P.nb (E.To.code ?_)
  refine E.C.region ?_
  refine E.op (.int .i64 52) ?_
  refine E.op (.int .i64 53) ?_
  refine E.op (.int .i64 53) ?_
  refine E.To.rounds 11 ?_
  refine E.C.weak [(0, .slice none 0 0), (1, .slice (some ⟨g218, 0, none⟩) 37 c219), (2, .int .i64 53), (3, .int .i64 52), (4, .bool true), (5, .int .i64 52), (6, .int .i64 53), (7, .int .i64 52), (8, .agg #[.bool true, .bool false, .bool true, .bool false, .bool false, .int .i64 0, .int .u32 0]), (9, .bool true), (10, .slice (some ⟨g212, 0, none⟩) 36 c213), (11, .int .i64 52), (12, .slice (some ⟨g217, 0, none⟩) 1 1), (13, .slice (some ⟨g218, 0, none⟩) 37 c219)] ((g218, (Q3.o37 ++ r220)) :: (g217, [.int .i64 52]) :: L) ⟨by kernel_rfl, by kernel_rfl⟩ (List.Sublist.cons_cons _ (List.Sublist.cons_cons _ (List.Sublist.cons _ (List.Sublist.refl _)))) ?_
  refine E.C.seq ?_
  refine E.sr ?_
  refine E.op (.int .i64 53) ?_
  refine E.op (.bool true) ?_
  refine E.To.code ?_
  refine E.C.condT (by kernel_rfl) (by kernel_rfl) ?_
  refine E.C.skip (E.To.code ?_)
  refine E.C.seq ?_
  refine E.C.block ?_
  refine E.sr ?_
  refine E.op (.int .i64 53) ?_
  refine E.G.call (.agg #[.bool true, .bool true, .bool false, .bool false, .bool false, .int .i64 18, .int .u32 3]) (fun w h => Q.callAs (Of3_any 53 w) (by kernel_rfl)) (fun w _ => by kernel_rfl) (by kernel_rfl) ?_
  refine E.op (.bool true) ?_
  refine E.To.code ?_
  refine E.C.condT (by kernel_rfl) (by kernel_rfl) ?_
  refine E.C.region ?_
  refine E.op (.slice (some ⟨g218, 0, none⟩) 37 c219) ?_
  refine E.op (.int .i64 53) ?_
  refine E.G.buildSlice [.int .i64 53] (by kernel_rfl) (by kernel_rfl) (fun g223 => ?_)
  refine E.G.append (e := 3) 1 g218 37 c219 0 g223 0 1 1 1 8 Q3.o37 r220 [.int .i64 53] _ (by kernel_rfl) (by kernel_rfl) (by kernel_rfl) rfl (by kernel_rfl) (by first | rfl | omega | assumption) (by first | omega | decide) (by kernel_rfl) rfl (by kernel_rfl) rfl (by rfl) (by omega) (by omega) (by omega) (by kernel_rfl) (fun g224 c225 r226 hc227 hr228 => ?_)
  refine E.G.relist ((g224, (Q3.o38 ++ r226)) :: (g223, [.int .i64 53]) :: (g217, [.int .i64 52]) :: L) (by kernel_rfl) ?_
  refine E.op (.slice (some ⟨g224, 0, none⟩) 38 c225) ?_
  refine E.P.nb (E.To.code ?_)
  refine E.C.region ?_
  refine E.op (.int .i64 53) ?_
  refine E.op (.int .i64 54) ?_
  refine E.op (.int .i64 54) ?_
  refine E.To.rounds 10 ?_
  refine E.C.weak [(0, .slice none 0 0), (1, .slice (some ⟨g224, 0, none⟩) 38 c225), (2, .int .i64 54), (3, .int .i64 53), (4, .bool true), (5, .int .i64 53), (6, .int .i64 54), (7, .int .i64 53), (8, .agg #[.bool true, .bool true, .bool false, .bool false, .bool false, .int .i64 18, .int .u32 3]), (9, .bool true), (10, .slice (some ⟨g218, 0, none⟩) 37 c219), (11, .int .i64 53), (12, .slice (some ⟨g223, 0, none⟩) 1 1), (13, .slice (some ⟨g224, 0, none⟩) 38 c225)] ((g224, (Q3.o38 ++ r226)) :: (g223, [.int .i64 53]) :: L) ⟨by kernel_rfl, by kernel_rfl⟩ (List.Sublist.cons_cons _ (List.Sublist.cons_cons _ (List.Sublist.cons _ (List.Sublist.refl _)))) ?_
  refine E.C.seq ?_
  refine E.sr ?_
  refine E.op (.int .i64 54) ?_
  refine E.op (.bool true) ?_
  refine E.To.code ?_
  refine E.C.condT (by kernel_rfl) (by kernel_rfl) ?_
  refine E.C.skip (E.To.code ?_)
  refine E.C.seq ?_
  refine E.C.block ?_
  refine E.sr ?_
  refine E.op (.int .i64 54) ?_
  refine E.G.call (.agg #[.bool true, .bool false, .bool true, .bool false, .bool false, .int .i64 18, .int .u32 4]) (fun w h => Q.callAs (Of3_any 54 w) (by kernel_rfl)) (fun w _ => by kernel_rfl) (by kernel_rfl) ?_
  refine E.op (.bool true) ?_
  refine E.To.code ?_
  refine E.C.condT (by kernel_rfl) (by kernel_rfl) ?_
  refine E.C.region ?_
  refine E.op (.slice (some ⟨g224, 0, none⟩) 38 c225) ?_
  refine E.op (.int .i64 54) ?_
  refine E.G.buildSlice [.int .i64 54] (by kernel_rfl) (by kernel_rfl) (fun g229 => ?_)
  refine E.G.append (e := 3) 1 g224 38 c225 0 g229 0 1 1 1 8 Q3.o38 r226 [.int .i64 54] _ (by kernel_rfl) (by kernel_rfl) (by kernel_rfl) rfl (by kernel_rfl) (by first | rfl | omega | assumption) (by first | omega | decide) (by kernel_rfl) rfl (by kernel_rfl) rfl (by rfl) (by omega) (by omega) (by omega) (by kernel_rfl) (fun g230 c231 r232 hc233 hr234 => ?_)
  refine E.G.relist ((g230, (Q3.o39 ++ r232)) :: (g229, [.int .i64 54]) :: (g223, [.int .i64 53]) :: L) (by kernel_rfl) ?_
  refine E.op (.slice (some ⟨g230, 0, none⟩) 39 c231) ?_
  refine E.P.nb (E.To.code ?_)
  refine E.C.region ?_
  refine E.op (.int .i64 54) ?_
  refine E.op (.int .i64 55) ?_
  refine E.op (.int .i64 55) ?_
  refine E.To.rounds 9 ?_
  refine E.C.weak [(0, .slice none 0 0), (1, .slice (some ⟨g230, 0, none⟩) 39 c231), (2, .int .i64 55), (3, .int .i64 54), (4, .bool true), (5, .int .i64 54), (6, .int .i64 55), (7, .int .i64 54), (8, .agg #[.bool true, .bool false, .bool true, .bool false, .bool false, .int .i64 18, .int .u32 4]), (9, .bool true), (10, .slice (some ⟨g224, 0, none⟩) 38 c225), (11, .int .i64 54), (12, .slice (some ⟨g229, 0, none⟩) 1 1), (13, .slice (some ⟨g230, 0, none⟩) 39 c231)] ((g230, (Q3.o39 ++ r232)) :: (g229, [.int .i64 54]) :: L) ⟨by kernel_rfl, by kernel_rfl⟩ (List.Sublist.cons_cons _ (List.Sublist.cons_cons _ (List.Sublist.cons _ (List.Sublist.refl _)))) ?_
  refine E.C.seq ?_
  refine E.sr ?_
  refine E.op (.int .i64 55) ?_
  refine E.op (.bool true) ?_
  refine E.To.code ?_
  refine E.C.condT (by kernel_rfl) (by kernel_rfl) ?_
  refine E.C.skip (E.To.code ?_)
  refine E.C.seq ?_
  refine E.C.block ?_
  refine E.sr ?_
  refine E.op (.int .i64 55) ?_
  refine E.G.call (.agg #[.bool false, .bool false, .bool false, .bool false, .bool false, .int .i64 0, .int .u32 0]) (fun w h => Q.callAs (Of3_any 55 w) (by kernel_rfl)) (fun w _ => by kernel_rfl) (by kernel_rfl) ?_
  refine E.op (.bool false) ?_
  refine E.To.code ?_
  refine E.C.condF (by kernel_rfl) (by kernel_rfl) ?_
  refine E.C.skip (E.P.nb (E.To.code ?_))
  refine E.C.region ?_
  refine E.op (.int .i64 55) ?_
  refine E.op (.int .i64 56) ?_
  refine E.op (.int .i64 56) ?_
  refine E.To.rounds 8 ?_
  refine E.C.weak [(0, .slice none 0 0), (1, .slice (some ⟨g230, 0, none⟩) 39 c231), (2, .int .i64 56), (3, .int .i64 55), (4, .bool true), (5, .int .i64 55), (6, .int .i64 56), (7, .int .i64 55), (8, .agg #[.bool false, .bool false, .bool false, .bool false, .bool false, .int .i64 0, .int .u32 0]), (9, .bool false), (10, .slice (some ⟨g224, 0, none⟩) 38 c225), (11, .int .i64 54), (12, .slice (some ⟨g229, 0, none⟩) 1 1), (13, .slice (some ⟨g230, 0, none⟩) 39 c231)] ((g230, (Q3.o39 ++ r232)) :: (g229, [.int .i64 54]) :: L) ⟨by kernel_rfl, by kernel_rfl⟩ (List.Sublist.refl _) ?_
  refine E.C.seq ?_
  refine E.sr ?_
  refine E.op (.int .i64 56) ?_
  refine E.op (.bool true) ?_
  refine E.To.code ?_
  refine E.C.condT (by kernel_rfl) (by kernel_rfl) ?_
  refine E.C.skip (E.To.code ?_)
  refine E.C.seq ?_
  refine E.C.block ?_
  refine E.sr ?_
  refine E.op (.int .i64 56) ?_
  refine E.G.call (.agg #[.bool false, .bool false, .bool false, .bool false, .bool false, .int .i64 0, .int .u32 0]) (fun w h => Q.callAs (Of3_any 56 w) (by kernel_rfl)) (fun w _ => by kernel_rfl) (by kernel_rfl) ?_
  refine E.op (.bool false) ?_
  refine E.To.code ?_
  refine E.C.condF (by kernel_rfl) (by kernel_rfl) ?_
  refine E.C.skip (E.P.nb (E.To.code ?_))
  refine E.C.region ?_
  refine E.op (.int .i64 56) ?_
  refine E.op (.int .i64 57) ?_
  refine E.op (.int .i64 57) ?_
  refine E.To.rounds 7 ?_
  refine E.C.weak [(0, .slice none 0 0), (1, .slice (some ⟨g230, 0, none⟩) 39 c231), (2, .int .i64 57), (3, .int .i64 56), (4, .bool true), (5, .int .i64 56), (6, .int .i64 57), (7, .int .i64 56), (8, .agg #[.bool false, .bool false, .bool false, .bool false, .bool false, .int .i64 0, .int .u32 0]), (9, .bool false), (10, .slice (some ⟨g224, 0, none⟩) 38 c225), (11, .int .i64 54), (12, .slice (some ⟨g229, 0, none⟩) 1 1), (13, .slice (some ⟨g230, 0, none⟩) 39 c231)] ((g230, (Q3.o39 ++ r232)) :: (g229, [.int .i64 54]) :: L) ⟨by kernel_rfl, by kernel_rfl⟩ (List.Sublist.refl _) ?_
  refine E.C.seq ?_
  refine E.sr ?_
  refine E.op (.int .i64 57) ?_
  refine E.op (.bool true) ?_
  refine E.To.code ?_
  refine E.C.condT (by kernel_rfl) (by kernel_rfl) ?_
  refine E.C.skip (E.To.code ?_)
  refine E.C.seq ?_
  refine E.C.block ?_
  refine E.sr ?_
  refine E.op (.int .i64 57) ?_
  refine E.G.call (.agg #[.bool false, .bool false, .bool false, .bool false, .bool false, .int .i64 0, .int .u32 0]) (fun w h => Q.callAs (Of3_any 57 w) (by kernel_rfl)) (fun w _ => by kernel_rfl) (by kernel_rfl) ?_
  refine E.op (.bool false) ?_
  refine E.To.code ?_
  refine E.C.condF (by kernel_rfl) (by kernel_rfl) ?_
  refine E.C.skip (E.P.nb (E.To.code ?_))
  refine E.C.region ?_
  refine E.op (.int .i64 57) ?_
  refine E.op (.int .i64 58) ?_
  refine E.op (.int .i64 58) ?_
  refine E.To.rounds 6 ?_
  refine E.C.weak [(0, .slice none 0 0), (1, .slice (some ⟨g230, 0, none⟩) 39 c231), (2, .int .i64 58), (3, .int .i64 57), (4, .bool true), (5, .int .i64 57), (6, .int .i64 58), (7, .int .i64 57), (8, .agg #[.bool false, .bool false, .bool false, .bool false, .bool false, .int .i64 0, .int .u32 0]), (9, .bool false), (10, .slice (some ⟨g224, 0, none⟩) 38 c225), (11, .int .i64 54), (12, .slice (some ⟨g229, 0, none⟩) 1 1), (13, .slice (some ⟨g230, 0, none⟩) 39 c231)] ((g230, (Q3.o39 ++ r232)) :: (g229, [.int .i64 54]) :: L) ⟨by kernel_rfl, by kernel_rfl⟩ (List.Sublist.refl _) ?_
  refine E.C.seq ?_
  refine E.sr ?_
  refine E.op (.int .i64 58) ?_
  refine E.op (.bool true) ?_
  refine E.To.code ?_
  refine E.C.condT (by kernel_rfl) (by kernel_rfl) ?_
  refine E.C.skip (E.To.code ?_)
  refine E.C.seq ?_
  refine E.C.block ?_
  refine E.sr ?_
  refine E.op (.int .i64 58) ?_
  refine E.G.call (.agg #[.bool false, .bool false, .bool false, .bool false, .bool false, .int .i64 0, .int .u32 0]) (fun w h => Q.callAs (Of3_any 58 w) (by kernel_rfl)) (fun w _ => by kernel_rfl) (by kernel_rfl) ?_
  refine E.op (.bool false) ?_
  refine E.To.code ?_
  refine E.C.condF (by kernel_rfl) (by kernel_rfl) ?_
  refine E.C.skip (E.P.nb (E.To.code ?_))
  refine E.C.region ?_
  refine E.op (.int .i64 58) ?_
  refine E.op (.int .i64 59) ?_
  refine E.op (.int .i64 59) ?_
  refine E.To.rounds 5 ?_
  refine E.C.weak [(0, .slice none 0 0), (1, .slice (some ⟨g230, 0, none⟩) 39 c231), (2, .int .i64 59), (3, .int .i64 58), (4, .bool true), (5, .int .i64 58), (6, .int .i64 59), (7, .int .i64 58), (8, .agg #[.bool false, .bool false, .bool false, .bool false, .bool false, .int .i64 0, .int .u32 0]), (9, .bool false), (10, .slice (some ⟨g224, 0, none⟩) 38 c225), (11, .int .i64 54), (12, .slice (some ⟨g229, 0, none⟩) 1 1), (13, .slice (some ⟨g230, 0, none⟩) 39 c231)] ((g230, (Q3.o39 ++ r232)) :: (g229, [.int .i64 54]) :: L) ⟨by kernel_rfl, by kernel_rfl⟩ (List.Sublist.refl _) ?_
  refine E.C.seq ?_
  refine E.sr ?_
  refine E.op (.int .i64 59) ?_
  refine E.op (.bool true) ?_
  refine E.To.code ?_
  refine E.C.condT (by kernel_rfl) (by kernel_rfl) ?_
  refine E.C.skip (E.To.code ?_)
  refine E.C.seq ?_
  refine E.C.block ?_
  refine E.sr ?_
  refine E.op (.int .i64 59) ?_
  refine E.G.call (.agg #[.bool false, .bool false, .bool false, .bool false, .bool false, .int .i64 0, .int .u32 0]) (fun w h => Q.callAs (Of3_any 59 w) (by kernel_rfl)) (fun w _ => by kernel_rfl) (by kernel_rfl) ?_
  refine E.op (.bool false) ?_
  refine E.To.code ?_
  refine E.C.condF (by kernel_rfl) (by kernel_rfl) ?_
  refine E.C.skip (E.P.nb (E.To.code ?_))
  refine E.C.region ?_
  refine E.op (.int .i64 59) ?_
  refine E.op (.int .i64 60) ?_
  refine E.op (.int .i64 60) ?_
  refine E.To.rounds 4 ?_
  refine E.C.weak [(0, .slice none 0 0), (1, .slice (some ⟨g230, 0, none⟩) 39 c231), (2, .int .i64 60), (3, .int .i64 59), (4, .bool true), (5, .int .i64 59), (6, .int .i64 60), (7, .int .i64 59), (8, .agg #[.bool false, .bool false, .bool false, .bool false, .bool false, .int .i64 0, .int .u32 0]), (9, .bool false), (10, .slice (some ⟨g224, 0, none⟩) 38 c225), (11, .int .i64 54), (12, .slice (some ⟨g229, 0, none⟩) 1 1), (13, .slice (some ⟨g230, 0, none⟩) 39 c231)] ((g230, (Q3.o39 ++ r232)) :: (g229, [.int .i64 54]) :: L) ⟨by kernel_rfl, by kernel_rfl⟩ (List.Sublist.refl _) ?_
  refine E.C.seq ?_
  refine E.sr ?_
  refine E.op (.int .i64 60) ?_
  refine E.op (.bool true) ?_
  refine E.To.code ?_
  refine E.C.condT (by kernel_rfl) (by kernel_rfl) ?_
  refine E.C.skip (E.To.code ?_)
  refine E.C.seq ?_
  refine E.C.block ?_
  refine E.sr ?_
  refine E.op (.int .i64 60) ?_
  refine E.G.call (.agg #[.bool false, .bool false, .bool false, .bool false, .bool false, .int .i64 0, .int .u32 0]) (fun w h => Q.callAs (Of3_any 60 w) (by kernel_rfl)) (fun w _ => by kernel_rfl) (by kernel_rfl) ?_
  refine E.op (.bool false) ?_
  refine E.To.code ?_
  refine E.C.condF (by kernel_rfl) (by kernel_rfl) ?_
  refine E.C.skip (E.P.nb (E.To.code ?_))
  refine E.C.region ?_
  refine E.op (.int .i64 60) ?_
  refine E.op (.int .i64 61) ?_
  refine E.op (.int .i64 61) ?_
  refine E.To.rounds 3 ?_
  refine E.C.weak [(0, .slice none 0 0), (1, .slice (some ⟨g230, 0, none⟩) 39 c231), (2, .int .i64 61), (3, .int .i64 60), (4, .bool true), (5, .int .i64 60), (6, .int .i64 61), (7, .int .i64 60), (8, .agg #[.bool false, .bool false, .bool false, .bool false, .bool false, .int .i64 0, .int .u32 0]), (9, .bool false), (10, .slice (some ⟨g224, 0, none⟩) 38 c225), (11, .int .i64 54), (12, .slice (some ⟨g229, 0, none⟩) 1 1), (13, .slice (some ⟨g230, 0, none⟩) 39 c231)] ((g230, (Q3.o39 ++ r232)) :: (g229, [.int .i64 54]) :: L) ⟨by kernel_rfl, by kernel_rfl⟩ (List.Sublist.refl _) ?_
  refine E.C.seq ?_
  refine E.sr ?_
  refine E.op (.int .i64 61) ?_
  refine E.op (.bool true) ?_
  refine E.To.code ?_
  refine E.C.condT (by kernel_rfl) (by kernel_rfl) ?_
  refine E.C.skip (E.To.code ?_)
  refine E.C.seq ?_
  refine E.C.block ?_
  refine E.sr ?_
  refine E.op (.int .i64 61) ?_
  refine E.G.call (.agg #[.bool false, .bool false, .bool false, .bool false, .bool false, .int .i64 0, .int .u32 0]) (fun w h => Q.callAs (Of3_any 61 w) (by kernel_rfl)) (fun w _ => by kernel_rfl) (by kernel_rfl) ?_
  refine E.op (.bool false) ?_
  refine E.To.code ?_
  refine E.C.condF (by kernel_rfl) (by kernel_rfl) ?_
  refine E.C.skip (E.P.nb (E.To.code ?_))
  refine E.C.region ?_
  refine E.op (.int .i64 61) ?_
  refine E.op (.int .i64 62) ?_
  refine E.op (.int .i64 62) ?_
  refine E.To.rounds 2 ?_
  refine E.C.weak [(0, .slice none 0 0), (1, .slice (some ⟨g230, 0, none⟩) 39 c231), (2, .int .i64 62), (3, .int .i64 61), (4, .bool true), (5, .int .i64 61), (6, .int .i64 62), (7, .int .i64 61), (8, .agg #[.bool false, .bool false, .bool false, .bool false, .bool false, .int .i64 0, .int .u32 0]), (9, .bool false), (10, .slice (some ⟨g224, 0, none⟩) 38 c225), (11, .int .i64 54), (12, .slice (some ⟨g229, 0, none⟩) 1 1), (13, .slice (some ⟨g230, 0, none⟩) 39 c231)] ((g230, (Q3.o39 ++ r232)) :: (g229, [.int .i64 54]) :: L) ⟨by kernel_rfl, by kernel_rfl⟩ (List.Sublist.refl _) ?_
  refine E.C.seq ?_
  refine E.sr ?_
  refine E.op (.int .i64 62) ?_
  refine E.op (.bool true) ?_
  refine E.To.code ?_
  refine E.C.condT (by kernel_rfl) (by kernel_rfl) ?_
  refine E.C.skip (E.To.code ?_)
  refine E.C.seq ?_
  refine E.C.block ?_
  refine E.sr ?_
  refine E.op (.int .i64 62) ?_
  refine E.G.call (.agg #[.bool false, .bool false, .bool false, .bool false, .bool false, .int .i64 0, .int .u32 0]) (fun w h => Q.callAs (Of3_any 62 w) (by kernel_rfl)) (fun w _ => by kernel_rfl) (by kernel_rfl) ?_
  refine E.op (.bool false) ?_
  refine E.To.code ?_
  refine E.C.condF (by kernel_rfl) (by kernel_rfl) ?_
  refine E.C.skip (E.P.nb (E.To.code ?_))
  refine E.C.region ?_
  refine E.op (.int .i64 62) ?_
  refine E.op (.int .i64 63) ?_
  refine E.op (.int .i64 63) ?_
  refine E.To.rounds 1 ?_
  refine E.C.weak [(0, .slice none 0 0), (1, .slice (some ⟨g230, 0, none⟩) 39 c231), (2, .int .i64 63), (3, .int .i64 62), (4, .bool true), (5, .int .i64 62), (6, .int .i64 63), (7, .int .i64 62), (8, .agg #[.bool false, .bool false, .bool false, .bool false, .bool false, .int .i64 0, .int .u32 0]), (9, .bool false), (10, .slice (some ⟨g224, 0, none⟩) 38 c225), (11, .int .i64 54), (12, .slice (some ⟨g229, 0, none⟩) 1 1), (13, .slice (some ⟨g230, 0, none⟩) 39 c231)] ((g230, (Q3.o39 ++ r232)) :: (g229, [.int .i64 54]) :: L) ⟨by kernel_rfl, by kernel_rfl⟩ (List.Sublist.refl _) ?_
  refine E.C.seq ?_
  refine E.sr ?_
  refine E.op (.int .i64 63) ?_
  refine E.op (.bool true) ?_
  refine E.To.code ?_
  refine E.C.condT (by kernel_rfl) (by kernel_rfl) ?_
  refine E.C.skip (E.To.code ?_)
  refine E.C.seq ?_
  refine E.C.block ?_
  refine E.sr ?_
  refine E.op (.int .i64 63) ?_
  refine E.G.call (.agg #[.bool false, .bool false, .bool false, .bool false, .bool false, .int .i64 0, .int .u32 0]) (fun w h => Q.callAs (Of3_any 63 w) (by kernel_rfl)) (fun w _ => by kernel_rfl) (by kernel_rfl) ?_
  refine E.op (.bool false) ?_
  refine E.To.code ?_
  refine E.C.condF (by kernel_rfl) (by kernel_rfl) ?_
  refine E.C.skip (E.P.nb (E.To.code ?_))
  refine E.C.region ?_
  refine E.op (.int .i64 63) ?_
  refine E.op (.int .i64 64) ?_
  refine E.op (.int .i64 64) ?_
  refine E.To.rounds 0 ?_
  refine E.C.weak [(0, .slice none 0 0), (1, .slice (some ⟨g230, 0, none⟩) 39 c231), (2, .int .i64 64), (3, .int .i64 63), (4, .bool true), (5, .int .i64 63), (6, .int .i64 64), (7, .int .i64 63), (8, .agg #[.bool false, .bool false, .bool false, .bool false, .bool false, .int .i64 0, .int .u32 0]), (9, .bool false), (10, .slice (some ⟨g224, 0, none⟩) 38 c225), (11, .int .i64 54), (12, .slice (some ⟨g229, 0, none⟩) 1 1), (13, .slice (some ⟨g230, 0, none⟩) 39 c231)] ((g230, (Q3.o39 ++ r232)) :: (g229, [.int .i64 54]) :: L) ⟨by kernel_rfl, by kernel_rfl⟩ (List.Sublist.refl _) ?_
  refine E.C.seq ?_
  refine E.sr ?_
  refine E.op (.int .i64 64) ?_
  refine E.op (.bool false) ?_
  refine E.To.code ?_
  refine E.C.condF (by kernel_rfl) (by kernel_rfl) ?_
  refine E.C.exit (E.P.et (E.P.et (E.P.eh (E.To.code ?_))))
  refine E.C.weak [(0, .slice none 0 0), (1, .slice (some ⟨g230, 0, none⟩) 39 c231)] ((g230, (Q3.o39 ++ r232)) :: L) ⟨by kernel_rfl, by kernel_rfl⟩ (List.Sublist.cons_cons _ (List.Sublist.cons _ (List.Sublist.refl _))) ?_
  refine E.sr ?_
  refine E.op (.slice (some ⟨g230, 0, none⟩) 39 c231) ?_
  refine E.op (.slice (some ⟨g230, 0, none⟩) 39 c231) ?_
  refine E.To.code ?_
  refine E.C.ret (E.To.body (fn := Try.f46) [.slice (some ⟨g230, 0, none⟩) 39 c231] ?_ ?_)
  · exact ⟨⟨by kernel_rfl, by kernel_rfl⟩, trivial⟩
  · intro w h
    exact ⟨(g230, c231, r232), rfl, h.less (List.Sublist.refl _)⟩
theorem Q3.ops_len : Q3.ops.length = 39 := rfl
def Q3.opAt (n : Int) : Int := Q3.ops.getD (0 + n.toNat * 1) 0
theorem Q3.bifm {c : Bool} {x y : Q3.Fm} (hx : 0 ≤ x.most ∧ x.most ≤ 4) (hy : 0 ≤ y.most ∧ y.most ≤ 4) : 0 ≤ (bif c then x else y).most ∧ (bif c then x else y).most ≤ 4 := by
  cases c
  · exact hy
  · exact hx
theorem Q3.of_most (x : Int) : 0 ≤ (Q3.of x).most ∧ (Q3.of x).most ≤ 4 := by
  unfold Q3.of
  repeat' (first | (show (0 : Int) ≤ _ ∧ (_ : Int) ≤ 4; decide) | refine Q3.bifm ?_ ?_)
theorem Q3.most1 {m : Int} (h : 0 ≤ m ∧ m ≤ 4) : IntKind.wrap .i64 (IntKind.wrap .i64 m + 1) = m + 1 := by
  rw [IntWalk.i64_in m (by omega), IntWalk.i64_in _ (by omega)]
def Q3.two (b : Nat) : Int := ((2 ^ b : Nat) : Int)
theorem Q3.two_bd {b : Nat} (h : b ≤ 22) : 0 < Q3.two b ∧ Q3.two b < 4611686018427387904 := by
  have e : ∀ b : Fin 23, 0 < Q3.two b.val ∧ Q3.two b.val < 4611686018427387904 := by decide +kernel
  exact e ⟨b, by omega⟩
theorem Q3.two_eq {b : Nat} (h : b ≤ 22) : IntKind.wrap .i64 (1 * 2 ^ (min b 64)) = Q3.two b := by
  have e : ∀ b : Fin 23, IntKind.wrap .i64 (1 * 2 ^ (min b.val 64)) = Q3.two b.val := by decide +kernel
  exact e ⟨b, by omega⟩
end Go.Proofs.Ytgbndbljohpnmaa
