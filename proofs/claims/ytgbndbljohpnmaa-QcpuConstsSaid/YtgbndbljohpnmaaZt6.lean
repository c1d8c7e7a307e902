/- Texts of the walk, merged (6): see the remark ahead of each. -/
import Derived.Test.YtgbndbljohpnmaaZt5
import Derived.Test.YtgbndbljohpnmaaProg
import Derived.ChangeKeysEq
/- XQm -/
namespace Go.Proofs.Ytgbndbljohpnmaa
set_option linter.unusedVariables false
set_option linter.unusedSimpArgs false
open Go.RowKit
section
variable {most : Int} {F n : Nat} {s : Q.S} {V : M.V}
theorem Q.run_f (h : n < F) : ∃ f, F - n = f + 1 ∧ F - (n + 1) = f := ⟨F - (n + 1), by omega, rfl⟩
theorem Q.run_t (h : n < F) (h1 : (decide (s.du > 0) && decide (s.st ≥ s.du)) = true) : Q.run most (F - n) n s V = (s, 8, 0, V) := by
  obtain ⟨f, e, _⟩ := Q.run_f h
  rw [e, Q.run, h1]; rfl
theorem Q.run_b (h : n < F) (h1 : (decide (s.du > 0) && decide (s.st ≥ s.du)) = false) (h2 : decide (((n : Nat) : Int) ≥ most) = true) : Q.run most (F - n) n s V = (s, 1, 0, V) := by
  obtain ⟨f, e, _⟩ := Q.run_f h
  rw [e, Q.run, h1, h2]; rfl
theorem Q.run_s (h : n < F) (h1 : (decide (s.du > 0) && decide (s.st ≥ s.du)) = false) (h2 : decide (((n : Nat) : Int) ≥ most) = false) (h3 : ((Q.step s V).2.1 != 0) = true) : Q.run most (F - n) n s V = (s, (Q.step s V).2.1, (Q.step s V).2.2.1, (Q.step s V).2.2.2) := by
  obtain ⟨f, e, _⟩ := Q.run_f h
  rw [e, Q.run, h1, h2, h3]; rfl
theorem Q.run_n (h : n < F) (h1 : (decide (s.du > 0) && decide (s.st ≥ s.du)) = false) (h2 : decide (((n : Nat) : Int) ≥ most) = false) (h3 : ((Q.step s V).2.1 != 0) = false) : Q.run most (F - n) n s V = Q.run most (F - (n + 1)) (n + 1) (Q.step s V).1 (Q.step s V).2.2.2 := by
  obtain ⟨f, e, e2⟩ := Q.run_f h
  rw [e2, e, Q.run, h1, h2, h3]; rfl
theorem Q.run_lt (hm : most < 9223372036854775808) (h2 : decide (((n : Nat) : Int) ≥ most) = false) : n + 1 < most.toNat + 1 ∧ IntKind.wrap .i64 (((n : Nat) : Int) + 1) = ((n + 1 : Nat) : Int) := by
  have := of_decide_eq_false h2
  rw [IntKind.wrap_i64]
  omega
end
theorem CRun {c : Nat} (most : Int) (s : Q.S) (V : M.V) (hm : -9223372036854775808 ≤ most ∧ most < 9223372036854775808) (hs : Q.wf s) (hV : R.Wf V) : A.Tr Try.prog 20 #[.pointer (some ⟨c, 0, none⟩), .int .i64 most] [M.It c V (Q.S.cells s)] (I := Unit) (fun _ => True) (fun _ => .agg #[.int .i64 (Q.runs most s V).2.1, .int .u32 (Q.runs most s V).2.2.1]) (fun _ => [M.It c (Q.runs most s V).2.2.2 (Q.S.cells (Q.runs most s V).1)]) := by
  intro w oo aa hh
  refine E.enter (n := 54) (S := oo) Try.func20 rfl rfl (by kernel_rfl) (A.start (L := []) hh) ?_
  refine E.sr ?_
  refine E.G.new (fun g => .pointer (some ⟨g, 0, none⟩)) [.int .i64 0, .int .u32 0] 51 (fun w => by kernel_rfl) (by kernel_rfl) (fun g1 => ?_)
  refine E.tr ?_
  refine E.op (.int .i64 0) ?_
  refine E.To.code ?_
  refine E.C.block ?_
  refine E.C.loop (I := Nat × Q.S × M.V) (fun i => (most.toNat + 1) - i.1) (fun i => i.1 < (most.toNat + 1) ∧ Q.wf i.2.1 ∧ R.Wf i.2.2 ∧ Q.run most ((most.toNat + 1) - i.1) i.1 i.2.1 i.2.2 = (Q.runs most s V)) (fun i => [(0, .pointer (some ⟨c, 0, none⟩)), (1, .int .i64 most), (4, .pointer (some ⟨g1, 0, none⟩)), (5, .int .i64 ((i.1 : Nat) : Int))]) (fun i => A.X w oo aa [M.It c i.2.2 (Q.S.cells i.2.1)]) (fun i => [(g1, [.int .i64 0, .int .u32 0])]) (0, s, V) (⟨Nat.succ_pos _, hs, hV, rfl⟩) ⟨by kernel_rfl, by kernel_rfl⟩ (List.Sublist.refl _) (fun _ h => h) (fun i hk1 => ?_)
  refine E.C.seq ?_
  refine E.C.block ?_
  refine E.C.seq ?_
  refine E.C.seq ?_
  refine E.C.quiet (by kernel_rfl) (by kernel_rfl) ?_
  refine E.W.op (.pointer (some ⟨c, 0, none⟩)) (fun w => by kernel_rfl) (by kernel_rfl) ?_
  refine E.W.op (.pointer (some ⟨c, 0, none⟩)) (fun w => by kernel_rfl) (by kernel_rfl) ?_
  refine E.W.op (.pointer (some ⟨c, 2, none⟩)) (fun w => by kernel_rfl) (by kernel_rfl) ?_
  refine E.W.op (.pointer (some ⟨c, 25, none⟩)) (fun w => by kernel_rfl) (by kernel_rfl) ?_
  refine E.W.val (.int .i64 i.2.1.du) (by kernel_rfl) (fun w h => A.Y.xld (A.X.y h.x) (k := 0) (j := 23) rfl (by kernel_rfl) (by kernel_rfl)) ?_
  refine E.W.op (.bool (decide (i.2.1.du > 0))) (fun w => by kernel_rfl) (by kernel_rfl) ?_
  refine E.W.op (.bool (decide (i.2.1.du > 0))) (fun w => by kernel_rfl) (by kernel_rfl) ?_
  refine E.W.cut 12 [(0, .pointer (some ⟨c, 0, none⟩)), (1, .int .i64 most), (4, .pointer (some ⟨g1, 0, none⟩)), (5, .int .i64 ((i.1 : Nat) : Int)), (10, .pointer (some ⟨c, 0, none⟩)), (11, .pointer (some ⟨c, 0, none⟩)), (12, .pointer (some ⟨c, 2, none⟩)), (13, .pointer (some ⟨c, 25, none⟩)), (14, .int .i64 i.2.1.du), (15, .bool (decide (i.2.1.du > 0))), (16, .bool (decide (i.2.1.du > 0))), (28, .bool ((decide (i.2.1.du > 0)) && (decide (i.2.1.st ≥ i.2.1.du))))] ?_ ?_
  · generalize hc2 : (decide (i.2.1.du > 0)) = b3
    cases b3
    · skip
      refine E.W.skip (by kernel_rfl) (by kernel_rfl) ?_
      refine E.W.skip (by kernel_rfl) (by kernel_rfl) ?_
      refine E.W.skip (by kernel_rfl) (by kernel_rfl) ?_
      refine E.W.skip (by kernel_rfl) (by kernel_rfl) ?_
      refine E.W.skip (by kernel_rfl) (by kernel_rfl) ?_
      refine E.W.skip (by kernel_rfl) (by kernel_rfl) ?_
      refine E.W.skip (by kernel_rfl) (by kernel_rfl) ?_
      refine E.W.skip (by kernel_rfl) (by kernel_rfl) ?_
      refine E.W.skip (by kernel_rfl) (by kernel_rfl) ?_
      refine E.W.skip (by kernel_rfl) (by kernel_rfl) ?_
      refine E.W.skip (by kernel_rfl) (by kernel_rfl) ?_
      refine E.W.op (.bool false) (fun w => by kernel_rfl) (by kernel_rfl) ?_
      exact E.W.end_cut ⟨by kernel_rfl, by kernel_rfl⟩
    · skip
      refine E.W.op (.pointer (some ⟨c, 0, none⟩)) (fun w => by kernel_rfl) (by kernel_rfl) ?_
      refine E.W.op (.pointer (some ⟨c, 0, none⟩)) (fun w => by kernel_rfl) (by kernel_rfl) ?_
      refine E.W.op (.pointer (some ⟨c, 2, none⟩)) (fun w => by kernel_rfl) (by kernel_rfl) ?_
      refine E.W.op (.pointer (some ⟨c, 24, none⟩)) (fun w => by kernel_rfl) (by kernel_rfl) ?_
      refine E.W.val (.int .i64 i.2.1.st) (by kernel_rfl) (fun w h => A.Y.xld (A.X.y h.x) (k := 0) (j := 22) rfl (by kernel_rfl) (by kernel_rfl)) ?_
      refine E.W.op (.pointer (some ⟨c, 0, none⟩)) (fun w => by kernel_rfl) (by kernel_rfl) ?_
      refine E.W.op (.pointer (some ⟨c, 0, none⟩)) (fun w => by kernel_rfl) (by kernel_rfl) ?_
      refine E.W.op (.pointer (some ⟨c, 2, none⟩)) (fun w => by kernel_rfl) (by kernel_rfl) ?_
      refine E.W.op (.pointer (some ⟨c, 25, none⟩)) (fun w => by kernel_rfl) (by kernel_rfl) ?_
      refine E.W.val (.int .i64 i.2.1.du) (by kernel_rfl) (fun w h => A.Y.xld (A.X.y h.x) (k := 0) (j := 23) rfl (by kernel_rfl) (by kernel_rfl)) ?_
      refine E.W.op (.bool (decide (i.2.1.st ≥ i.2.1.du))) (fun w => by kernel_rfl) (by kernel_rfl) ?_
      refine E.W.op (.bool (decide (i.2.1.st ≥ i.2.1.du))) (fun w => by kernel_rfl) (by kernel_rfl) ?_
      exact E.W.end_cut ⟨by kernel_rfl, by kernel_rfl⟩
  refine E.W.done (E.To.code ?_)
  refine E.C.cond ((decide (i.2.1.du > 0)) && (decide (i.2.1.st ≥ i.2.1.du))) (by kernel_rfl) (by kernel_rfl) (fun hc4 => ?_) (fun hc4 => ?_)
  · skip
    refine E.sr ?_
    refine E.G.val (.agg #[.int .i64 8, .int .u32 0]) (by kernel_rfl) (fun w h => E.run_build #[.int .i64 8, .int .u32 0] (by kernel_rfl) w) ?_
    refine E.G.store 0 [.int .i64 8, .int .u32 0] rfl rfl (by kernel_rfl) (by kernel_rfl) ?_
    refine E.To.code ?_
    refine E.C.ret (E.P.rt (E.P.rb (E.P.rt (E.P.rt (E.P.rb (E.To.body (fn := Try.f20) [.agg #[.int .i64 8, .int .u32 0]] ?_ ?_))))))
    · exact ⟨⟨by kernel_rfl, _, _, 0, _, rfl, rfl, by kernel_rfl⟩, trivial⟩
    · intro w h
      have e := hk1.2.2.2
      rw [Q.run_t hk1.1 hc4] at e
      rw [← e]
      exact ⟨(), trivial, rfl, A.done (q := [M.It c i.2.2 (Q.S.cells i.2.1)]) (r := [A.blk g1 ([.int .i64 8, .int .u32 0])]) h (by kernel_rfl) (A.pm [1, 0] (by kernel_rfl) (by kernel_rfl))⟩
  · skip
    refine E.C.skip (E.To.code ?_)
    refine E.C.seq ?_
    refine E.sr ?_
    refine E.op (.int .i64 ((i.1 : Nat) : Int)) ?_
    refine E.op (.int .i64 most) ?_
    refine E.op (.bool (decide (((i.1 : Nat) : Int) ≥ most))) ?_
    refine E.To.code ?_
    refine E.C.cond (decide (((i.1 : Nat) : Int) ≥ most)) (by kernel_rfl) (by kernel_rfl) (fun hc5 => ?_) (fun hc5 => ?_)
    · skip
      refine E.sr ?_
      refine E.G.val (.agg #[.int .i64 1, .int .u32 0]) (by kernel_rfl) (fun w h => E.run_build #[.int .i64 1, .int .u32 0] (by kernel_rfl) w) ?_
      refine E.G.store 0 [.int .i64 1, .int .u32 0] rfl rfl (by kernel_rfl) (by kernel_rfl) ?_
      refine E.To.code ?_
      refine E.C.ret (E.P.rt (E.P.rb (E.P.rt (E.P.rt (E.P.rb (E.To.body (fn := Try.f20) [.agg #[.int .i64 1, .int .u32 0]] ?_ ?_))))))
      · exact ⟨⟨by kernel_rfl, _, _, 0, _, rfl, rfl, by kernel_rfl⟩, trivial⟩
      · intro w h
        have e := hk1.2.2.2
        rw [Q.run_b hk1.1 hc4 hc5] at e
        rw [← e]
        exact ⟨(), trivial, rfl, A.done (q := [M.It c i.2.2 (Q.S.cells i.2.1)]) (r := [A.blk g1 ([.int .i64 1, .int .u32 0])]) h (by kernel_rfl) (A.pm [1, 0] (by kernel_rfl) (by kernel_rfl))⟩
    · skip
      refine E.C.skip (E.To.code ?_)
      refine E.C.seq ?_
      refine E.C.held (M.Xc c (Q.S.cells i.2.1)) (by kernel_rfl) ?_
      refine E.H.gen (fun H up dn => ?_)
      have nd4 : ∀ (v1_g_6_1 : Nat) (v1_g_7_1 : Nat), H 0 (E.bits 16 65535) [(0, .pointer (some ⟨c, 0, none⟩)), (1, .int .i64 most), (4, .pointer (some ⟨g1, 0, none⟩)), (5, .int .i64 ((i.1 : Nat) : Int)), (6, .pointer (some ⟨v1_g_6_1, 0, none⟩)), (7, .pointer (some ⟨v1_g_7_1, 0, none⟩)), (10, .pointer (some ⟨c, 0, none⟩)), (11, .pointer (some ⟨c, 0, none⟩)), (12, .pointer (some ⟨c, 2, none⟩)), (13, .pointer (some ⟨c, 25, none⟩)), (14, .int .i64 i.2.1.du), (15, .bool (decide (i.2.1.du > 0))), (16, .bool (decide (i.2.1.du > 0))), (28, .bool ((decide (i.2.1.du > 0)) && (decide (i.2.1.st ≥ i.2.1.du)))), (30, .int .i64 ((i.1 : Nat) : Int)), (31, .int .i64 most), (32, .bool (decide (((i.1 : Nat) : Int) ≥ most))), (34, .tuple #[Q.S.val ((Q.step i.2.1 i.2.2).1), .agg #[.int .i64 ((Q.step i.2.1 i.2.2).2.1), .int .u32 ((Q.step i.2.1 i.2.2).2.2.1)]]), (35, .pointer (some ⟨c, 0, none⟩)), (36, .pointer (some ⟨c, 0, none⟩)), (37, .pointer (some ⟨c, 2, none⟩)), (38, Q.S.val i.2.1), (39, .pointer (some ⟨c, 0, none⟩)), (40, .pointer (some ⟨c, 0, none⟩)), (41, .pointer (some ⟨c, 0, none⟩)), (42, .iface 82 (.pointer (some ⟨c, 0, none⟩))), (43, .tuple #[Q.S.val ((Q.step i.2.1 i.2.2).1), .agg #[.int .i64 ((Q.step i.2.1 i.2.2).2.1), .int .u32 ((Q.step i.2.1 i.2.2).2.2.1)]]), (44, Q.S.val ((Q.step i.2.1 i.2.2).1)), (45, .agg #[.int .i64 ((Q.step i.2.1 i.2.2).2.1), .int .u32 ((Q.step i.2.1 i.2.2).2.2.1)])] (A.X w oo aa [M.It c ((Q.step i.2.1 i.2.2).2.2.2) (Q.S.cells i.2.1)]) [(v1_g_6_1, (Q.S.cells ((Q.step i.2.1 i.2.2).1))), (v1_g_7_1, [.int .i64 ((Q.step i.2.1 i.2.2).2.1), .int .u32 ((Q.step i.2.1 i.2.2).2.2.1)]), (g1, [.int .i64 0, .int .u32 0])] := by
        intro v1_g_6_1 v1_g_7_1
        refine up _ _ _ _ _ ?_
        refine E.H.done (by kernel_rfl) ?_
        refine E.To.code ?_
        refine E.C.seq ?_
        refine E.sr ?_
        refine E.op (.pointer (some ⟨v1_g_7_1, 0, none⟩)) ?_
        refine E.li (.int .i64 ((Q.step i.2.1 i.2.2).2.1)) 1 rfl rfl ?_
        refine E.op (.bool (((Q.step i.2.1 i.2.2).2.1) != 0)) ?_
        refine E.To.code ?_
        refine E.C.cond (((Q.step i.2.1 i.2.2).2.1) != 0) (by kernel_rfl) (by kernel_rfl) (fun hc6 => ?_) (fun hc6 => ?_)
        · skip
          refine E.sr ?_
          refine E.li (.agg #[.int .i64 ((Q.step i.2.1 i.2.2).2.1), .int .u32 ((Q.step i.2.1 i.2.2).2.2.1)]) 1 rfl rfl ?_
          refine E.G.store 2 [.int .i64 ((Q.step i.2.1 i.2.2).2.1), .int .u32 ((Q.step i.2.1 i.2.2).2.2.1)] rfl rfl (by kernel_rfl) (by kernel_rfl) ?_
          refine E.To.code ?_
          refine E.C.ret (E.P.rt (E.P.rb (E.P.rt (E.P.rt (E.P.rb (E.To.body (fn := Try.f20) [.agg #[.int .i64 ((Q.step i.2.1 i.2.2).2.1), .int .u32 ((Q.step i.2.1 i.2.2).2.2.1)]] ?_ ?_))))))
          · exact ⟨⟨by kernel_rfl, _, _, 2, _, rfl, rfl, by kernel_rfl⟩, trivial⟩
          · intro w h
            have e := hk1.2.2.2
            rw [Q.run_s hk1.1 hc4 hc5 hc6] at e
            rw [← e]
            exact ⟨(), trivial, rfl, A.done (q := [M.It c ((Q.step i.2.1 i.2.2).2.2.2) (Q.S.cells i.2.1)]) (r := [A.blk v1_g_6_1 (Q.S.cells ((Q.step i.2.1 i.2.2).1)), A.blk v1_g_7_1 ([.int .i64 ((Q.step i.2.1 i.2.2).2.1), .int .u32 ((Q.step i.2.1 i.2.2).2.2.1)]), A.blk g1 ([.int .i64 ((Q.step i.2.1 i.2.2).2.1), .int .u32 ((Q.step i.2.1 i.2.2).2.2.1)])]) h (by kernel_rfl) (A.pm [3, 0, 1, 2] (by kernel_rfl) (by kernel_rfl))⟩
        · skip
          refine E.C.skip (E.To.code ?_)
          refine E.C.region ?_
          refine E.op (.pointer (some ⟨c, 0, none⟩)) ?_
          refine E.li (Q.S.val ((Q.step i.2.1 i.2.2).1)) 0 rfl rfl ?_
          refine E.op (.pointer (some ⟨c, 0, none⟩)) ?_
          refine E.op (.pointer (some ⟨c, 2, none⟩)) ?_
          refine A.G.openM (m := c) (V := (Q.step i.2.1 i.2.2).2.2.2) (xs := (Q.S.cells i.2.1)) (fun b7 => [(c, (M.hdr b7 ++ (Q.S.cells i.2.1))), (v1_g_6_1, (Q.S.cells ((Q.step i.2.1 i.2.2).1))), (v1_g_7_1, [.int .i64 ((Q.step i.2.1 i.2.2).2.1), .int .u32 ((Q.step i.2.1 i.2.2).2.2.1)]), (g1, [.int .i64 0, .int .u32 0])]) (fun b7 => [M.Bd b7 ((Q.step i.2.1 i.2.2).2.2.2)]) [A.blk v1_g_6_1 (Q.S.cells ((Q.step i.2.1 i.2.2).1)), A.blk v1_g_7_1 ([.int .i64 ((Q.step i.2.1 i.2.2).2.1), .int .u32 ((Q.step i.2.1 i.2.2).2.2.1)]), A.blk g1 ([.int .i64 0, .int .u32 0])] (by kernel_rfl) (A.pm [3, 0, 1, 2] (by kernel_rfl) (by kernel_rfl)) (fun b7 => A.pm [0, 2, 3, 4, 1] (by kernel_rfl) (by kernel_rfl)) (fun b7 => ?_)
          refine E.G.store 0 (M.hdr b7 ++ (Q.S.cells ((Q.step i.2.1 i.2.2).1))) rfl rfl (by kernel_rfl) (by kernel_rfl) ?_
          refine A.G.closeM (b := b7) (m := c) (V := (Q.step i.2.1 i.2.2).2.2.2) (xs := (Q.S.cells ((Q.step i.2.1 i.2.2).1))) [(v1_g_6_1, (Q.S.cells ((Q.step i.2.1 i.2.2).1))), (v1_g_7_1, [.int .i64 ((Q.step i.2.1 i.2.2).2.1), .int .u32 ((Q.step i.2.1 i.2.2).2.2.1)]), (g1, [.int .i64 0, .int .u32 0])] [M.It c ((Q.step i.2.1 i.2.2).2.2.2) (Q.S.cells ((Q.step i.2.1 i.2.2).1))] [A.blk v1_g_6_1 (Q.S.cells ((Q.step i.2.1 i.2.2).1)), A.blk v1_g_7_1 ([.int .i64 ((Q.step i.2.1 i.2.2).2.1), .int .u32 ((Q.step i.2.1 i.2.2).2.2.1)]), A.blk g1 ([.int .i64 0, .int .u32 0])] (by kernel_rfl) (A.pm [0, 4, 1, 2, 3] (by kernel_rfl) (by kernel_rfl)) (A.pm [1, 2, 3, 0] (by kernel_rfl) (by kernel_rfl)) ?_
          refine E.P.nb (E.To.code ?_)
          refine E.C.region ?_
          refine E.op (.int .i64 ((i.1 : Nat) : Int)) ?_
          refine E.G.val (.int .i64 ((i.1 + 1 : Nat) : Int)) (by kernel_rfl) (fun w h => E.run_as (a := .int .i64 (IntKind.wrap .i64 (((i.1 : Nat) : Int) + 1))) (by kernel_rfl) (congrArg (Value.int .i64) (Q.run_lt hm.2 hc5).2)) ?_
          refine E.op (.int .i64 ((i.1 + 1 : Nat) : Int)) ?_
          exact E.To.round (i.1 + 1, (Q.step i.2.1 i.2.2).1, (Q.step i.2.1 i.2.2).2.2.2) (by show (most.toNat + 1) - (i.1 + 1) < (most.toNat + 1) - i.1; have := hk1.1; omega) (⟨(Q.run_lt hm.2 hc5).1, (Q.step_wf hk1.2.1 hk1.2.2.1).1, (Q.step_wf hk1.2.1 hk1.2.2.1).2, (Q.run_n hk1.1 hc4 hc5 hc6).symm.trans hk1.2.2.2⟩) ⟨by kernel_rfl, by kernel_rfl⟩ (List.Sublist.cons _ (List.Sublist.cons _ (List.Sublist.refl _))) (fun _ h => h)
      have nd3 : ∀ (v1_g_6_1 : Nat) (v1_g_7_1 : Nat), H 1 (E.bits 16 32767) [(0, .pointer (some ⟨c, 0, none⟩)), (1, .int .i64 most), (4, .pointer (some ⟨g1, 0, none⟩)), (5, .int .i64 ((i.1 : Nat) : Int)), (6, .pointer (some ⟨v1_g_6_1, 0, none⟩)), (7, .pointer (some ⟨v1_g_7_1, 0, none⟩)), (10, .pointer (some ⟨c, 0, none⟩)), (11, .pointer (some ⟨c, 0, none⟩)), (12, .pointer (some ⟨c, 2, none⟩)), (13, .pointer (some ⟨c, 25, none⟩)), (14, .int .i64 i.2.1.du), (15, .bool (decide (i.2.1.du > 0))), (16, .bool (decide (i.2.1.du > 0))), (28, .bool ((decide (i.2.1.du > 0)) && (decide (i.2.1.st ≥ i.2.1.du)))), (30, .int .i64 ((i.1 : Nat) : Int)), (31, .int .i64 most), (32, .bool (decide (((i.1 : Nat) : Int) ≥ most))), (34, .tuple #[Q.S.val ((Q.step i.2.1 i.2.2).1), .agg #[.int .i64 ((Q.step i.2.1 i.2.2).2.1), .int .u32 ((Q.step i.2.1 i.2.2).2.2.1)]]), (35, .pointer (some ⟨c, 0, none⟩)), (36, .pointer (some ⟨c, 0, none⟩)), (37, .pointer (some ⟨c, 2, none⟩)), (38, Q.S.val i.2.1), (39, .pointer (some ⟨c, 0, none⟩)), (40, .pointer (some ⟨c, 0, none⟩)), (41, .pointer (some ⟨c, 0, none⟩)), (42, .iface 82 (.pointer (some ⟨c, 0, none⟩))), (43, .tuple #[Q.S.val ((Q.step i.2.1 i.2.2).1), .agg #[.int .i64 ((Q.step i.2.1 i.2.2).2.1), .int .u32 ((Q.step i.2.1 i.2.2).2.2.1)]]), (44, Q.S.val ((Q.step i.2.1 i.2.2).1)), (45, .agg #[.int .i64 ((Q.step i.2.1 i.2.2).2.1), .int .u32 ((Q.step i.2.1 i.2.2).2.2.1)])] (A.X w oo aa [M.It c ((Q.step i.2.1 i.2.2).2.2.2) (Q.S.cells i.2.1)]) [(v1_g_6_1, (Q.S.cells ((Q.step i.2.1 i.2.2).1))), (v1_g_7_1, [.int .i64 0, .int .u32 0]), (g1, [.int .i64 0, .int .u32 0])] := by
        intro v1_g_6_1 v1_g_7_1
        refine up _ _ _ _ _ ?_
        refine E.H.all [15] (by kernel_rfl) (by simp) (List.forall_mem_cons.2 ⟨⟨_, rfl, ?_⟩, fun _ h => (List.not_mem_nil h).elim⟩)
        · skip
          refine E.G.store 1 [.int .i64 ((Q.step i.2.1 i.2.2).2.1), .int .u32 ((Q.step i.2.1 i.2.2).2.2.1)] rfl rfl (by kernel_rfl) (by kernel_rfl) ?_
          refine E.H.back (fun w h => A.Y.xc (A.X.y h.x) (k := 0) rfl) ?_
          exact E.H.to _ _ _ (by kernel_rfl) ⟨by kernel_rfl, by kernel_rfl⟩ (List.Sublist.refl _) (dn _ _ _ _ _ (nd4 v1_g_6_1 v1_g_7_1))
      have nd2 : ∀ (v1_g_6_1 : Nat) (v1_g_7_1 : Nat), H 2 (E.bits 16 16383) [(0, .pointer (some ⟨c, 0, none⟩)), (1, .int .i64 most), (4, .pointer (some ⟨g1, 0, none⟩)), (5, .int .i64 ((i.1 : Nat) : Int)), (6, .pointer (some ⟨v1_g_6_1, 0, none⟩)), (7, .pointer (some ⟨v1_g_7_1, 0, none⟩)), (10, .pointer (some ⟨c, 0, none⟩)), (11, .pointer (some ⟨c, 0, none⟩)), (12, .pointer (some ⟨c, 2, none⟩)), (13, .pointer (some ⟨c, 25, none⟩)), (14, .int .i64 i.2.1.du), (15, .bool (decide (i.2.1.du > 0))), (16, .bool (decide (i.2.1.du > 0))), (28, .bool ((decide (i.2.1.du > 0)) && (decide (i.2.1.st ≥ i.2.1.du)))), (30, .int .i64 ((i.1 : Nat) : Int)), (31, .int .i64 most), (32, .bool (decide (((i.1 : Nat) : Int) ≥ most))), (34, .tuple #[Q.S.val ((Q.step i.2.1 i.2.2).1), .agg #[.int .i64 ((Q.step i.2.1 i.2.2).2.1), .int .u32 ((Q.step i.2.1 i.2.2).2.2.1)]]), (35, .pointer (some ⟨c, 0, none⟩)), (36, .pointer (some ⟨c, 0, none⟩)), (37, .pointer (some ⟨c, 2, none⟩)), (38, Q.S.val i.2.1), (39, .pointer (some ⟨c, 0, none⟩)), (40, .pointer (some ⟨c, 0, none⟩)), (41, .pointer (some ⟨c, 0, none⟩)), (42, .iface 82 (.pointer (some ⟨c, 0, none⟩))), (43, .tuple #[Q.S.val ((Q.step i.2.1 i.2.2).1), .agg #[.int .i64 ((Q.step i.2.1 i.2.2).2.1), .int .u32 ((Q.step i.2.1 i.2.2).2.2.1)]]), (44, Q.S.val ((Q.step i.2.1 i.2.2).1)), (45, .agg #[.int .i64 ((Q.step i.2.1 i.2.2).2.1), .int .u32 ((Q.step i.2.1 i.2.2).2.2.1)])] (A.X w oo aa [M.It c ((Q.step i.2.1 i.2.2).2.2.2) (Q.S.cells i.2.1)]) [(v1_g_6_1, (Q.S.cells Q.z0)), (v1_g_7_1, [.int .i64 0, .int .u32 0]), (g1, [.int .i64 0, .int .u32 0])] := by
        intro v1_g_6_1 v1_g_7_1
        refine up _ _ _ _ _ ?_
        refine E.H.all [14] (by kernel_rfl) (by simp) (List.forall_mem_cons.2 ⟨⟨_, rfl, ?_⟩, fun _ h => (List.not_mem_nil h).elim⟩)
        · skip
          refine E.G.store 0 (Q.S.cells ((Q.step i.2.1 i.2.2).1)) rfl rfl (by kernel_rfl) (by kernel_rfl) ?_
          refine E.H.back (fun w h => A.Y.xc (A.X.y h.x) (k := 0) rfl) ?_
          exact E.H.to _ _ _ (by kernel_rfl) ⟨by kernel_rfl, by kernel_rfl⟩ (List.Sublist.refl _) (dn _ _ _ _ _ (nd3 v1_g_6_1 v1_g_7_1))
      have nd1 : ∀ (v1_g_6_1 : Nat), H 3 (E.bits 16 8191) [(0, .pointer (some ⟨c, 0, none⟩)), (1, .int .i64 most), (4, .pointer (some ⟨g1, 0, none⟩)), (5, .int .i64 ((i.1 : Nat) : Int)), (6, .pointer (some ⟨v1_g_6_1, 0, none⟩)), (10, .pointer (some ⟨c, 0, none⟩)), (11, .pointer (some ⟨c, 0, none⟩)), (12, .pointer (some ⟨c, 2, none⟩)), (13, .pointer (some ⟨c, 25, none⟩)), (14, .int .i64 i.2.1.du), (15, .bool (decide (i.2.1.du > 0))), (16, .bool (decide (i.2.1.du > 0))), (28, .bool ((decide (i.2.1.du > 0)) && (decide (i.2.1.st ≥ i.2.1.du)))), (30, .int .i64 ((i.1 : Nat) : Int)), (31, .int .i64 most), (32, .bool (decide (((i.1 : Nat) : Int) ≥ most))), (34, .tuple #[Q.S.val ((Q.step i.2.1 i.2.2).1), .agg #[.int .i64 ((Q.step i.2.1 i.2.2).2.1), .int .u32 ((Q.step i.2.1 i.2.2).2.2.1)]]), (35, .pointer (some ⟨c, 0, none⟩)), (36, .pointer (some ⟨c, 0, none⟩)), (37, .pointer (some ⟨c, 2, none⟩)), (38, Q.S.val i.2.1), (39, .pointer (some ⟨c, 0, none⟩)), (40, .pointer (some ⟨c, 0, none⟩)), (41, .pointer (some ⟨c, 0, none⟩)), (42, .iface 82 (.pointer (some ⟨c, 0, none⟩))), (43, .tuple #[Q.S.val ((Q.step i.2.1 i.2.2).1), .agg #[.int .i64 ((Q.step i.2.1 i.2.2).2.1), .int .u32 ((Q.step i.2.1 i.2.2).2.2.1)]]), (44, Q.S.val ((Q.step i.2.1 i.2.2).1)), (45, .agg #[.int .i64 ((Q.step i.2.1 i.2.2).2.1), .int .u32 ((Q.step i.2.1 i.2.2).2.2.1)])] (A.X w oo aa [M.It c ((Q.step i.2.1 i.2.2).2.2.2) (Q.S.cells i.2.1)]) [(v1_g_6_1, (Q.S.cells Q.z0)), (g1, [.int .i64 0, .int .u32 0])] := by
        intro v1_g_6_1
        refine up _ _ _ _ _ ?_
        refine E.H.all [13] (by kernel_rfl) (by simp) (List.forall_mem_cons.2 ⟨⟨_, rfl, ?_⟩, fun _ h => (List.not_mem_nil h).elim⟩)
        · skip
          refine E.G.new (fun g => .pointer (some ⟨g, 0, none⟩)) [.int .i64 0, .int .u32 0] 51 (fun w => by kernel_rfl) (by kernel_rfl) (fun v1_g_7_1 => ?_)
          refine E.H.back (fun w h => A.Y.xc (A.X.y h.x) (k := 0) rfl) ?_
          exact E.H.toP _ _ [(v1_g_6_1, (Q.S.cells Q.z0)), (v1_g_7_1, [.int .i64 0, .int .u32 0]), (g1, [.int .i64 0, .int .u32 0])] (by kernel_rfl) ⟨by kernel_rfl, by kernel_rfl⟩ (A.pm [1, 0, 2] (by kernel_rfl) (by kernel_rfl)) (dn _ _ _ _ _ (nd2 v1_g_6_1 v1_g_7_1))
      have nd5 : ∀ (v1_g_7_1 : Nat), H 3 (E.bits 16 12287) [(0, .pointer (some ⟨c, 0, none⟩)), (1, .int .i64 most), (4, .pointer (some ⟨g1, 0, none⟩)), (5, .int .i64 ((i.1 : Nat) : Int)), (7, .pointer (some ⟨v1_g_7_1, 0, none⟩)), (10, .pointer (some ⟨c, 0, none⟩)), (11, .pointer (some ⟨c, 0, none⟩)), (12, .pointer (some ⟨c, 2, none⟩)), (13, .pointer (some ⟨c, 25, none⟩)), (14, .int .i64 i.2.1.du), (15, .bool (decide (i.2.1.du > 0))), (16, .bool (decide (i.2.1.du > 0))), (28, .bool ((decide (i.2.1.du > 0)) && (decide (i.2.1.st ≥ i.2.1.du)))), (30, .int .i64 ((i.1 : Nat) : Int)), (31, .int .i64 most), (32, .bool (decide (((i.1 : Nat) : Int) ≥ most))), (34, .tuple #[Q.S.val ((Q.step i.2.1 i.2.2).1), .agg #[.int .i64 ((Q.step i.2.1 i.2.2).2.1), .int .u32 ((Q.step i.2.1 i.2.2).2.2.1)]]), (35, .pointer (some ⟨c, 0, none⟩)), (36, .pointer (some ⟨c, 0, none⟩)), (37, .pointer (some ⟨c, 2, none⟩)), (38, Q.S.val i.2.1), (39, .pointer (some ⟨c, 0, none⟩)), (40, .pointer (some ⟨c, 0, none⟩)), (41, .pointer (some ⟨c, 0, none⟩)), (42, .iface 82 (.pointer (some ⟨c, 0, none⟩))), (43, .tuple #[Q.S.val ((Q.step i.2.1 i.2.2).1), .agg #[.int .i64 ((Q.step i.2.1 i.2.2).2.1), .int .u32 ((Q.step i.2.1 i.2.2).2.2.1)]]), (44, Q.S.val ((Q.step i.2.1 i.2.2).1)), (45, .agg #[.int .i64 ((Q.step i.2.1 i.2.2).2.1), .int .u32 ((Q.step i.2.1 i.2.2).2.2.1)])] (A.X w oo aa [M.It c ((Q.step i.2.1 i.2.2).2.2.2) (Q.S.cells i.2.1)]) [(v1_g_7_1, [.int .i64 0, .int .u32 0]), (g1, [.int .i64 0, .int .u32 0])] := by
        intro v1_g_7_1
        refine up _ _ _ _ _ ?_
        refine E.H.all [12] (by kernel_rfl) (by simp) (List.forall_mem_cons.2 ⟨⟨_, rfl, ?_⟩, fun _ h => (List.not_mem_nil h).elim⟩)
        · skip
          refine E.G.new (fun g => .pointer (some ⟨g, 0, none⟩)) (Q.S.cells Q.z0) 27 (fun w => by kernel_rfl) (by kernel_rfl) (fun v1_g_6_1 => ?_)
          refine E.H.back (fun w h => A.Y.xc (A.X.y h.x) (k := 0) rfl) ?_
          exact E.H.to _ _ _ (by kernel_rfl) ⟨by kernel_rfl, by kernel_rfl⟩ (List.Sublist.refl _) (dn _ _ _ _ _ (nd2 v1_g_6_1 v1_g_7_1))
      have nd0 : H 7 (E.bits 16 511) [(0, .pointer (some ⟨c, 0, none⟩)), (1, .int .i64 most), (4, .pointer (some ⟨g1, 0, none⟩)), (5, .int .i64 ((i.1 : Nat) : Int)), (10, .pointer (some ⟨c, 0, none⟩)), (11, .pointer (some ⟨c, 0, none⟩)), (12, .pointer (some ⟨c, 2, none⟩)), (13, .pointer (some ⟨c, 25, none⟩)), (14, .int .i64 i.2.1.du), (15, .bool (decide (i.2.1.du > 0))), (16, .bool (decide (i.2.1.du > 0))), (28, .bool ((decide (i.2.1.du > 0)) && (decide (i.2.1.st ≥ i.2.1.du)))), (30, .int .i64 ((i.1 : Nat) : Int)), (31, .int .i64 most), (32, .bool (decide (((i.1 : Nat) : Int) ≥ most))), (35, .pointer (some ⟨c, 0, none⟩)), (36, .pointer (some ⟨c, 0, none⟩)), (37, .pointer (some ⟨c, 2, none⟩)), (38, Q.S.val i.2.1), (39, .pointer (some ⟨c, 0, none⟩)), (40, .pointer (some ⟨c, 0, none⟩)), (41, .pointer (some ⟨c, 0, none⟩)), (42, .iface 82 (.pointer (some ⟨c, 0, none⟩))), (43, .tuple #[Q.S.val ((Q.step i.2.1 i.2.2).1), .agg #[.int .i64 ((Q.step i.2.1 i.2.2).2.1), .int .u32 ((Q.step i.2.1 i.2.2).2.2.1)]])] (A.X w oo aa [M.It c ((Q.step i.2.1 i.2.2).2.2.2) (Q.S.cells i.2.1)]) [(g1, [.int .i64 0, .int .u32 0])] := by
        refine up _ _ _ _ _ ?_
        refine E.H.take 9 (.tuple #[Q.S.val ((Q.step i.2.1 i.2.2).1), .agg #[.int .i64 ((Q.step i.2.1 i.2.2).2.1), .int .u32 ((Q.step i.2.1 i.2.2).2.2.1)]]) rfl (by kernel_rfl) (by kernel_rfl) (by kernel_rfl) (fun _ _ _ h => h) (fun w h => A.Y.xc (A.X.y h.x) (k := 0) rfl) (.inl ⟨by kernel_rfl, by kernel_rfl, fun w h => by kernel_rfl⟩) (by kernel_rfl) ?_
        refine E.H.take 10 (Q.S.val ((Q.step i.2.1 i.2.2).1)) rfl (by kernel_rfl) (by kernel_rfl) (by kernel_rfl) (fun _ _ _ h => h) (fun w h => A.Y.xc (A.X.y h.x) (k := 0) rfl) (.inl ⟨by kernel_rfl, by kernel_rfl, fun w h => by kernel_rfl⟩) (by kernel_rfl) ?_
        refine E.H.take 11 (.agg #[.int .i64 ((Q.step i.2.1 i.2.2).2.1), .int .u32 ((Q.step i.2.1 i.2.2).2.2.1)]) rfl (by kernel_rfl) (by kernel_rfl) (by kernel_rfl) (fun _ _ _ h => h) (fun w h => A.Y.xc (A.X.y h.x) (k := 0) rfl) (.inl ⟨by kernel_rfl, by kernel_rfl, fun w h => by kernel_rfl⟩) (by kernel_rfl) ?_
        refine E.H.all [12, 13] (by kernel_rfl) (by simp) (List.forall_mem_cons.2 ⟨⟨_, rfl, ?_⟩, List.forall_mem_cons.2 ⟨⟨_, rfl, ?_⟩, fun _ h => (List.not_mem_nil h).elim⟩⟩)
        · skip
          refine E.G.new (fun g => .pointer (some ⟨g, 0, none⟩)) (Q.S.cells Q.z0) 27 (fun w => by kernel_rfl) (by kernel_rfl) (fun v1_g_6_1 => ?_)
          refine E.H.back (fun w h => A.Y.xc (A.X.y h.x) (k := 0) rfl) ?_
          exact E.H.to _ _ _ (by kernel_rfl) ⟨by kernel_rfl, by kernel_rfl⟩ (List.Sublist.refl _) (dn _ _ _ _ _ (nd1 v1_g_6_1))
        · skip
          refine E.G.new (fun g => .pointer (some ⟨g, 0, none⟩)) [.int .i64 0, .int .u32 0] 51 (fun w => by kernel_rfl) (by kernel_rfl) (fun v1_g_7_1 => ?_)
          refine E.H.back (fun w h => A.Y.xc (A.X.y h.x) (k := 0) rfl) ?_
          exact E.H.to _ _ _ (by kernel_rfl) ⟨by kernel_rfl, by kernel_rfl⟩ (List.Sublist.refl _) (dn _ _ _ _ _ (nd5 v1_g_7_1))
      have nd7 : ∀ (v1_g_6_1 : Nat), H 6 (E.bits 16 4607) [(0, .pointer (some ⟨c, 0, none⟩)), (1, .int .i64 most), (4, .pointer (some ⟨g1, 0, none⟩)), (5, .int .i64 ((i.1 : Nat) : Int)), (6, .pointer (some ⟨v1_g_6_1, 0, none⟩)), (10, .pointer (some ⟨c, 0, none⟩)), (11, .pointer (some ⟨c, 0, none⟩)), (12, .pointer (some ⟨c, 2, none⟩)), (13, .pointer (some ⟨c, 25, none⟩)), (14, .int .i64 i.2.1.du), (15, .bool (decide (i.2.1.du > 0))), (16, .bool (decide (i.2.1.du > 0))), (28, .bool ((decide (i.2.1.du > 0)) && (decide (i.2.1.st ≥ i.2.1.du)))), (30, .int .i64 ((i.1 : Nat) : Int)), (31, .int .i64 most), (32, .bool (decide (((i.1 : Nat) : Int) ≥ most))), (35, .pointer (some ⟨c, 0, none⟩)), (36, .pointer (some ⟨c, 0, none⟩)), (37, .pointer (some ⟨c, 2, none⟩)), (38, Q.S.val i.2.1), (39, .pointer (some ⟨c, 0, none⟩)), (40, .pointer (some ⟨c, 0, none⟩)), (41, .pointer (some ⟨c, 0, none⟩)), (42, .iface 82 (.pointer (some ⟨c, 0, none⟩))), (43, .tuple #[Q.S.val ((Q.step i.2.1 i.2.2).1), .agg #[.int .i64 ((Q.step i.2.1 i.2.2).2.1), .int .u32 ((Q.step i.2.1 i.2.2).2.2.1)]])] (A.X w oo aa [M.It c ((Q.step i.2.1 i.2.2).2.2.2) (Q.S.cells i.2.1)]) [(v1_g_6_1, (Q.S.cells Q.z0)), (g1, [.int .i64 0, .int .u32 0])] := by
        intro v1_g_6_1
        refine up _ _ _ _ _ ?_
        refine E.H.take 9 (.tuple #[Q.S.val ((Q.step i.2.1 i.2.2).1), .agg #[.int .i64 ((Q.step i.2.1 i.2.2).2.1), .int .u32 ((Q.step i.2.1 i.2.2).2.2.1)]]) rfl (by kernel_rfl) (by kernel_rfl) (by kernel_rfl) (fun _ _ _ h => h) (fun w h => A.Y.xc (A.X.y h.x) (k := 0) rfl) (.inl ⟨by kernel_rfl, by kernel_rfl, fun w h => by kernel_rfl⟩) (by kernel_rfl) ?_
        refine E.H.take 10 (Q.S.val ((Q.step i.2.1 i.2.2).1)) rfl (by kernel_rfl) (by kernel_rfl) (by kernel_rfl) (fun _ _ _ h => h) (fun w h => A.Y.xc (A.X.y h.x) (k := 0) rfl) (.inl ⟨by kernel_rfl, by kernel_rfl, fun w h => by kernel_rfl⟩) (by kernel_rfl) ?_
        refine E.H.take 11 (.agg #[.int .i64 ((Q.step i.2.1 i.2.2).2.1), .int .u32 ((Q.step i.2.1 i.2.2).2.2.1)]) rfl (by kernel_rfl) (by kernel_rfl) (by kernel_rfl) (fun _ _ _ h => h) (fun w h => A.Y.xc (A.X.y h.x) (k := 0) rfl) (.inl ⟨by kernel_rfl, by kernel_rfl, fun w h => by kernel_rfl⟩) (by kernel_rfl) ?_
        refine E.H.all [13] (by kernel_rfl) (by simp) (List.forall_mem_cons.2 ⟨⟨_, rfl, ?_⟩, fun _ h => (List.not_mem_nil h).elim⟩)
        · skip
          refine E.G.new (fun g => .pointer (some ⟨g, 0, none⟩)) [.int .i64 0, .int .u32 0] 51 (fun w => by kernel_rfl) (by kernel_rfl) (fun v1_g_7_1 => ?_)
          refine E.H.back (fun w h => A.Y.xc (A.X.y h.x) (k := 0) rfl) ?_
          exact E.H.toP _ _ [(v1_g_6_1, (Q.S.cells Q.z0)), (v1_g_7_1, [.int .i64 0, .int .u32 0]), (g1, [.int .i64 0, .int .u32 0])] (by kernel_rfl) ⟨by kernel_rfl, by kernel_rfl⟩ (A.pm [1, 0, 2] (by kernel_rfl) (by kernel_rfl)) (dn _ _ _ _ _ (nd2 v1_g_6_1 v1_g_7_1))
      have nd9 : ∀ (v1_g_6_1 : Nat) (v1_g_7_1 : Nat), H 5 (E.bits 16 12799) [(0, .pointer (some ⟨c, 0, none⟩)), (1, .int .i64 most), (4, .pointer (some ⟨g1, 0, none⟩)), (5, .int .i64 ((i.1 : Nat) : Int)), (6, .pointer (some ⟨v1_g_6_1, 0, none⟩)), (7, .pointer (some ⟨v1_g_7_1, 0, none⟩)), (10, .pointer (some ⟨c, 0, none⟩)), (11, .pointer (some ⟨c, 0, none⟩)), (12, .pointer (some ⟨c, 2, none⟩)), (13, .pointer (some ⟨c, 25, none⟩)), (14, .int .i64 i.2.1.du), (15, .bool (decide (i.2.1.du > 0))), (16, .bool (decide (i.2.1.du > 0))), (28, .bool ((decide (i.2.1.du > 0)) && (decide (i.2.1.st ≥ i.2.1.du)))), (30, .int .i64 ((i.1 : Nat) : Int)), (31, .int .i64 most), (32, .bool (decide (((i.1 : Nat) : Int) ≥ most))), (35, .pointer (some ⟨c, 0, none⟩)), (36, .pointer (some ⟨c, 0, none⟩)), (37, .pointer (some ⟨c, 2, none⟩)), (38, Q.S.val i.2.1), (39, .pointer (some ⟨c, 0, none⟩)), (40, .pointer (some ⟨c, 0, none⟩)), (41, .pointer (some ⟨c, 0, none⟩)), (42, .iface 82 (.pointer (some ⟨c, 0, none⟩))), (43, .tuple #[Q.S.val ((Q.step i.2.1 i.2.2).1), .agg #[.int .i64 ((Q.step i.2.1 i.2.2).2.1), .int .u32 ((Q.step i.2.1 i.2.2).2.2.1)]])] (A.X w oo aa [M.It c ((Q.step i.2.1 i.2.2).2.2.2) (Q.S.cells i.2.1)]) [(v1_g_6_1, (Q.S.cells Q.z0)), (v1_g_7_1, [.int .i64 0, .int .u32 0]), (g1, [.int .i64 0, .int .u32 0])] := by
        intro v1_g_6_1 v1_g_7_1
        refine up _ _ _ _ _ ?_
        refine E.H.take 9 (.tuple #[Q.S.val ((Q.step i.2.1 i.2.2).1), .agg #[.int .i64 ((Q.step i.2.1 i.2.2).2.1), .int .u32 ((Q.step i.2.1 i.2.2).2.2.1)]]) rfl (by kernel_rfl) (by kernel_rfl) (by kernel_rfl) (fun _ _ _ h => h) (fun w h => A.Y.xc (A.X.y h.x) (k := 0) rfl) (.inl ⟨by kernel_rfl, by kernel_rfl, fun w h => by kernel_rfl⟩) (by kernel_rfl) ?_
        refine E.H.take 10 (Q.S.val ((Q.step i.2.1 i.2.2).1)) rfl (by kernel_rfl) (by kernel_rfl) (by kernel_rfl) (fun _ _ _ h => h) (fun w h => A.Y.xc (A.X.y h.x) (k := 0) rfl) (.inl ⟨by kernel_rfl, by kernel_rfl, fun w h => by kernel_rfl⟩) (by kernel_rfl) ?_
        refine E.H.take 11 (.agg #[.int .i64 ((Q.step i.2.1 i.2.2).2.1), .int .u32 ((Q.step i.2.1 i.2.2).2.2.1)]) rfl (by kernel_rfl) (by kernel_rfl) (by kernel_rfl) (fun _ _ _ h => h) (fun w h => A.Y.xc (A.X.y h.x) (k := 0) rfl) (.inl ⟨by kernel_rfl, by kernel_rfl, fun w h => by kernel_rfl⟩) (by kernel_rfl) ?_
        refine E.H.all [14] (by kernel_rfl) (by simp) (List.forall_mem_cons.2 ⟨⟨_, rfl, ?_⟩, fun _ h => (List.not_mem_nil h).elim⟩)
        · skip
          refine E.G.store 0 (Q.S.cells ((Q.step i.2.1 i.2.2).1)) rfl rfl (by kernel_rfl) (by kernel_rfl) ?_
          refine E.H.back (fun w h => A.Y.xc (A.X.y h.x) (k := 0) rfl) ?_
          exact E.H.to _ _ _ (by kernel_rfl) ⟨by kernel_rfl, by kernel_rfl⟩ (List.Sublist.refl _) (dn _ _ _ _ _ (nd3 v1_g_6_1 v1_g_7_1))
      have nd8 : ∀ (v1_g_6_1 : Nat) (v1_g_7_1 : Nat), H 6 (E.bits 16 12543) [(0, .pointer (some ⟨c, 0, none⟩)), (1, .int .i64 most), (4, .pointer (some ⟨g1, 0, none⟩)), (5, .int .i64 ((i.1 : Nat) : Int)), (6, .pointer (some ⟨v1_g_6_1, 0, none⟩)), (7, .pointer (some ⟨v1_g_7_1, 0, none⟩)), (10, .pointer (some ⟨c, 0, none⟩)), (11, .pointer (some ⟨c, 0, none⟩)), (12, .pointer (some ⟨c, 2, none⟩)), (13, .pointer (some ⟨c, 25, none⟩)), (14, .int .i64 i.2.1.du), (15, .bool (decide (i.2.1.du > 0))), (16, .bool (decide (i.2.1.du > 0))), (28, .bool ((decide (i.2.1.du > 0)) && (decide (i.2.1.st ≥ i.2.1.du)))), (30, .int .i64 ((i.1 : Nat) : Int)), (31, .int .i64 most), (32, .bool (decide (((i.1 : Nat) : Int) ≥ most))), (35, .pointer (some ⟨c, 0, none⟩)), (36, .pointer (some ⟨c, 0, none⟩)), (37, .pointer (some ⟨c, 2, none⟩)), (38, Q.S.val i.2.1), (39, .pointer (some ⟨c, 0, none⟩)), (40, .pointer (some ⟨c, 0, none⟩)), (41, .pointer (some ⟨c, 0, none⟩)), (42, .iface 82 (.pointer (some ⟨c, 0, none⟩)))] (A.X w oo aa [M.It c i.2.2 (Q.S.cells i.2.1)]) [(v1_g_6_1, (Q.S.cells Q.z0)), (v1_g_7_1, [.int .i64 0, .int .u32 0]), (g1, [.int .i64 0, .int .u32 0])] := by
        intro v1_g_6_1 v1_g_7_1
        refine up _ _ _ _ _ ?_
        refine E.H.all [8] (by kernel_rfl) (by simp) (List.forall_mem_cons.2 ⟨⟨_, rfl, ?_⟩, fun _ h => (List.not_mem_nil h).elim⟩)
        · skip
          refine A.G.call (I := Unit) (D := fun _ => True) (V := fun _ => .tuple #[Q.S.val ((Q.step i.2.1 i.2.2).1), .agg #[.int .i64 ((Q.step i.2.1 i.2.2).2.1), .int .u32 ((Q.step i.2.1 i.2.2).2.2.1)]]) (q := fun _ => [M.It c ((Q.step i.2.1 i.2.2).2.2.2) (Q.S.cells i.2.1)]) [A.blk v1_g_6_1 (Q.S.cells Q.z0), A.blk v1_g_7_1 ([.int .i64 0, .int .u32 0]), A.blk g1 ([.int .i64 0, .int .u32 0])] (fun _ => [(v1_g_6_1, (Q.S.cells Q.z0)), (v1_g_7_1, [.int .i64 0, .int .u32 0]), (g1, [.int .i64 0, .int .u32 0])]) (fun _ => [M.It c ((Q.step i.2.1 i.2.2).2.2.2) (Q.S.cells i.2.1)]) (Step_any (m := c) (xs := (Q.S.cells i.2.1)) i.2.1 i.2.2 hk1.2.1) (by kernel_rfl) (A.pm [3, 0, 1, 2] (by kernel_rfl) (by kernel_rfl)) (fun _ => A.pm [1, 2, 3, 0] (by kernel_rfl) (by kernel_rfl)) (fun w _ => by kernel_rfl) (by kernel_rfl) (fun _ v1_hd_43_1 => ?_)
          refine E.H.back (fun w h => A.Y.xc (A.X.y h.x) (k := 0) rfl) ?_
          exact E.H.to _ _ _ (by kernel_rfl) ⟨by kernel_rfl, by kernel_rfl⟩ (List.Sublist.refl _) (dn _ _ _ _ _ (nd9 v1_g_6_1 v1_g_7_1))
      have nd6 : ∀ (v1_g_6_1 : Nat), H 7 (E.bits 16 4351) [(0, .pointer (some ⟨c, 0, none⟩)), (1, .int .i64 most), (4, .pointer (some ⟨g1, 0, none⟩)), (5, .int .i64 ((i.1 : Nat) : Int)), (6, .pointer (some ⟨v1_g_6_1, 0, none⟩)), (10, .pointer (some ⟨c, 0, none⟩)), (11, .pointer (some ⟨c, 0, none⟩)), (12, .pointer (some ⟨c, 2, none⟩)), (13, .pointer (some ⟨c, 25, none⟩)), (14, .int .i64 i.2.1.du), (15, .bool (decide (i.2.1.du > 0))), (16, .bool (decide (i.2.1.du > 0))), (28, .bool ((decide (i.2.1.du > 0)) && (decide (i.2.1.st ≥ i.2.1.du)))), (30, .int .i64 ((i.1 : Nat) : Int)), (31, .int .i64 most), (32, .bool (decide (((i.1 : Nat) : Int) ≥ most))), (35, .pointer (some ⟨c, 0, none⟩)), (36, .pointer (some ⟨c, 0, none⟩)), (37, .pointer (some ⟨c, 2, none⟩)), (38, Q.S.val i.2.1), (39, .pointer (some ⟨c, 0, none⟩)), (40, .pointer (some ⟨c, 0, none⟩)), (41, .pointer (some ⟨c, 0, none⟩)), (42, .iface 82 (.pointer (some ⟨c, 0, none⟩)))] (A.X w oo aa [M.It c i.2.2 (Q.S.cells i.2.1)]) [(v1_g_6_1, (Q.S.cells Q.z0)), (g1, [.int .i64 0, .int .u32 0])] := by
        intro v1_g_6_1
        refine up _ _ _ _ _ ?_
        refine E.H.all [8, 13] (by kernel_rfl) (by simp) (List.forall_mem_cons.2 ⟨⟨_, rfl, ?_⟩, List.forall_mem_cons.2 ⟨⟨_, rfl, ?_⟩, fun _ h => (List.not_mem_nil h).elim⟩⟩)
        · skip
          refine A.G.call (I := Unit) (D := fun _ => True) (V := fun _ => .tuple #[Q.S.val ((Q.step i.2.1 i.2.2).1), .agg #[.int .i64 ((Q.step i.2.1 i.2.2).2.1), .int .u32 ((Q.step i.2.1 i.2.2).2.2.1)]]) (q := fun _ => [M.It c ((Q.step i.2.1 i.2.2).2.2.2) (Q.S.cells i.2.1)]) [A.blk v1_g_6_1 (Q.S.cells Q.z0), A.blk g1 ([.int .i64 0, .int .u32 0])] (fun _ => [(v1_g_6_1, (Q.S.cells Q.z0)), (g1, [.int .i64 0, .int .u32 0])]) (fun _ => [M.It c ((Q.step i.2.1 i.2.2).2.2.2) (Q.S.cells i.2.1)]) (Step_any (m := c) (xs := (Q.S.cells i.2.1)) i.2.1 i.2.2 hk1.2.1) (by kernel_rfl) (A.pm [2, 0, 1] (by kernel_rfl) (by kernel_rfl)) (fun _ => A.pm [1, 2, 0] (by kernel_rfl) (by kernel_rfl)) (fun w _ => by kernel_rfl) (by kernel_rfl) (fun _ v1_hd_43_1 => ?_)
          refine E.H.back (fun w h => A.Y.xc (A.X.y h.x) (k := 0) rfl) ?_
          exact E.H.to _ _ _ (by kernel_rfl) ⟨by kernel_rfl, by kernel_rfl⟩ (List.Sublist.refl _) (dn _ _ _ _ _ (nd7 v1_g_6_1))
        · skip
          refine E.G.new (fun g => .pointer (some ⟨g, 0, none⟩)) [.int .i64 0, .int .u32 0] 51 (fun w => by kernel_rfl) (by kernel_rfl) (fun v1_g_7_1 => ?_)
          refine E.H.back (fun w h => A.Y.xc (A.X.y h.x) (k := 0) rfl) ?_
          exact E.H.toP _ _ [(v1_g_6_1, (Q.S.cells Q.z0)), (v1_g_7_1, [.int .i64 0, .int .u32 0]), (g1, [.int .i64 0, .int .u32 0])] (by kernel_rfl) ⟨by kernel_rfl, by kernel_rfl⟩ (A.pm [1, 0, 2] (by kernel_rfl) (by kernel_rfl)) (dn _ _ _ _ _ (nd8 v1_g_6_1 v1_g_7_1))
      have nd11 : ∀ (v1_g_7_1 : Nat), H 6 (E.bits 16 8703) [(0, .pointer (some ⟨c, 0, none⟩)), (1, .int .i64 most), (4, .pointer (some ⟨g1, 0, none⟩)), (5, .int .i64 ((i.1 : Nat) : Int)), (7, .pointer (some ⟨v1_g_7_1, 0, none⟩)), (10, .pointer (some ⟨c, 0, none⟩)), (11, .pointer (some ⟨c, 0, none⟩)), (12, .pointer (some ⟨c, 2, none⟩)), (13, .pointer (some ⟨c, 25, none⟩)), (14, .int .i64 i.2.1.du), (15, .bool (decide (i.2.1.du > 0))), (16, .bool (decide (i.2.1.du > 0))), (28, .bool ((decide (i.2.1.du > 0)) && (decide (i.2.1.st ≥ i.2.1.du)))), (30, .int .i64 ((i.1 : Nat) : Int)), (31, .int .i64 most), (32, .bool (decide (((i.1 : Nat) : Int) ≥ most))), (35, .pointer (some ⟨c, 0, none⟩)), (36, .pointer (some ⟨c, 0, none⟩)), (37, .pointer (some ⟨c, 2, none⟩)), (38, Q.S.val i.2.1), (39, .pointer (some ⟨c, 0, none⟩)), (40, .pointer (some ⟨c, 0, none⟩)), (41, .pointer (some ⟨c, 0, none⟩)), (42, .iface 82 (.pointer (some ⟨c, 0, none⟩))), (43, .tuple #[Q.S.val ((Q.step i.2.1 i.2.2).1), .agg #[.int .i64 ((Q.step i.2.1 i.2.2).2.1), .int .u32 ((Q.step i.2.1 i.2.2).2.2.1)]])] (A.X w oo aa [M.It c ((Q.step i.2.1 i.2.2).2.2.2) (Q.S.cells i.2.1)]) [(v1_g_7_1, [.int .i64 0, .int .u32 0]), (g1, [.int .i64 0, .int .u32 0])] := by
        intro v1_g_7_1
        refine up _ _ _ _ _ ?_
        refine E.H.take 9 (.tuple #[Q.S.val ((Q.step i.2.1 i.2.2).1), .agg #[.int .i64 ((Q.step i.2.1 i.2.2).2.1), .int .u32 ((Q.step i.2.1 i.2.2).2.2.1)]]) rfl (by kernel_rfl) (by kernel_rfl) (by kernel_rfl) (fun _ _ _ h => h) (fun w h => A.Y.xc (A.X.y h.x) (k := 0) rfl) (.inl ⟨by kernel_rfl, by kernel_rfl, fun w h => by kernel_rfl⟩) (by kernel_rfl) ?_
        refine E.H.take 10 (Q.S.val ((Q.step i.2.1 i.2.2).1)) rfl (by kernel_rfl) (by kernel_rfl) (by kernel_rfl) (fun _ _ _ h => h) (fun w h => A.Y.xc (A.X.y h.x) (k := 0) rfl) (.inl ⟨by kernel_rfl, by kernel_rfl, fun w h => by kernel_rfl⟩) (by kernel_rfl) ?_
        refine E.H.take 11 (.agg #[.int .i64 ((Q.step i.2.1 i.2.2).2.1), .int .u32 ((Q.step i.2.1 i.2.2).2.2.1)]) rfl (by kernel_rfl) (by kernel_rfl) (by kernel_rfl) (fun _ _ _ h => h) (fun w h => A.Y.xc (A.X.y h.x) (k := 0) rfl) (.inl ⟨by kernel_rfl, by kernel_rfl, fun w h => by kernel_rfl⟩) (by kernel_rfl) ?_
        refine E.H.all [12] (by kernel_rfl) (by simp) (List.forall_mem_cons.2 ⟨⟨_, rfl, ?_⟩, fun _ h => (List.not_mem_nil h).elim⟩)
        · skip
          refine E.G.new (fun g => .pointer (some ⟨g, 0, none⟩)) (Q.S.cells Q.z0) 27 (fun w => by kernel_rfl) (by kernel_rfl) (fun v1_g_6_1 => ?_)
          refine E.H.back (fun w h => A.Y.xc (A.X.y h.x) (k := 0) rfl) ?_
          exact E.H.to _ _ _ (by kernel_rfl) ⟨by kernel_rfl, by kernel_rfl⟩ (List.Sublist.refl _) (dn _ _ _ _ _ (nd2 v1_g_6_1 v1_g_7_1))
      have nd10 : ∀ (v1_g_7_1 : Nat), H 7 (E.bits 16 8447) [(0, .pointer (some ⟨c, 0, none⟩)), (1, .int .i64 most), (4, .pointer (some ⟨g1, 0, none⟩)), (5, .int .i64 ((i.1 : Nat) : Int)), (7, .pointer (some ⟨v1_g_7_1, 0, none⟩)), (10, .pointer (some ⟨c, 0, none⟩)), (11, .pointer (some ⟨c, 0, none⟩)), (12, .pointer (some ⟨c, 2, none⟩)), (13, .pointer (some ⟨c, 25, none⟩)), (14, .int .i64 i.2.1.du), (15, .bool (decide (i.2.1.du > 0))), (16, .bool (decide (i.2.1.du > 0))), (28, .bool ((decide (i.2.1.du > 0)) && (decide (i.2.1.st ≥ i.2.1.du)))), (30, .int .i64 ((i.1 : Nat) : Int)), (31, .int .i64 most), (32, .bool (decide (((i.1 : Nat) : Int) ≥ most))), (35, .pointer (some ⟨c, 0, none⟩)), (36, .pointer (some ⟨c, 0, none⟩)), (37, .pointer (some ⟨c, 2, none⟩)), (38, Q.S.val i.2.1), (39, .pointer (some ⟨c, 0, none⟩)), (40, .pointer (some ⟨c, 0, none⟩)), (41, .pointer (some ⟨c, 0, none⟩)), (42, .iface 82 (.pointer (some ⟨c, 0, none⟩)))] (A.X w oo aa [M.It c i.2.2 (Q.S.cells i.2.1)]) [(v1_g_7_1, [.int .i64 0, .int .u32 0]), (g1, [.int .i64 0, .int .u32 0])] := by
        intro v1_g_7_1
        refine up _ _ _ _ _ ?_
        refine E.H.all [8, 12] (by kernel_rfl) (by simp) (List.forall_mem_cons.2 ⟨⟨_, rfl, ?_⟩, List.forall_mem_cons.2 ⟨⟨_, rfl, ?_⟩, fun _ h => (List.not_mem_nil h).elim⟩⟩)
        · skip
          refine A.G.call (I := Unit) (D := fun _ => True) (V := fun _ => .tuple #[Q.S.val ((Q.step i.2.1 i.2.2).1), .agg #[.int .i64 ((Q.step i.2.1 i.2.2).2.1), .int .u32 ((Q.step i.2.1 i.2.2).2.2.1)]]) (q := fun _ => [M.It c ((Q.step i.2.1 i.2.2).2.2.2) (Q.S.cells i.2.1)]) [A.blk v1_g_7_1 ([.int .i64 0, .int .u32 0]), A.blk g1 ([.int .i64 0, .int .u32 0])] (fun _ => [(v1_g_7_1, [.int .i64 0, .int .u32 0]), (g1, [.int .i64 0, .int .u32 0])]) (fun _ => [M.It c ((Q.step i.2.1 i.2.2).2.2.2) (Q.S.cells i.2.1)]) (Step_any (m := c) (xs := (Q.S.cells i.2.1)) i.2.1 i.2.2 hk1.2.1) (by kernel_rfl) (A.pm [2, 0, 1] (by kernel_rfl) (by kernel_rfl)) (fun _ => A.pm [1, 2, 0] (by kernel_rfl) (by kernel_rfl)) (fun w _ => by kernel_rfl) (by kernel_rfl) (fun _ v1_hd_43_1 => ?_)
          refine E.H.back (fun w h => A.Y.xc (A.X.y h.x) (k := 0) rfl) ?_
          exact E.H.to _ _ _ (by kernel_rfl) ⟨by kernel_rfl, by kernel_rfl⟩ (List.Sublist.refl _) (dn _ _ _ _ _ (nd11 v1_g_7_1))
        · skip
          refine E.G.new (fun g => .pointer (some ⟨g, 0, none⟩)) (Q.S.cells Q.z0) 27 (fun w => by kernel_rfl) (by kernel_rfl) (fun v1_g_6_1 => ?_)
          refine E.H.back (fun w h => A.Y.xc (A.X.y h.x) (k := 0) rfl) ?_
          exact E.H.to _ _ _ (by kernel_rfl) ⟨by kernel_rfl, by kernel_rfl⟩ (List.Sublist.refl _) (dn _ _ _ _ _ (nd8 v1_g_6_1 v1_g_7_1))
      refine up _ _ _ _ _ ?_
      refine E.H.take 0 (.pointer (some ⟨c, 0, none⟩)) rfl (by kernel_rfl) (by kernel_rfl) (by kernel_rfl) (fun _ _ _ h => h) (fun w h => A.Y.xc (A.X.y h.x) (k := 0) rfl) (.inl ⟨by kernel_rfl, by kernel_rfl, fun w h => by kernel_rfl⟩) (by kernel_rfl) ?_
      refine E.H.take 1 (.pointer (some ⟨c, 0, none⟩)) rfl (by kernel_rfl) (by kernel_rfl) (by kernel_rfl) (fun _ _ _ h => h) (fun w h => A.Y.xc (A.X.y h.x) (k := 0) rfl) (.inl ⟨by kernel_rfl, by kernel_rfl, fun w h => by kernel_rfl⟩) (by kernel_rfl) ?_
      refine E.H.take 2 (.pointer (some ⟨c, 2, none⟩)) rfl (by kernel_rfl) (by kernel_rfl) (by kernel_rfl) (fun _ _ _ h => h) (fun w h => A.Y.xc (A.X.y h.x) (k := 0) rfl) (.inl ⟨by kernel_rfl, by kernel_rfl, fun w h => by kernel_rfl⟩) (by kernel_rfl) ?_
      refine E.H.take 3 (Q.S.val i.2.1) rfl (by kernel_rfl) (by kernel_rfl) (by kernel_rfl) (fun _ _ _ h => h) (fun w h => A.Y.xc (A.X.y h.x) (k := 0) rfl) (.inl ⟨by kernel_rfl, by kernel_rfl, fun w h => M.Xc.ld (j := 0) h (by kernel_rfl) (by kernel_rfl)⟩) (by kernel_rfl) ?_
      refine E.H.take 4 (.pointer (some ⟨c, 0, none⟩)) rfl (by kernel_rfl) (by kernel_rfl) (by kernel_rfl) (fun _ _ _ h => h) (fun w h => A.Y.xc (A.X.y h.x) (k := 0) rfl) (.inl ⟨by kernel_rfl, by kernel_rfl, fun w h => by kernel_rfl⟩) (by kernel_rfl) ?_
      refine E.H.take 5 (.pointer (some ⟨c, 0, none⟩)) rfl (by kernel_rfl) (by kernel_rfl) (by kernel_rfl) (fun _ _ _ h => h) (fun w h => A.Y.xc (A.X.y h.x) (k := 0) rfl) (.inl ⟨by kernel_rfl, by kernel_rfl, fun w h => by kernel_rfl⟩) (by kernel_rfl) ?_
      refine E.H.take 6 (.pointer (some ⟨c, 0, none⟩)) rfl (by kernel_rfl) (by kernel_rfl) (by kernel_rfl) (fun _ _ _ h => h) (fun w h => A.Y.xc (A.X.y h.x) (k := 0) rfl) (.inl ⟨by kernel_rfl, by kernel_rfl, fun w h => by kernel_rfl⟩) (by kernel_rfl) ?_
      refine E.H.take 7 (.iface 82 (.pointer (some ⟨c, 0, none⟩))) rfl (by kernel_rfl) (by kernel_rfl) (by kernel_rfl) (fun _ _ _ h => h) (fun w h => A.Y.xc (A.X.y h.x) (k := 0) rfl) (.inl ⟨by kernel_rfl, by kernel_rfl, fun w h => by kernel_rfl⟩) (by kernel_rfl) ?_
      refine E.H.all [8, 12, 13] (by kernel_rfl) (by simp) (List.forall_mem_cons.2 ⟨⟨_, rfl, ?_⟩, List.forall_mem_cons.2 ⟨⟨_, rfl, ?_⟩, List.forall_mem_cons.2 ⟨⟨_, rfl, ?_⟩, fun _ h => (List.not_mem_nil h).elim⟩⟩⟩)
      · skip
        refine A.G.call (I := Unit) (D := fun _ => True) (V := fun _ => .tuple #[Q.S.val ((Q.step i.2.1 i.2.2).1), .agg #[.int .i64 ((Q.step i.2.1 i.2.2).2.1), .int .u32 ((Q.step i.2.1 i.2.2).2.2.1)]]) (q := fun _ => [M.It c ((Q.step i.2.1 i.2.2).2.2.2) (Q.S.cells i.2.1)]) [A.blk g1 ([.int .i64 0, .int .u32 0])] (fun _ => [(g1, [.int .i64 0, .int .u32 0])]) (fun _ => [M.It c ((Q.step i.2.1 i.2.2).2.2.2) (Q.S.cells i.2.1)]) (Step_any (m := c) (xs := (Q.S.cells i.2.1)) i.2.1 i.2.2 hk1.2.1) (by kernel_rfl) (A.pm [1, 0] (by kernel_rfl) (by kernel_rfl)) (fun _ => A.pm [1, 0] (by kernel_rfl) (by kernel_rfl)) (fun w _ => by kernel_rfl) (by kernel_rfl) (fun _ v1_hd_43_1 => ?_)
        refine E.H.back (fun w h => A.Y.xc (A.X.y h.x) (k := 0) rfl) ?_
        exact E.H.to _ _ _ (by kernel_rfl) ⟨by kernel_rfl, by kernel_rfl⟩ (List.Sublist.refl _) (dn _ _ _ _ _ (nd0))
      · skip
        refine E.G.new (fun g => .pointer (some ⟨g, 0, none⟩)) (Q.S.cells Q.z0) 27 (fun w => by kernel_rfl) (by kernel_rfl) (fun v1_g_6_1 => ?_)
        refine E.H.back (fun w h => A.Y.xc (A.X.y h.x) (k := 0) rfl) ?_
        exact E.H.to _ _ _ (by kernel_rfl) ⟨by kernel_rfl, by kernel_rfl⟩ (List.Sublist.refl _) (dn _ _ _ _ _ (nd6 v1_g_6_1))
      · skip
        refine E.G.new (fun g => .pointer (some ⟨g, 0, none⟩)) [.int .i64 0, .int .u32 0] 51 (fun w => by kernel_rfl) (by kernel_rfl) (fun v1_g_7_1 => ?_)
        refine E.H.back (fun w h => A.Y.xc (A.X.y h.x) (k := 0) rfl) ?_
        exact E.H.to _ _ _ (by kernel_rfl) ⟨by kernel_rfl, by kernel_rfl⟩ (List.Sublist.refl _) (dn _ _ _ _ _ (nd10 v1_g_7_1))
end Go.Proofs.Ytgbndbljohpnmaa

/- XQn -/
namespace Go.Proofs.Ytgbndbljohpnmaa
set_option linter.unusedVariables false
set_option linter.unusedSimpArgs false
open Go.RowKit
/-- A format of the reference. -/
structure Q3.Fm where
  is : Bool
  d : Bool
  a : Bool
  b : Bool
  sg : Bool
  bits : Nat
  most : Int
section
variable {P : Program} {fr : E.Fr} {T : TypeId} {d : Option Nat} {pos : String} {af : Array Edge} {gd : Option (Nat × Bool)}
theorem E.remI {t u : TypeId} {x y : Operand} {k : IntKind} (a b : Int) (hx : E.ev fr x = .int k a) (hy : E.ev fr y = .int k b) (hb : b ≠ 0) (w : World) :
    (execOp (E.ev fr) ⟨d, .binOp .rem t x y u, T, pos, af, gd⟩).run P w = .ok (.value (.int k (Int.tmod a b))) w := by
  show (do let r ← (do eqGuard .rem t x y (E.ev fr x) (E.ev fr y); binOp .rem t (E.ev fr x) (E.ev fr y)); pure (Next.value r) : Sem Next).run P w = _
  rw [hx, hy]
  simp [eqGuard, binOp, Op.intDiv, hb]
end
theorem Q.mod_eq (n m : Int) (hn : -9223372036854775808 ≤ n ∧ n < 9223372036854775808) (hm : 0 < m ∧ m < 4611686018427387904) : Int.tmod (IntKind.wrap .i64 (Int.tmod n m + m)) m = n % m := by
  have h1 : -m < Int.tmod n m := Int.lt_tmod_of_pos n hm.1
  have h2 : Int.tmod n m < m := Int.tmod_lt_of_pos n hm.1
  rw [IntWalk.i64_in _ (by omega), Int.tmod_eq_emod_of_nonneg (by omega), Int.add_emod_right]
  by_cases h : 0 ≤ n
  · rw [Int.tmod_eq_emod_of_nonneg h, Int.emod_emod]
  · have e := Int.tmod_def n m
    have := Int.emod_emod_of_dvd n (Int.dvd_refl m)
    rw [e, Int.sub_emod, Int.mul_emod_right, Int.sub_zero, Int.emod_emod]
theorem Q.callAs {P : Program} {f : FuncId} {args : Array Value} {w : World} {v v' : Value} (h : Calls P f args w fun e w' => e = .returned v ∧ Bel w w') (e : v = v') : Calls P f args w fun e w' => e = .returned v' ∧ Bel w w' := e ▸ h
theorem Q.w64u {n : Nat} (h : n < 64) : IntKind.wrap .u64 ((n : Nat) : Int) = ((n : Nat) : Int) := by
  show ((n : Nat) : Int) % 18446744073709551616 = _
  omega
def Q3.modr (n m : Int) : Int := (Int.tmod (IntKind.wrap .i64 ((Int.tmod n m) + m)) m)
theorem mod_raw (n m : Int) (hm : 0 < m ∧ m < 4611686018427387904) (w : World) : Calls Try.prog 21 #[.int .i64 n, .int .i64 m] w fun e w' => e = .returned (.int .i64 (Q3.modr n m)) ∧ Bel w w' := by
  refine E.enter (n := 12) (S := fun _ => False) Try.func21 rfl rfl (by kernel_rfl) (E.Hp.start w) ?_
  refine E.sr ?_
  refine E.op (.int .i64 0) ?_
  refine E.tr ?_
  refine E.op (.int .i64 n) ?_
  refine E.op (.int .i64 m) ?_
  refine E.G.val (.int .i64 (Int.tmod n m)) (by kernel_rfl) (fun w h => E.remI n m (by kernel_rfl) (by kernel_rfl) (by omega) w) ?_
  refine E.op (.int .i64 m) ?_
  refine E.op (.int .i64 (IntKind.wrap .i64 ((Int.tmod n m) + m))) ?_
  refine E.op (.int .i64 m) ?_
  refine E.G.val (.int .i64 (Int.tmod (IntKind.wrap .i64 ((Int.tmod n m) + m)) m)) (by kernel_rfl) (fun w h => E.remI (IntKind.wrap .i64 ((Int.tmod n m) + m)) m (by kernel_rfl) (by kernel_rfl) (by omega) w) ?_
  refine E.op (.int .i64 (Int.tmod (IntKind.wrap .i64 ((Int.tmod n m) + m)) m)) ?_
  refine E.To.code ?_
  refine E.C.weak [(4, .int .i64 (Int.tmod (IntKind.wrap .i64 ((Int.tmod n m) + m)) m))] [] ⟨by kernel_rfl, by kernel_rfl⟩ (List.Sublist.refl _) ?_
  refine E.C.ret (E.To.body (fn := Try.f21) [.int .i64 (Int.tmod (IntKind.wrap .i64 ((Int.tmod n m) + m)) m)] ?_ ?_)
  · exact ⟨⟨by kernel_rfl, by kernel_rfl⟩, trivial⟩
  · intro w h
    exact ⟨rfl, h.ch.bel (fun _ h => h.elim)⟩

theorem Mod_any (n m : Int) (hn : -9223372036854775808 ≤ n ∧ n < 9223372036854775808) (hm : 0 < m ∧ m < 4611686018427387904) (w : World) : Calls Try.prog 21 #[.int .i64 n, .int .i64 m] w fun e w' => e = .returned (.int .i64 (n % m)) ∧ Bel w w' := Q.callAs (mod_raw n m hm w) (congrArg (Value.int .i64) (Q.mod_eq n m hn hm))

def Q3.of (op : Int) : Q3.Fm := (bif ((decide (op ≥ 1)) && (decide (op ≤ 12))) then ⟨true, true, true, true, false, 0, 0⟩ else (bif (((op == 17) || (op == 18)) || (op == 19)) then ⟨true, true, true, false, false, 18, 0⟩ else (bif (((decide (op ≥ 16)) && (decide (op ≤ 27))) || ((decide (op ≥ 32)) && (decide (op ≤ 37)))) then ⟨true, true, true, false, true, 18, 0⟩ else (bif (op == 40) then ⟨true, true, false, false, true, 22, 0⟩ else (bif (op == 41) then ⟨true, true, false, false, false, 22, 0⟩ else (bif (op == 48) then ⟨true, false, false, false, false, 18, 0⟩ else (bif (((op == 49) || (op == 50)) || (op == 51)) then ⟨true, false, false, false, false, 0, 0⟩ else (bif (op == 52) then ⟨true, false, true, false, false, 0, 0⟩ else (bif (op == 53) then ⟨true, true, false, false, false, 18, 3⟩ else (bif (op == 54) then ⟨true, false, true, false, false, 18, 4⟩ else ⟨false, false, false, false, false, 0, 0⟩))))))))))
theorem Of3_any (op : Int) (w : World) : Calls Try.prog 47 #[.int .i64 op] w fun e w' => e = .returned (.agg #[.bool ((Q3.of op).is), .bool ((Q3.of op).d), .bool ((Q3.of op).a), .bool ((Q3.of op).b), .bool ((Q3.of op).sg), .int .i64 (((Q3.of op).bits : Nat) : Int), .int .u32 ((Q3.of op).most)]) ∧ Bel w w' := by
  refine E.enter (n := 76) (S := fun _ => False) Try.func47 rfl rfl (by kernel_rfl) (E.Hp.start w) ?_
  refine E.sr ?_
  refine E.G.new (fun g => .pointer (some ⟨g, 0, none⟩)) [.bool false, .bool false, .bool false, .bool false, .bool false, .int .i64 0, .int .u32 0] 88 (fun w => by kernel_rfl) (by kernel_rfl) (fun g1 => ?_)
  refine E.To.code ?_
  refine E.C.seq ?_
  refine E.C.block ?_
  refine E.sr ?_
  refine E.op (.int .i64 op) ?_
  refine E.op (.bool (decide (op ≥ 1))) ?_
  refine E.op (.bool (decide (op ≥ 1))) ?_
  refine E.G.cut 3 [(0, .int .i64 op), (2, .pointer (some ⟨g1, 0, none⟩)), (9, .bool ((decide (op ≥ 1)) && (decide (op ≤ 12))))] (fun _ => True) [(g1, [.bool false, .bool false, .bool false, .bool false, .bool false, .int .i64 0, .int .u32 0])] ?_ ?_
  · generalize hc2 : (decide (op ≥ 1)) = b3
    cases b3
    · skip
      refine E.sk ?_
      refine E.sk ?_
      refine E.op (.bool false) ?_
      exact E.G.end_pst ⟨by kernel_rfl, by kernel_rfl⟩ (List.Sublist.refl _) (fun _ h => h)
    · skip
      refine E.op (.int .i64 op) ?_
      refine E.op (.bool (decide (op ≤ 12))) ?_
      refine E.op (.bool (decide (op ≤ 12))) ?_
      exact E.G.end_pst ⟨by kernel_rfl, by kernel_rfl⟩ (List.Sublist.refl _) (fun _ h => h)
  refine E.op (.bool ((decide (op ≥ 1)) && (decide (op ≤ 12)))) ?_
  refine E.To.code ?_
  refine E.C.cond ((decide (op ≥ 1)) && (decide (op ≤ 12))) (by kernel_rfl) (by kernel_rfl) (fun hc4 => ?_) (fun hc4 => ?_)
  · skip
    refine E.sr ?_
    refine E.G.val (.agg #[.bool true, .bool true, .bool true, .bool true, .bool false, .int .i64 0, .int .u32 0]) (by kernel_rfl) (fun w h => E.run_build #[.bool true, .bool true, .bool true, .bool true, .bool false, .int .i64 0, .int .u32 0] (by kernel_rfl) w) ?_
    refine E.G.store 0 [.bool true, .bool true, .bool true, .bool true, .bool false, .int .i64 0, .int .u32 0] rfl rfl (by kernel_rfl) (by kernel_rfl) ?_
    refine E.To.code ?_
    refine E.C.ret (E.P.rb (E.P.rt (E.To.body (fn := Try.f47) [.agg #[.bool true, .bool true, .bool true, .bool true, .bool false, .int .i64 0, .int .u32 0]] ?_ ?_)))
    · exact ⟨⟨by kernel_rfl, _, _, 0, _, rfl, rfl, by kernel_rfl⟩, trivial⟩
    · intro w h
      exact ⟨by show Ending.returned (.agg #[.bool true, .bool true, .bool true, .bool true, .bool false, .int .i64 0, .int .u32 0]) = _; unfold Q3.of; rw [hc4, cond_true] <;> rfl, h.ch.bel (fun _ h => h.elim)⟩
  · skip
    refine E.sr ?_
    refine E.op (.int .i64 op) ?_
    refine E.op (.bool (op == 17)) ?_
    refine E.op (.bool (op == 17)) ?_
    refine E.G.cut 3 [(0, .int .i64 op), (2, .pointer (some ⟨g1, 0, none⟩)), (17, .bool ((op == 17) || (op == 18)))] (fun _ => True) [(g1, [.bool false, .bool false, .bool false, .bool false, .bool false, .int .i64 0, .int .u32 0])] ?_ ?_
    · generalize hc5 : (op == 17) = b6
      cases b6
      · skip
        refine E.op (.int .i64 op) ?_
        refine E.op (.bool (op == 18)) ?_
        refine E.op (.bool (op == 18)) ?_
        exact E.G.end_pst ⟨by kernel_rfl, by kernel_rfl⟩ (List.Sublist.refl _) (fun _ h => h)
      · skip
        refine E.sk ?_
        refine E.sk ?_
        refine E.op (.bool true) ?_
        exact E.G.end_pst ⟨by kernel_rfl, by kernel_rfl⟩ (List.Sublist.refl _) (fun _ h => h)
    refine E.op (.bool ((op == 17) || (op == 18))) ?_
    refine E.G.cut 3 [(0, .int .i64 op), (2, .pointer (some ⟨g1, 0, none⟩)), (21, .bool (((op == 17) || (op == 18)) || (op == 19)))] (fun _ => True) [(g1, [.bool false, .bool false, .bool false, .bool false, .bool false, .int .i64 0, .int .u32 0])] ?_ ?_
    · generalize hc7 : ((op == 17) || (op == 18)) = b8
      cases b8
      · skip
        refine E.op (.int .i64 op) ?_
        refine E.op (.bool (op == 19)) ?_
        refine E.op (.bool (op == 19)) ?_
        exact E.G.end_pst ⟨by kernel_rfl, by kernel_rfl⟩ (List.Sublist.refl _) (fun _ h => h)
      · skip
        refine E.sk ?_
        refine E.sk ?_
        refine E.op (.bool true) ?_
        exact E.G.end_pst ⟨by kernel_rfl, by kernel_rfl⟩ (List.Sublist.refl _) (fun _ h => h)
    refine E.op (.bool (((op == 17) || (op == 18)) || (op == 19))) ?_
    refine E.To.code ?_
    refine E.C.cond (((op == 17) || (op == 18)) || (op == 19)) (by kernel_rfl) (by kernel_rfl) (fun hc9 => ?_) (fun hc9 => ?_)
    · skip
      refine E.sr ?_
      refine E.G.val (.agg #[.bool true, .bool true, .bool true, .bool false, .bool false, .int .i64 18, .int .u32 0]) (by kernel_rfl) (fun w h => E.run_build #[.bool true, .bool true, .bool true, .bool false, .bool false, .int .i64 18, .int .u32 0] (by kernel_rfl) w) ?_
      refine E.G.store 0 [.bool true, .bool true, .bool true, .bool false, .bool false, .int .i64 18, .int .u32 0] rfl rfl (by kernel_rfl) (by kernel_rfl) ?_
      refine E.To.code ?_
      refine E.C.ret (E.P.rb (E.P.rt (E.To.body (fn := Try.f47) [.agg #[.bool true, .bool true, .bool true, .bool false, .bool false, .int .i64 18, .int .u32 0]] ?_ ?_)))
      · exact ⟨⟨by kernel_rfl, _, _, 0, _, rfl, rfl, by kernel_rfl⟩, trivial⟩
      · intro w h
        exact ⟨by show Ending.returned (.agg #[.bool true, .bool true, .bool true, .bool false, .bool false, .int .i64 18, .int .u32 0]) = _; unfold Q3.of; rw [hc4, cond_false, hc9, cond_true] <;> rfl, h.ch.bel (fun _ h => h.elim)⟩
    · skip
      refine E.sr ?_
      refine E.op (.int .i64 op) ?_
      refine E.op (.bool (decide (op ≥ 16))) ?_
      refine E.op (.bool (decide (op ≥ 16))) ?_
      refine E.G.cut 3 [(0, .int .i64 op), (2, .pointer (some ⟨g1, 0, none⟩)), (29, .bool ((decide (op ≥ 16)) && (decide (op ≤ 27))))] (fun _ => True) [(g1, [.bool false, .bool false, .bool false, .bool false, .bool false, .int .i64 0, .int .u32 0])] ?_ ?_
      · generalize hc10 : (decide (op ≥ 16)) = b11
        cases b11
        · skip
          refine E.sk ?_
          refine E.sk ?_
          refine E.op (.bool false) ?_
          exact E.G.end_pst ⟨by kernel_rfl, by kernel_rfl⟩ (List.Sublist.refl _) (fun _ h => h)
        · skip
          refine E.op (.int .i64 op) ?_
          refine E.op (.bool (decide (op ≤ 27))) ?_
          refine E.op (.bool (decide (op ≤ 27))) ?_
          exact E.G.end_pst ⟨by kernel_rfl, by kernel_rfl⟩ (List.Sublist.refl _) (fun _ h => h)
      refine E.op (.bool ((decide (op ≥ 16)) && (decide (op ≤ 27)))) ?_
      refine E.G.cut 7 [(0, .int .i64 op), (2, .pointer (some ⟨g1, 0, none⟩)), (37, .bool (((decide (op ≥ 16)) && (decide (op ≤ 27))) || ((decide (op ≥ 32)) && (decide (op ≤ 37)))))] (fun _ => True) [(g1, [.bool false, .bool false, .bool false, .bool false, .bool false, .int .i64 0, .int .u32 0])] ?_ ?_
      · generalize hc12 : ((decide (op ≥ 16)) && (decide (op ≤ 27))) = b13
        cases b13
        · skip
          refine E.op (.int .i64 op) ?_
          refine E.op (.bool (decide (op ≥ 32))) ?_
          refine E.op (.bool (decide (op ≥ 32))) ?_
          refine E.G.cut 3 [(0, .int .i64 op), (2, .pointer (some ⟨g1, 0, none⟩)), (30, .bool false), (36, .bool ((decide (op ≥ 32)) && (decide (op ≤ 37))))] (fun _ => True) [(g1, [.bool false, .bool false, .bool false, .bool false, .bool false, .int .i64 0, .int .u32 0])] ?_ ?_
          · generalize hc14 : (decide (op ≥ 32)) = b15
            cases b15
            · skip
              refine E.sk ?_
              refine E.sk ?_
              refine E.op (.bool false) ?_
              exact E.G.end_pst ⟨by kernel_rfl, by kernel_rfl⟩ (List.Sublist.refl _) (fun _ h => h)
            · skip
              refine E.op (.int .i64 op) ?_
              refine E.op (.bool (decide (op ≤ 37))) ?_
              refine E.op (.bool (decide (op ≤ 37))) ?_
              exact E.G.end_pst ⟨by kernel_rfl, by kernel_rfl⟩ (List.Sublist.refl _) (fun _ h => h)
          refine E.op (.bool ((decide (op ≥ 32)) && (decide (op ≤ 37)))) ?_
          exact E.G.end_pst ⟨by kernel_rfl, by kernel_rfl⟩ (List.Sublist.refl _) (fun _ h => h)
        · skip
          refine E.sk ?_
          refine E.sk ?_
          refine E.sk ?_
          refine E.sk ?_
          refine E.sk ?_
          refine E.sk ?_
          refine E.op (.bool true) ?_
          exact E.G.end_pst ⟨by kernel_rfl, by kernel_rfl⟩ (List.Sublist.refl _) (fun _ h => h)
      refine E.op (.bool (((decide (op ≥ 16)) && (decide (op ≤ 27))) || ((decide (op ≥ 32)) && (decide (op ≤ 37))))) ?_
      refine E.To.code ?_
      refine E.C.cond (((decide (op ≥ 16)) && (decide (op ≤ 27))) || ((decide (op ≥ 32)) && (decide (op ≤ 37)))) (by kernel_rfl) (by kernel_rfl) (fun hc16 => ?_) (fun hc16 => ?_)
      · skip
        refine E.sr ?_
        refine E.G.val (.agg #[.bool true, .bool true, .bool true, .bool false, .bool true, .int .i64 18, .int .u32 0]) (by kernel_rfl) (fun w h => E.run_build #[.bool true, .bool true, .bool true, .bool false, .bool true, .int .i64 18, .int .u32 0] (by kernel_rfl) w) ?_
        refine E.G.store 0 [.bool true, .bool true, .bool true, .bool false, .bool true, .int .i64 18, .int .u32 0] rfl rfl (by kernel_rfl) (by kernel_rfl) ?_
        refine E.To.code ?_
        refine E.C.ret (E.P.rb (E.P.rt (E.To.body (fn := Try.f47) [.agg #[.bool true, .bool true, .bool true, .bool false, .bool true, .int .i64 18, .int .u32 0]] ?_ ?_)))
        · exact ⟨⟨by kernel_rfl, _, _, 0, _, rfl, rfl, by kernel_rfl⟩, trivial⟩
        · intro w h
          exact ⟨by show Ending.returned (.agg #[.bool true, .bool true, .bool true, .bool false, .bool true, .int .i64 18, .int .u32 0]) = _; unfold Q3.of; rw [hc4, cond_false, hc9, cond_false, hc16, cond_true] <;> rfl, h.ch.bel (fun _ h => h.elim)⟩
      · skip
        refine E.sr ?_
        refine E.op (.int .i64 op) ?_
        refine E.op (.bool (op == 40)) ?_
        refine E.op (.bool (op == 40)) ?_
        refine E.To.code ?_
        refine E.C.cond (op == 40) (by kernel_rfl) (by kernel_rfl) (fun hc17 => ?_) (fun hc17 => ?_)
        · skip
          refine E.sr ?_
          refine E.G.val (.agg #[.bool true, .bool true, .bool false, .bool false, .bool true, .int .i64 22, .int .u32 0]) (by kernel_rfl) (fun w h => E.run_build #[.bool true, .bool true, .bool false, .bool false, .bool true, .int .i64 22, .int .u32 0] (by kernel_rfl) w) ?_
          refine E.G.store 0 [.bool true, .bool true, .bool false, .bool false, .bool true, .int .i64 22, .int .u32 0] rfl rfl (by kernel_rfl) (by kernel_rfl) ?_
          refine E.To.code ?_
          refine E.C.ret (E.P.rb (E.P.rt (E.To.body (fn := Try.f47) [.agg #[.bool true, .bool true, .bool false, .bool false, .bool true, .int .i64 22, .int .u32 0]] ?_ ?_)))
          · exact ⟨⟨by kernel_rfl, _, _, 0, _, rfl, rfl, by kernel_rfl⟩, trivial⟩
          · intro w h
            exact ⟨by show Ending.returned (.agg #[.bool true, .bool true, .bool false, .bool false, .bool true, .int .i64 22, .int .u32 0]) = _; unfold Q3.of; rw [hc4, cond_false, hc9, cond_false, hc16, cond_false, hc17, cond_true] <;> rfl, h.ch.bel (fun _ h => h.elim)⟩
        · skip
          refine E.sr ?_
          refine E.op (.int .i64 op) ?_
          refine E.op (.bool (op == 41)) ?_
          refine E.op (.bool (op == 41)) ?_
          refine E.To.code ?_
          refine E.C.cond (op == 41) (by kernel_rfl) (by kernel_rfl) (fun hc18 => ?_) (fun hc18 => ?_)
          · skip
            refine E.sr ?_
            refine E.G.val (.agg #[.bool true, .bool true, .bool false, .bool false, .bool false, .int .i64 22, .int .u32 0]) (by kernel_rfl) (fun w h => E.run_build #[.bool true, .bool true, .bool false, .bool false, .bool false, .int .i64 22, .int .u32 0] (by kernel_rfl) w) ?_
            refine E.G.store 0 [.bool true, .bool true, .bool false, .bool false, .bool false, .int .i64 22, .int .u32 0] rfl rfl (by kernel_rfl) (by kernel_rfl) ?_
            refine E.To.code ?_
            refine E.C.weak [(2, .pointer (some ⟨g1, 0, none⟩))] [(g1, [.bool true, .bool true, .bool false, .bool false, .bool false, .int .i64 22, .int .u32 0])] ⟨by kernel_rfl, by kernel_rfl⟩ (List.Sublist.refl _) ?_
            refine E.C.ret (E.P.rb (E.P.rt (E.To.body (fn := Try.f47) [.agg #[.bool true, .bool true, .bool false, .bool false, .bool false, .int .i64 22, .int .u32 0]] ?_ ?_)))
            · exact ⟨⟨by kernel_rfl, _, _, 0, _, rfl, rfl, by kernel_rfl⟩, trivial⟩
            · intro w h
              exact ⟨by show Ending.returned (.agg #[.bool true, .bool true, .bool false, .bool false, .bool false, .int .i64 22, .int .u32 0]) = _; unfold Q3.of; rw [hc4, cond_false, hc9, cond_false, hc16, cond_false, hc17, cond_false, hc18, cond_true] <;> rfl, h.ch.bel (fun _ h => h.elim)⟩
          · skip
            refine E.sr ?_
            refine E.op (.int .i64 op) ?_
            refine E.op (.bool (op == 48)) ?_
            refine E.op (.bool (op == 48)) ?_
            refine E.To.code ?_
            refine E.C.weak [(0, .int .i64 op), (2, .pointer (some ⟨g1, 0, none⟩)), (47, .bool (op == 48))] [(g1, [.bool false, .bool false, .bool false, .bool false, .bool false, .int .i64 0, .int .u32 0])] ⟨by kernel_rfl, by kernel_rfl⟩ (List.Sublist.refl _) ?_
            refine E.C.cond (op == 48) (by kernel_rfl) (by kernel_rfl) (fun hc19 => ?_) (fun hc19 => ?_)
            · skip
              refine E.sr ?_
              refine E.G.val (.agg #[.bool true, .bool false, .bool false, .bool false, .bool false, .int .i64 18, .int .u32 0]) (by kernel_rfl) (fun w h => E.run_build #[.bool true, .bool false, .bool false, .bool false, .bool false, .int .i64 18, .int .u32 0] (by kernel_rfl) w) ?_
              refine E.G.store 0 [.bool true, .bool false, .bool false, .bool false, .bool false, .int .i64 18, .int .u32 0] rfl rfl (by kernel_rfl) (by kernel_rfl) ?_
              refine E.To.code ?_
              refine E.C.ret (E.P.rb (E.P.rt (E.To.body (fn := Try.f47) [.agg #[.bool true, .bool false, .bool false, .bool false, .bool false, .int .i64 18, .int .u32 0]] ?_ ?_)))
              · exact ⟨⟨by kernel_rfl, _, _, 0, _, rfl, rfl, by kernel_rfl⟩, trivial⟩
              · intro w h
                exact ⟨by show Ending.returned (.agg #[.bool true, .bool false, .bool false, .bool false, .bool false, .int .i64 18, .int .u32 0]) = _; unfold Q3.of; rw [hc4, cond_false, hc9, cond_false, hc16, cond_false, hc17, cond_false, hc18, cond_false, hc19, cond_true] <;> rfl, h.ch.bel (fun _ h => h.elim)⟩
            · skip
              refine E.sr ?_
              refine E.op (.int .i64 op) ?_
              refine E.op (.bool (op == 49)) ?_
              refine E.op (.bool (op == 49)) ?_
              refine E.G.cut 3 [(0, .int .i64 op), (2, .pointer (some ⟨g1, 0, none⟩)), (57, .bool ((op == 49) || (op == 50)))] (fun _ => True) [(g1, [.bool false, .bool false, .bool false, .bool false, .bool false, .int .i64 0, .int .u32 0])] ?_ ?_
              · generalize hc20 : (op == 49) = b21
                cases b21
                · skip
                  refine E.op (.int .i64 op) ?_
                  refine E.op (.bool (op == 50)) ?_
                  refine E.op (.bool (op == 50)) ?_
                  exact E.G.end_pst ⟨by kernel_rfl, by kernel_rfl⟩ (List.Sublist.refl _) (fun _ h => h)
                · skip
                  refine E.sk ?_
                  refine E.sk ?_
                  refine E.op (.bool true) ?_
                  exact E.G.end_pst ⟨by kernel_rfl, by kernel_rfl⟩ (List.Sublist.refl _) (fun _ h => h)
              refine E.op (.bool ((op == 49) || (op == 50))) ?_
              refine E.G.cut 3 [(0, .int .i64 op), (2, .pointer (some ⟨g1, 0, none⟩)), (61, .bool (((op == 49) || (op == 50)) || (op == 51)))] (fun _ => True) [(g1, [.bool false, .bool false, .bool false, .bool false, .bool false, .int .i64 0, .int .u32 0])] ?_ ?_
              · generalize hc22 : ((op == 49) || (op == 50)) = b23
                cases b23
                · skip
                  refine E.op (.int .i64 op) ?_
                  refine E.op (.bool (op == 51)) ?_
                  refine E.op (.bool (op == 51)) ?_
                  exact E.G.end_pst ⟨by kernel_rfl, by kernel_rfl⟩ (List.Sublist.refl _) (fun _ h => h)
                · skip
                  refine E.sk ?_
                  refine E.sk ?_
                  refine E.op (.bool true) ?_
                  exact E.G.end_pst ⟨by kernel_rfl, by kernel_rfl⟩ (List.Sublist.refl _) (fun _ h => h)
              refine E.op (.bool (((op == 49) || (op == 50)) || (op == 51))) ?_
              refine E.To.code ?_
              refine E.C.cond (((op == 49) || (op == 50)) || (op == 51)) (by kernel_rfl) (by kernel_rfl) (fun hc24 => ?_) (fun hc24 => ?_)
              · skip
                refine E.sr ?_
                refine E.G.val (.agg #[.bool true, .bool false, .bool false, .bool false, .bool false, .int .i64 0, .int .u32 0]) (by kernel_rfl) (fun w h => E.run_build #[.bool true, .bool false, .bool false, .bool false, .bool false, .int .i64 0, .int .u32 0] (by kernel_rfl) w) ?_
                refine E.G.store 0 [.bool true, .bool false, .bool false, .bool false, .bool false, .int .i64 0, .int .u32 0] rfl rfl (by kernel_rfl) (by kernel_rfl) ?_
                refine E.To.code ?_
                refine E.C.ret (E.P.rb (E.P.rt (E.To.body (fn := Try.f47) [.agg #[.bool true, .bool false, .bool false, .bool false, .bool false, .int .i64 0, .int .u32 0]] ?_ ?_)))
                · exact ⟨⟨by kernel_rfl, _, _, 0, _, rfl, rfl, by kernel_rfl⟩, trivial⟩
                · intro w h
                  exact ⟨by show Ending.returned (.agg #[.bool true, .bool false, .bool false, .bool false, .bool false, .int .i64 0, .int .u32 0]) = _; unfold Q3.of; rw [hc4, cond_false, hc9, cond_false, hc16, cond_false, hc17, cond_false, hc18, cond_false, hc19, cond_false, hc24, cond_true] <;> rfl, h.ch.bel (fun _ h => h.elim)⟩
              · skip
                refine E.sr ?_
                refine E.op (.int .i64 op) ?_
                refine E.op (.bool (op == 52)) ?_
                refine E.op (.bool (op == 52)) ?_
                refine E.To.code ?_
                refine E.C.cond (op == 52) (by kernel_rfl) (by kernel_rfl) (fun hc25 => ?_) (fun hc25 => ?_)
                · skip
                  refine E.sr ?_
                  refine E.G.val (.agg #[.bool true, .bool false, .bool true, .bool false, .bool false, .int .i64 0, .int .u32 0]) (by kernel_rfl) (fun w h => E.run_build #[.bool true, .bool false, .bool true, .bool false, .bool false, .int .i64 0, .int .u32 0] (by kernel_rfl) w) ?_
                  refine E.G.store 0 [.bool true, .bool false, .bool true, .bool false, .bool false, .int .i64 0, .int .u32 0] rfl rfl (by kernel_rfl) (by kernel_rfl) ?_
                  refine E.To.code ?_
                  refine E.C.ret (E.P.rb (E.P.rt (E.To.body (fn := Try.f47) [.agg #[.bool true, .bool false, .bool true, .bool false, .bool false, .int .i64 0, .int .u32 0]] ?_ ?_)))
                  · exact ⟨⟨by kernel_rfl, _, _, 0, _, rfl, rfl, by kernel_rfl⟩, trivial⟩
                  · intro w h
                    exact ⟨by show Ending.returned (.agg #[.bool true, .bool false, .bool true, .bool false, .bool false, .int .i64 0, .int .u32 0]) = _; unfold Q3.of; rw [hc4, cond_false, hc9, cond_false, hc16, cond_false, hc17, cond_false, hc18, cond_false, hc19, cond_false, hc24, cond_false, hc25, cond_true] <;> rfl, h.ch.bel (fun _ h => h.elim)⟩
                · skip
                  refine E.sr ?_
                  refine E.op (.int .i64 op) ?_
                  refine E.op (.bool (op == 53)) ?_
                  refine E.op (.bool (op == 53)) ?_
                  refine E.To.code ?_
                  refine E.C.cond (op == 53) (by kernel_rfl) (by kernel_rfl) (fun hc26 => ?_) (fun hc26 => ?_)
                  · skip
                    refine E.sr ?_
                    refine E.G.val (.agg #[.bool true, .bool true, .bool false, .bool false, .bool false, .int .i64 18, .int .u32 3]) (by kernel_rfl) (fun w h => E.run_build #[.bool true, .bool true, .bool false, .bool false, .bool false, .int .i64 18, .int .u32 3] (by kernel_rfl) w) ?_
                    refine E.G.store 0 [.bool true, .bool true, .bool false, .bool false, .bool false, .int .i64 18, .int .u32 3] rfl rfl (by kernel_rfl) (by kernel_rfl) ?_
                    refine E.To.code ?_
                    refine E.C.weak [(2, .pointer (some ⟨g1, 0, none⟩))] [(g1, [.bool true, .bool true, .bool false, .bool false, .bool false, .int .i64 18, .int .u32 3])] ⟨by kernel_rfl, by kernel_rfl⟩ (List.Sublist.refl _) ?_
                    refine E.C.ret (E.P.rb (E.P.rt (E.To.body (fn := Try.f47) [.agg #[.bool true, .bool true, .bool false, .bool false, .bool false, .int .i64 18, .int .u32 3]] ?_ ?_)))
                    · exact ⟨⟨by kernel_rfl, _, _, 0, _, rfl, rfl, by kernel_rfl⟩, trivial⟩
                    · intro w h
                      exact ⟨by show Ending.returned (.agg #[.bool true, .bool true, .bool false, .bool false, .bool false, .int .i64 18, .int .u32 3]) = _; unfold Q3.of; rw [hc4, cond_false, hc9, cond_false, hc16, cond_false, hc17, cond_false, hc18, cond_false, hc19, cond_false, hc24, cond_false, hc25, cond_false, hc26, cond_true] <;> rfl, h.ch.bel (fun _ h => h.elim)⟩
                  · skip
                    refine E.sr ?_
                    refine E.op (.int .i64 op) ?_
                    refine E.op (.bool (op == 54)) ?_
                    refine E.op (.bool (op == 54)) ?_
                    refine E.To.code ?_
                    refine E.C.weak [(2, .pointer (some ⟨g1, 0, none⟩)), (71, .bool (op == 54))] [(g1, [.bool false, .bool false, .bool false, .bool false, .bool false, .int .i64 0, .int .u32 0])] ⟨by kernel_rfl, by kernel_rfl⟩ (List.Sublist.refl _) ?_
                    refine E.C.cond (op == 54) (by kernel_rfl) (by kernel_rfl) (fun hc27 => ?_) (fun hc27 => ?_)
                    · skip
                      refine E.sr ?_
                      refine E.G.val (.agg #[.bool true, .bool false, .bool true, .bool false, .bool false, .int .i64 18, .int .u32 4]) (by kernel_rfl) (fun w h => E.run_build #[.bool true, .bool false, .bool true, .bool false, .bool false, .int .i64 18, .int .u32 4] (by kernel_rfl) w) ?_
                      refine E.G.store 0 [.bool true, .bool false, .bool true, .bool false, .bool false, .int .i64 18, .int .u32 4] rfl rfl (by kernel_rfl) (by kernel_rfl) ?_
                      refine E.To.code ?_
                      refine E.C.ret (E.P.rb (E.P.rt (E.To.body (fn := Try.f47) [.agg #[.bool true, .bool false, .bool true, .bool false, .bool false, .int .i64 18, .int .u32 4]] ?_ ?_)))
                      · exact ⟨⟨by kernel_rfl, _, _, 0, _, rfl, rfl, by kernel_rfl⟩, trivial⟩
                      · intro w h
                        exact ⟨by show Ending.returned (.agg #[.bool true, .bool false, .bool true, .bool false, .bool false, .int .i64 18, .int .u32 4]) = _; unfold Q3.of; rw [hc4, cond_false, hc9, cond_false, hc16, cond_false, hc17, cond_false, hc18, cond_false, hc19, cond_false, hc24, cond_false, hc25, cond_false, hc26, cond_false, hc27, cond_true] <;> rfl, h.ch.bel (fun _ h => h.elim)⟩
                    · skip
                      refine E.C.skip (E.P.nb (E.To.code ?_))
                      refine E.sr ?_
                      refine E.G.val (.agg #[.bool false, .bool false, .bool false, .bool false, .bool false, .int .i64 0, .int .u32 0]) (by kernel_rfl) (fun w h => E.run_build #[.bool false, .bool false, .bool false, .bool false, .bool false, .int .i64 0, .int .u32 0] (by kernel_rfl) w) ?_
                      refine E.G.store 0 [.bool false, .bool false, .bool false, .bool false, .bool false, .int .i64 0, .int .u32 0] rfl rfl (by kernel_rfl) (by kernel_rfl) ?_
                      refine E.To.code ?_
                      refine E.C.ret (E.To.body (fn := Try.f47) [.agg #[.bool false, .bool false, .bool false, .bool false, .bool false, .int .i64 0, .int .u32 0]] ?_ ?_)
                      · exact ⟨⟨by kernel_rfl, _, _, 0, _, rfl, rfl, by kernel_rfl⟩, trivial⟩
                      · intro w h
                        exact ⟨by show Ending.returned (.agg #[.bool false, .bool false, .bool false, .bool false, .bool false, .int .i64 0, .int .u32 0]) = _; unfold Q3.of; rw [hc4, cond_false, hc9, cond_false, hc16, cond_false, hc17, cond_false, hc18, cond_false, hc19, cond_false, hc24, cond_false, hc25, cond_false, hc26, cond_false, hc27, cond_false] <;> rfl, h.ch.bel (fun _ h => h.elim)⟩

def Q3.reg (n : Int) (u : Bool) : Bool := ((n == 0) || ((u && (decide (n > 0))) && (decide (n < 16))))
theorem reg3_any (n : Int) (u : Bool) (w : World) : Calls Try.prog 65 #[.int .i64 n, .bool u] w fun e w' => e = .returned (.bool (Q3.reg n u)) ∧ Bel w w' := by
  refine E.enter (n := 18) (S := fun _ => False) Try.func65 rfl rfl (by kernel_rfl) (E.Hp.start w) ?_
  refine E.sr ?_
  refine E.op (.bool false) ?_
  refine E.tr ?_
  refine E.op (.int .i64 n) ?_
  refine E.op (.bool (n == 0)) ?_
  refine E.op (.bool (n == 0)) ?_
  refine E.G.cut 10 [(4, .bool false), (17, .bool ((n == 0) || ((u && (decide (n > 0))) && (decide (n < 16)))))] (fun _ => True) [] ?_ ?_
  · generalize hc1 : (n == 0) = b2
    cases b2
    · skip
      refine E.op (.bool u) ?_
      refine E.op (.bool u) ?_
      refine E.G.cut 3 [(0, .int .i64 n), (4, .bool false), (7, .bool false), (12, .bool (u && (decide (n > 0))))] (fun _ => True) [] ?_ ?_
      · generalize hc3 : u = b4
        cases b4
        · skip
          refine E.sk ?_
          refine E.sk ?_
          refine E.op (.bool false) ?_
          exact E.G.end_pst ⟨by kernel_rfl, by kernel_rfl⟩ (List.Sublist.refl _) (fun _ h => h)
        · skip
          refine E.op (.int .i64 n) ?_
          refine E.op (.bool (decide (n > 0))) ?_
          refine E.op (.bool (decide (n > 0))) ?_
          exact E.G.end_pst ⟨by kernel_rfl, by kernel_rfl⟩ (List.Sublist.refl _) (fun _ h => h)
      refine E.op (.bool (u && (decide (n > 0)))) ?_
      refine E.G.cut 3 [(4, .bool false), (7, .bool false), (16, .bool ((u && (decide (n > 0))) && (decide (n < 16))))] (fun _ => True) [] ?_ ?_
      · generalize hc5 : (u && (decide (n > 0))) = b6
        cases b6
        · skip
          refine E.sk ?_
          refine E.sk ?_
          refine E.op (.bool false) ?_
          exact E.G.end_pst ⟨by kernel_rfl, by kernel_rfl⟩ (List.Sublist.refl _) (fun _ h => h)
        · skip
          refine E.op (.int .i64 n) ?_
          refine E.op (.bool (decide (n < 16))) ?_
          refine E.op (.bool (decide (n < 16))) ?_
          exact E.G.end_pst ⟨by kernel_rfl, by kernel_rfl⟩ (List.Sublist.refl _) (fun _ h => h)
      refine E.op (.bool ((u && (decide (n > 0))) && (decide (n < 16)))) ?_
      exact E.G.end_pst ⟨by kernel_rfl, by kernel_rfl⟩ (List.Sublist.refl _) (fun _ h => h)
    · skip
      refine E.sk ?_
      refine E.sk ?_
      refine E.sk ?_
      refine E.sk ?_
      refine E.sk ?_
      refine E.sk ?_
      refine E.sk ?_
      refine E.sk ?_
      refine E.sk ?_
      refine E.op (.bool true) ?_
      exact E.G.end_pst ⟨by kernel_rfl, by kernel_rfl⟩ (List.Sublist.refl _) (fun _ h => h)
  refine E.op (.bool ((n == 0) || ((u && (decide (n > 0))) && (decide (n < 16))))) ?_
  refine E.To.code ?_
  refine E.C.ret (E.To.body (fn := Try.f65) [.bool ((n == 0) || ((u && (decide (n > 0))) && (decide (n < 16))))] ?_ ?_)
  · exact ⟨⟨by kernel_rfl, by kernel_rfl⟩, trivial⟩
  · intro w h
    exact ⟨rfl, h.ch.bel (fun _ h => h.elim)⟩

theorem Q3.bifb {c : Bool} {x y : Q3.Fm} (hx : x.bits ≤ 22) (hy : y.bits ≤ 22) : (bif c then x else y).bits ≤ 22 := by
  cases c
  · exact hy
  · exact hx
theorem Q3.of_bits (x : Int) : (Q3.of x).bits ≤ 22 := by
  unfold Q3.of
  repeat' (first | (show (_ : Nat) ≤ 22; decide) | refine Q3.bifb ?_ ?_)

def Q3.valid (i : Q.I) : Bool := (bif (!((Q3.of i.op).is)) then false else (bif (((!(Q3.reg i.d ((Q3.of i.op).d))) || (!(Q3.reg i.a ((Q3.of i.op).a)))) || (!(Q3.reg i.b ((Q3.of i.op).b)))) then false else (bif ((((Q3.of i.op).bits : Nat) : Int) == 0) then (i.imm == 0) else (bif (Q3.of i.op).sg then (W.sign i.imm (((Q3.of i.op).bits : Nat) : Int) == i.imm) else (bif (decide (((Q3.of i.op).most) > 0)) then (decide (i.imm ≤ ((Q3.of i.op).most))) else (decide (i.imm < (IntKind.wrap .u32 (1 * 2 ^ (min ((Q3.of i.op).bits) 32))))))))))
theorem Valid3_any (i : Q.I) (hm : 0 ≤ i.imm ∧ i.imm < 4294967296) (w : World) : Calls Try.prog 49 #[.agg #[.int .i64 i.op, .int .i64 i.d, .int .i64 i.a, .int .i64 i.b, .int .u32 i.imm]] w fun e w' => e = .returned (.bool (Q3.valid i)) ∧ Bel w w' := by
  have hb := Q3.of_bits i.op
  refine E.enter (n := 66) (S := fun _ => False) Try.func49 rfl rfl (by kernel_rfl) (E.Hp.start w) ?_
  refine E.sr ?_
  refine E.G.new (fun g => .pointer (some ⟨g, 0, none⟩)) [.int .i64 i.op, .int .i64 i.d, .int .i64 i.a, .int .i64 i.b, .int .u32 i.imm] 47 (fun w => by kernel_rfl) (by kernel_rfl) (fun g1 => ?_)
  refine E.op (.bool false) ?_
  refine E.tr ?_
  refine E.op (.pointer (some ⟨g1, 0, none⟩)) ?_
  refine E.li (.int .i64 i.op) 0 rfl rfl ?_
  refine E.G.call (.agg #[.bool ((Q3.of i.op).is), .bool ((Q3.of i.op).d), .bool ((Q3.of i.op).a), .bool ((Q3.of i.op).b), .bool ((Q3.of i.op).sg), .int .i64 (((Q3.of i.op).bits : Nat) : Int), .int .u32 ((Q3.of i.op).most)]) (fun w h => Of3_any i.op w) (fun w _ => by kernel_rfl) (by kernel_rfl) ?_
  refine E.G.new (fun g => .pointer (some ⟨g, 0, none⟩)) [.bool false, .bool false, .bool false, .bool false, .bool false, .int .i64 0, .int .u32 0] 88 (fun w => by kernel_rfl) (by kernel_rfl) (fun g2 => ?_)
  refine E.G.store 0 [.bool ((Q3.of i.op).is), .bool ((Q3.of i.op).d), .bool ((Q3.of i.op).a), .bool ((Q3.of i.op).b), .bool ((Q3.of i.op).sg), .int .i64 (((Q3.of i.op).bits : Nat) : Int), .int .u32 ((Q3.of i.op).most)] rfl rfl (by kernel_rfl) (by kernel_rfl) ?_
  refine E.To.code ?_
  refine E.C.seq ?_
  refine E.sr ?_
  refine E.op (.pointer (some ⟨g2, 0, none⟩)) ?_
  refine E.li (.bool ((Q3.of i.op).is)) 0 rfl rfl ?_
  refine E.op (.bool (!((Q3.of i.op).is))) ?_
  refine E.To.code ?_
  refine E.C.cond (!((Q3.of i.op).is)) (by kernel_rfl) (by kernel_rfl) (fun hc3 => ?_) (fun hc3 => ?_)
  · skip
    refine E.sr ?_
    refine E.op (.bool false) ?_
    refine E.To.code ?_
    refine E.C.ret (E.P.rt (E.To.body (fn := Try.f49) [.bool false] ?_ ?_))
    · exact ⟨⟨by kernel_rfl, by kernel_rfl⟩, trivial⟩
    · intro w h
      exact ⟨by show Ending.returned (.bool false) = _; unfold Q3.valid; rw [hc3, cond_true] <;> rfl, h.ch.bel (fun _ h => h.elim)⟩
  · skip
    refine E.C.skip (E.To.code ?_)
    refine E.sr ?_
    refine E.op (.pointer (some ⟨g1, 1, none⟩)) ?_
    refine E.li (.int .i64 i.d) 1 rfl rfl ?_
    refine E.op (.pointer (some ⟨g2, 1, none⟩)) ?_
    refine E.li (.bool ((Q3.of i.op).d)) 0 rfl rfl ?_
    refine E.G.call (.bool (Q3.reg i.d ((Q3.of i.op).d))) (fun w h => reg3_any i.d ((Q3.of i.op).d) w) (fun w _ => by kernel_rfl) (by kernel_rfl) ?_
    refine E.op (.bool (Q3.reg i.d ((Q3.of i.op).d))) ?_
    refine E.To.code ?_
    refine E.C.weak [(1, .pointer (some ⟨g1, 0, none⟩)), (2, .bool false), (3, .pointer (some ⟨g2, 0, none⟩)), (4, .bool (Q3.reg i.d ((Q3.of i.op).d)))] [(g2, [.bool ((Q3.of i.op).is), .bool ((Q3.of i.op).d), .bool ((Q3.of i.op).a), .bool ((Q3.of i.op).b), .bool ((Q3.of i.op).sg), .int .i64 (((Q3.of i.op).bits : Nat) : Int), .int .u32 ((Q3.of i.op).most)]), (g1, [.int .i64 i.op, .int .i64 i.d, .int .i64 i.a, .int .i64 i.b, .int .u32 i.imm])] ⟨by kernel_rfl, by kernel_rfl⟩ (List.Sublist.refl _) ?_
    refine E.sr ?_
    refine E.op (.pointer (some ⟨g1, 2, none⟩)) ?_
    refine E.li (.int .i64 i.a) 1 rfl rfl ?_
    refine E.op (.pointer (some ⟨g2, 2, none⟩)) ?_
    refine E.li (.bool ((Q3.of i.op).a)) 0 rfl rfl ?_
    refine E.G.call (.bool (Q3.reg i.a ((Q3.of i.op).a))) (fun w h => reg3_any i.a ((Q3.of i.op).a) w) (fun w _ => by kernel_rfl) (by kernel_rfl) ?_
    refine E.op (.bool (Q3.reg i.a ((Q3.of i.op).a))) ?_
    refine E.tr ?_
    refine E.op (.pointer (some ⟨g1, 3, none⟩)) ?_
    refine E.li (.int .i64 i.b) 1 rfl rfl ?_
    refine E.op (.pointer (some ⟨g2, 3, none⟩)) ?_
    refine E.li (.bool ((Q3.of i.op).b)) 0 rfl rfl ?_
    refine E.G.call (.bool (Q3.reg i.b ((Q3.of i.op).b))) (fun w h => reg3_any i.b ((Q3.of i.op).b) w) (fun w _ => by kernel_rfl) (by kernel_rfl) ?_
    refine E.op (.bool (Q3.reg i.b ((Q3.of i.op).b))) ?_
    refine E.To.code ?_
    refine E.C.weak [(1, .pointer (some ⟨g1, 0, none⟩)), (2, .bool false), (3, .pointer (some ⟨g2, 0, none⟩)), (4, .bool (Q3.reg i.d ((Q3.of i.op).d))), (5, .bool (Q3.reg i.a ((Q3.of i.op).a))), (6, .bool (Q3.reg i.b ((Q3.of i.op).b)))] [(g2, [.bool ((Q3.of i.op).is), .bool ((Q3.of i.op).d), .bool ((Q3.of i.op).a), .bool ((Q3.of i.op).b), .bool ((Q3.of i.op).sg), .int .i64 (((Q3.of i.op).bits : Nat) : Int), .int .u32 ((Q3.of i.op).most)]), (g1, [.int .i64 i.op, .int .i64 i.d, .int .i64 i.a, .int .i64 i.b, .int .u32 i.imm])] ⟨by kernel_rfl, by kernel_rfl⟩ (List.Sublist.refl _) ?_
    refine E.C.seq ?_
    refine E.sr ?_
    refine E.op (.bool (Q3.reg i.d ((Q3.of i.op).d))) ?_
    refine E.op (.bool (!(Q3.reg i.d ((Q3.of i.op).d)))) ?_
    refine E.op (.bool (!(Q3.reg i.d ((Q3.of i.op).d)))) ?_
    refine E.G.cut 3 [(1, .pointer (some ⟨g1, 0, none⟩)), (2, .bool false), (3, .pointer (some ⟨g2, 0, none⟩)), (6, .bool (Q3.reg i.b ((Q3.of i.op).b))), (33, .bool ((!(Q3.reg i.d ((Q3.of i.op).d))) || (!(Q3.reg i.a ((Q3.of i.op).a)))))] (fun _ => True) [(g2, [.bool ((Q3.of i.op).is), .bool ((Q3.of i.op).d), .bool ((Q3.of i.op).a), .bool ((Q3.of i.op).b), .bool ((Q3.of i.op).sg), .int .i64 (((Q3.of i.op).bits : Nat) : Int), .int .u32 ((Q3.of i.op).most)]), (g1, [.int .i64 i.op, .int .i64 i.d, .int .i64 i.a, .int .i64 i.b, .int .u32 i.imm])] ?_ ?_
    · generalize hc4 : (!(Q3.reg i.d ((Q3.of i.op).d))) = b5
      cases b5
      · skip
        refine E.op (.bool (Q3.reg i.a ((Q3.of i.op).a))) ?_
        refine E.op (.bool (!(Q3.reg i.a ((Q3.of i.op).a)))) ?_
        refine E.op (.bool (!(Q3.reg i.a ((Q3.of i.op).a)))) ?_
        exact E.G.end_pst ⟨by kernel_rfl, by kernel_rfl⟩ (List.Sublist.refl _) (fun _ h => h)
      · skip
        refine E.sk ?_
        refine E.sk ?_
        refine E.op (.bool true) ?_
        exact E.G.end_pst ⟨by kernel_rfl, by kernel_rfl⟩ (List.Sublist.refl _) (fun _ h => h)
    refine E.op (.bool ((!(Q3.reg i.d ((Q3.of i.op).d))) || (!(Q3.reg i.a ((Q3.of i.op).a))))) ?_
    refine E.G.cut 3 [(1, .pointer (some ⟨g1, 0, none⟩)), (2, .bool false), (3, .pointer (some ⟨g2, 0, none⟩)), (37, .bool (((!(Q3.reg i.d ((Q3.of i.op).d))) || (!(Q3.reg i.a ((Q3.of i.op).a)))) || (!(Q3.reg i.b ((Q3.of i.op).b)))))] (fun _ => True) [(g2, [.bool ((Q3.of i.op).is), .bool ((Q3.of i.op).d), .bool ((Q3.of i.op).a), .bool ((Q3.of i.op).b), .bool ((Q3.of i.op).sg), .int .i64 (((Q3.of i.op).bits : Nat) : Int), .int .u32 ((Q3.of i.op).most)]), (g1, [.int .i64 i.op, .int .i64 i.d, .int .i64 i.a, .int .i64 i.b, .int .u32 i.imm])] ?_ ?_
    · generalize hc6 : ((!(Q3.reg i.d ((Q3.of i.op).d))) || (!(Q3.reg i.a ((Q3.of i.op).a)))) = b7
      cases b7
      · skip
        refine E.op (.bool (Q3.reg i.b ((Q3.of i.op).b))) ?_
        refine E.op (.bool (!(Q3.reg i.b ((Q3.of i.op).b)))) ?_
        refine E.op (.bool (!(Q3.reg i.b ((Q3.of i.op).b)))) ?_
        exact E.G.end_pst ⟨by kernel_rfl, by kernel_rfl⟩ (List.Sublist.refl _) (fun _ h => h)
      · skip
        refine E.sk ?_
        refine E.sk ?_
        refine E.op (.bool true) ?_
        exact E.G.end_pst ⟨by kernel_rfl, by kernel_rfl⟩ (List.Sublist.refl _) (fun _ h => h)
    refine E.To.code ?_
    refine E.C.cond (((!(Q3.reg i.d ((Q3.of i.op).d))) || (!(Q3.reg i.a ((Q3.of i.op).a)))) || (!(Q3.reg i.b ((Q3.of i.op).b)))) (by kernel_rfl) (by kernel_rfl) (fun hc8 => ?_) (fun hc8 => ?_)
    · skip
      refine E.sr ?_
      refine E.op (.bool false) ?_
      refine E.To.code ?_
      refine E.C.ret (E.P.rt (E.To.body (fn := Try.f49) [.bool false] ?_ ?_))
      · exact ⟨⟨by kernel_rfl, by kernel_rfl⟩, trivial⟩
      · intro w h
        exact ⟨by show Ending.returned (.bool false) = _; unfold Q3.valid; rw [hc3, cond_false, hc8, cond_true] <;> rfl, h.ch.bel (fun _ h => h.elim)⟩
    · skip
      refine E.C.skip (E.To.code ?_)
      refine E.C.seq ?_
      refine E.sr ?_
      refine E.op (.pointer (some ⟨g2, 5, none⟩)) ?_
      refine E.li (.int .i64 (((Q3.of i.op).bits : Nat) : Int)) 0 rfl rfl ?_
      refine E.op (.bool ((((Q3.of i.op).bits : Nat) : Int) == 0)) ?_
      refine E.To.code ?_
      refine E.C.cond ((((Q3.of i.op).bits : Nat) : Int) == 0) (by kernel_rfl) (by kernel_rfl) (fun hc9 => ?_) (fun hc9 => ?_)
      · skip
        refine E.sr ?_
        refine E.op (.pointer (some ⟨g1, 4, none⟩)) ?_
        refine E.li (.int .u32 i.imm) 1 rfl rfl ?_
        refine E.op (.bool (i.imm == 0)) ?_
        refine E.op (.bool (i.imm == 0)) ?_
        refine E.To.code ?_
        refine E.C.ret (E.P.rt (E.To.body (fn := Try.f49) [.bool (i.imm == 0)] ?_ ?_))
        · exact ⟨⟨by kernel_rfl, by kernel_rfl⟩, trivial⟩
        · intro w h
          exact ⟨by show Ending.returned (.bool (i.imm == 0)) = _; unfold Q3.valid; rw [hc3, cond_false, hc8, cond_false, hc9, cond_true] <;> rfl, h.ch.bel (fun _ h => h.elim)⟩
      · skip
        refine E.C.skip (E.To.code ?_)
        refine E.C.seq ?_
        refine E.sr ?_
        refine E.op (.pointer (some ⟨g2, 4, none⟩)) ?_
        refine E.li (.bool ((Q3.of i.op).sg)) 0 rfl rfl ?_
        refine E.To.code ?_
        refine E.C.cond ((Q3.of i.op).sg) (by kernel_rfl) (by kernel_rfl) (fun hc10 => ?_) (fun hc10 => ?_)
        · skip
          refine E.sr ?_
          refine E.op (.pointer (some ⟨g1, 4, none⟩)) ?_
          refine E.li (.int .u32 i.imm) 1 rfl rfl ?_
          refine E.op (.pointer (some ⟨g2, 5, none⟩)) ?_
          refine E.li (.int .i64 (((Q3.of i.op).bits : Nat) : Int)) 0 rfl rfl ?_
          refine E.G.call (.bool (W.sign i.imm (((Q3.of i.op).bits : Nat) : Int) == i.imm)) (fun w h => rFits_any i.imm (((Q3.of i.op).bits : Nat) : Int) hm.1 hm.2 (by omega) (by omega) w) (fun w _ => by kernel_rfl) (by kernel_rfl) ?_
          refine E.op (.bool (W.sign i.imm (((Q3.of i.op).bits : Nat) : Int) == i.imm)) ?_
          refine E.To.code ?_
          refine E.C.weak [(1, .pointer (some ⟨g1, 0, none⟩)), (2, .bool (W.sign i.imm (((Q3.of i.op).bits : Nat) : Int) == i.imm)), (3, .pointer (some ⟨g2, 0, none⟩))] [(g2, [.bool ((Q3.of i.op).is), .bool ((Q3.of i.op).d), .bool ((Q3.of i.op).a), .bool ((Q3.of i.op).b), .bool ((Q3.of i.op).sg), .int .i64 (((Q3.of i.op).bits : Nat) : Int), .int .u32 ((Q3.of i.op).most)]), (g1, [.int .i64 i.op, .int .i64 i.d, .int .i64 i.a, .int .i64 i.b, .int .u32 i.imm])] ⟨by kernel_rfl, by kernel_rfl⟩ (List.Sublist.refl _) ?_
          refine E.C.ret (E.P.rt (E.To.body (fn := Try.f49) [.bool (W.sign i.imm (((Q3.of i.op).bits : Nat) : Int) == i.imm)] ?_ ?_))
          · exact ⟨⟨by kernel_rfl, by kernel_rfl⟩, trivial⟩
          · intro w h
            exact ⟨by show Ending.returned (.bool (W.sign i.imm (((Q3.of i.op).bits : Nat) : Int) == i.imm)) = _; unfold Q3.valid; rw [hc3, cond_false, hc8, cond_false, hc9, cond_false, hc10, cond_true] <;> rfl, h.ch.bel (fun _ h => h.elim)⟩
        · skip
          refine E.C.skip (E.To.code ?_)
          refine E.C.seq ?_
          refine E.sr ?_
          refine E.op (.pointer (some ⟨g2, 6, none⟩)) ?_
          refine E.li (.int .u32 ((Q3.of i.op).most)) 0 rfl rfl ?_
          refine E.op (.bool (decide (((Q3.of i.op).most) > 0))) ?_
          refine E.To.code ?_
          refine E.C.weak [(1, .pointer (some ⟨g1, 0, none⟩)), (2, .bool false), (3, .pointer (some ⟨g2, 0, none⟩)), (53, .bool (decide (((Q3.of i.op).most) > 0)))] [(g2, [.bool ((Q3.of i.op).is), .bool ((Q3.of i.op).d), .bool ((Q3.of i.op).a), .bool ((Q3.of i.op).b), .bool ((Q3.of i.op).sg), .int .i64 (((Q3.of i.op).bits : Nat) : Int), .int .u32 ((Q3.of i.op).most)]), (g1, [.int .i64 i.op, .int .i64 i.d, .int .i64 i.a, .int .i64 i.b, .int .u32 i.imm])] ⟨by kernel_rfl, by kernel_rfl⟩ (List.Sublist.refl _) ?_
          refine E.C.cond (decide (((Q3.of i.op).most) > 0)) (by kernel_rfl) (by kernel_rfl) (fun hc11 => ?_) (fun hc11 => ?_)
          · skip
            refine E.sr ?_
            refine E.op (.pointer (some ⟨g1, 4, none⟩)) ?_
            refine E.li (.int .u32 i.imm) 1 rfl rfl ?_
            refine E.op (.pointer (some ⟨g2, 6, none⟩)) ?_
            refine E.li (.int .u32 ((Q3.of i.op).most)) 0 rfl rfl ?_
            refine E.op (.bool (decide (i.imm ≤ ((Q3.of i.op).most)))) ?_
            refine E.op (.bool (decide (i.imm ≤ ((Q3.of i.op).most)))) ?_
            refine E.To.code ?_
            refine E.C.ret (E.P.rt (E.To.body (fn := Try.f49) [.bool (decide (i.imm ≤ ((Q3.of i.op).most)))] ?_ ?_))
            · exact ⟨⟨by kernel_rfl, by kernel_rfl⟩, trivial⟩
            · intro w h
              exact ⟨by show Ending.returned (.bool (decide (i.imm ≤ ((Q3.of i.op).most)))) = _; unfold Q3.valid; rw [hc3, cond_false, hc8, cond_false, hc9, cond_false, hc10, cond_false, hc11, cond_true] <;> rfl, h.ch.bel (fun _ h => h.elim)⟩
          · skip
            refine E.C.skip (E.To.code ?_)
            refine E.sr ?_
            refine E.op (.pointer (some ⟨g1, 4, none⟩)) ?_
            refine E.li (.int .u32 i.imm) 1 rfl rfl ?_
            refine E.op (.pointer (some ⟨g2, 5, none⟩)) ?_
            refine E.li (.int .i64 (((Q3.of i.op).bits : Nat) : Int)) 0 rfl rfl ?_
            refine E.G.val (.int .u64 (((Q3.of i.op).bits : Nat) : Int)) (by kernel_rfl) (fun w h => E.run_as (a := .int .u64 (IntKind.wrap .u64 (((Q3.of i.op).bits : Nat) : Int))) (by kernel_rfl) (congrArg (Value.int .u64) (Q.w64u (by omega)))) ?_
            refine E.G.val (.int .u32 (IntKind.wrap .u32 (1 * 2 ^ (min ((Q3.of i.op).bits) 32)))) (by kernel_rfl) (fun w h => E.shlN (k2 := .u64) 1 ((Q3.of i.op).bits) 32 (by rfl) (by kernel_rfl) (by kernel_rfl) w) ?_
            refine E.op (.bool (decide (i.imm < (IntKind.wrap .u32 (1 * 2 ^ (min ((Q3.of i.op).bits) 32)))))) ?_
            refine E.op (.bool (decide (i.imm < (IntKind.wrap .u32 (1 * 2 ^ (min ((Q3.of i.op).bits) 32)))))) ?_
            refine E.To.code ?_
            refine E.C.weak [(2, .bool (decide (i.imm < (IntKind.wrap .u32 (1 * 2 ^ (min ((Q3.of i.op).bits) 32))))))] [] ⟨by kernel_rfl, by kernel_rfl⟩ (List.nil_sublist _) ?_
            refine E.C.ret (E.To.body (fn := Try.f49) [.bool (decide (i.imm < (IntKind.wrap .u32 (1 * 2 ^ (min ((Q3.of i.op).bits) 32)))))] ?_ ?_)
            · exact ⟨⟨by kernel_rfl, by kernel_rfl⟩, trivial⟩
            · intro w h
              exact ⟨by show Ending.returned (.bool (decide (i.imm < (IntKind.wrap .u32 (1 * 2 ^ (min ((Q3.of i.op).bits) 32)))))) = _; unfold Q3.valid; rw [hc3, cond_false, hc8, cond_false, hc9, cond_false, hc10, cond_false, hc11, cond_false] <;> rfl, h.ch.bel (fun _ h => h.elim)⟩

theorem Q3.pow_ne {b : Nat} (h : b ≤ 22) : IntKind.wrap .u32 (1 * 2 ^ (min b 32)) ≠ 0 := by
  have e : ∀ b : Fin 23, IntKind.wrap .u32 (1 * 2 ^ (min b.val 32)) ≠ 0 := by decide +kernel
  exact e ⟨b, by omega⟩

def Q3.encode (i : Q.I) : Int × Int := (bif (!(Q3.valid i)) then (0, 12) else (bif ((((Q3.of i.op).bits : Nat) : Int) == 0) then ((IntKind.wrap .u32 ((IntKind.wrap .u32 ((IntKind.wrap .u32 ((IntKind.wrap .u32 ((IntKind.wrap .u32 i.op) * 67108864)) + (IntKind.wrap .u32 ((IntKind.wrap .u32 i.d) * 4194304)))) + (IntKind.wrap .u32 ((IntKind.wrap .u32 i.a) * 262144)))) + (IntKind.wrap .u32 ((IntKind.wrap .u32 i.b) * 16384)))), 0) else ((IntKind.wrap .u32 ((IntKind.wrap .u32 ((IntKind.wrap .u32 ((IntKind.wrap .u32 ((IntKind.wrap .u32 ((IntKind.wrap .u32 i.op) * 67108864)) + (IntKind.wrap .u32 ((IntKind.wrap .u32 i.d) * 4194304)))) + (IntKind.wrap .u32 ((IntKind.wrap .u32 i.a) * 262144)))) + (IntKind.wrap .u32 ((IntKind.wrap .u32 i.b) * 16384)))) + (Int.tmod i.imm (IntKind.wrap .u32 (1 * 2 ^ (min ((Q3.of i.op).bits) 32)))))), 0)))
theorem Encode3_any (i : Q.I) (hm : 0 ≤ i.imm ∧ i.imm < 4294967296) (w : World) : Calls Try.prog 22 #[.agg #[.int .i64 i.op, .int .i64 i.d, .int .i64 i.a, .int .i64 i.b, .int .u32 i.imm]] w fun e w' => e = .returned (.tuple #[.int .u32 (((Q3.encode i)).1), .int .i64 (((Q3.encode i)).2)]) ∧ Bel w w' := by
  have hb := Q3.of_bits i.op
  refine E.enter (n := 45) (S := fun _ => False) Try.func22 rfl rfl (by kernel_rfl) (E.Hp.start w) ?_
  refine E.sr ?_
  refine E.G.new (fun g => .pointer (some ⟨g, 0, none⟩)) [.int .i64 i.op, .int .i64 i.d, .int .i64 i.a, .int .i64 i.b, .int .u32 i.imm] 47 (fun w => by kernel_rfl) (by kernel_rfl) (fun g1 => ?_)
  refine E.op (.int .u32 0) ?_
  refine E.op (.int .i64 0) ?_
  refine E.tr ?_
  refine E.li (.agg #[.int .i64 i.op, .int .i64 i.d, .int .i64 i.a, .int .i64 i.b, .int .u32 i.imm]) 0 rfl rfl ?_
  refine E.G.call (.bool (Q3.valid i)) (fun w h => Valid3_any i hm w) (fun w _ => by kernel_rfl) (by kernel_rfl) ?_
  refine E.op (.bool (Q3.valid i)) ?_
  refine E.To.code ?_
  refine E.C.seq ?_
  refine E.sr ?_
  refine E.op (.bool (Q3.valid i)) ?_
  refine E.op (.bool (!(Q3.valid i))) ?_
  refine E.To.code ?_
  refine E.C.cond (!(Q3.valid i)) (by kernel_rfl) (by kernel_rfl) (fun hc2 => ?_) (fun hc2 => ?_)
  · skip
    refine E.sr ?_
    refine E.op (.int .u32 0) ?_
    refine E.op (.int .i64 12) ?_
    refine E.To.code ?_
    refine E.C.ret (E.P.rt (E.To.body (fn := Try.f22) [.int .u32 0, .int .i64 12] ?_ ?_))
    · exact ⟨⟨by kernel_rfl, by kernel_rfl⟩, ⟨by kernel_rfl, by kernel_rfl⟩, trivial⟩
    · intro w h
      exact ⟨by show Ending.returned (.tuple #[.int .u32 0, .int .i64 12]) = _; unfold Q3.encode; rw [hc2, cond_true] <;> rfl, h.ch.bel (fun _ h => h.elim)⟩
  · skip
    refine E.C.skip (E.To.code ?_)
    refine E.sr ?_
    refine E.op (.pointer (some ⟨g1, 0, none⟩)) ?_
    refine E.li (.int .i64 i.op) 0 rfl rfl ?_
    refine E.op (.int .u32 (IntKind.wrap .u32 i.op)) ?_
    refine E.op (.int .u32 (IntKind.wrap .u32 ((IntKind.wrap .u32 i.op) * 67108864))) ?_
    refine E.op (.pointer (some ⟨g1, 1, none⟩)) ?_
    refine E.li (.int .i64 i.d) 0 rfl rfl ?_
    refine E.op (.int .u32 (IntKind.wrap .u32 i.d)) ?_
    refine E.op (.int .u32 (IntKind.wrap .u32 ((IntKind.wrap .u32 i.d) * 4194304))) ?_
    refine E.op (.int .u32 (IntKind.wrap .u32 ((IntKind.wrap .u32 ((IntKind.wrap .u32 i.op) * 67108864)) + (IntKind.wrap .u32 ((IntKind.wrap .u32 i.d) * 4194304))))) ?_
    refine E.op (.pointer (some ⟨g1, 2, none⟩)) ?_
    refine E.li (.int .i64 i.a) 0 rfl rfl ?_
    refine E.op (.int .u32 (IntKind.wrap .u32 i.a)) ?_
    refine E.op (.int .u32 (IntKind.wrap .u32 ((IntKind.wrap .u32 i.a) * 262144))) ?_
    refine E.op (.int .u32 (IntKind.wrap .u32 ((IntKind.wrap .u32 ((IntKind.wrap .u32 ((IntKind.wrap .u32 i.op) * 67108864)) + (IntKind.wrap .u32 ((IntKind.wrap .u32 i.d) * 4194304)))) + (IntKind.wrap .u32 ((IntKind.wrap .u32 i.a) * 262144))))) ?_
    refine E.op (.pointer (some ⟨g1, 3, none⟩)) ?_
    refine E.li (.int .i64 i.b) 0 rfl rfl ?_
    refine E.op (.int .u32 (IntKind.wrap .u32 i.b)) ?_
    refine E.op (.int .u32 (IntKind.wrap .u32 ((IntKind.wrap .u32 i.b) * 16384))) ?_
    refine E.op (.int .u32 (IntKind.wrap .u32 ((IntKind.wrap .u32 ((IntKind.wrap .u32 ((IntKind.wrap .u32 ((IntKind.wrap .u32 i.op) * 67108864)) + (IntKind.wrap .u32 ((IntKind.wrap .u32 i.d) * 4194304)))) + (IntKind.wrap .u32 ((IntKind.wrap .u32 i.a) * 262144)))) + (IntKind.wrap .u32 ((IntKind.wrap .u32 i.b) * 16384))))) ?_
    refine E.op (.int .u32 (IntKind.wrap .u32 ((IntKind.wrap .u32 ((IntKind.wrap .u32 ((IntKind.wrap .u32 ((IntKind.wrap .u32 i.op) * 67108864)) + (IntKind.wrap .u32 ((IntKind.wrap .u32 i.d) * 4194304)))) + (IntKind.wrap .u32 ((IntKind.wrap .u32 i.a) * 262144)))) + (IntKind.wrap .u32 ((IntKind.wrap .u32 i.b) * 16384))))) ?_
    refine E.To.code ?_
    refine E.C.weak [(1, .pointer (some ⟨g1, 0, none⟩)), (2, .int .u32 0), (3, .int .i64 0), (5, .int .u32 (IntKind.wrap .u32 ((IntKind.wrap .u32 ((IntKind.wrap .u32 ((IntKind.wrap .u32 ((IntKind.wrap .u32 i.op) * 67108864)) + (IntKind.wrap .u32 ((IntKind.wrap .u32 i.d) * 4194304)))) + (IntKind.wrap .u32 ((IntKind.wrap .u32 i.a) * 262144)))) + (IntKind.wrap .u32 ((IntKind.wrap .u32 i.b) * 16384)))))] [(g1, [.int .i64 i.op, .int .i64 i.d, .int .i64 i.a, .int .i64 i.b, .int .u32 i.imm])] ⟨by kernel_rfl, by kernel_rfl⟩ (List.Sublist.refl _) ?_
    refine E.sr ?_
    refine E.op (.pointer (some ⟨g1, 0, none⟩)) ?_
    refine E.li (.int .i64 i.op) 0 rfl rfl ?_
    refine E.G.call (.agg #[.bool ((Q3.of i.op).is), .bool ((Q3.of i.op).d), .bool ((Q3.of i.op).a), .bool ((Q3.of i.op).b), .bool ((Q3.of i.op).sg), .int .i64 (((Q3.of i.op).bits : Nat) : Int), .int .u32 ((Q3.of i.op).most)]) (fun w h => Of3_any i.op w) (fun w _ => by kernel_rfl) (by kernel_rfl) ?_
    refine E.op (.int .i64 (((Q3.of i.op).bits : Nat) : Int)) ?_
    refine E.op (.int .i64 (((Q3.of i.op).bits : Nat) : Int)) ?_
    refine E.To.code ?_
    refine E.C.seq ?_
    refine E.sr ?_
    refine E.op (.int .i64 (((Q3.of i.op).bits : Nat) : Int)) ?_
    refine E.op (.bool ((((Q3.of i.op).bits : Nat) : Int) == 0)) ?_
    refine E.To.code ?_
    refine E.C.cond ((((Q3.of i.op).bits : Nat) : Int) == 0) (by kernel_rfl) (by kernel_rfl) (fun hc3 => ?_) (fun hc3 => ?_)
    · skip
      refine E.sr ?_
      refine E.op (.int .u32 (IntKind.wrap .u32 ((IntKind.wrap .u32 ((IntKind.wrap .u32 ((IntKind.wrap .u32 ((IntKind.wrap .u32 i.op) * 67108864)) + (IntKind.wrap .u32 ((IntKind.wrap .u32 i.d) * 4194304)))) + (IntKind.wrap .u32 ((IntKind.wrap .u32 i.a) * 262144)))) + (IntKind.wrap .u32 ((IntKind.wrap .u32 i.b) * 16384))))) ?_
      refine E.op (.int .u32 (IntKind.wrap .u32 ((IntKind.wrap .u32 ((IntKind.wrap .u32 ((IntKind.wrap .u32 ((IntKind.wrap .u32 i.op) * 67108864)) + (IntKind.wrap .u32 ((IntKind.wrap .u32 i.d) * 4194304)))) + (IntKind.wrap .u32 ((IntKind.wrap .u32 i.a) * 262144)))) + (IntKind.wrap .u32 ((IntKind.wrap .u32 i.b) * 16384))))) ?_
      refine E.op (.int .i64 0) ?_
      refine E.To.code ?_
      refine E.C.ret (E.P.rt (E.To.body (fn := Try.f22) [.int .u32 (IntKind.wrap .u32 ((IntKind.wrap .u32 ((IntKind.wrap .u32 ((IntKind.wrap .u32 ((IntKind.wrap .u32 i.op) * 67108864)) + (IntKind.wrap .u32 ((IntKind.wrap .u32 i.d) * 4194304)))) + (IntKind.wrap .u32 ((IntKind.wrap .u32 i.a) * 262144)))) + (IntKind.wrap .u32 ((IntKind.wrap .u32 i.b) * 16384)))), .int .i64 0] ?_ ?_))
      · exact ⟨⟨by kernel_rfl, by kernel_rfl⟩, ⟨by kernel_rfl, by kernel_rfl⟩, trivial⟩
      · intro w h
        exact ⟨by show Ending.returned (.tuple #[.int .u32 (IntKind.wrap .u32 ((IntKind.wrap .u32 ((IntKind.wrap .u32 ((IntKind.wrap .u32 ((IntKind.wrap .u32 i.op) * 67108864)) + (IntKind.wrap .u32 ((IntKind.wrap .u32 i.d) * 4194304)))) + (IntKind.wrap .u32 ((IntKind.wrap .u32 i.a) * 262144)))) + (IntKind.wrap .u32 ((IntKind.wrap .u32 i.b) * 16384)))), .int .i64 0]) = _; unfold Q3.encode; rw [hc2, cond_false, hc3, cond_true] <;> rfl, h.ch.bel (fun _ h => h.elim)⟩
    · skip
      refine E.C.skip (E.To.code ?_)
      refine E.sr ?_
      refine E.op (.int .u32 (IntKind.wrap .u32 ((IntKind.wrap .u32 ((IntKind.wrap .u32 ((IntKind.wrap .u32 ((IntKind.wrap .u32 i.op) * 67108864)) + (IntKind.wrap .u32 ((IntKind.wrap .u32 i.d) * 4194304)))) + (IntKind.wrap .u32 ((IntKind.wrap .u32 i.a) * 262144)))) + (IntKind.wrap .u32 ((IntKind.wrap .u32 i.b) * 16384))))) ?_
      refine E.op (.pointer (some ⟨g1, 4, none⟩)) ?_
      refine E.li (.int .u32 i.imm) 0 rfl rfl ?_
      refine E.op (.int .i64 (((Q3.of i.op).bits : Nat) : Int)) ?_
      refine E.G.val (.int .u64 (((Q3.of i.op).bits : Nat) : Int)) (by kernel_rfl) (fun w h => E.run_as (a := .int .u64 (IntKind.wrap .u64 (((Q3.of i.op).bits : Nat) : Int))) (by kernel_rfl) (congrArg (Value.int .u64) (Q.w64u (by omega)))) ?_
      refine E.G.val (.int .u32 (IntKind.wrap .u32 (1 * 2 ^ (min ((Q3.of i.op).bits) 32)))) (by kernel_rfl) (fun w h => E.shlN (k2 := .u64) 1 ((Q3.of i.op).bits) 32 (by rfl) (by kernel_rfl) (by kernel_rfl) w) ?_
      refine E.G.val (.int .u32 (Int.tmod i.imm (IntKind.wrap .u32 (1 * 2 ^ (min ((Q3.of i.op).bits) 32))))) (by kernel_rfl) (fun w h => E.remI i.imm (IntKind.wrap .u32 (1 * 2 ^ (min ((Q3.of i.op).bits) 32))) (by kernel_rfl) (by kernel_rfl) (Q3.pow_ne hb) w) ?_
      refine E.op (.int .u32 (IntKind.wrap .u32 ((IntKind.wrap .u32 ((IntKind.wrap .u32 ((IntKind.wrap .u32 ((IntKind.wrap .u32 ((IntKind.wrap .u32 i.op) * 67108864)) + (IntKind.wrap .u32 ((IntKind.wrap .u32 i.d) * 4194304)))) + (IntKind.wrap .u32 ((IntKind.wrap .u32 i.a) * 262144)))) + (IntKind.wrap .u32 ((IntKind.wrap .u32 i.b) * 16384)))) + (Int.tmod i.imm (IntKind.wrap .u32 (1 * 2 ^ (min ((Q3.of i.op).bits) 32))))))) ?_
      refine E.op (.int .u32 (IntKind.wrap .u32 ((IntKind.wrap .u32 ((IntKind.wrap .u32 ((IntKind.wrap .u32 ((IntKind.wrap .u32 ((IntKind.wrap .u32 i.op) * 67108864)) + (IntKind.wrap .u32 ((IntKind.wrap .u32 i.d) * 4194304)))) + (IntKind.wrap .u32 ((IntKind.wrap .u32 i.a) * 262144)))) + (IntKind.wrap .u32 ((IntKind.wrap .u32 i.b) * 16384)))) + (Int.tmod i.imm (IntKind.wrap .u32 (1 * 2 ^ (min ((Q3.of i.op).bits) 32))))))) ?_
      refine E.op (.int .i64 0) ?_
      refine E.To.code ?_
      refine E.C.weak [(2, .int .u32 (IntKind.wrap .u32 ((IntKind.wrap .u32 ((IntKind.wrap .u32 ((IntKind.wrap .u32 ((IntKind.wrap .u32 ((IntKind.wrap .u32 i.op) * 67108864)) + (IntKind.wrap .u32 ((IntKind.wrap .u32 i.d) * 4194304)))) + (IntKind.wrap .u32 ((IntKind.wrap .u32 i.a) * 262144)))) + (IntKind.wrap .u32 ((IntKind.wrap .u32 i.b) * 16384)))) + (Int.tmod i.imm (IntKind.wrap .u32 (1 * 2 ^ (min ((Q3.of i.op).bits) 32))))))), (3, .int .i64 0)] [] ⟨by kernel_rfl, by kernel_rfl⟩ (List.nil_sublist _) ?_
      refine E.C.ret (E.To.body (fn := Try.f22) [.int .u32 (IntKind.wrap .u32 ((IntKind.wrap .u32 ((IntKind.wrap .u32 ((IntKind.wrap .u32 ((IntKind.wrap .u32 ((IntKind.wrap .u32 i.op) * 67108864)) + (IntKind.wrap .u32 ((IntKind.wrap .u32 i.d) * 4194304)))) + (IntKind.wrap .u32 ((IntKind.wrap .u32 i.a) * 262144)))) + (IntKind.wrap .u32 ((IntKind.wrap .u32 i.b) * 16384)))) + (Int.tmod i.imm (IntKind.wrap .u32 (1 * 2 ^ (min ((Q3.of i.op).bits) 32)))))), .int .i64 0] ?_ ?_)
      · exact ⟨⟨by kernel_rfl, by kernel_rfl⟩, ⟨by kernel_rfl, by kernel_rfl⟩, trivial⟩
      · intro w h
        exact ⟨by show Ending.returned (.tuple #[.int .u32 (IntKind.wrap .u32 ((IntKind.wrap .u32 ((IntKind.wrap .u32 ((IntKind.wrap .u32 ((IntKind.wrap .u32 ((IntKind.wrap .u32 i.op) * 67108864)) + (IntKind.wrap .u32 ((IntKind.wrap .u32 i.d) * 4194304)))) + (IntKind.wrap .u32 ((IntKind.wrap .u32 i.a) * 262144)))) + (IntKind.wrap .u32 ((IntKind.wrap .u32 i.b) * 16384)))) + (Int.tmod i.imm (IntKind.wrap .u32 (1 * 2 ^ (min ((Q3.of i.op).bits) 32)))))), .int .i64 0]) = _; unfold Q3.encode; rw [hc2, cond_false, hc3, cond_false] <;> rfl, h.ch.bel (fun _ h => h.elim)⟩
end Go.Proofs.Ytgbndbljohpnmaa

/- XQs -/
namespace Go.Proofs.Ytgbndbljohpnmaa
set_option linter.unusedVariables false
set_option linter.unusedSimpArgs false
open Go.RowKit
def Q3.ops : List Int := [1, 2, 3, 4, 5, 6, 7, 8, 9, 10, 11, 12, 16, 17, 18, 19, 20, 21, 22, 23, 24, 25, 26, 27, 32, 33, 34, 35, 36, 37, 40, 41, 48, 49, 50, 51, 52, 53, 54]
def Q3.o2 : List Value := [.int .i64 1, .int .i64 2]
def Q3.o3 : List Value := [.int .i64 1, .int .i64 2, .int .i64 3]
def Q3.o4 : List Value := [.int .i64 1, .int .i64 2, .int .i64 3, .int .i64 4]
def Q3.o5 : List Value := [.int .i64 1, .int .i64 2, .int .i64 3, .int .i64 4, .int .i64 5]
def Q3.opAt (n : Int) : Int := Q3.ops.getD (0 + n.toNat * 1) 0
theorem Q3.bifm {c : Bool} {x y : Q3.Fm} (hx : 0 ≤ x.most ∧ x.most ≤ 4) (hy : 0 ≤ y.most ∧ y.most ≤ 4) : 0 ≤ (bif c then x else y).most ∧ (bif c then x else y).most ≤ 4 := by
  cases c
  · exact hy
  · exact hx
theorem Q3.of_most (x : Int) : 0 ≤ (Q3.of x).most ∧ (Q3.of x).most ≤ 4 := by
  unfold Q3.of
  repeat' (first | (show (0 : Int) ≤ _ ∧ (_ : Int) ≤ 4; decide) | refine Q3.bifm ?_ ?_)
def Q3.two (b : Nat) : Int := ((2 ^ b : Nat) : Int)
end Go.Proofs.Ytgbndbljohpnmaa

/- XQv -/
namespace Go.Proofs.Ytgbndbljohpnmaa
set_option linter.unusedVariables false
set_option linter.unusedSimpArgs false
open Go.RowKit
theorem Q.or_hi (x y : Int) (m : Nat) (h0 : 0 ≤ x ∧ x < 4294967296) (hx : x % ((2 ^ m : Nat) : Int) = 0) (hy : 0 ≤ y ∧ y < ((2 ^ m : Nat) : Int)) (hy2 : y < 4294967296) : bits .or .u32 x y = x + y := by
  obtain ⟨X, rfl⟩ := Int.eq_ofNat_of_zero_le h0.1
  obtain ⟨Y, rfl⟩ := Int.eq_ofNat_of_zero_le hy.1
  rw [u32_or_nat _ _ (by omega) (by omega)]
  have hX : X % 2 ^ m = 0 := by have := hx; rw [← Int.natCast_emod] at this; omega
  have hY : Y < 2 ^ m := by have := hy.2; omega
  obtain ⟨q, rfl⟩ := Nat.dvd_of_mod_eq_zero hX
  rw [← Nat.two_pow_add_eq_or_of_lt hY]; simp
theorem Q3.op_rng {x : Int} (h : (Q3.of x).is = true) : 0 ≤ x ∧ x < 64 := by
  rcases Classical.em (0 ≤ x ∧ x < 64) with k | k
  · exact k
  · have : Q3.of x = ⟨false, false, false, false, false, 0, 0⟩ := by
      unfold Q3.of
      have e1 : (decide (x ≥ 1) && decide (x ≤ 12)) = false := by simp; omega
      have e2 : (x == 17 || x == 18 || x == 19) = false := by simp; omega
      have e3 : ((decide (x ≥ 16) && decide (x ≤ 27)) || (decide (x ≥ 32) && decide (x ≤ 37))) = false := by simp; omega
      have f : ∀ n : Int, 0 ≤ n → n < 64 → (x == n) = false := fun n h1 h2 => by simp; omega
      rw [e1, e2, e3, f 40 (by decide) (by decide), f 41 (by decide) (by decide), f 48 (by decide) (by decide), f 49 (by decide) (by decide), f 50 (by decide) (by decide), f 51 (by decide) (by decide), f 52 (by decide) (by decide), f 53 (by decide) (by decide), f 54 (by decide) (by decide)]; rfl
    rw [this] at h; cases h
def Q3.kd (F : Q3.Fm) : Int := if F.bits = 0 then 0 else if F.sg then 1 else 2
theorem Q3.of_tab : ∀ k : Fin 64, (Q3.of ((k.val : Nat) : Int)).is = true → (Q.shf k.val).kn = true ∧ (Q.shf k.val).d = (Q3.of ((k.val : Nat) : Int)).d ∧ (Q.shf k.val).a = (Q3.of ((k.val : Nat) : Int)).a ∧ (Q.shf k.val).b = (Q3.of ((k.val : Nat) : Int)).b ∧ (Q.shf k.val).bits = (Q3.of ((k.val : Nat) : Int)).bits ∧ (Q.shf k.val).kind = Q3.kd (Q3.of ((k.val : Nat) : Int)) ∧ (Q.shf k.val).most = (Q3.of ((k.val : Nat) : Int)).most ∧
    ((Q3.of ((k.val : Nat) : Int)).bits = 22 ∧ (Q3.of ((k.val : Nat) : Int)).a = false ∧ (Q3.of ((k.val : Nat) : Int)).b = false ∨ (Q3.of ((k.val : Nat) : Int)).bits = 18 ∧ (Q3.of ((k.val : Nat) : Int)).b = false ∨ (Q3.of ((k.val : Nat) : Int)).bits = 0) := by decide +kernel
/-- The format of an operation that there is, in both. -/
theorem Q3.of_same {x : Int} (h : (Q3.of x).is = true) : (Q.of x).kn = true ∧ (Q.of x).d = (Q3.of x).d ∧ (Q.of x).a = (Q3.of x).a ∧ (Q.of x).b = (Q3.of x).b ∧ (Q.of x).bits = (Q3.of x).bits ∧ (Q.of x).kind = Q3.kd (Q3.of x) ∧ (Q.of x).most = (Q3.of x).most ∧
    ((Q3.of x).bits = 22 ∧ (Q3.of x).a = false ∧ (Q3.of x).b = false ∨ (Q3.of x).bits = 18 ∧ (Q3.of x).b = false ∨ (Q3.of x).bits = 0) := by
  have hr := Q3.op_rng h
  obtain ⟨n, rfl⟩ := Int.eq_ofNat_of_zero_le hr.1
  rw [Q.of_lt hr]
  exact Q3.of_tab ⟨n, by omega⟩ h
theorem Q.wr (z : Int) : IntKind.wrap .u32 z = z % 4294967296 := rfl
/-- The word of five fields. -/
theorem Q.word {op d a b m y : Int} {bt : Nat} (ho : 0 ≤ op ∧ op < 64) (hd : 0 ≤ d ∧ d < 16) (ha : 0 ≤ a ∧ a < 16) (hb : 0 ≤ b ∧ b < 16) (hy : 0 ≤ y ∧ y < 4294967296) (hm : m = y % ((2 ^ bt : Nat) : Int))
    (hc : bt = 22 ∧ a = 0 ∧ b = 0 ∨ bt = 18 ∧ b = 0 ∨ bt = 0) :
    bits .or .u32 (bits .or .u32 (bits .or .u32 (bits .or .u32 (IntKind.wrap .u32 ((IntKind.wrap .u32 op) * 2 ^ 26)) (IntKind.wrap .u32 ((IntKind.wrap .u32 d) * 2 ^ 22))) (IntKind.wrap .u32 ((IntKind.wrap .u32 a) * 2 ^ 18))) (IntKind.wrap .u32 ((IntKind.wrap .u32 b) * 2 ^ 14))) (bits .and .u32 y (IntKind.wrap .u32 ((IntKind.wrap .u32 (1 * 2 ^ (min bt 32))) - 1)))
      = op * 67108864 + d * 4194304 + a * 262144 + b * 16384 + m := by
  have e1 : IntKind.wrap .u32 ((IntKind.wrap .u32 op) * 2 ^ 26) = op * 67108864 := by rw [Q.wr, Q.wr]; omega
  have e2 : IntKind.wrap .u32 ((IntKind.wrap .u32 d) * 2 ^ 22) = d * 4194304 := by rw [Q.wr, Q.wr]; omega
  have e3 : IntKind.wrap .u32 ((IntKind.wrap .u32 a) * 2 ^ 18) = a * 262144 := by rw [Q.wr, Q.wr]; omega
  have e4 : IntKind.wrap .u32 ((IntKind.wrap .u32 b) * 2 ^ 14) = b * 16384 := by rw [Q.wr, Q.wr]; omega
  have e5 : bits .and .u32 y (IntKind.wrap .u32 ((IntKind.wrap .u32 (1 * 2 ^ (min bt 32))) - 1)) = y % ((2 ^ bt : Nat) : Int) := by
    rcases hc with ⟨rfl, _⟩ | ⟨rfl, _⟩ | rfl
    · exact W.and_mask 22 (by decide) y hy.1 hy.2
    · exact W.and_mask 18 (by decide) y hy.1 hy.2
    · exact W.and_mask 0 (by decide) y hy.1 hy.2
  have o1 : bits .or .u32 (op * 67108864) (d * 4194304) = op * 67108864 + d * 4194304 := Q.or_hi _ _ 26 (by omega) (by simp) (by simp; omega) (by omega)
  have o2 : bits .or .u32 (op * 67108864 + d * 4194304) (a * 262144) = op * 67108864 + d * 4194304 + a * 262144 := Q.or_hi _ _ 22 (by omega) (by first | omega | simp | (simp; omega)) (by simp; omega) (by omega)
  have o3 : bits .or .u32 (op * 67108864 + d * 4194304 + a * 262144) (b * 16384) = op * 67108864 + d * 4194304 + a * 262144 + b * 16384 := Q.or_hi _ _ 18 (by omega) (by first | omega | simp | (simp; omega)) (by simp; omega) (by omega)
  rw [e1, e2, e3, e4, e5, ← hm, o1, o2, o3]
  rcases hc with ⟨rfl, rfl, rfl⟩ | ⟨rfl, rfl⟩ | rfl
  · have : m = y % 4194304 := hm
    exact Q.or_hi _ _ 22 (by omega) (by first | omega | simp | (simp; omega)) (by simp; omega) (by omega)
  · have : m = y % 262144 := hm
    exact Q.or_hi _ _ 18 (by omega) (by first | omega | simp | (simp; omega)) (by simp; omega) (by omega)
  · have : m = y % 1 := hm
    exact Q.or_hi _ _ 0 (by omega) (by first | omega | simp | (simp; omega)) (by simp; omega) (by omega)
/-- The fields of a word. -/
theorem Q.fld {op d a b m : Int} (ho : 0 ≤ op ∧ op < 64) (hd : 0 ≤ d ∧ d < 16) (ha : 0 ≤ a ∧ a < 16) (hb : 0 ≤ b ∧ b < 16) {bt : Nat} (hm : 0 ≤ m ∧ m < ((2 ^ bt : Nat) : Int)) (hc : bt = 22 ∧ a = 0 ∧ b = 0 ∨ bt = 18 ∧ b = 0 ∨ bt = 0) {w : Int} (hw : w = op * 67108864 + d * 4194304 + a * 262144 + b * 16384 + m) :
    (0 ≤ w ∧ w < 4294967296) ∧ Q.dop w = op ∧ Q.field w true 22 = d ∧ (bt = 22 ∨ Q.field w true 18 = a) ∧ (bt ≠ 0 ∨ Q.field w true 14 = b) ∧ w % ((2 ^ bt : Nat) : Int) = m := by
  have f0 : Q.dop w = IntKind.wrap .i64 (w / 67108864) := by
    show IntKind.wrap .i64 (Int.fdiv w 67108864) = _
    rw [Int.fdiv_eq_ediv_of_nonneg _ (by decide)]
  have f1 : Q.field w true 22 = IntKind.wrap .i64 (w / 4194304 % 16) := by
    show IntKind.wrap .i64 (Int.tmod (Int.fdiv w 4194304) 16) = _
    rw [Int.fdiv_eq_ediv_of_nonneg _ (by decide), Int.tmod_eq_emod_of_nonneg (by rcases hc with ⟨rfl, _⟩ | ⟨rfl, _⟩ | rfl <;> simp at hm <;> omega)]
  have f2 : Q.field w true 18 = IntKind.wrap .i64 (w / 262144 % 16) := by
    show IntKind.wrap .i64 (Int.tmod (Int.fdiv w 262144) 16) = _
    rw [Int.fdiv_eq_ediv_of_nonneg _ (by decide), Int.tmod_eq_emod_of_nonneg (by rcases hc with ⟨rfl, _⟩ | ⟨rfl, _⟩ | rfl <;> simp at hm <;> omega)]
  have f3 : Q.field w true 14 = IntKind.wrap .i64 (w / 16384 % 16) := by
    show IntKind.wrap .i64 (Int.tmod (Int.fdiv w 16384) 16) = _
    rw [Int.fdiv_eq_ediv_of_nonneg _ (by decide), Int.tmod_eq_emod_of_nonneg (by rcases hc with ⟨rfl, _⟩ | ⟨rfl, _⟩ | rfl <;> simp at hm <;> omega)]
  have hm' : 0 ≤ m ∧ m < 4194304 := by rcases hc with ⟨rfl, _⟩ | ⟨rfl, _⟩ | rfl <;> simp at hm <;> omega
  have hs : a * 262144 + b * 16384 + m < 4194304 := by rcases hc with ⟨rfl, rfl, rfl⟩ | ⟨rfl, rfl⟩ | rfl <;> simp at hm <;> omega
  rw [f0, f1, f2, f3, IntWalk.i64_in _ (by omega), IntWalk.i64_in _ (by omega), IntWalk.i64_in _ (by omega), IntWalk.i64_in _ (by omega)]
  refine ⟨by omega, by omega, by omega, ?_, ?_, ?_⟩
  · rcases hc with ⟨rfl, _⟩ | ⟨rfl, rfl⟩ | rfl
    · exact Or.inl rfl
    · exact Or.inr (by simp at hm; omega)
    · exact Or.inr (by simp at hm; omega)
  · rcases hc with ⟨rfl, _⟩ | ⟨rfl, rfl⟩ | rfl
    · exact Or.inl (by decide)
    · exact Or.inl (by decide)
    · exact Or.inr (by simp at hm; omega)
  · rcases hc with ⟨rfl, rfl, rfl⟩ | ⟨rfl, rfl⟩ | rfl <;> simp at hm ⊢ <;> omega
theorem Q3.reg_bd {n : Int} {u : Bool} (h : Q3.reg n u = true) : (0 ≤ n ∧ n < 16) ∧ (u = false → n = 0) := by
  unfold Q3.reg at h
  cases u
  · have : (n == 0) = true := by simpa using h
    have : n = 0 := by simpa using this
    exact ⟨by omega, fun _ => this⟩
  · simp at h
    exact ⟨by omega, fun e => nomatch e⟩
def Q3.iimm (F : Q3.Fm) (n : Int) : Bool := (bif ((((F).bits : Nat) : Int) == 0) then (n == 0) else (bif (F).sg then (W.sign n (((F).bits : Nat) : Int) == n) else (bif (decide (((F).most) > 0)) then (decide (n ≤ ((F).most))) else (decide (n < (IntKind.wrap .u32 (1 * 2 ^ (min ((F).bits) 32))))))))
theorem Q3.valid_parts {i : Q.I} (h : Q3.valid i = true) : (Q3.of i.op).is = true ∧ Q3.reg i.d (Q3.of i.op).d = true ∧ Q3.reg i.a (Q3.of i.op).a = true ∧ Q3.reg i.b (Q3.of i.op).b = true ∧ Q3.iimm (Q3.of i.op) i.imm = true := by
  have h : (bif (!((Q3.of i.op).is)) then false else (bif (((!(Q3.reg i.d ((Q3.of i.op).d))) || (!(Q3.reg i.a ((Q3.of i.op).a)))) || (!(Q3.reg i.b ((Q3.of i.op).b)))) then false else Q3.iimm (Q3.of i.op) i.imm)) = true := h
  revert h
  cases (Q3.of i.op).is <;> cases Q3.reg i.d ((Q3.of i.op).d) <;> cases Q3.reg i.a ((Q3.of i.op).a) <;> cases Q3.reg i.b ((Q3.of i.op).b) <;> simp
theorem Q.imm_same {F : Q3.Fm} {s : Q.Sh} (hb : s.bits = F.bits) (hk : s.kind = Q3.kd F) (hm : s.most = F.most) (hc : F.bits = 22 ∨ F.bits = 18 ∨ F.bits = 0) {n : Int} (hn : 0 ≤ n ∧ n < 4294967296) (h : Q3.iimm F n = true) : Q.immediate s n = true := by
  obtain ⟨is, d, a, b, sg, bits, most⟩ := F
  obtain ⟨kn, d2, a2, b2, kind, bits2, most2⟩ := s
  simp only at hb hk hm hc
  subst hb hm
  unfold Q3.iimm at h
  unfold Q.immediate
  rcases hc with rfl | rfl | rfl <;> cases sg <;> simp [Q3.kd] at hk <;> subst hk <;> simp at h ⊢
  all_goals first
    | exact h
    | (split at h
       · rename_i hp; rw [if_pos hp]; exact h
       · rename_i hp
         rw [if_neg hp, Int.fdiv_eq_ediv_of_nonneg _ (by decide)]
         rw [Q.wr] at h; omega)
theorem Q.sign_again {n : Int} {k : Nat} (hk : k = 22 ∨ k = 18) (hn : 0 ≤ n ∧ n < 4294967296) : W.sign (n % ((2 ^ k : Nat) : Int)) ((k : Nat) : Int) = W.sign n ((k : Nat) : Int) := by
  rcases hk with rfl | rfl
  · show W.sign (n % 4194304) 22 = W.sign n 22
    simp only [W.sign, Int.reduceSub, Int.reduceToNat, Int.reducePow, Int.reduceLT, Int.reduceLE, ↓reduceIte, Int.emod_emod]
  · show W.sign (n % 262144) 18 = W.sign n 18
    simp only [W.sign, Int.reduceSub, Int.reduceToNat, Int.reducePow, Int.reduceLT, Int.reduceLE, ↓reduceIte, Int.emod_emod]
theorem Q.mod_low {n : Int} {b : Nat} (h : b ≤ 22) : Int.tmod n (IntKind.wrap .u32 (1 * 2 ^ (min b 32))) = Int.tmod n ((2 ^ b : Nat) : Int) := by
  have e : ∀ b : Fin 23, IntKind.wrap .u32 (1 * 2 ^ (min b.val 32)) = ((2 ^ b.val : Nat) : Int) := by decide +kernel
  rw [e ⟨b, by omega⟩]
/-- A valid instruction's word is the same in both, and is decoded to the instruction. -/
theorem Q3.valid_enc {i : Q.I} (hn : 0 ≤ i.imm ∧ i.imm < 4294967296) (h : Q3.valid i = true) : (Q3.encode i).2 = 0 ∧ Q.encode i = Q3.encode i ∧ Q.decode (Q3.encode i).1 = (i, 0) := by
  obtain ⟨his, hd, ha, hb, hi⟩ := Q3.valid_parts h
  have hr := Q3.op_rng his
  obtain ⟨tk, td, ta, tb, tbits, tkind, tmost, tc⟩ := Q3.of_same his
  have bd := Q3.reg_bd hd
  have ba := Q3.reg_bd ha
  have bb := Q3.reg_bd hb
  have hc : (Q3.of i.op).bits = 22 ∧ i.a = 0 ∧ i.b = 0 ∨ (Q3.of i.op).bits = 18 ∧ i.b = 0 ∨ (Q3.of i.op).bits = 0 := by
    rcases tc with ⟨e, e1, e2⟩ | ⟨e, e1⟩ | e
    · exact Or.inl ⟨e, ba.2 e1, bb.2 e2⟩
    · exact Or.inr (Or.inl ⟨e, bb.2 e1⟩)
    · exact Or.inr (Or.inr e)
  have hv : Q.valid i = true := by
    unfold Q.valid
    rw [tk, td, ta, tb, Q.imm_same tbits tkind tmost (by rcases tc with ⟨e, _⟩ | ⟨e, _⟩ | e <;> simp [e]) hn hi]
    have f : ∀ n u, Q.fits n u = Q3.reg n u := fun _ _ => rfl
    rw [f, f, f, hd, ha, hb]; rfl
  have hm : 0 ≤ i.imm % ((2 ^ (Q3.of i.op).bits : Nat) : Int) ∧ i.imm % ((2 ^ (Q3.of i.op).bits : Nat) : Int) < ((2 ^ (Q3.of i.op).bits : Nat) : Int) := by
    have : (0 : Int) < ((2 ^ (Q3.of i.op).bits : Nat) : Int) := by have := Nat.two_pow_pos (Q3.of i.op).bits; omega
    exact ⟨Int.emod_nonneg _ (by omega), Int.emod_lt_of_pos _ this⟩
  have hm22 : i.imm % ((2 ^ (Q3.of i.op).bits : Nat) : Int) < 4194304 := by
    rcases hc with ⟨e, _⟩ | ⟨e, _⟩ | e <;> rw [e] at hm ⊢ <;> simp at hm ⊢ <;> omega
  have hlow : i.a * 262144 + i.b * 16384 + i.imm % ((2 ^ (Q3.of i.op).bits : Nat) : Int) < 4194304 := by
    rcases hc with ⟨e, e1, e2⟩ | ⟨e, e1⟩ | e <;> rw [e] at hm ⊢ <;> simp at hm ⊢ <;> omega
  have e3 : Q3.encode i = (i.op * 67108864 + i.d * 4194304 + i.a * 262144 + i.b * 16384 + i.imm % ((2 ^ (Q3.of i.op).bits : Nat) : Int), 0) := by
    unfold Q3.encode
    rw [h]
    show (bif ((((Q3.of i.op).bits : Nat) : Int) == 0) then _ else _) = _
    cases hz : ((((Q3.of i.op).bits : Nat) : Int) == 0) with
    | true =>
      have : (Q3.of i.op).bits = 0 := by simpa using hz
      rw [cond_true, this]
      refine congrArg (·, (0 : Int)) ?_
      simp only [Q.wr]; simp; omega
    | false =>
      rw [cond_false, Q.mod_low (Q3.of_bits _), Int.tmod_eq_emod_of_nonneg hn.1]
      refine congrArg (·, (0 : Int)) ?_
      generalize i.imm % ((2 ^ (Q3.of i.op).bits : Nat) : Int) = m at *
      simp only [Q.wr]; omega
  have eq : Q.encode i = Q3.encode i := by
    rw [e3]
    unfold Q.encode
    rw [hv, tbits]
    exact congrArg (·, (0 : Int)) (Q.word hr bd.1 ba.1 bb.1 hn rfl hc)
  refine ⟨by rw [e3], eq, ?_⟩
  have hw : (Q3.encode i).1 = i.op * 67108864 + i.d * 4194304 + i.a * 262144 + i.b * 16384 + i.imm % ((2 ^ (Q3.of i.op).bits : Nat) : Int) := by rw [e3]
  have e2 : (Q.encode i).2 = 0 := by rw [eq, e3]
  obtain ⟨hw0, f0, f1, f2, f3, f4⟩ := Q.fld hr bd.1 ba.1 bb.1 hm hc hw
  have g1 : Q.field (Q3.encode i).1 (Q.of i.op).d 22 = i.d := by
    cases hu : (Q3.of i.op).d with
    | true => rw [td, hu]; exact f1
    | false => rw [td, hu]; exact (bd.2 hu).symm
  have g2 : Q.field (Q3.encode i).1 (Q.of i.op).a 18 = i.a := by
    cases hu : (Q3.of i.op).a with
    | false => rw [ta, hu]; exact (ba.2 hu).symm
    | true =>
      rw [ta, hu]
      rcases tc with ⟨e, e1, _⟩ | ⟨e, _⟩ | e
      · rw [e1] at hu; cases hu
      · exact f2.resolve_left (by rw [e]; decide)
      · exact f2.resolve_left (by rw [e]; decide)
  have g3 : Q.field (Q3.encode i).1 (Q.of i.op).b 14 = i.b := by
    cases hu : (Q3.of i.op).b with
    | false => rw [tb, hu]; exact (bb.2 hu).symm
    | true =>
      rw [tb, hu]
      rcases tc with ⟨e, _, e1⟩ | ⟨e, e1⟩ | e
      · rw [e1] at hu; cases hu
      · rw [e1] at hu; cases hu
      · exact f3.resolve_left (by rw [e]; decide)
  have g4 : Q.dimm (Q3.encode i).1 = i.imm % ((2 ^ (Q3.of i.op).bits : Nat) : Int) := by
    rw [← f4]
    unfold Q.dimm
    rw [f0, tbits]
    rcases hc with ⟨e, _⟩ | ⟨e, _⟩ | e <;> rw [e]
    · exact W.and_mask 22 (by decide) _ hw0.1 hw0.2
    · exact W.and_mask 18 (by decide) _ hw0.1 hw0.2
    · exact W.and_mask 0 (by decide) _ hw0.1 hw0.2
  have key : ∀ c : Q.I, c = i → (bif ((((Q.encode c).2) != 0) || (((Q.encode c).1) != (Q3.encode i).1)) then ((⟨0, 0, 0, 0, 0⟩ : Q.I), (12 : Int)) else (c, 0)) = (i, 0) := fun c hc => by
    subst hc
    rw [e2, eq]; simp
  unfold Q.decode
  rw [f0, tkind]
  cases hk : (Q3.kd (Q3.of i.op) == 1) with
  | true =>
    refine key _ ?_
    unfold Q.c1 Q.dsg
    rw [g4, f0, g1, g2, g3, tbits]
    have hk1 : (Q3.of i.op).bits ≠ 0 ∧ (Q3.of i.op).sg = true := by
      unfold Q3.kd at hk
      by_cases z : (Q3.of i.op).bits = 0
      · rw [if_pos z] at hk; cases hk
      · rw [if_neg z] at hk
        cases hs : (Q3.of i.op).sg with
        | true => exact ⟨z, rfl⟩
        | false => rw [hs] at hk; cases hk
    rw [Q.sign_again (by rcases tc with ⟨e, _⟩ | ⟨e, _⟩ | e <;> omega) hn]
    have : W.sign i.imm (((Q3.of i.op).bits : Nat) : Int) = i.imm := by
      unfold Q3.iimm at hi
      rw [hk1.2, show ((((Q3.of i.op).bits : Nat) : Int) == 0) = false by simp; exact hk1.1] at hi
      simpa using hi
    rw [this]
  | false =>
    refine key _ ?_
    unfold Q.c0
    rw [g4, f0, g1, g2, g3]
    have : i.imm % ((2 ^ (Q3.of i.op).bits : Nat) : Int) = i.imm := by
      have hmo := Q3.of_most i.op
      unfold Q3.iimm at hi
      rcases tc with ⟨e, _⟩ | ⟨e, _⟩ | e
      · have hs : (Q3.of i.op).sg = false := by
          cases hs : (Q3.of i.op).sg with
          | false => rfl
          | true => unfold Q3.kd at hk; rw [hs, e] at hk; cases hk
        rw [hs, e] at hi; rw [e]
        simp only [Q.wr] at hi; simp at hi ⊢
        split at hi <;> omega
      · have hs : (Q3.of i.op).sg = false := by
          cases hs : (Q3.of i.op).sg with
          | false => rfl
          | true => unfold Q3.kd at hk; rw [hs, e] at hk; cases hk
        rw [hs, e] at hi; rw [e]
        simp only [Q.wr] at hi; simp at hi ⊢
        split at hi <;> omega
      · rw [e] at hi; rw [e]
        simp at hi ⊢
        omega
    rw [this]
end Go.Proofs.Ytgbndbljohpnmaa

/- XQt -/
namespace Go.Proofs.Ytgbndbljohpnmaa
set_option linter.unusedVariables false
set_option linter.unusedSimpArgs false
open Go.RowKit
def Q3.cst (d n : Int) : Q.I × Q.I := (⟨41, d, 0, 0, (IntKind.wrap .u32 (Int.tdiv n 1024))⟩, ⟨18, d, d, 0, (Int.tmod n 1024)⟩)
theorem Const3_any (d n : Int) (w : World) : Calls Try.prog 30 #[.int .i64 d, .int .u32 n] w fun e w' => e = .returned (.agg #[.int .i64 (((Q3.cst d n).1).op), .int .i64 (((Q3.cst d n).1).d), .int .i64 (((Q3.cst d n).1).a), .int .i64 (((Q3.cst d n).1).b), .int .u32 (((Q3.cst d n).1).imm), .int .i64 (((Q3.cst d n).2).op), .int .i64 (((Q3.cst d n).2).d), .int .i64 (((Q3.cst d n).2).a), .int .i64 (((Q3.cst d n).2).b), .int .u32 (((Q3.cst d n).2).imm)]) ∧ Bel w w' := by
  refine E.enter (n := 15) (S := fun _ => False) Try.func30 rfl rfl (by kernel_rfl) (E.Hp.start w) ?_
  refine E.sr ?_
  refine E.G.new (fun g => .pointer (some ⟨g, 0, none⟩)) [.int .i64 0, .int .i64 0, .int .i64 0, .int .i64 0, .int .u32 0, .int .i64 0, .int .i64 0, .int .i64 0, .int .i64 0, .int .u32 0] 70 (fun w => by kernel_rfl) (by kernel_rfl) (fun g1 => ?_)
  refine E.tr ?_
  refine E.op (.int .i64 d) ?_
  refine E.op (.int .u32 n) ?_
  refine E.op (.int .u32 (IntKind.wrap .u32 (Int.tdiv n 1024))) ?_
  refine E.G.val (.agg #[.int .i64 41, .int .i64 d, .int .i64 0, .int .i64 0, .int .u32 (IntKind.wrap .u32 (Int.tdiv n 1024))]) (by kernel_rfl) (fun w h => E.run_build #[.int .i64 41, .int .i64 d, .int .i64 0, .int .i64 0, .int .u32 (IntKind.wrap .u32 (Int.tdiv n 1024))] (by kernel_rfl) w) ?_
  refine E.op (.int .i64 d) ?_
  refine E.op (.int .i64 d) ?_
  refine E.op (.int .u32 n) ?_
  refine E.op (.int .u32 (Int.tmod n 1024)) ?_
  refine E.G.val (.agg #[.int .i64 18, .int .i64 d, .int .i64 d, .int .i64 0, .int .u32 (Int.tmod n 1024)]) (by kernel_rfl) (fun w h => E.run_build #[.int .i64 18, .int .i64 d, .int .i64 d, .int .i64 0, .int .u32 (Int.tmod n 1024)] (by kernel_rfl) w) ?_
  refine E.G.val (.agg #[.int .i64 41, .int .i64 d, .int .i64 0, .int .i64 0, .int .u32 (IntKind.wrap .u32 (Int.tdiv n 1024)), .int .i64 18, .int .i64 d, .int .i64 d, .int .i64 0, .int .u32 (Int.tmod n 1024)]) (by kernel_rfl) (fun w h => E.run_build #[.int .i64 41, .int .i64 d, .int .i64 0, .int .i64 0, .int .u32 (IntKind.wrap .u32 (Int.tdiv n 1024)), .int .i64 18, .int .i64 d, .int .i64 d, .int .i64 0, .int .u32 (Int.tmod n 1024)] (by kernel_rfl) w) ?_
  refine E.G.store 0 [.int .i64 41, .int .i64 d, .int .i64 0, .int .i64 0, .int .u32 (IntKind.wrap .u32 (Int.tdiv n 1024)), .int .i64 18, .int .i64 d, .int .i64 d, .int .i64 0, .int .u32 (Int.tmod n 1024)] rfl rfl (by kernel_rfl) (by kernel_rfl) ?_
  refine E.To.code ?_
  refine E.C.weak [(4, .pointer (some ⟨g1, 0, none⟩))] [(g1, [.int .i64 41, .int .i64 d, .int .i64 0, .int .i64 0, .int .u32 (IntKind.wrap .u32 (Int.tdiv n 1024)), .int .i64 18, .int .i64 d, .int .i64 d, .int .i64 0, .int .u32 (Int.tmod n 1024)])] ⟨by kernel_rfl, by kernel_rfl⟩ (List.Sublist.refl _) ?_
  refine E.C.ret (E.To.body (fn := Try.f30) [.agg #[.int .i64 41, .int .i64 d, .int .i64 0, .int .i64 0, .int .u32 (IntKind.wrap .u32 (Int.tdiv n 1024)), .int .i64 18, .int .i64 d, .int .i64 d, .int .i64 0, .int .u32 (Int.tmod n 1024)]] ?_ ?_)
  · exact ⟨⟨by kernel_rfl, _, _, 0, _, rfl, rfl, by kernel_rfl⟩, trivial⟩
  · intro w h
    exact ⟨rfl, h.ch.bel (fun _ h => h.elim)⟩
def Q3.made (a b c x y : Int) : Q.I := (bif (decide (((Q3.of (Q3.opAt (a % 39))).most) > 0)) then ⟨(Q3.opAt (a % 39)), (bif (Q3.of (Q3.opAt (a % 39))).d then (b % 16) else 0), (bif (Q3.of (Q3.opAt (a % 39))).a then (c % 16) else 0), (bif (Q3.of (Q3.opAt (a % 39))).b then (x % 16) else 0), (bif (Q3.of (Q3.opAt (a % 39))).sg then (W.sign (IntKind.wrap .u32 (y % ((Q3.of (Q3.opAt (a % 39))).most + 1))) (((Q3.of (Q3.opAt (a % 39))).bits : Nat) : Int)) else (IntKind.wrap .u32 (y % ((Q3.of (Q3.opAt (a % 39))).most + 1))))⟩ else (bif (decide ((((Q3.of (Q3.opAt (a % 39))).bits : Nat) : Int) > 0)) then ⟨(Q3.opAt (a % 39)), (bif (Q3.of (Q3.opAt (a % 39))).d then (b % 16) else 0), (bif (Q3.of (Q3.opAt (a % 39))).a then (c % 16) else 0), (bif (Q3.of (Q3.opAt (a % 39))).b then (x % 16) else 0), (bif (Q3.of (Q3.opAt (a % 39))).sg then (W.sign (IntKind.wrap .u32 (y % (Q3.two (Q3.of (Q3.opAt (a % 39))).bits))) (((Q3.of (Q3.opAt (a % 39))).bits : Nat) : Int)) else (IntKind.wrap .u32 (y % (Q3.two (Q3.of (Q3.opAt (a % 39))).bits))))⟩ else ⟨(Q3.opAt (a % 39)), (bif (Q3.of (Q3.opAt (a % 39))).d then (b % 16) else 0), (bif (Q3.of (Q3.opAt (a % 39))).a then (c % 16) else 0), (bif (Q3.of (Q3.opAt (a % 39))).b then (x % 16) else 0), (bif (Q3.of (Q3.opAt (a % 39))).sg then (W.sign 0 (((Q3.of (Q3.opAt (a % 39))).bits : Nat) : Int)) else 0)⟩))
end Go.Proofs.Ytgbndbljohpnmaa

/- XQo -/
namespace Go.Proofs.Ytgbndbljohpnmaa
set_option linter.unusedVariables false
set_option linter.unusedSimpArgs false
open Go.RowKit
theorem E.api_Trap_eql {fr : E.Fr} {x y : Operand} {u T : TypeId} {d : Option Nat} {pos : String} {af : Array Edge} {gd : Option (Nat × Bool)} {a0 a1 b0 b1 : Int} {w : World}
    (hx : E.ev fr x = .agg #[.int .i64 a0, .int .u32 a1]) (hy : E.ev fr y = .agg #[.int .i64 b0, .int .u32 b1]) :
    (execOp (E.ev fr) ⟨d, .binOp .eql 51 x y u, T, pos, af, gd⟩).run Try.prog w = .ok (.value (.bool (a0 == b0 && a1 == b1))) w := by
  show (do let r ← (do eqGuard .eql 51 x y (E.ev fr x) (E.ev fr y); binOp .eql 51 (E.ev fr x) (E.ev fr y)); pure (Next.value r) : Sem Next).run Try.prog w = _
  rw [hx, hy]
  go_simp
  (repeat' split) <;> simp_all
end Go.Proofs.Ytgbndbljohpnmaa

/- XWm -/
namespace Go.Proofs.Ytgbndbljohpnmaa
set_option linter.unusedVariables false
set_option linter.unusedSimpArgs false
open Go.RowKit
theorem conv1 (w : World) (x : Int) : (convert 97 9 (.slice (some ⟨w.heap.size, 0, none⟩) 1 1)).run Try.prog (w.alloc (.cells #[.int .u8 x] 5)) = .ok (.string (strOfNums [x])) (w.alloc (.cells #[.int .u8 x] 5)) := by
  refine run_convert_bytes_arg _ _ _ Try.underlying97 Try.underlying5 _ 0 1 1 [x] rfl ?_ _ Try.underlying9
  intro i hi
  obtain rfl : i = 0 := by omega
  rw [Nat.zero_add, World.cell?_alloc_mark]; rfl
theorem put_step (n : Int) (k : Nat) (hk : k < 4) : W.put n k ++ strOfNums [n / 2 ^ (8 * k) % 256] = W.put n (k + 1 : Nat) := by
  unfold W.put
  rw [show (max 0 (min (k : Int) 4)).toNat = k by omega, show (max 0 (min ((k + 1 : Nat) : Int) 4)).toNat = k + 1 by omega]
  rcases (by omega : k = 0 ∨ k = 1 ∨ k = 2 ∨ k = 3) with rfl | rfl | rfl | rfl <;> simp [W.bytes4, strOfNums] <;> rfl
theorem rPut_any (n k : Int) (h0 : 0 ≤ n) (h1 : n < 4294967296) (k0 : -9223372036854775808 ≤ k) (k1 : k ≤ 9223372036854775807) (w : World) :
    Calls Try.prog 24 #[.int .u32 n, .int .i64 k] w fun e w' => e = .returned (.string (W.put n k)) ∧ Bel w w' := by
  have hcv := conv1
  go_enter Try.func24, Try.ntmps24
  go_wp2
  go_loopw [5, 6] (fun s i wr => ∃ m : Nat, m ≤ 4 ∧ (m = 0 ∨ m ≤ k) ∧ i = .int .i64 m ∧ s = .string (W.put n m) ∧ Bel w wr) (fun _ i _ => 4 - (intOf i).toNat)
  case atStart => exact ⟨0, by omega, by omega, rfl, rfl, (by repeat (first | assumption | exact Bel.refl _ | refine Bel.drew ?_ | refine Bel.drewN ?_ _ | refine Bel.alloc ?_ _ | (refine Bel.trans ?_ (by assumption)) | (refine Bel.then ?_ (by assumption) (by intro x hx; first | (subst hx; simp; done) | (simp at *; omega)))))⟩
  case round =>
    obtain ⟨m, hm, hm2, rfl, rfl, hb⟩ := hrel
    by_cases c1 : m < k
    · by_cases c2 : m < 4
      · have HS := hid (put_step n m c2)
        have z1 : (strOfNums [n / 2 ^ (8 * m) % 256]).size = 1 := by rw [strOfNums_size]; rfl
        have z2 : (W.put n m).size = m := by have := W.put_size n m (by omega) (by omega); omega
        go_wp2
        go_roundw
        case rel => exact ⟨m + 1, by omega, by omega, by go_num, by rw [← HS.out], (by repeat (first | assumption | exact Bel.refl _ | refine Bel.drew ?_ | refine Bel.drewN ?_ _ | refine Bel.alloc ?_ _ | (refine Bel.trans ?_ (by assumption)) | (refine Bel.then ?_ (by assumption) (by intro x hx; first | (subst hx; simp; done) | (simp at *; omega)))))⟩
        case measure => simp [intOf]; omega
      · have HS := hid (show W.put n m = W.put n k by unfold W.put; rw [show (max 0 (min (m : Int) 4)).toNat = (max 0 (min k 4)).toNat by omega])
        go_wp2
        go_ret
        exact ⟨by rw [← HS.out]; rfl, (by repeat (first | assumption | exact Bel.refl _ | refine Bel.drew ?_ | refine Bel.drewN ?_ _ | refine Bel.alloc ?_ _ | (refine Bel.trans ?_ (by assumption)) | (refine Bel.then ?_ (by assumption) (by intro x hx; first | (subst hx; simp; done) | (simp at *; omega)))))⟩
    · have HS := hid (show W.put n m = W.put n k by unfold W.put; rw [show (max 0 (min (m : Int) 4)).toNat = (max 0 (min k 4)).toNat by omega])
      go_wp2
      go_ret
      exact ⟨by rw [← HS.out]; rfl, (by repeat (first | assumption | exact Bel.refl _ | refine Bel.drew ?_ | refine Bel.drewN ?_ _ | refine Bel.alloc ?_ _ | (refine Bel.trans ?_ (by assumption)) | (refine Bel.then ?_ (by assumption) (by intro x hx; first | (subst hx; simp; done) | (simp at *; omega)))))⟩
end Go.Proofs.Ytgbndbljohpnmaa

/- XQp -/
namespace Go.Proofs.Ytgbndbljohpnmaa
set_option linter.unusedVariables false
set_option linter.unusedSimpArgs false
open Go.RowKit
theorem Q.z0_wf : Q.wf Q.z0 := ⟨by decide, fun _ => by show (0 : Int) ≤ 0 ∧ (0 : Int) < 4294967296; decide, fun _ => by show (0 : Int) ≤ 0 ∧ (0 : Int) < 4294967296; decide⟩
theorem Q.norm_wf {s : Q.S} (h : Q.wf s) : Q.wf (Q.norm s) := ⟨h.pc, Q.up_bd h.r (by decide), h.c⟩
theorem Q.run_wf {most : Int} : ∀ (f n : Nat) {s : Q.S} {V : M.V}, Q.wf s → R.Wf V → Q.wf (Q.run most f n s V).1 ∧ R.Wf (Q.run most f n s V).2.2.2
  | 0, _, _, _, hs, hV => ⟨hs, hV⟩
  | f + 1, n, s, V, hs, hV => by
    have h1 := Q.step_wf hs hV
    rw [Q.run]
    refine Q.bifP (p := fun x : Q.S × Int × Int × M.V => Q.wf x.1 ∧ R.Wf x.2.2.2) (fun _ => ⟨hs, hV⟩) fun _ => Q.bifP (p := fun x : Q.S × Int × Int × M.V => Q.wf x.1 ∧ R.Wf x.2.2.2) (fun _ => ⟨hs, hV⟩) fun _ => Q.bifP (p := fun x : Q.S × Int × Int × M.V => Q.wf x.1 ∧ R.Wf x.2.2.2) (fun _ => ⟨hs, h1.2⟩) fun _ => Q.run_wf f (n + 1) h1.1 h1.2
theorem Q.runs_wf {most : Int} {s : Q.S} {V : M.V} (hs : Q.wf s) (hV : R.Wf V) : Q.wf (Q.runs most s V).1 ∧ R.Wf (Q.runs most s V).2.2.2 := Q.run_wf _ _ hs hV
theorem Q3.enc_bd (i : Q.I) : 0 ≤ (Q3.encode i).1 ∧ (Q3.encode i).1 < 4294967296 := by
  unfold Q3.encode
  refine Q.bifP (p := fun x : Int × Int => 0 ≤ x.1 ∧ x.1 < 4294967296) (fun _ => by decide) fun _ => Q.bifP (p := fun x : Int × Int => 0 ≤ x.1 ∧ x.1 < 4294967296) (fun _ => Q.wrap_bd _) fun _ => Q.wrap_bd _
theorem Q.put_size (n : Int) : (W.put n 4).size = 4 := by
  unfold W.put; rw [strOfNums_size]; rfl
theorem rPut_all (n k : Int) (h : 0 ≤ n ∧ n < 4294967296) (hk : -9223372036854775808 ≤ k ∧ k ≤ 9223372036854775807) (w : World) : Calls Try.prog 24 #[.int .u32 n, .int .i64 k] w fun e w' => e = .returned (.string (W.put n k)) ∧ Bel w w' := rPut_any n k h.1 h.2 hk.1 hk.2 w
def Q.sanS : ByteArray := ((((⟨#[]⟩ : ByteArray) ++ (W.put (Q3.encode ⟨16, 1, 0, 0, 5⟩).1 4)) ++ (W.put (Q3.encode ⟨33, 1, 0, 0, 4294967295⟩).1 4)) ++ (W.put (Q3.encode ⟨50, 0, 0, 0, 0⟩).1 4))
def Q.sanV : M.V := ((M.V.new (M.np 1) false).setc 0 Q.sanS).prot 0 4
def Q.sn1 : Q.S × Int × Int × M.V := Q.runs 1 Q.z0 Q.sanV
def Q.sn2 : Q.S × Int × Int × M.V := Q.runs 2 Q.sn1.1 Q.sn1.2.2.2
def Q.sn3 : Q.S × Int × Int × M.V := Q.runs 1 Q.z0 (M.V.new (M.np 0) false)
def Q.sn4 : Q.S × Int × Int × M.V := Q.runs 0 Q.sn3.1 Q.sn3.2.2.2
theorem San6  : A.Rd Try.prog 10 #[] [] (.bool true) := by
  intro w oo aa hh
  refine E.enter (n := 105) (S := oo) Try.func10 rfl rfl (by kernel_rfl) (A.start (L := []) hh) ?_
  refine E.sr ?_
  refine E.op (.bool false) ?_
  refine E.tr ?_
  refine A.G.call (I := Nat) (D := fun m1 => True) (V := fun m1 => .pointer (some ⟨m1, 0, none⟩)) (q := fun m1 => [M.It m1 (M.V.new (M.np 1) false) (Q.S.cells Q.z0)]) [] (fun m1 => []) (fun m1 => [M.It m1 (M.V.new (M.np 1) false) (Q.S.cells Q.z0)]) (CNew 1) (by kernel_rfl) (A.pm [] (by kernel_rfl) (by kernel_rfl)) (fun m1 => A.pm [0] (by kernel_rfl) (by kernel_rfl)) (fun w _ => by kernel_rfl) (by kernel_rfl) (fun m1 hd2 => ?_)
  refine E.op (.pointer (some ⟨m1, 0, none⟩)) ?_
  refine E.tr ?_
  refine A.G.call (I := Nat) (D := fun m3 => True) (V := fun m3 => .pointer (some ⟨m3, 0, none⟩)) (q := fun m3 => [M.It m3 (M.V.new (M.np 0) false) (Q.S.cells Q.z0)]) [M.It m1 (M.V.new (M.np 1) false) (Q.S.cells Q.z0)] (fun m3 => []) (fun m3 => [M.It m3 (M.V.new (M.np 0) false) (Q.S.cells Q.z0), M.It m1 (M.V.new (M.np 1) false) (Q.S.cells Q.z0)]) (CNew 0) (by kernel_rfl) (A.pm [0] (by kernel_rfl) (by kernel_rfl)) (fun m3 => A.pm [0, 1] (by kernel_rfl) (by kernel_rfl)) (fun w _ => by kernel_rfl) (by kernel_rfl) (fun m3 hd4 => ?_)
  refine E.op (.pointer (some ⟨m3, 0, none⟩)) ?_
  refine E.To.code ?_
  refine E.C.seq ?_
  refine E.sr ?_
  refine E.op (.pointer (some ⟨m1, 0, none⟩)) ?_
  refine E.op (.bool false) ?_
  refine E.op (.bool false) ?_
  refine E.op (.pointer (some ⟨m3, 0, none⟩)) ?_
  refine E.op (.bool false) ?_
  refine E.op (.bool false) ?_
  refine E.To.code ?_
  refine E.C.condF (by kernel_rfl) (by kernel_rfl) ?_
  refine E.C.skip (E.To.code ?_)
  refine E.C.weak [(0, .bool false), (1, .pointer (some ⟨m1, 0, none⟩)), (2, .pointer (some ⟨m3, 0, none⟩))] [] ⟨by kernel_rfl, by kernel_rfl⟩ (List.Sublist.refl _) ?_
  refine E.sr ?_
  refine E.op (.string (⟨#[]⟩ : ByteArray)) ?_
  refine E.tr ?_
  refine E.G.val (.agg #[.int .i64 16, .int .i64 1, .int .i64 0, .int .i64 0, .int .u32 5]) (by kernel_rfl) (fun w h => E.run_build #[.int .i64 16, .int .i64 1, .int .i64 0, .int .i64 0, .int .u32 5] (by kernel_rfl) w) ?_
  refine E.G.val (.agg #[.int .i64 33, .int .i64 1, .int .i64 0, .int .i64 0, .int .u32 4294967295]) (by kernel_rfl) (fun w h => E.run_build #[.int .i64 33, .int .i64 1, .int .i64 0, .int .i64 0, .int .u32 4294967295] (by kernel_rfl) w) ?_
  refine E.G.val (.agg #[.int .i64 50, .int .i64 0, .int .i64 0, .int .i64 0, .int .u32 0]) (by kernel_rfl) (fun w h => E.run_build #[.int .i64 50, .int .i64 0, .int .i64 0, .int .i64 0, .int .u32 0] (by kernel_rfl) w) ?_
  refine E.G.buildSlice [.int .i64 16, .int .i64 1, .int .i64 0, .int .i64 0, .int .u32 5, .int .i64 33, .int .i64 1, .int .i64 0, .int .i64 0, .int .u32 4294967295, .int .i64 50, .int .i64 0, .int .i64 0, .int .i64 0, .int .u32 0] (by kernel_rfl) (by kernel_rfl) (fun g5 => ?_)
  refine E.op (.slice (some ⟨g5, 0, none⟩) 3 3) ?_
  refine E.To.code ?_
  refine E.C.seq ?_
  refine E.sr ?_
  refine E.op (.int .i64 0) ?_
  refine E.To.code ?_
  refine E.C.block ?_
  refine E.C.rounds 3 ?_
  refine E.C.seq ?_
  refine E.sr ?_
  refine E.op (.int .i64 0) ?_
  refine E.op (.slice (some ⟨g5, 0, none⟩) 3 3) ?_
  refine E.op (.int .i64 3) ?_
  refine E.op (.bool true) ?_
  refine E.To.code ?_
  refine E.C.condT (by kernel_rfl) (by kernel_rfl) ?_
  refine E.C.skip (E.To.code ?_)
  refine E.C.seq ?_
  refine E.C.block ?_
  refine E.sr ?_
  refine E.op (.slice (some ⟨g5, 0, none⟩) 3 3) ?_
  refine E.op (.int .i64 0) ?_
  refine E.op (.pointer (some ⟨g5, 0, none⟩)) ?_
  refine E.li (.agg #[.int .i64 16, .int .i64 1, .int .i64 0, .int .i64 0, .int .u32 5]) 0 rfl rfl ?_
  refine E.G.call (.tuple #[.int .u32 ((Q3.encode (⟨16, 1, 0, 0, 5⟩ : Q.I)).1), .int .i64 ((Q3.encode (⟨16, 1, 0, 0, 5⟩ : Q.I)).2)]) (fun w h => Encode3_any (⟨16, 1, 0, 0, 5⟩ : Q.I) (by decide) w) (fun w _ => by kernel_rfl) (by kernel_rfl) ?_
  refine E.op (.tuple #[.int .u32 ((Q3.encode (⟨16, 1, 0, 0, 5⟩ : Q.I)).1), .int .i64 ((Q3.encode (⟨16, 1, 0, 0, 5⟩ : Q.I)).2)]) ?_
  refine E.op (.int .u32 ((Q3.encode (⟨16, 1, 0, 0, 5⟩ : Q.I)).1)) ?_
  refine E.op (.int .i64 ((Q3.encode (⟨16, 1, 0, 0, 5⟩ : Q.I)).2)) ?_
  refine E.op (.int .u32 ((Q3.encode (⟨16, 1, 0, 0, 5⟩ : Q.I)).1)) ?_
  refine E.op (.int .i64 ((Q3.encode (⟨16, 1, 0, 0, 5⟩ : Q.I)).2)) ?_
  refine E.ur ?_
  refine E.op (.string (⟨#[]⟩ : ByteArray)) ?_
  refine E.op (.int .u32 ((Q3.encode (⟨16, 1, 0, 0, 5⟩ : Q.I)).1)) ?_
  refine E.G.call (.string (W.put ((Q3.encode (⟨16, 1, 0, 0, 5⟩ : Q.I)).1) 4)) (fun w h => rPut_all ((Q3.encode (⟨16, 1, 0, 0, 5⟩ : Q.I)).1) 4 (Q3.enc_bd _) (by omega) w) (fun w _ => by kernel_rfl) (by kernel_rfl) ?_
  refine E.G.val (.string ((⟨#[]⟩ : ByteArray) ++ (W.put ((Q3.encode (⟨16, 1, 0, 0, 5⟩ : Q.I)).1) 4))) (by kernel_rfl) (fun w h => E.cat (⟨#[]⟩ : ByteArray) (W.put ((Q3.encode (⟨16, 1, 0, 0, 5⟩ : Q.I)).1) 4) (by kernel_rfl) (by kernel_rfl) (by simp only [ByteArray.size_append, Q.put_size]; decide) w) ?_
  refine E.op (.string ((⟨#[]⟩ : ByteArray) ++ (W.put ((Q3.encode (⟨16, 1, 0, 0, 5⟩ : Q.I)).1) 4))) ?_
  refine E.P.nb (E.To.code ?_)
  refine E.C.region ?_
  refine E.op (.int .i64 0) ?_
  refine E.op (.int .i64 1) ?_
  refine E.op (.int .i64 1) ?_
  refine E.To.rounds 2 ?_
  refine E.C.weak [(0, .bool false), (1, .pointer (some ⟨m1, 0, none⟩)), (2, .pointer (some ⟨m3, 0, none⟩)), (3, .string ((⟨#[]⟩ : ByteArray) ++ (W.put ((Q3.encode (⟨16, 1, 0, 0, 5⟩ : Q.I)).1) 4))), (4, .slice (some ⟨g5, 0, none⟩) 3 3), (5, .int .i64 1), (6, .int .u32 ((Q3.encode (⟨16, 1, 0, 0, 5⟩ : Q.I)).1)), (24, .int .i64 0), (25, .slice (some ⟨g5, 0, none⟩) 3 3), (26, .int .i64 3), (27, .bool true), (28, .int .i64 0), (29, .int .i64 1), (30, .tuple #[.int .u32 ((Q3.encode (⟨16, 1, 0, 0, 5⟩ : Q.I)).1), .int .i64 ((Q3.encode (⟨16, 1, 0, 0, 5⟩ : Q.I)).2)]), (31, .slice (some ⟨g5, 0, none⟩) 3 3), (32, .int .i64 0), (33, .pointer (some ⟨g5, 0, none⟩)), (34, .agg #[.int .i64 16, .int .i64 1, .int .i64 0, .int .i64 0, .int .u32 5]), (35, .tuple #[.int .u32 ((Q3.encode (⟨16, 1, 0, 0, 5⟩ : Q.I)).1), .int .i64 ((Q3.encode (⟨16, 1, 0, 0, 5⟩ : Q.I)).2)]), (36, .int .u32 ((Q3.encode (⟨16, 1, 0, 0, 5⟩ : Q.I)).1)), (37, .int .i64 ((Q3.encode (⟨16, 1, 0, 0, 5⟩ : Q.I)).2)), (38, .string (⟨#[]⟩ : ByteArray)), (39, .int .u32 ((Q3.encode (⟨16, 1, 0, 0, 5⟩ : Q.I)).1)), (40, .string (W.put ((Q3.encode (⟨16, 1, 0, 0, 5⟩ : Q.I)).1) 4)), (41, .string ((⟨#[]⟩ : ByteArray) ++ (W.put ((Q3.encode (⟨16, 1, 0, 0, 5⟩ : Q.I)).1) 4)))] [(g5, [.int .i64 16, .int .i64 1, .int .i64 0, .int .i64 0, .int .u32 5, .int .i64 33, .int .i64 1, .int .i64 0, .int .i64 0, .int .u32 4294967295, .int .i64 50, .int .i64 0, .int .i64 0, .int .i64 0, .int .u32 0])] ⟨by kernel_rfl, by kernel_rfl⟩ (List.Sublist.refl _) ?_
  refine E.C.seq ?_
  refine E.sr ?_
  refine E.op (.int .i64 1) ?_
  refine E.op (.slice (some ⟨g5, 0, none⟩) 3 3) ?_
  refine E.op (.int .i64 3) ?_
  refine E.op (.bool true) ?_
  refine E.To.code ?_
  refine E.C.condT (by kernel_rfl) (by kernel_rfl) ?_
  refine E.C.skip (E.To.code ?_)
  refine E.C.seq ?_
  refine E.C.block ?_
  refine E.sr ?_
  refine E.op (.slice (some ⟨g5, 0, none⟩) 3 3) ?_
  refine E.op (.int .i64 1) ?_
  refine E.op (.pointer (some ⟨g5, 5, none⟩)) ?_
  refine E.li (.agg #[.int .i64 33, .int .i64 1, .int .i64 0, .int .i64 0, .int .u32 4294967295]) 0 rfl rfl ?_
  refine E.G.call (.tuple #[.int .u32 ((Q3.encode (⟨33, 1, 0, 0, 4294967295⟩ : Q.I)).1), .int .i64 ((Q3.encode (⟨33, 1, 0, 0, 4294967295⟩ : Q.I)).2)]) (fun w h => Encode3_any (⟨33, 1, 0, 0, 4294967295⟩ : Q.I) (by decide) w) (fun w _ => by kernel_rfl) (by kernel_rfl) ?_
  refine E.op (.tuple #[.int .u32 ((Q3.encode (⟨33, 1, 0, 0, 4294967295⟩ : Q.I)).1), .int .i64 ((Q3.encode (⟨33, 1, 0, 0, 4294967295⟩ : Q.I)).2)]) ?_
  refine E.op (.int .u32 ((Q3.encode (⟨33, 1, 0, 0, 4294967295⟩ : Q.I)).1)) ?_
  refine E.op (.int .i64 ((Q3.encode (⟨33, 1, 0, 0, 4294967295⟩ : Q.I)).2)) ?_
  refine E.op (.int .u32 ((Q3.encode (⟨33, 1, 0, 0, 4294967295⟩ : Q.I)).1)) ?_
  refine E.op (.int .i64 ((Q3.encode (⟨33, 1, 0, 0, 4294967295⟩ : Q.I)).2)) ?_
  refine E.ur ?_
  refine E.op (.string ((⟨#[]⟩ : ByteArray) ++ (W.put ((Q3.encode (⟨16, 1, 0, 0, 5⟩ : Q.I)).1) 4))) ?_
  refine E.op (.int .u32 ((Q3.encode (⟨33, 1, 0, 0, 4294967295⟩ : Q.I)).1)) ?_
  refine E.G.call (.string (W.put ((Q3.encode (⟨33, 1, 0, 0, 4294967295⟩ : Q.I)).1) 4)) (fun w h => rPut_all ((Q3.encode (⟨33, 1, 0, 0, 4294967295⟩ : Q.I)).1) 4 (Q3.enc_bd _) (by omega) w) (fun w _ => by kernel_rfl) (by kernel_rfl) ?_
  refine E.G.val (.string (((⟨#[]⟩ : ByteArray) ++ (W.put ((Q3.encode (⟨16, 1, 0, 0, 5⟩ : Q.I)).1) 4)) ++ (W.put ((Q3.encode (⟨33, 1, 0, 0, 4294967295⟩ : Q.I)).1) 4))) (by kernel_rfl) (fun w h => E.cat ((⟨#[]⟩ : ByteArray) ++ (W.put ((Q3.encode (⟨16, 1, 0, 0, 5⟩ : Q.I)).1) 4)) (W.put ((Q3.encode (⟨33, 1, 0, 0, 4294967295⟩ : Q.I)).1) 4) (by kernel_rfl) (by kernel_rfl) (by simp only [ByteArray.size_append, Q.put_size]; decide) w) ?_
  refine E.op (.string (((⟨#[]⟩ : ByteArray) ++ (W.put ((Q3.encode (⟨16, 1, 0, 0, 5⟩ : Q.I)).1) 4)) ++ (W.put ((Q3.encode (⟨33, 1, 0, 0, 4294967295⟩ : Q.I)).1) 4))) ?_
  refine E.P.nb (E.To.code ?_)
  refine E.C.region ?_
  refine E.op (.int .i64 1) ?_
  refine E.op (.int .i64 2) ?_
  refine E.op (.int .i64 2) ?_
  refine E.To.rounds 1 ?_
  refine E.C.weak [(0, .bool false), (1, .pointer (some ⟨m1, 0, none⟩)), (2, .pointer (some ⟨m3, 0, none⟩)), (3, .string (((⟨#[]⟩ : ByteArray) ++ (W.put ((Q3.encode (⟨16, 1, 0, 0, 5⟩ : Q.I)).1) 4)) ++ (W.put ((Q3.encode (⟨33, 1, 0, 0, 4294967295⟩ : Q.I)).1) 4))), (4, .slice (some ⟨g5, 0, none⟩) 3 3), (5, .int .i64 2), (6, .int .u32 ((Q3.encode (⟨33, 1, 0, 0, 4294967295⟩ : Q.I)).1)), (24, .int .i64 1), (25, .slice (some ⟨g5, 0, none⟩) 3 3), (26, .int .i64 3), (27, .bool true), (28, .int .i64 1), (29, .int .i64 2), (30, .tuple #[.int .u32 ((Q3.encode (⟨33, 1, 0, 0, 4294967295⟩ : Q.I)).1), .int .i64 ((Q3.encode (⟨33, 1, 0, 0, 4294967295⟩ : Q.I)).2)]), (31, .slice (some ⟨g5, 0, none⟩) 3 3), (32, .int .i64 1), (33, .pointer (some ⟨g5, 5, none⟩)), (34, .agg #[.int .i64 33, .int .i64 1, .int .i64 0, .int .i64 0, .int .u32 4294967295]), (35, .tuple #[.int .u32 ((Q3.encode (⟨33, 1, 0, 0, 4294967295⟩ : Q.I)).1), .int .i64 ((Q3.encode (⟨33, 1, 0, 0, 4294967295⟩ : Q.I)).2)]), (36, .int .u32 ((Q3.encode (⟨33, 1, 0, 0, 4294967295⟩ : Q.I)).1)), (37, .int .i64 ((Q3.encode (⟨33, 1, 0, 0, 4294967295⟩ : Q.I)).2)), (38, .string ((⟨#[]⟩ : ByteArray) ++ (W.put ((Q3.encode (⟨16, 1, 0, 0, 5⟩ : Q.I)).1) 4))), (39, .int .u32 ((Q3.encode (⟨33, 1, 0, 0, 4294967295⟩ : Q.I)).1)), (40, .string (W.put ((Q3.encode (⟨33, 1, 0, 0, 4294967295⟩ : Q.I)).1) 4)), (41, .string (((⟨#[]⟩ : ByteArray) ++ (W.put ((Q3.encode (⟨16, 1, 0, 0, 5⟩ : Q.I)).1) 4)) ++ (W.put ((Q3.encode (⟨33, 1, 0, 0, 4294967295⟩ : Q.I)).1) 4)))] [(g5, [.int .i64 16, .int .i64 1, .int .i64 0, .int .i64 0, .int .u32 5, .int .i64 33, .int .i64 1, .int .i64 0, .int .i64 0, .int .u32 4294967295, .int .i64 50, .int .i64 0, .int .i64 0, .int .i64 0, .int .u32 0])] ⟨by kernel_rfl, by kernel_rfl⟩ (List.Sublist.refl _) ?_
  refine E.C.seq ?_
  refine E.sr ?_
  refine E.op (.int .i64 2) ?_
  refine E.op (.slice (some ⟨g5, 0, none⟩) 3 3) ?_
  refine E.op (.int .i64 3) ?_
  refine E.op (.bool true) ?_
  refine E.To.code ?_
  refine E.C.condT (by kernel_rfl) (by kernel_rfl) ?_
  refine E.C.skip (E.To.code ?_)
  refine E.C.seq ?_
  refine E.C.block ?_
  refine E.sr ?_
  refine E.op (.slice (some ⟨g5, 0, none⟩) 3 3) ?_
  refine E.op (.int .i64 2) ?_
  refine E.op (.pointer (some ⟨g5, 10, none⟩)) ?_
  refine E.li (.agg #[.int .i64 50, .int .i64 0, .int .i64 0, .int .i64 0, .int .u32 0]) 0 rfl rfl ?_
  refine E.G.call (.tuple #[.int .u32 ((Q3.encode (⟨50, 0, 0, 0, 0⟩ : Q.I)).1), .int .i64 ((Q3.encode (⟨50, 0, 0, 0, 0⟩ : Q.I)).2)]) (fun w h => Encode3_any (⟨50, 0, 0, 0, 0⟩ : Q.I) (by decide) w) (fun w _ => by kernel_rfl) (by kernel_rfl) ?_
  refine E.op (.tuple #[.int .u32 ((Q3.encode (⟨50, 0, 0, 0, 0⟩ : Q.I)).1), .int .i64 ((Q3.encode (⟨50, 0, 0, 0, 0⟩ : Q.I)).2)]) ?_
  refine E.op (.int .u32 ((Q3.encode (⟨50, 0, 0, 0, 0⟩ : Q.I)).1)) ?_
  refine E.op (.int .i64 ((Q3.encode (⟨50, 0, 0, 0, 0⟩ : Q.I)).2)) ?_
  refine E.op (.int .u32 ((Q3.encode (⟨50, 0, 0, 0, 0⟩ : Q.I)).1)) ?_
  refine E.op (.int .i64 ((Q3.encode (⟨50, 0, 0, 0, 0⟩ : Q.I)).2)) ?_
  refine E.ur ?_
  refine E.op (.string (((⟨#[]⟩ : ByteArray) ++ (W.put ((Q3.encode (⟨16, 1, 0, 0, 5⟩ : Q.I)).1) 4)) ++ (W.put ((Q3.encode (⟨33, 1, 0, 0, 4294967295⟩ : Q.I)).1) 4))) ?_
  refine E.op (.int .u32 ((Q3.encode (⟨50, 0, 0, 0, 0⟩ : Q.I)).1)) ?_
  refine E.G.call (.string (W.put ((Q3.encode (⟨50, 0, 0, 0, 0⟩ : Q.I)).1) 4)) (fun w h => rPut_all ((Q3.encode (⟨50, 0, 0, 0, 0⟩ : Q.I)).1) 4 (Q3.enc_bd _) (by omega) w) (fun w _ => by kernel_rfl) (by kernel_rfl) ?_
  refine E.G.val (.string ((((⟨#[]⟩ : ByteArray) ++ (W.put ((Q3.encode (⟨16, 1, 0, 0, 5⟩ : Q.I)).1) 4)) ++ (W.put ((Q3.encode (⟨33, 1, 0, 0, 4294967295⟩ : Q.I)).1) 4)) ++ (W.put ((Q3.encode (⟨50, 0, 0, 0, 0⟩ : Q.I)).1) 4))) (by kernel_rfl) (fun w h => E.cat (((⟨#[]⟩ : ByteArray) ++ (W.put ((Q3.encode (⟨16, 1, 0, 0, 5⟩ : Q.I)).1) 4)) ++ (W.put ((Q3.encode (⟨33, 1, 0, 0, 4294967295⟩ : Q.I)).1) 4)) (W.put ((Q3.encode (⟨50, 0, 0, 0, 0⟩ : Q.I)).1) 4) (by kernel_rfl) (by kernel_rfl) (by simp only [ByteArray.size_append, Q.put_size]; decide) w) ?_
  refine E.op (.string ((((⟨#[]⟩ : ByteArray) ++ (W.put ((Q3.encode (⟨16, 1, 0, 0, 5⟩ : Q.I)).1) 4)) ++ (W.put ((Q3.encode (⟨33, 1, 0, 0, 4294967295⟩ : Q.I)).1) 4)) ++ (W.put ((Q3.encode (⟨50, 0, 0, 0, 0⟩ : Q.I)).1) 4))) ?_
  refine E.P.nb (E.To.code ?_)
  refine E.C.region ?_
  refine E.op (.int .i64 2) ?_
  refine E.op (.int .i64 3) ?_
  refine E.op (.int .i64 3) ?_
  refine E.To.rounds 0 ?_
  refine E.C.weak [(0, .bool false), (1, .pointer (some ⟨m1, 0, none⟩)), (2, .pointer (some ⟨m3, 0, none⟩)), (3, .string ((((⟨#[]⟩ : ByteArray) ++ (W.put ((Q3.encode (⟨16, 1, 0, 0, 5⟩ : Q.I)).1) 4)) ++ (W.put ((Q3.encode (⟨33, 1, 0, 0, 4294967295⟩ : Q.I)).1) 4)) ++ (W.put ((Q3.encode (⟨50, 0, 0, 0, 0⟩ : Q.I)).1) 4))), (4, .slice (some ⟨g5, 0, none⟩) 3 3), (5, .int .i64 3), (6, .int .u32 ((Q3.encode (⟨50, 0, 0, 0, 0⟩ : Q.I)).1)), (24, .int .i64 2), (25, .slice (some ⟨g5, 0, none⟩) 3 3), (26, .int .i64 3), (27, .bool true), (28, .int .i64 2), (29, .int .i64 3), (30, .tuple #[.int .u32 ((Q3.encode (⟨50, 0, 0, 0, 0⟩ : Q.I)).1), .int .i64 ((Q3.encode (⟨50, 0, 0, 0, 0⟩ : Q.I)).2)]), (31, .slice (some ⟨g5, 0, none⟩) 3 3), (32, .int .i64 2), (33, .pointer (some ⟨g5, 10, none⟩)), (34, .agg #[.int .i64 50, .int .i64 0, .int .i64 0, .int .i64 0, .int .u32 0]), (35, .tuple #[.int .u32 ((Q3.encode (⟨50, 0, 0, 0, 0⟩ : Q.I)).1), .int .i64 ((Q3.encode (⟨50, 0, 0, 0, 0⟩ : Q.I)).2)]), (36, .int .u32 ((Q3.encode (⟨50, 0, 0, 0, 0⟩ : Q.I)).1)), (37, .int .i64 ((Q3.encode (⟨50, 0, 0, 0, 0⟩ : Q.I)).2)), (38, .string (((⟨#[]⟩ : ByteArray) ++ (W.put ((Q3.encode (⟨16, 1, 0, 0, 5⟩ : Q.I)).1) 4)) ++ (W.put ((Q3.encode (⟨33, 1, 0, 0, 4294967295⟩ : Q.I)).1) 4))), (39, .int .u32 ((Q3.encode (⟨50, 0, 0, 0, 0⟩ : Q.I)).1)), (40, .string (W.put ((Q3.encode (⟨50, 0, 0, 0, 0⟩ : Q.I)).1) 4)), (41, .string ((((⟨#[]⟩ : ByteArray) ++ (W.put ((Q3.encode (⟨16, 1, 0, 0, 5⟩ : Q.I)).1) 4)) ++ (W.put ((Q3.encode (⟨33, 1, 0, 0, 4294967295⟩ : Q.I)).1) 4)) ++ (W.put ((Q3.encode (⟨50, 0, 0, 0, 0⟩ : Q.I)).1) 4)))] [(g5, [.int .i64 16, .int .i64 1, .int .i64 0, .int .i64 0, .int .u32 5, .int .i64 33, .int .i64 1, .int .i64 0, .int .i64 0, .int .u32 4294967295, .int .i64 50, .int .i64 0, .int .i64 0, .int .i64 0, .int .u32 0])] ⟨by kernel_rfl, by kernel_rfl⟩ (List.Sublist.refl _) ?_
  refine E.C.seq ?_
  refine E.sr ?_
  refine E.op (.int .i64 3) ?_
  refine E.op (.slice (some ⟨g5, 0, none⟩) 3 3) ?_
  refine E.op (.int .i64 3) ?_
  refine E.op (.bool false) ?_
  refine E.To.code ?_
  refine E.C.condF (by kernel_rfl) (by kernel_rfl) ?_
  refine E.C.exit (E.P.et (E.P.et (E.P.eh (E.To.code ?_))))
  refine E.C.weak [(0, .bool false), (1, .pointer (some ⟨m1, 0, none⟩)), (2, .pointer (some ⟨m3, 0, none⟩)), (3, .string ((((⟨#[]⟩ : ByteArray) ++ (W.put ((Q3.encode (⟨16, 1, 0, 0, 5⟩ : Q.I)).1) 4)) ++ (W.put ((Q3.encode (⟨33, 1, 0, 0, 4294967295⟩ : Q.I)).1) 4)) ++ (W.put ((Q3.encode (⟨50, 0, 0, 0, 0⟩ : Q.I)).1) 4)))] [] ⟨by kernel_rfl, by kernel_rfl⟩ (List.nil_sublist _) ?_
  refine E.sr ?_
  refine E.op (.pointer (some ⟨m1, 0, none⟩)) ?_
  refine E.op (.pointer (some ⟨m1, 0, none⟩)) ?_
  refine E.op (.pointer (some ⟨m1, 0, none⟩)) ?_
  refine E.op (.string Q.sanS) ?_
  refine A.G.call (I := Unit) (D := fun _ => True) (V := fun _ => .tuple #[]) (q := fun _ => [M.It m1 ((M.V.new (M.np 1) false).setc 0 Q.sanS) (Q.S.cells Q.z0)]) [M.It m3 (M.V.new (M.np 0) false) (Q.S.cells Q.z0)] (fun _ => []) (fun _ => [M.It m3 (M.V.new (M.np 0) false) (Q.S.cells Q.z0), M.It m1 ((M.V.new (M.np 1) false).setc 0 Q.sanS) (Q.S.cells Q.z0)]) (A_SetCode 0 Q.sanS (m := m1) (V := (M.V.new (M.np 1) false)) (xs := (Q.S.cells Q.z0))) (by kernel_rfl) (A.pm [1, 0] (by kernel_rfl) (by kernel_rfl)) (fun _ => A.pm [1, 0] (by kernel_rfl) (by kernel_rfl)) (fun w _ => by kernel_rfl) (by kernel_rfl) (fun _ hd6 => ?_)
  refine E.tr ?_
  refine E.op (.pointer (some ⟨m1, 0, none⟩)) ?_
  refine E.op (.pointer (some ⟨m1, 0, none⟩)) ?_
  refine E.op (.pointer (some ⟨m1, 0, none⟩)) ?_
  refine A.G.call (I := Unit) (D := fun _ => True) (V := fun _ => .tuple #[]) (q := fun _ => [M.It m1 Q.sanV (Q.S.cells Q.z0)]) [M.It m3 (M.V.new (M.np 0) false) (Q.S.cells Q.z0)] (fun _ => []) (fun _ => [M.It m3 (M.V.new (M.np 0) false) (Q.S.cells Q.z0), M.It m1 Q.sanV (Q.S.cells Q.z0)]) (A_Protect 0 4 (m := m1) (V := ((M.V.new (M.np 1) false).setc 0 Q.sanS)) (xs := (Q.S.cells Q.z0))) (by kernel_rfl) (A.pm [1, 0] (by kernel_rfl) (by kernel_rfl)) (fun _ => A.pm [1, 0] (by kernel_rfl) (by kernel_rfl)) (fun w _ => by kernel_rfl) (by kernel_rfl) (fun _ hd7 => ?_)
  refine E.To.code ?_
  refine E.C.weak [(0, .bool false), (1, .pointer (some ⟨m1, 0, none⟩)), (2, .pointer (some ⟨m3, 0, none⟩))] [] ⟨by kernel_rfl, by kernel_rfl⟩ (List.Sublist.refl _) ?_
  refine E.sr ?_
  refine E.op (.pointer (some ⟨m1, 0, none⟩)) ?_
  refine A.G.call (I := Unit) (D := fun _ => True) (V := fun _ => .agg #[.int .i64 Q.sn1.2.1, .int .u32 Q.sn1.2.2.1]) (q := fun _ => [M.It m1 Q.sn1.2.2.2 (Q.S.cells Q.sn1.1)]) [M.It m3 (M.V.new (M.np 0) false) (Q.S.cells Q.z0)] (fun _ => []) (fun _ => [M.It m3 (M.V.new (M.np 0) false) (Q.S.cells Q.z0), M.It m1 Q.sn1.2.2.2 (Q.S.cells Q.sn1.1)]) (CRun (c := m1) 1 Q.z0 Q.sanV (by omega) Q.z0_wf (R.Wf.prot (R.Wf.setc (R.Wf.new (M.np_le _) _) _ _) _ _)) (by kernel_rfl) (A.pm [1, 0] (by kernel_rfl) (by kernel_rfl)) (fun _ => A.pm [1, 0] (by kernel_rfl) (by kernel_rfl)) (fun w _ => by kernel_rfl) (by kernel_rfl) (fun _ hd8 => ?_)
  refine E.G.new (fun g => .pointer (some ⟨g, 0, none⟩)) [.int .i64 0, .int .u32 0] 51 (fun w => by kernel_rfl) (by kernel_rfl) (fun g9 => ?_)
  refine E.G.store 0 [.int .i64 Q.sn1.2.1, .int .u32 Q.sn1.2.2.1] rfl rfl (by kernel_rfl) (by kernel_rfl) ?_
  refine E.tr ?_
  refine E.op (.pointer (some ⟨m1, 0, none⟩)) ?_
  refine E.G.call (Q.S.val Q.sn1.1) (fun w h => A.call_rd [A.blk g9 ([.int .i64 Q.sn1.2.1, .int .u32 Q.sn1.2.2.1]), M.It m3 (M.V.new (M.np 0) false) (Q.S.cells Q.z0)] (CState (c := m1) (V := Q.sn1.2.2.2) Q.sn1.1) h (by kernel_rfl) (A.pm [2, 0, 1] (by kernel_rfl) (by kernel_rfl))) (fun w _ => by kernel_rfl) (by kernel_rfl) ?_
  refine E.G.new (fun g => .pointer (some ⟨g, 0, none⟩)) (Q.S.cells Q.z0) 27 (fun w => by kernel_rfl) (by kernel_rfl) (fun g10 => ?_)
  refine E.G.store 0 (Q.S.cells Q.sn1.1) rfl rfl (by kernel_rfl) (by kernel_rfl) ?_
  refine E.tr ?_
  refine E.op (.pointer (some ⟨m1, 0, none⟩)) ?_
  refine A.G.call (I := Unit) (D := fun _ => True) (V := fun _ => .agg #[.int .i64 Q.sn2.2.1, .int .u32 Q.sn2.2.2.1]) (q := fun _ => [M.It m1 Q.sn2.2.2.2 (Q.S.cells Q.sn2.1)]) [A.blk g10 (Q.S.cells Q.sn1.1), A.blk g9 ([.int .i64 Q.sn1.2.1, .int .u32 Q.sn1.2.2.1]), M.It m3 (M.V.new (M.np 0) false) (Q.S.cells Q.z0)] (fun _ => [(g10, (Q.S.cells Q.sn1.1)), (g9, [.int .i64 Q.sn1.2.1, .int .u32 Q.sn1.2.2.1])]) (fun _ => [M.It m3 (M.V.new (M.np 0) false) (Q.S.cells Q.z0), M.It m1 Q.sn2.2.2.2 (Q.S.cells Q.sn2.1)]) (CRun (c := m1) 2 Q.sn1.1 Q.sn1.2.2.2 (by omega) (Q.runs_wf Q.z0_wf (R.Wf.prot (R.Wf.setc (R.Wf.new (M.np_le _) _) _ _) _ _)).1 (Q.runs_wf Q.z0_wf (R.Wf.prot (R.Wf.setc (R.Wf.new (M.np_le _) _) _ _) _ _)).2) (by kernel_rfl) (A.pm [3, 0, 1, 2] (by kernel_rfl) (by kernel_rfl)) (fun _ => A.pm [1, 2, 3, 0] (by kernel_rfl) (by kernel_rfl)) (fun w _ => by kernel_rfl) (by kernel_rfl) (fun _ hd11 => ?_)
  refine E.G.new (fun g => .pointer (some ⟨g, 0, none⟩)) [.int .i64 0, .int .u32 0] 51 (fun w => by kernel_rfl) (by kernel_rfl) (fun g12 => ?_)
  refine E.G.store 0 [.int .i64 Q.sn2.2.1, .int .u32 Q.sn2.2.2.1] rfl rfl (by kernel_rfl) (by kernel_rfl) ?_
  refine E.tr ?_
  refine E.op (.pointer (some ⟨m1, 0, none⟩)) ?_
  refine E.G.call (Q.S.val Q.sn2.1) (fun w h => A.call_rd [A.blk g12 ([.int .i64 Q.sn2.2.1, .int .u32 Q.sn2.2.2.1]), A.blk g10 (Q.S.cells Q.sn1.1), A.blk g9 ([.int .i64 Q.sn1.2.1, .int .u32 Q.sn1.2.2.1]), M.It m3 (M.V.new (M.np 0) false) (Q.S.cells Q.z0)] (CState (c := m1) (V := Q.sn2.2.2.2) Q.sn2.1) h (by kernel_rfl) (A.pm [4, 0, 1, 2, 3] (by kernel_rfl) (by kernel_rfl))) (fun w _ => by kernel_rfl) (by kernel_rfl) ?_
  refine E.G.new (fun g => .pointer (some ⟨g, 0, none⟩)) (Q.S.cells Q.z0) 27 (fun w => by kernel_rfl) (by kernel_rfl) (fun g13 => ?_)
  refine E.G.store 0 (Q.S.cells Q.sn2.1) rfl rfl (by kernel_rfl) (by kernel_rfl) ?_
  refine E.To.code ?_
  refine E.C.weak [(0, .bool false), (2, .pointer (some ⟨m3, 0, none⟩)), (8, .pointer (some ⟨g9, 0, none⟩)), (9, .pointer (some ⟨g10, 0, none⟩)), (10, .pointer (some ⟨g12, 0, none⟩)), (11, .pointer (some ⟨g13, 0, none⟩))] [(g13, (Q.S.cells Q.sn2.1)), (g12, [.int .i64 Q.sn2.2.1, .int .u32 Q.sn2.2.2.1]), (g10, (Q.S.cells Q.sn1.1)), (g9, [.int .i64 Q.sn1.2.1, .int .u32 Q.sn1.2.2.1])] ⟨by kernel_rfl, by kernel_rfl⟩ (List.Sublist.refl _) ?_
  refine E.sr ?_
  refine E.op (.pointer (some ⟨g9, 0, none⟩)) ?_
  refine E.li (.int .i64 Q.sn1.2.1) 3 rfl rfl ?_
  refine E.G.val (.bool true) (by kernel_rfl) (fun w h => E.run_as (a := .bool (Q.sn1.2.1 == 1)) (by kernel_rfl) (congrArg Value.bool (by kernel_rfl))) ?_
  refine E.op (.bool true) ?_
  refine E.op (.pointer (some ⟨g10, 0, none⟩)) ?_
  refine E.li (.int .u32 Q.sn1.1.pc) 2 rfl rfl ?_
  refine E.G.val (.bool true) (by kernel_rfl) (fun w h => E.run_as (a := .bool (Q.sn1.1.pc == 4)) (by kernel_rfl) (congrArg Value.bool (by kernel_rfl))) ?_
  refine E.op (.bool true) ?_
  refine E.op (.bool true) ?_
  refine E.op (.pointer (some ⟨g10, 1, none⟩)) ?_
  refine E.op (.pointer (some ⟨g10, 2, none⟩)) ?_
  refine E.li (.int .u32 (Q.sn1.1.r 1)) 2 rfl rfl ?_
  refine E.G.val (.bool true) (by kernel_rfl) (fun w h => E.run_as (a := .bool ((Q.sn1.1.r 1) == 5)) (by kernel_rfl) (congrArg Value.bool (by kernel_rfl))) ?_
  refine E.op (.bool true) ?_
  refine E.op (.bool true) ?_
  refine E.op (.pointer (some ⟨g10, 22, none⟩)) ?_
  refine E.li (.int .i64 Q.sn1.1.st) 2 rfl rfl ?_
  refine E.G.val (.bool true) (by kernel_rfl) (fun w h => E.run_as (a := .bool (Q.sn1.1.st == 1)) (by kernel_rfl) (congrArg Value.bool (by kernel_rfl))) ?_
  refine E.op (.bool true) ?_
  refine E.op (.bool true) ?_
  refine E.op (.pointer (some ⟨g12, 0, none⟩)) ?_
  refine E.li (.int .i64 Q.sn2.2.1) 1 rfl rfl ?_
  refine E.G.val (.bool true) (by kernel_rfl) (fun w h => E.run_as (a := .bool (Q.sn2.2.1 == 1)) (by kernel_rfl) (congrArg Value.bool (by kernel_rfl))) ?_
  refine E.op (.bool true) ?_
  refine E.op (.bool true) ?_
  refine E.op (.pointer (some ⟨g13, 0, none⟩)) ?_
  refine E.li (.int .u32 Q.sn2.1.pc) 0 rfl rfl ?_
  refine E.G.val (.bool true) (by kernel_rfl) (fun w h => E.run_as (a := .bool (Q.sn2.1.pc == 4)) (by kernel_rfl) (congrArg Value.bool (by kernel_rfl))) ?_
  refine E.op (.bool true) ?_
  refine E.op (.bool true) ?_
  refine E.op (.pointer (some ⟨g13, 22, none⟩)) ?_
  refine E.li (.int .i64 Q.sn2.1.st) 0 rfl rfl ?_
  refine E.G.val (.bool true) (by kernel_rfl) (fun w h => E.run_as (a := .bool (Q.sn2.1.st == 3)) (by kernel_rfl) (congrArg Value.bool (by kernel_rfl))) ?_
  refine E.op (.bool true) ?_
  refine E.op (.bool true) ?_
  refine E.op (.pointer (some ⟨m3, 0, none⟩)) ?_
  refine A.G.call (I := Unit) (D := fun _ => True) (V := fun _ => .agg #[.int .i64 Q.sn3.2.1, .int .u32 Q.sn3.2.2.1]) (q := fun _ => [M.It m3 Q.sn3.2.2.2 (Q.S.cells Q.sn3.1)]) [A.blk g13 (Q.S.cells Q.sn2.1), A.blk g12 ([.int .i64 Q.sn2.2.1, .int .u32 Q.sn2.2.2.1]), A.blk g10 (Q.S.cells Q.sn1.1), A.blk g9 ([.int .i64 Q.sn1.2.1, .int .u32 Q.sn1.2.2.1]), M.It m1 Q.sn2.2.2.2 (Q.S.cells Q.sn2.1)] (fun _ => [(g13, (Q.S.cells Q.sn2.1)), (g12, [.int .i64 Q.sn2.2.1, .int .u32 Q.sn2.2.2.1]), (g10, (Q.S.cells Q.sn1.1)), (g9, [.int .i64 Q.sn1.2.1, .int .u32 Q.sn1.2.2.1])]) (fun _ => [M.It m3 Q.sn3.2.2.2 (Q.S.cells Q.sn3.1), M.It m1 Q.sn2.2.2.2 (Q.S.cells Q.sn2.1)]) (CRun (c := m3) 1 Q.z0 (M.V.new (M.np 0) false) (by omega) Q.z0_wf (R.Wf.new (M.np_le _) _)) (by kernel_rfl) (A.pm [4, 0, 1, 2, 3, 5] (by kernel_rfl) (by kernel_rfl)) (fun _ => A.pm [1, 2, 3, 4, 0, 5] (by kernel_rfl) (by kernel_rfl)) (fun w _ => by kernel_rfl) (by kernel_rfl) (fun _ hd14 => ?_)
  refine E.G.val (.agg #[.int .i64 5, .int .u32 0]) (by kernel_rfl) (fun w h => E.run_build #[.int .i64 5, .int .u32 0] (by kernel_rfl) w) ?_
  refine E.G.val (.bool true) (by kernel_rfl) (fun w h => E.run_as (a := .bool ((Q.sn3.2.1 == 5) && (Q.sn3.2.2.1 == 0))) (E.api_Trap_eql (by kernel_rfl) (by kernel_rfl)) (congrArg Value.bool (by kernel_rfl))) ?_
  refine E.op (.bool true) ?_
  refine E.op (.bool true) ?_
  refine E.op (.pointer (some ⟨m3, 0, none⟩)) ?_
  refine A.G.call (I := Unit) (D := fun _ => True) (V := fun _ => .agg #[.int .i64 Q.sn4.2.1, .int .u32 Q.sn4.2.2.1]) (q := fun _ => [M.It m3 Q.sn4.2.2.2 (Q.S.cells Q.sn4.1)]) [A.blk g13 (Q.S.cells Q.sn2.1), A.blk g12 ([.int .i64 Q.sn2.2.1, .int .u32 Q.sn2.2.2.1]), A.blk g10 (Q.S.cells Q.sn1.1), A.blk g9 ([.int .i64 Q.sn1.2.1, .int .u32 Q.sn1.2.2.1]), M.It m1 Q.sn2.2.2.2 (Q.S.cells Q.sn2.1)] (fun _ => [(g13, (Q.S.cells Q.sn2.1)), (g12, [.int .i64 Q.sn2.2.1, .int .u32 Q.sn2.2.2.1]), (g10, (Q.S.cells Q.sn1.1)), (g9, [.int .i64 Q.sn1.2.1, .int .u32 Q.sn1.2.2.1])]) (fun _ => [M.It m3 Q.sn4.2.2.2 (Q.S.cells Q.sn4.1), M.It m1 Q.sn2.2.2.2 (Q.S.cells Q.sn2.1)]) (CRun (c := m3) 0 Q.sn3.1 Q.sn3.2.2.2 (by omega) (Q.runs_wf Q.z0_wf (R.Wf.new (M.np_le _) _)).1 (Q.runs_wf Q.z0_wf (R.Wf.new (M.np_le _) _)).2) (by kernel_rfl) (A.pm [4, 0, 1, 2, 3, 5] (by kernel_rfl) (by kernel_rfl)) (fun _ => A.pm [1, 2, 3, 4, 0, 5] (by kernel_rfl) (by kernel_rfl)) (fun w _ => by kernel_rfl) (by kernel_rfl) (fun _ hd15 => ?_)
  refine E.G.val (.agg #[.int .i64 1, .int .u32 0]) (by kernel_rfl) (fun w h => E.run_build #[.int .i64 1, .int .u32 0] (by kernel_rfl) w) ?_
  refine E.G.val (.bool true) (by kernel_rfl) (fun w h => E.run_as (a := .bool ((Q.sn4.2.1 == 1) && (Q.sn4.2.2.1 == 0))) (E.api_Trap_eql (by kernel_rfl) (by kernel_rfl)) (congrArg Value.bool (by kernel_rfl))) ?_
  refine E.op (.bool true) ?_
  refine E.op (.bool true) ?_
  refine E.To.code ?_
  refine E.C.weak [(0, .bool true)] [] ⟨by kernel_rfl, by kernel_rfl⟩ (List.nil_sublist _) ?_
  refine E.C.ret (E.To.body (fn := Try.f10) [.bool true] ?_ ?_)
  · exact ⟨⟨by kernel_rfl, by kernel_rfl⟩, trivial⟩
  · intro w h
    exact ⟨rfl, h.ch.bel (fun x hx => (hh.1 x hx).elim)⟩
end Go.Proofs.Ytgbndbljohpnmaa

/- XQu -/
namespace Go.Proofs.Ytgbndbljohpnmaa
set_option linter.unusedVariables false
set_option linter.unusedSimpArgs false
open Go.RowKit
def Q.oneV (i : Q.I) : M.V := (((M.V.new (M.np 1) false).poke 0 (W.put (Q3.encode i).1 4) (W.put (Q3.encode i).1 4).size).sync (0 / 256)).prot 0 7
theorem Q.oneV_wf (i : Q.I) : R.Wf (Q.oneV i) := R.Wf.prot (R.Wf.sync (R.Wf.poke (R.Wf.new (M.np_le _) _) _ _ _) _) _ _
theorem COne (i : Q.I) (s : Q.S) (hm : 0 ≤ i.imm ∧ i.imm < 4294967296) : A.Tr Try.prog 19 #[.agg #[.int .i64 i.op, .int .i64 i.d, .int .i64 i.a, .int .i64 i.b, .int .u32 i.imm], Q.S.val s] [] (I := Nat) (fun _ => True) (fun c => .pointer (some ⟨c, 0, none⟩)) (fun c => [M.It c (Q.oneV i) (Q.S.cells (Q.norm s))]) := by
  intro w oo aa hh
  refine E.enter (n := 34) (S := oo) Try.func19 rfl rfl (by kernel_rfl) (A.start (L := []) hh) ?_
  refine E.sr ?_
  refine E.G.new (fun g => .pointer (some ⟨g, 0, none⟩)) [.int .i64 i.op, .int .i64 i.d, .int .i64 i.a, .int .i64 i.b, .int .u32 i.imm] 47 (fun w => by kernel_rfl) (by kernel_rfl) (fun g1 => ?_)
  refine E.G.new (fun g => .pointer (some ⟨g, 0, none⟩)) (Q.S.cells s) 27 (fun w => by kernel_rfl) (by kernel_rfl) (fun g2 => ?_)
  refine E.op (.pointer none) ?_
  refine E.tr ?_
  refine A.G.call (I := Nat) (D := fun m3 => True) (V := fun m3 => .pointer (some ⟨m3, 0, none⟩)) (q := fun m3 => [M.It m3 (M.V.new (M.np 1) false) (Q.S.cells Q.z0)]) [A.blk g2 (Q.S.cells s), A.blk g1 ([.int .i64 i.op, .int .i64 i.d, .int .i64 i.a, .int .i64 i.b, .int .u32 i.imm])] (fun m3 => [(g2, (Q.S.cells s)), (g1, [.int .i64 i.op, .int .i64 i.d, .int .i64 i.a, .int .i64 i.b, .int .u32 i.imm])]) (fun m3 => [M.It m3 (M.V.new (M.np 1) false) (Q.S.cells Q.z0)]) (CNew 1) (by kernel_rfl) (A.pm [0, 1] (by kernel_rfl) (by kernel_rfl)) (fun m3 => A.pm [1, 2, 0] (by kernel_rfl) (by kernel_rfl)) (fun w _ => by kernel_rfl) (by kernel_rfl) (fun m3 hd4 => ?_)
  refine E.op (.pointer (some ⟨m3, 0, none⟩)) ?_
  refine E.To.code ?_
  refine E.C.seq ?_
  refine E.sr ?_
  refine E.op (.pointer (some ⟨m3, 0, none⟩)) ?_
  refine E.op (.bool false) ?_
  refine E.To.code ?_
  refine E.C.condF (by kernel_rfl) (by kernel_rfl) ?_
  refine E.C.skip (E.To.code ?_)
  refine E.sr ?_
  refine E.li (.agg #[.int .i64 i.op, .int .i64 i.d, .int .i64 i.a, .int .i64 i.b, .int .u32 i.imm]) 1 rfl rfl ?_
  refine E.G.call (.tuple #[.int .u32 ((Q3.encode i).1), .int .i64 ((Q3.encode i).2)]) (fun w h => Encode3_any i hm w) (fun w _ => by kernel_rfl) (by kernel_rfl) ?_
  refine E.op (.tuple #[.int .u32 ((Q3.encode i).1), .int .i64 ((Q3.encode i).2)]) ?_
  refine E.op (.int .u32 ((Q3.encode i).1)) ?_
  refine E.op (.int .i64 ((Q3.encode i).2)) ?_
  refine E.op (.int .u32 ((Q3.encode i).1)) ?_
  refine E.op (.int .i64 ((Q3.encode i).2)) ?_
  refine E.To.code ?_
  refine E.C.weak [(3, .pointer (some ⟨g2, 0, none⟩)), (4, .pointer none), (5, .pointer (some ⟨m3, 0, none⟩)), (6, .int .u32 ((Q3.encode i).1))] [(g2, (Q.S.cells s))] ⟨by kernel_rfl, by kernel_rfl⟩ (List.Sublist.cons_cons _ (List.nil_sublist _)) ?_
  refine E.C.seq ?_
  refine E.C.held (A.Y [A.blk g2 (Q.S.cells s)]) (by kernel_rfl) ?_
  refine E.H.take 0 (.pointer (some ⟨m3, 0, none⟩)) rfl (by kernel_rfl) (by kernel_rfl) (by kernel_rfl) (fun _ _ _ h => h) (fun w h => A.hpY (p := [A.blk g2 (Q.S.cells s)]) (r := [M.It m3 (M.V.new (M.np 1) false) (Q.S.cells Q.z0)]) h (by kernel_rfl) (A.pm [0, 1] (by kernel_rfl) (by kernel_rfl))) (.inl ⟨by kernel_rfl, by kernel_rfl, fun w h => by kernel_rfl⟩) (by kernel_rfl) ?_
  refine E.H.take 1 (.pointer (some ⟨m3, 0, none⟩)) rfl (by kernel_rfl) (by kernel_rfl) (by kernel_rfl) (fun _ _ _ h => h) (fun w h => A.hpY (p := [A.blk g2 (Q.S.cells s)]) (r := [M.It m3 (M.V.new (M.np 1) false) (Q.S.cells Q.z0)]) h (by kernel_rfl) (A.pm [0, 1] (by kernel_rfl) (by kernel_rfl))) (.inl ⟨by kernel_rfl, by kernel_rfl, fun w h => by kernel_rfl⟩) (by kernel_rfl) ?_
  refine E.H.take 2 (.pointer (some ⟨m3, 0, none⟩)) rfl (by kernel_rfl) (by kernel_rfl) (by kernel_rfl) (fun _ _ _ h => h) (fun w h => A.hpY (p := [A.blk g2 (Q.S.cells s)]) (r := [M.It m3 (M.V.new (M.np 1) false) (Q.S.cells Q.z0)]) h (by kernel_rfl) (A.pm [0, 1] (by kernel_rfl) (by kernel_rfl))) (.inl ⟨by kernel_rfl, by kernel_rfl, fun w h => by kernel_rfl⟩) (by kernel_rfl) ?_
  refine E.H.take 3 (.int .u32 ((Q3.encode i).1)) rfl (by kernel_rfl) (by kernel_rfl) (by kernel_rfl) (fun _ _ _ h => h) (fun w h => A.hpY (p := [A.blk g2 (Q.S.cells s)]) (r := [M.It m3 (M.V.new (M.np 1) false) (Q.S.cells Q.z0)]) h (by kernel_rfl) (A.pm [0, 1] (by kernel_rfl) (by kernel_rfl))) (.inl ⟨by kernel_rfl, by kernel_rfl, fun w h => by kernel_rfl⟩) (by kernel_rfl) ?_
  refine E.H.all [4] (by kernel_rfl) (by simp) (List.forall_mem_cons.2 ⟨⟨_, rfl, ?_⟩, fun _ h => (List.not_mem_nil h).elim⟩)
  · skip
    refine E.G.call (.string (W.put ((Q3.encode i).1) 4)) (fun w h => rPut_all ((Q3.encode i).1) 4 (Q3.enc_bd _) (by omega) w) (fun w _ => by kernel_rfl) (by kernel_rfl) ?_
    refine E.H.back (fun w h => A.hpY (p := [A.blk g2 (Q.S.cells s)]) (r := [M.It m3 (M.V.new (M.np 1) false) (Q.S.cells Q.z0)]) h (by kernel_rfl) (A.pm [0, 1] (by kernel_rfl) (by kernel_rfl))) ?_
    refine E.H.all [5] (by kernel_rfl) (by simp) (List.forall_mem_cons.2 ⟨⟨_, rfl, ?_⟩, fun _ h => (List.not_mem_nil h).elim⟩)
    · skip
      refine A.G.call (I := Unit) (D := fun _ => True) (V := fun _ => .tuple #[]) (q := fun _ => [M.It m3 ((M.V.new (M.np 1) false).poke (0 : Int).toNat (W.put ((Q3.encode i).1) 4) (W.put ((Q3.encode i).1) 4).size) (Q.S.cells Q.z0)]) [A.blk g2 (Q.S.cells s)] (fun _ => [(g2, (Q.S.cells s))]) (fun _ => [M.It m3 ((M.V.new (M.np 1) false).poke (0 : Int).toNat (W.put ((Q3.encode i).1) 4) (W.put ((Q3.encode i).1) 4).size) (Q.S.cells Q.z0)]) (I_Poke 0 (W.put ((Q3.encode i).1) 4) (by decide) (by rw [Q.put_size]; decide) (m := m3) (V := (M.V.new (M.np 1) false)) (xs := (Q.S.cells Q.z0))) (by kernel_rfl) (A.pm [1, 0] (by kernel_rfl) (by kernel_rfl)) (fun _ => A.pm [1, 0] (by kernel_rfl) (by kernel_rfl)) (fun w _ => by kernel_rfl) (by kernel_rfl) (fun _ hd5 => ?_)
      refine E.H.back (fun w h => A.hpY (p := [A.blk g2 (Q.S.cells s)]) (r := [M.It m3 ((M.V.new (M.np 1) false).poke (0 : Int).toNat (W.put ((Q3.encode i).1) 4) (W.put ((Q3.encode i).1) 4).size) (Q.S.cells Q.z0)]) h (by kernel_rfl) (A.pm [0, 1] (by kernel_rfl) (by kernel_rfl))) ?_
      refine E.H.done (by kernel_rfl) ?_
      refine E.tr ?_
      refine E.op (.pointer (some ⟨m3, 0, none⟩)) ?_
      refine E.op (.pointer (some ⟨m3, 0, none⟩)) ?_
      refine E.op (.pointer (some ⟨m3, 0, none⟩)) ?_
      refine A.G.call (I := Unit) (D := fun _ => True) (V := fun _ => .bool (decide ((0 : Int).toNat / 256 < ((M.V.new (M.np 1) false).poke (0 : Int).toNat (W.put ((Q3.encode i).1) 4) (W.put ((Q3.encode i).1) 4).size).n))) (q := fun _ => [M.It m3 (((M.V.new (M.np 1) false).poke (0 : Int).toNat (W.put ((Q3.encode i).1) 4) (W.put ((Q3.encode i).1) 4).size).sync ((0 : Int).toNat / 256)) (Q.S.cells Q.z0)]) [A.blk g2 (Q.S.cells s)] (fun _ => [(g2, (Q.S.cells s))]) (fun _ => [M.It m3 (((M.V.new (M.np 1) false).poke (0 : Int).toNat (W.put ((Q3.encode i).1) 4) (W.put ((Q3.encode i).1) 4).size).sync ((0 : Int).toNat / 256)) (Q.S.cells Q.z0)]) (I_Sync 0 (by decide) (m := m3) (V := ((M.V.new (M.np 1) false).poke (0 : Int).toNat (W.put ((Q3.encode i).1) 4) (W.put ((Q3.encode i).1) 4).size)) (xs := (Q.S.cells Q.z0))) (by kernel_rfl) (A.pm [1, 0] (by kernel_rfl) (by kernel_rfl)) (fun _ => A.pm [1, 0] (by kernel_rfl) (by kernel_rfl)) (fun w _ => by kernel_rfl) (by kernel_rfl) (fun _ hd6 => ?_)
      refine E.To.code ?_
      refine E.C.weak [(3, .pointer (some ⟨g2, 0, none⟩)), (4, .pointer none), (5, .pointer (some ⟨m3, 0, none⟩))] [(g2, (Q.S.cells s))] ⟨by kernel_rfl, by kernel_rfl⟩ (List.Sublist.refl _) ?_
      refine E.sr ?_
      refine E.op (.pointer (some ⟨m3, 0, none⟩)) ?_
      refine E.op (.pointer (some ⟨m3, 0, none⟩)) ?_
      refine E.op (.pointer (some ⟨m3, 0, none⟩)) ?_
      refine A.G.call (I := Unit) (D := fun _ => True) (V := fun _ => .tuple #[]) (q := fun _ => [M.It m3 (Q.oneV i) (Q.S.cells Q.z0)]) [A.blk g2 (Q.S.cells s)] (fun _ => [(g2, (Q.S.cells s))]) (fun _ => [M.It m3 (Q.oneV i) (Q.S.cells Q.z0)]) (A_Protect 0 7 (m := m3) (V := (((M.V.new (M.np 1) false).poke (0 : Int).toNat (W.put ((Q3.encode i).1) 4) (W.put ((Q3.encode i).1) 4).size).sync ((0 : Int).toNat / 256))) (xs := (Q.S.cells Q.z0))) (by kernel_rfl) (A.pm [1, 0] (by kernel_rfl) (by kernel_rfl)) (fun _ => A.pm [1, 0] (by kernel_rfl) (by kernel_rfl)) (fun w _ => by kernel_rfl) (by kernel_rfl) (fun _ hd7 => ?_)
      refine E.tr ?_
      refine E.op (.pointer (some ⟨m3, 0, none⟩)) ?_
      refine E.li (Q.S.val s) 0 rfl rfl ?_
      refine A.G.call (I := Unit) (D := fun _ => True) (V := fun _ => .tuple #[]) (q := fun _ => [M.It m3 (Q.oneV i) (Q.S.cells (Q.norm s))]) [A.blk g2 (Q.S.cells s)] (fun _ => [(g2, (Q.S.cells s))]) (fun _ => [M.It m3 (Q.oneV i) (Q.S.cells (Q.norm s))]) (CSet (c := m3) (V := (Q.oneV i)) (s0 := Q.z0) s) (by kernel_rfl) (A.pm [1, 0] (by kernel_rfl) (by kernel_rfl)) (fun _ => A.pm [1, 0] (by kernel_rfl) (by kernel_rfl)) (fun w _ => by kernel_rfl) (by kernel_rfl) (fun _ hd8 => ?_)
      refine E.To.code ?_
      refine E.C.weak [(4, .pointer none), (5, .pointer (some ⟨m3, 0, none⟩))] [] ⟨by kernel_rfl, by kernel_rfl⟩ (List.nil_sublist _) ?_
      refine E.sr ?_
      refine E.op (.pointer (some ⟨m3, 0, none⟩)) ?_
      refine E.op (.pointer (some ⟨m3, 0, none⟩)) ?_
      refine E.To.code ?_
      refine E.C.ret (E.To.body (fn := Try.f19) [.pointer (some ⟨m3, 0, none⟩)] ?_ ?_)
      · exact ⟨⟨by kernel_rfl, by kernel_rfl⟩, trivial⟩
      · intro w h
        exact ⟨m3, trivial, rfl, A.done (q := [M.It m3 (Q.oneV i) (Q.S.cells (Q.norm s))]) (r := []) h (by kernel_rfl) (A.pm [0] (by kernel_rfl) (by kernel_rfl))⟩
end Go.Proofs.Ytgbndbljohpnmaa

/- XQw -/
namespace Go.Proofs.Ytgbndbljohpnmaa
set_option linter.unusedVariables false
set_option linter.unusedSimpArgs false
open Go.RowKit
theorem Q.put_bytes {w : Int} : strOfNums [W.byt (W.put w 4).data.toList 0, W.byt (W.put w 4).data.toList 1, W.byt (W.put w 4).data.toList 2, W.byt (W.put w 4).data.toList 3] = W.put w 4 := by
  have e : W.put w 4 = strOfNums (W.bytes4 w) := by unfold W.put; rfl
  have h : ∀ j, W.byt (W.put w 4).data.toList j = (W.bytes4 w).getD j 0 := fun j => by rw [e]; exact W.byt_nums _ _ (fun x hx => W.bytes4_bd w x hx)
  rw [h, h, h, h, e]; rfl
theorem Q.get_back {w : Int} (hw : 0 ≤ w ∧ w < 4294967296) : W.get (W.put w 4).data.toList = w := by
  rw [W.get_put w 4 (by decide) (by decide) hw.1 hw.2]
  show w % 4294967296 = w
  omega
theorem Q.wt (p k : Nat) (h : p + k < 4294967296) : (IntKind.wrap .u32 (((p : Nat) : Int) + ((k : Nat) : Int))).toNat = p + k := by rw [Q.wr]; omega
/-- A word lies in the fetch image of a page that may be executed. -/
def Q.holds (V : M.V) (p : Nat) (w : Int) : Prop := ∀ k, k < 4 → V.fetch (p + k) = (W.byt (W.put w 4).data.toList k, true)
theorem Q.fetch_holds {V : M.V} {p : Nat} {w : Int} {i : Q.I} (hp : p % 4 = 0) (hl : p + 4 ≤ 4294967296) (hw : 0 ≤ w ∧ w < 4294967296) (h : Q.holds V p w) (hd : Q.decode w = (i, 0)) : Q.fetch V ((p : Nat) : Int) = (i, 0, 0) := by
  have t : (Int.tmod ((p : Nat) : Int) 4 != 0) = false := by
    rw [Int.tmod_eq_emod_of_nonneg (by omega)]; simp; omega
  have w0 : (IntKind.wrap .u32 (((p : Nat) : Int) + 0)).toNat = p + 0 := Q.wt p 0 (by omega)
  have w1 : (IntKind.wrap .u32 (((p : Nat) : Int) + 1)).toNat = p + 1 := Q.wt p 1 (by omega)
  have w2 : (IntKind.wrap .u32 (((p : Nat) : Int) + 2)).toNat = p + 2 := Q.wt p 2 (by omega)
  have w3 : (IntKind.wrap .u32 (((p : Nat) : Int) + 3)).toNat = p + 3 := Q.wt p 3 (by omega)
  unfold Q.fetch
  rw [t, w0, w1, w2, w3, h 0 (by decide), h 1 (by decide), h 2 (by decide), h 3 (by decide)]
  show (bif ((Q.decode (W.get (strOfNums [W.byt (W.put w 4).data.toList 0, W.byt (W.put w 4).data.toList 1, W.byt (W.put w 4).data.toList 2, W.byt (W.put w 4).data.toList 3]).data.toList)).2 != 0) then _ else ((Q.decode (W.get (strOfNums [W.byt (W.put w 4).data.toList 0, W.byt (W.put w 4).data.toList 1, W.byt (W.put w 4).data.toList 2, W.byt (W.put w 4).data.toList 3]).data.toList)).1, 0, 0)) = _
  rw [Q.put_bytes, Q.get_back hw, hd]; rfl
theorem M.poke_f (V : M.V) (a : Nat) (s : ByteArray) : ∀ c, (V.poke a s c).n = V.n ∧ (V.poke a s c).coh = V.coh ∧ (V.poke a s c).r = V.r
  | 0 => ⟨rfl, rfl, rfl⟩
  | c + 1 => by
    have h := M.poke_f V a s c
    rw [M.V.poke, M.V.set]
    split
    · exact h
    · exact h
/-- A text that is laid into the first page. -/
theorem M.poke_d0 {V : M.V} (h1 : V.n = 1) (a : Nat) (s : ByteArray) : ∀ c, a + c ≤ 256 → ∀ x, (V.poke a s c).d 0 x = if a ≤ x ∧ x < a + c then W.byt s.data.toList (x - a) else V.d 0 x
  | 0, _, x => by rw [if_neg (by omega)]; rfl
  | c + 1, hc, x => by
    have h := M.poke_d0 h1 a s c (by omega) x
    have hf := M.poke_f V a s c
    rw [M.V.poke, M.V.set, Nat.mod_eq_of_lt (by omega), if_pos (by rw [hf.1, h1]; omega)]
    show (if 0 = (a + c) / 256 ∧ x = (a + c) % 256 then _ else (V.poke a s c).d 0 x) = _
    by_cases e : x = a + c
    · subst e
      rw [if_pos ⟨by omega, by omega⟩, if_pos ⟨by omega, by omega⟩, Nat.add_sub_cancel_left]
    · rw [if_neg (by omega), h]
      by_cases k : a ≤ x ∧ x < a + c
      · rw [if_pos k, if_pos (by omega)]
      · rw [if_neg k, if_neg (by omega)]
/-- A machine of one page that may be executed. -/
structure Q.one (V : M.V) : Prop where
  n : V.n = 1
  coh : V.coh = false
  r : V.r 0 = 7
theorem Q.one.poke {V : M.V} (h : Q.one V) (a : Nat) (s : ByteArray) (c : Nat) : Q.one (V.poke a s c) :=
  ⟨(M.poke_f V a s c).1.trans h.n, (M.poke_f V a s c).2.1.trans h.coh, by rw [(M.poke_f V a s c).2.2]; exact h.r⟩
theorem Q.one.sync {V : M.V} (h : Q.one V) : Q.one (V.sync 0) ∧ (∀ x, (V.sync 0).i 0 x = V.d 0 x) ∧ (∀ x, (V.sync 0).d 0 x = V.d 0 x) := by
  unfold M.V.sync
  rw [if_pos ⟨by rw [h.n]; decide, h.coh⟩]
  exact ⟨⟨h.n, h.coh, h.r⟩, fun x => (show (if (0 : Nat) = 0 then V.d 0 x else V.i 0 x) = V.d 0 x from if_pos rfl), fun _ => rfl⟩
theorem Q.one.fetch {V : M.V} (h : Q.one V) {x : Nat} (hx : x < 256) : V.fetch x = (V.i 0 x, true) := by
  have e : x / 256 = 0 := by omega
  have e2 : x % 256 = x := by omega
  have ok : V.ok x 4 = true := by unfold M.V.ok; rw [e, h.n, h.r]; decide
  unfold M.V.fetch
  rw [if_pos ok]
  unfold M.V.code
  rw [if_pos (by rw [e, h.n]; decide), e, e2]
theorem Q.oneV_one (i : Q.I) : Q.one (Q.oneV i) ∧ (∀ x, x < 4 → (Q.oneV i).d 0 x = W.byt (W.put (Q3.encode i).1 4).data.toList x) ∧ (∀ x, (Q.oneV i).i 0 x = (Q.oneV i).d 0 x) := by
  have h0 : (M.V.new (M.np 1) false).n = 1 := by decide
  have hp := M.poke_f (M.V.new (M.np 1) false) 0 (W.put (Q3.encode i).1 4) (W.put (Q3.encode i).1 4).size
  have hd := M.poke_d0 h0 0 (W.put (Q3.encode i).1 4) 4 (by decide)
  unfold Q.oneV
  rw [Q.put_size] at hp ⊢
  generalize (M.V.new (M.np 1) false).poke 0 (W.put (Q3.encode i).1 4) 4 = V at *
  have hs : V.sync (0 / 256) = { V with i := fun j x => if j = 0 then V.d j x else V.i j x } := if_pos ⟨by rw [hp.1, h0]; decide, hp.2.1⟩
  rw [hs]
  unfold M.V.prot
  rw [if_pos ⟨by decide, by show (0 : Int) < ((V.n : Nat) : Int); rw [hp.1, h0]; decide⟩]
  refine ⟨⟨hp.1.trans h0, hp.2.1, ?_⟩, fun x hx => ?_, fun x => (show (if (0 : Nat) = 0 then V.d 0 x else V.i 0 x) = V.d 0 x from if_pos rfl)⟩
  · show (if 0 = (0 : Int).toNat then bits .and .i64 7 7 else V.r 0) = 7
    rw [if_pos (by decide)]; decide
  · show V.d 0 x = _
    rw [hd x, if_pos ⟨by omega, by omega⟩, Nat.sub_zero]
end Go.Proofs.Ytgbndbljohpnmaa
