/- Texts of the walk, merged (5): see the remark ahead of each. -/
import Derived.Test.YtgbndbljohpnmaaGreatYd4
import Derived.Test.YtgbndbljohpnmaaGreatProg
import Derived.ChangeKeysEq
namespace Go.Proofs.YtgbndbljohpnmaaGreat
set_option linter.unusedVariables false
set_option linter.unusedSimpArgs false
open Go.RowKit
section
variable {most : Int} {F n : Nat} {s : Q.S} {V : M.V}
theorem Q.run_f (h : n < F) : ∃ f, F - n = f + 1 ∧ F - (n + 1) = f := ⟨F - (n + 1), by omega, rfl⟩
theorem Q.run_t (h : n < F) (h1 : (decide (s.du > 0) && decide (s.st ≥ s.du)) = true) : Q.run most (F - n) n s V = (s, 8, 0, V) := by
  obtain ⟨f, e, _⟩ := Q.run_f h
  rw [e, Q.run, h1]; rfl
theorem Q.run_b (h : n < F) (h1 : (decide (s.du > 0) && decide (s.st ≥ s.du)) = false) (h2 : decide (((n : Nat) : Int) ≥ most) = true) : Q.run most (F - n) n s V = (s, 1, 0, V) := by
  obtain ⟨f, e, _⟩ := Q.run_f h
  rw [e, Q.run, h1, h2]; rfl
theorem Q.run_s (h : n < F) (h1 : (decide (s.du > 0) && decide (s.st ≥ s.du)) = false) (h2 : decide (((n : Nat) : Int) ≥ most) = false) (h3 : ((Q.step s V).2.1 != 0) = true) : Q.run most (F - n) n s V = (s, (Q.step s V).2.1, (Q.step s V).2.2.1, (Q.step s V).2.2.2) := by
  obtain ⟨f, e, _⟩ := Q.run_f h
  rw [e, Q.run, h1, h2, h3]; rfl
theorem Q.run_n (h : n < F) (h1 : (decide (s.du > 0) && decide (s.st ≥ s.du)) = false) (h2 : decide (((n : Nat) : Int) ≥ most) = false) (h3 : ((Q.step s V).2.1 != 0) = false) : Q.run most (F - n) n s V = Q.run most (F - (n + 1)) (n + 1) (Q.step s V).1 (Q.step s V).2.2.2 := by
  obtain ⟨f, e, e2⟩ := Q.run_f h
  rw [e2, e, Q.run, h1, h2, h3]; rfl
theorem Q.run_lt (hm : most < 9223372036854775808) (h2 : decide (((n : Nat) : Int) ≥ most) = false) : n + 1 < most.toNat + 1 ∧ IntKind.wrap .i64 (((n : Nat) : Int) + 1) = ((n + 1 : Nat) : Int) := by
  have := of_decide_eq_false h2
  rw [IntKind.wrap_i64]
  omega
end
theorem CRun {c : Nat} (most : Int) (s : Q.S) (V : M.V) (hm : -9223372036854775808 ≤ most ∧ most < 9223372036854775808) (hs : Q.wf s) (hV : R.Wf V) : A.Tr Tryz.prog 24 #[.pointer (some ⟨c, 0, none⟩), .int .i64 most] [M.It c V (Q.S.cells s)] (I := Unit) (fun _ => True) (fun _ => .agg #[.int .i64 (Q.runs most s V).2.1, .int .u32 (Q.runs most s V).2.2.1]) (fun _ => [M.It c (Q.runs most s V).2.2.2 (Q.S.cells (Q.runs most s V).1)]) := by
 intro w oo aa hh
 refine E.enter (n := 54) (S := oo) Tryz.func24 rfl rfl (by kernel_rfl) (A.start (L := []) hh) (E.sr (E.G.new (fun g => E.pt g) [E.i 0, E.u 0] 49 (fun w => by kernel_rfl) (by kernel_rfl) (fun g1 => E.tr (E.op (E.i 0) (E.To.code (E.C.block (E.C.loop (I := Nat × Q.S × M.V) (fun i => (most.toNat + 1) - i.1) (fun i => i.1 < (most.toNat + 1) ∧ Q.wf i.2.1 ∧ R.Wf i.2.2 ∧ Q.run most ((most.toNat + 1) - i.1) i.1 i.2.1 i.2.2 = (Q.runs most s V)) (fun i => [(0, E.pt c), (1, E.i most), (4, E.pt g1), (5, E.i ((i.1 : Nat) : Int))]) (fun i => A.X w oo aa [M.It c i.2.2 (Q.S.cells i.2.1)]) (fun i => [(g1, [E.i 0, E.u 0])]) (0, s, V) (⟨Nat.succ_pos _, hs, hV, rfl⟩) ⟨by kernel_rfl, by kernel_rfl⟩ Nz.sub (fun _ h => h) (fun i hk1 => E.C.seq (E.C.block (E.C.seq (E.C.seq ?_)))))))))))
 refine E.C.quiet (by kernel_rfl) (by kernel_rfl) (E.wo (E.pt c) (E.wo (E.pt c) (E.wo (.pointer (some ⟨c, 2, none⟩)) (E.wo (.pointer (some ⟨c, 25, none⟩)) (E.wv (E.i i.2.1.du) (fun w h => A.Y.xld (A.X.y h.x) (k := 0) (j := 23) rfl (by kernel_rfl) (by kernel_rfl)) (E.wo (.bool (decide (i.2.1.du > 0))) (E.wo (.bool (decide (i.2.1.du > 0))) (E.W.cut 12 [(0, E.pt c), (1, E.i most), (4, E.pt g1), (5, E.i ((i.1 : Nat) : Int)), (10, E.pt c), (11, E.pt c), (12, .pointer (some ⟨c, 2, none⟩)), (13, .pointer (some ⟨c, 25, none⟩)), (14, E.i i.2.1.du), (15, .bool (decide (i.2.1.du > 0))), (16, .bool (decide (i.2.1.du > 0))), (28, .bool ((decide (i.2.1.du > 0)) && (decide (i.2.1.st ≥ i.2.1.du))))] ?_ ?_))))))))
 ·
  generalize hc2 : (decide (i.2.1.du > 0)) = b3
  cases b3
  ·
   refine E.ws (E.ws (E.ws (E.ws (E.ws (E.ws (E.ws (E.ws (E.ws (E.ws (E.ws (E.wo (.bool false) ?_)))))))))))
   exact E.W.end_cut ⟨by kernel_rfl, by kernel_rfl⟩
  refine E.wo (E.pt c) (E.wo (E.pt c) (E.wo (.pointer (some ⟨c, 2, none⟩)) (E.wo (.pointer (some ⟨c, 24, none⟩)) (E.wv (E.i i.2.1.st) (fun w h => A.Y.xld (A.X.y h.x) (k := 0) (j := 22) rfl (by kernel_rfl) (by kernel_rfl)) (E.wo (E.pt c) (E.wo (E.pt c) (E.wo (.pointer (some ⟨c, 2, none⟩)) (E.wo (.pointer (some ⟨c, 25, none⟩)) (E.wv (E.i i.2.1.du) (fun w h => A.Y.xld (A.X.y h.x) (k := 0) (j := 23) rfl (by kernel_rfl) (by kernel_rfl)) (E.wo (.bool (decide (i.2.1.st ≥ i.2.1.du))) (E.wo (.bool (decide (i.2.1.st ≥ i.2.1.du))) ?_)))))))))))
  exact E.W.end_cut ⟨by kernel_rfl, by kernel_rfl⟩
 refine E.W.done (E.To.code (E.cd ((decide (i.2.1.du > 0)) && (decide (i.2.1.st ≥ i.2.1.du))) (fun hc4 => ?_) (fun hc4 => ?_)))
 ·
  refine E.sr (E.vl (.agg #[E.i 8, E.u 0]) (fun w h => E.run_build #[E.i 8, E.u 0] (by kernel_rfl) w) (E.st 0 [E.i 8, E.u 0] rfl rfl (E.To.code (E.C.ret (E.P.rt (E.P.rb (E.P.rt (E.P.rt (E.P.rb (E.To.body (fn := Tryz.f24) [.agg #[E.i 8, E.u 0]] ?_ ?_))))))))))
  · exact ⟨⟨by kernel_rfl, _, _, 0, _, rfl, rfl, by kernel_rfl⟩, trivial⟩
  intro w h
  have e := hk1.2.2.2
  rw [Q.run_t hk1.1 hc4] at e
  rw [← e]
  exact ⟨(), trivial, rfl, A.dq [1] [0] h⟩
 refine E.C.skip (E.To.code (E.C.seq (E.sr (E.op (E.i ((i.1 : Nat) : Int)) (E.op (E.i most) (E.op (.bool (decide (((i.1 : Nat) : Int) ≥ most))) (E.To.code (E.cd (decide (((i.1 : Nat) : Int) ≥ most)) (fun hc5 => ?_) (fun hc5 => ?_)))))))))
 ·
  refine E.sr (E.vl (.agg #[E.i 1, E.u 0]) (fun w h => E.run_build #[E.i 1, E.u 0] (by kernel_rfl) w) (E.st 0 [E.i 1, E.u 0] rfl rfl (E.To.code (E.C.ret (E.P.rt (E.P.rb (E.P.rt (E.P.rt (E.P.rb (E.To.body (fn := Tryz.f24) [.agg #[E.i 1, E.u 0]] ?_ ?_))))))))))
  · exact ⟨⟨by kernel_rfl, _, _, 0, _, rfl, rfl, by kernel_rfl⟩, trivial⟩
  intro w h
  have e := hk1.2.2.2
  rw [Q.run_b hk1.1 hc4 hc5] at e
  rw [← e]
  exact ⟨(), trivial, rfl, A.dq [1] [0] h⟩
 refine E.C.skip (E.To.code (E.C.seq (E.C.held (M.Xc c (Q.S.cells i.2.1)) (by kernel_rfl) (E.H.gen (fun H up dn => ?_)))))
 have nd4 : ∀ (β α : Nat), H 0 (E.bits 16 65535) [(0, E.pt c), (1, E.i most), (4, E.pt g1), (5, E.i ((i.1 : Nat) : Int)), (6, E.pt β), (7, E.pt α), (10, E.pt c), (11, E.pt c), (12, .pointer (some ⟨c, 2, none⟩)), (13, .pointer (some ⟨c, 25, none⟩)), (14, E.i i.2.1.du), (15, .bool (decide (i.2.1.du > 0))), (16, .bool (decide (i.2.1.du > 0))), (28, .bool ((decide (i.2.1.du > 0)) && (decide (i.2.1.st ≥ i.2.1.du)))), (30, E.i ((i.1 : Nat) : Int)), (31, E.i most), (32, .bool (decide (((i.1 : Nat) : Int) ≥ most))), (34, .tuple #[Q.S.val ((Q.step i.2.1 i.2.2).1), .agg #[E.i ((Q.step i.2.1 i.2.2).2.1), E.u ((Q.step i.2.1 i.2.2).2.2.1)]]), (35, E.pt c), (36, E.pt c), (37, .pointer (some ⟨c, 2, none⟩)), (38, Q.S.val i.2.1), (39, E.pt c), (40, E.pt c), (41, E.pt c), (42, .iface 36 (E.pt c)), (43, .tuple #[Q.S.val ((Q.step i.2.1 i.2.2).1), .agg #[E.i ((Q.step i.2.1 i.2.2).2.1), E.u ((Q.step i.2.1 i.2.2).2.2.1)]]), (44, Q.S.val ((Q.step i.2.1 i.2.2).1)), (45, .agg #[E.i ((Q.step i.2.1 i.2.2).2.1), E.u ((Q.step i.2.1 i.2.2).2.2.1)])] (A.X w oo aa [M.It c ((Q.step i.2.1 i.2.2).2.2.2) (Q.S.cells i.2.1)]) [(β, (Q.S.cells ((Q.step i.2.1 i.2.2).1))), (α, [E.i ((Q.step i.2.1 i.2.2).2.1), E.u ((Q.step i.2.1 i.2.2).2.2.1)]), (g1, [E.i 0, E.u 0])] := by
  intro β α
  refine up _ _ _ _ _ (E.H.done (by kernel_rfl) (E.To.code (E.C.seq (E.sr (E.op (E.pt α) (E.li (E.i ((Q.step i.2.1 i.2.2).2.1)) 1 rfl rfl (E.op (.bool (((Q.step i.2.1 i.2.2).2.1) != 0)) (E.To.code (E.cd (((Q.step i.2.1 i.2.2).2.1) != 0) (fun hc6 => ?_) (fun hc6 => ?_))))))))))
  ·
   refine E.sr (E.li (.agg #[E.i ((Q.step i.2.1 i.2.2).2.1), E.u ((Q.step i.2.1 i.2.2).2.2.1)]) 1 rfl rfl (E.st 2 [E.i ((Q.step i.2.1 i.2.2).2.1), E.u ((Q.step i.2.1 i.2.2).2.2.1)] rfl rfl (E.To.code (E.C.ret (E.P.rt (E.P.rb (E.P.rt (E.P.rt (E.P.rb (E.To.body (fn := Tryz.f24) [.agg #[E.i ((Q.step i.2.1 i.2.2).2.1), E.u ((Q.step i.2.1 i.2.2).2.2.1)]] ?_ ?_))))))))))
   · exact ⟨⟨by kernel_rfl, _, _, 2, _, rfl, rfl, by kernel_rfl⟩, trivial⟩
   intro w h
   have e := hk1.2.2.2
   rw [Q.run_s hk1.1 hc4 hc5 hc6] at e
   rw [← e]
   exact ⟨(), trivial, rfl, A.dq [3] [0, 1, 2] h⟩
  refine E.C.skip (E.To.code (E.C.region (E.op (E.pt c) (E.li (Q.S.val ((Q.step i.2.1 i.2.2).1)) 0 rfl rfl (E.op (E.pt c) (E.op (.pointer (some ⟨c, 2, none⟩)) (A.G.openM (m := c) (V := (Q.step i.2.1 i.2.2).2.2.2) (xs := (Q.S.cells i.2.1)) (fun b7 => [(c, (M.hdr b7 ++ (Q.S.cells i.2.1))), (β, (Q.S.cells ((Q.step i.2.1 i.2.2).1))), (α, [E.i ((Q.step i.2.1 i.2.2).2.1), E.u ((Q.step i.2.1 i.2.2).2.2.1)]), (g1, [E.i 0, E.u 0])]) (fun b7 => [M.Bd b7 ((Q.step i.2.1 i.2.2).2.2.2)]) [A.blk β (Q.S.cells ((Q.step i.2.1 i.2.2).1)), A.blk α ([E.i ((Q.step i.2.1 i.2.2).2.1), E.u ((Q.step i.2.1 i.2.2).2.2.1)]), A.blk g1 ([E.i 0, E.u 0])] (by kernel_rfl) (A.pn [3, 0, 1, 2]) (fun b7 => A.pm [0, 2, 3, 4, 1] (by kernel_rfl) (by kernel_rfl)) (fun b7 => E.st 0 (M.hdr b7 ++ (Q.S.cells ((Q.step i.2.1 i.2.2).1))) rfl rfl (A.G.closeM (b := b7) (m := c) (V := (Q.step i.2.1 i.2.2).2.2.2) (xs := (Q.S.cells ((Q.step i.2.1 i.2.2).1))) [(β, (Q.S.cells ((Q.step i.2.1 i.2.2).1))), (α, [E.i ((Q.step i.2.1 i.2.2).2.1), E.u ((Q.step i.2.1 i.2.2).2.2.1)]), (g1, [E.i 0, E.u 0])] [M.It c ((Q.step i.2.1 i.2.2).2.2.2) (Q.S.cells ((Q.step i.2.1 i.2.2).1))] [A.blk β (Q.S.cells ((Q.step i.2.1 i.2.2).1)), A.blk α ([E.i ((Q.step i.2.1 i.2.2).2.1), E.u ((Q.step i.2.1 i.2.2).2.2.1)]), A.blk g1 ([E.i 0, E.u 0])] (by kernel_rfl) (A.pn [0, 4, 1, 2, 3]) (A.pn [1, 2, 3, 0]) (E.P.nb (E.To.code (E.C.region (E.op (E.i ((i.1 : Nat) : Int)) ?_)))))))))))))
  exact E.vl (E.i ((i.1 + 1 : Nat) : Int)) (fun w h => E.run_as (a := E.i (IntKind.wrap .i64 (((i.1 : Nat) : Int) + 1))) (by kernel_rfl) (congrArg (Value.int .i64) (Q.run_lt hm.2 hc5).2)) (E.op (E.i ((i.1 + 1 : Nat) : Int)) (E.To.round (i.1 + 1, (Q.step i.2.1 i.2.2).1, (Q.step i.2.1 i.2.2).2.2.2) (by show (most.toNat + 1) - (i.1 + 1) < (most.toNat + 1) - i.1; have := hk1.1; omega) (⟨(Q.run_lt hm.2 hc5).1, (Q.step_wf hk1.2.1 hk1.2.2.1).1, (Q.step_wf hk1.2.1 hk1.2.2.1).2, (Q.run_n hk1.1 hc4 hc5 hc6).symm.trans hk1.2.2.2⟩) ⟨by kernel_rfl, by kernel_rfl⟩ Nz.sub (fun _ h => h)))
 have nd3 : ∀ (β α : Nat), H 1 (E.bits 16 32767) [(0, E.pt c), (1, E.i most), (4, E.pt g1), (5, E.i ((i.1 : Nat) : Int)), (6, E.pt β), (7, E.pt α), (10, E.pt c), (11, E.pt c), (12, .pointer (some ⟨c, 2, none⟩)), (13, .pointer (some ⟨c, 25, none⟩)), (14, E.i i.2.1.du), (15, .bool (decide (i.2.1.du > 0))), (16, .bool (decide (i.2.1.du > 0))), (28, .bool ((decide (i.2.1.du > 0)) && (decide (i.2.1.st ≥ i.2.1.du)))), (30, E.i ((i.1 : Nat) : Int)), (31, E.i most), (32, .bool (decide (((i.1 : Nat) : Int) ≥ most))), (34, .tuple #[Q.S.val ((Q.step i.2.1 i.2.2).1), .agg #[E.i ((Q.step i.2.1 i.2.2).2.1), E.u ((Q.step i.2.1 i.2.2).2.2.1)]]), (35, E.pt c), (36, E.pt c), (37, .pointer (some ⟨c, 2, none⟩)), (38, Q.S.val i.2.1), (39, E.pt c), (40, E.pt c), (41, E.pt c), (42, .iface 36 (E.pt c)), (43, .tuple #[Q.S.val ((Q.step i.2.1 i.2.2).1), .agg #[E.i ((Q.step i.2.1 i.2.2).2.1), E.u ((Q.step i.2.1 i.2.2).2.2.1)]]), (44, Q.S.val ((Q.step i.2.1 i.2.2).1)), (45, .agg #[E.i ((Q.step i.2.1 i.2.2).2.1), E.u ((Q.step i.2.1 i.2.2).2.2.1)])] (A.X w oo aa [M.It c ((Q.step i.2.1 i.2.2).2.2.2) (Q.S.cells i.2.1)]) [(β, (Q.S.cells ((Q.step i.2.1 i.2.2).1))), (α, [E.i 0, E.u 0]), (g1, [E.i 0, E.u 0])] := by
  intro β α
  exact up _ _ _ _ _ (E.al 15 rfl (E.st 1 [E.i ((Q.step i.2.1 i.2.2).2.1), E.u ((Q.step i.2.1 i.2.2).2.2.1)] rfl rfl (E.H.back (fun w h => A.Y.xc (A.X.y h.x) (k := 0) rfl) (E.ho (dn _ _ _ _ _ (nd4 β α))))))
 have nd2 : ∀ (β α : Nat), H 2 (E.bits 16 16383) [(0, E.pt c), (1, E.i most), (4, E.pt g1), (5, E.i ((i.1 : Nat) : Int)), (6, E.pt β), (7, E.pt α), (10, E.pt c), (11, E.pt c), (12, .pointer (some ⟨c, 2, none⟩)), (13, .pointer (some ⟨c, 25, none⟩)), (14, E.i i.2.1.du), (15, .bool (decide (i.2.1.du > 0))), (16, .bool (decide (i.2.1.du > 0))), (28, .bool ((decide (i.2.1.du > 0)) && (decide (i.2.1.st ≥ i.2.1.du)))), (30, E.i ((i.1 : Nat) : Int)), (31, E.i most), (32, .bool (decide (((i.1 : Nat) : Int) ≥ most))), (34, .tuple #[Q.S.val ((Q.step i.2.1 i.2.2).1), .agg #[E.i ((Q.step i.2.1 i.2.2).2.1), E.u ((Q.step i.2.1 i.2.2).2.2.1)]]), (35, E.pt c), (36, E.pt c), (37, .pointer (some ⟨c, 2, none⟩)), (38, Q.S.val i.2.1), (39, E.pt c), (40, E.pt c), (41, E.pt c), (42, .iface 36 (E.pt c)), (43, .tuple #[Q.S.val ((Q.step i.2.1 i.2.2).1), .agg #[E.i ((Q.step i.2.1 i.2.2).2.1), E.u ((Q.step i.2.1 i.2.2).2.2.1)]]), (44, Q.S.val ((Q.step i.2.1 i.2.2).1)), (45, .agg #[E.i ((Q.step i.2.1 i.2.2).2.1), E.u ((Q.step i.2.1 i.2.2).2.2.1)])] (A.X w oo aa [M.It c ((Q.step i.2.1 i.2.2).2.2.2) (Q.S.cells i.2.1)]) [(β, (Q.S.cells Q.z0)), (α, [E.i 0, E.u 0]), (g1, [E.i 0, E.u 0])] := by
  intro β α
  exact up _ _ _ _ _ (E.al 14 rfl (E.st 0 (Q.S.cells ((Q.step i.2.1 i.2.2).1)) rfl rfl (E.H.back (fun w h => A.Y.xc (A.X.y h.x) (k := 0) rfl) (E.ho (dn _ _ _ _ _ (nd3 β α))))))
 have nd1 : ∀ (β : Nat), H 3 (E.bits 16 8191) [(0, E.pt c), (1, E.i most), (4, E.pt g1), (5, E.i ((i.1 : Nat) : Int)), (6, E.pt β), (10, E.pt c), (11, E.pt c), (12, .pointer (some ⟨c, 2, none⟩)), (13, .pointer (some ⟨c, 25, none⟩)), (14, E.i i.2.1.du), (15, .bool (decide (i.2.1.du > 0))), (16, .bool (decide (i.2.1.du > 0))), (28, .bool ((decide (i.2.1.du > 0)) && (decide (i.2.1.st ≥ i.2.1.du)))), (30, E.i ((i.1 : Nat) : Int)), (31, E.i most), (32, .bool (decide (((i.1 : Nat) : Int) ≥ most))), (34, .tuple #[Q.S.val ((Q.step i.2.1 i.2.2).1), .agg #[E.i ((Q.step i.2.1 i.2.2).2.1), E.u ((Q.step i.2.1 i.2.2).2.2.1)]]), (35, E.pt c), (36, E.pt c), (37, .pointer (some ⟨c, 2, none⟩)), (38, Q.S.val i.2.1), (39, E.pt c), (40, E.pt c), (41, E.pt c), (42, .iface 36 (E.pt c)), (43, .tuple #[Q.S.val ((Q.step i.2.1 i.2.2).1), .agg #[E.i ((Q.step i.2.1 i.2.2).2.1), E.u ((Q.step i.2.1 i.2.2).2.2.1)]]), (44, Q.S.val ((Q.step i.2.1 i.2.2).1)), (45, .agg #[E.i ((Q.step i.2.1 i.2.2).2.1), E.u ((Q.step i.2.1 i.2.2).2.2.1)])] (A.X w oo aa [M.It c ((Q.step i.2.1 i.2.2).2.2.2) (Q.S.cells i.2.1)]) [(β, (Q.S.cells Q.z0)), (g1, [E.i 0, E.u 0])] := by
  intro β
  exact up _ _ _ _ _ (E.al 13 rfl (E.G.new (fun g => E.pt g) [E.i 0, E.u 0] 49 (fun w => by kernel_rfl) (by kernel_rfl) (fun α => E.H.back (fun w h => A.Y.xc (A.X.y h.x) (k := 0) rfl) (E.H.toP _ _ [(β, (Q.S.cells Q.z0)), (α, [E.i 0, E.u 0]), (g1, [E.i 0, E.u 0])] (by kernel_rfl) ⟨by kernel_rfl, by kernel_rfl⟩ (A.pn [1, 0, 2]) (dn _ _ _ _ _ (nd2 β α))))))
 have nd5 : ∀ (α : Nat), H 3 (E.bits 16 12287) [(0, E.pt c), (1, E.i most), (4, E.pt g1), (5, E.i ((i.1 : Nat) : Int)), (7, E.pt α), (10, E.pt c), (11, E.pt c), (12, .pointer (some ⟨c, 2, none⟩)), (13, .pointer (some ⟨c, 25, none⟩)), (14, E.i i.2.1.du), (15, .bool (decide (i.2.1.du > 0))), (16, .bool (decide (i.2.1.du > 0))), (28, .bool ((decide (i.2.1.du > 0)) && (decide (i.2.1.st ≥ i.2.1.du)))), (30, E.i ((i.1 : Nat) : Int)), (31, E.i most), (32, .bool (decide (((i.1 : Nat) : Int) ≥ most))), (34, .tuple #[Q.S.val ((Q.step i.2.1 i.2.2).1), .agg #[E.i ((Q.step i.2.1 i.2.2).2.1), E.u ((Q.step i.2.1 i.2.2).2.2.1)]]), (35, E.pt c), (36, E.pt c), (37, .pointer (some ⟨c, 2, none⟩)), (38, Q.S.val i.2.1), (39, E.pt c), (40, E.pt c), (41, E.pt c), (42, .iface 36 (E.pt c)), (43, .tuple #[Q.S.val ((Q.step i.2.1 i.2.2).1), .agg #[E.i ((Q.step i.2.1 i.2.2).2.1), E.u ((Q.step i.2.1 i.2.2).2.2.1)]]), (44, Q.S.val ((Q.step i.2.1 i.2.2).1)), (45, .agg #[E.i ((Q.step i.2.1 i.2.2).2.1), E.u ((Q.step i.2.1 i.2.2).2.2.1)])] (A.X w oo aa [M.It c ((Q.step i.2.1 i.2.2).2.2.2) (Q.S.cells i.2.1)]) [(α, [E.i 0, E.u 0]), (g1, [E.i 0, E.u 0])] := by
  intro α
  exact up _ _ _ _ _ (E.al 12 rfl (E.G.new (fun g => E.pt g) (Q.S.cells Q.z0) 32 (fun w => by kernel_rfl) (by kernel_rfl) (fun β => E.H.back (fun w h => A.Y.xc (A.X.y h.x) (k := 0) rfl) (E.ho (dn _ _ _ _ _ (nd2 β α))))))
 have nd0 : H 7 (E.bits 16 511) [(0, E.pt c), (1, E.i most), (4, E.pt g1), (5, E.i ((i.1 : Nat) : Int)), (10, E.pt c), (11, E.pt c), (12, .pointer (some ⟨c, 2, none⟩)), (13, .pointer (some ⟨c, 25, none⟩)), (14, E.i i.2.1.du), (15, .bool (decide (i.2.1.du > 0))), (16, .bool (decide (i.2.1.du > 0))), (28, .bool ((decide (i.2.1.du > 0)) && (decide (i.2.1.st ≥ i.2.1.du)))), (30, E.i ((i.1 : Nat) : Int)), (31, E.i most), (32, .bool (decide (((i.1 : Nat) : Int) ≥ most))), (35, E.pt c), (36, E.pt c), (37, .pointer (some ⟨c, 2, none⟩)), (38, Q.S.val i.2.1), (39, E.pt c), (40, E.pt c), (41, E.pt c), (42, .iface 36 (E.pt c)), (43, .tuple #[Q.S.val ((Q.step i.2.1 i.2.2).1), .agg #[E.i ((Q.step i.2.1 i.2.2).2.1), E.u ((Q.step i.2.1 i.2.2).2.2.1)]])] (A.X w oo aa [M.It c ((Q.step i.2.1 i.2.2).2.2.2) (Q.S.cells i.2.1)]) [(g1, [E.i 0, E.u 0])] := by
  refine up _ _ _ _ _ (E.tk 9 (.tuple #[Q.S.val ((Q.step i.2.1 i.2.2).1), .agg #[E.i ((Q.step i.2.1 i.2.2).2.1), E.u ((Q.step i.2.1 i.2.2).2.2.1)]]) rfl (fun w h => A.Y.xc (A.X.y h.x) (k := 0) rfl) (E.tk 10 (Q.S.val ((Q.step i.2.1 i.2.2).1)) rfl (fun w h => A.Y.xc (A.X.y h.x) (k := 0) rfl) (E.tk 11 (.agg #[E.i ((Q.step i.2.1 i.2.2).2.1), E.u ((Q.step i.2.1 i.2.2).2.2.1)]) rfl (fun w h => A.Y.xc (A.X.y h.x) (k := 0) rfl) (E.al2 12 13 rfl rfl ?_ ?_))))
  ·
   exact E.G.new (fun g => E.pt g) (Q.S.cells Q.z0) 32 (fun w => by kernel_rfl) (by kernel_rfl) (fun β => E.H.back (fun w h => A.Y.xc (A.X.y h.x) (k := 0) rfl) (E.ho (dn _ _ _ _ _ (nd1 β))))
  exact E.G.new (fun g => E.pt g) [E.i 0, E.u 0] 49 (fun w => by kernel_rfl) (by kernel_rfl) (fun α => E.H.back (fun w h => A.Y.xc (A.X.y h.x) (k := 0) rfl) (E.ho (dn _ _ _ _ _ (nd5 α))))
 have nd7 : ∀ (β : Nat), H 6 (E.bits 16 4607) [(0, E.pt c), (1, E.i most), (4, E.pt g1), (5, E.i ((i.1 : Nat) : Int)), (6, E.pt β), (10, E.pt c), (11, E.pt c), (12, .pointer (some ⟨c, 2, none⟩)), (13, .pointer (some ⟨c, 25, none⟩)), (14, E.i i.2.1.du), (15, .bool (decide (i.2.1.du > 0))), (16, .bool (decide (i.2.1.du > 0))), (28, .bool ((decide (i.2.1.du > 0)) && (decide (i.2.1.st ≥ i.2.1.du)))), (30, E.i ((i.1 : Nat) : Int)), (31, E.i most), (32, .bool (decide (((i.1 : Nat) : Int) ≥ most))), (35, E.pt c), (36, E.pt c), (37, .pointer (some ⟨c, 2, none⟩)), (38, Q.S.val i.2.1), (39, E.pt c), (40, E.pt c), (41, E.pt c), (42, .iface 36 (E.pt c)), (43, .tuple #[Q.S.val ((Q.step i.2.1 i.2.2).1), .agg #[E.i ((Q.step i.2.1 i.2.2).2.1), E.u ((Q.step i.2.1 i.2.2).2.2.1)]])] (A.X w oo aa [M.It c ((Q.step i.2.1 i.2.2).2.2.2) (Q.S.cells i.2.1)]) [(β, (Q.S.cells Q.z0)), (g1, [E.i 0, E.u 0])] := by
  intro β
  exact up _ _ _ _ _ (E.tk 9 (.tuple #[Q.S.val ((Q.step i.2.1 i.2.2).1), .agg #[E.i ((Q.step i.2.1 i.2.2).2.1), E.u ((Q.step i.2.1 i.2.2).2.2.1)]]) rfl (fun w h => A.Y.xc (A.X.y h.x) (k := 0) rfl) (E.tk 10 (Q.S.val ((Q.step i.2.1 i.2.2).1)) rfl (fun w h => A.Y.xc (A.X.y h.x) (k := 0) rfl) (E.tk 11 (.agg #[E.i ((Q.step i.2.1 i.2.2).2.1), E.u ((Q.step i.2.1 i.2.2).2.2.1)]) rfl (fun w h => A.Y.xc (A.X.y h.x) (k := 0) rfl) (E.al 13 rfl (E.G.new (fun g => E.pt g) [E.i 0, E.u 0] 49 (fun w => by kernel_rfl) (by kernel_rfl) (fun α => E.H.back (fun w h => A.Y.xc (A.X.y h.x) (k := 0) rfl) (E.H.toP _ _ [(β, (Q.S.cells Q.z0)), (α, [E.i 0, E.u 0]), (g1, [E.i 0, E.u 0])] (by kernel_rfl) ⟨by kernel_rfl, by kernel_rfl⟩ (A.pn [1, 0, 2]) (dn _ _ _ _ _ (nd2 β α)))))))))
 have nd9 : ∀ (β α : Nat), H 5 (E.bits 16 12799) [(0, E.pt c), (1, E.i most), (4, E.pt g1), (5, E.i ((i.1 : Nat) : Int)), (6, E.pt β), (7, E.pt α), (10, E.pt c), (11, E.pt c), (12, .pointer (some ⟨c, 2, none⟩)), (13, .pointer (some ⟨c, 25, none⟩)), (14, E.i i.2.1.du), (15, .bool (decide (i.2.1.du > 0))), (16, .bool (decide (i.2.1.du > 0))), (28, .bool ((decide (i.2.1.du > 0)) && (decide (i.2.1.st ≥ i.2.1.du)))), (30, E.i ((i.1 : Nat) : Int)), (31, E.i most), (32, .bool (decide (((i.1 : Nat) : Int) ≥ most))), (35, E.pt c), (36, E.pt c), (37, .pointer (some ⟨c, 2, none⟩)), (38, Q.S.val i.2.1), (39, E.pt c), (40, E.pt c), (41, E.pt c), (42, .iface 36 (E.pt c)), (43, .tuple #[Q.S.val ((Q.step i.2.1 i.2.2).1), .agg #[E.i ((Q.step i.2.1 i.2.2).2.1), E.u ((Q.step i.2.1 i.2.2).2.2.1)]])] (A.X w oo aa [M.It c ((Q.step i.2.1 i.2.2).2.2.2) (Q.S.cells i.2.1)]) [(β, (Q.S.cells Q.z0)), (α, [E.i 0, E.u 0]), (g1, [E.i 0, E.u 0])] := by
  intro β α
  exact up _ _ _ _ _ (E.tk 9 (.tuple #[Q.S.val ((Q.step i.2.1 i.2.2).1), .agg #[E.i ((Q.step i.2.1 i.2.2).2.1), E.u ((Q.step i.2.1 i.2.2).2.2.1)]]) rfl (fun w h => A.Y.xc (A.X.y h.x) (k := 0) rfl) (E.tk 10 (Q.S.val ((Q.step i.2.1 i.2.2).1)) rfl (fun w h => A.Y.xc (A.X.y h.x) (k := 0) rfl) (E.tk 11 (.agg #[E.i ((Q.step i.2.1 i.2.2).2.1), E.u ((Q.step i.2.1 i.2.2).2.2.1)]) rfl (fun w h => A.Y.xc (A.X.y h.x) (k := 0) rfl) (E.al 14 rfl (E.st 0 (Q.S.cells ((Q.step i.2.1 i.2.2).1)) rfl rfl (E.H.back (fun w h => A.Y.xc (A.X.y h.x) (k := 0) rfl) (E.ho (dn _ _ _ _ _ (nd3 β α)))))))))
 have nd8 : ∀ (β α : Nat), H 6 (E.bits 16 12543) [(0, E.pt c), (1, E.i most), (4, E.pt g1), (5, E.i ((i.1 : Nat) : Int)), (6, E.pt β), (7, E.pt α), (10, E.pt c), (11, E.pt c), (12, .pointer (some ⟨c, 2, none⟩)), (13, .pointer (some ⟨c, 25, none⟩)), (14, E.i i.2.1.du), (15, .bool (decide (i.2.1.du > 0))), (16, .bool (decide (i.2.1.du > 0))), (28, .bool ((decide (i.2.1.du > 0)) && (decide (i.2.1.st ≥ i.2.1.du)))), (30, E.i ((i.1 : Nat) : Int)), (31, E.i most), (32, .bool (decide (((i.1 : Nat) : Int) ≥ most))), (35, E.pt c), (36, E.pt c), (37, .pointer (some ⟨c, 2, none⟩)), (38, Q.S.val i.2.1), (39, E.pt c), (40, E.pt c), (41, E.pt c), (42, .iface 36 (E.pt c))] (A.X w oo aa [M.It c i.2.2 (Q.S.cells i.2.1)]) [(β, (Q.S.cells Q.z0)), (α, [E.i 0, E.u 0]), (g1, [E.i 0, E.u 0])] := by
  intro β α
  exact up _ _ _ _ _ (E.al 8 rfl (A.G.call (I := Unit) (D := fun _ => True) (V := fun _ => .tuple #[Q.S.val ((Q.step i.2.1 i.2.2).1), .agg #[E.i ((Q.step i.2.1 i.2.2).2.1), E.u ((Q.step i.2.1 i.2.2).2.2.1)]]) (q := fun _ => [M.It c ((Q.step i.2.1 i.2.2).2.2.2) (Q.S.cells i.2.1)]) [A.blk β (Q.S.cells Q.z0), A.blk α ([E.i 0, E.u 0]), A.blk g1 ([E.i 0, E.u 0])] (fun _ => [(β, (Q.S.cells Q.z0)), (α, [E.i 0, E.u 0]), (g1, [E.i 0, E.u 0])]) (fun _ => [M.It c ((Q.step i.2.1 i.2.2).2.2.2) (Q.S.cells i.2.1)]) (Step_any (m := c) (xs := (Q.S.cells i.2.1)) i.2.1 i.2.2 hk1.2.1) (by kernel_rfl) (A.pn [3, 0, 1, 2]) (fun _ => A.pm [1, 2, 3, 0] (by kernel_rfl) (by kernel_rfl)) (fun w _ => by kernel_rfl) (by kernel_rfl) (fun _ δ => E.H.back (fun w h => A.Y.xc (A.X.y h.x) (k := 0) rfl) (E.ho (dn _ _ _ _ _ (nd9 β α))))))
 have nd6 : ∀ (β : Nat), H 7 (E.bits 16 4351) [(0, E.pt c), (1, E.i most), (4, E.pt g1), (5, E.i ((i.1 : Nat) : Int)), (6, E.pt β), (10, E.pt c), (11, E.pt c), (12, .pointer (some ⟨c, 2, none⟩)), (13, .pointer (some ⟨c, 25, none⟩)), (14, E.i i.2.1.du), (15, .bool (decide (i.2.1.du > 0))), (16, .bool (decide (i.2.1.du > 0))), (28, .bool ((decide (i.2.1.du > 0)) && (decide (i.2.1.st ≥ i.2.1.du)))), (30, E.i ((i.1 : Nat) : Int)), (31, E.i most), (32, .bool (decide (((i.1 : Nat) : Int) ≥ most))), (35, E.pt c), (36, E.pt c), (37, .pointer (some ⟨c, 2, none⟩)), (38, Q.S.val i.2.1), (39, E.pt c), (40, E.pt c), (41, E.pt c), (42, .iface 36 (E.pt c))] (A.X w oo aa [M.It c i.2.2 (Q.S.cells i.2.1)]) [(β, (Q.S.cells Q.z0)), (g1, [E.i 0, E.u 0])] := by
  intro β
  refine up _ _ _ _ _ (E.al2 8 13 rfl rfl ?_ ?_)
  ·
   exact A.G.call (I := Unit) (D := fun _ => True) (V := fun _ => .tuple #[Q.S.val ((Q.step i.2.1 i.2.2).1), .agg #[E.i ((Q.step i.2.1 i.2.2).2.1), E.u ((Q.step i.2.1 i.2.2).2.2.1)]]) (q := fun _ => [M.It c ((Q.step i.2.1 i.2.2).2.2.2) (Q.S.cells i.2.1)]) [A.blk β (Q.S.cells Q.z0), A.blk g1 ([E.i 0, E.u 0])] (fun _ => [(β, (Q.S.cells Q.z0)), (g1, [E.i 0, E.u 0])]) (fun _ => [M.It c ((Q.step i.2.1 i.2.2).2.2.2) (Q.S.cells i.2.1)]) (Step_any (m := c) (xs := (Q.S.cells i.2.1)) i.2.1 i.2.2 hk1.2.1) (by kernel_rfl) (A.pn [2, 0, 1]) (fun _ => A.pm [1, 2, 0] (by kernel_rfl) (by kernel_rfl)) (fun w _ => by kernel_rfl) (by kernel_rfl) (fun _ δ => E.H.back (fun w h => A.Y.xc (A.X.y h.x) (k := 0) rfl) (E.ho (dn _ _ _ _ _ (nd7 β))))
  exact E.G.new (fun g => E.pt g) [E.i 0, E.u 0] 49 (fun w => by kernel_rfl) (by kernel_rfl) (fun α => E.H.back (fun w h => A.Y.xc (A.X.y h.x) (k := 0) rfl) (E.H.toP _ _ [(β, (Q.S.cells Q.z0)), (α, [E.i 0, E.u 0]), (g1, [E.i 0, E.u 0])] (by kernel_rfl) ⟨by kernel_rfl, by kernel_rfl⟩ (A.pn [1, 0, 2]) (dn _ _ _ _ _ (nd8 β α))))
 have nd11 : ∀ (α : Nat), H 6 (E.bits 16 8703) [(0, E.pt c), (1, E.i most), (4, E.pt g1), (5, E.i ((i.1 : Nat) : Int)), (7, E.pt α), (10, E.pt c), (11, E.pt c), (12, .pointer (some ⟨c, 2, none⟩)), (13, .pointer (some ⟨c, 25, none⟩)), (14, E.i i.2.1.du), (15, .bool (decide (i.2.1.du > 0))), (16, .bool (decide (i.2.1.du > 0))), (28, .bool ((decide (i.2.1.du > 0)) && (decide (i.2.1.st ≥ i.2.1.du)))), (30, E.i ((i.1 : Nat) : Int)), (31, E.i most), (32, .bool (decide (((i.1 : Nat) : Int) ≥ most))), (35, E.pt c), (36, E.pt c), (37, .pointer (some ⟨c, 2, none⟩)), (38, Q.S.val i.2.1), (39, E.pt c), (40, E.pt c), (41, E.pt c), (42, .iface 36 (E.pt c)), (43, .tuple #[Q.S.val ((Q.step i.2.1 i.2.2).1), .agg #[E.i ((Q.step i.2.1 i.2.2).2.1), E.u ((Q.step i.2.1 i.2.2).2.2.1)]])] (A.X w oo aa [M.It c ((Q.step i.2.1 i.2.2).2.2.2) (Q.S.cells i.2.1)]) [(α, [E.i 0, E.u 0]), (g1, [E.i 0, E.u 0])] := by
  intro α
  exact up _ _ _ _ _ (E.tk 9 (.tuple #[Q.S.val ((Q.step i.2.1 i.2.2).1), .agg #[E.i ((Q.step i.2.1 i.2.2).2.1), E.u ((Q.step i.2.1 i.2.2).2.2.1)]]) rfl (fun w h => A.Y.xc (A.X.y h.x) (k := 0) rfl) (E.tk 10 (Q.S.val ((Q.step i.2.1 i.2.2).1)) rfl (fun w h => A.Y.xc (A.X.y h.x) (k := 0) rfl) (E.tk 11 (.agg #[E.i ((Q.step i.2.1 i.2.2).2.1), E.u ((Q.step i.2.1 i.2.2).2.2.1)]) rfl (fun w h => A.Y.xc (A.X.y h.x) (k := 0) rfl) (E.al 12 rfl (E.G.new (fun g => E.pt g) (Q.S.cells Q.z0) 32 (fun w => by kernel_rfl) (by kernel_rfl) (fun β => E.H.back (fun w h => A.Y.xc (A.X.y h.x) (k := 0) rfl) (E.ho (dn _ _ _ _ _ (nd2 β α)))))))))
 have nd10 : ∀ (α : Nat), H 7 (E.bits 16 8447) [(0, E.pt c), (1, E.i most), (4, E.pt g1), (5, E.i ((i.1 : Nat) : Int)), (7, E.pt α), (10, E.pt c), (11, E.pt c), (12, .pointer (some ⟨c, 2, none⟩)), (13, .pointer (some ⟨c, 25, none⟩)), (14, E.i i.2.1.du), (15, .bool (decide (i.2.1.du > 0))), (16, .bool (decide (i.2.1.du > 0))), (28, .bool ((decide (i.2.1.du > 0)) && (decide (i.2.1.st ≥ i.2.1.du)))), (30, E.i ((i.1 : Nat) : Int)), (31, E.i most), (32, .bool (decide (((i.1 : Nat) : Int) ≥ most))), (35, E.pt c), (36, E.pt c), (37, .pointer (some ⟨c, 2, none⟩)), (38, Q.S.val i.2.1), (39, E.pt c), (40, E.pt c), (41, E.pt c), (42, .iface 36 (E.pt c))] (A.X w oo aa [M.It c i.2.2 (Q.S.cells i.2.1)]) [(α, [E.i 0, E.u 0]), (g1, [E.i 0, E.u 0])] := by
  intro α
  refine up _ _ _ _ _ (E.al2 8 12 rfl rfl ?_ ?_)
  ·
   exact A.G.call (I := Unit) (D := fun _ => True) (V := fun _ => .tuple #[Q.S.val ((Q.step i.2.1 i.2.2).1), .agg #[E.i ((Q.step i.2.1 i.2.2).2.1), E.u ((Q.step i.2.1 i.2.2).2.2.1)]]) (q := fun _ => [M.It c ((Q.step i.2.1 i.2.2).2.2.2) (Q.S.cells i.2.1)]) [A.blk α ([E.i 0, E.u 0]), A.blk g1 ([E.i 0, E.u 0])] (fun _ => [(α, [E.i 0, E.u 0]), (g1, [E.i 0, E.u 0])]) (fun _ => [M.It c ((Q.step i.2.1 i.2.2).2.2.2) (Q.S.cells i.2.1)]) (Step_any (m := c) (xs := (Q.S.cells i.2.1)) i.2.1 i.2.2 hk1.2.1) (by kernel_rfl) (A.pn [2, 0, 1]) (fun _ => A.pm [1, 2, 0] (by kernel_rfl) (by kernel_rfl)) (fun w _ => by kernel_rfl) (by kernel_rfl) (fun _ δ => E.H.back (fun w h => A.Y.xc (A.X.y h.x) (k := 0) rfl) (E.ho (dn _ _ _ _ _ (nd11 α))))
  exact E.G.new (fun g => E.pt g) (Q.S.cells Q.z0) 32 (fun w => by kernel_rfl) (by kernel_rfl) (fun β => E.H.back (fun w h => A.Y.xc (A.X.y h.x) (k := 0) rfl) (E.ho (dn _ _ _ _ _ (nd8 β α))))
 refine up _ _ _ _ _ (E.tk 0 (E.pt c) rfl (fun w h => A.Y.xc (A.X.y h.x) (k := 0) rfl) (E.tk 1 (E.pt c) rfl (fun w h => A.Y.xc (A.X.y h.x) (k := 0) rfl) (E.tk 2 (.pointer (some ⟨c, 2, none⟩)) rfl (fun w h => A.Y.xc (A.X.y h.x) (k := 0) rfl) (E.tj 3 (Q.S.val i.2.1) rfl (fun w h => A.Y.xc (A.X.y h.x) (k := 0) rfl) (fun w h => M.Xc.ld (j := 0) h (by kernel_rfl) (by kernel_rfl)) (E.tk 4 (E.pt c) rfl (fun w h => A.Y.xc (A.X.y h.x) (k := 0) rfl) (E.tk 5 (E.pt c) rfl (fun w h => A.Y.xc (A.X.y h.x) (k := 0) rfl) (E.tk 6 (E.pt c) rfl (fun w h => A.Y.xc (A.X.y h.x) (k := 0) rfl) (E.tk 7 (.iface 36 (E.pt c)) rfl (fun w h => A.Y.xc (A.X.y h.x) (k := 0) rfl) (E.al3 8 12 13 rfl rfl rfl ?_ ?_ ?_)))))))))
 ·
  exact A.G.call (I := Unit) (D := fun _ => True) (V := fun _ => .tuple #[Q.S.val ((Q.step i.2.1 i.2.2).1), .agg #[E.i ((Q.step i.2.1 i.2.2).2.1), E.u ((Q.step i.2.1 i.2.2).2.2.1)]]) (q := fun _ => [M.It c ((Q.step i.2.1 i.2.2).2.2.2) (Q.S.cells i.2.1)]) [A.blk g1 ([E.i 0, E.u 0])] (fun _ => [(g1, [E.i 0, E.u 0])]) (fun _ => [M.It c ((Q.step i.2.1 i.2.2).2.2.2) (Q.S.cells i.2.1)]) (Step_any (m := c) (xs := (Q.S.cells i.2.1)) i.2.1 i.2.2 hk1.2.1) (by kernel_rfl) (A.pn [1, 0]) (fun _ => A.pm [1, 0] (by kernel_rfl) (by kernel_rfl)) (fun w _ => by kernel_rfl) (by kernel_rfl) (fun _ δ => E.H.back (fun w h => A.Y.xc (A.X.y h.x) (k := 0) rfl) (E.ho (dn _ _ _ _ _ (nd0))))
 ·
  exact E.G.new (fun g => E.pt g) (Q.S.cells Q.z0) 32 (fun w => by kernel_rfl) (by kernel_rfl) (fun β => E.H.back (fun w h => A.Y.xc (A.X.y h.x) (k := 0) rfl) (E.ho (dn _ _ _ _ _ (nd6 β))))
 exact E.G.new (fun g => E.pt g) [E.i 0, E.u 0] 49 (fun w => by kernel_rfl) (by kernel_rfl) (fun α => E.H.back (fun w h => A.Y.xc (A.X.y h.x) (k := 0) rfl) (E.ho (dn _ _ _ _ _ (nd10 α))))
/-- A format of the reference. -/
structure Q3.Fm where
  is : Bool
  d : Bool
  a : Bool
  b : Bool
  sg : Bool
  bits : Nat
  most : Int
section
variable {P : Program} {fr : E.Fr} {T : TypeId} {d : Option Nat} {pos : String} {af : Array Edge} {gd : Option (Nat × Bool)}
theorem E.remI {t u : TypeId} {x y : Operand} {k : IntKind} (a b : Int) (hx : E.ev fr x = .int k a) (hy : E.ev fr y = .int k b) (hb : b ≠ 0) (w : World) :
    (execOp (E.ev fr) ⟨d, .binOp .rem t x y u, T, pos, af, gd⟩).run P w = .ok (.value (.int k (Int.tmod a b))) w := by
  show (do let r ← (do eqGuard .rem t x y (E.ev fr x) (E.ev fr y); binOp .rem t (E.ev fr x) (E.ev fr y)); pure (Next.value r) : Sem Next).run P w = _
  rw [hx, hy]
  simp [eqGuard, binOp, Op.intDiv, hb]
end
theorem Q.mod_eq (n m : Int) (hn : -9223372036854775808 ≤ n ∧ n < 9223372036854775808) (hm : 0 < m ∧ m < 4611686018427387904) : Int.tmod (IntKind.wrap .i64 (Int.tmod n m + m)) m = n % m := by
  have h1 : -m < Int.tmod n m := Int.lt_tmod_of_pos n hm.1
  have h2 : Int.tmod n m < m := Int.tmod_lt_of_pos n hm.1
  rw [IntWalk.i64_in _ (by omega), Int.tmod_eq_emod_of_nonneg (by omega), Int.add_emod_right]
  by_cases h : 0 ≤ n
  · rw [Int.tmod_eq_emod_of_nonneg h, Int.emod_emod]
  · have e := Int.tmod_def n m
    have := Int.emod_emod_of_dvd n (Int.dvd_refl m)
    rw [e, Int.sub_emod, Int.mul_emod_right, Int.sub_zero, Int.emod_emod]
theorem Q.callAs {P : Program} {f : FuncId} {args : Array Value} {w : World} {v v' : Value} (h : Calls P f args w fun e w' => e = .returned v ∧ Bel w w') (e : v = v') : Calls P f args w fun e w' => e = .returned v' ∧ Bel w w' := e ▸ h
theorem Q.w64u {n : Nat} (h : n < 64) : IntKind.wrap .u64 ((n : Nat) : Int) = ((n : Nat) : Int) := by
  show ((n : Nat) : Int) % 18446744073709551616 = _
  omega
def Q3.modr (n m : Int) : Int := (Int.tmod (IntKind.wrap .i64 ((Int.tmod n m) + m)) m)
theorem mod_raw (n m : Int) (hm : 0 < m ∧ m < 4611686018427387904) (w : World) : Calls Tryz.prog 27 #[.int .i64 n, .int .i64 m] w fun e w' => e = .returned (.int .i64 (Q3.modr n m)) ∧ Bel w w' := by
 refine E.enter (n := 12) (S := fun _ => False) Tryz.func27 rfl rfl (by kernel_rfl) (E.Hp.start w) (E.sr (E.op (E.i 0) (E.tr (E.op (E.i n) (E.op (E.i m) (E.vl (E.i (Int.tmod n m)) (fun w h => E.remI n m (by kernel_rfl) (by kernel_rfl) (by omega) w) (E.op (E.i m) (E.op (E.i (IntKind.wrap .i64 ((Int.tmod n m) + m))) (E.op (E.i m) (E.vl (E.i (Int.tmod (IntKind.wrap .i64 ((Int.tmod n m) + m)) m)) (fun w h => E.remI (IntKind.wrap .i64 ((Int.tmod n m) + m)) m (by kernel_rfl) (by kernel_rfl) (by omega) w) (E.op (E.i (Int.tmod (IntKind.wrap .i64 ((Int.tmod n m) + m)) m)) ?_)))))))))))
 exact E.To.code (E.wk [(4, E.i (Int.tmod (IntKind.wrap .i64 ((Int.tmod n m) + m)) m))] [] Nz.sub (E.C.ret (E.bd Tryz.f27 [E.i (Int.tmod (IntKind.wrap .i64 ((Int.tmod n m) + m)) m)] (fun w h => ⟨rfl, h.ch.bel (fun _ h => h.elim)⟩))))

theorem Mod_any (n m : Int) (hn : -9223372036854775808 ≤ n ∧ n < 9223372036854775808) (hm : 0 < m ∧ m < 4611686018427387904) (w : World) : Calls Tryz.prog 27 #[.int .i64 n, .int .i64 m] w fun e w' => e = .returned (.int .i64 (n % m)) ∧ Bel w w' := Q.callAs (mod_raw n m hm w) (congrArg (Value.int .i64) (Q.mod_eq n m hn hm))

def Q3.of (op : Int) : Q3.Fm := (bif ((decide (op ≥ 1)) && (decide (op ≤ 12))) then ⟨true, true, true, true, false, 0, 0⟩ else (bif (((op == 17) || (op == 18)) || (op == 19)) then ⟨true, true, true, false, false, 18, 0⟩ else (bif (((decide (op ≥ 16)) && (decide (op ≤ 27))) || ((decide (op ≥ 32)) && (decide (op ≤ 37)))) then ⟨true, true, true, false, true, 18, 0⟩ else (bif (op == 40) then ⟨true, true, false, false, true, 22, 0⟩ else (bif (op == 41) then ⟨true, true, false, false, false, 22, 0⟩ else (bif (op == 48) then ⟨true, false, false, false, false, 18, 0⟩ else (bif (((op == 49) || (op == 50)) || (op == 51)) then ⟨true, false, false, false, false, 0, 0⟩ else (bif (op == 52) then ⟨true, false, true, false, false, 0, 0⟩ else (bif (op == 53) then ⟨true, true, false, false, false, 18, 3⟩ else (bif (op == 54) then ⟨true, false, true, false, false, 18, 4⟩ else ⟨false, false, false, false, false, 0, 0⟩))))))))))
theorem Of3_any (op : Int) (w : World) : Calls Tryz.prog 66 #[.int .i64 op] w fun e w' => e = .returned (.agg #[.bool ((Q3.of op).is), .bool ((Q3.of op).d), .bool ((Q3.of op).a), .bool ((Q3.of op).b), .bool ((Q3.of op).sg), .int .i64 (((Q3.of op).bits : Nat) : Int), .int .u32 ((Q3.of op).most)]) ∧ Bel w w' := by
 refine E.enter (n := 76) (S := fun _ => False) Tryz.func66 rfl rfl (by kernel_rfl) (E.Hp.start w) (E.sr (E.G.new (fun g => E.pt g) [.bool false, .bool false, .bool false, .bool false, .bool false, E.i 0, E.u 0] 126 (fun w => by kernel_rfl) (by kernel_rfl) (fun g1 => E.To.code (E.C.seq (E.C.block (E.sr (E.op (E.i op) (E.op (.bool (decide (op ≥ 1))) (E.op (.bool (decide (op ≥ 1))) (E.G.cut 3 [(0, E.i op), (2, E.pt g1), (9, .bool ((decide (op ≥ 1)) && (decide (op ≤ 12))))] (fun _ => True) [(g1, [.bool false, .bool false, .bool false, .bool false, .bool false, E.i 0, E.u 0])] ?_ ?_))))))))))
 ·
  generalize hc2 : (decide (op ≥ 1)) = b3
  cases b3
  ·
   exact E.sk (E.sk (E.op (.bool false) (E.G.end_pst ⟨by kernel_rfl, by kernel_rfl⟩ Nz.sub (fun _ h => h))))
  exact E.op (E.i op) (E.op (.bool (decide (op ≤ 12))) (E.op (.bool (decide (op ≤ 12))) (E.G.end_pst ⟨by kernel_rfl, by kernel_rfl⟩ Nz.sub (fun _ h => h))))
 refine E.op (.bool ((decide (op ≥ 1)) && (decide (op ≤ 12)))) (E.To.code (E.cd ((decide (op ≥ 1)) && (decide (op ≤ 12))) (fun hc4 => ?_) (fun hc4 => ?_)))
 ·
  refine E.sr (E.vl (.agg #[.bool true, .bool true, .bool true, .bool true, .bool false, E.i 0, E.u 0]) (fun w h => E.run_build #[.bool true, .bool true, .bool true, .bool true, .bool false, E.i 0, E.u 0] (by kernel_rfl) w) (E.st 0 [.bool true, .bool true, .bool true, .bool true, .bool false, E.i 0, E.u 0] rfl rfl (E.To.code (E.C.ret (E.P.rb (E.P.rt (E.To.body (fn := Tryz.f66) [.agg #[.bool true, .bool true, .bool true, .bool true, .bool false, E.i 0, E.u 0]] ?_ ?_)))))))
  · exact ⟨⟨by kernel_rfl, _, _, 0, _, rfl, rfl, by kernel_rfl⟩, trivial⟩
  intro w h
  exact ⟨by show Ending.returned (.agg #[.bool true, .bool true, .bool true, .bool true, .bool false, .int .i64 0, .int .u32 0]) = _; unfold Q3.of; rw [hc4, cond_true] <;> rfl, h.ch.bel (fun _ h => h.elim)⟩
 refine E.sr (E.op (E.i op) (E.op (.bool (op == 17)) (E.op (.bool (op == 17)) (E.G.cut 3 [(0, E.i op), (2, E.pt g1), (17, .bool ((op == 17) || (op == 18)))] (fun _ => True) [(g1, [.bool false, .bool false, .bool false, .bool false, .bool false, E.i 0, E.u 0])] ?_ ?_))))
 ·
  generalize hc5 : (op == 17) = b6
  cases b6
  ·
   exact E.op (E.i op) (E.op (.bool (op == 18)) (E.op (.bool (op == 18)) (E.G.end_pst ⟨by kernel_rfl, by kernel_rfl⟩ Nz.sub (fun _ h => h))))
  exact E.sk (E.sk (E.op (.bool true) (E.G.end_pst ⟨by kernel_rfl, by kernel_rfl⟩ Nz.sub (fun _ h => h))))
 refine E.op (.bool ((op == 17) || (op == 18))) (E.G.cut 3 [(0, E.i op), (2, E.pt g1), (21, .bool (((op == 17) || (op == 18)) || (op == 19)))] (fun _ => True) [(g1, [.bool false, .bool false, .bool false, .bool false, .bool false, E.i 0, E.u 0])] ?_ ?_)
 ·
  generalize hc7 : ((op == 17) || (op == 18)) = b8
  cases b8
  ·
   exact E.op (E.i op) (E.op (.bool (op == 19)) (E.op (.bool (op == 19)) (E.G.end_pst ⟨by kernel_rfl, by kernel_rfl⟩ Nz.sub (fun _ h => h))))
  exact E.sk (E.sk (E.op (.bool true) (E.G.end_pst ⟨by kernel_rfl, by kernel_rfl⟩ Nz.sub (fun _ h => h))))
 refine E.op (.bool (((op == 17) || (op == 18)) || (op == 19))) (E.To.code (E.cd (((op == 17) || (op == 18)) || (op == 19)) (fun hc9 => ?_) (fun hc9 => ?_)))
 ·
  refine E.sr (E.vl (.agg #[.bool true, .bool true, .bool true, .bool false, .bool false, E.i 18, E.u 0]) (fun w h => E.run_build #[.bool true, .bool true, .bool true, .bool false, .bool false, E.i 18, E.u 0] (by kernel_rfl) w) (E.st 0 [.bool true, .bool true, .bool true, .bool false, .bool false, E.i 18, E.u 0] rfl rfl (E.To.code (E.C.ret (E.P.rb (E.P.rt (E.To.body (fn := Tryz.f66) [.agg #[.bool true, .bool true, .bool true, .bool false, .bool false, E.i 18, E.u 0]] ?_ ?_)))))))
  · exact ⟨⟨by kernel_rfl, _, _, 0, _, rfl, rfl, by kernel_rfl⟩, trivial⟩
  intro w h
  exact ⟨by show Ending.returned (.agg #[.bool true, .bool true, .bool true, .bool false, .bool false, .int .i64 18, .int .u32 0]) = _; unfold Q3.of; rw [hc4, cond_false, hc9, cond_true] <;> rfl, h.ch.bel (fun _ h => h.elim)⟩
 refine E.sr (E.op (E.i op) (E.op (.bool (decide (op ≥ 16))) (E.op (.bool (decide (op ≥ 16))) (E.G.cut 3 [(0, E.i op), (2, E.pt g1), (29, .bool ((decide (op ≥ 16)) && (decide (op ≤ 27))))] (fun _ => True) [(g1, [.bool false, .bool false, .bool false, .bool false, .bool false, E.i 0, E.u 0])] ?_ ?_))))
 ·
  generalize hc10 : (decide (op ≥ 16)) = b11
  cases b11
  ·
   exact E.sk (E.sk (E.op (.bool false) (E.G.end_pst ⟨by kernel_rfl, by kernel_rfl⟩ Nz.sub (fun _ h => h))))
  exact E.op (E.i op) (E.op (.bool (decide (op ≤ 27))) (E.op (.bool (decide (op ≤ 27))) (E.G.end_pst ⟨by kernel_rfl, by kernel_rfl⟩ Nz.sub (fun _ h => h))))
 refine E.op (.bool ((decide (op ≥ 16)) && (decide (op ≤ 27)))) (E.G.cut 7 [(0, E.i op), (2, E.pt g1), (37, .bool (((decide (op ≥ 16)) && (decide (op ≤ 27))) || ((decide (op ≥ 32)) && (decide (op ≤ 37)))))] (fun _ => True) [(g1, [.bool false, .bool false, .bool false, .bool false, .bool false, E.i 0, E.u 0])] ?_ ?_)
 ·
  generalize hc12 : ((decide (op ≥ 16)) && (decide (op ≤ 27))) = b13
  cases b13
  ·
   refine E.op (E.i op) (E.op (.bool (decide (op ≥ 32))) (E.op (.bool (decide (op ≥ 32))) (E.G.cut 3 [(0, E.i op), (2, E.pt g1), (30, .bool false), (36, .bool ((decide (op ≥ 32)) && (decide (op ≤ 37))))] (fun _ => True) [(g1, [.bool false, .bool false, .bool false, .bool false, .bool false, E.i 0, E.u 0])] ?_ ?_)))
   ·
    generalize hc14 : (decide (op ≥ 32)) = b15
    cases b15
    ·
     exact E.sk (E.sk (E.op (.bool false) (E.G.end_pst ⟨by kernel_rfl, by kernel_rfl⟩ Nz.sub (fun _ h => h))))
    exact E.op (E.i op) (E.op (.bool (decide (op ≤ 37))) (E.op (.bool (decide (op ≤ 37))) (E.G.end_pst ⟨by kernel_rfl, by kernel_rfl⟩ Nz.sub (fun _ h => h))))
   exact E.op (.bool ((decide (op ≥ 32)) && (decide (op ≤ 37)))) (E.G.end_pst ⟨by kernel_rfl, by kernel_rfl⟩ Nz.sub (fun _ h => h))
  exact E.sk (E.sk (E.sk (E.sk (E.sk (E.sk (E.op (.bool true) (E.G.end_pst ⟨by kernel_rfl, by kernel_rfl⟩ Nz.sub (fun _ h => h))))))))
 refine E.op (.bool (((decide (op ≥ 16)) && (decide (op ≤ 27))) || ((decide (op ≥ 32)) && (decide (op ≤ 37))))) (E.To.code (E.cd (((decide (op ≥ 16)) && (decide (op ≤ 27))) || ((decide (op ≥ 32)) && (decide (op ≤ 37)))) (fun hc16 => ?_) (fun hc16 => ?_)))
 ·
  refine E.sr (E.vl (.agg #[.bool true, .bool true, .bool true, .bool false, .bool true, E.i 18, E.u 0]) (fun w h => E.run_build #[.bool true, .bool true, .bool true, .bool false, .bool true, E.i 18, E.u 0] (by kernel_rfl) w) (E.st 0 [.bool true, .bool true, .bool true, .bool false, .bool true, E.i 18, E.u 0] rfl rfl (E.To.code (E.C.ret (E.P.rb (E.P.rt (E.To.body (fn := Tryz.f66) [.agg #[.bool true, .bool true, .bool true, .bool false, .bool true, E.i 18, E.u 0]] ?_ ?_)))))))
  · exact ⟨⟨by kernel_rfl, _, _, 0, _, rfl, rfl, by kernel_rfl⟩, trivial⟩
  intro w h
  exact ⟨by show Ending.returned (.agg #[.bool true, .bool true, .bool true, .bool false, .bool true, .int .i64 18, .int .u32 0]) = _; unfold Q3.of; rw [hc4, cond_false, hc9, cond_false, hc16, cond_true] <;> rfl, h.ch.bel (fun _ h => h.elim)⟩
 refine E.sr (E.op (E.i op) (E.op (.bool (op == 40)) (E.op (.bool (op == 40)) (E.To.code (E.cd (op == 40) (fun hc17 => ?_) (fun hc17 => ?_))))))
 ·
  refine E.sr (E.vl (.agg #[.bool true, .bool true, .bool false, .bool false, .bool true, E.i 22, E.u 0]) (fun w h => E.run_build #[.bool true, .bool true, .bool false, .bool false, .bool true, E.i 22, E.u 0] (by kernel_rfl) w) (E.st 0 [.bool true, .bool true, .bool false, .bool false, .bool true, E.i 22, E.u 0] rfl rfl (E.To.code (E.C.ret (E.P.rb (E.P.rt (E.To.body (fn := Tryz.f66) [.agg #[.bool true, .bool true, .bool false, .bool false, .bool true, E.i 22, E.u 0]] ?_ ?_)))))))
  · exact ⟨⟨by kernel_rfl, _, _, 0, _, rfl, rfl, by kernel_rfl⟩, trivial⟩
  intro w h
  exact ⟨by show Ending.returned (.agg #[.bool true, .bool true, .bool false, .bool false, .bool true, .int .i64 22, .int .u32 0]) = _; unfold Q3.of; rw [hc4, cond_false, hc9, cond_false, hc16, cond_false, hc17, cond_true] <;> rfl, h.ch.bel (fun _ h => h.elim)⟩
 refine E.sr (E.op (E.i op) (E.op (.bool (op == 41)) (E.op (.bool (op == 41)) (E.To.code (E.cd (op == 41) (fun hc18 => ?_) (fun hc18 => ?_))))))
 ·
  refine E.sr (E.vl (.agg #[.bool true, .bool true, .bool false, .bool false, .bool false, E.i 22, E.u 0]) (fun w h => E.run_build #[.bool true, .bool true, .bool false, .bool false, .bool false, E.i 22, E.u 0] (by kernel_rfl) w) (E.st 0 [.bool true, .bool true, .bool false, .bool false, .bool false, E.i 22, E.u 0] rfl rfl (E.To.code (E.wk [(2, E.pt g1)] [(g1, [.bool true, .bool true, .bool false, .bool false, .bool false, E.i 22, E.u 0])] Nz.sub (E.C.ret (E.P.rb (E.P.rt (E.To.body (fn := Tryz.f66) [.agg #[.bool true, .bool true, .bool false, .bool false, .bool false, E.i 22, E.u 0]] ?_ ?_))))))))
  · exact ⟨⟨by kernel_rfl, _, _, 0, _, rfl, rfl, by kernel_rfl⟩, trivial⟩
  intro w h
  exact ⟨by show Ending.returned (.agg #[.bool true, .bool true, .bool false, .bool false, .bool false, .int .i64 22, .int .u32 0]) = _; unfold Q3.of; rw [hc4, cond_false, hc9, cond_false, hc16, cond_false, hc17, cond_false, hc18, cond_true] <;> rfl, h.ch.bel (fun _ h => h.elim)⟩
 refine E.sr (E.op (E.i op) (E.op (.bool (op == 48)) (E.op (.bool (op == 48)) (E.To.code (E.wk [(0, E.i op), (2, E.pt g1), (47, .bool (op == 48))] [(g1, [.bool false, .bool false, .bool false, .bool false, .bool false, E.i 0, E.u 0])] Nz.sub (E.cd (op == 48) (fun hc19 => ?_) (fun hc19 => ?_)))))))
 ·
  refine E.sr (E.vl (.agg #[.bool true, .bool false, .bool false, .bool false, .bool false, E.i 18, E.u 0]) (fun w h => E.run_build #[.bool true, .bool false, .bool false, .bool false, .bool false, E.i 18, E.u 0] (by kernel_rfl) w) (E.st 0 [.bool true, .bool false, .bool false, .bool false, .bool false, E.i 18, E.u 0] rfl rfl (E.To.code (E.C.ret (E.P.rb (E.P.rt (E.To.body (fn := Tryz.f66) [.agg #[.bool true, .bool false, .bool false, .bool false, .bool false, E.i 18, E.u 0]] ?_ ?_)))))))
  · exact ⟨⟨by kernel_rfl, _, _, 0, _, rfl, rfl, by kernel_rfl⟩, trivial⟩
  intro w h
  exact ⟨by show Ending.returned (.agg #[.bool true, .bool false, .bool false, .bool false, .bool false, .int .i64 18, .int .u32 0]) = _; unfold Q3.of; rw [hc4, cond_false, hc9, cond_false, hc16, cond_false, hc17, cond_false, hc18, cond_false, hc19, cond_true] <;> rfl, h.ch.bel (fun _ h => h.elim)⟩
 refine E.sr (E.op (E.i op) (E.op (.bool (op == 49)) (E.op (.bool (op == 49)) (E.G.cut 3 [(0, E.i op), (2, E.pt g1), (57, .bool ((op == 49) || (op == 50)))] (fun _ => True) [(g1, [.bool false, .bool false, .bool false, .bool false, .bool false, E.i 0, E.u 0])] ?_ ?_))))
 ·
  generalize hc20 : (op == 49) = b21
  cases b21
  ·
   exact E.op (E.i op) (E.op (.bool (op == 50)) (E.op (.bool (op == 50)) (E.G.end_pst ⟨by kernel_rfl, by kernel_rfl⟩ Nz.sub (fun _ h => h))))
  exact E.sk (E.sk (E.op (.bool true) (E.G.end_pst ⟨by kernel_rfl, by kernel_rfl⟩ Nz.sub (fun _ h => h))))
 refine E.op (.bool ((op == 49) || (op == 50))) (E.G.cut 3 [(0, E.i op), (2, E.pt g1), (61, .bool (((op == 49) || (op == 50)) || (op == 51)))] (fun _ => True) [(g1, [.bool false, .bool false, .bool false, .bool false, .bool false, E.i 0, E.u 0])] ?_ ?_)
 ·
  generalize hc22 : ((op == 49) || (op == 50)) = b23
  cases b23
  ·
   exact E.op (E.i op) (E.op (.bool (op == 51)) (E.op (.bool (op == 51)) (E.G.end_pst ⟨by kernel_rfl, by kernel_rfl⟩ Nz.sub (fun _ h => h))))
  exact E.sk (E.sk (E.op (.bool true) (E.G.end_pst ⟨by kernel_rfl, by kernel_rfl⟩ Nz.sub (fun _ h => h))))
 refine E.op (.bool (((op == 49) || (op == 50)) || (op == 51))) (E.To.code (E.cd (((op == 49) || (op == 50)) || (op == 51)) (fun hc24 => ?_) (fun hc24 => ?_)))
 ·
  refine E.sr (E.vl (.agg #[.bool true, .bool false, .bool false, .bool false, .bool false, E.i 0, E.u 0]) (fun w h => E.run_build #[.bool true, .bool false, .bool false, .bool false, .bool false, E.i 0, E.u 0] (by kernel_rfl) w) (E.st 0 [.bool true, .bool false, .bool false, .bool false, .bool false, E.i 0, E.u 0] rfl rfl (E.To.code (E.C.ret (E.P.rb (E.P.rt (E.To.body (fn := Tryz.f66) [.agg #[.bool true, .bool false, .bool false, .bool false, .bool false, E.i 0, E.u 0]] ?_ ?_)))))))
  · exact ⟨⟨by kernel_rfl, _, _, 0, _, rfl, rfl, by kernel_rfl⟩, trivial⟩
  intro w h
  exact ⟨by show Ending.returned (.agg #[.bool true, .bool false, .bool false, .bool false, .bool false, .int .i64 0, .int .u32 0]) = _; unfold Q3.of; rw [hc4, cond_false, hc9, cond_false, hc16, cond_false, hc17, cond_false, hc18, cond_false, hc19, cond_false, hc24, cond_true] <;> rfl, h.ch.bel (fun _ h => h.elim)⟩
 refine E.sr (E.op (E.i op) (E.op (.bool (op == 52)) (E.op (.bool (op == 52)) (E.To.code (E.cd (op == 52) (fun hc25 => ?_) (fun hc25 => ?_))))))
 ·
  refine E.sr (E.vl (.agg #[.bool true, .bool false, .bool true, .bool false, .bool false, E.i 0, E.u 0]) (fun w h => E.run_build #[.bool true, .bool false, .bool true, .bool false, .bool false, E.i 0, E.u 0] (by kernel_rfl) w) (E.st 0 [.bool true, .bool false, .bool true, .bool false, .bool false, E.i 0, E.u 0] rfl rfl (E.To.code (E.C.ret (E.P.rb (E.P.rt (E.To.body (fn := Tryz.f66) [.agg #[.bool true, .bool false, .bool true, .bool false, .bool false, E.i 0, E.u 0]] ?_ ?_)))))))
  · exact ⟨⟨by kernel_rfl, _, _, 0, _, rfl, rfl, by kernel_rfl⟩, trivial⟩
  intro w h
  exact ⟨by show Ending.returned (.agg #[.bool true, .bool false, .bool true, .bool false, .bool false, .int .i64 0, .int .u32 0]) = _; unfold Q3.of; rw [hc4, cond_false, hc9, cond_false, hc16, cond_false, hc17, cond_false, hc18, cond_false, hc19, cond_false, hc24, cond_false, hc25, cond_true] <;> rfl, h.ch.bel (fun _ h => h.elim)⟩
 refine E.sr (E.op (E.i op) (E.op (.bool (op == 53)) (E.op (.bool (op == 53)) (E.To.code (E.cd (op == 53) (fun hc26 => ?_) (fun hc26 => ?_))))))
 ·
  refine E.sr (E.vl (.agg #[.bool true, .bool true, .bool false, .bool false, .bool false, E.i 18, E.u 3]) (fun w h => E.run_build #[.bool true, .bool true, .bool false, .bool false, .bool false, E.i 18, E.u 3] (by kernel_rfl) w) (E.st 0 [.bool true, .bool true, .bool false, .bool false, .bool false, E.i 18, E.u 3] rfl rfl (E.To.code (E.wk [(2, E.pt g1)] [(g1, [.bool true, .bool true, .bool false, .bool false, .bool false, E.i 18, E.u 3])] Nz.sub (E.C.ret (E.P.rb (E.P.rt (E.To.body (fn := Tryz.f66) [.agg #[.bool true, .bool true, .bool false, .bool false, .bool false, E.i 18, E.u 3]] ?_ ?_))))))))
  · exact ⟨⟨by kernel_rfl, _, _, 0, _, rfl, rfl, by kernel_rfl⟩, trivial⟩
  intro w h
  exact ⟨by show Ending.returned (.agg #[.bool true, .bool true, .bool false, .bool false, .bool false, .int .i64 18, .int .u32 3]) = _; unfold Q3.of; rw [hc4, cond_false, hc9, cond_false, hc16, cond_false, hc17, cond_false, hc18, cond_false, hc19, cond_false, hc24, cond_false, hc25, cond_false, hc26, cond_true] <;> rfl, h.ch.bel (fun _ h => h.elim)⟩
 refine E.sr (E.op (E.i op) (E.op (.bool (op == 54)) (E.op (.bool (op == 54)) (E.To.code (E.wk [(2, E.pt g1), (71, .bool (op == 54))] [(g1, [.bool false, .bool false, .bool false, .bool false, .bool false, E.i 0, E.u 0])] Nz.sub (E.cd (op == 54) (fun hc27 => ?_) (fun hc27 => ?_)))))))
 ·
  refine E.sr (E.vl (.agg #[.bool true, .bool false, .bool true, .bool false, .bool false, E.i 18, E.u 4]) (fun w h => E.run_build #[.bool true, .bool false, .bool true, .bool false, .bool false, E.i 18, E.u 4] (by kernel_rfl) w) (E.st 0 [.bool true, .bool false, .bool true, .bool false, .bool false, E.i 18, E.u 4] rfl rfl (E.To.code (E.C.ret (E.P.rb (E.P.rt (E.To.body (fn := Tryz.f66) [.agg #[.bool true, .bool false, .bool true, .bool false, .bool false, E.i 18, E.u 4]] ?_ ?_)))))))
  · exact ⟨⟨by kernel_rfl, _, _, 0, _, rfl, rfl, by kernel_rfl⟩, trivial⟩
  intro w h
  exact ⟨by show Ending.returned (.agg #[.bool true, .bool false, .bool true, .bool false, .bool false, .int .i64 18, .int .u32 4]) = _; unfold Q3.of; rw [hc4, cond_false, hc9, cond_false, hc16, cond_false, hc17, cond_false, hc18, cond_false, hc19, cond_false, hc24, cond_false, hc25, cond_false, hc26, cond_false, hc27, cond_true] <;> rfl, h.ch.bel (fun _ h => h.elim)⟩
 refine E.C.skip (E.P.nb (E.To.code (E.sr (E.vl (.agg #[.bool false, .bool false, .bool false, .bool false, .bool false, E.i 0, E.u 0]) (fun w h => E.run_build #[.bool false, .bool false, .bool false, .bool false, .bool false, E.i 0, E.u 0] (by kernel_rfl) w) (E.st 0 [.bool false, .bool false, .bool false, .bool false, .bool false, E.i 0, E.u 0] rfl rfl (E.To.code (E.C.ret (E.To.body (fn := Tryz.f66) [.agg #[.bool false, .bool false, .bool false, .bool false, .bool false, E.i 0, E.u 0]] ?_ ?_))))))))
 · exact ⟨⟨by kernel_rfl, _, _, 0, _, rfl, rfl, by kernel_rfl⟩, trivial⟩
 intro w h
 exact ⟨by show Ending.returned (.agg #[.bool false, .bool false, .bool false, .bool false, .bool false, .int .i64 0, .int .u32 0]) = _; unfold Q3.of; rw [hc4, cond_false, hc9, cond_false, hc16, cond_false, hc17, cond_false, hc18, cond_false, hc19, cond_false, hc24, cond_false, hc25, cond_false, hc26, cond_false, hc27, cond_false] <;> rfl, h.ch.bel (fun _ h => h.elim)⟩

def Q3.reg (n : Int) (u : Bool) : Bool := ((n == 0) || ((u && (decide (n > 0))) && (decide (n < 16))))
theorem reg3_any (n : Int) (u : Bool) (w : World) : Calls Tryz.prog 80 #[.int .i64 n, .bool u] w fun e w' => e = .returned (.bool (Q3.reg n u)) ∧ Bel w w' := by
 refine E.enter (n := 18) (S := fun _ => False) Tryz.func80 rfl rfl (by kernel_rfl) (E.Hp.start w) (E.sr (E.op (.bool false) (E.tr (E.op (E.i n) (E.op (.bool (n == 0)) (E.op (.bool (n == 0)) (E.G.cut 10 [(4, .bool false), (17, .bool ((n == 0) || ((u && (decide (n > 0))) && (decide (n < 16)))))] (fun _ => True) [] ?_ ?_)))))))
 ·
  generalize hc1 : (n == 0) = b2
  cases b2
  ·
   refine E.op (.bool u) (E.op (.bool u) (E.G.cut 3 [(0, E.i n), (4, .bool false), (7, .bool false), (12, .bool (u && (decide (n > 0))))] (fun _ => True) [] ?_ ?_))
   ·
    generalize hc3 : u = b4
    cases b4
    ·
     exact E.sk (E.sk (E.op (.bool false) (E.G.end_pst ⟨by kernel_rfl, by kernel_rfl⟩ Nz.sub (fun _ h => h))))
    exact E.op (E.i n) (E.op (.bool (decide (n > 0))) (E.op (.bool (decide (n > 0))) (E.G.end_pst ⟨by kernel_rfl, by kernel_rfl⟩ Nz.sub (fun _ h => h))))
   refine E.op (.bool (u && (decide (n > 0)))) (E.G.cut 3 [(4, .bool false), (7, .bool false), (16, .bool ((u && (decide (n > 0))) && (decide (n < 16))))] (fun _ => True) [] ?_ ?_)
   ·
    generalize hc5 : (u && (decide (n > 0))) = b6
    cases b6
    ·
     exact E.sk (E.sk (E.op (.bool false) (E.G.end_pst ⟨by kernel_rfl, by kernel_rfl⟩ Nz.sub (fun _ h => h))))
    exact E.op (E.i n) (E.op (.bool (decide (n < 16))) (E.op (.bool (decide (n < 16))) (E.G.end_pst ⟨by kernel_rfl, by kernel_rfl⟩ Nz.sub (fun _ h => h))))
   exact E.op (.bool ((u && (decide (n > 0))) && (decide (n < 16)))) (E.G.end_pst ⟨by kernel_rfl, by kernel_rfl⟩ Nz.sub (fun _ h => h))
  exact E.sk (E.sk (E.sk (E.sk (E.sk (E.sk (E.sk (E.sk (E.sk (E.op (.bool true) (E.G.end_pst ⟨by kernel_rfl, by kernel_rfl⟩ Nz.sub (fun _ h => h)))))))))))
 exact E.op (.bool ((n == 0) || ((u && (decide (n > 0))) && (decide (n < 16))))) (E.To.code (E.C.ret (E.bd Tryz.f80 [.bool ((n == 0) || ((u && (decide (n > 0))) && (decide (n < 16))))] (fun w h => ⟨rfl, h.ch.bel (fun _ h => h.elim)⟩))))

theorem Q3.bifb {c : Bool} {x y : Q3.Fm} (hx : x.bits ≤ 22) (hy : y.bits ≤ 22) : (bif c then x else y).bits ≤ 22 := by
  cases c
  · exact hy
  · exact hx
theorem Q3.of_bits (x : Int) : (Q3.of x).bits ≤ 22 := by
  unfold Q3.of
  repeat' (first | (show (_ : Nat) ≤ 22; decide) | refine Q3.bifb ?_ ?_)

def Q3.valid (i : Q.I) : Bool := (bif (!((Q3.of i.op).is)) then false else (bif (((!(Q3.reg i.d ((Q3.of i.op).d))) || (!(Q3.reg i.a ((Q3.of i.op).a)))) || (!(Q3.reg i.b ((Q3.of i.op).b)))) then false else (bif ((((Q3.of i.op).bits : Nat) : Int) == 0) then (i.imm == 0) else (bif (Q3.of i.op).sg then (W.sign i.imm (((Q3.of i.op).bits : Nat) : Int) == i.imm) else (bif (decide (((Q3.of i.op).most) > 0)) then (decide (i.imm ≤ ((Q3.of i.op).most))) else (decide (i.imm < (IntKind.wrap .u32 (1 * 2 ^ (min ((Q3.of i.op).bits) 32))))))))))
theorem Valid3_any (i : Q.I) (hm : 0 ≤ i.imm ∧ i.imm < 4294967296) (w : World) : Calls Tryz.prog 65 #[.agg #[.int .i64 i.op, .int .i64 i.d, .int .i64 i.a, .int .i64 i.b, .int .u32 i.imm]] w fun e w' => e = .returned (.bool (Q3.valid i)) ∧ Bel w w' := by
 have hb := Q3.of_bits i.op
 refine E.enter (n := 66) (S := fun _ => False) Tryz.func65 rfl rfl (by kernel_rfl) (E.Hp.start w) (E.sr (E.G.new (fun g => E.pt g) [E.i i.op, E.i i.d, E.i i.a, E.i i.b, E.u i.imm] 71 (fun w => by kernel_rfl) (by kernel_rfl) (fun g1 => E.op (.bool false) (E.tr (E.op (E.pt g1) (E.li (E.i i.op) 0 rfl rfl (E.G.call (.agg #[.bool ((Q3.of i.op).is), .bool ((Q3.of i.op).d), .bool ((Q3.of i.op).a), .bool ((Q3.of i.op).b), .bool ((Q3.of i.op).sg), E.i (((Q3.of i.op).bits : Nat) : Int), E.u ((Q3.of i.op).most)]) (fun w h => Of3_any i.op w) (fun w _ => by kernel_rfl) (by kernel_rfl) (E.G.new (fun g => E.pt g) [.bool false, .bool false, .bool false, .bool false, .bool false, E.i 0, E.u 0] 126 (fun w => by kernel_rfl) (by kernel_rfl) (fun g2 => E.st 0 [.bool ((Q3.of i.op).is), .bool ((Q3.of i.op).d), .bool ((Q3.of i.op).a), .bool ((Q3.of i.op).b), .bool ((Q3.of i.op).sg), E.i (((Q3.of i.op).bits : Nat) : Int), E.u ((Q3.of i.op).most)] rfl rfl (E.To.code (E.C.seq ?_)))))))))))
 refine E.sr (E.op (E.pt g2) (E.li (.bool ((Q3.of i.op).is)) 0 rfl rfl (E.op (.bool (!((Q3.of i.op).is))) (E.To.code (E.cd (!((Q3.of i.op).is)) (fun hc3 => ?_) (fun hc3 => ?_))))))
 ·
  exact E.sr (E.op (.bool false) (E.To.code (E.C.ret (E.P.rt (E.bd Tryz.f65 [.bool false] (fun w h => ⟨by show Ending.returned (.bool false) = _; unfold Q3.valid; rw [hc3, cond_true] <;> rfl, h.ch.bel (fun _ h => h.elim)⟩))))))
 refine E.C.skip (E.To.code (E.sr (E.op (.pointer (some ⟨g1, 1, none⟩)) (E.li (E.i i.d) 1 rfl rfl (E.op (.pointer (some ⟨g2, 1, none⟩)) (E.li (.bool ((Q3.of i.op).d)) 0 rfl rfl (E.G.call (.bool (Q3.reg i.d ((Q3.of i.op).d))) (fun w h => reg3_any i.d ((Q3.of i.op).d) w) (fun w _ => by kernel_rfl) (by kernel_rfl) (E.op (.bool (Q3.reg i.d ((Q3.of i.op).d))) (E.To.code (E.wk [(1, E.pt g1), (2, .bool false), (3, E.pt g2), (4, .bool (Q3.reg i.d ((Q3.of i.op).d)))] [(g2, [.bool ((Q3.of i.op).is), .bool ((Q3.of i.op).d), .bool ((Q3.of i.op).a), .bool ((Q3.of i.op).b), .bool ((Q3.of i.op).sg), E.i (((Q3.of i.op).bits : Nat) : Int), E.u ((Q3.of i.op).most)]), (g1, [E.i i.op, E.i i.d, E.i i.a, E.i i.b, E.u i.imm])] Nz.sub (E.sr (E.op (.pointer (some ⟨g1, 2, none⟩)) ?_))))))))))))
 refine E.li (E.i i.a) 1 rfl rfl (E.op (.pointer (some ⟨g2, 2, none⟩)) (E.li (.bool ((Q3.of i.op).a)) 0 rfl rfl (E.G.call (.bool (Q3.reg i.a ((Q3.of i.op).a))) (fun w h => reg3_any i.a ((Q3.of i.op).a) w) (fun w _ => by kernel_rfl) (by kernel_rfl) (E.op (.bool (Q3.reg i.a ((Q3.of i.op).a))) (E.tr (E.op (.pointer (some ⟨g1, 3, none⟩)) (E.li (E.i i.b) 1 rfl rfl (E.op (.pointer (some ⟨g2, 3, none⟩)) (E.li (.bool ((Q3.of i.op).b)) 0 rfl rfl (E.G.call (.bool (Q3.reg i.b ((Q3.of i.op).b))) (fun w h => reg3_any i.b ((Q3.of i.op).b) w) (fun w _ => by kernel_rfl) (by kernel_rfl) (E.op (.bool (Q3.reg i.b ((Q3.of i.op).b))) ?_)))))))))))
 refine E.To.code (E.wk [(1, E.pt g1), (2, .bool false), (3, E.pt g2), (4, .bool (Q3.reg i.d ((Q3.of i.op).d))), (5, .bool (Q3.reg i.a ((Q3.of i.op).a))), (6, .bool (Q3.reg i.b ((Q3.of i.op).b)))] [(g2, [.bool ((Q3.of i.op).is), .bool ((Q3.of i.op).d), .bool ((Q3.of i.op).a), .bool ((Q3.of i.op).b), .bool ((Q3.of i.op).sg), E.i (((Q3.of i.op).bits : Nat) : Int), E.u ((Q3.of i.op).most)]), (g1, [E.i i.op, E.i i.d, E.i i.a, E.i i.b, E.u i.imm])] Nz.sub (E.C.seq (E.sr (E.op (.bool (Q3.reg i.d ((Q3.of i.op).d))) (E.op (.bool (!(Q3.reg i.d ((Q3.of i.op).d)))) (E.op (.bool (!(Q3.reg i.d ((Q3.of i.op).d)))) (E.G.cut 3 [(1, E.pt g1), (2, .bool false), (3, E.pt g2), (6, .bool (Q3.reg i.b ((Q3.of i.op).b))), (33, .bool ((!(Q3.reg i.d ((Q3.of i.op).d))) || (!(Q3.reg i.a ((Q3.of i.op).a)))))] (fun _ => True) [(g2, [.bool ((Q3.of i.op).is), .bool ((Q3.of i.op).d), .bool ((Q3.of i.op).a), .bool ((Q3.of i.op).b), .bool ((Q3.of i.op).sg), E.i (((Q3.of i.op).bits : Nat) : Int), E.u ((Q3.of i.op).most)]), (g1, [E.i i.op, E.i i.d, E.i i.a, E.i i.b, E.u i.imm])] ?_ ?_)))))))
 ·
  generalize hc4 : (!(Q3.reg i.d ((Q3.of i.op).d))) = b5
  cases b5
  ·
   exact E.op (.bool (Q3.reg i.a ((Q3.of i.op).a))) (E.op (.bool (!(Q3.reg i.a ((Q3.of i.op).a)))) (E.op (.bool (!(Q3.reg i.a ((Q3.of i.op).a)))) (E.G.end_pst ⟨by kernel_rfl, by kernel_rfl⟩ Nz.sub (fun _ h => h))))
  exact E.sk (E.sk (E.op (.bool true) (E.G.end_pst ⟨by kernel_rfl, by kernel_rfl⟩ Nz.sub (fun _ h => h))))
 refine E.op (.bool ((!(Q3.reg i.d ((Q3.of i.op).d))) || (!(Q3.reg i.a ((Q3.of i.op).a))))) (E.G.cut 3 [(1, E.pt g1), (2, .bool false), (3, E.pt g2), (37, .bool (((!(Q3.reg i.d ((Q3.of i.op).d))) || (!(Q3.reg i.a ((Q3.of i.op).a)))) || (!(Q3.reg i.b ((Q3.of i.op).b)))))] (fun _ => True) [(g2, [.bool ((Q3.of i.op).is), .bool ((Q3.of i.op).d), .bool ((Q3.of i.op).a), .bool ((Q3.of i.op).b), .bool ((Q3.of i.op).sg), E.i (((Q3.of i.op).bits : Nat) : Int), E.u ((Q3.of i.op).most)]), (g1, [E.i i.op, E.i i.d, E.i i.a, E.i i.b, E.u i.imm])] ?_ ?_)
 ·
  generalize hc6 : ((!(Q3.reg i.d ((Q3.of i.op).d))) || (!(Q3.reg i.a ((Q3.of i.op).a)))) = b7
  cases b7
  ·
   exact E.op (.bool (Q3.reg i.b ((Q3.of i.op).b))) (E.op (.bool (!(Q3.reg i.b ((Q3.of i.op).b)))) (E.op (.bool (!(Q3.reg i.b ((Q3.of i.op).b)))) (E.G.end_pst ⟨by kernel_rfl, by kernel_rfl⟩ Nz.sub (fun _ h => h))))
  exact E.sk (E.sk (E.op (.bool true) (E.G.end_pst ⟨by kernel_rfl, by kernel_rfl⟩ Nz.sub (fun _ h => h))))
 refine E.To.code (E.cd (((!(Q3.reg i.d ((Q3.of i.op).d))) || (!(Q3.reg i.a ((Q3.of i.op).a)))) || (!(Q3.reg i.b ((Q3.of i.op).b)))) (fun hc8 => ?_) (fun hc8 => ?_))
 ·
  exact E.sr (E.op (.bool false) (E.To.code (E.C.ret (E.P.rt (E.bd Tryz.f65 [.bool false] (fun w h => ⟨by show Ending.returned (.bool false) = _; unfold Q3.valid; rw [hc3, cond_false, hc8, cond_true] <;> rfl, h.ch.bel (fun _ h => h.elim)⟩))))))
 refine E.C.skip (E.To.code (E.C.seq (E.sr (E.op (.pointer (some ⟨g2, 5, none⟩)) (E.li (E.i (((Q3.of i.op).bits : Nat) : Int)) 0 rfl rfl (E.op (.bool ((((Q3.of i.op).bits : Nat) : Int) == 0)) (E.To.code (E.cd ((((Q3.of i.op).bits : Nat) : Int) == 0) (fun hc9 => ?_) (fun hc9 => ?_)))))))))
 ·
  exact E.sr (E.op (.pointer (some ⟨g1, 4, none⟩)) (E.li (E.u i.imm) 1 rfl rfl (E.op (.bool (i.imm == 0)) (E.op (.bool (i.imm == 0)) (E.To.code (E.C.ret (E.P.rt (E.bd Tryz.f65 [.bool (i.imm == 0)] (fun w h => ⟨by show Ending.returned (.bool (i.imm == 0)) = _; unfold Q3.valid; rw [hc3, cond_false, hc8, cond_false, hc9, cond_true] <;> rfl, h.ch.bel (fun _ h => h.elim)⟩)))))))))
 refine E.C.skip (E.To.code (E.C.seq (E.sr (E.op (.pointer (some ⟨g2, 4, none⟩)) (E.li (.bool ((Q3.of i.op).sg)) 0 rfl rfl (E.To.code (E.cd ((Q3.of i.op).sg) (fun hc10 => ?_) (fun hc10 => ?_))))))))
 ·
  exact E.sr (E.op (.pointer (some ⟨g1, 4, none⟩)) (E.li (E.u i.imm) 1 rfl rfl (E.op (.pointer (some ⟨g2, 5, none⟩)) (E.li (E.i (((Q3.of i.op).bits : Nat) : Int)) 0 rfl rfl (E.G.call (.bool (W.sign i.imm (((Q3.of i.op).bits : Nat) : Int) == i.imm)) (fun w h => rFits_any i.imm (((Q3.of i.op).bits : Nat) : Int) hm.1 hm.2 (by omega) (by omega) w) (fun w _ => by kernel_rfl) (by kernel_rfl) (E.op (.bool (W.sign i.imm (((Q3.of i.op).bits : Nat) : Int) == i.imm)) (E.To.code (E.wk [(1, E.pt g1), (2, .bool (W.sign i.imm (((Q3.of i.op).bits : Nat) : Int) == i.imm)), (3, E.pt g2)] [(g2, [.bool ((Q3.of i.op).is), .bool ((Q3.of i.op).d), .bool ((Q3.of i.op).a), .bool ((Q3.of i.op).b), .bool ((Q3.of i.op).sg), E.i (((Q3.of i.op).bits : Nat) : Int), E.u ((Q3.of i.op).most)]), (g1, [E.i i.op, E.i i.d, E.i i.a, E.i i.b, E.u i.imm])] Nz.sub (E.C.ret (E.P.rt (E.bd Tryz.f65 [.bool (W.sign i.imm (((Q3.of i.op).bits : Nat) : Int) == i.imm)] (fun w h => ⟨by show Ending.returned (.bool (W.sign i.imm (((Q3.of i.op).bits : Nat) : Int) == i.imm)) = _; unfold Q3.valid; rw [hc3, cond_false, hc8, cond_false, hc9, cond_false, hc10, cond_true] <;> rfl, h.ch.bel (fun _ h => h.elim)⟩))))))))))))
 refine E.C.skip (E.To.code (E.C.seq (E.sr (E.op (.pointer (some ⟨g2, 6, none⟩)) (E.li (E.u ((Q3.of i.op).most)) 0 rfl rfl (E.op (.bool (decide (((Q3.of i.op).most) > 0))) (E.To.code (E.wk [(1, E.pt g1), (2, .bool false), (3, E.pt g2), (53, .bool (decide (((Q3.of i.op).most) > 0)))] [(g2, [.bool ((Q3.of i.op).is), .bool ((Q3.of i.op).d), .bool ((Q3.of i.op).a), .bool ((Q3.of i.op).b), .bool ((Q3.of i.op).sg), E.i (((Q3.of i.op).bits : Nat) : Int), E.u ((Q3.of i.op).most)]), (g1, [E.i i.op, E.i i.d, E.i i.a, E.i i.b, E.u i.imm])] Nz.sub (E.cd (decide (((Q3.of i.op).most) > 0)) (fun hc11 => ?_) (fun hc11 => ?_))))))))))
 ·
  exact E.sr (E.op (.pointer (some ⟨g1, 4, none⟩)) (E.li (E.u i.imm) 1 rfl rfl (E.op (.pointer (some ⟨g2, 6, none⟩)) (E.li (E.u ((Q3.of i.op).most)) 0 rfl rfl (E.op (.bool (decide (i.imm ≤ ((Q3.of i.op).most)))) (E.op (.bool (decide (i.imm ≤ ((Q3.of i.op).most)))) (E.To.code (E.C.ret (E.P.rt (E.bd Tryz.f65 [.bool (decide (i.imm ≤ ((Q3.of i.op).most)))] (fun w h => ⟨by show Ending.returned (.bool (decide (i.imm ≤ ((Q3.of i.op).most)))) = _; unfold Q3.valid; rw [hc3, cond_false, hc8, cond_false, hc9, cond_false, hc10, cond_false, hc11, cond_true] <;> rfl, h.ch.bel (fun _ h => h.elim)⟩)))))))))))
 refine E.C.skip (E.To.code (E.sr (E.op (.pointer (some ⟨g1, 4, none⟩)) (E.li (E.u i.imm) 1 rfl rfl (E.op (.pointer (some ⟨g2, 5, none⟩)) (E.li (E.i (((Q3.of i.op).bits : Nat) : Int)) 0 rfl rfl (E.vl (.int .u64 (((Q3.of i.op).bits : Nat) : Int)) (fun w h => E.run_as (a := .int .u64 (IntKind.wrap .u64 (((Q3.of i.op).bits : Nat) : Int))) (by kernel_rfl) (congrArg (Value.int .u64) (Q.w64u (by omega)))) (E.vl (E.u (IntKind.wrap .u32 (1 * 2 ^ (min ((Q3.of i.op).bits) 32)))) (fun w h => E.shlN (k2 := .u64) 1 ((Q3.of i.op).bits) 32 (by rfl) (by kernel_rfl) (by kernel_rfl) w) (E.op (.bool (decide (i.imm < (IntKind.wrap .u32 (1 * 2 ^ (min ((Q3.of i.op).bits) 32)))))) (E.op (.bool (decide (i.imm < (IntKind.wrap .u32 (1 * 2 ^ (min ((Q3.of i.op).bits) 32)))))) (E.To.code (E.wk [(2, .bool (decide (i.imm < (IntKind.wrap .u32 (1 * 2 ^ (min ((Q3.of i.op).bits) 32))))))] [] Nz.sub ?_))))))))))))
 exact E.C.ret (E.bd Tryz.f65 [.bool (decide (i.imm < (IntKind.wrap .u32 (1 * 2 ^ (min ((Q3.of i.op).bits) 32)))))] (fun w h => ⟨by show Ending.returned (.bool (decide (i.imm < (IntKind.wrap .u32 (1 * 2 ^ (min ((Q3.of i.op).bits) 32)))))) = _; unfold Q3.valid; rw [hc3, cond_false, hc8, cond_false, hc9, cond_false, hc10, cond_false, hc11, cond_false] <;> rfl, h.ch.bel (fun _ h => h.elim)⟩))

theorem Q3.pow_ne {b : Nat} (h : b ≤ 22) : IntKind.wrap .u32 (1 * 2 ^ (min b 32)) ≠ 0 := by
  have e : ∀ b : Fin 23, IntKind.wrap .u32 (1 * 2 ^ (min b.val 32)) ≠ 0 := by decide +kernel
  exact e ⟨b, by omega⟩

def Q3.encode (i : Q.I) : Int × Int := (bif (!(Q3.valid i)) then (0, 12) else (bif ((((Q3.of i.op).bits : Nat) : Int) == 0) then ((IntKind.wrap .u32 ((IntKind.wrap .u32 ((IntKind.wrap .u32 ((IntKind.wrap .u32 ((IntKind.wrap .u32 i.op) * 67108864)) + (IntKind.wrap .u32 ((IntKind.wrap .u32 i.d) * 4194304)))) + (IntKind.wrap .u32 ((IntKind.wrap .u32 i.a) * 262144)))) + (IntKind.wrap .u32 ((IntKind.wrap .u32 i.b) * 16384)))), 0) else ((IntKind.wrap .u32 ((IntKind.wrap .u32 ((IntKind.wrap .u32 ((IntKind.wrap .u32 ((IntKind.wrap .u32 ((IntKind.wrap .u32 i.op) * 67108864)) + (IntKind.wrap .u32 ((IntKind.wrap .u32 i.d) * 4194304)))) + (IntKind.wrap .u32 ((IntKind.wrap .u32 i.a) * 262144)))) + (IntKind.wrap .u32 ((IntKind.wrap .u32 i.b) * 16384)))) + (Int.tmod i.imm (IntKind.wrap .u32 (1 * 2 ^ (min ((Q3.of i.op).bits) 32)))))), 0)))
theorem Encode3_any (i : Q.I) (hm : 0 ≤ i.imm ∧ i.imm < 4294967296) (w : World) : Calls Tryz.prog 31 #[.agg #[.int .i64 i.op, .int .i64 i.d, .int .i64 i.a, .int .i64 i.b, .int .u32 i.imm]] w fun e w' => e = .returned (.tuple #[.int .u32 (((Q3.encode i)).1), .int .i64 (((Q3.encode i)).2)]) ∧ Bel w w' := by
 have hb := Q3.of_bits i.op
 refine E.enter (n := 45) (S := fun _ => False) Tryz.func31 rfl rfl (by kernel_rfl) (E.Hp.start w) (E.sr (E.G.new (fun g => E.pt g) [E.i i.op, E.i i.d, E.i i.a, E.i i.b, E.u i.imm] 71 (fun w => by kernel_rfl) (by kernel_rfl) (fun g1 => E.op (E.u 0) (E.op (E.i 0) (E.tr (E.li (.agg #[E.i i.op, E.i i.d, E.i i.a, E.i i.b, E.u i.imm]) 0 rfl rfl (E.G.call (.bool (Q3.valid i)) (fun w h => Valid3_any i hm w) (fun w _ => by kernel_rfl) (by kernel_rfl) (E.op (.bool (Q3.valid i)) (E.To.code (E.C.seq (E.sr ?_)))))))))))
 refine E.op (.bool (Q3.valid i)) (E.op (.bool (!(Q3.valid i))) (E.To.code (E.cd (!(Q3.valid i)) (fun hc2 => ?_) (fun hc2 => ?_))))
 ·
  refine E.sr (E.op (E.u 0) (E.op (E.i 12) (E.To.code (E.C.ret (E.P.rt (E.To.body (fn := Tryz.f31) [E.u 0, E.i 12] ?_ ?_))))))
  · exact ⟨⟨by kernel_rfl, by kernel_rfl⟩, ⟨by kernel_rfl, by kernel_rfl⟩, trivial⟩
  intro w h
  exact ⟨by show Ending.returned (.tuple #[.int .u32 0, .int .i64 12]) = _; unfold Q3.encode; rw [hc2, cond_true] <;> rfl, h.ch.bel (fun _ h => h.elim)⟩
 refine E.C.skip (E.To.code (E.sr (E.op (E.pt g1) (E.li (E.i i.op) 0 rfl rfl (E.op (E.u (IntKind.wrap .u32 i.op)) (E.op (E.u (IntKind.wrap .u32 ((IntKind.wrap .u32 i.op) * 67108864))) (E.op (.pointer (some ⟨g1, 1, none⟩)) (E.li (E.i i.d) 0 rfl rfl (E.op (E.u (IntKind.wrap .u32 i.d)) (E.op (E.u (IntKind.wrap .u32 ((IntKind.wrap .u32 i.d) * 4194304))) (E.op (E.u (IntKind.wrap .u32 ((IntKind.wrap .u32 ((IntKind.wrap .u32 i.op) * 67108864)) + (IntKind.wrap .u32 ((IntKind.wrap .u32 i.d) * 4194304))))) (E.op (.pointer (some ⟨g1, 2, none⟩)) ?_))))))))))))
 refine E.li (E.i i.a) 0 rfl rfl (E.op (E.u (IntKind.wrap .u32 i.a)) (E.op (E.u (IntKind.wrap .u32 ((IntKind.wrap .u32 i.a) * 262144))) (E.op (E.u (IntKind.wrap .u32 ((IntKind.wrap .u32 ((IntKind.wrap .u32 ((IntKind.wrap .u32 i.op) * 67108864)) + (IntKind.wrap .u32 ((IntKind.wrap .u32 i.d) * 4194304)))) + (IntKind.wrap .u32 ((IntKind.wrap .u32 i.a) * 262144))))) (E.op (.pointer (some ⟨g1, 3, none⟩)) (E.li (E.i i.b) 0 rfl rfl (E.op (E.u (IntKind.wrap .u32 i.b)) (E.op (E.u (IntKind.wrap .u32 ((IntKind.wrap .u32 i.b) * 16384))) (E.op (E.u (IntKind.wrap .u32 ((IntKind.wrap .u32 ((IntKind.wrap .u32 ((IntKind.wrap .u32 ((IntKind.wrap .u32 i.op) * 67108864)) + (IntKind.wrap .u32 ((IntKind.wrap .u32 i.d) * 4194304)))) + (IntKind.wrap .u32 ((IntKind.wrap .u32 i.a) * 262144)))) + (IntKind.wrap .u32 ((IntKind.wrap .u32 i.b) * 16384))))) (E.op (E.u (IntKind.wrap .u32 ((IntKind.wrap .u32 ((IntKind.wrap .u32 ((IntKind.wrap .u32 ((IntKind.wrap .u32 i.op) * 67108864)) + (IntKind.wrap .u32 ((IntKind.wrap .u32 i.d) * 4194304)))) + (IntKind.wrap .u32 ((IntKind.wrap .u32 i.a) * 262144)))) + (IntKind.wrap .u32 ((IntKind.wrap .u32 i.b) * 16384))))) (E.To.code (E.wk [(1, E.pt g1), (2, E.u 0), (3, E.i 0), (5, E.u (IntKind.wrap .u32 ((IntKind.wrap .u32 ((IntKind.wrap .u32 ((IntKind.wrap .u32 ((IntKind.wrap .u32 i.op) * 67108864)) + (IntKind.wrap .u32 ((IntKind.wrap .u32 i.d) * 4194304)))) + (IntKind.wrap .u32 ((IntKind.wrap .u32 i.a) * 262144)))) + (IntKind.wrap .u32 ((IntKind.wrap .u32 i.b) * 16384)))))] [(g1, [E.i i.op, E.i i.d, E.i i.a, E.i i.b, E.u i.imm])] Nz.sub ?_)))))))))))
 refine E.sr (E.op (E.pt g1) (E.li (E.i i.op) 0 rfl rfl (E.G.call (.agg #[.bool ((Q3.of i.op).is), .bool ((Q3.of i.op).d), .bool ((Q3.of i.op).a), .bool ((Q3.of i.op).b), .bool ((Q3.of i.op).sg), E.i (((Q3.of i.op).bits : Nat) : Int), E.u ((Q3.of i.op).most)]) (fun w h => Of3_any i.op w) (fun w _ => by kernel_rfl) (by kernel_rfl) (E.op (E.i (((Q3.of i.op).bits : Nat) : Int)) (E.op (E.i (((Q3.of i.op).bits : Nat) : Int)) (E.To.code (E.C.seq (E.sr (E.op (E.i (((Q3.of i.op).bits : Nat) : Int)) (E.op (.bool ((((Q3.of i.op).bits : Nat) : Int) == 0)) (E.To.code ?_)))))))))))
 refine E.cd ((((Q3.of i.op).bits : Nat) : Int) == 0) (fun hc3 => ?_) (fun hc3 => ?_)
 ·
  refine E.sr (E.op (E.u (IntKind.wrap .u32 ((IntKind.wrap .u32 ((IntKind.wrap .u32 ((IntKind.wrap .u32 ((IntKind.wrap .u32 i.op) * 67108864)) + (IntKind.wrap .u32 ((IntKind.wrap .u32 i.d) * 4194304)))) + (IntKind.wrap .u32 ((IntKind.wrap .u32 i.a) * 262144)))) + (IntKind.wrap .u32 ((IntKind.wrap .u32 i.b) * 16384))))) (E.op (E.u (IntKind.wrap .u32 ((IntKind.wrap .u32 ((IntKind.wrap .u32 ((IntKind.wrap .u32 ((IntKind.wrap .u32 i.op) * 67108864)) + (IntKind.wrap .u32 ((IntKind.wrap .u32 i.d) * 4194304)))) + (IntKind.wrap .u32 ((IntKind.wrap .u32 i.a) * 262144)))) + (IntKind.wrap .u32 ((IntKind.wrap .u32 i.b) * 16384))))) (E.op (E.i 0) (E.To.code (E.C.ret (E.P.rt (E.To.body (fn := Tryz.f31) [E.u (IntKind.wrap .u32 ((IntKind.wrap .u32 ((IntKind.wrap .u32 ((IntKind.wrap .u32 ((IntKind.wrap .u32 i.op) * 67108864)) + (IntKind.wrap .u32 ((IntKind.wrap .u32 i.d) * 4194304)))) + (IntKind.wrap .u32 ((IntKind.wrap .u32 i.a) * 262144)))) + (IntKind.wrap .u32 ((IntKind.wrap .u32 i.b) * 16384)))), E.i 0] ?_ ?_)))))))
  · exact ⟨⟨by kernel_rfl, by kernel_rfl⟩, ⟨by kernel_rfl, by kernel_rfl⟩, trivial⟩
  intro w h
  exact ⟨by show Ending.returned (.tuple #[.int .u32 (IntKind.wrap .u32 ((IntKind.wrap .u32 ((IntKind.wrap .u32 ((IntKind.wrap .u32 ((IntKind.wrap .u32 i.op) * 67108864)) + (IntKind.wrap .u32 ((IntKind.wrap .u32 i.d) * 4194304)))) + (IntKind.wrap .u32 ((IntKind.wrap .u32 i.a) * 262144)))) + (IntKind.wrap .u32 ((IntKind.wrap .u32 i.b) * 16384)))), .int .i64 0]) = _; unfold Q3.encode; rw [hc2, cond_false, hc3, cond_true] <;> rfl, h.ch.bel (fun _ h => h.elim)⟩
 refine E.C.skip (E.To.code (E.sr (E.op (E.u (IntKind.wrap .u32 ((IntKind.wrap .u32 ((IntKind.wrap .u32 ((IntKind.wrap .u32 ((IntKind.wrap .u32 i.op) * 67108864)) + (IntKind.wrap .u32 ((IntKind.wrap .u32 i.d) * 4194304)))) + (IntKind.wrap .u32 ((IntKind.wrap .u32 i.a) * 262144)))) + (IntKind.wrap .u32 ((IntKind.wrap .u32 i.b) * 16384))))) (E.op (.pointer (some ⟨g1, 4, none⟩)) (E.li (E.u i.imm) 0 rfl rfl (E.op (E.i (((Q3.of i.op).bits : Nat) : Int)) (E.vl (.int .u64 (((Q3.of i.op).bits : Nat) : Int)) (fun w h => E.run_as (a := .int .u64 (IntKind.wrap .u64 (((Q3.of i.op).bits : Nat) : Int))) (by kernel_rfl) (congrArg (Value.int .u64) (Q.w64u (by omega)))) (E.vl (E.u (IntKind.wrap .u32 (1 * 2 ^ (min ((Q3.of i.op).bits) 32)))) (fun w h => E.shlN (k2 := .u64) 1 ((Q3.of i.op).bits) 32 (by rfl) (by kernel_rfl) (by kernel_rfl) w) (E.vl (E.u (Int.tmod i.imm (IntKind.wrap .u32 (1 * 2 ^ (min ((Q3.of i.op).bits) 32))))) (fun w h => E.remI i.imm (IntKind.wrap .u32 (1 * 2 ^ (min ((Q3.of i.op).bits) 32))) (by kernel_rfl) (by kernel_rfl) (Q3.pow_ne hb) w) (E.op (E.u (IntKind.wrap .u32 ((IntKind.wrap .u32 ((IntKind.wrap .u32 ((IntKind.wrap .u32 ((IntKind.wrap .u32 ((IntKind.wrap .u32 i.op) * 67108864)) + (IntKind.wrap .u32 ((IntKind.wrap .u32 i.d) * 4194304)))) + (IntKind.wrap .u32 ((IntKind.wrap .u32 i.a) * 262144)))) + (IntKind.wrap .u32 ((IntKind.wrap .u32 i.b) * 16384)))) + (Int.tmod i.imm (IntKind.wrap .u32 (1 * 2 ^ (min ((Q3.of i.op).bits) 32))))))) (E.op (E.u (IntKind.wrap .u32 ((IntKind.wrap .u32 ((IntKind.wrap .u32 ((IntKind.wrap .u32 ((IntKind.wrap .u32 ((IntKind.wrap .u32 i.op) * 67108864)) + (IntKind.wrap .u32 ((IntKind.wrap .u32 i.d) * 4194304)))) + (IntKind.wrap .u32 ((IntKind.wrap .u32 i.a) * 262144)))) + (IntKind.wrap .u32 ((IntKind.wrap .u32 i.b) * 16384)))) + (Int.tmod i.imm (IntKind.wrap .u32 (1 * 2 ^ (min ((Q3.of i.op).bits) 32))))))) (E.op (E.i 0) ?_))))))))))))
 refine E.To.code (E.wk [(2, E.u (IntKind.wrap .u32 ((IntKind.wrap .u32 ((IntKind.wrap .u32 ((IntKind.wrap .u32 ((IntKind.wrap .u32 ((IntKind.wrap .u32 i.op) * 67108864)) + (IntKind.wrap .u32 ((IntKind.wrap .u32 i.d) * 4194304)))) + (IntKind.wrap .u32 ((IntKind.wrap .u32 i.a) * 262144)))) + (IntKind.wrap .u32 ((IntKind.wrap .u32 i.b) * 16384)))) + (Int.tmod i.imm (IntKind.wrap .u32 (1 * 2 ^ (min ((Q3.of i.op).bits) 32))))))), (3, E.i 0)] [] Nz.sub (E.C.ret (E.To.body (fn := Tryz.f31) [E.u (IntKind.wrap .u32 ((IntKind.wrap .u32 ((IntKind.wrap .u32 ((IntKind.wrap .u32 ((IntKind.wrap .u32 ((IntKind.wrap .u32 i.op) * 67108864)) + (IntKind.wrap .u32 ((IntKind.wrap .u32 i.d) * 4194304)))) + (IntKind.wrap .u32 ((IntKind.wrap .u32 i.a) * 262144)))) + (IntKind.wrap .u32 ((IntKind.wrap .u32 i.b) * 16384)))) + (Int.tmod i.imm (IntKind.wrap .u32 (1 * 2 ^ (min ((Q3.of i.op).bits) 32)))))), E.i 0] ?_ ?_)))
 · exact ⟨⟨by kernel_rfl, by kernel_rfl⟩, ⟨by kernel_rfl, by kernel_rfl⟩, trivial⟩
 intro w h
 exact ⟨by show Ending.returned (.tuple #[.int .u32 (IntKind.wrap .u32 ((IntKind.wrap .u32 ((IntKind.wrap .u32 ((IntKind.wrap .u32 ((IntKind.wrap .u32 ((IntKind.wrap .u32 i.op) * 67108864)) + (IntKind.wrap .u32 ((IntKind.wrap .u32 i.d) * 4194304)))) + (IntKind.wrap .u32 ((IntKind.wrap .u32 i.a) * 262144)))) + (IntKind.wrap .u32 ((IntKind.wrap .u32 i.b) * 16384)))) + (Int.tmod i.imm (IntKind.wrap .u32 (1 * 2 ^ (min ((Q3.of i.op).bits) 32)))))), .int .i64 0]) = _; unfold Q3.encode; rw [hc2, cond_false, hc3, cond_false] <;> rfl, h.ch.bel (fun _ h => h.elim)⟩
theorem E.api_Trap_eql {fr : E.Fr} {x y : Operand} {u T : TypeId} {d : Option Nat} {pos : String} {af : Array Edge} {gd : Option (Nat × Bool)} {a0 a1 b0 b1 : Int} {w : World}
    (hx : E.ev fr x = .agg #[.int .i64 a0, .int .u32 a1]) (hy : E.ev fr y = .agg #[.int .i64 b0, .int .u32 b1]) :
    (execOp (E.ev fr) ⟨d, .binOp .eql 49 x y u, T, pos, af, gd⟩).run Tryz.prog w = .ok (.value (.bool (a0 == b0 && a1 == b1))) w := by
  show (do let r ← (do eqGuard .eql 49 x y (E.ev fr x) (E.ev fr y); binOp .eql 49 (E.ev fr x) (E.ev fr y)); pure (Next.value r) : Sem Next).run Tryz.prog w = _
  rw [hx, hy]
  go_simp
  (repeat' split) <;> simp_all
theorem Q.run_items (w : World) (d : Nat) (l : List Value) (hl : ∀ (i : Nat) (v : Value), l[i]? = some v → ∃ x : Int, v = Value.int .u32 x) : ∀ (is : List Nat), (∀ i ∈ is, i < l.length) → (Op.eqItems (d + 1) 24 1 l.toArray l.toArray is).run Tryz.prog w = .ok true w
  | [], _ => by simp [Op.eqItems]
  | i :: is, h => by
    have hi : i < l.length := h i (by simp)
    have ih := Q.run_items w d l hl is fun j hj => h j (by simp [hj])
    have ha : (isAgg 24).run Tryz.prog w = .ok false w := M.one Tryz.underlying24 rfl
    obtain ⟨x, hx⟩ := hl i _ (List.getElem?_eq_getElem hi)
    have p : (part 24 l.toArray (i * 1)).run Tryz.prog w = .ok (.int .u32 x) w := by
      have hg : l[i]? = some (.int .u32 x) := by rw [List.getElem?_eq_getElem hi, hx]
      simp [part, ha, hg]
    have e := run_equalIn_int (P := Tryz.prog) w d 24 .u32 .u32 x x Tryz.underlying24
    simp only [Op.eqItems, Sem.run_bind, p, e, Result.andThen_ok]
    simpa using ih
theorem Q.run_row (w : World) {t : TypeId} (n : Nat) (l : List Value) (ht : Tryz.prog.underlying t = some (.array n 24)) (hn : l.length = n) (hl : ∀ (i : Nat) (v : Value), l[i]? = some v → ∃ x : Int, v = Value.int .u32 x) : (Op.equalIn 9999 t (.agg l.toArray) (.agg l.toArray)).run Tryz.prog w = .ok true w := by
  subst hn
  have hi : ∃ i, Tryz.prog.info? 24 = some i := by
    cases h : Tryz.prog.info? 24 with
    | some i => exact ⟨i, rfl⟩
    | none => have : (Tryz.prog.info? 24).isSome = true := by kernel_rfl
              rw [h] at this; cases this
  obtain ⟨i, hi⟩ := hi
  have h := run_equalIn_array (P := Tryz.prog) w 9998 l.toArray l.toArray ht hi
  have hc : Tryz.prog.cellsOf 24 = 1 := by kernel_rfl
  rw [hc, Q.run_items w 9997 l hl (List.range l.length) (by simp)] at h
  exact h
theorem Q.all_u32 {l : List Int} : ∀ (i : Nat) (v : Value), (l.map (Value.int .u32))[i]? = some v → ∃ x : Int, v = Value.int .u32 x := fun i v h => by
  rw [List.getElem?_map] at h
  cases hq : l[i]? with
  | none => rw [hq] at h; cases h
  | some x => rw [hq] at h; exact ⟨x, (Option.some.inj h).symm⟩
theorem E.api_State_self {fr : E.Fr} {x y : Operand} {u T : TypeId} {d : Option Nat} {pos : String} {af : Array Edge} {gd : Option (Nat × Bool)} (s : Q.S) {w : World}
    (hx : E.ev fr x = s.val) (hy : E.ev fr y = s.val) :
    (execOp (E.ev fr) ⟨d, .binOp .eql 32 x y u, T, pos, af, gd⟩).run Tryz.prog w = .ok (.value (.bool true)) w := by
  show (do let r ← (do eqGuard .eql 32 x y (E.ev fr x) (E.ev fr y); binOp .eql 32 (E.ev fr x) (E.ev fr y)); pure (Next.value r) : Sem Next).run Tryz.prog w = _
  have h1 := Q.run_row w 16 ([s.r 0, s.r 1, s.r 2, s.r 3, s.r 4, s.r 5, s.r 6, s.r 7, s.r 8, s.r 9, s.r 10, s.r 11, s.r 12, s.r 13, s.r 14, s.r 15].map (Value.int .u32)) Tryz.underlying29 rfl Q.all_u32
  have h2 := Q.run_row w 4 ([s.c 0, s.c 1, s.c 2, s.c 3].map (Value.int .u32)) Tryz.underlying30 rfl Q.all_u32
  simp only [List.map_cons, List.map_nil] at h1 h2
  rw [hx, hy]
  unfold Q.S.val
  go_simp
theorem E.api_State_nself {fr : E.Fr} {x y : Operand} {u T : TypeId} {d : Option Nat} {pos : String} {af : Array Edge} {gd : Option (Nat × Bool)} (s : Q.S) {w : World}
    (hx : E.ev fr x = s.val) (hy : E.ev fr y = s.val) :
    (execOp (E.ev fr) ⟨d, .binOp .neq 32 x y u, T, pos, af, gd⟩).run Tryz.prog w = .ok (.value (.bool false)) w := by
  show (do let r ← (do eqGuard .neq 32 x y (E.ev fr x) (E.ev fr y); binOp .neq 32 (E.ev fr x) (E.ev fr y)); pure (Next.value r) : Sem Next).run Tryz.prog w = _
  have h1 := Q.run_row w 16 ([s.r 0, s.r 1, s.r 2, s.r 3, s.r 4, s.r 5, s.r 6, s.r 7, s.r 8, s.r 9, s.r 10, s.r 11, s.r 12, s.r 13, s.r 14, s.r 15].map (Value.int .u32)) Tryz.underlying29 rfl Q.all_u32
  have h2 := Q.run_row w 4 ([s.c 0, s.c 1, s.c 2, s.c 3].map (Value.int .u32)) Tryz.underlying30 rfl Q.all_u32
  simp only [List.map_cons, List.map_nil] at h1 h2
  rw [hx, hy]
  unfold Q.S.val
  go_simp
theorem conv1 (w : World) (x : Int) : (convert 42 9 (.slice (some ⟨w.heap.size, 0, none⟩) 1 1)).run Tryz.prog (w.alloc (.cells #[.int .u8 x] 5)) = .ok (.string (strOfNums [x])) (w.alloc (.cells #[.int .u8 x] 5)) := by
  refine run_convert_bytes_arg _ _ _ Tryz.underlying42 Tryz.underlying5 _ 0 1 1 [x] rfl ?_ _ Tryz.underlying9
  intro i hi
  obtain rfl : i = 0 := by omega
  rw [Nat.zero_add, World.cell?_alloc_mark]; rfl
theorem put_step (n : Int) (k : Nat) (hk : k < 4) : W.put n k ++ strOfNums [n / 2 ^ (8 * k) % 256] = W.put n (k + 1 : Nat) := by
  unfold W.put
  rw [show (max 0 (min (k : Int) 4)).toNat = k by omega, show (max 0 (min ((k + 1 : Nat) : Int) 4)).toNat = k + 1 by omega]
  rcases (by omega : k = 0 ∨ k = 1 ∨ k = 2 ∨ k = 3) with rfl | rfl | rfl | rfl <;> simp [W.bytes4, strOfNums] <;> rfl
theorem rPut_any (n k : Int) (h0 : 0 ≤ n) (h1 : n < 4294967296) (k0 : -9223372036854775808 ≤ k) (k1 : k ≤ 9223372036854775807) (w : World) :
    Calls Tryz.prog 33 #[.int .u32 n, .int .i64 k] w fun e w' => e = .returned (.string (W.put n k)) ∧ Bel w w' := by
  have hcv := conv1
  go_enter Tryz.func33, Tryz.ntmps33
  go_wp2
  go_loopw [5, 6] (fun s i wr => ∃ m : Nat, m ≤ 4 ∧ (m = 0 ∨ m ≤ k) ∧ i = .int .i64 m ∧ s = .string (W.put n m) ∧ Bel w wr) (fun _ i _ => 4 - (intOf i).toNat)
  case atStart => exact ⟨0, by omega, by omega, rfl, rfl, Nz.bel⟩
  case round =>
    obtain ⟨m, hm, hm2, rfl, rfl, hb⟩ := hrel
    by_cases c1 : m < k
    · by_cases c2 : m < 4
      · have HS := hid (put_step n m c2)
        have z1 : (strOfNums [n / 2 ^ (8 * m) % 256]).size = 1 := by rw [strOfNums_size]; rfl
        have z2 : (W.put n m).size = m := by have := W.put_size n m (by omega) (by omega); omega
        go_wp2
        go_roundw
        case rel => exact ⟨m + 1, by omega, by omega, by go_num, by rw [← HS.out], Nz.bel⟩
        case measure => simp [intOf]; omega
      · have HS := hid (show W.put n m = W.put n k by unfold W.put; rw [show (max 0 (min (m : Int) 4)).toNat = (max 0 (min k 4)).toNat by omega])
        go_wp2
        go_ret
        exact ⟨by rw [← HS.out]; rfl, Nz.bel⟩
    · have HS := hid (show W.put n m = W.put n k by unfold W.put; rw [show (max 0 (min (m : Int) 4)).toNat = (max 0 (min k 4)).toNat by omega])
      go_wp2
      go_ret
      exact ⟨by rw [← HS.out]; rfl, Nz.bel⟩
theorem Q.z0_wf : Q.wf Q.z0 := ⟨by decide, fun _ => by show (0 : Int) ≤ 0 ∧ (0 : Int) < 4294967296; decide, fun _ => by show (0 : Int) ≤ 0 ∧ (0 : Int) < 4294967296; decide⟩
theorem Q.norm_wf {s : Q.S} (h : Q.wf s) : Q.wf (Q.norm s) := ⟨h.pc, Q.up_bd h.r (by decide), h.c⟩
theorem Q.run_wf {most : Int} : ∀ (f n : Nat) {s : Q.S} {V : M.V}, Q.wf s → R.Wf V → Q.wf (Q.run most f n s V).1 ∧ R.Wf (Q.run most f n s V).2.2.2
  | 0, _, _, _, hs, hV => ⟨hs, hV⟩
  | f + 1, n, s, V, hs, hV => by
    have h1 := Q.step_wf hs hV
    rw [Q.run]
    refine Q.bifP (p := fun x : Q.S × Int × Int × M.V => Q.wf x.1 ∧ R.Wf x.2.2.2) (fun _ => ⟨hs, hV⟩) fun _ => Q.bifP (p := fun x : Q.S × Int × Int × M.V => Q.wf x.1 ∧ R.Wf x.2.2.2) (fun _ => ⟨hs, hV⟩) fun _ => Q.bifP (p := fun x : Q.S × Int × Int × M.V => Q.wf x.1 ∧ R.Wf x.2.2.2) (fun _ => ⟨hs, h1.2⟩) fun _ => Q.run_wf f (n + 1) h1.1 h1.2
theorem Q.runs_wf {most : Int} {s : Q.S} {V : M.V} (hs : Q.wf s) (hV : R.Wf V) : Q.wf (Q.runs most s V).1 ∧ R.Wf (Q.runs most s V).2.2.2 := Q.run_wf _ _ hs hV
theorem Q3.enc_bd (i : Q.I) : 0 ≤ (Q3.encode i).1 ∧ (Q3.encode i).1 < 4294967296 := by
  unfold Q3.encode
  refine Q.bifP (p := fun x : Int × Int => 0 ≤ x.1 ∧ x.1 < 4294967296) (fun _ => by decide) fun _ => Q.bifP (p := fun x : Int × Int => 0 ≤ x.1 ∧ x.1 < 4294967296) (fun _ => Q.wrap_bd _) fun _ => Q.wrap_bd _
theorem Q.put_size (n : Int) : (W.put n 4).size = 4 := by
  unfold W.put; rw [strOfNums_size]; rfl
theorem rPut_all (n k : Int) (h : 0 ≤ n ∧ n < 4294967296) (hk : -9223372036854775808 ≤ k ∧ k ≤ 9223372036854775807) (w : World) : Calls Tryz.prog 33 #[.int .u32 n, .int .i64 k] w fun e w' => e = .returned (.string (W.put n k)) ∧ Bel w w' := rPut_any n k h.1 h.2 hk.1 hk.2 w
def Q.sanS : ByteArray := ((((⟨#[]⟩ : ByteArray) ++ (W.put (Q3.encode ⟨16, 1, 0, 0, 5⟩).1 4)) ++ (W.put (Q3.encode ⟨33, 1, 0, 0, 4294967295⟩).1 4)) ++ (W.put (Q3.encode ⟨50, 0, 0, 0, 0⟩).1 4))
def Q.sanV : M.V := ((M.V.new (M.np 1) false).setc 0 Q.sanS).prot 0 4
def Q.sn1 : Q.S × Int × Int × M.V := Q.runs 1 Q.z0 Q.sanV
def Q.sn2 : Q.S × Int × Int × M.V := Q.runs 2 Q.sn1.1 Q.sn1.2.2.2
def Q.sn3 : Q.S × Int × Int × M.V := Q.runs 1 Q.z0 (M.V.new (M.np 0) false)
def Q.sn4 : Q.S × Int × Int × M.V := Q.runs 0 Q.sn3.1 Q.sn3.2.2.2
theorem San6  : A.Rd Tryz.prog 8 #[] [] (.bool true) := by
 intro w oo aa hh
 refine E.enter (n := 105) (S := oo) Tryz.func8 rfl rfl (by kernel_rfl) (A.start (L := []) hh) (E.sr (E.op (.bool false) (E.tr (A.G.call (I := Nat) (D := fun m1 => True) (V := fun m1 => E.pt m1) (q := fun m1 => [M.It m1 (M.V.new (M.np 1) false) (Q.S.cells Q.z0)]) [] (fun m1 => []) (fun m1 => [M.It m1 (M.V.new (M.np 1) false) (Q.S.cells Q.z0)]) (CNew 1) (by kernel_rfl) (A.pn []) (fun m1 => A.pm [0] (by kernel_rfl) (by kernel_rfl)) (fun w _ => by kernel_rfl) (by kernel_rfl) (fun m1 hd2 => E.op (E.pt m1) (E.tr (A.G.call (I := Nat) (D := fun m3 => True) (V := fun m3 => E.pt m3) (q := fun m3 => [M.It m3 (M.V.new (M.np 0) false) (Q.S.cells Q.z0)]) [M.It m1 (M.V.new (M.np 1) false) (Q.S.cells Q.z0)] (fun m3 => []) (fun m3 => [M.It m3 (M.V.new (M.np 0) false) (Q.S.cells Q.z0), M.It m1 (M.V.new (M.np 1) false) (Q.S.cells Q.z0)]) (CNew 0) (by kernel_rfl) (A.pn [0]) (fun m3 => A.pm [0, 1] (by kernel_rfl) (by kernel_rfl)) (fun w _ => by kernel_rfl) (by kernel_rfl) (fun m3 hd4 => E.op (E.pt m3) (E.To.code (E.C.seq (E.sr ?_)))))))))))
 refine E.op (E.pt m1) (E.op (.bool false) (E.op (.bool false) (E.op (E.pt m3) (E.op (.bool false) (E.op (.bool false) (E.To.code (E.C.condF (by kernel_rfl) (by kernel_rfl) (E.C.skip (E.To.code (E.wk [(0, .bool false), (1, E.pt m1), (2, E.pt m3)] [] Nz.sub (E.sr (E.op (.string (⟨#[]⟩ : ByteArray)) ?_))))))))))))
 refine E.tr (E.vl (.agg #[E.i 16, E.i 1, E.i 0, E.i 0, E.u 5]) (fun w h => E.run_build #[E.i 16, E.i 1, E.i 0, E.i 0, E.u 5] (by kernel_rfl) w) (E.vl (.agg #[E.i 33, E.i 1, E.i 0, E.i 0, E.u 4294967295]) (fun w h => E.run_build #[E.i 33, E.i 1, E.i 0, E.i 0, E.u 4294967295] (by kernel_rfl) w) (E.vl (.agg #[E.i 50, E.i 0, E.i 0, E.i 0, E.u 0]) (fun w h => E.run_build #[E.i 50, E.i 0, E.i 0, E.i 0, E.u 0] (by kernel_rfl) w) (E.G.buildSlice [E.i 16, E.i 1, E.i 0, E.i 0, E.u 5, E.i 33, E.i 1, E.i 0, E.i 0, E.u 4294967295, E.i 50, E.i 0, E.i 0, E.i 0, E.u 0] (by kernel_rfl) (by kernel_rfl) (fun g5 => E.op (.slice (some ⟨g5, 0, none⟩) 3 3) (E.To.code (E.C.seq (E.sr (E.op (E.i 0) (E.To.code (E.C.block ?_)))))))))))
 refine E.C.rounds 3 (E.C.seq (E.sr (E.op (E.i 0) (E.op (.slice (some ⟨g5, 0, none⟩) 3 3) (E.op (E.i 3) (E.op (.bool true) (E.To.code (E.C.condT (by kernel_rfl) (by kernel_rfl) (E.C.skip (E.To.code (E.C.seq (E.C.block ?_))))))))))))
 refine E.sr (E.op (.slice (some ⟨g5, 0, none⟩) 3 3) (E.op (E.i 0) (E.op (E.pt g5) (E.li (.agg #[E.i 16, E.i 1, E.i 0, E.i 0, E.u 5]) 0 rfl rfl (E.G.call (.tuple #[E.u ((Q3.encode (⟨16, 1, 0, 0, 5⟩ : Q.I)).1), E.i ((Q3.encode (⟨16, 1, 0, 0, 5⟩ : Q.I)).2)]) (fun w h => Encode3_any (⟨16, 1, 0, 0, 5⟩ : Q.I) (by decide) w) (fun w _ => by kernel_rfl) (by kernel_rfl) (E.op (.tuple #[E.u ((Q3.encode (⟨16, 1, 0, 0, 5⟩ : Q.I)).1), E.i ((Q3.encode (⟨16, 1, 0, 0, 5⟩ : Q.I)).2)]) (E.op (E.u ((Q3.encode (⟨16, 1, 0, 0, 5⟩ : Q.I)).1)) (E.op (E.i ((Q3.encode (⟨16, 1, 0, 0, 5⟩ : Q.I)).2)) (E.op (E.u ((Q3.encode (⟨16, 1, 0, 0, 5⟩ : Q.I)).1)) (E.op (E.i ((Q3.encode (⟨16, 1, 0, 0, 5⟩ : Q.I)).2)) (E.ur ?_)))))))))))
 refine E.op (.string (⟨#[]⟩ : ByteArray)) (E.op (E.u ((Q3.encode (⟨16, 1, 0, 0, 5⟩ : Q.I)).1)) (E.G.call (.string (W.put ((Q3.encode (⟨16, 1, 0, 0, 5⟩ : Q.I)).1) 4)) (fun w h => rPut_all ((Q3.encode (⟨16, 1, 0, 0, 5⟩ : Q.I)).1) 4 (Q3.enc_bd _) (by omega) w) (fun w _ => by kernel_rfl) (by kernel_rfl) (E.vl (.string ((⟨#[]⟩ : ByteArray) ++ (W.put ((Q3.encode (⟨16, 1, 0, 0, 5⟩ : Q.I)).1) 4))) (fun w h => E.cat (⟨#[]⟩ : ByteArray) (W.put ((Q3.encode (⟨16, 1, 0, 0, 5⟩ : Q.I)).1) 4) (by kernel_rfl) (by kernel_rfl) (by simp only [ByteArray.size_append, Q.put_size]; decide) w) (E.op (.string ((⟨#[]⟩ : ByteArray) ++ (W.put ((Q3.encode (⟨16, 1, 0, 0, 5⟩ : Q.I)).1) 4))) (E.P.nb (E.To.code (E.C.region (E.op (E.i 0) (E.op (E.i 1) (E.op (E.i 1) (E.To.rounds 2 (E.wk [(0, .bool false), (1, E.pt m1), (2, E.pt m3), (3, .string ((⟨#[]⟩ : ByteArray) ++ (W.put ((Q3.encode (⟨16, 1, 0, 0, 5⟩ : Q.I)).1) 4))), (4, .slice (some ⟨g5, 0, none⟩) 3 3), (5, E.i 1), (6, E.u ((Q3.encode (⟨16, 1, 0, 0, 5⟩ : Q.I)).1)), (24, E.i 0), (25, .slice (some ⟨g5, 0, none⟩) 3 3), (26, E.i 3), (27, .bool true), (28, E.i 0), (29, E.i 1), (30, .tuple #[E.u ((Q3.encode (⟨16, 1, 0, 0, 5⟩ : Q.I)).1), E.i ((Q3.encode (⟨16, 1, 0, 0, 5⟩ : Q.I)).2)]), (31, .slice (some ⟨g5, 0, none⟩) 3 3), (32, E.i 0), (33, E.pt g5), (34, .agg #[E.i 16, E.i 1, E.i 0, E.i 0, E.u 5]), (35, .tuple #[E.u ((Q3.encode (⟨16, 1, 0, 0, 5⟩ : Q.I)).1), E.i ((Q3.encode (⟨16, 1, 0, 0, 5⟩ : Q.I)).2)]), (36, E.u ((Q3.encode (⟨16, 1, 0, 0, 5⟩ : Q.I)).1)), (37, E.i ((Q3.encode (⟨16, 1, 0, 0, 5⟩ : Q.I)).2)), (38, .string (⟨#[]⟩ : ByteArray)), (39, E.u ((Q3.encode (⟨16, 1, 0, 0, 5⟩ : Q.I)).1)), (40, .string (W.put ((Q3.encode (⟨16, 1, 0, 0, 5⟩ : Q.I)).1) 4)), (41, .string ((⟨#[]⟩ : ByteArray) ++ (W.put ((Q3.encode (⟨16, 1, 0, 0, 5⟩ : Q.I)).1) 4)))] [(g5, [E.i 16, E.i 1, E.i 0, E.i 0, E.u 5, E.i 33, E.i 1, E.i 0, E.i 0, E.u 4294967295, E.i 50, E.i 0, E.i 0, E.i 0, E.u 0])] Nz.sub ?_))))))))))))
 refine E.C.seq (E.sr (E.op (E.i 1) (E.op (.slice (some ⟨g5, 0, none⟩) 3 3) (E.op (E.i 3) (E.op (.bool true) (E.To.code (E.C.condT (by kernel_rfl) (by kernel_rfl) (E.C.skip (E.To.code (E.C.seq (E.C.block (E.sr ?_))))))))))))
 refine E.op (.slice (some ⟨g5, 0, none⟩) 3 3) (E.op (E.i 1) (E.op (.pointer (some ⟨g5, 5, none⟩)) (E.li (.agg #[E.i 33, E.i 1, E.i 0, E.i 0, E.u 4294967295]) 0 rfl rfl (E.G.call (.tuple #[E.u ((Q3.encode (⟨33, 1, 0, 0, 4294967295⟩ : Q.I)).1), E.i ((Q3.encode (⟨33, 1, 0, 0, 4294967295⟩ : Q.I)).2)]) (fun w h => Encode3_any (⟨33, 1, 0, 0, 4294967295⟩ : Q.I) (by decide) w) (fun w _ => by kernel_rfl) (by kernel_rfl) (E.op (.tuple #[E.u ((Q3.encode (⟨33, 1, 0, 0, 4294967295⟩ : Q.I)).1), E.i ((Q3.encode (⟨33, 1, 0, 0, 4294967295⟩ : Q.I)).2)]) (E.op (E.u ((Q3.encode (⟨33, 1, 0, 0, 4294967295⟩ : Q.I)).1)) (E.op (E.i ((Q3.encode (⟨33, 1, 0, 0, 4294967295⟩ : Q.I)).2)) (E.op (E.u ((Q3.encode (⟨33, 1, 0, 0, 4294967295⟩ : Q.I)).1)) (E.op (E.i ((Q3.encode (⟨33, 1, 0, 0, 4294967295⟩ : Q.I)).2)) (E.ur (E.op (.string ((⟨#[]⟩ : ByteArray) ++ (W.put ((Q3.encode (⟨16, 1, 0, 0, 5⟩ : Q.I)).1) 4))) ?_)))))))))))
 refine E.op (E.u ((Q3.encode (⟨33, 1, 0, 0, 4294967295⟩ : Q.I)).1)) (E.G.call (.string (W.put ((Q3.encode (⟨33, 1, 0, 0, 4294967295⟩ : Q.I)).1) 4)) (fun w h => rPut_all ((Q3.encode (⟨33, 1, 0, 0, 4294967295⟩ : Q.I)).1) 4 (Q3.enc_bd _) (by omega) w) (fun w _ => by kernel_rfl) (by kernel_rfl) (E.vl (.string (((⟨#[]⟩ : ByteArray) ++ (W.put ((Q3.encode (⟨16, 1, 0, 0, 5⟩ : Q.I)).1) 4)) ++ (W.put ((Q3.encode (⟨33, 1, 0, 0, 4294967295⟩ : Q.I)).1) 4))) (fun w h => E.cat ((⟨#[]⟩ : ByteArray) ++ (W.put ((Q3.encode (⟨16, 1, 0, 0, 5⟩ : Q.I)).1) 4)) (W.put ((Q3.encode (⟨33, 1, 0, 0, 4294967295⟩ : Q.I)).1) 4) (by kernel_rfl) (by kernel_rfl) (by simp only [ByteArray.size_append, Q.put_size]; decide) w) (E.op (.string (((⟨#[]⟩ : ByteArray) ++ (W.put ((Q3.encode (⟨16, 1, 0, 0, 5⟩ : Q.I)).1) 4)) ++ (W.put ((Q3.encode (⟨33, 1, 0, 0, 4294967295⟩ : Q.I)).1) 4))) (E.P.nb (E.To.code (E.C.region (E.op (E.i 1) (E.op (E.i 2) (E.op (E.i 2) (E.To.rounds 1 (E.wk [(0, .bool false), (1, E.pt m1), (2, E.pt m3), (3, .string (((⟨#[]⟩ : ByteArray) ++ (W.put ((Q3.encode (⟨16, 1, 0, 0, 5⟩ : Q.I)).1) 4)) ++ (W.put ((Q3.encode (⟨33, 1, 0, 0, 4294967295⟩ : Q.I)).1) 4))), (4, .slice (some ⟨g5, 0, none⟩) 3 3), (5, E.i 2), (6, E.u ((Q3.encode (⟨33, 1, 0, 0, 4294967295⟩ : Q.I)).1)), (24, E.i 1), (25, .slice (some ⟨g5, 0, none⟩) 3 3), (26, E.i 3), (27, .bool true), (28, E.i 1), (29, E.i 2), (30, .tuple #[E.u ((Q3.encode (⟨33, 1, 0, 0, 4294967295⟩ : Q.I)).1), E.i ((Q3.encode (⟨33, 1, 0, 0, 4294967295⟩ : Q.I)).2)]), (31, .slice (some ⟨g5, 0, none⟩) 3 3), (32, E.i 1), (33, .pointer (some ⟨g5, 5, none⟩)), (34, .agg #[E.i 33, E.i 1, E.i 0, E.i 0, E.u 4294967295]), (35, .tuple #[E.u ((Q3.encode (⟨33, 1, 0, 0, 4294967295⟩ : Q.I)).1), E.i ((Q3.encode (⟨33, 1, 0, 0, 4294967295⟩ : Q.I)).2)]), (36, E.u ((Q3.encode (⟨33, 1, 0, 0, 4294967295⟩ : Q.I)).1)), (37, E.i ((Q3.encode (⟨33, 1, 0, 0, 4294967295⟩ : Q.I)).2)), (38, .string ((⟨#[]⟩ : ByteArray) ++ (W.put ((Q3.encode (⟨16, 1, 0, 0, 5⟩ : Q.I)).1) 4))), (39, E.u ((Q3.encode (⟨33, 1, 0, 0, 4294967295⟩ : Q.I)).1)), (40, .string (W.put ((Q3.encode (⟨33, 1, 0, 0, 4294967295⟩ : Q.I)).1) 4)), (41, .string (((⟨#[]⟩ : ByteArray) ++ (W.put ((Q3.encode (⟨16, 1, 0, 0, 5⟩ : Q.I)).1) 4)) ++ (W.put ((Q3.encode (⟨33, 1, 0, 0, 4294967295⟩ : Q.I)).1) 4)))] [(g5, [E.i 16, E.i 1, E.i 0, E.i 0, E.u 5, E.i 33, E.i 1, E.i 0, E.i 0, E.u 4294967295, E.i 50, E.i 0, E.i 0, E.i 0, E.u 0])] Nz.sub (E.C.seq ?_))))))))))))
 refine E.sr (E.op (E.i 2) (E.op (.slice (some ⟨g5, 0, none⟩) 3 3) (E.op (E.i 3) (E.op (.bool true) (E.To.code (E.C.condT (by kernel_rfl) (by kernel_rfl) (E.C.skip (E.To.code (E.C.seq (E.C.block (E.sr (E.op (.slice (some ⟨g5, 0, none⟩) 3 3) ?_))))))))))))
 refine E.op (E.i 2) (E.op (.pointer (some ⟨g5, 10, none⟩)) (E.li (.agg #[E.i 50, E.i 0, E.i 0, E.i 0, E.u 0]) 0 rfl rfl (E.G.call (.tuple #[E.u ((Q3.encode (⟨50, 0, 0, 0, 0⟩ : Q.I)).1), E.i ((Q3.encode (⟨50, 0, 0, 0, 0⟩ : Q.I)).2)]) (fun w h => Encode3_any (⟨50, 0, 0, 0, 0⟩ : Q.I) (by decide) w) (fun w _ => by kernel_rfl) (by kernel_rfl) (E.op (.tuple #[E.u ((Q3.encode (⟨50, 0, 0, 0, 0⟩ : Q.I)).1), E.i ((Q3.encode (⟨50, 0, 0, 0, 0⟩ : Q.I)).2)]) (E.op (E.u ((Q3.encode (⟨50, 0, 0, 0, 0⟩ : Q.I)).1)) (E.op (E.i ((Q3.encode (⟨50, 0, 0, 0, 0⟩ : Q.I)).2)) (E.op (E.u ((Q3.encode (⟨50, 0, 0, 0, 0⟩ : Q.I)).1)) (E.op (E.i ((Q3.encode (⟨50, 0, 0, 0, 0⟩ : Q.I)).2)) (E.ur (E.op (.string (((⟨#[]⟩ : ByteArray) ++ (W.put ((Q3.encode (⟨16, 1, 0, 0, 5⟩ : Q.I)).1) 4)) ++ (W.put ((Q3.encode (⟨33, 1, 0, 0, 4294967295⟩ : Q.I)).1) 4))) (E.op (E.u ((Q3.encode (⟨50, 0, 0, 0, 0⟩ : Q.I)).1)) ?_)))))))))))
 refine E.G.call (.string (W.put ((Q3.encode (⟨50, 0, 0, 0, 0⟩ : Q.I)).1) 4)) (fun w h => rPut_all ((Q3.encode (⟨50, 0, 0, 0, 0⟩ : Q.I)).1) 4 (Q3.enc_bd _) (by omega) w) (fun w _ => by kernel_rfl) (by kernel_rfl) (E.vl (.string ((((⟨#[]⟩ : ByteArray) ++ (W.put ((Q3.encode (⟨16, 1, 0, 0, 5⟩ : Q.I)).1) 4)) ++ (W.put ((Q3.encode (⟨33, 1, 0, 0, 4294967295⟩ : Q.I)).1) 4)) ++ (W.put ((Q3.encode (⟨50, 0, 0, 0, 0⟩ : Q.I)).1) 4))) (fun w h => E.cat (((⟨#[]⟩ : ByteArray) ++ (W.put ((Q3.encode (⟨16, 1, 0, 0, 5⟩ : Q.I)).1) 4)) ++ (W.put ((Q3.encode (⟨33, 1, 0, 0, 4294967295⟩ : Q.I)).1) 4)) (W.put ((Q3.encode (⟨50, 0, 0, 0, 0⟩ : Q.I)).1) 4) (by kernel_rfl) (by kernel_rfl) (by simp only [ByteArray.size_append, Q.put_size]; decide) w) (E.op (.string ((((⟨#[]⟩ : ByteArray) ++ (W.put ((Q3.encode (⟨16, 1, 0, 0, 5⟩ : Q.I)).1) 4)) ++ (W.put ((Q3.encode (⟨33, 1, 0, 0, 4294967295⟩ : Q.I)).1) 4)) ++ (W.put ((Q3.encode (⟨50, 0, 0, 0, 0⟩ : Q.I)).1) 4))) (E.P.nb (E.To.code (E.C.region (E.op (E.i 2) (E.op (E.i 3) (E.op (E.i 3) (E.To.rounds 0 (E.wk [(0, .bool false), (1, E.pt m1), (2, E.pt m3), (3, .string ((((⟨#[]⟩ : ByteArray) ++ (W.put ((Q3.encode (⟨16, 1, 0, 0, 5⟩ : Q.I)).1) 4)) ++ (W.put ((Q3.encode (⟨33, 1, 0, 0, 4294967295⟩ : Q.I)).1) 4)) ++ (W.put ((Q3.encode (⟨50, 0, 0, 0, 0⟩ : Q.I)).1) 4))), (4, .slice (some ⟨g5, 0, none⟩) 3 3), (5, E.i 3), (6, E.u ((Q3.encode (⟨50, 0, 0, 0, 0⟩ : Q.I)).1)), (24, E.i 2), (25, .slice (some ⟨g5, 0, none⟩) 3 3), (26, E.i 3), (27, .bool true), (28, E.i 2), (29, E.i 3), (30, .tuple #[E.u ((Q3.encode (⟨50, 0, 0, 0, 0⟩ : Q.I)).1), E.i ((Q3.encode (⟨50, 0, 0, 0, 0⟩ : Q.I)).2)]), (31, .slice (some ⟨g5, 0, none⟩) 3 3), (32, E.i 2), (33, .pointer (some ⟨g5, 10, none⟩)), (34, .agg #[E.i 50, E.i 0, E.i 0, E.i 0, E.u 0]), (35, .tuple #[E.u ((Q3.encode (⟨50, 0, 0, 0, 0⟩ : Q.I)).1), E.i ((Q3.encode (⟨50, 0, 0, 0, 0⟩ : Q.I)).2)]), (36, E.u ((Q3.encode (⟨50, 0, 0, 0, 0⟩ : Q.I)).1)), (37, E.i ((Q3.encode (⟨50, 0, 0, 0, 0⟩ : Q.I)).2)), (38, .string (((⟨#[]⟩ : ByteArray) ++ (W.put ((Q3.encode (⟨16, 1, 0, 0, 5⟩ : Q.I)).1) 4)) ++ (W.put ((Q3.encode (⟨33, 1, 0, 0, 4294967295⟩ : Q.I)).1) 4))), (39, E.u ((Q3.encode (⟨50, 0, 0, 0, 0⟩ : Q.I)).1)), (40, .string (W.put ((Q3.encode (⟨50, 0, 0, 0, 0⟩ : Q.I)).1) 4)), (41, .string ((((⟨#[]⟩ : ByteArray) ++ (W.put ((Q3.encode (⟨16, 1, 0, 0, 5⟩ : Q.I)).1) 4)) ++ (W.put ((Q3.encode (⟨33, 1, 0, 0, 4294967295⟩ : Q.I)).1) 4)) ++ (W.put ((Q3.encode (⟨50, 0, 0, 0, 0⟩ : Q.I)).1) 4)))] [(g5, [E.i 16, E.i 1, E.i 0, E.i 0, E.u 5, E.i 33, E.i 1, E.i 0, E.i 0, E.u 4294967295, E.i 50, E.i 0, E.i 0, E.i 0, E.u 0])] Nz.sub (E.C.seq (E.sr ?_))))))))))))
 refine E.op (E.i 3) (E.op (.slice (some ⟨g5, 0, none⟩) 3 3) (E.op (E.i 3) (E.op (.bool false) (E.To.code (E.C.condF (by kernel_rfl) (by kernel_rfl) (E.C.exit (E.P.et (E.P.et (E.P.eh (E.To.code (E.wk [(0, .bool false), (1, E.pt m1), (2, E.pt m3), (3, .string ((((⟨#[]⟩ : ByteArray) ++ (W.put ((Q3.encode (⟨16, 1, 0, 0, 5⟩ : Q.I)).1) 4)) ++ (W.put ((Q3.encode (⟨33, 1, 0, 0, 4294967295⟩ : Q.I)).1) 4)) ++ (W.put ((Q3.encode (⟨50, 0, 0, 0, 0⟩ : Q.I)).1) 4)))] [] Nz.sub (E.sr (E.op (E.pt m1) (E.op (E.pt m1) (E.op (E.pt m1) ?_)))))))))))))))
 refine E.op (.string Q.sanS) (A.G.call (I := Unit) (D := fun _ => True) (V := fun _ => .tuple #[]) (q := fun _ => [M.It m1 ((M.V.new (M.np 1) false).setc 0 Q.sanS) (Q.S.cells Q.z0)]) [M.It m3 (M.V.new (M.np 0) false) (Q.S.cells Q.z0)] (fun _ => []) (fun _ => [M.It m3 (M.V.new (M.np 0) false) (Q.S.cells Q.z0), M.It m1 ((M.V.new (M.np 1) false).setc 0 Q.sanS) (Q.S.cells Q.z0)]) (A_SetCode 0 Q.sanS (m := m1) (V := (M.V.new (M.np 1) false)) (xs := (Q.S.cells Q.z0))) (by kernel_rfl) (A.pn [1, 0]) (fun _ => A.pm [1, 0] (by kernel_rfl) (by kernel_rfl)) (fun w _ => by kernel_rfl) (by kernel_rfl) (fun _ hd6 => E.tr (E.op (E.pt m1) (E.op (E.pt m1) (E.op (E.pt m1) (A.G.call (I := Unit) (D := fun _ => True) (V := fun _ => .tuple #[]) (q := fun _ => [M.It m1 Q.sanV (Q.S.cells Q.z0)]) [M.It m3 (M.V.new (M.np 0) false) (Q.S.cells Q.z0)] (fun _ => []) (fun _ => [M.It m3 (M.V.new (M.np 0) false) (Q.S.cells Q.z0), M.It m1 Q.sanV (Q.S.cells Q.z0)]) (A_Protect 0 4 (m := m1) (V := ((M.V.new (M.np 1) false).setc 0 Q.sanS)) (xs := (Q.S.cells Q.z0))) (by kernel_rfl) (A.pn [1, 0]) (fun _ => A.pm [1, 0] (by kernel_rfl) (by kernel_rfl)) (fun w _ => by kernel_rfl) (by kernel_rfl) (fun _ hd7 => E.To.code (E.wk [(0, .bool false), (1, E.pt m1), (2, E.pt m3)] [] Nz.sub (E.sr (E.op (E.pt m1) (A.G.call (I := Unit) (D := fun _ => True) (V := fun _ => .agg #[E.i Q.sn1.2.1, E.u Q.sn1.2.2.1]) (q := fun _ => [M.It m1 Q.sn1.2.2.2 (Q.S.cells Q.sn1.1)]) [M.It m3 (M.V.new (M.np 0) false) (Q.S.cells Q.z0)] (fun _ => []) (fun _ => [M.It m3 (M.V.new (M.np 0) false) (Q.S.cells Q.z0), M.It m1 Q.sn1.2.2.2 (Q.S.cells Q.sn1.1)]) (CRun (c := m1) 1 Q.z0 Q.sanV (by omega) Q.z0_wf (R.Wf.prot (R.Wf.setc (R.Wf.new (M.np_le _) _) _ _) _ _)) (by kernel_rfl) (A.pn [1, 0]) (fun _ => A.pm [1, 0] (by kernel_rfl) (by kernel_rfl)) (fun w _ => by kernel_rfl) (by kernel_rfl) (fun _ hd8 => ?_))))))))))))
 refine E.G.new (fun g => E.pt g) [E.i 0, E.u 0] 49 (fun w => by kernel_rfl) (by kernel_rfl) (fun g9 => E.st 0 [E.i Q.sn1.2.1, E.u Q.sn1.2.2.1] rfl rfl (E.tr (E.op (E.pt m1) (E.G.call (Q.S.val Q.sn1.1) (fun w h => A.cq [2] [0, 1] (CState (c := m1) (V := Q.sn1.2.2.2) Q.sn1.1) h) (fun w _ => by kernel_rfl) (by kernel_rfl) (E.G.new (fun g => E.pt g) (Q.S.cells Q.z0) 32 (fun w => by kernel_rfl) (by kernel_rfl) (fun g10 => E.st 0 (Q.S.cells Q.sn1.1) rfl rfl (E.tr (E.op (E.pt m1) (A.G.call (I := Unit) (D := fun _ => True) (V := fun _ => .agg #[E.i Q.sn2.2.1, E.u Q.sn2.2.2.1]) (q := fun _ => [M.It m1 Q.sn2.2.2.2 (Q.S.cells Q.sn2.1)]) [A.blk g10 (Q.S.cells Q.sn1.1), A.blk g9 ([E.i Q.sn1.2.1, E.u Q.sn1.2.2.1]), M.It m3 (M.V.new (M.np 0) false) (Q.S.cells Q.z0)] (fun _ => [(g10, (Q.S.cells Q.sn1.1)), (g9, [E.i Q.sn1.2.1, E.u Q.sn1.2.2.1])]) (fun _ => [M.It m3 (M.V.new (M.np 0) false) (Q.S.cells Q.z0), M.It m1 Q.sn2.2.2.2 (Q.S.cells Q.sn2.1)]) (CRun (c := m1) 2 Q.sn1.1 Q.sn1.2.2.2 (by omega) (Q.runs_wf Q.z0_wf (R.Wf.prot (R.Wf.setc (R.Wf.new (M.np_le _) _) _ _) _ _)).1 (Q.runs_wf Q.z0_wf (R.Wf.prot (R.Wf.setc (R.Wf.new (M.np_le _) _) _ _) _ _)).2) (by kernel_rfl) (A.pn [3, 0, 1, 2]) (fun _ => A.pm [1, 2, 3, 0] (by kernel_rfl) (by kernel_rfl)) (fun w _ => by kernel_rfl) (by kernel_rfl) (fun _ hd11 => E.G.new (fun g => E.pt g) [E.i 0, E.u 0] 49 (fun w => by kernel_rfl) (by kernel_rfl) (fun g12 => E.st 0 [E.i Q.sn2.2.1, E.u Q.sn2.2.2.1] rfl rfl ?_)))))))))))
 refine E.tr (E.op (E.pt m1) (E.G.call (Q.S.val Q.sn2.1) (fun w h => A.cq [4] [0, 1, 2, 3] (CState (c := m1) (V := Q.sn2.2.2.2) Q.sn2.1) h) (fun w _ => by kernel_rfl) (by kernel_rfl) (E.G.new (fun g => E.pt g) (Q.S.cells Q.z0) 32 (fun w => by kernel_rfl) (by kernel_rfl) (fun g13 => E.st 0 (Q.S.cells Q.sn2.1) rfl rfl (E.To.code (E.wk [(0, .bool false), (2, E.pt m3), (8, E.pt g9), (9, E.pt g10), (10, E.pt g12), (11, E.pt g13)] [(g13, (Q.S.cells Q.sn2.1)), (g12, [E.i Q.sn2.2.1, E.u Q.sn2.2.2.1]), (g10, (Q.S.cells Q.sn1.1)), (g9, [E.i Q.sn1.2.1, E.u Q.sn1.2.2.1])] Nz.sub (E.sr (E.op (E.pt g9) (E.li (E.i Q.sn1.2.1) 3 rfl rfl (E.vl (.bool true) (fun w h => E.run_as (a := .bool (Q.sn1.2.1 == 1)) (by kernel_rfl) (congrArg Value.bool (by kernel_rfl))) (E.op (.bool true) ?_)))))))))))
 refine E.op (E.pt g10) (E.li (E.u Q.sn1.1.pc) 2 rfl rfl (E.vl (.bool true) (fun w h => E.run_as (a := .bool (Q.sn1.1.pc == 4)) (by kernel_rfl) (congrArg Value.bool (by kernel_rfl))) (E.op (.bool true) (E.op (.bool true) (E.op (.pointer (some ⟨g10, 1, none⟩)) (E.op (.pointer (some ⟨g10, 2, none⟩)) (E.li (E.u (Q.sn1.1.r 1)) 2 rfl rfl (E.vl (.bool true) (fun w h => E.run_as (a := .bool ((Q.sn1.1.r 1) == 5)) (by kernel_rfl) (congrArg Value.bool (by kernel_rfl))) (E.op (.bool true) (E.op (.bool true) (E.op (.pointer (some ⟨g10, 22, none⟩)) ?_)))))))))))
 refine E.li (E.i Q.sn1.1.st) 2 rfl rfl (E.vl (.bool true) (fun w h => E.run_as (a := .bool (Q.sn1.1.st == 1)) (by kernel_rfl) (congrArg Value.bool (by kernel_rfl))) (E.op (.bool true) (E.op (.bool true) (E.op (E.pt g12) (E.li (E.i Q.sn2.2.1) 1 rfl rfl (E.vl (.bool true) (fun w h => E.run_as (a := .bool (Q.sn2.2.1 == 1)) (by kernel_rfl) (congrArg Value.bool (by kernel_rfl))) (E.op (.bool true) (E.op (.bool true) (E.op (E.pt g13) (E.li (E.u Q.sn2.1.pc) 0 rfl rfl (E.vl (.bool true) (fun w h => E.run_as (a := .bool (Q.sn2.1.pc == 4)) (by kernel_rfl) (congrArg Value.bool (by kernel_rfl))) ?_)))))))))))
 refine E.op (.bool true) (E.op (.bool true) (E.op (.pointer (some ⟨g13, 22, none⟩)) (E.li (E.i Q.sn2.1.st) 0 rfl rfl (E.vl (.bool true) (fun w h => E.run_as (a := .bool (Q.sn2.1.st == 3)) (by kernel_rfl) (congrArg Value.bool (by kernel_rfl))) (E.op (.bool true) (E.op (.bool true) (E.op (E.pt m3) (A.G.call (I := Unit) (D := fun _ => True) (V := fun _ => .agg #[E.i Q.sn3.2.1, E.u Q.sn3.2.2.1]) (q := fun _ => [M.It m3 Q.sn3.2.2.2 (Q.S.cells Q.sn3.1)]) [A.blk g13 (Q.S.cells Q.sn2.1), A.blk g12 ([E.i Q.sn2.2.1, E.u Q.sn2.2.2.1]), A.blk g10 (Q.S.cells Q.sn1.1), A.blk g9 ([E.i Q.sn1.2.1, E.u Q.sn1.2.2.1]), M.It m1 Q.sn2.2.2.2 (Q.S.cells Q.sn2.1)] (fun _ => [(g13, (Q.S.cells Q.sn2.1)), (g12, [E.i Q.sn2.2.1, E.u Q.sn2.2.2.1]), (g10, (Q.S.cells Q.sn1.1)), (g9, [E.i Q.sn1.2.1, E.u Q.sn1.2.2.1])]) (fun _ => [M.It m3 Q.sn3.2.2.2 (Q.S.cells Q.sn3.1), M.It m1 Q.sn2.2.2.2 (Q.S.cells Q.sn2.1)]) (CRun (c := m3) 1 Q.z0 (M.V.new (M.np 0) false) (by omega) Q.z0_wf (R.Wf.new (M.np_le _) _)) (by kernel_rfl) (A.pn [4, 0, 1, 2, 3, 5]) (fun _ => A.pm [1, 2, 3, 4, 0, 5] (by kernel_rfl) (by kernel_rfl)) (fun w _ => by kernel_rfl) (by kernel_rfl) (fun _ hd14 => E.vl (.agg #[E.i 5, E.u 0]) (fun w h => E.run_build #[E.i 5, E.u 0] (by kernel_rfl) w) (E.vl (.bool true) (fun w h => E.run_as (a := .bool ((Q.sn3.2.1 == 5) && (Q.sn3.2.2.1 == 0))) (E.api_Trap_eql (by kernel_rfl) (by kernel_rfl)) (congrArg Value.bool (by kernel_rfl))) (E.op (.bool true) ?_)))))))))))
 exact E.op (.bool true) (E.op (E.pt m3) (A.G.call (I := Unit) (D := fun _ => True) (V := fun _ => .agg #[E.i Q.sn4.2.1, E.u Q.sn4.2.2.1]) (q := fun _ => [M.It m3 Q.sn4.2.2.2 (Q.S.cells Q.sn4.1)]) [A.blk g13 (Q.S.cells Q.sn2.1), A.blk g12 ([E.i Q.sn2.2.1, E.u Q.sn2.2.2.1]), A.blk g10 (Q.S.cells Q.sn1.1), A.blk g9 ([E.i Q.sn1.2.1, E.u Q.sn1.2.2.1]), M.It m1 Q.sn2.2.2.2 (Q.S.cells Q.sn2.1)] (fun _ => [(g13, (Q.S.cells Q.sn2.1)), (g12, [E.i Q.sn2.2.1, E.u Q.sn2.2.2.1]), (g10, (Q.S.cells Q.sn1.1)), (g9, [E.i Q.sn1.2.1, E.u Q.sn1.2.2.1])]) (fun _ => [M.It m3 Q.sn4.2.2.2 (Q.S.cells Q.sn4.1), M.It m1 Q.sn2.2.2.2 (Q.S.cells Q.sn2.1)]) (CRun (c := m3) 0 Q.sn3.1 Q.sn3.2.2.2 (by omega) (Q.runs_wf Q.z0_wf (R.Wf.new (M.np_le _) _)).1 (Q.runs_wf Q.z0_wf (R.Wf.new (M.np_le _) _)).2) (by kernel_rfl) (A.pn [4, 0, 1, 2, 3, 5]) (fun _ => A.pm [1, 2, 3, 4, 0, 5] (by kernel_rfl) (by kernel_rfl)) (fun w _ => by kernel_rfl) (by kernel_rfl) (fun _ hd15 => E.vl (.agg #[E.i 1, E.u 0]) (fun w h => E.run_build #[E.i 1, E.u 0] (by kernel_rfl) w) (E.vl (.bool true) (fun w h => E.run_as (a := .bool ((Q.sn4.2.1 == 1) && (Q.sn4.2.2.1 == 0))) (E.api_Trap_eql (by kernel_rfl) (by kernel_rfl)) (congrArg Value.bool (by kernel_rfl))) (E.op (.bool true) (E.op (.bool true) (E.To.code (E.wk [(0, .bool true)] [] Nz.sub (E.C.ret (E.bd Tryz.f8 [.bool true] (fun w h => ⟨rfl, h.ch.bel (fun x hx => (hh.1 x hx).elim)⟩)))))))))))
theorem CNew6 (n : Int) : A.Tr Tryz.prog 30 #[.int .i64 n] [] (I := Nat × Nat) (fun _ => True) (fun i => .pointer (some ⟨i.1, 0, none⟩)) (fun i => [A.blk i.1 (Q.S.cells Q.z0 ++ [.pointer (some ⟨i.2, 0, none⟩)]), R.It i.2 (M.V.new (M.np n) false)]) := by
 intro w oo aa hh
 exact E.enter (n := 7) (S := oo) Tryz.func30 rfl rfl (by kernel_rfl) (A.start (L := []) hh) (E.sr (E.op (.pointer none) (E.tr (E.op (E.i n) (A.G.call (I := Nat) (D := fun r1 => True) (V := fun r1 => E.pt r1) (q := fun r1 => [R.It r1 (M.V.new (M.np n) false)]) [] (fun r1 => []) (fun r1 => [R.It r1 (M.V.new (M.np n) false)]) (R_New n false) (by kernel_rfl) (A.pn []) (fun r1 => A.pm [0] (by kernel_rfl) (by kernel_rfl)) (fun w _ => by kernel_rfl) (by kernel_rfl) (fun r1 hd2 => E.vl (.agg #[E.u 0, E.u 0, E.u 0, E.u 0, E.u 0, E.u 0, E.u 0, E.u 0, E.u 0, E.u 0, E.u 0, E.u 0, E.u 0, E.u 0, E.u 0, E.u 0, E.u 0, E.u 0, E.u 0, E.u 0, E.u 0, E.u 0, E.i 0, E.i 0, E.pt r1]) (fun w h => E.run_build #[E.u 0, E.u 0, E.u 0, E.u 0, E.u 0, E.u 0, E.u 0, E.u 0, E.u 0, E.u 0, E.u 0, E.u 0, E.u 0, E.u 0, E.u 0, E.u 0, E.u 0, E.u 0, E.u 0, E.u 0, E.u 0, E.u 0, E.i 0, E.i 0, E.pt r1] (by kernel_rfl) w) (E.G.new (fun g => E.pt g) (Q.S.cells Q.z0 ++ [E.pt r1]) 35 (fun w => by kernel_rfl) (by kernel_rfl) (fun g3 => E.op (E.pt g3) (E.To.code (E.C.ret (E.bd Tryz.f30 [E.pt g3] (fun w h => ⟨(g3, r1), trivial, rfl, A.dq [0, 1] [] h⟩))))))))))))
theorem CSet6 {r : Nat} {p : Value} {s0 : Q.S} (s : Q.S) : A.Tr Tryz.prog 36 #[.pointer (some ⟨r, 0, none⟩), Q.S.val s] [A.blk r (Q.S.cells s0 ++ [p])] (I := Unit) (fun _ => True) (fun _ => .tuple #[]) (fun _ => [A.blk r (Q.S.cells (Q.norm s) ++ [p])]) := by
 intro w oo aa hh
 refine E.enter (n := 19) (S := oo) Tryz.func36 rfl rfl (by kernel_rfl) (A.start (L := [(r, (Q.S.cells s0 ++ [p]))]) hh) (E.sr (E.G.new (fun g => E.pt g) (Q.S.cells s) 32 (fun w => by kernel_rfl) (by kernel_rfl) (fun g1 => E.tr (E.op (.pointer (some ⟨g1, 1, none⟩)) (E.op (.pointer (some ⟨g1, 1, none⟩)) (E.st 0 (Q.S.cells (⟨s.pc, (Q.up s.r 0 0), s.f, s.c, s.st, s.du⟩)) rfl rfl (E.tr (E.op (.pointer (some ⟨g1, 17, none⟩)) (E.st 0 (Q.S.cells (⟨s.pc, (Q.up s.r 0 0), 0, s.c, s.st, s.du⟩)) rfl rfl (E.tr (E.op (.pointer (some ⟨g1, 22, none⟩)) ?_)))))))))))
 refine E.li (E.i s.st) 0 rfl rfl (E.op (E.i (if 0 > s.st then 0 else s.st)) (E.op (.pointer (some ⟨g1, 22, none⟩)) (E.st 0 (Q.S.cells (⟨s.pc, (Q.up s.r 0 0), 0, s.c, (if 0 > s.st then 0 else s.st), s.du⟩)) rfl rfl (E.To.code (E.wk [(0, E.pt r), (3, E.pt g1)] [(g1, (Q.S.cells (⟨s.pc, (Q.up s.r 0 0), 0, s.c, (if 0 > s.st then 0 else s.st), s.du⟩))), (r, (Q.S.cells s0 ++ [p]))] Nz.sub (E.sr (E.op (.pointer (some ⟨g1, 23, none⟩)) (E.li (E.i s.du) 0 rfl rfl (E.op (E.i (if 0 > s.du then 0 else s.du)) (E.op (.pointer (some ⟨g1, 23, none⟩)) (E.st 0 (Q.S.cells (⟨s.pc, (Q.up s.r 0 0), 0, s.c, (if 0 > s.st then 0 else s.st), (if 0 > s.du then 0 else s.du)⟩)) rfl rfl ?_)))))))))))
 refine E.ur (E.op (E.pt r) (E.li (Q.S.val (⟨s.pc, (Q.up s.r 0 0), 0, s.c, (if 0 > s.st then 0 else s.st), (if 0 > s.du then 0 else s.du)⟩)) 0 rfl rfl (E.op (E.pt r) (E.op (E.pt r) (E.st 1 (Q.S.cells (⟨s.pc, (Q.up s.r 0 0), 0, s.c, (if 0 > s.st then 0 else s.st), (if 0 > s.du then 0 else s.du)⟩) ++ [p]) rfl rfl (E.To.bodyN (fn := Tryz.f36) [] ?_ ?_))))))
 · exact trivial
 intro w h
 refine ⟨(), trivial, rfl, ?_⟩
 exact A.dq [1] [0] h
/-- The operations below k. -/
def Q3.opl : Nat → List Int
  | 0 => []
  | k + 1 => bif (Q3.of ((k : Nat) : Int)).is then Q3.opl k ++ [((k : Nat) : Int)] else Q3.opl k
theorem Q3.opl_len : ∀ k, (Q3.opl k).length ≤ k
  | 0 => Nat.le_refl _
  | k + 1 => by
    have h := Q3.opl_len k
    unfold Q3.opl
    cases (Q3.of ((k : Nat) : Int)).is
    · exact Nat.le_succ_of_le h
    · rw [cond_true, List.length_append]; exact Nat.succ_le_succ h
theorem Q3.opl_t {k : Nat} (h : (Q3.of ((k : Nat) : Int)).is = true) : Q3.opl k ++ [((k : Nat) : Int)] = Q3.opl (k + 1) := by rw [Q3.opl, h]; rfl
theorem Q3.opl_f {k : Nat} (h : (Q3.of ((k : Nat) : Int)).is = false) : Q3.opl k = Q3.opl (k + 1) := by rw [Q3.opl, h]; rfl
def Q3.ops : List Int := [1, 2, 3, 4, 5, 6, 7, 8, 9, 10, 11, 12, 16, 17, 18, 19, 20, 21, 22, 23, 24, 25, 26, 27, 32, 33, 34, 35, 36, 37, 40, 41, 48, 49, 50, 51, 52, 53, 54]
def Q3.o39 : List Value := [.int .i64 1, .int .i64 2, .int .i64 3, .int .i64 4, .int .i64 5, .int .i64 6, .int .i64 7, .int .i64 8, .int .i64 9, .int .i64 10, .int .i64 11, .int .i64 12, .int .i64 16, .int .i64 17, .int .i64 18, .int .i64 19, .int .i64 20, .int .i64 21, .int .i64 22, .int .i64 23, .int .i64 24, .int .i64 25, .int .i64 26, .int .i64 27, .int .i64 32, .int .i64 33, .int .i64 34, .int .i64 35, .int .i64 36, .int .i64 37, .int .i64 40, .int .i64 41, .int .i64 48, .int .i64 49, .int .i64 50, .int .i64 51, .int .i64 52, .int .i64 53, .int .i64 54]
theorem Q3.opl_all : Q3.opl 64 = Q3.ops := by decide +kernel
theorem Q3.op_s {k : Nat} (h : k ≤ 64) : IntKind.wrap .i64 (((k : Nat) : Int) + 1) = ((k + 1 : Nat) : Int) := by rw [IntWalk.i64_in _ (by omega)]; omega
theorem Ops3_it  : A.Tr Tryz.prog 83 #[] [] (I := Option Addr × Nat) (fun _ => True) (fun i => .slice i.1 39 i.2) (fun i => [A.vec .i64 i.1 i.2 Q3.ops]) := by
 intro w oo aa hh
 refine E.enter (n := 15) (S := oo) Tryz.func83 rfl rfl (by kernel_rfl) (A.start (L := []) hh) (E.sr (E.op (.slice none 0 0) (E.tr (E.op (.slice none 0 0) (E.To.code (E.C.seq (E.C.seq (A.C.add0 .i64 none (E.C.region (E.op (E.i 0) (E.To.code ?_)))))))))))
 refine E.C.block (E.C.loop (I := Nat × Option Addr × Nat) (fun i => 64 - i.1) (fun i => i.1 ≤ 64) (fun i => [(1, .slice i.2.1 ((Q3.opl i.1).length) i.2.2), (2, E.i ((i.1 : Nat) : Int))]) (fun i => A.X w oo aa [A.vec .i64 i.2.1 i.2.2 (Q3.opl i.1)]) (fun _ => []) (0, none, 0) (Nat.zero_le _) ⟨by kernel_rfl, by kernel_rfl⟩ Nz.sub (fun _ h => h) (fun i hk1 => ?_))
 obtain ⟨k, ao, cp⟩ := i
 have hk1 : k ≤ 64 := hk1
 refine E.C.seq (E.sr (E.op (E.i ((k : Nat) : Int)) (E.op (.bool (decide (((k : Nat) : Int) < 64))) (E.To.code (E.cd (decide (((k : Nat) : Int) < 64)) (fun hc1 => ?_) (fun hc1 => ?_))))))
 ·
  refine E.C.skip (E.To.code (E.C.seq (E.C.block (E.sr (E.op (E.i ((k : Nat) : Int)) (E.G.call (.agg #[.bool ((Q3.of ((k : Nat) : Int)).is), .bool ((Q3.of ((k : Nat) : Int)).d), .bool ((Q3.of ((k : Nat) : Int)).a), .bool ((Q3.of ((k : Nat) : Int)).b), .bool ((Q3.of ((k : Nat) : Int)).sg), E.i (((Q3.of ((k : Nat) : Int)).bits : Nat) : Int), E.u ((Q3.of ((k : Nat) : Int)).most)]) (fun w h => Of3_any ((k : Nat) : Int) w) (fun w _ => by kernel_rfl) (by kernel_rfl) (E.op (.bool ((Q3.of ((k : Nat) : Int)).is)) (E.To.code (E.cd ((Q3.of ((k : Nat) : Int)).is) (fun hc2 => ?_) (fun hc2 => ?_))))))))))
  ·
   refine E.C.region (E.op (.slice ao ((Q3.opl k).length) cp) (E.op (E.i ((k : Nat) : Int)) (E.G.buildSlice [E.i ((k : Nat) : Int)] (by kernel_rfl) (by kernel_rfl) (fun g3 => A.G.append1 (e := 3) (kd := .i64) (ao := ao) (cap := cp) 0 0 g3 0 1 8 (Q3.opl k) ((k : Nat) : Int) _ rfl (by kernel_rfl) (by kernel_rfl) (by kernel_rfl) (by kernel_rfl) (by kernel_rfl) rfl (by kernel_rfl) (by have := Q3.opl_len k; omega) (by have := Q3.opl_len k; omega) (by decide) (by kernel_rfl) (fun ao4 cp5 => E.op (.slice ao4 (((Q3.opl k) ++ [((k : Nat) : Int)]).length) cp5) (E.P.nb (E.To.code (E.wk [(1, .slice ao4 (((Q3.opl k) ++ [((k : Nat) : Int)]).length) cp5), (2, E.i ((k : Nat) : Int))] [] Nz.sub (E.wk [(1, .slice ao4 (((Q3.opl k) ++ [((k : Nat) : Int)]).length) cp5), (2, E.i ((k : Nat) : Int))] [] Nz.sub ?_)))))))))
   rw [Q3.opl_t hc2]
   exact E.C.region (E.op (E.i ((k : Nat) : Int)) (E.vl (E.i ((k + 1 : Nat) : Int)) (fun w h => E.run_as (a := E.i (IntKind.wrap .i64 (((k : Nat) : Int) + 1))) (by kernel_rfl) (congrArg (Value.int .i64) (Q3.op_s hk1))) (E.op (E.i ((k + 1 : Nat) : Int)) (E.To.round (k + 1, ao4, cp5) (by show 64 - (k + 1) < 64 - k; exact Nz.pom) (by show k + 1 ≤ 64; exact Nz.pom) ⟨by kernel_rfl, by kernel_rfl⟩ Nz.sub (fun _ h => h)))))
  refine E.C.skip (E.P.nb (E.To.code (E.wk [(1, .slice ao ((Q3.opl k).length) cp), (2, E.i ((k : Nat) : Int))] [] Nz.sub ?_)))
  rw [Q3.opl_f hc2]
  exact E.C.region (E.op (E.i ((k : Nat) : Int)) (E.vl (E.i ((k + 1 : Nat) : Int)) (fun w h => E.run_as (a := E.i (IntKind.wrap .i64 (((k : Nat) : Int) + 1))) (by kernel_rfl) (congrArg (Value.int .i64) (Q3.op_s hk1))) (E.op (E.i ((k + 1 : Nat) : Int)) (E.To.round (k + 1, ao, cp) (by show 64 - (k + 1) < 64 - k; exact Nz.pom) (by show k + 1 ≤ 64; exact Nz.pom) ⟨by kernel_rfl, by kernel_rfl⟩ Nz.sub (fun _ h => h)))))
 refine E.C.exit (E.P.et (E.P.et (E.P.eh (E.To.code (E.sr (E.op (.slice ao ((Q3.opl k).length) cp) (E.op (.slice ao ((Q3.opl k).length) cp) (E.To.code (E.C.ret (E.bd Tryz.f83 [.slice ao ((Q3.opl k).length) cp] ?_))))))))))
 intro w h
 obtain rfl : k = 64 := by have := of_decide_eq_false hc1; omega
 exact ⟨(ao, cp), trivial, by rw [Q3.opl_all]; rfl, by have hq := A.done (q := [A.vec .i64 ao cp (Q3.opl 64)]) (r := []) h (by kernel_rfl) (A.pn [0]); rw [Q3.opl_all] at hq; exact hq⟩
theorem Ops3_new {S : Nat → Prop} {w0 : World} {X : World → Prop} {L : List (Nat × List Value)} (w : World) (h : E.Hp S w0 X L w) : Calls Tryz.prog 83 #[] w fun e w' => ∃ x : Nat × Nat × List Value, e = .returned (.slice (some ⟨x.1, 0, none⟩) 39 x.2.1) ∧ E.Hp S w0 X ((x.1, (Q3.o39 ++ x.2.2)) :: L) w' := by
  refine (Ops3_it w _ _ ⟨fun _ h => h, fun _ h => h⟩).mono fun e w' ⟨i, _, he, o', a', hh, hc, hg⟩ => ?_
  have hb : Bel w w' := hc.bel (fun _ h => h.elim)
  obtain ⟨o1, a1, hv, ho, ha⟩ := A.Has.one' hh
  obtain ⟨hl, hv | ⟨hcap, b, hao, hlt, hm, hu, hf, ho2, _⟩⟩ := hv
  · have hl : 39 ≤ i.2 := hl
    omega
  have hbw : w.heap.size ≤ b := Nat.le_of_not_lt fun k => hg.1 b k ((ho b).1 ((ho2 b).2 rfl))
  have h1 := h.bel hb
  have hsz : w0.heap.size ≤ w.heap.size := h.ch.size
  refine ⟨(b, i.2, (List.range (i.2 - 39)).map fun j => (w'.cell? ⟨b, 39 + j, none⟩).getD (.int .i64 0)), by rw [he]; show Ending.returned (.slice i.1 39 i.2) = .returned (.slice (some ⟨b, 0, none⟩) 39 i.2); rw [hao], h1.ch, ?_, ?_, ?_, ?_, ?_, ?_⟩
  · intro p hp k v hk
    rcases List.mem_cons.1 hp with rfl | hp
    · by_cases k39 : k < 39
      · have hk : (Q3.o39 ++ (List.range (i.2 - 39)).map fun j => (w'.cell? ⟨b, 39 + j, none⟩).getD (.int .i64 0))[k]? = some v := hk
        rw [List.getElem?_append_left (by show k < 39; exact k39)] at hk
        have e : Q3.o39 = Q3.ops.map (Value.int .i64) := rfl
        rw [e, List.getElem?_map] at hk
        cases ho : Q3.ops[k]? with
        | none => rw [ho] at hk; cases hk
        | some z => rw [ho] at hk; rw [← Option.some.inj hk]; exact hm k z ho
      · have hk : (Q3.o39 ++ (List.range (i.2 - 39)).map fun j => (w'.cell? ⟨b, 39 + j, none⟩).getD (.int .i64 0))[k]? = some v := hk
        rw [List.getElem?_append_right (by show 39 ≤ k; omega), List.getElem?_map] at hk
        have hlen : Q3.o39.length = 39 := rfl
        rw [hlen] at hk
        by_cases kr : k - 39 < i.2 - 39
        · rw [List.getElem?_range kr] at hk
          have hk := Option.some.inj hk
          obtain ⟨u, hu⟩ := hu k (by omega)
          have hk : (w'.cell? ⟨b, 39 + (k - 39), none⟩).getD (.int .i64 0) = v := hk
          rw [show 39 + (k - 39) = k by omega, hu] at hk
          have hk : u = v := hk
          rw [← hk]; exact hu
        · rw [List.getElem?_eq_none (by rw [List.length_range]; omega)] at hk; cases hk
    · exact h1.mem p hp k v hk
  · intro p hp k
    rcases List.mem_cons.1 hp with rfl | hp
    · exact hf k
    · exact h1.fz p hp k
  · intro p hp
    rcases List.mem_cons.1 hp with rfl | hp
    · exact hlt
    · exact h1.lt p hp
  · intro p hp hk
    rcases List.mem_cons.1 hp with rfl | hp
    · exact absurd hk (by show ¬ b < w0.heap.size; omega)
    · exact h1.own p hp hk
  · show (b :: L.map (·.1)).Nodup
    refine List.nodup_cons.2 ⟨fun hm => ?_, h1.nodup⟩
    obtain ⟨p, hp, e⟩ := List.mem_map.1 hm
    have := h.lt p hp
    omega
  · intro w2 hs hw
    refine h.ext w2 (Nat.le_trans hb.size hs) fun x hx hn => ?_
    refine (hw x (Nat.lt_of_lt_of_le hx hb.size) fun hm => ?_).trans (hb.heap x hx)
    rcases List.mem_cons.1 hm with e | hm
    · have e : x = b := e
      omega
    · exact hn hm
theorem Q3.ops_len : Q3.ops.length = 39 := rfl
def Q3.opAt (n : Int) : Int := Q3.ops.getD (0 + n.toNat * 1) 0
theorem Q3.bifm {c : Bool} {x y : Q3.Fm} (hx : 0 ≤ x.most ∧ x.most ≤ 4) (hy : 0 ≤ y.most ∧ y.most ≤ 4) : 0 ≤ (bif c then x else y).most ∧ (bif c then x else y).most ≤ 4 := by
  cases c
  · exact hy
  · exact hx
theorem Q3.of_most (x : Int) : 0 ≤ (Q3.of x).most ∧ (Q3.of x).most ≤ 4 := by
  unfold Q3.of
  repeat' (first | (show (0 : Int) ≤ _ ∧ (_ : Int) ≤ 4; decide) | refine Q3.bifm ?_ ?_)
theorem Q3.most1 {m : Int} (h : 0 ≤ m ∧ m ≤ 4) : IntKind.wrap .i64 (IntKind.wrap .i64 m + 1) = m + 1 := by
  rw [IntWalk.i64_in m (by omega), IntWalk.i64_in _ (by omega)]
def Q3.two (b : Nat) : Int := ((2 ^ b : Nat) : Int)
theorem Q3.two_bd {b : Nat} (h : b ≤ 22) : 0 < Q3.two b ∧ Q3.two b < 4611686018427387904 := by
  have e : ∀ b : Fin 23, 0 < Q3.two b.val ∧ Q3.two b.val < 4611686018427387904 := by decide +kernel
  exact e ⟨b, by omega⟩
theorem Q3.two_eq {b : Nat} (h : b ≤ 22) : IntKind.wrap .i64 (1 * 2 ^ (min b 64)) = Q3.two b := by
  have e : ∀ b : Fin 23, IntKind.wrap .i64 (1 * 2 ^ (min b.val 64)) = Q3.two b.val := by decide +kernel
  exact e ⟨b, by omega⟩
theorem Q.or_hi (x y : Int) (m : Nat) (h0 : 0 ≤ x ∧ x < 4294967296) (hx : x % ((2 ^ m : Nat) : Int) = 0) (hy : 0 ≤ y ∧ y < ((2 ^ m : Nat) : Int)) (hy2 : y < 4294967296) : bits .or .u32 x y = x + y := by
  obtain ⟨X, rfl⟩ := Int.eq_ofNat_of_zero_le h0.1
  obtain ⟨Y, rfl⟩ := Int.eq_ofNat_of_zero_le hy.1
  rw [u32_or_nat _ _ (by omega) (by omega)]
  have hX : X % 2 ^ m = 0 := by have := hx; rw [← Int.natCast_emod] at this; omega
  have hY : Y < 2 ^ m := by have := hy.2; omega
  obtain ⟨q, rfl⟩ := Nat.dvd_of_mod_eq_zero hX
  rw [← Nat.two_pow_add_eq_or_of_lt hY]; simp
theorem Q3.op_rng {x : Int} (h : (Q3.of x).is = true) : 0 ≤ x ∧ x < 64 := by
  rcases Classical.em (0 ≤ x ∧ x < 64) with k | k
  · exact k
  · have : Q3.of x = ⟨false, false, false, false, false, 0, 0⟩ := by
      unfold Q3.of
      have e1 : (decide (x ≥ 1) && decide (x ≤ 12)) = false := by simp; omega
      have e2 : (x == 17 || x == 18 || x == 19) = false := by simp; omega
      have e3 : ((decide (x ≥ 16) && decide (x ≤ 27)) || (decide (x ≥ 32) && decide (x ≤ 37))) = false := by simp; omega
      have f : ∀ n : Int, 0 ≤ n → n < 64 → (x == n) = false := fun n h1 h2 => by simp; omega
      rw [e1, e2, e3, f 40 (by decide) (by decide), f 41 (by decide) (by decide), f 48 (by decide) (by decide), f 49 (by decide) (by decide), f 50 (by decide) (by decide), f 51 (by decide) (by decide), f 52 (by decide) (by decide), f 53 (by decide) (by decide), f 54 (by decide) (by decide)]; rfl
    rw [this] at h; cases h
def Q3.kd (F : Q3.Fm) : Int := if F.bits = 0 then 0 else if F.sg then 1 else 2
theorem Q3.of_tab : ∀ k : Fin 64, (Q3.of ((k.val : Nat) : Int)).is = true → (Q.shf k.val).kn = true ∧ (Q.shf k.val).d = (Q3.of ((k.val : Nat) : Int)).d ∧ (Q.shf k.val).a = (Q3.of ((k.val : Nat) : Int)).a ∧ (Q.shf k.val).b = (Q3.of ((k.val : Nat) : Int)).b ∧ (Q.shf k.val).bits = (Q3.of ((k.val : Nat) : Int)).bits ∧ (Q.shf k.val).kind = Q3.kd (Q3.of ((k.val : Nat) : Int)) ∧ (Q.shf k.val).most = (Q3.of ((k.val : Nat) : Int)).most ∧
    ((Q3.of ((k.val : Nat) : Int)).bits = 22 ∧ (Q3.of ((k.val : Nat) : Int)).a = false ∧ (Q3.of ((k.val : Nat) : Int)).b = false ∨ (Q3.of ((k.val : Nat) : Int)).bits = 18 ∧ (Q3.of ((k.val : Nat) : Int)).b = false ∨ (Q3.of ((k.val : Nat) : Int)).bits = 0) := by decide +kernel
/-- The format of an operation that there is, in both. -/
theorem Q3.of_same {x : Int} (h : (Q3.of x).is = true) : (Q.of x).kn = true ∧ (Q.of x).d = (Q3.of x).d ∧ (Q.of x).a = (Q3.of x).a ∧ (Q.of x).b = (Q3.of x).b ∧ (Q.of x).bits = (Q3.of x).bits ∧ (Q.of x).kind = Q3.kd (Q3.of x) ∧ (Q.of x).most = (Q3.of x).most ∧
    ((Q3.of x).bits = 22 ∧ (Q3.of x).a = false ∧ (Q3.of x).b = false ∨ (Q3.of x).bits = 18 ∧ (Q3.of x).b = false ∨ (Q3.of x).bits = 0) := by
  have hr := Q3.op_rng h
  obtain ⟨n, rfl⟩ := Int.eq_ofNat_of_zero_le hr.1
  rw [Q.of_lt hr]
  exact Q3.of_tab ⟨n, by omega⟩ h
theorem Q.wr (z : Int) : IntKind.wrap .u32 z = z % 4294967296 := rfl
/-- The word of five fields. -/
theorem Q.word {op d a b m y : Int} {bt : Nat} (ho : 0 ≤ op ∧ op < 64) (hd : 0 ≤ d ∧ d < 16) (ha : 0 ≤ a ∧ a < 16) (hb : 0 ≤ b ∧ b < 16) (hy : 0 ≤ y ∧ y < 4294967296) (hm : m = y % ((2 ^ bt : Nat) : Int))
    (hc : bt = 22 ∧ a = 0 ∧ b = 0 ∨ bt = 18 ∧ b = 0 ∨ bt = 0) :
    bits .or .u32 (bits .or .u32 (bits .or .u32 (bits .or .u32 (IntKind.wrap .u32 ((IntKind.wrap .u32 op) * 2 ^ 26)) (IntKind.wrap .u32 ((IntKind.wrap .u32 d) * 2 ^ 22))) (IntKind.wrap .u32 ((IntKind.wrap .u32 a) * 2 ^ 18))) (IntKind.wrap .u32 ((IntKind.wrap .u32 b) * 2 ^ 14))) (bits .and .u32 y (IntKind.wrap .u32 ((IntKind.wrap .u32 (1 * 2 ^ (min bt 32))) - 1)))
      = op * 67108864 + d * 4194304 + a * 262144 + b * 16384 + m := by
  have e1 : IntKind.wrap .u32 ((IntKind.wrap .u32 op) * 2 ^ 26) = op * 67108864 := by rw [Q.wr, Q.wr]; omega
  have e2 : IntKind.wrap .u32 ((IntKind.wrap .u32 d) * 2 ^ 22) = d * 4194304 := by rw [Q.wr, Q.wr]; omega
  have e3 : IntKind.wrap .u32 ((IntKind.wrap .u32 a) * 2 ^ 18) = a * 262144 := by rw [Q.wr, Q.wr]; omega
  have e4 : IntKind.wrap .u32 ((IntKind.wrap .u32 b) * 2 ^ 14) = b * 16384 := by rw [Q.wr, Q.wr]; omega
  have e5 : bits .and .u32 y (IntKind.wrap .u32 ((IntKind.wrap .u32 (1 * 2 ^ (min bt 32))) - 1)) = y % ((2 ^ bt : Nat) : Int) := by
    rcases hc with ⟨rfl, _⟩ | ⟨rfl, _⟩ | rfl
    · exact W.and_mask 22 (by decide) y hy.1 hy.2
    · exact W.and_mask 18 (by decide) y hy.1 hy.2
    · exact W.and_mask 0 (by decide) y hy.1 hy.2
  have o1 : bits .or .u32 (op * 67108864) (d * 4194304) = op * 67108864 + d * 4194304 := Q.or_hi _ _ 26 (by omega) (by simp) (by simp; omega) (by omega)
  have o2 : bits .or .u32 (op * 67108864 + d * 4194304) (a * 262144) = op * 67108864 + d * 4194304 + a * 262144 := Q.or_hi _ _ 22 (by omega) (by first | omega | simp | (simp; omega)) (by simp; omega) (by omega)
  have o3 : bits .or .u32 (op * 67108864 + d * 4194304 + a * 262144) (b * 16384) = op * 67108864 + d * 4194304 + a * 262144 + b * 16384 := Q.or_hi _ _ 18 (by omega) (by first | omega | simp | (simp; omega)) (by simp; omega) (by omega)
  rw [e1, e2, e3, e4, e5, ← hm, o1, o2, o3]
  rcases hc with ⟨rfl, rfl, rfl⟩ | ⟨rfl, rfl⟩ | rfl
  · have : m = y % 4194304 := hm
    exact Q.or_hi _ _ 22 (by omega) (by first | omega | simp | (simp; omega)) (by simp; omega) (by omega)
  · have : m = y % 262144 := hm
    exact Q.or_hi _ _ 18 (by omega) (by first | omega | simp | (simp; omega)) (by simp; omega) (by omega)
  · have : m = y % 1 := hm
    exact Q.or_hi _ _ 0 (by omega) (by first | omega | simp | (simp; omega)) (by simp; omega) (by omega)
/-- The fields of a word. -/
theorem Q.fld {op d a b m : Int} (ho : 0 ≤ op ∧ op < 64) (hd : 0 ≤ d ∧ d < 16) (ha : 0 ≤ a ∧ a < 16) (hb : 0 ≤ b ∧ b < 16) {bt : Nat} (hm : 0 ≤ m ∧ m < ((2 ^ bt : Nat) : Int)) (hc : bt = 22 ∧ a = 0 ∧ b = 0 ∨ bt = 18 ∧ b = 0 ∨ bt = 0) {w : Int} (hw : w = op * 67108864 + d * 4194304 + a * 262144 + b * 16384 + m) :
    (0 ≤ w ∧ w < 4294967296) ∧ Q.dop w = op ∧ Q.field w true 22 = d ∧ (bt = 22 ∨ Q.field w true 18 = a) ∧ (bt ≠ 0 ∨ Q.field w true 14 = b) ∧ w % ((2 ^ bt : Nat) : Int) = m := by
  have f0 : Q.dop w = IntKind.wrap .i64 (w / 67108864) := by
    show IntKind.wrap .i64 (Int.fdiv w 67108864) = _
    rw [Int.fdiv_eq_ediv_of_nonneg _ (by decide)]
  have f1 : Q.field w true 22 = IntKind.wrap .i64 (w / 4194304 % 16) := by
    show IntKind.wrap .i64 (Int.tmod (Int.fdiv w 4194304) 16) = _
    rw [Int.fdiv_eq_ediv_of_nonneg _ (by decide), Int.tmod_eq_emod_of_nonneg (by rcases hc with ⟨rfl, _⟩ | ⟨rfl, _⟩ | rfl <;> simp at hm <;> omega)]
  have f2 : Q.field w true 18 = IntKind.wrap .i64 (w / 262144 % 16) := by
    show IntKind.wrap .i64 (Int.tmod (Int.fdiv w 262144) 16) = _
    rw [Int.fdiv_eq_ediv_of_nonneg _ (by decide), Int.tmod_eq_emod_of_nonneg (by rcases hc with ⟨rfl, _⟩ | ⟨rfl, _⟩ | rfl <;> simp at hm <;> omega)]
  have f3 : Q.field w true 14 = IntKind.wrap .i64 (w / 16384 % 16) := by
    show IntKind.wrap .i64 (Int.tmod (Int.fdiv w 16384) 16) = _
    rw [Int.fdiv_eq_ediv_of_nonneg _ (by decide), Int.tmod_eq_emod_of_nonneg (by rcases hc with ⟨rfl, _⟩ | ⟨rfl, _⟩ | rfl <;> simp at hm <;> omega)]
  have hm' : 0 ≤ m ∧ m < 4194304 := by rcases hc with ⟨rfl, _⟩ | ⟨rfl, _⟩ | rfl <;> simp at hm <;> omega
  have hs : a * 262144 + b * 16384 + m < 4194304 := by rcases hc with ⟨rfl, rfl, rfl⟩ | ⟨rfl, rfl⟩ | rfl <;> simp at hm <;> omega
  rw [f0, f1, f2, f3, IntWalk.i64_in _ (by omega), IntWalk.i64_in _ (by omega), IntWalk.i64_in _ (by omega), IntWalk.i64_in _ (by omega)]
  refine ⟨by omega, by omega, by omega, ?_, ?_, ?_⟩
  · rcases hc with ⟨rfl, _⟩ | ⟨rfl, rfl⟩ | rfl
    · exact Or.inl rfl
    · exact Or.inr (by simp at hm; omega)
    · exact Or.inr (by simp at hm; omega)
  · rcases hc with ⟨rfl, _⟩ | ⟨rfl, rfl⟩ | rfl
    · exact Or.inl (by decide)
    · exact Or.inl (by decide)
    · exact Or.inr (by simp at hm; omega)
  · rcases hc with ⟨rfl, rfl, rfl⟩ | ⟨rfl, rfl⟩ | rfl <;> simp at hm ⊢ <;> omega
theorem Q3.reg_bd {n : Int} {u : Bool} (h : Q3.reg n u = true) : (0 ≤ n ∧ n < 16) ∧ (u = false → n = 0) := by
  unfold Q3.reg at h
  cases u
  · have : (n == 0) = true := by simpa using h
    have : n = 0 := by simpa using this
    exact ⟨by omega, fun _ => this⟩
  · simp at h
    exact ⟨by omega, fun e => nomatch e⟩
def Q3.iimm (F : Q3.Fm) (n : Int) : Bool := (bif ((((F).bits : Nat) : Int) == 0) then (n == 0) else (bif (F).sg then (W.sign n (((F).bits : Nat) : Int) == n) else (bif (decide (((F).most) > 0)) then (decide (n ≤ ((F).most))) else (decide (n < (IntKind.wrap .u32 (1 * 2 ^ (min ((F).bits) 32))))))))
theorem Q3.valid_parts {i : Q.I} (h : Q3.valid i = true) : (Q3.of i.op).is = true ∧ Q3.reg i.d (Q3.of i.op).d = true ∧ Q3.reg i.a (Q3.of i.op).a = true ∧ Q3.reg i.b (Q3.of i.op).b = true ∧ Q3.iimm (Q3.of i.op) i.imm = true := by
  have h : (bif (!((Q3.of i.op).is)) then false else (bif (((!(Q3.reg i.d ((Q3.of i.op).d))) || (!(Q3.reg i.a ((Q3.of i.op).a)))) || (!(Q3.reg i.b ((Q3.of i.op).b)))) then false else Q3.iimm (Q3.of i.op) i.imm)) = true := h
  revert h
  cases (Q3.of i.op).is <;> cases Q3.reg i.d ((Q3.of i.op).d) <;> cases Q3.reg i.a ((Q3.of i.op).a) <;> cases Q3.reg i.b ((Q3.of i.op).b) <;> simp
theorem Q.imm_same {F : Q3.Fm} {s : Q.Sh} (hb : s.bits = F.bits) (hk : s.kind = Q3.kd F) (hm : s.most = F.most) (hc : F.bits = 22 ∨ F.bits = 18 ∨ F.bits = 0) {n : Int} (hn : 0 ≤ n ∧ n < 4294967296) (h : Q3.iimm F n = true) : Q.immediate s n = true := by
  obtain ⟨is, d, a, b, sg, bits, most⟩ := F
  obtain ⟨kn, d2, a2, b2, kind, bits2, most2⟩ := s
  simp only at hb hk hm hc
  subst hb hm
  unfold Q3.iimm at h
  unfold Q.immediate
  rcases hc with rfl | rfl | rfl <;> cases sg <;> simp [Q3.kd] at hk <;> subst hk <;> simp at h ⊢
  all_goals first
    | exact h
    | (split at h
       · rename_i hp; rw [if_pos hp]; exact h
       · rename_i hp
         rw [if_neg hp, Int.fdiv_eq_ediv_of_nonneg _ (by decide)]
         rw [Q.wr] at h; omega)
theorem Q.sign_again {n : Int} {k : Nat} (hk : k = 22 ∨ k = 18) (hn : 0 ≤ n ∧ n < 4294967296) : W.sign (n % ((2 ^ k : Nat) : Int)) ((k : Nat) : Int) = W.sign n ((k : Nat) : Int) := by
  rcases hk with rfl | rfl
  · show W.sign (n % 4194304) 22 = W.sign n 22
    simp only [W.sign, Int.reduceSub, Int.reduceToNat, Int.reducePow, Int.reduceLT, Int.reduceLE, ↓reduceIte, Int.emod_emod]
  · show W.sign (n % 262144) 18 = W.sign n 18
    simp only [W.sign, Int.reduceSub, Int.reduceToNat, Int.reducePow, Int.reduceLT, Int.reduceLE, ↓reduceIte, Int.emod_emod]
theorem Q.mod_low {n : Int} {b : Nat} (h : b ≤ 22) : Int.tmod n (IntKind.wrap .u32 (1 * 2 ^ (min b 32))) = Int.tmod n ((2 ^ b : Nat) : Int) := by
  have e : ∀ b : Fin 23, IntKind.wrap .u32 (1 * 2 ^ (min b.val 32)) = ((2 ^ b.val : Nat) : Int) := by decide +kernel
  rw [e ⟨b, by omega⟩]
/-- A valid instruction's word is the same in both, and is decoded to the instruction. -/
theorem Q3.valid_enc {i : Q.I} (hn : 0 ≤ i.imm ∧ i.imm < 4294967296) (h : Q3.valid i = true) : (Q3.encode i).2 = 0 ∧ Q.encode i = Q3.encode i ∧ Q.decode (Q3.encode i).1 = (i, 0) := by
  obtain ⟨his, hd, ha, hb, hi⟩ := Q3.valid_parts h
  have hr := Q3.op_rng his
  obtain ⟨tk, td, ta, tb, tbits, tkind, tmost, tc⟩ := Q3.of_same his
  have bd := Q3.reg_bd hd
  have ba := Q3.reg_bd ha
  have bb := Q3.reg_bd hb
  have hc : (Q3.of i.op).bits = 22 ∧ i.a = 0 ∧ i.b = 0 ∨ (Q3.of i.op).bits = 18 ∧ i.b = 0 ∨ (Q3.of i.op).bits = 0 := by
    rcases tc with ⟨e, e1, e2⟩ | ⟨e, e1⟩ | e
    · exact Or.inl ⟨e, ba.2 e1, bb.2 e2⟩
    · exact Or.inr (Or.inl ⟨e, bb.2 e1⟩)
    · exact Or.inr (Or.inr e)
  have hv : Q.valid i = true := by
    unfold Q.valid
    rw [tk, td, ta, tb, Q.imm_same tbits tkind tmost (by rcases tc with ⟨e, _⟩ | ⟨e, _⟩ | e <;> simp [e]) hn hi]
    have f : ∀ n u, Q.fits n u = Q3.reg n u := fun _ _ => rfl
    rw [f, f, f, hd, ha, hb]; rfl
  have hm : 0 ≤ i.imm % ((2 ^ (Q3.of i.op).bits : Nat) : Int) ∧ i.imm % ((2 ^ (Q3.of i.op).bits : Nat) : Int) < ((2 ^ (Q3.of i.op).bits : Nat) : Int) := by
    have : (0 : Int) < ((2 ^ (Q3.of i.op).bits : Nat) : Int) := by have := Nat.two_pow_pos (Q3.of i.op).bits; omega
    exact ⟨Int.emod_nonneg _ (by omega), Int.emod_lt_of_pos _ this⟩
  have hm22 : i.imm % ((2 ^ (Q3.of i.op).bits : Nat) : Int) < 4194304 := by
    rcases hc with ⟨e, _⟩ | ⟨e, _⟩ | e <;> rw [e] at hm ⊢ <;> simp at hm ⊢ <;> omega
  have hlow : i.a * 262144 + i.b * 16384 + i.imm % ((2 ^ (Q3.of i.op).bits : Nat) : Int) < 4194304 := by
    rcases hc with ⟨e, e1, e2⟩ | ⟨e, e1⟩ | e <;> rw [e] at hm ⊢ <;> simp at hm ⊢ <;> omega
  have e3 : Q3.encode i = (i.op * 67108864 + i.d * 4194304 + i.a * 262144 + i.b * 16384 + i.imm % ((2 ^ (Q3.of i.op).bits : Nat) : Int), 0) := by
    unfold Q3.encode
    rw [h]
    show (bif ((((Q3.of i.op).bits : Nat) : Int) == 0) then _ else _) = _
    cases hz : ((((Q3.of i.op).bits : Nat) : Int) == 0) with
    | true =>
      have : (Q3.of i.op).bits = 0 := by simpa using hz
      rw [cond_true, this]
      refine congrArg (·, (0 : Int)) ?_
      simp only [Q.wr]; simp; omega
    | false =>
      rw [cond_false, Q.mod_low (Q3.of_bits _), Int.tmod_eq_emod_of_nonneg hn.1]
      refine congrArg (·, (0 : Int)) ?_
      generalize i.imm % ((2 ^ (Q3.of i.op).bits : Nat) : Int) = m at *
      simp only [Q.wr]; omega
  have eq : Q.encode i = Q3.encode i := by
    rw [e3]
    unfold Q.encode
    rw [hv, tbits]
    exact congrArg (·, (0 : Int)) (Q.word hr bd.1 ba.1 bb.1 hn rfl hc)
  refine ⟨by rw [e3], eq, ?_⟩
  have hw : (Q3.encode i).1 = i.op * 67108864 + i.d * 4194304 + i.a * 262144 + i.b * 16384 + i.imm % ((2 ^ (Q3.of i.op).bits : Nat) : Int) := by rw [e3]
  have e2 : (Q.encode i).2 = 0 := by rw [eq, e3]
  obtain ⟨hw0, f0, f1, f2, f3, f4⟩ := Q.fld hr bd.1 ba.1 bb.1 hm hc hw
  have g1 : Q.field (Q3.encode i).1 (Q.of i.op).d 22 = i.d := by
    cases hu : (Q3.of i.op).d with
    | true => rw [td, hu]; exact f1
    | false => rw [td, hu]; exact (bd.2 hu).symm
  have g2 : Q.field (Q3.encode i).1 (Q.of i.op).a 18 = i.a := by
    cases hu : (Q3.of i.op).a with
    | false => rw [ta, hu]; exact (ba.2 hu).symm
    | true =>
      rw [ta, hu]
      rcases tc with ⟨e, e1, _⟩ | ⟨e, _⟩ | e
      · rw [e1] at hu; cases hu
      · exact f2.resolve_left (by rw [e]; decide)
      · exact f2.resolve_left (by rw [e]; decide)
  have g3 : Q.field (Q3.encode i).1 (Q.of i.op).b 14 = i.b := by
    cases hu : (Q3.of i.op).b with
    | false => rw [tb, hu]; exact (bb.2 hu).symm
    | true =>
      rw [tb, hu]
      rcases tc with ⟨e, _, e1⟩ | ⟨e, e1⟩ | e
      · rw [e1] at hu; cases hu
      · rw [e1] at hu; cases hu
      · exact f3.resolve_left (by rw [e]; decide)
  have g4 : Q.dimm (Q3.encode i).1 = i.imm % ((2 ^ (Q3.of i.op).bits : Nat) : Int) := by
    rw [← f4]
    unfold Q.dimm
    rw [f0, tbits]
    rcases hc with ⟨e, _⟩ | ⟨e, _⟩ | e <;> rw [e]
    · exact W.and_mask 22 (by decide) _ hw0.1 hw0.2
    · exact W.and_mask 18 (by decide) _ hw0.1 hw0.2
    · exact W.and_mask 0 (by decide) _ hw0.1 hw0.2
  have key : ∀ c : Q.I, c = i → (bif ((((Q.encode c).2) != 0) || (((Q.encode c).1) != (Q3.encode i).1)) then ((⟨0, 0, 0, 0, 0⟩ : Q.I), (12 : Int)) else (c, 0)) = (i, 0) := fun c hc => by
    subst hc
    rw [e2, eq]; simp
  unfold Q.decode
  rw [f0, tkind]
  cases hk : (Q3.kd (Q3.of i.op) == 1) with
  | true =>
    refine key _ ?_
    unfold Q.c1 Q.dsg
    rw [g4, f0, g1, g2, g3, tbits]
    have hk1 : (Q3.of i.op).bits ≠ 0 ∧ (Q3.of i.op).sg = true := by
      unfold Q3.kd at hk
      by_cases z : (Q3.of i.op).bits = 0
      · rw [if_pos z] at hk; cases hk
      · rw [if_neg z] at hk
        cases hs : (Q3.of i.op).sg with
        | true => exact ⟨z, rfl⟩
        | false => rw [hs] at hk; cases hk
    rw [Q.sign_again (by rcases tc with ⟨e, _⟩ | ⟨e, _⟩ | e <;> omega) hn]
    have : W.sign i.imm (((Q3.of i.op).bits : Nat) : Int) = i.imm := by
      unfold Q3.iimm at hi
      rw [hk1.2, show ((((Q3.of i.op).bits : Nat) : Int) == 0) = false by simp; exact hk1.1] at hi
      simpa using hi
    rw [this]
  | false =>
    refine key _ ?_
    unfold Q.c0
    rw [g4, f0, g1, g2, g3]
    have : i.imm % ((2 ^ (Q3.of i.op).bits : Nat) : Int) = i.imm := by
      have hmo := Q3.of_most i.op
      unfold Q3.iimm at hi
      rcases tc with ⟨e, _⟩ | ⟨e, _⟩ | e
      · have hs : (Q3.of i.op).sg = false := by
          cases hs : (Q3.of i.op).sg with
          | false => rfl
          | true => unfold Q3.kd at hk; rw [hs, e] at hk; cases hk
        rw [hs, e] at hi; rw [e]
        simp only [Q.wr] at hi; simp at hi ⊢
        split at hi <;> omega
      · have hs : (Q3.of i.op).sg = false := by
          cases hs : (Q3.of i.op).sg with
          | false => rfl
          | true => unfold Q3.kd at hk; rw [hs, e] at hk; cases hk
        rw [hs, e] at hi; rw [e]
        simp only [Q.wr] at hi; simp at hi ⊢
        split at hi <;> omega
      · rw [e] at hi; rw [e]
        simp at hi ⊢
        omega
    rw [this]
def Q3.made (a b c x y : Int) : Q.I := (bif (decide (((Q3.of (Q3.opAt (a % 39))).most) > 0)) then ⟨(Q3.opAt (a % 39)), (bif (Q3.of (Q3.opAt (a % 39))).d then (b % 16) else 0), (bif (Q3.of (Q3.opAt (a % 39))).a then (c % 16) else 0), (bif (Q3.of (Q3.opAt (a % 39))).b then (x % 16) else 0), (bif (Q3.of (Q3.opAt (a % 39))).sg then (W.sign (IntKind.wrap .u32 (y % ((Q3.of (Q3.opAt (a % 39))).most + 1))) (((Q3.of (Q3.opAt (a % 39))).bits : Nat) : Int)) else (IntKind.wrap .u32 (y % ((Q3.of (Q3.opAt (a % 39))).most + 1))))⟩ else (bif (decide ((((Q3.of (Q3.opAt (a % 39))).bits : Nat) : Int) > 0)) then ⟨(Q3.opAt (a % 39)), (bif (Q3.of (Q3.opAt (a % 39))).d then (b % 16) else 0), (bif (Q3.of (Q3.opAt (a % 39))).a then (c % 16) else 0), (bif (Q3.of (Q3.opAt (a % 39))).b then (x % 16) else 0), (bif (Q3.of (Q3.opAt (a % 39))).sg then (W.sign (IntKind.wrap .u32 (y % (Q3.two (Q3.of (Q3.opAt (a % 39))).bits))) (((Q3.of (Q3.opAt (a % 39))).bits : Nat) : Int)) else (IntKind.wrap .u32 (y % (Q3.two (Q3.of (Q3.opAt (a % 39))).bits))))⟩ else ⟨(Q3.opAt (a % 39)), (bif (Q3.of (Q3.opAt (a % 39))).d then (b % 16) else 0), (bif (Q3.of (Q3.opAt (a % 39))).a then (c % 16) else 0), (bif (Q3.of (Q3.opAt (a % 39))).b then (x % 16) else 0), (bif (Q3.of (Q3.opAt (a % 39))).sg then (W.sign 0 (((Q3.of (Q3.opAt (a % 39))).bits : Nat) : Int)) else 0)⟩))
theorem Made3_any (a b c x y : Int) (ha : -9223372036854775808 ≤ a ∧ a < 9223372036854775808) (hb : -9223372036854775808 ≤ b ∧ b < 9223372036854775808) (hc : -9223372036854775808 ≤ c ∧ c < 9223372036854775808) (hx : -9223372036854775808 ≤ x ∧ x < 9223372036854775808) (hy : -9223372036854775808 ≤ y ∧ y < 9223372036854775808) (w : World) : Calls Tryz.prog 69 #[.agg #[.int .i64 a, .int .i64 b, .int .i64 c, .int .i64 x, .int .i64 y]] w fun e w' => e = .returned (.agg #[.int .i64 ((Q3.made a b c x y).op), .int .i64 ((Q3.made a b c x y).d), .int .i64 ((Q3.made a b c x y).a), .int .i64 ((Q3.made a b c x y).b), .int .u32 ((Q3.made a b c x y).imm)]) ∧ Bel w w' := by
 have hm : 0 ≤ a % 39 ∧ a % 39 < 39 := ⟨Int.emod_nonneg _ (by decide), Int.emod_lt_of_pos _ (by decide)⟩
 have hbt := Q3.of_bits (Q3.opAt (a % 39))
 refine E.enter (n := 72) (S := fun _ => False) Tryz.func69 rfl rfl (by kernel_rfl) (E.Hp.start w) (E.sr (E.G.new (fun g => E.pt g) [E.i a, E.i b, E.i c, E.i x, E.i y] 131 (fun w => by kernel_rfl) (by kernel_rfl) (fun g1 => E.G.new (fun g => E.pt g) [E.i 0, E.i 0, E.i 0, E.i 0, E.u 0] 71 (fun w => by kernel_rfl) (by kernel_rfl) (fun g2 => E.tr (E.G.callX (I := Nat × Nat × List Value) (fun _ => True) (fun zz => .slice (some ⟨zz.1, 0, none⟩) 39 zz.2.1) (fun _ => fun _ => True) (fun zz => (zz.1, (Q3.o39 ++ zz.2.2)) :: [(g2, [E.i 0, E.i 0, E.i 0, E.i 0, E.u 0]), (g1, [E.i a, E.i b, E.i c, E.i x, E.i y])]) (fun w h => (Ops3_new w h).mono fun e w1 ⟨g, he, hh⟩ => ⟨g, trivial, he, hh⟩) (fun w _ => by kernel_rfl) (by kernel_rfl) (fun ol3 _ => E.op (.slice (some ⟨ol3.1, 0, none⟩) 39 ol3.2.1) (E.tr (E.op (.slice (some ⟨ol3.1, 0, none⟩) 39 ol3.2.1) (E.op (E.pt g1) (E.li (E.i a) 2 rfl rfl (E.op (.slice (some ⟨ol3.1, 0, none⟩) 39 ol3.2.1) ?_)))))))))))
 refine E.op (E.i 39) (E.G.call (E.i (a % 39)) (fun w h => Mod_any a 39 ha (by decide) w) (fun w _ => by kernel_rfl) (by kernel_rfl) (E.vl (.pointer (some ⟨ol3.1, 0 + ((a % 39)).toNat * 1, none⟩)) (fun w h => E.idxS (e := 3) ol3.1 0 39 ol3.2.1 1 .i64 ((a % 39)) (by kernel_rfl) (by kernel_rfl) (by kernel_rfl) (by kernel_rfl) (by omega) (by omega) w) (E.vl (E.i (Q3.opAt (a % 39))) (fun w h => E.run_load h 0 rfl rfl (E.ld_rowA (xs := Q3.ops) (by kernel_rfl) (by rw [Q3.ops_len]; omega))) (E.vl (.agg #[E.i (Q3.opAt (a % 39)), E.i 0, E.i 0, E.i 0, E.u 0]) (fun w h => E.run_build #[E.i (Q3.opAt (a % 39)), E.i 0, E.i 0, E.i 0, E.u 0] (by kernel_rfl) w) (E.G.new (fun g => E.pt g) [E.i 0, E.i 0, E.i 0, E.i 0, E.u 0] 71 (fun w => by kernel_rfl) (by kernel_rfl) (fun g4 => E.st 0 [E.i (Q3.opAt (a % 39)), E.i 0, E.i 0, E.i 0, E.u 0] rfl rfl (E.To.code (E.wk [(1, E.pt g1), (2, E.pt g2), (4, E.pt g4)] [(g4, [E.i (Q3.opAt (a % 39)), E.i 0, E.i 0, E.i 0, E.u 0]), (g2, [E.i 0, E.i 0, E.i 0, E.i 0, E.u 0]), (g1, [E.i a, E.i b, E.i c, E.i x, E.i y])] Nz.sub (E.sr (E.op (E.pt g4) (E.li (E.i (Q3.opAt (a % 39))) 0 rfl rfl ?_)))))))))))
 refine E.G.call (.agg #[.bool ((Q3.of (Q3.opAt (a % 39))).is), .bool ((Q3.of (Q3.opAt (a % 39))).d), .bool ((Q3.of (Q3.opAt (a % 39))).a), .bool ((Q3.of (Q3.opAt (a % 39))).b), .bool ((Q3.of (Q3.opAt (a % 39))).sg), E.i (((Q3.of (Q3.opAt (a % 39))).bits : Nat) : Int), E.u ((Q3.of (Q3.opAt (a % 39))).most)]) (fun w h => Of3_any (Q3.opAt (a % 39)) w) (fun w _ => by kernel_rfl) (by kernel_rfl) (E.G.new (fun g => E.pt g) [.bool false, .bool false, .bool false, .bool false, .bool false, E.i 0, E.u 0] 126 (fun w => by kernel_rfl) (by kernel_rfl) (fun g5 => E.st 0 [.bool ((Q3.of (Q3.opAt (a % 39))).is), .bool ((Q3.of (Q3.opAt (a % 39))).d), .bool ((Q3.of (Q3.opAt (a % 39))).a), .bool ((Q3.of (Q3.opAt (a % 39))).b), .bool ((Q3.of (Q3.opAt (a % 39))).sg), E.i (((Q3.of (Q3.opAt (a % 39))).bits : Nat) : Int), E.u ((Q3.of (Q3.opAt (a % 39))).most)] rfl rfl (E.To.code (E.C.seq (E.sr (E.op (.pointer (some ⟨g5, 1, none⟩)) (E.li (.bool ((Q3.of (Q3.opAt (a % 39))).d)) 0 rfl rfl (E.To.code (E.C.thencut [(1, E.pt g1), (2, E.pt g2), (4, E.pt g4), (5, E.pt g5)] (fun _ => True) [(g5, [.bool ((Q3.of (Q3.opAt (a % 39))).is), .bool ((Q3.of (Q3.opAt (a % 39))).d), .bool ((Q3.of (Q3.opAt (a % 39))).a), .bool ((Q3.of (Q3.opAt (a % 39))).b), .bool ((Q3.of (Q3.opAt (a % 39))).sg), E.i (((Q3.of (Q3.opAt (a % 39))).bits : Nat) : Int), E.u ((Q3.of (Q3.opAt (a % 39))).most)]), (g4, [E.i (Q3.opAt (a % 39)), E.i (bif (Q3.of (Q3.opAt (a % 39))).d then (b % 16) else 0), E.i 0, E.i 0, E.u 0]), (g2, [E.i 0, E.i 0, E.i 0, E.i 0, E.u 0]), (g1, [E.i a, E.i b, E.i c, E.i x, E.i y])] ?_ ?_)))))))))
 ·
  generalize hc6 : (Q3.of (Q3.opAt (a % 39))).d = b7
  cases b7
  ·
   exact E.C.condF (by kernel_rfl) (by kernel_rfl) (E.C.skip (E.To.pst ⟨by kernel_rfl, by kernel_rfl⟩ Nz.sub (fun _ h => h)))
  exact E.C.condT (by kernel_rfl) (by kernel_rfl) (E.C.region (E.op (.pointer (some ⟨g1, 1, none⟩)) (E.li (E.i b) 3 rfl rfl (E.G.call (E.i (b % 16)) (fun w h => Mod_any b 16 hb (by decide) w) (fun w _ => by kernel_rfl) (by kernel_rfl) (E.op (.pointer (some ⟨g4, 1, none⟩)) (E.st 1 [E.i (Q3.opAt (a % 39)), E.i (b % 16), E.i 0, E.i 0, E.u 0] rfl rfl (E.To.pst ⟨by kernel_rfl, by kernel_rfl⟩ Nz.sub (fun _ h => h))))))))
 refine E.C.seq (E.sr (E.op (.pointer (some ⟨g5, 2, none⟩)) (E.li (.bool ((Q3.of (Q3.opAt (a % 39))).a)) 0 rfl rfl (E.To.code (E.C.thencut [(1, E.pt g1), (2, E.pt g2), (4, E.pt g4), (5, E.pt g5)] (fun _ => True) [(g5, [.bool ((Q3.of (Q3.opAt (a % 39))).is), .bool ((Q3.of (Q3.opAt (a % 39))).d), .bool ((Q3.of (Q3.opAt (a % 39))).a), .bool ((Q3.of (Q3.opAt (a % 39))).b), .bool ((Q3.of (Q3.opAt (a % 39))).sg), E.i (((Q3.of (Q3.opAt (a % 39))).bits : Nat) : Int), E.u ((Q3.of (Q3.opAt (a % 39))).most)]), (g4, [E.i (Q3.opAt (a % 39)), E.i (bif (Q3.of (Q3.opAt (a % 39))).d then (b % 16) else 0), E.i (bif (Q3.of (Q3.opAt (a % 39))).a then (c % 16) else 0), E.i 0, E.u 0]), (g2, [E.i 0, E.i 0, E.i 0, E.i 0, E.u 0]), (g1, [E.i a, E.i b, E.i c, E.i x, E.i y])] ?_ ?_)))))
 ·
  generalize hc8 : (Q3.of (Q3.opAt (a % 39))).a = b9
  cases b9
  ·
   exact E.C.condF (by kernel_rfl) (by kernel_rfl) (E.C.skip (E.To.pst ⟨by kernel_rfl, by kernel_rfl⟩ Nz.sub (fun _ h => h)))
  exact E.C.condT (by kernel_rfl) (by kernel_rfl) (E.C.region (E.op (.pointer (some ⟨g1, 2, none⟩)) (E.li (E.i c) 3 rfl rfl (E.G.call (E.i (c % 16)) (fun w h => Mod_any c 16 hc (by decide) w) (fun w _ => by kernel_rfl) (by kernel_rfl) (E.op (.pointer (some ⟨g4, 2, none⟩)) (E.st 1 [E.i (Q3.opAt (a % 39)), E.i (bif (Q3.of (Q3.opAt (a % 39))).d then (b % 16) else 0), E.i (c % 16), E.i 0, E.u 0] rfl rfl (E.To.pst ⟨by kernel_rfl, by kernel_rfl⟩ Nz.sub (fun _ h => h))))))))
 refine E.C.seq (E.sr (E.op (.pointer (some ⟨g5, 3, none⟩)) (E.li (.bool ((Q3.of (Q3.opAt (a % 39))).b)) 0 rfl rfl (E.To.code (E.C.thencut [(1, E.pt g1), (2, E.pt g2), (4, E.pt g4), (5, E.pt g5)] (fun _ => True) [(g5, [.bool ((Q3.of (Q3.opAt (a % 39))).is), .bool ((Q3.of (Q3.opAt (a % 39))).d), .bool ((Q3.of (Q3.opAt (a % 39))).a), .bool ((Q3.of (Q3.opAt (a % 39))).b), .bool ((Q3.of (Q3.opAt (a % 39))).sg), E.i (((Q3.of (Q3.opAt (a % 39))).bits : Nat) : Int), E.u ((Q3.of (Q3.opAt (a % 39))).most)]), (g4, [E.i (Q3.opAt (a % 39)), E.i (bif (Q3.of (Q3.opAt (a % 39))).d then (b % 16) else 0), E.i (bif (Q3.of (Q3.opAt (a % 39))).a then (c % 16) else 0), E.i (bif (Q3.of (Q3.opAt (a % 39))).b then (x % 16) else 0), E.u 0]), (g2, [E.i 0, E.i 0, E.i 0, E.i 0, E.u 0]), (g1, [E.i a, E.i b, E.i c, E.i x, E.i y])] ?_ ?_)))))
 ·
  generalize hc10 : (Q3.of (Q3.opAt (a % 39))).b = b11
  cases b11
  ·
   exact E.C.condF (by kernel_rfl) (by kernel_rfl) (E.C.skip (E.To.pst ⟨by kernel_rfl, by kernel_rfl⟩ Nz.sub (fun _ h => h)))
  exact E.C.condT (by kernel_rfl) (by kernel_rfl) (E.C.region (E.op (.pointer (some ⟨g1, 3, none⟩)) (E.li (E.i x) 3 rfl rfl (E.G.call (E.i (x % 16)) (fun w h => Mod_any x 16 hx (by decide) w) (fun w _ => by kernel_rfl) (by kernel_rfl) (E.op (.pointer (some ⟨g4, 3, none⟩)) (E.st 1 [E.i (Q3.opAt (a % 39)), E.i (bif (Q3.of (Q3.opAt (a % 39))).d then (b % 16) else 0), E.i (bif (Q3.of (Q3.opAt (a % 39))).a then (c % 16) else 0), E.i (x % 16), E.u 0] rfl rfl (E.To.pst ⟨by kernel_rfl, by kernel_rfl⟩ Nz.sub (fun _ h => h))))))))
 refine E.C.seq (E.C.block (E.sr (E.op (.pointer (some ⟨g5, 6, none⟩)) (E.li (E.u ((Q3.of (Q3.opAt (a % 39))).most)) 0 rfl rfl (E.op (.bool (decide (((Q3.of (Q3.opAt (a % 39))).most) > 0))) (E.op (.bool (decide (((Q3.of (Q3.opAt (a % 39))).most) > 0))) (E.To.code (E.cd (decide (((Q3.of (Q3.opAt (a % 39))).most) > 0)) (fun hc12 => ?_) (fun hc12 => ?_)))))))))
 ·
  refine E.C.region (E.op (.pointer (some ⟨g1, 4, none⟩)) (E.li (E.i y) 3 rfl rfl (E.op (.pointer (some ⟨g5, 6, none⟩)) (E.li (E.u ((Q3.of (Q3.opAt (a % 39))).most)) 0 rfl rfl (E.op (E.i (IntKind.wrap .i64 ((Q3.of (Q3.opAt (a % 39))).most))) (E.vl (E.i ((Q3.of (Q3.opAt (a % 39))).most + 1)) (fun w h => E.run_as (a := E.i (IntKind.wrap .i64 ((IntKind.wrap .i64 ((Q3.of (Q3.opAt (a % 39))).most)) + 1))) (by kernel_rfl) (congrArg (Value.int .i64) (Q3.most1 (Q3.of_most _)))) (E.G.call (E.i (y % ((Q3.of (Q3.opAt (a % 39))).most + 1))) (fun w h => Mod_any y ((Q3.of (Q3.opAt (a % 39))).most + 1) hy (by have hm := Q3.of_most (Q3.opAt (a % 39)); omega) w) (fun w _ => by kernel_rfl) (by kernel_rfl) (E.op (E.u (IntKind.wrap .u32 (y % ((Q3.of (Q3.opAt (a % 39))).most + 1)))) (E.op (.pointer (some ⟨g4, 4, none⟩)) (E.st 1 [E.i (Q3.opAt (a % 39)), E.i (bif (Q3.of (Q3.opAt (a % 39))).d then (b % 16) else 0), E.i (bif (Q3.of (Q3.opAt (a % 39))).a then (c % 16) else 0), E.i (bif (Q3.of (Q3.opAt (a % 39))).b then (x % 16) else 0), E.u (IntKind.wrap .u32 (y % ((Q3.of (Q3.opAt (a % 39))).most + 1)))] rfl rfl (E.P.nb (E.To.code ?_))))))))))))
  refine E.wk [(2, E.pt g2), (4, E.pt g4), (5, E.pt g5)] [(g5, [.bool ((Q3.of (Q3.opAt (a % 39))).is), .bool ((Q3.of (Q3.opAt (a % 39))).d), .bool ((Q3.of (Q3.opAt (a % 39))).a), .bool ((Q3.of (Q3.opAt (a % 39))).b), .bool ((Q3.of (Q3.opAt (a % 39))).sg), E.i (((Q3.of (Q3.opAt (a % 39))).bits : Nat) : Int), E.u ((Q3.of (Q3.opAt (a % 39))).most)]), (g4, [E.i (Q3.opAt (a % 39)), E.i (bif (Q3.of (Q3.opAt (a % 39))).d then (b % 16) else 0), E.i (bif (Q3.of (Q3.opAt (a % 39))).a then (c % 16) else 0), E.i (bif (Q3.of (Q3.opAt (a % 39))).b then (x % 16) else 0), E.u (IntKind.wrap .u32 (y % ((Q3.of (Q3.opAt (a % 39))).most + 1)))]), (g2, [E.i 0, E.i 0, E.i 0, E.i 0, E.u 0])] Nz.sub (E.C.seq (E.sr (E.op (.pointer (some ⟨g5, 4, none⟩)) (E.li (.bool ((Q3.of (Q3.opAt (a % 39))).sg)) 0 rfl rfl (E.To.code (E.C.thencut [(2, E.pt g2), (4, E.pt g4)] (fun _ => True) [(g5, [.bool ((Q3.of (Q3.opAt (a % 39))).is), .bool ((Q3.of (Q3.opAt (a % 39))).d), .bool ((Q3.of (Q3.opAt (a % 39))).a), .bool ((Q3.of (Q3.opAt (a % 39))).b), .bool ((Q3.of (Q3.opAt (a % 39))).sg), E.i (((Q3.of (Q3.opAt (a % 39))).bits : Nat) : Int), E.u ((Q3.of (Q3.opAt (a % 39))).most)]), (g4, [E.i (Q3.opAt (a % 39)), E.i (bif (Q3.of (Q3.opAt (a % 39))).d then (b % 16) else 0), E.i (bif (Q3.of (Q3.opAt (a % 39))).a then (c % 16) else 0), E.i (bif (Q3.of (Q3.opAt (a % 39))).b then (x % 16) else 0), E.u (bif (Q3.of (Q3.opAt (a % 39))).sg then (W.sign (IntKind.wrap .u32 (y % ((Q3.of (Q3.opAt (a % 39))).most + 1))) (((Q3.of (Q3.opAt (a % 39))).bits : Nat) : Int)) else (IntKind.wrap .u32 (y % ((Q3.of (Q3.opAt (a % 39))).most + 1))))]), (g2, [E.i 0, E.i 0, E.i 0, E.i 0, E.u 0])] ?_ ?_))))))
  ·
   generalize hc13 : (Q3.of (Q3.opAt (a % 39))).sg = b14
   cases b14
   ·
    exact E.C.condF (by kernel_rfl) (by kernel_rfl) (E.C.skip (E.To.pst ⟨by kernel_rfl, by kernel_rfl⟩ Nz.sub (fun _ h => h)))
   exact E.C.condT (by kernel_rfl) (by kernel_rfl) (E.C.region (E.op (.pointer (some ⟨g4, 4, none⟩)) (E.li (E.u (IntKind.wrap .u32 (y % ((Q3.of (Q3.opAt (a % 39))).most + 1)))) 1 rfl rfl (E.op (.pointer (some ⟨g5, 5, none⟩)) (E.li (E.i (((Q3.of (Q3.opAt (a % 39))).bits : Nat) : Int)) 0 rfl rfl (E.G.call (E.u (W.sign (IntKind.wrap .u32 (y % ((Q3.of (Q3.opAt (a % 39))).most + 1))) (((Q3.of (Q3.opAt (a % 39))).bits : Nat) : Int))) (fun w h => rSign_any (IntKind.wrap .u32 (y % ((Q3.of (Q3.opAt (a % 39))).most + 1))) (((Q3.of (Q3.opAt (a % 39))).bits : Nat) : Int) (Q.wrap_bd _).1 (Q.wrap_bd _).2 (by omega) (by omega) w) (fun w _ => by kernel_rfl) (by kernel_rfl) (E.op (.pointer (some ⟨g4, 4, none⟩)) (E.st 1 [E.i (Q3.opAt (a % 39)), E.i (bif (Q3.of (Q3.opAt (a % 39))).d then (b % 16) else 0), E.i (bif (Q3.of (Q3.opAt (a % 39))).a then (c % 16) else 0), E.i (bif (Q3.of (Q3.opAt (a % 39))).b then (x % 16) else 0), E.u (W.sign (IntKind.wrap .u32 (y % ((Q3.of (Q3.opAt (a % 39))).most + 1))) (((Q3.of (Q3.opAt (a % 39))).bits : Nat) : Int))] rfl rfl (E.To.pst ⟨by kernel_rfl, by kernel_rfl⟩ Nz.sub (fun _ h => h))))))))))
  refine E.sr (E.li (.agg #[E.i (Q3.opAt (a % 39)), E.i (bif (Q3.of (Q3.opAt (a % 39))).d then (b % 16) else 0), E.i (bif (Q3.of (Q3.opAt (a % 39))).a then (c % 16) else 0), E.i (bif (Q3.of (Q3.opAt (a % 39))).b then (x % 16) else 0), E.u (bif (Q3.of (Q3.opAt (a % 39))).sg then (W.sign (IntKind.wrap .u32 (y % ((Q3.of (Q3.opAt (a % 39))).most + 1))) (((Q3.of (Q3.opAt (a % 39))).bits : Nat) : Int)) else (IntKind.wrap .u32 (y % ((Q3.of (Q3.opAt (a % 39))).most + 1))))]) 1 rfl rfl (E.st 2 [E.i (Q3.opAt (a % 39)), E.i (bif (Q3.of (Q3.opAt (a % 39))).d then (b % 16) else 0), E.i (bif (Q3.of (Q3.opAt (a % 39))).a then (c % 16) else 0), E.i (bif (Q3.of (Q3.opAt (a % 39))).b then (x % 16) else 0), E.u (bif (Q3.of (Q3.opAt (a % 39))).sg then (W.sign (IntKind.wrap .u32 (y % ((Q3.of (Q3.opAt (a % 39))).most + 1))) (((Q3.of (Q3.opAt (a % 39))).bits : Nat) : Int)) else (IntKind.wrap .u32 (y % ((Q3.of (Q3.opAt (a % 39))).most + 1))))] rfl rfl (E.To.code (E.C.ret (E.To.body (fn := Tryz.f69) [.agg #[E.i (Q3.opAt (a % 39)), E.i (bif (Q3.of (Q3.opAt (a % 39))).d then (b % 16) else 0), E.i (bif (Q3.of (Q3.opAt (a % 39))).a then (c % 16) else 0), E.i (bif (Q3.of (Q3.opAt (a % 39))).b then (x % 16) else 0), E.u (bif (Q3.of (Q3.opAt (a % 39))).sg then (W.sign (IntKind.wrap .u32 (y % ((Q3.of (Q3.opAt (a % 39))).most + 1))) (((Q3.of (Q3.opAt (a % 39))).bits : Nat) : Int)) else (IntKind.wrap .u32 (y % ((Q3.of (Q3.opAt (a % 39))).most + 1))))]] ?_ ?_)))))
  · exact ⟨⟨by kernel_rfl, _, _, 2, _, rfl, rfl, by kernel_rfl⟩, trivial⟩
  intro w h
  exact ⟨by show Ending.returned (.agg #[.int .i64 (Q3.opAt (a % 39)), .int .i64 (bif (Q3.of (Q3.opAt (a % 39))).d then (b % 16) else 0), .int .i64 (bif (Q3.of (Q3.opAt (a % 39))).a then (c % 16) else 0), .int .i64 (bif (Q3.of (Q3.opAt (a % 39))).b then (x % 16) else 0), .int .u32 (bif (Q3.of (Q3.opAt (a % 39))).sg then (W.sign (IntKind.wrap .u32 (y % ((Q3.of (Q3.opAt (a % 39))).most + 1))) (((Q3.of (Q3.opAt (a % 39))).bits : Nat) : Int)) else (IntKind.wrap .u32 (y % ((Q3.of (Q3.opAt (a % 39))).most + 1))))]) = _; unfold Q3.made; rw [hc12, cond_true] <;> rfl, h.ch.bel (fun _ h => h.elim)⟩
 refine E.sr (E.op (.pointer (some ⟨g5, 5, none⟩)) (E.li (E.i (((Q3.of (Q3.opAt (a % 39))).bits : Nat) : Int)) 0 rfl rfl (E.op (.bool (decide ((((Q3.of (Q3.opAt (a % 39))).bits : Nat) : Int) > 0))) (E.op (.bool (decide ((((Q3.of (Q3.opAt (a % 39))).bits : Nat) : Int) > 0))) (E.To.code (E.cd (decide ((((Q3.of (Q3.opAt (a % 39))).bits : Nat) : Int) > 0)) (fun hc15 => ?_) (fun hc15 => ?_)))))))
 ·
  refine E.C.region (E.op (.pointer (some ⟨g1, 4, none⟩)) (E.li (E.i y) 3 rfl rfl (E.op (.pointer (some ⟨g5, 5, none⟩)) (E.li (E.i (((Q3.of (Q3.opAt (a % 39))).bits : Nat) : Int)) 0 rfl rfl (E.vl (.int .u64 (((Q3.of (Q3.opAt (a % 39))).bits : Nat) : Int)) (fun w h => E.run_as (a := .int .u64 (IntKind.wrap .u64 (((Q3.of (Q3.opAt (a % 39))).bits : Nat) : Int))) (by kernel_rfl) (congrArg (Value.int .u64) (Q.w64u (by omega)))) (E.vl (E.i (Q3.two (Q3.of (Q3.opAt (a % 39))).bits)) (fun w h => E.run_as (a := E.i (IntKind.wrap .i64 (1 * 2 ^ (min ((Q3.of (Q3.opAt (a % 39))).bits) 64)))) (E.shlN (k2 := .u64) 1 ((Q3.of (Q3.opAt (a % 39))).bits) 64 (by rfl) (by kernel_rfl) (by kernel_rfl) w) (congrArg (Value.int .i64) (Q3.two_eq (Q3.of_bits _)))) (E.G.call (E.i (y % (Q3.two (Q3.of (Q3.opAt (a % 39))).bits))) (fun w h => Mod_any y (Q3.two (Q3.of (Q3.opAt (a % 39))).bits) hy (Q3.two_bd (Q3.of_bits _)) w) (fun w _ => by kernel_rfl) (by kernel_rfl) (E.op (E.u (IntKind.wrap .u32 (y % (Q3.two (Q3.of (Q3.opAt (a % 39))).bits)))) (E.op (.pointer (some ⟨g4, 4, none⟩)) (E.st 1 [E.i (Q3.opAt (a % 39)), E.i (bif (Q3.of (Q3.opAt (a % 39))).d then (b % 16) else 0), E.i (bif (Q3.of (Q3.opAt (a % 39))).a then (c % 16) else 0), E.i (bif (Q3.of (Q3.opAt (a % 39))).b then (x % 16) else 0), E.u (IntKind.wrap .u32 (y % (Q3.two (Q3.of (Q3.opAt (a % 39))).bits)))] rfl rfl (E.P.nb (E.To.code ?_))))))))))))
  refine E.wk [(2, E.pt g2), (4, E.pt g4), (5, E.pt g5)] [(g5, [.bool ((Q3.of (Q3.opAt (a % 39))).is), .bool ((Q3.of (Q3.opAt (a % 39))).d), .bool ((Q3.of (Q3.opAt (a % 39))).a), .bool ((Q3.of (Q3.opAt (a % 39))).b), .bool ((Q3.of (Q3.opAt (a % 39))).sg), E.i (((Q3.of (Q3.opAt (a % 39))).bits : Nat) : Int), E.u ((Q3.of (Q3.opAt (a % 39))).most)]), (g4, [E.i (Q3.opAt (a % 39)), E.i (bif (Q3.of (Q3.opAt (a % 39))).d then (b % 16) else 0), E.i (bif (Q3.of (Q3.opAt (a % 39))).a then (c % 16) else 0), E.i (bif (Q3.of (Q3.opAt (a % 39))).b then (x % 16) else 0), E.u (IntKind.wrap .u32 (y % (Q3.two (Q3.of (Q3.opAt (a % 39))).bits)))]), (g2, [E.i 0, E.i 0, E.i 0, E.i 0, E.u 0])] Nz.sub (E.C.seq (E.sr (E.op (.pointer (some ⟨g5, 4, none⟩)) (E.li (.bool ((Q3.of (Q3.opAt (a % 39))).sg)) 0 rfl rfl (E.To.code (E.C.thencut [(2, E.pt g2), (4, E.pt g4)] (fun _ => True) [(g5, [.bool ((Q3.of (Q3.opAt (a % 39))).is), .bool ((Q3.of (Q3.opAt (a % 39))).d), .bool ((Q3.of (Q3.opAt (a % 39))).a), .bool ((Q3.of (Q3.opAt (a % 39))).b), .bool ((Q3.of (Q3.opAt (a % 39))).sg), E.i (((Q3.of (Q3.opAt (a % 39))).bits : Nat) : Int), E.u ((Q3.of (Q3.opAt (a % 39))).most)]), (g4, [E.i (Q3.opAt (a % 39)), E.i (bif (Q3.of (Q3.opAt (a % 39))).d then (b % 16) else 0), E.i (bif (Q3.of (Q3.opAt (a % 39))).a then (c % 16) else 0), E.i (bif (Q3.of (Q3.opAt (a % 39))).b then (x % 16) else 0), E.u (bif (Q3.of (Q3.opAt (a % 39))).sg then (W.sign (IntKind.wrap .u32 (y % (Q3.two (Q3.of (Q3.opAt (a % 39))).bits))) (((Q3.of (Q3.opAt (a % 39))).bits : Nat) : Int)) else (IntKind.wrap .u32 (y % (Q3.two (Q3.of (Q3.opAt (a % 39))).bits))))]), (g2, [E.i 0, E.i 0, E.i 0, E.i 0, E.u 0])] ?_ ?_))))))
  ·
   generalize hc16 : (Q3.of (Q3.opAt (a % 39))).sg = b17
   cases b17
   ·
    exact E.C.condF (by kernel_rfl) (by kernel_rfl) (E.C.skip (E.To.pst ⟨by kernel_rfl, by kernel_rfl⟩ Nz.sub (fun _ h => h)))
   exact E.C.condT (by kernel_rfl) (by kernel_rfl) (E.C.region (E.op (.pointer (some ⟨g4, 4, none⟩)) (E.li (E.u (IntKind.wrap .u32 (y % (Q3.two (Q3.of (Q3.opAt (a % 39))).bits)))) 1 rfl rfl (E.op (.pointer (some ⟨g5, 5, none⟩)) (E.li (E.i (((Q3.of (Q3.opAt (a % 39))).bits : Nat) : Int)) 0 rfl rfl (E.G.call (E.u (W.sign (IntKind.wrap .u32 (y % (Q3.two (Q3.of (Q3.opAt (a % 39))).bits))) (((Q3.of (Q3.opAt (a % 39))).bits : Nat) : Int))) (fun w h => rSign_any (IntKind.wrap .u32 (y % (Q3.two (Q3.of (Q3.opAt (a % 39))).bits))) (((Q3.of (Q3.opAt (a % 39))).bits : Nat) : Int) (Q.wrap_bd _).1 (Q.wrap_bd _).2 (by omega) (by omega) w) (fun w _ => by kernel_rfl) (by kernel_rfl) (E.op (.pointer (some ⟨g4, 4, none⟩)) (E.st 1 [E.i (Q3.opAt (a % 39)), E.i (bif (Q3.of (Q3.opAt (a % 39))).d then (b % 16) else 0), E.i (bif (Q3.of (Q3.opAt (a % 39))).a then (c % 16) else 0), E.i (bif (Q3.of (Q3.opAt (a % 39))).b then (x % 16) else 0), E.u (W.sign (IntKind.wrap .u32 (y % (Q3.two (Q3.of (Q3.opAt (a % 39))).bits))) (((Q3.of (Q3.opAt (a % 39))).bits : Nat) : Int))] rfl rfl (E.To.pst ⟨by kernel_rfl, by kernel_rfl⟩ Nz.sub (fun _ h => h))))))))))
  refine E.sr (E.li (.agg #[E.i (Q3.opAt (a % 39)), E.i (bif (Q3.of (Q3.opAt (a % 39))).d then (b % 16) else 0), E.i (bif (Q3.of (Q3.opAt (a % 39))).a then (c % 16) else 0), E.i (bif (Q3.of (Q3.opAt (a % 39))).b then (x % 16) else 0), E.u (bif (Q3.of (Q3.opAt (a % 39))).sg then (W.sign (IntKind.wrap .u32 (y % (Q3.two (Q3.of (Q3.opAt (a % 39))).bits))) (((Q3.of (Q3.opAt (a % 39))).bits : Nat) : Int)) else (IntKind.wrap .u32 (y % (Q3.two (Q3.of (Q3.opAt (a % 39))).bits))))]) 1 rfl rfl (E.st 2 [E.i (Q3.opAt (a % 39)), E.i (bif (Q3.of (Q3.opAt (a % 39))).d then (b % 16) else 0), E.i (bif (Q3.of (Q3.opAt (a % 39))).a then (c % 16) else 0), E.i (bif (Q3.of (Q3.opAt (a % 39))).b then (x % 16) else 0), E.u (bif (Q3.of (Q3.opAt (a % 39))).sg then (W.sign (IntKind.wrap .u32 (y % (Q3.two (Q3.of (Q3.opAt (a % 39))).bits))) (((Q3.of (Q3.opAt (a % 39))).bits : Nat) : Int)) else (IntKind.wrap .u32 (y % (Q3.two (Q3.of (Q3.opAt (a % 39))).bits))))] rfl rfl (E.To.code (E.C.ret (E.To.body (fn := Tryz.f69) [.agg #[E.i (Q3.opAt (a % 39)), E.i (bif (Q3.of (Q3.opAt (a % 39))).d then (b % 16) else 0), E.i (bif (Q3.of (Q3.opAt (a % 39))).a then (c % 16) else 0), E.i (bif (Q3.of (Q3.opAt (a % 39))).b then (x % 16) else 0), E.u (bif (Q3.of (Q3.opAt (a % 39))).sg then (W.sign (IntKind.wrap .u32 (y % (Q3.two (Q3.of (Q3.opAt (a % 39))).bits))) (((Q3.of (Q3.opAt (a % 39))).bits : Nat) : Int)) else (IntKind.wrap .u32 (y % (Q3.two (Q3.of (Q3.opAt (a % 39))).bits))))]] ?_ ?_)))))
  · exact ⟨⟨by kernel_rfl, _, _, 2, _, rfl, rfl, by kernel_rfl⟩, trivial⟩
  intro w h
  exact ⟨by show Ending.returned (.agg #[.int .i64 (Q3.opAt (a % 39)), .int .i64 (bif (Q3.of (Q3.opAt (a % 39))).d then (b % 16) else 0), .int .i64 (bif (Q3.of (Q3.opAt (a % 39))).a then (c % 16) else 0), .int .i64 (bif (Q3.of (Q3.opAt (a % 39))).b then (x % 16) else 0), .int .u32 (bif (Q3.of (Q3.opAt (a % 39))).sg then (W.sign (IntKind.wrap .u32 (y % (Q3.two (Q3.of (Q3.opAt (a % 39))).bits))) (((Q3.of (Q3.opAt (a % 39))).bits : Nat) : Int)) else (IntKind.wrap .u32 (y % (Q3.two (Q3.of (Q3.opAt (a % 39))).bits))))]) = _; unfold Q3.made; rw [hc12, cond_false, hc15, cond_true] <;> rfl, h.ch.bel (fun _ h => h.elim)⟩
 refine E.C.skip (E.P.nb (E.To.code (E.wk [(2, E.pt g2), (4, E.pt g4), (5, E.pt g5)] [(g5, [.bool ((Q3.of (Q3.opAt (a % 39))).is), .bool ((Q3.of (Q3.opAt (a % 39))).d), .bool ((Q3.of (Q3.opAt (a % 39))).a), .bool ((Q3.of (Q3.opAt (a % 39))).b), .bool ((Q3.of (Q3.opAt (a % 39))).sg), E.i (((Q3.of (Q3.opAt (a % 39))).bits : Nat) : Int), E.u ((Q3.of (Q3.opAt (a % 39))).most)]), (g4, [E.i (Q3.opAt (a % 39)), E.i (bif (Q3.of (Q3.opAt (a % 39))).d then (b % 16) else 0), E.i (bif (Q3.of (Q3.opAt (a % 39))).a then (c % 16) else 0), E.i (bif (Q3.of (Q3.opAt (a % 39))).b then (x % 16) else 0), E.u 0]), (g2, [E.i 0, E.i 0, E.i 0, E.i 0, E.u 0])] Nz.sub (E.C.seq (E.sr (E.op (.pointer (some ⟨g5, 4, none⟩)) (E.li (.bool ((Q3.of (Q3.opAt (a % 39))).sg)) 0 rfl rfl (E.To.code (E.C.thencut [(2, E.pt g2), (4, E.pt g4)] (fun _ => True) [(g5, [.bool ((Q3.of (Q3.opAt (a % 39))).is), .bool ((Q3.of (Q3.opAt (a % 39))).d), .bool ((Q3.of (Q3.opAt (a % 39))).a), .bool ((Q3.of (Q3.opAt (a % 39))).b), .bool ((Q3.of (Q3.opAt (a % 39))).sg), E.i (((Q3.of (Q3.opAt (a % 39))).bits : Nat) : Int), E.u ((Q3.of (Q3.opAt (a % 39))).most)]), (g4, [E.i (Q3.opAt (a % 39)), E.i (bif (Q3.of (Q3.opAt (a % 39))).d then (b % 16) else 0), E.i (bif (Q3.of (Q3.opAt (a % 39))).a then (c % 16) else 0), E.i (bif (Q3.of (Q3.opAt (a % 39))).b then (x % 16) else 0), E.u (bif (Q3.of (Q3.opAt (a % 39))).sg then (W.sign 0 (((Q3.of (Q3.opAt (a % 39))).bits : Nat) : Int)) else 0)]), (g2, [E.i 0, E.i 0, E.i 0, E.i 0, E.u 0])] ?_ ?_)))))))))
 ·
  generalize hc18 : (Q3.of (Q3.opAt (a % 39))).sg = b19
  cases b19
  ·
   exact E.C.condF (by kernel_rfl) (by kernel_rfl) (E.C.skip (E.To.pst ⟨by kernel_rfl, by kernel_rfl⟩ Nz.sub (fun _ h => h)))
  exact E.C.condT (by kernel_rfl) (by kernel_rfl) (E.C.region (E.op (.pointer (some ⟨g4, 4, none⟩)) (E.li (E.u 0) 1 rfl rfl (E.op (.pointer (some ⟨g5, 5, none⟩)) (E.li (E.i (((Q3.of (Q3.opAt (a % 39))).bits : Nat) : Int)) 0 rfl rfl (E.G.call (.int .u32 (W.sign 0 (((Q3.of (Q3.opAt (a % 39))).bits : Nat) : Int))) (fun w h => rSign_any 0 (((Q3.of (Q3.opAt (a % 39))).bits : Nat) : Int) (show (0 : Int) ≤ 0 ∧ (0 : Int) < 4294967296 by decide).1 (show (0 : Int) ≤ 0 ∧ (0 : Int) < 4294967296 by decide).2 (by omega) (by omega) w) (fun w _ => by kernel_rfl) (by kernel_rfl) (E.op (.pointer (some ⟨g4, 4, none⟩)) (E.st 1 [E.i (Q3.opAt (a % 39)), E.i (bif (Q3.of (Q3.opAt (a % 39))).d then (b % 16) else 0), E.i (bif (Q3.of (Q3.opAt (a % 39))).a then (c % 16) else 0), E.i (bif (Q3.of (Q3.opAt (a % 39))).b then (x % 16) else 0), E.u (W.sign 0 (((Q3.of (Q3.opAt (a % 39))).bits : Nat) : Int))] rfl rfl (E.To.pst ⟨by kernel_rfl, by kernel_rfl⟩ Nz.sub (fun _ h => h))))))))))
 refine E.sr (E.li (.agg #[E.i (Q3.opAt (a % 39)), E.i (bif (Q3.of (Q3.opAt (a % 39))).d then (b % 16) else 0), E.i (bif (Q3.of (Q3.opAt (a % 39))).a then (c % 16) else 0), E.i (bif (Q3.of (Q3.opAt (a % 39))).b then (x % 16) else 0), E.u (bif (Q3.of (Q3.opAt (a % 39))).sg then (W.sign 0 (((Q3.of (Q3.opAt (a % 39))).bits : Nat) : Int)) else 0)]) 1 rfl rfl (E.st 2 [E.i (Q3.opAt (a % 39)), E.i (bif (Q3.of (Q3.opAt (a % 39))).d then (b % 16) else 0), E.i (bif (Q3.of (Q3.opAt (a % 39))).a then (c % 16) else 0), E.i (bif (Q3.of (Q3.opAt (a % 39))).b then (x % 16) else 0), E.u (bif (Q3.of (Q3.opAt (a % 39))).sg then (W.sign 0 (((Q3.of (Q3.opAt (a % 39))).bits : Nat) : Int)) else 0)] rfl rfl (E.To.code (E.C.ret (E.To.body (fn := Tryz.f69) [.agg #[E.i (Q3.opAt (a % 39)), E.i (bif (Q3.of (Q3.opAt (a % 39))).d then (b % 16) else 0), E.i (bif (Q3.of (Q3.opAt (a % 39))).a then (c % 16) else 0), E.i (bif (Q3.of (Q3.opAt (a % 39))).b then (x % 16) else 0), E.u (bif (Q3.of (Q3.opAt (a % 39))).sg then (W.sign 0 (((Q3.of (Q3.opAt (a % 39))).bits : Nat) : Int)) else 0)]] ?_ ?_)))))
 · exact ⟨⟨by kernel_rfl, _, _, 2, _, rfl, rfl, by kernel_rfl⟩, trivial⟩
 intro w h
 exact ⟨by show Ending.returned (.agg #[.int .i64 (Q3.opAt (a % 39)), .int .i64 (bif (Q3.of (Q3.opAt (a % 39))).d then (b % 16) else 0), .int .i64 (bif (Q3.of (Q3.opAt (a % 39))).a then (c % 16) else 0), .int .i64 (bif (Q3.of (Q3.opAt (a % 39))).b then (x % 16) else 0), .int .u32 (bif (Q3.of (Q3.opAt (a % 39))).sg then (W.sign 0 (((Q3.of (Q3.opAt (a % 39))).bits : Nat) : Int)) else 0)]) = _; unfold Q3.made; rw [hc12, cond_false, hc15, cond_false] <;> rfl, h.ch.bel (fun _ h => h.elim)⟩
def Q3.dop (x : Int) : Int := IntKind.wrap .i64 (IntKind.wrap .u32 (Int.tdiv x 67108864))
def Q3.fd (x n : Int) : Int := IntKind.wrap .i64 (Int.tmod (IntKind.wrap .u32 (Int.tdiv x n)) 16)
def Q3.can (x : Int) : Q.I := ⟨(Q3.dop x), (bif (Q3.of (Q3.dop x)).d then (Q3.fd x 4194304) else 0), (bif (Q3.of (Q3.dop x)).a then (Q3.fd x 262144) else 0), (bif (Q3.of (Q3.dop x)).b then (Q3.fd x 16384) else 0), (bif (Q3.of (Q3.dop x)).sg then (W.sign (bif (decide ((((Q3.of (Q3.dop x)).bits : Nat) : Int) > 0)) then (Int.tmod x (IntKind.wrap .u32 (1 * 2 ^ (min ((Q3.of (Q3.dop x)).bits) 32)))) else 0) (((Q3.of (Q3.dop x)).bits : Nat) : Int)) else (bif (decide ((((Q3.of (Q3.dop x)).bits : Nat) : Int) > 0)) then (Int.tmod x (IntKind.wrap .u32 (1 * 2 ^ (min ((Q3.of (Q3.dop x)).bits) 32)))) else 0))⟩
theorem Q3.tm_bd {x n : Int} (hx : 0 ≤ x ∧ x < 4294967296) (hn : 0 ≤ n) : 0 ≤ Int.tmod x n ∧ Int.tmod x n < 4294967296 := by
  have h : Int.tmod x n = x % n := Int.tmod_eq_emod_of_nonneg hx.1
  rw [h]
  by_cases h0 : n = 0
  · subst h0; rw [Int.emod_zero]; exact hx
  · have e := Int.mul_ediv_add_emod x n
    have e1 := Int.emod_nonneg x h0
    have e2 := Int.mul_nonneg hn (Int.ediv_nonneg hx.1 hn)
    omega
theorem Q3.can_bd {x : Int} (hx : 0 ≤ x ∧ x < 4294967296) : 0 ≤ (Q3.can x).imm ∧ (Q3.can x).imm < 4294967296 := by
  unfold Q3.can
  exact (Q.bif_bd (Q.sign_bd (Q.bif_bd (Q3.tm_bd hx (Q.wrap_bd _).1) (show (0 : Int) ≤ 0 ∧ (0 : Int) < 4294967296 by decide)) _) (Q.bif_bd (Q3.tm_bd hx (Q.wrap_bd _).1) (show (0 : Int) ≤ 0 ∧ (0 : Int) < 4294967296 by decide)))
def Q3.decode (x : Int) : Q.I × Int := (bif ((((Q3.encode (Q3.can x)).2) != 0) || (((Q3.encode (Q3.can x)).1) != x)) then (⟨0, 0, 0, 0, 0⟩, 12) else ((Q3.can x), 0))
theorem Decode3_any (x : Int) (hx : 0 ≤ x ∧ x < 4294967296) (w : World) : Calls Tryz.prog 77 #[.int .u32 x] w fun e w' => e = .returned (.tuple #[.agg #[.int .i64 (((Q3.decode x).1).op), .int .i64 (((Q3.decode x).1).d), .int .i64 (((Q3.decode x).1).a), .int .i64 (((Q3.decode x).1).b), .int .u32 (((Q3.decode x).1).imm)], .int .i64 ((Q3.decode x).2)]) ∧ Bel w w' := by
 have hbt := Q3.of_bits (Q3.dop x)
 refine E.enter (n := 68) (S := fun _ => False) Tryz.func77 rfl rfl (by kernel_rfl) (E.Hp.start w) (E.sr (E.G.new (fun g => E.pt g) [E.i 0, E.i 0, E.i 0, E.i 0, E.u 0] 71 (fun w => by kernel_rfl) (by kernel_rfl) (fun g1 => E.op (E.i 0) (E.tr (E.op (E.u x) (E.op (E.u (IntKind.wrap .u32 (Int.tdiv x 67108864))) (E.op (E.i (Q3.dop x)) (E.vl (.agg #[E.i (Q3.dop x), E.i 0, E.i 0, E.i 0, E.u 0]) (fun w h => E.run_build #[E.i (Q3.dop x), E.i 0, E.i 0, E.i 0, E.u 0] (by kernel_rfl) w) (E.G.new (fun g => E.pt g) [E.i 0, E.i 0, E.i 0, E.i 0, E.u 0] 71 (fun w => by kernel_rfl) (by kernel_rfl) (fun g2 => E.st 0 [E.i (Q3.dop x), E.i 0, E.i 0, E.i 0, E.u 0] rfl rfl (E.tr ?_)))))))))))
 refine E.op (E.pt g2) (E.li (E.i (Q3.dop x)) 0 rfl rfl (E.G.call (.agg #[.bool ((Q3.of (Q3.dop x)).is), .bool ((Q3.of (Q3.dop x)).d), .bool ((Q3.of (Q3.dop x)).a), .bool ((Q3.of (Q3.dop x)).b), .bool ((Q3.of (Q3.dop x)).sg), E.i (((Q3.of (Q3.dop x)).bits : Nat) : Int), E.u ((Q3.of (Q3.dop x)).most)]) (fun w h => Of3_any (Q3.dop x) w) (fun w _ => by kernel_rfl) (by kernel_rfl) (E.G.new (fun g => E.pt g) [.bool false, .bool false, .bool false, .bool false, .bool false, E.i 0, E.u 0] 126 (fun w => by kernel_rfl) (by kernel_rfl) (fun g3 => E.st 0 [.bool ((Q3.of (Q3.dop x)).is), .bool ((Q3.of (Q3.dop x)).d), .bool ((Q3.of (Q3.dop x)).a), .bool ((Q3.of (Q3.dop x)).b), .bool ((Q3.of (Q3.dop x)).sg), E.i (((Q3.of (Q3.dop x)).bits : Nat) : Int), E.u ((Q3.of (Q3.dop x)).most)] rfl rfl (E.To.code (E.C.seq (E.sr (E.op (.pointer (some ⟨g3, 1, none⟩)) (E.li (.bool ((Q3.of (Q3.dop x)).d)) 0 rfl rfl (E.To.code (E.wk [(0, E.u x), (2, E.pt g1), (3, E.i 0), (4, E.pt g2), (5, E.pt g3), (16, .bool ((Q3.of (Q3.dop x)).d))] [(g3, [.bool ((Q3.of (Q3.dop x)).is), .bool ((Q3.of (Q3.dop x)).d), .bool ((Q3.of (Q3.dop x)).a), .bool ((Q3.of (Q3.dop x)).b), .bool ((Q3.of (Q3.dop x)).sg), E.i (((Q3.of (Q3.dop x)).bits : Nat) : Int), E.u ((Q3.of (Q3.dop x)).most)]), (g2, [E.i (Q3.dop x), E.i 0, E.i 0, E.i 0, E.u 0]), (g1, [E.i 0, E.i 0, E.i 0, E.i 0, E.u 0])] Nz.sub ?_)))))))))))
 refine E.C.thencut [(0, E.u x), (2, E.pt g1), (3, E.i 0), (4, E.pt g2), (5, E.pt g3)] (fun _ => True) [(g3, [.bool ((Q3.of (Q3.dop x)).is), .bool ((Q3.of (Q3.dop x)).d), .bool ((Q3.of (Q3.dop x)).a), .bool ((Q3.of (Q3.dop x)).b), .bool ((Q3.of (Q3.dop x)).sg), E.i (((Q3.of (Q3.dop x)).bits : Nat) : Int), E.u ((Q3.of (Q3.dop x)).most)]), (g2, [E.i (Q3.dop x), E.i (bif (Q3.of (Q3.dop x)).d then (Q3.fd x 4194304) else 0), E.i 0, E.i 0, E.u 0]), (g1, [E.i 0, E.i 0, E.i 0, E.i 0, E.u 0])] ?_ ?_
 ·
  generalize hc4 : (Q3.of (Q3.dop x)).d = b5
  cases b5
  ·
   exact E.C.condF (by kernel_rfl) (by kernel_rfl) (E.C.skip (E.To.pst ⟨by kernel_rfl, by kernel_rfl⟩ Nz.sub (fun _ h => h)))
  exact E.C.condT (by kernel_rfl) (by kernel_rfl) (E.C.region (E.op (E.u x) (E.op (E.u (IntKind.wrap .u32 (Int.tdiv x 4194304))) (E.op (E.u (Int.tmod (IntKind.wrap .u32 (Int.tdiv x 4194304)) 16)) (E.op (E.i (Q3.fd x 4194304)) (E.op (.pointer (some ⟨g2, 1, none⟩)) (E.st 1 [E.i (Q3.dop x), E.i (Q3.fd x 4194304), E.i 0, E.i 0, E.u 0] rfl rfl (E.To.pst ⟨by kernel_rfl, by kernel_rfl⟩ Nz.sub (fun _ h => h)))))))))
 refine E.C.seq (E.sr (E.op (.pointer (some ⟨g3, 2, none⟩)) (E.li (.bool ((Q3.of (Q3.dop x)).a)) 0 rfl rfl (E.To.code (E.C.thencut [(0, E.u x), (2, E.pt g1), (3, E.i 0), (4, E.pt g2), (5, E.pt g3)] (fun _ => True) [(g3, [.bool ((Q3.of (Q3.dop x)).is), .bool ((Q3.of (Q3.dop x)).d), .bool ((Q3.of (Q3.dop x)).a), .bool ((Q3.of (Q3.dop x)).b), .bool ((Q3.of (Q3.dop x)).sg), E.i (((Q3.of (Q3.dop x)).bits : Nat) : Int), E.u ((Q3.of (Q3.dop x)).most)]), (g2, [E.i (Q3.dop x), E.i (bif (Q3.of (Q3.dop x)).d then (Q3.fd x 4194304) else 0), E.i (bif (Q3.of (Q3.dop x)).a then (Q3.fd x 262144) else 0), E.i 0, E.u 0]), (g1, [E.i 0, E.i 0, E.i 0, E.i 0, E.u 0])] ?_ ?_)))))
 ·
  generalize hc6 : (Q3.of (Q3.dop x)).a = b7
  cases b7
  ·
   exact E.C.condF (by kernel_rfl) (by kernel_rfl) (E.C.skip (E.To.pst ⟨by kernel_rfl, by kernel_rfl⟩ Nz.sub (fun _ h => h)))
  exact E.C.condT (by kernel_rfl) (by kernel_rfl) (E.C.region (E.op (E.u x) (E.op (E.u (IntKind.wrap .u32 (Int.tdiv x 262144))) (E.op (E.u (Int.tmod (IntKind.wrap .u32 (Int.tdiv x 262144)) 16)) (E.op (E.i (Q3.fd x 262144)) (E.op (.pointer (some ⟨g2, 2, none⟩)) (E.st 1 [E.i (Q3.dop x), E.i (bif (Q3.of (Q3.dop x)).d then (Q3.fd x 4194304) else 0), E.i (Q3.fd x 262144), E.i 0, E.u 0] rfl rfl (E.To.pst ⟨by kernel_rfl, by kernel_rfl⟩ Nz.sub (fun _ h => h)))))))))
 refine E.C.seq (E.sr (E.op (.pointer (some ⟨g3, 3, none⟩)) (E.li (.bool ((Q3.of (Q3.dop x)).b)) 0 rfl rfl (E.To.code (E.C.thencut [(0, E.u x), (2, E.pt g1), (3, E.i 0), (4, E.pt g2), (5, E.pt g3)] (fun _ => True) [(g3, [.bool ((Q3.of (Q3.dop x)).is), .bool ((Q3.of (Q3.dop x)).d), .bool ((Q3.of (Q3.dop x)).a), .bool ((Q3.of (Q3.dop x)).b), .bool ((Q3.of (Q3.dop x)).sg), E.i (((Q3.of (Q3.dop x)).bits : Nat) : Int), E.u ((Q3.of (Q3.dop x)).most)]), (g2, [E.i (Q3.dop x), E.i (bif (Q3.of (Q3.dop x)).d then (Q3.fd x 4194304) else 0), E.i (bif (Q3.of (Q3.dop x)).a then (Q3.fd x 262144) else 0), E.i (bif (Q3.of (Q3.dop x)).b then (Q3.fd x 16384) else 0), E.u 0]), (g1, [E.i 0, E.i 0, E.i 0, E.i 0, E.u 0])] ?_ ?_)))))
 ·
  generalize hc8 : (Q3.of (Q3.dop x)).b = b9
  cases b9
  ·
   exact E.C.condF (by kernel_rfl) (by kernel_rfl) (E.C.skip (E.To.pst ⟨by kernel_rfl, by kernel_rfl⟩ Nz.sub (fun _ h => h)))
  exact E.C.condT (by kernel_rfl) (by kernel_rfl) (E.C.region (E.op (E.u x) (E.op (E.u (IntKind.wrap .u32 (Int.tdiv x 16384))) (E.op (E.u (Int.tmod (IntKind.wrap .u32 (Int.tdiv x 16384)) 16)) (E.op (E.i (Q3.fd x 16384)) (E.op (.pointer (some ⟨g2, 3, none⟩)) (E.st 1 [E.i (Q3.dop x), E.i (bif (Q3.of (Q3.dop x)).d then (Q3.fd x 4194304) else 0), E.i (bif (Q3.of (Q3.dop x)).a then (Q3.fd x 262144) else 0), E.i (Q3.fd x 16384), E.u 0] rfl rfl (E.To.pst ⟨by kernel_rfl, by kernel_rfl⟩ Nz.sub (fun _ h => h)))))))))
 refine E.C.seq (E.sr (E.op (.pointer (some ⟨g3, 5, none⟩)) (E.li (E.i (((Q3.of (Q3.dop x)).bits : Nat) : Int)) 0 rfl rfl (E.op (.bool (decide ((((Q3.of (Q3.dop x)).bits : Nat) : Int) > 0))) (E.To.code (E.C.thencut [(0, E.u x), (2, E.pt g1), (3, E.i 0), (4, E.pt g2), (5, E.pt g3)] (fun _ => True) [(g3, [.bool ((Q3.of (Q3.dop x)).is), .bool ((Q3.of (Q3.dop x)).d), .bool ((Q3.of (Q3.dop x)).a), .bool ((Q3.of (Q3.dop x)).b), .bool ((Q3.of (Q3.dop x)).sg), E.i (((Q3.of (Q3.dop x)).bits : Nat) : Int), E.u ((Q3.of (Q3.dop x)).most)]), (g2, [E.i (Q3.dop x), E.i (bif (Q3.of (Q3.dop x)).d then (Q3.fd x 4194304) else 0), E.i (bif (Q3.of (Q3.dop x)).a then (Q3.fd x 262144) else 0), E.i (bif (Q3.of (Q3.dop x)).b then (Q3.fd x 16384) else 0), E.u (bif (decide ((((Q3.of (Q3.dop x)).bits : Nat) : Int) > 0)) then (Int.tmod x (IntKind.wrap .u32 (1 * 2 ^ (min ((Q3.of (Q3.dop x)).bits) 32)))) else 0)]), (g1, [E.i 0, E.i 0, E.i 0, E.i 0, E.u 0])] ?_ ?_))))))
 ·
  generalize hc10 : (decide ((((Q3.of (Q3.dop x)).bits : Nat) : Int) > 0)) = b11
  cases b11
  ·
   exact E.C.condF (by kernel_rfl) (by kernel_rfl) (E.C.skip (E.To.pst ⟨by kernel_rfl, by kernel_rfl⟩ Nz.sub (fun _ h => h)))
  exact E.C.condT (by kernel_rfl) (by kernel_rfl) (E.C.region (E.op (E.u x) (E.op (.pointer (some ⟨g3, 5, none⟩)) (E.li (E.i (((Q3.of (Q3.dop x)).bits : Nat) : Int)) 0 rfl rfl (E.vl (.int .u64 (((Q3.of (Q3.dop x)).bits : Nat) : Int)) (fun w h => E.run_as (a := .int .u64 (IntKind.wrap .u64 (((Q3.of (Q3.dop x)).bits : Nat) : Int))) (by kernel_rfl) (congrArg (Value.int .u64) (Q.w64u (by omega)))) (E.vl (E.u (IntKind.wrap .u32 (1 * 2 ^ (min ((Q3.of (Q3.dop x)).bits) 32)))) (fun w h => E.shlN (k2 := .u64) 1 ((Q3.of (Q3.dop x)).bits) 32 (by rfl) (by kernel_rfl) (by kernel_rfl) w) (E.vl (E.u (Int.tmod x (IntKind.wrap .u32 (1 * 2 ^ (min ((Q3.of (Q3.dop x)).bits) 32))))) (fun w h => E.remI x (IntKind.wrap .u32 (1 * 2 ^ (min ((Q3.of (Q3.dop x)).bits) 32))) (by kernel_rfl) (by kernel_rfl) (Q3.pow_ne hbt) w) (E.op (.pointer (some ⟨g2, 4, none⟩)) (E.st 1 [E.i (Q3.dop x), E.i (bif (Q3.of (Q3.dop x)).d then (Q3.fd x 4194304) else 0), E.i (bif (Q3.of (Q3.dop x)).a then (Q3.fd x 262144) else 0), E.i (bif (Q3.of (Q3.dop x)).b then (Q3.fd x 16384) else 0), E.u (Int.tmod x (IntKind.wrap .u32 (1 * 2 ^ (min ((Q3.of (Q3.dop x)).bits) 32))))] rfl rfl (E.To.pst ⟨by kernel_rfl, by kernel_rfl⟩ Nz.sub (fun _ h => h)))))))))))
 refine E.C.seq (E.sr (E.op (.pointer (some ⟨g3, 4, none⟩)) (E.li (.bool ((Q3.of (Q3.dop x)).sg)) 0 rfl rfl (E.To.code (E.C.thencut [(0, E.u x), (2, E.pt g1), (3, E.i 0), (4, E.pt g2)] (fun _ => True) [(g3, [.bool ((Q3.of (Q3.dop x)).is), .bool ((Q3.of (Q3.dop x)).d), .bool ((Q3.of (Q3.dop x)).a), .bool ((Q3.of (Q3.dop x)).b), .bool ((Q3.of (Q3.dop x)).sg), E.i (((Q3.of (Q3.dop x)).bits : Nat) : Int), E.u ((Q3.of (Q3.dop x)).most)]), (g2, [E.i (Q3.dop x), E.i (bif (Q3.of (Q3.dop x)).d then (Q3.fd x 4194304) else 0), E.i (bif (Q3.of (Q3.dop x)).a then (Q3.fd x 262144) else 0), E.i (bif (Q3.of (Q3.dop x)).b then (Q3.fd x 16384) else 0), E.u (bif (Q3.of (Q3.dop x)).sg then (W.sign (bif (decide ((((Q3.of (Q3.dop x)).bits : Nat) : Int) > 0)) then (Int.tmod x (IntKind.wrap .u32 (1 * 2 ^ (min ((Q3.of (Q3.dop x)).bits) 32)))) else 0) (((Q3.of (Q3.dop x)).bits : Nat) : Int)) else (bif (decide ((((Q3.of (Q3.dop x)).bits : Nat) : Int) > 0)) then (Int.tmod x (IntKind.wrap .u32 (1 * 2 ^ (min ((Q3.of (Q3.dop x)).bits) 32)))) else 0))]), (g1, [E.i 0, E.i 0, E.i 0, E.i 0, E.u 0])] ?_ ?_)))))
 ·
  generalize hc12 : (Q3.of (Q3.dop x)).sg = b13
  cases b13
  ·
   exact E.C.condF (by kernel_rfl) (by kernel_rfl) (E.C.skip (E.To.pst ⟨by kernel_rfl, by kernel_rfl⟩ Nz.sub (fun _ h => h)))
  exact E.C.condT (by kernel_rfl) (by kernel_rfl) (E.C.region (E.op (.pointer (some ⟨g2, 4, none⟩)) (E.li (E.u (bif (decide ((((Q3.of (Q3.dop x)).bits : Nat) : Int) > 0)) then (Int.tmod x (IntKind.wrap .u32 (1 * 2 ^ (min ((Q3.of (Q3.dop x)).bits) 32)))) else 0)) 1 rfl rfl (E.op (.pointer (some ⟨g3, 5, none⟩)) (E.li (E.i (((Q3.of (Q3.dop x)).bits : Nat) : Int)) 0 rfl rfl (E.G.call (.int .u32 (W.sign (bif (decide ((((Q3.of (Q3.dop x)).bits : Nat) : Int) > 0)) then (Int.tmod x (IntKind.wrap .u32 (1 * 2 ^ (min ((Q3.of (Q3.dop x)).bits) 32)))) else 0) (((Q3.of (Q3.dop x)).bits : Nat) : Int))) (fun w h => rSign_any (bif (decide ((((Q3.of (Q3.dop x)).bits : Nat) : Int) > 0)) then (Int.tmod x (IntKind.wrap .u32 (1 * 2 ^ (min ((Q3.of (Q3.dop x)).bits) 32)))) else 0) (((Q3.of (Q3.dop x)).bits : Nat) : Int) (Q.bif_bd (Q3.tm_bd hx (Q.wrap_bd _).1) (show (0 : Int) ≤ 0 ∧ (0 : Int) < 4294967296 by decide)).1 (Q.bif_bd (Q3.tm_bd hx (Q.wrap_bd _).1) (show (0 : Int) ≤ 0 ∧ (0 : Int) < 4294967296 by decide)).2 (by omega) (by omega) w) (fun w _ => by kernel_rfl) (by kernel_rfl) (E.op (.pointer (some ⟨g2, 4, none⟩)) (E.st 1 [E.i (Q3.dop x), E.i (bif (Q3.of (Q3.dop x)).d then (Q3.fd x 4194304) else 0), E.i (bif (Q3.of (Q3.dop x)).a then (Q3.fd x 262144) else 0), E.i (bif (Q3.of (Q3.dop x)).b then (Q3.fd x 16384) else 0), E.u (W.sign (bif (decide ((((Q3.of (Q3.dop x)).bits : Nat) : Int) > 0)) then (Int.tmod x (IntKind.wrap .u32 (1 * 2 ^ (min ((Q3.of (Q3.dop x)).bits) 32)))) else 0) (((Q3.of (Q3.dop x)).bits : Nat) : Int))] rfl rfl (E.To.pst ⟨by kernel_rfl, by kernel_rfl⟩ Nz.sub (fun _ h => h))))))))))
 refine E.sr (E.li (.agg #[E.i ((Q3.can x).op), E.i ((Q3.can x).d), E.i ((Q3.can x).a), E.i ((Q3.can x).b), E.u ((Q3.can x).imm)]) 1 rfl rfl (E.G.call (.tuple #[E.u ((Q3.encode (Q3.can x)).1), E.i ((Q3.encode (Q3.can x)).2)]) (fun w h => Encode3_any (Q3.can x) (Q3.can_bd hx) w) (fun w _ => by kernel_rfl) (by kernel_rfl) (E.op (.tuple #[E.u ((Q3.encode (Q3.can x)).1), E.i ((Q3.encode (Q3.can x)).2)]) (E.op (E.u ((Q3.encode (Q3.can x)).1)) (E.op (E.i ((Q3.encode (Q3.can x)).2)) (E.op (E.u ((Q3.encode (Q3.can x)).1)) (E.op (E.i ((Q3.encode (Q3.can x)).2)) (E.To.code (E.C.seq (E.sr (E.op (E.i ((Q3.encode (Q3.can x)).2)) ?_)))))))))))
 refine E.op (.bool (((Q3.encode (Q3.can x)).2) != 0)) (E.op (.bool (((Q3.encode (Q3.can x)).2) != 0)) (E.G.cut 4 [(2, E.pt g1), (3, E.i 0), (4, E.pt g2), (65, .bool ((((Q3.encode (Q3.can x)).2) != 0) || (((Q3.encode (Q3.can x)).1) != x)))] (fun _ => True) [(g3, [.bool ((Q3.of (Q3.dop x)).is), .bool ((Q3.of (Q3.dop x)).d), .bool ((Q3.of (Q3.dop x)).a), .bool ((Q3.of (Q3.dop x)).b), .bool ((Q3.of (Q3.dop x)).sg), E.i (((Q3.of (Q3.dop x)).bits : Nat) : Int), E.u ((Q3.of (Q3.dop x)).most)]), (g2, [E.i (Q3.dop x), E.i (bif (Q3.of (Q3.dop x)).d then (Q3.fd x 4194304) else 0), E.i (bif (Q3.of (Q3.dop x)).a then (Q3.fd x 262144) else 0), E.i (bif (Q3.of (Q3.dop x)).b then (Q3.fd x 16384) else 0), E.u (bif (Q3.of (Q3.dop x)).sg then (W.sign (bif (decide ((((Q3.of (Q3.dop x)).bits : Nat) : Int) > 0)) then (Int.tmod x (IntKind.wrap .u32 (1 * 2 ^ (min ((Q3.of (Q3.dop x)).bits) 32)))) else 0) (((Q3.of (Q3.dop x)).bits : Nat) : Int)) else (bif (decide ((((Q3.of (Q3.dop x)).bits : Nat) : Int) > 0)) then (Int.tmod x (IntKind.wrap .u32 (1 * 2 ^ (min ((Q3.of (Q3.dop x)).bits) 32)))) else 0))]), (g1, [E.i 0, E.i 0, E.i 0, E.i 0, E.u 0])] ?_ ?_))
 ·
  generalize hc14 : (((Q3.encode (Q3.can x)).2) != 0) = b15
  cases b15
  ·
   exact E.op (E.u ((Q3.encode (Q3.can x)).1)) (E.op (E.u x) (E.op (.bool (((Q3.encode (Q3.can x)).1) != x)) (E.op (.bool (((Q3.encode (Q3.can x)).1) != x)) (E.G.end_pst ⟨by kernel_rfl, by kernel_rfl⟩ Nz.sub (fun _ h => h)))))
  exact E.sk (E.sk (E.sk (E.op (.bool true) (E.G.end_pst ⟨by kernel_rfl, by kernel_rfl⟩ Nz.sub (fun _ h => h)))))
 refine E.To.code (E.cd ((((Q3.encode (Q3.can x)).2) != 0) || (((Q3.encode (Q3.can x)).1) != x)) (fun hc16 => ?_) (fun hc16 => ?_))
 ·
  refine E.sr (E.vl (.agg #[E.i 0, E.i 0, E.i 0, E.i 0, E.u 0]) (fun w h => E.run_build #[E.i 0, E.i 0, E.i 0, E.i 0, E.u 0] (by kernel_rfl) w) (E.st 2 [E.i 0, E.i 0, E.i 0, E.i 0, E.u 0] rfl rfl (E.op (E.i 12) (E.To.code (E.C.ret (E.P.rt (E.To.body (fn := Tryz.f77) [.agg #[E.i 0, E.i 0, E.i 0, E.i 0, E.u 0], E.i 12] ?_ ?_)))))))
  · exact ⟨⟨by kernel_rfl, _, _, 2, _, rfl, rfl, by kernel_rfl⟩, ⟨by kernel_rfl, by kernel_rfl⟩, trivial⟩
  intro w h
  exact ⟨by show Ending.returned (.tuple #[.agg #[.int .i64 0, .int .i64 0, .int .i64 0, .int .i64 0, .int .u32 0], .int .i64 12]) = _; unfold Q3.decode; rw [hc16, cond_true] <;> rfl, h.ch.bel (fun _ h => h.elim)⟩
 refine E.C.skip (E.To.code (E.sr (E.li (.agg #[E.i ((Q3.can x).op), E.i ((Q3.can x).d), E.i ((Q3.can x).a), E.i ((Q3.can x).b), E.u ((Q3.can x).imm)]) 1 rfl rfl (E.st 2 [E.i ((Q3.can x).op), E.i ((Q3.can x).d), E.i ((Q3.can x).a), E.i ((Q3.can x).b), E.u ((Q3.can x).imm)] rfl rfl (E.op (E.i 0) (E.To.code (E.C.ret (E.To.body (fn := Tryz.f77) [.agg #[E.i ((Q3.can x).op), E.i ((Q3.can x).d), E.i ((Q3.can x).a), E.i ((Q3.can x).b), E.u ((Q3.can x).imm)], E.i 0] ?_ ?_))))))))
 · exact ⟨⟨by kernel_rfl, _, _, 2, _, rfl, rfl, by kernel_rfl⟩, ⟨by kernel_rfl, by kernel_rfl⟩, trivial⟩
 intro w h
 exact ⟨by show Ending.returned (.tuple #[.agg #[.int .i64 ((Q3.can x).op), .int .i64 ((Q3.can x).d), .int .i64 ((Q3.can x).a), .int .i64 ((Q3.can x).b), .int .u32 ((Q3.can x).imm)], .int .i64 0]) = _; unfold Q3.decode; rw [hc16, cond_false] <;> rfl, h.ch.bel (fun _ h => h.elim)⟩
def Q6.wd (V : M.V) (p : Int) : Int := (IntKind.wrap .u32 ((IntKind.wrap .u32 ((IntKind.wrap .u32 ((IntKind.wrap .u32 (0 + (IntKind.wrap .u32 (((V.fetch (IntKind.wrap .u32 (p + 0)).toNat).1) * 2 ^ 0)))) + (IntKind.wrap .u32 (((V.fetch (IntKind.wrap .u32 (p + 1)).toNat).1) * 2 ^ 8)))) + (IntKind.wrap .u32 (((V.fetch (IntKind.wrap .u32 (p + 2)).toNat).1) * 2 ^ 16)))) + (IntKind.wrap .u32 (((V.fetch (IntKind.wrap .u32 (p + 3)).toNat).1) * 2 ^ 24))))
def Q6.fetch (V : M.V) (p : Int) : Q.I × Int × Int := (bif ((Int.tmod p 4) != 0) then (⟨0, 0, 0, 0, 0⟩, 7, 0) else (bif (!((V.fetch (IntKind.wrap .u32 (p + 0)).toNat).2)) then (⟨0, 0, 0, 0, 0⟩, 5, (IntKind.wrap .u32 (p + 0))) else (bif (!((V.fetch (IntKind.wrap .u32 (p + 1)).toNat).2)) then (⟨0, 0, 0, 0, 0⟩, 5, (IntKind.wrap .u32 (p + 1))) else (bif (!((V.fetch (IntKind.wrap .u32 (p + 2)).toNat).2)) then (⟨0, 0, 0, 0, 0⟩, 5, (IntKind.wrap .u32 (p + 2))) else (bif (!((V.fetch (IntKind.wrap .u32 (p + 3)).toNat).2)) then (⟨0, 0, 0, 0, 0⟩, 5, (IntKind.wrap .u32 (p + 3))) else (bif (((Q3.decode (Q6.wd V p)).2) != 0) then (⟨0, 0, 0, 0, 0⟩, 7, 0) else (((Q3.decode (Q6.wd V p)).1), 0, 0)))))))
theorem Fetch6_rd {m : Nat} (V : M.V) (p : Int)  : A.Rd Tryz.prog 53 #[.int .u32 p, .pointer (some ⟨m, 0, none⟩)] [R.It m V] (.agg #[.int .i64 (((Q6.fetch V p).1).op), .int .i64 (((Q6.fetch V p).1).d), .int .i64 (((Q6.fetch V p).1).a), .int .i64 (((Q6.fetch V p).1).b), .int .u32 (((Q6.fetch V p).1).imm), .int .i64 ((Q6.fetch V p).2.1), .int .u32 ((Q6.fetch V p).2.2)]) := by
 intro w oo aa hh
 refine E.enter (n := 53) (S := fun _ => False) Tryz.func53 rfl rfl (by kernel_rfl) (A.startY hh) (E.sr (E.G.new (fun g => E.pt g) [E.i 0, E.i 0, E.i 0, E.i 0, E.u 0, E.i 0, E.u 0] 118 (fun w => by kernel_rfl) (by kernel_rfl) (fun g1 => E.To.code (E.C.seq (E.sr (E.op (E.u p) (E.op (E.u (Int.tmod p 4)) (E.op (.bool ((Int.tmod p 4) != 0)) (E.To.code (E.cd ((Int.tmod p 4) != 0) (fun hc2 => ?_) (fun hc2 => ?_)))))))))))
 ·
  refine E.sr (E.vl (.agg #[E.i 7, E.u 0]) (fun w h => E.run_build #[E.i 7, E.u 0] (by kernel_rfl) w) (E.vl (.agg #[E.i 0, E.i 0, E.i 0, E.i 0, E.u 0, E.i 7, E.u 0]) (fun w h => E.run_build #[E.i 0, E.i 0, E.i 0, E.i 0, E.u 0, E.i 7, E.u 0] (by kernel_rfl) w) (E.st 0 [E.i 0, E.i 0, E.i 0, E.i 0, E.u 0, E.i 7, E.u 0] rfl rfl (E.To.code (E.C.ret (E.P.rt (E.To.body (fn := Tryz.f53) [.agg #[E.i 0, E.i 0, E.i 0, E.i 0, E.u 0, E.i 7, E.u 0]] ?_ ?_)))))))
  · exact ⟨⟨by kernel_rfl, _, _, 0, _, rfl, rfl, by kernel_rfl⟩, trivial⟩
  intro w h
  exact ⟨by show Ending.returned (.agg #[.int .i64 0, .int .i64 0, .int .i64 0, .int .i64 0, .int .u32 0, .int .i64 7, .int .u32 0]) = _; unfold Q6.fetch; rw [hc2, cond_true] <;> rfl, h.ch.bel (fun _ h => h.elim)⟩
 refine E.C.skip (E.To.code (E.sr (E.op (E.u 0) (E.To.code (E.C.seq (E.sr (E.op (E.i 0) (E.To.code (E.C.block (E.C.rounds 4 (E.C.seq (E.sr ?_))))))))))))
 refine E.op (E.i 0) (E.op (.bool true) (E.To.code (E.C.condT (by kernel_rfl) (by kernel_rfl) (E.C.skip (E.To.code (E.C.seq (E.C.block (E.sr (E.op (E.pt m) (E.op (E.u p) (E.op (E.i 0) (E.op (E.u 0) ?_))))))))))))
 refine E.op (E.u (IntKind.wrap .u32 (p + 0))) (E.G.call (.agg #[E.u ((Qx.f V p 0).1), E.u (if (Qx.f V p 0).2 then 0 else (IntKind.wrap .u32 (p + 0))), .bool ((Qx.f V p 0).2)]) (fun w h => A.Y.rd [] (J_Fetch (m := m) (V := V) (IntKind.wrap .u32 (p + 0)) (Q.wrap_bd _)) h.x (A.pn [0])) (fun w _ => by kernel_rfl) (by kernel_rfl) (E.G.new (fun g => E.pt g) [E.u 0, E.u 0, .bool false] 80 (fun w => by kernel_rfl) (by kernel_rfl) (fun g3 => E.st 0 [E.u ((Qx.f V p 0).1), E.u (if (Qx.f V p 0).2 then 0 else (IntKind.wrap .u32 (p + 0))), .bool ((Qx.f V p 0).2)] rfl rfl (E.To.code (E.C.seq (E.sr (E.op (.pointer (some ⟨g3, 2, none⟩)) (E.li (.bool ((Qx.f V p 0).2)) 0 rfl rfl (E.op (.bool (!((Qx.f V p 0).2))) (E.To.code (E.cd (!((V.fetch (IntKind.wrap .u32 (p + 0)).toNat).2)) (fun hc4 => ?_) (fun hc4 => ?_))))))))))))
 ·
  refine E.sr (E.op (E.u p) (E.op (E.i 0) (E.op (E.u 0) (E.op (E.u (IntKind.wrap .u32 (p + 0))) (E.vl (.agg #[E.i 5, E.u (IntKind.wrap .u32 (p + 0))]) (fun w h => E.run_build #[E.i 5, E.u (IntKind.wrap .u32 (p + 0))] (by kernel_rfl) w) (E.vl (.agg #[E.i 0, E.i 0, E.i 0, E.i 0, E.u 0, E.i 5, E.u (IntKind.wrap .u32 (p + 0))]) (fun w h => E.run_build #[E.i 0, E.i 0, E.i 0, E.i 0, E.u 0, E.i 5, E.u (IntKind.wrap .u32 (p + 0))] (by kernel_rfl) w) (E.st 1 [E.i 0, E.i 0, E.i 0, E.i 0, E.u 0, E.i 5, E.u (IntKind.wrap .u32 (p + 0))] rfl rfl (E.To.code (E.C.ret (E.P.rt (E.P.rb (E.P.rt (E.P.rt (E.P.rb (E.P.rt (E.To.body (fn := Tryz.f53) [.agg #[E.i 0, E.i 0, E.i 0, E.i 0, E.u 0, E.i 5, E.u (IntKind.wrap .u32 (p + 0))]] ?_ ?_))))))))))))))))
  · exact ⟨⟨by kernel_rfl, _, _, 1, _, rfl, rfl, by kernel_rfl⟩, trivial⟩
  intro w h
  exact ⟨by show Ending.returned (.agg #[.int .i64 0, .int .i64 0, .int .i64 0, .int .i64 0, .int .u32 0, .int .i64 5, .int .u32 (IntKind.wrap .u32 (p + 0))]) = _; unfold Q6.fetch; rw [hc2, cond_false, hc4, cond_true] <;> rfl, h.ch.bel (fun _ h => h.elim)⟩
 refine E.C.skip (E.To.code (E.C.region (E.op (E.u 0) (E.op (E.pt g3) (E.li (E.u ((Qx.f V p 0).1)) 0 rfl rfl (E.op (E.i 0) (E.op (E.i 0) (E.op (.int .u64 0) (E.op (E.u (IntKind.wrap .u32 (((Qx.f V p 0).1) * 2 ^ 0))) (E.op (E.u (IntKind.wrap .u32 (0 + (IntKind.wrap .u32 (((Qx.f V p 0).1) * 2 ^ 0))))) (E.op (E.u (IntKind.wrap .u32 (0 + (IntKind.wrap .u32 (((Qx.f V p 0).1) * 2 ^ 0))))) (E.P.nb (E.To.code ?_)))))))))))))
 refine E.C.region (E.op (E.i 0) (E.op (E.i 1) (E.op (E.i 1) (E.To.rounds 3 (E.wk [(0, E.u p), (1, E.pt m), (4, E.pt g1), (5, E.u (IntKind.wrap .u32 (0 + (IntKind.wrap .u32 (((Qx.f V p 0).1) * 2 ^ 0))))), (6, E.i 1), (7, E.pt g3), (15, E.i 0), (16, .bool true), (17, E.i 0), (18, E.i 1), (19, E.pt m), (20, E.u p), (21, E.i 0), (22, E.u 0), (23, E.u (IntKind.wrap .u32 (p + 0))), (24, .agg #[E.u ((Qx.f V p 0).1), E.u (if (Qx.f V p 0).2 then 0 else (IntKind.wrap .u32 (p + 0))), .bool ((Qx.f V p 0).2)]), (25, .pointer (some ⟨g3, 2, none⟩)), (26, .bool ((Qx.f V p 0).2)), (27, .bool (!((Qx.f V p 0).2))), (34, E.u 0), (35, E.pt g3), (36, E.u ((Qx.f V p 0).1)), (37, E.i 0), (38, E.i 0), (39, .int .u64 0), (40, E.u (IntKind.wrap .u32 (((Qx.f V p 0).1) * 2 ^ 0))), (41, E.u (IntKind.wrap .u32 (0 + (IntKind.wrap .u32 (((Qx.f V p 0).1) * 2 ^ 0)))))] [(g3, [E.u ((Qx.f V p 0).1), E.u (if (Qx.f V p 0).2 then 0 else (IntKind.wrap .u32 (p + 0))), .bool ((Qx.f V p 0).2)]), (g1, [E.i 0, E.i 0, E.i 0, E.i 0, E.u 0, E.i 0, E.u 0])] Nz.sub (E.C.seq (E.sr (E.op (E.i 1) (E.op (.bool true) (E.To.code (E.C.condT (by kernel_rfl) (by kernel_rfl) ?_)))))))))))
 refine E.C.skip (E.To.code (E.C.seq (E.C.block (E.sr (E.op (E.pt m) (E.op (E.u p) (E.op (E.i 1) (E.op (E.u 1) (E.op (E.u (IntKind.wrap .u32 (p + 1))) (E.G.call (.agg #[E.u ((Qx.f V p 1).1), E.u (if (Qx.f V p 1).2 then 0 else (IntKind.wrap .u32 (p + 1))), .bool ((Qx.f V p 1).2)]) (fun w h => A.Y.rd [] (J_Fetch (m := m) (V := V) (IntKind.wrap .u32 (p + 1)) (Q.wrap_bd _)) h.x (A.pn [0])) (fun w _ => by kernel_rfl) (by kernel_rfl) (E.G.new (fun g => E.pt g) [E.u 0, E.u 0, .bool false] 80 (fun w => by kernel_rfl) (by kernel_rfl) (fun g5 => E.st 0 [E.u ((Qx.f V p 1).1), E.u (if (Qx.f V p 1).2 then 0 else (IntKind.wrap .u32 (p + 1))), .bool ((Qx.f V p 1).2)] rfl rfl ?_))))))))))))
 refine E.To.code (E.C.seq (E.sr (E.op (.pointer (some ⟨g5, 2, none⟩)) (E.li (.bool ((Qx.f V p 1).2)) 0 rfl rfl (E.op (.bool (!((Qx.f V p 1).2))) (E.To.code (E.cd (!((V.fetch (IntKind.wrap .u32 (p + 1)).toNat).2)) (fun hc6 => ?_) (fun hc6 => ?_))))))))
 ·
  refine E.sr (E.op (E.u p) (E.op (E.i 1) (E.op (E.u 1) (E.op (E.u (IntKind.wrap .u32 (p + 1))) (E.vl (.agg #[E.i 5, E.u (IntKind.wrap .u32 (p + 1))]) (fun w h => E.run_build #[E.i 5, E.u (IntKind.wrap .u32 (p + 1))] (by kernel_rfl) w) (E.vl (.agg #[E.i 0, E.i 0, E.i 0, E.i 0, E.u 0, E.i 5, E.u (IntKind.wrap .u32 (p + 1))]) (fun w h => E.run_build #[E.i 0, E.i 0, E.i 0, E.i 0, E.u 0, E.i 5, E.u (IntKind.wrap .u32 (p + 1))] (by kernel_rfl) w) (E.st 2 [E.i 0, E.i 0, E.i 0, E.i 0, E.u 0, E.i 5, E.u (IntKind.wrap .u32 (p + 1))] rfl rfl (E.To.code (E.C.ret (E.P.rt (E.P.rb (E.P.rt (E.P.rt (E.P.rb (E.P.rt (E.To.body (fn := Tryz.f53) [.agg #[E.i 0, E.i 0, E.i 0, E.i 0, E.u 0, E.i 5, E.u (IntKind.wrap .u32 (p + 1))]] ?_ ?_))))))))))))))))
  · exact ⟨⟨by kernel_rfl, _, _, 2, _, rfl, rfl, by kernel_rfl⟩, trivial⟩
  intro w h
  exact ⟨by show Ending.returned (.agg #[.int .i64 0, .int .i64 0, .int .i64 0, .int .i64 0, .int .u32 0, .int .i64 5, .int .u32 (IntKind.wrap .u32 (p + 1))]) = _; unfold Q6.fetch; rw [hc2, cond_false, hc4, cond_false, hc6, cond_true] <;> rfl, h.ch.bel (fun _ h => h.elim)⟩
 refine E.C.skip (E.To.code (E.C.region (E.op (E.u (IntKind.wrap .u32 (0 + (IntKind.wrap .u32 (((Qx.f V p 0).1) * 2 ^ 0))))) (E.op (E.pt g5) (E.li (E.u ((Qx.f V p 1).1)) 0 rfl rfl (E.op (E.i 1) (E.op (E.i 8) (E.op (.int .u64 8) (E.op (E.u (IntKind.wrap .u32 (((Qx.f V p 1).1) * 2 ^ 8))) (E.op (E.u (IntKind.wrap .u32 ((IntKind.wrap .u32 (0 + (IntKind.wrap .u32 (((Qx.f V p 0).1) * 2 ^ 0)))) + (IntKind.wrap .u32 (((Qx.f V p 1).1) * 2 ^ 8))))) (E.op (E.u (IntKind.wrap .u32 ((IntKind.wrap .u32 (0 + (IntKind.wrap .u32 (((Qx.f V p 0).1) * 2 ^ 0)))) + (IntKind.wrap .u32 (((Qx.f V p 1).1) * 2 ^ 8))))) (E.P.nb (E.To.code ?_)))))))))))))
 refine E.C.region (E.op (E.i 1) (E.op (E.i 2) (E.op (E.i 2) (E.To.rounds 2 (E.wk [(0, E.u p), (1, E.pt m), (4, E.pt g1), (5, E.u (IntKind.wrap .u32 ((IntKind.wrap .u32 (0 + (IntKind.wrap .u32 (((Qx.f V p 0).1) * 2 ^ 0)))) + (IntKind.wrap .u32 (((Qx.f V p 1).1) * 2 ^ 8))))), (6, E.i 2), (7, E.pt g5), (15, E.i 1), (16, .bool true), (17, E.i 1), (18, E.i 2), (19, E.pt m), (20, E.u p), (21, E.i 1), (22, E.u 1), (23, E.u (IntKind.wrap .u32 (p + 1))), (24, .agg #[E.u ((Qx.f V p 1).1), E.u (if (Qx.f V p 1).2 then 0 else (IntKind.wrap .u32 (p + 1))), .bool ((Qx.f V p 1).2)]), (25, .pointer (some ⟨g5, 2, none⟩)), (26, .bool ((Qx.f V p 1).2)), (27, .bool (!((Qx.f V p 1).2))), (34, E.u (IntKind.wrap .u32 (0 + (IntKind.wrap .u32 (((Qx.f V p 0).1) * 2 ^ 0))))), (35, E.pt g5), (36, E.u ((Qx.f V p 1).1)), (37, E.i 1), (38, E.i 8), (39, .int .u64 8), (40, E.u (IntKind.wrap .u32 (((Qx.f V p 1).1) * 2 ^ 8))), (41, E.u (IntKind.wrap .u32 ((IntKind.wrap .u32 (0 + (IntKind.wrap .u32 (((Qx.f V p 0).1) * 2 ^ 0)))) + (IntKind.wrap .u32 (((Qx.f V p 1).1) * 2 ^ 8)))))] [(g5, [E.u ((Qx.f V p 1).1), E.u (if (Qx.f V p 1).2 then 0 else (IntKind.wrap .u32 (p + 1))), .bool ((Qx.f V p 1).2)]), (g1, [E.i 0, E.i 0, E.i 0, E.i 0, E.u 0, E.i 0, E.u 0])] Nz.sub (E.C.seq (E.sr (E.op (E.i 2) (E.op (.bool true) (E.To.code (E.C.condT (by kernel_rfl) (by kernel_rfl) ?_)))))))))))
 refine E.C.skip (E.To.code (E.C.seq (E.C.block (E.sr (E.op (E.pt m) (E.op (E.u p) (E.op (E.i 2) (E.op (E.u 2) (E.op (E.u (IntKind.wrap .u32 (p + 2))) (E.G.call (.agg #[E.u ((Qx.f V p 2).1), E.u (if (Qx.f V p 2).2 then 0 else (IntKind.wrap .u32 (p + 2))), .bool ((Qx.f V p 2).2)]) (fun w h => A.Y.rd [] (J_Fetch (m := m) (V := V) (IntKind.wrap .u32 (p + 2)) (Q.wrap_bd _)) h.x (A.pn [0])) (fun w _ => by kernel_rfl) (by kernel_rfl) (E.G.new (fun g => E.pt g) [E.u 0, E.u 0, .bool false] 80 (fun w => by kernel_rfl) (by kernel_rfl) (fun g7 => E.st 0 [E.u ((Qx.f V p 2).1), E.u (if (Qx.f V p 2).2 then 0 else (IntKind.wrap .u32 (p + 2))), .bool ((Qx.f V p 2).2)] rfl rfl ?_))))))))))))
 refine E.To.code (E.C.seq (E.sr (E.op (.pointer (some ⟨g7, 2, none⟩)) (E.li (.bool ((Qx.f V p 2).2)) 0 rfl rfl (E.op (.bool (!((Qx.f V p 2).2))) (E.To.code (E.cd (!((V.fetch (IntKind.wrap .u32 (p + 2)).toNat).2)) (fun hc8 => ?_) (fun hc8 => ?_))))))))
 ·
  refine E.sr (E.op (E.u p) (E.op (E.i 2) (E.op (E.u 2) (E.op (E.u (IntKind.wrap .u32 (p + 2))) (E.vl (.agg #[E.i 5, E.u (IntKind.wrap .u32 (p + 2))]) (fun w h => E.run_build #[E.i 5, E.u (IntKind.wrap .u32 (p + 2))] (by kernel_rfl) w) (E.vl (.agg #[E.i 0, E.i 0, E.i 0, E.i 0, E.u 0, E.i 5, E.u (IntKind.wrap .u32 (p + 2))]) (fun w h => E.run_build #[E.i 0, E.i 0, E.i 0, E.i 0, E.u 0, E.i 5, E.u (IntKind.wrap .u32 (p + 2))] (by kernel_rfl) w) (E.st 2 [E.i 0, E.i 0, E.i 0, E.i 0, E.u 0, E.i 5, E.u (IntKind.wrap .u32 (p + 2))] rfl rfl (E.To.code (E.C.ret (E.P.rt (E.P.rb (E.P.rt (E.P.rt (E.P.rb (E.P.rt (E.To.body (fn := Tryz.f53) [.agg #[E.i 0, E.i 0, E.i 0, E.i 0, E.u 0, E.i 5, E.u (IntKind.wrap .u32 (p + 2))]] ?_ ?_))))))))))))))))
  · exact ⟨⟨by kernel_rfl, _, _, 2, _, rfl, rfl, by kernel_rfl⟩, trivial⟩
  intro w h
  exact ⟨by show Ending.returned (.agg #[.int .i64 0, .int .i64 0, .int .i64 0, .int .i64 0, .int .u32 0, .int .i64 5, .int .u32 (IntKind.wrap .u32 (p + 2))]) = _; unfold Q6.fetch; rw [hc2, cond_false, hc4, cond_false, hc6, cond_false, hc8, cond_true] <;> rfl, h.ch.bel (fun _ h => h.elim)⟩
 refine E.C.skip (E.To.code (E.C.region (E.op (E.u (IntKind.wrap .u32 ((IntKind.wrap .u32 (0 + (IntKind.wrap .u32 (((Qx.f V p 0).1) * 2 ^ 0)))) + (IntKind.wrap .u32 (((Qx.f V p 1).1) * 2 ^ 8))))) (E.op (E.pt g7) (E.li (E.u ((Qx.f V p 2).1)) 0 rfl rfl (E.op (E.i 2) (E.op (E.i 16) (E.op (.int .u64 16) (E.op (E.u (IntKind.wrap .u32 (((Qx.f V p 2).1) * 2 ^ 16))) (E.op (E.u (IntKind.wrap .u32 ((IntKind.wrap .u32 ((IntKind.wrap .u32 (0 + (IntKind.wrap .u32 (((Qx.f V p 0).1) * 2 ^ 0)))) + (IntKind.wrap .u32 (((Qx.f V p 1).1) * 2 ^ 8)))) + (IntKind.wrap .u32 (((Qx.f V p 2).1) * 2 ^ 16))))) (E.op (E.u (IntKind.wrap .u32 ((IntKind.wrap .u32 ((IntKind.wrap .u32 (0 + (IntKind.wrap .u32 (((Qx.f V p 0).1) * 2 ^ 0)))) + (IntKind.wrap .u32 (((Qx.f V p 1).1) * 2 ^ 8)))) + (IntKind.wrap .u32 (((Qx.f V p 2).1) * 2 ^ 16))))) (E.P.nb (E.To.code ?_)))))))))))))
 refine E.C.region (E.op (E.i 2) (E.op (E.i 3) (E.op (E.i 3) (E.To.rounds 1 (E.wk [(0, E.u p), (1, E.pt m), (4, E.pt g1), (5, E.u (IntKind.wrap .u32 ((IntKind.wrap .u32 ((IntKind.wrap .u32 (0 + (IntKind.wrap .u32 (((Qx.f V p 0).1) * 2 ^ 0)))) + (IntKind.wrap .u32 (((Qx.f V p 1).1) * 2 ^ 8)))) + (IntKind.wrap .u32 (((Qx.f V p 2).1) * 2 ^ 16))))), (6, E.i 3), (7, E.pt g7), (15, E.i 2), (16, .bool true), (17, E.i 2), (18, E.i 3), (19, E.pt m), (20, E.u p), (21, E.i 2), (22, E.u 2), (23, E.u (IntKind.wrap .u32 (p + 2))), (24, .agg #[E.u ((Qx.f V p 2).1), E.u (if (Qx.f V p 2).2 then 0 else (IntKind.wrap .u32 (p + 2))), .bool ((Qx.f V p 2).2)]), (25, .pointer (some ⟨g7, 2, none⟩)), (26, .bool ((Qx.f V p 2).2)), (27, .bool (!((Qx.f V p 2).2))), (34, E.u (IntKind.wrap .u32 ((IntKind.wrap .u32 (0 + (IntKind.wrap .u32 (((Qx.f V p 0).1) * 2 ^ 0)))) + (IntKind.wrap .u32 (((Qx.f V p 1).1) * 2 ^ 8))))), (35, E.pt g7), (36, E.u ((Qx.f V p 2).1)), (37, E.i 2), (38, E.i 16), (39, .int .u64 16), (40, E.u (IntKind.wrap .u32 (((Qx.f V p 2).1) * 2 ^ 16))), (41, E.u (IntKind.wrap .u32 ((IntKind.wrap .u32 ((IntKind.wrap .u32 (0 + (IntKind.wrap .u32 (((Qx.f V p 0).1) * 2 ^ 0)))) + (IntKind.wrap .u32 (((Qx.f V p 1).1) * 2 ^ 8)))) + (IntKind.wrap .u32 (((Qx.f V p 2).1) * 2 ^ 16)))))] [(g7, [E.u ((Qx.f V p 2).1), E.u (if (Qx.f V p 2).2 then 0 else (IntKind.wrap .u32 (p + 2))), .bool ((Qx.f V p 2).2)]), (g1, [E.i 0, E.i 0, E.i 0, E.i 0, E.u 0, E.i 0, E.u 0])] Nz.sub (E.C.seq (E.sr (E.op (E.i 3) (E.op (.bool true) (E.To.code (E.C.condT (by kernel_rfl) (by kernel_rfl) ?_)))))))))))
 refine E.C.skip (E.To.code (E.C.seq (E.C.block (E.sr (E.op (E.pt m) (E.op (E.u p) (E.op (E.i 3) (E.op (E.u 3) (E.op (E.u (IntKind.wrap .u32 (p + 3))) (E.G.call (.agg #[E.u ((Qx.f V p 3).1), E.u (if (Qx.f V p 3).2 then 0 else (IntKind.wrap .u32 (p + 3))), .bool ((Qx.f V p 3).2)]) (fun w h => A.Y.rd [] (J_Fetch (m := m) (V := V) (IntKind.wrap .u32 (p + 3)) (Q.wrap_bd _)) h.x (A.pn [0])) (fun w _ => by kernel_rfl) (by kernel_rfl) (E.G.new (fun g => E.pt g) [E.u 0, E.u 0, .bool false] 80 (fun w => by kernel_rfl) (by kernel_rfl) (fun g9 => E.st 0 [E.u ((Qx.f V p 3).1), E.u (if (Qx.f V p 3).2 then 0 else (IntKind.wrap .u32 (p + 3))), .bool ((Qx.f V p 3).2)] rfl rfl ?_))))))))))))
 refine E.To.code (E.C.seq (E.sr (E.op (.pointer (some ⟨g9, 2, none⟩)) (E.li (.bool ((Qx.f V p 3).2)) 0 rfl rfl (E.op (.bool (!((Qx.f V p 3).2))) (E.To.code (E.cd (!((V.fetch (IntKind.wrap .u32 (p + 3)).toNat).2)) (fun hc10 => ?_) (fun hc10 => ?_))))))))
 ·
  refine E.sr (E.op (E.u p) (E.op (E.i 3) (E.op (E.u 3) (E.op (E.u (IntKind.wrap .u32 (p + 3))) (E.vl (.agg #[E.i 5, E.u (IntKind.wrap .u32 (p + 3))]) (fun w h => E.run_build #[E.i 5, E.u (IntKind.wrap .u32 (p + 3))] (by kernel_rfl) w) (E.vl (.agg #[E.i 0, E.i 0, E.i 0, E.i 0, E.u 0, E.i 5, E.u (IntKind.wrap .u32 (p + 3))]) (fun w h => E.run_build #[E.i 0, E.i 0, E.i 0, E.i 0, E.u 0, E.i 5, E.u (IntKind.wrap .u32 (p + 3))] (by kernel_rfl) w) (E.st 2 [E.i 0, E.i 0, E.i 0, E.i 0, E.u 0, E.i 5, E.u (IntKind.wrap .u32 (p + 3))] rfl rfl (E.To.code (E.C.ret (E.P.rt (E.P.rb (E.P.rt (E.P.rt (E.P.rb (E.P.rt (E.To.body (fn := Tryz.f53) [.agg #[E.i 0, E.i 0, E.i 0, E.i 0, E.u 0, E.i 5, E.u (IntKind.wrap .u32 (p + 3))]] ?_ ?_))))))))))))))))
  · exact ⟨⟨by kernel_rfl, _, _, 2, _, rfl, rfl, by kernel_rfl⟩, trivial⟩
  intro w h
  exact ⟨by show Ending.returned (.agg #[.int .i64 0, .int .i64 0, .int .i64 0, .int .i64 0, .int .u32 0, .int .i64 5, .int .u32 (IntKind.wrap .u32 (p + 3))]) = _; unfold Q6.fetch; rw [hc2, cond_false, hc4, cond_false, hc6, cond_false, hc8, cond_false, hc10, cond_true] <;> rfl, h.ch.bel (fun _ h => h.elim)⟩
 refine E.C.skip (E.To.code (E.C.region (E.op (E.u (IntKind.wrap .u32 ((IntKind.wrap .u32 ((IntKind.wrap .u32 (0 + (IntKind.wrap .u32 (((Qx.f V p 0).1) * 2 ^ 0)))) + (IntKind.wrap .u32 (((Qx.f V p 1).1) * 2 ^ 8)))) + (IntKind.wrap .u32 (((Qx.f V p 2).1) * 2 ^ 16))))) (E.op (E.pt g9) (E.li (E.u ((Qx.f V p 3).1)) 0 rfl rfl (E.op (E.i 3) (E.op (E.i 24) (E.op (.int .u64 24) (E.op (E.u (IntKind.wrap .u32 (((Qx.f V p 3).1) * 2 ^ 24))) (E.op (E.u (IntKind.wrap .u32 ((IntKind.wrap .u32 ((IntKind.wrap .u32 ((IntKind.wrap .u32 (0 + (IntKind.wrap .u32 (((Qx.f V p 0).1) * 2 ^ 0)))) + (IntKind.wrap .u32 (((Qx.f V p 1).1) * 2 ^ 8)))) + (IntKind.wrap .u32 (((Qx.f V p 2).1) * 2 ^ 16)))) + (IntKind.wrap .u32 (((Qx.f V p 3).1) * 2 ^ 24))))) (E.op (E.u (IntKind.wrap .u32 ((IntKind.wrap .u32 ((IntKind.wrap .u32 ((IntKind.wrap .u32 (0 + (IntKind.wrap .u32 (((Qx.f V p 0).1) * 2 ^ 0)))) + (IntKind.wrap .u32 (((Qx.f V p 1).1) * 2 ^ 8)))) + (IntKind.wrap .u32 (((Qx.f V p 2).1) * 2 ^ 16)))) + (IntKind.wrap .u32 (((Qx.f V p 3).1) * 2 ^ 24))))) (E.P.nb (E.To.code ?_)))))))))))))
 refine E.C.region (E.op (E.i 3) (E.op (E.i 4) (E.op (E.i 4) (E.To.rounds 0 (E.wk [(0, E.u p), (1, E.pt m), (4, E.pt g1), (5, E.u (IntKind.wrap .u32 ((IntKind.wrap .u32 ((IntKind.wrap .u32 ((IntKind.wrap .u32 (0 + (IntKind.wrap .u32 (((Qx.f V p 0).1) * 2 ^ 0)))) + (IntKind.wrap .u32 (((Qx.f V p 1).1) * 2 ^ 8)))) + (IntKind.wrap .u32 (((Qx.f V p 2).1) * 2 ^ 16)))) + (IntKind.wrap .u32 (((Qx.f V p 3).1) * 2 ^ 24))))), (6, E.i 4), (7, E.pt g9), (15, E.i 3), (16, .bool true), (17, E.i 3), (18, E.i 4), (19, E.pt m), (20, E.u p), (21, E.i 3), (22, E.u 3), (23, E.u (IntKind.wrap .u32 (p + 3))), (24, .agg #[E.u ((Qx.f V p 3).1), E.u (if (Qx.f V p 3).2 then 0 else (IntKind.wrap .u32 (p + 3))), .bool ((Qx.f V p 3).2)]), (25, .pointer (some ⟨g9, 2, none⟩)), (26, .bool ((Qx.f V p 3).2)), (27, .bool (!((Qx.f V p 3).2))), (34, E.u (IntKind.wrap .u32 ((IntKind.wrap .u32 ((IntKind.wrap .u32 (0 + (IntKind.wrap .u32 (((Qx.f V p 0).1) * 2 ^ 0)))) + (IntKind.wrap .u32 (((Qx.f V p 1).1) * 2 ^ 8)))) + (IntKind.wrap .u32 (((Qx.f V p 2).1) * 2 ^ 16))))), (35, E.pt g9), (36, E.u ((Qx.f V p 3).1)), (37, E.i 3), (38, E.i 24), (39, .int .u64 24), (40, E.u (IntKind.wrap .u32 (((Qx.f V p 3).1) * 2 ^ 24))), (41, E.u (IntKind.wrap .u32 ((IntKind.wrap .u32 ((IntKind.wrap .u32 ((IntKind.wrap .u32 (0 + (IntKind.wrap .u32 (((Qx.f V p 0).1) * 2 ^ 0)))) + (IntKind.wrap .u32 (((Qx.f V p 1).1) * 2 ^ 8)))) + (IntKind.wrap .u32 (((Qx.f V p 2).1) * 2 ^ 16)))) + (IntKind.wrap .u32 (((Qx.f V p 3).1) * 2 ^ 24)))))] [(g9, [E.u ((Qx.f V p 3).1), E.u (if (Qx.f V p 3).2 then 0 else (IntKind.wrap .u32 (p + 3))), .bool ((Qx.f V p 3).2)]), (g1, [E.i 0, E.i 0, E.i 0, E.i 0, E.u 0, E.i 0, E.u 0])] Nz.sub (E.C.seq (E.sr (E.op (E.i 4) (E.op (.bool false) (E.To.code (E.C.condF (by kernel_rfl) (by kernel_rfl) ?_)))))))))))
 refine E.C.exit (E.P.et (E.P.et (E.P.eh (E.To.code (E.wk [(4, E.pt g1), (5, E.u (IntKind.wrap .u32 ((IntKind.wrap .u32 ((IntKind.wrap .u32 ((IntKind.wrap .u32 (0 + (IntKind.wrap .u32 (((Qx.f V p 0).1) * 2 ^ 0)))) + (IntKind.wrap .u32 (((Qx.f V p 1).1) * 2 ^ 8)))) + (IntKind.wrap .u32 (((Qx.f V p 2).1) * 2 ^ 16)))) + (IntKind.wrap .u32 (((Qx.f V p 3).1) * 2 ^ 24)))))] [(g1, [E.i 0, E.i 0, E.i 0, E.i 0, E.u 0, E.i 0, E.u 0])] Nz.sub (E.sr (E.op (E.u (Q6.wd V p)) (E.G.call (.tuple #[.agg #[E.i (((Q3.decode (Q6.wd V p)).1).op), E.i (((Q3.decode (Q6.wd V p)).1).d), E.i (((Q3.decode (Q6.wd V p)).1).a), E.i (((Q3.decode (Q6.wd V p)).1).b), E.u (((Q3.decode (Q6.wd V p)).1).imm)], E.i ((Q3.decode (Q6.wd V p)).2)]) (fun w h => Decode3_any (Q6.wd V p) (Q.wrap_bd _) w) (fun w _ => by kernel_rfl) (by kernel_rfl) (E.op (.tuple #[.agg #[E.i (((Q3.decode (Q6.wd V p)).1).op), E.i (((Q3.decode (Q6.wd V p)).1).d), E.i (((Q3.decode (Q6.wd V p)).1).a), E.i (((Q3.decode (Q6.wd V p)).1).b), E.u (((Q3.decode (Q6.wd V p)).1).imm)], E.i ((Q3.decode (Q6.wd V p)).2)]) (E.op (.agg #[E.i (((Q3.decode (Q6.wd V p)).1).op), E.i (((Q3.decode (Q6.wd V p)).1).d), E.i (((Q3.decode (Q6.wd V p)).1).a), E.i (((Q3.decode (Q6.wd V p)).1).b), E.u (((Q3.decode (Q6.wd V p)).1).imm)]) (E.op (E.i ((Q3.decode (Q6.wd V p)).2)) (E.G.new (fun g => E.pt g) [E.i 0, E.i 0, E.i 0, E.i 0, E.u 0] 71 (fun w => by kernel_rfl) (by kernel_rfl) (fun g11 => E.st 0 [E.i (((Q3.decode (Q6.wd V p)).1).op), E.i (((Q3.decode (Q6.wd V p)).1).d), E.i (((Q3.decode (Q6.wd V p)).1).a), E.i (((Q3.decode (Q6.wd V p)).1).b), E.u (((Q3.decode (Q6.wd V p)).1).imm)] rfl rfl (E.op (E.i ((Q3.decode (Q6.wd V p)).2)) (E.To.code ?_)))))))))))))))
 refine E.C.seq (E.sr (E.op (E.i ((Q3.decode (Q6.wd V p)).2)) (E.op (.bool (((Q3.decode (Q6.wd V p)).2) != 0)) (E.To.code (E.wk [(4, E.pt g1), (8, E.pt g11), (48, .bool (((Q3.decode (Q6.wd V p)).2) != 0))] [(g11, [E.i (((Q3.decode (Q6.wd V p)).1).op), E.i (((Q3.decode (Q6.wd V p)).1).d), E.i (((Q3.decode (Q6.wd V p)).1).a), E.i (((Q3.decode (Q6.wd V p)).1).b), E.u (((Q3.decode (Q6.wd V p)).1).imm)]), (g1, [E.i 0, E.i 0, E.i 0, E.i 0, E.u 0, E.i 0, E.u 0])] Nz.sub (E.cd (((Q3.decode (Q6.wd V p)).2) != 0) (fun hc12 => ?_) (fun hc12 => ?_)))))))
 ·
  refine E.sr (E.vl (.agg #[E.i 7, E.u 0]) (fun w h => E.run_build #[E.i 7, E.u 0] (by kernel_rfl) w) (E.vl (.agg #[E.i 0, E.i 0, E.i 0, E.i 0, E.u 0, E.i 7, E.u 0]) (fun w h => E.run_build #[E.i 0, E.i 0, E.i 0, E.i 0, E.u 0, E.i 7, E.u 0] (by kernel_rfl) w) (E.st 1 [E.i 0, E.i 0, E.i 0, E.i 0, E.u 0, E.i 7, E.u 0] rfl rfl (E.To.code (E.C.ret (E.P.rt (E.To.body (fn := Tryz.f53) [.agg #[E.i 0, E.i 0, E.i 0, E.i 0, E.u 0, E.i 7, E.u 0]] ?_ ?_)))))))
  · exact ⟨⟨by kernel_rfl, _, _, 1, _, rfl, rfl, by kernel_rfl⟩, trivial⟩
  intro w h
  exact ⟨by show Ending.returned (.agg #[.int .i64 0, .int .i64 0, .int .i64 0, .int .i64 0, .int .u32 0, .int .i64 7, .int .u32 0]) = _; unfold Q6.fetch; rw [hc2, cond_false, hc4, cond_false, hc6, cond_false, hc8, cond_false, hc10, cond_false, hc12, cond_true] <;> rfl, h.ch.bel (fun _ h => h.elim)⟩
 refine E.C.skip (E.To.code (E.sr (E.li (.agg #[E.i (((Q3.decode (Q6.wd V p)).1).op), E.i (((Q3.decode (Q6.wd V p)).1).d), E.i (((Q3.decode (Q6.wd V p)).1).a), E.i (((Q3.decode (Q6.wd V p)).1).b), E.u (((Q3.decode (Q6.wd V p)).1).imm)]) 0 rfl rfl (E.vl (.agg #[E.i (((Q3.decode (Q6.wd V p)).1).op), E.i (((Q3.decode (Q6.wd V p)).1).d), E.i (((Q3.decode (Q6.wd V p)).1).a), E.i (((Q3.decode (Q6.wd V p)).1).b), E.u (((Q3.decode (Q6.wd V p)).1).imm), E.i 0, E.u 0]) (fun w h => E.run_build #[E.i (((Q3.decode (Q6.wd V p)).1).op), E.i (((Q3.decode (Q6.wd V p)).1).d), E.i (((Q3.decode (Q6.wd V p)).1).a), E.i (((Q3.decode (Q6.wd V p)).1).b), E.u (((Q3.decode (Q6.wd V p)).1).imm), E.i 0, E.u 0] (by kernel_rfl) w) (E.st 1 [E.i (((Q3.decode (Q6.wd V p)).1).op), E.i (((Q3.decode (Q6.wd V p)).1).d), E.i (((Q3.decode (Q6.wd V p)).1).a), E.i (((Q3.decode (Q6.wd V p)).1).b), E.u (((Q3.decode (Q6.wd V p)).1).imm), E.i 0, E.u 0] rfl rfl (E.To.code (E.C.ret (E.To.body (fn := Tryz.f53) [.agg #[E.i (((Q3.decode (Q6.wd V p)).1).op), E.i (((Q3.decode (Q6.wd V p)).1).d), E.i (((Q3.decode (Q6.wd V p)).1).a), E.i (((Q3.decode (Q6.wd V p)).1).b), E.u (((Q3.decode (Q6.wd V p)).1).imm), E.i 0, E.u 0]] ?_ ?_))))))))
 · exact ⟨⟨by kernel_rfl, _, _, 1, _, rfl, rfl, by kernel_rfl⟩, trivial⟩
 intro w h
 exact ⟨by show Ending.returned (.agg #[.int .i64 (((Q3.decode (Q6.wd V p)).1).op), .int .i64 (((Q3.decode (Q6.wd V p)).1).d), .int .i64 (((Q3.decode (Q6.wd V p)).1).a), .int .i64 (((Q3.decode (Q6.wd V p)).1).b), .int .u32 (((Q3.decode (Q6.wd V p)).1).imm), .int .i64 0, .int .u32 0]) = _; unfold Q6.fetch; rw [hc2, cond_false, hc4, cond_false, hc6, cond_false, hc8, cond_false, hc10, cond_false, hc12, cond_false] <;> rfl, h.ch.bel (fun _ h => h.elim)⟩
/-- A word lies in the fetch image of a page that may be executed. -/
def Q.holds (V : M.V) (p : Nat) (w : Int) : Prop := ∀ k, k < 4 → V.fetch (p + k) = (W.byt (W.put w 4).data.toList k, true)
theorem M.poke_f (V : M.V) (a : Nat) (s : ByteArray) : ∀ c, (V.poke a s c).n = V.n ∧ (V.poke a s c).coh = V.coh ∧ (V.poke a s c).r = V.r
  | 0 => ⟨rfl, rfl, rfl⟩
  | c + 1 => by
    have h := M.poke_f V a s c
    rw [M.V.poke, M.V.set]
    split
    · exact h
    · exact h
/-- A machine of one page that may be executed. -/
structure Q.one (V : M.V) : Prop where
  n : V.n = 1
  coh : V.coh = false
  r : V.r 0 = 7
theorem Q.one.poke {V : M.V} (h : Q.one V) (a : Nat) (s : ByteArray) (c : Nat) : Q.one (V.poke a s c) :=
  ⟨(M.poke_f V a s c).1.trans h.n, (M.poke_f V a s c).2.1.trans h.coh, by rw [(M.poke_f V a s c).2.2]; exact h.r⟩
theorem Q.one.sync {V : M.V} (h : Q.one V) : Q.one (V.sync 0) ∧ (∀ x, (V.sync 0).i 0 x = V.d 0 x) ∧ (∀ x, (V.sync 0).d 0 x = V.d 0 x) := by
  unfold M.V.sync
  rw [if_pos ⟨by rw [h.n]; decide, h.coh⟩]
  exact ⟨⟨h.n, h.coh, h.r⟩, fun x => (show (if (0 : Nat) = 0 then V.d 0 x else V.i 0 x) = V.d 0 x from if_pos rfl), fun _ => rfl⟩
theorem Q.one.fetch {V : M.V} (h : Q.one V) {x : Nat} (hx : x < 256) : V.fetch x = (V.i 0 x, true) := by
  have e : x / 256 = 0 := by omega
  have e2 : x % 256 = x := by omega
  have ok : V.ok x 4 = true := by unfold M.V.ok; rw [e, h.n, h.r]; decide
  unfold M.V.fetch
  rw [if_pos ok]
  unfold M.V.code
  rw [if_pos (by rw [e, h.n]; decide), e, e2]
theorem Q.up_same {f : Nat → Int} (h : f 0 = 0) : Q.up f 0 0 = f := by
  funext k
  unfold Q.up
  by_cases e : k = 0
  · rw [if_pos e, e, h]
  · rw [if_neg e]
def Q3.okF (F : Q3.Fm) : Bool := (decide (F.bits = 22) || decide (F.bits = 18) || decide (F.bits = 0)) && (decide (F.most = 0) || decide (F.bits = 18) && !F.sg) && (!decide (F.bits = 0) || !F.sg)
theorem Q3.okF_tab : ∀ k : Fin 64, Q3.okF (Q3.of ((k.val : Nat) : Int)) = true := by decide +kernel
theorem Q3.okF_of {x : Int} (h : (Q3.of x).is = true) : Q3.okF (Q3.of x) = true := by
  have hr := Q3.op_rng h
  obtain ⟨n, rfl⟩ := Int.eq_ofNat_of_zero_le hr.1
  exact Q3.okF_tab ⟨n, by omega⟩
def Q3.mi (F : Q3.Fm) (y : Int) : Int := (bif (decide ((F.most) > 0)) then (bif F.sg then (W.sign (IntKind.wrap .u32 (y % (F.most + 1))) ((F.bits : Nat) : Int)) else (IntKind.wrap .u32 (y % (F.most + 1)))) else (bif (decide (((F.bits : Nat) : Int) > 0)) then (bif F.sg then (W.sign (IntKind.wrap .u32 (y % (Q3.two F.bits))) ((F.bits : Nat) : Int)) else (IntKind.wrap .u32 (y % (Q3.two F.bits)))) else (bif F.sg then (W.sign 0 ((F.bits : Nat) : Int)) else 0)))
theorem Q3.made_eq (a b c x y : Int) : Q3.made a b c x y = ⟨(Q3.opAt (a % 39)), (bif (Q3.of (Q3.opAt (a % 39))).d then (b % 16) else 0), (bif (Q3.of (Q3.opAt (a % 39))).a then (c % 16) else 0), (bif (Q3.of (Q3.opAt (a % 39))).b then (x % 16) else 0), Q3.mi (Q3.of (Q3.opAt (a % 39))) y⟩ := by
  unfold Q3.made Q3.mi
  generalize Q3.of (Q3.opAt (a % 39)) = F
  cases decide (F.most > 0) <;> cases decide (((F.bits : Nat) : Int) > 0) <;> rfl
theorem Q3.mi_bd (F : Q3.Fm) (y : Int) : 0 ≤ Q3.mi F y ∧ Q3.mi F y < 4294967296 := by
  unfold Q3.mi
  exact Q.bif_bd (Q.bif_bd (Q.sign_bd (Q.wrap_bd _) _) (Q.wrap_bd _)) (Q.bif_bd (Q.bif_bd (Q.sign_bd (Q.wrap_bd _) _) (Q.wrap_bd _)) (Q.bif_bd (Q.sign_bd (by decide) _) (by decide)))
theorem Q3.made_bd (a b c x y : Int) : 0 ≤ (Q3.made a b c x y).imm ∧ (Q3.made a b c x y).imm < 4294967296 := by
  rw [Q3.made_eq]; exact Q3.mi_bd _ _
theorem Q3.no_tab : ∀ k : Fin 64, (Q3.of ((k.val : Nat) : Int)).is = false → (Q.shf k.val).kn = false := by decide +kernel
theorem Q3.no_kn {x : Int} (hx : 0 ≤ x ∧ x < 64) (h : (Q3.of x).is = false) : (Q.of x).kn = false := by
  obtain ⟨n, rfl⟩ := Int.eq_ofNat_of_zero_le hx.1
  rw [Q.of_lt hx]
  exact Q3.no_tab ⟨n, by omega⟩ h
theorem Q.imm_conv {F : Q3.Fm} {s : Q.Sh} (hb : s.bits = F.bits) (hk : s.kind = Q3.kd F) (hm : s.most = F.most) (hc : F.bits = 22 ∨ F.bits = 18 ∨ F.bits = 0) {n : Int} (hn : 0 ≤ n ∧ n < 4294967296) (h : Q.immediate s n = true) : Q3.iimm F n = true := by
  obtain ⟨is, d, a, b, sg, bits, most⟩ := F
  obtain ⟨kn, d2, a2, b2, kind, bits2, most2⟩ := s
  simp only at hb hk hm hc
  subst hb hm
  unfold Q3.iimm
  unfold Q.immediate at h
  rcases hc with rfl | rfl | rfl <;> cases sg <;> simp [Q3.kd] at hk <;> subst hk <;> simp at h ⊢
  all_goals first
    | exact h
    | (split at h
       · rename_i hp; rw [if_pos hp]; exact h
       · rename_i hp
         rw [if_neg hp]
         rw [Int.fdiv_eq_ediv_of_nonneg _ (by decide)] at h
         rw [Q.wr]; omega)
theorem Q3.valid_of {i : Q.I} (hn : 0 ≤ i.imm ∧ i.imm < 4294967296) (his : (Q3.of i.op).is = true) (h : Q.valid i = true) : Q3.valid i = true := by
  obtain ⟨tk, td, ta, tb, tbits, tkind, tmost, tc⟩ := Q3.of_same his
  unfold Q.valid at h
  simp only [Bool.and_eq_true] at h
  obtain ⟨⟨⟨⟨hk, hd⟩, ha⟩, hb⟩, hi⟩ := h
  rw [td] at hd; rw [ta] at ha; rw [tb] at hb
  have hi' := Q.imm_conv tbits tkind tmost (by rcases tc with ⟨e, _⟩ | ⟨e, _⟩ | e <;> simp [e]) hn hi
  have f : ∀ n u, Q3.reg n u = Q.fits n u := fun _ _ => rfl
  unfold Q3.valid
  show (bif (!((Q3.of i.op).is)) then false else (bif (((!(Q3.reg i.d ((Q3.of i.op).d))) || (!(Q3.reg i.a ((Q3.of i.op).a)))) || (!(Q3.reg i.b ((Q3.of i.op).b)))) then false else Q3.iimm (Q3.of i.op) i.imm)) = true
  rw [f, f, f, his, hd, ha, hb, hi']; rfl
theorem Q3.dop_is {x : Int} (hx : 0 ≤ x ∧ x < 4294967296) : Q3.dop x = x / 67108864 ∧ Q.dop x = x / 67108864 := by
  constructor
  · unfold Q3.dop
    rw [Int.tdiv_eq_ediv_of_nonneg hx.1, Q.wr, IntWalk.i64_in _ (by omega)]; omega
  · show IntKind.wrap .i64 (Int.fdiv x 67108864) = _
    rw [Int.fdiv_eq_ediv_of_nonneg _ (by decide), IntWalk.i64_in _ (by omega)]
theorem Q3.fd_is {x : Int} (hx : 0 ≤ x ∧ x < 4294967296) {n : Int} {m : Nat} (hn : (2 : Int) ^ (min m 32) = n) (h0 : 0 < n) : Q3.fd x n = Q.field x true m := by
  have hd : 0 ≤ x / n ∧ x / n < 4294967296 := ⟨Int.ediv_nonneg hx.1 (by omega), Int.lt_of_le_of_lt (Int.ediv_le_self _ hx.1) hx.2⟩
  unfold Q3.fd Q.field
  rw [hn, Int.tdiv_eq_ediv_of_nonneg hx.1, Int.fdiv_eq_ediv_of_nonneg _ (by omega), Q.wr, Int.emod_eq_of_lt hd.1 hd.2]; rfl
theorem Q3.fd_of {x : Int} (hx : 0 ≤ x ∧ x < 4294967296) {n : Int} {m : Nat} (hn : (2 : Int) ^ (min m 32) = n) (h0 : 0 < n) (u : Bool) : (bif u then Q3.fd x n else 0) = Q.field x u m := by
  cases u
  · rfl
  · exact Q3.fd_is hx hn h0
theorem Q.dimm_is {x : Int} (hx : 0 ≤ x ∧ x < 4294967296) {b : Nat} (hb : (Q.of (Q.dop x)).bits = b) (hc : b = 22 ∨ b = 18 ∨ b = 0) : Q.dimm x = (bif decide (((b : Nat) : Int) > 0) then Int.tmod x (IntKind.wrap .u32 (1 * 2 ^ (min b 32))) else 0) := by
  unfold Q.dimm
  rw [hb]
  rcases hc with rfl | rfl | rfl
  · show bits .and .u32 x 4194303 = Int.tmod x 4194304
    rw [Int.tmod_eq_emod_of_nonneg hx.1]
    exact W.and_mask 22 (by decide) _ hx.1 hx.2
  · show bits .and .u32 x 262143 = Int.tmod x 262144
    rw [Int.tmod_eq_emod_of_nonneg hx.1]
    exact W.and_mask 18 (by decide) _ hx.1 hx.2
  · show bits .and .u32 x 0 = 0
    have h := W.and_mask 0 (by decide) x hx.1 hx.2
    have e : bits .and .u32 x 0 = x % 1 := h
    rw [e]; omega
theorem Q3.can_is {x : Int} (hx : 0 ≤ x ∧ x < 4294967296) (his : (Q3.of (Q.dop x)).is = true) : Q3.can x = (bif (Q.of (Q.dop x)).kind == 1 then Q.c1 x else Q.c0 x) := by
  obtain ⟨tk, td, ta, tb, tbits, tkind, tmost, tc⟩ := Q3.of_same his
  obtain ⟨e1, e2⟩ := Q3.dop_is hx
  have ed : Q3.dop x = Q.dop x := e1.trans e2.symm
  have hc : (Q3.of (Q.dop x)).bits = 22 ∨ (Q3.of (Q.dop x)).bits = 18 ∨ (Q3.of (Q.dop x)).bits = 0 := by rcases tc with ⟨e, _⟩ | ⟨e, _⟩ | e <;> simp [e]
  have hi := Q.dimm_is hx tbits hc
  have hok := Q3.okF_of his
  unfold Q3.can
  rw [ed, Q3.fd_of hx (m := 22) (by decide) (by decide), Q3.fd_of hx (m := 18) (by decide) (by decide), Q3.fd_of hx (m := 14) (by decide) (by decide), ← hi, ← td, ← ta, ← tb, ← tbits, tkind]
  cases hs : (Q3.of (Q.dop x)).sg with
  | true =>
    have : (Q3.kd (Q3.of (Q.dop x)) == 1) = true := by
      have hb : (Q3.of (Q.dop x)).bits ≠ 0 := fun hz => by
        simp only [Q3.okF, Bool.and_eq_true, Bool.or_eq_true, decide_eq_true_eq, Bool.not_eq_true'] at hok
        have := hok.2
        rw [hs, hz] at this; simp at this
      unfold Q3.kd; rw [if_neg hb, hs]; rfl
    rw [this, cond_true]; rfl
  | false =>
    have : (Q3.kd (Q3.of (Q.dop x)) == 1) = false := by
      unfold Q3.kd; rw [hs]; split <;> rfl
    rw [this, cond_false]; rfl
theorem Q3.enc_no {i : Q.I} (h : Q3.valid i = false) : (Q3.encode i).2 = 12 := by unfold Q3.encode; rw [h]; rfl
theorem Q.enc_no {i : Q.I} (h : Q.valid i = false) : (Q.encode i).2 = 12 := by unfold Q.encode; rw [h]; rfl
/-- Both decode alike. -/
theorem Q3.decode_eq {x : Int} (hx : 0 ≤ x ∧ x < 4294967296) : Q3.decode x = Q.decode x := by
  obtain ⟨e1, e2⟩ := Q3.dop_is hx
  have ed : Q3.dop x = Q.dop x := e1.trans e2.symm
  have hr : 0 ≤ Q.dop x ∧ Q.dop x < 64 := by rw [e2]; omega
  have qd : Q.decode x = (bif ((((Q.encode (bif (Q.of (Q.dop x)).kind == 1 then Q.c1 x else Q.c0 x)).2) != 0) || (((Q.encode (bif (Q.of (Q.dop x)).kind == 1 then Q.c1 x else Q.c0 x)).1) != x)) then (⟨0, 0, 0, 0, 0⟩, 12) else ((bif (Q.of (Q.dop x)).kind == 1 then Q.c1 x else Q.c0 x), 0)) := by
    unfold Q.decode
    cases ((Q.of (Q.dop x)).kind == 1) <;> rfl
  rw [qd]
  cases his : (Q3.of (Q.dop x)).is with
  | true =>
    have hcan := Q3.can_is hx his
    rw [← hcan]
    have hop : (Q3.can x).op = Q.dop x := ed
    have hb := Q3.can_bd hx
    unfold Q3.decode
    cases hv : Q3.valid (Q3.can x) with
    | true => rw [(Q3.valid_enc hb hv).2.1]
    | false =>
      have hq : Q.valid (Q3.can x) = false := by
        cases hq : Q.valid (Q3.can x) with
        | false => rfl
        | true => rw [Q3.valid_of hb (by rw [hop]; exact his) hq] at hv; cases hv
      rw [Q3.enc_no hv, Q.enc_no hq]; rfl
  | false =>
    have h3 : Q3.valid (Q3.can x) = false := by
      unfold Q3.valid
      have : (Q3.of (Q3.can x).op).is = false := by show (Q3.of (Q3.dop x)).is = false; rw [ed]; exact his
      rw [this]; rfl
    have hk := Q3.no_kn hr his
    have hq : ∀ c : Q.I, c.op = Q.dop x → Q.valid c = false := fun c hc => by
      unfold Q.valid; rw [hc, hk]; rfl
    unfold Q3.decode
    rw [Q3.enc_no h3, Q.enc_no (hq _ (by cases ((Q.of (Q.dop x)).kind == 1) <;> rfl))]; rfl
theorem Q.decode_err {x : Int} (h : ((Q.decode x).2 != 0) = true) : (Q.decode x).1 = ⟨0, 0, 0, 0, 0⟩ := by
  unfold Q.decode at h ⊢
  revert h
  have key : ∀ (c : Bool) (i : Q.I), ((bif c then ((⟨0, 0, 0, 0, 0⟩ : Q.I), (12 : Int)) else (i, 0)).2 != 0) = true → (bif c then ((⟨0, 0, 0, 0, 0⟩ : Q.I), (12 : Int)) else (i, 0)).1 = ⟨0, 0, 0, 0, 0⟩ := fun c i => by
    cases c
    · intro h; cases h
    · intro _; rfl
  cases ((Q.of (Q.dop x)).kind == 1)
  · exact key _ _
  · exact key _ _
theorem Q6.wd_eq {V : M.V} (hw : R.Wf V) (p : Int) : Q6.wd V p = W.get (strOfNums [(V.fetch ((IntKind.wrap .u32 (p + 0))).toNat).1, (V.fetch ((IntKind.wrap .u32 (p + 1))).toNat).1, (V.fetch ((IntKind.wrap .u32 (p + 2))).toNat).1, (V.fetch ((IntKind.wrap .u32 (p + 3))).toNat).1]).data.toList := by
  have hb : ∀ a, 0 ≤ (V.fetch a).1 ∧ (V.fetch a).1 < 256 := fun a => by
    unfold M.V.fetch
    split
    · exact R.code_bd hw a
    · exact ⟨Int.le_refl _, by decide⟩
  have b0 := hb (IntKind.wrap .u32 (p + 0)).toNat
  have b1 := hb (IntKind.wrap .u32 (p + 1)).toNat
  have b2 := hb (IntKind.wrap .u32 (p + 2)).toNat
  have b3 := hb (IntKind.wrap .u32 (p + 3)).toNat
  unfold Q6.wd
  generalize (V.fetch (IntKind.wrap .u32 (p + 0)).toNat).1 = x0 at *
  generalize (V.fetch (IntKind.wrap .u32 (p + 1)).toNat).1 = x1 at *
  generalize (V.fetch (IntKind.wrap .u32 (p + 2)).toNat).1 = x2 at *
  generalize (V.fetch (IntKind.wrap .u32 (p + 3)).toNat).1 = x3 at *
  have hall : ∀ x ∈ [x0, x1, x2, x3], 0 ≤ x ∧ x < 256 := fun x hx => by
    simp only [List.mem_cons, List.not_mem_nil, or_false] at hx
    rcases hx with rfl | rfl | rfl | rfl <;> assumption
  unfold W.get
  rw [W.byt_nums _ _ hall, W.byt_nums _ _ hall, W.byt_nums _ _ hall, W.byt_nums _ _ hall]
  show _ = x0 + 256 * x1 + 65536 * x2 + 16777216 * x3
  rw [show (2 : Int) ^ 0 = 1 from rfl, show (2 : Int) ^ 8 = 256 from rfl, show (2 : Int) ^ 16 = 65536 from rfl, show (2 : Int) ^ 24 = 16777216 from rfl]
  simp only [Q.wr]; omega
/-- Both fetch alike. -/
theorem Q6.fetch_eq {V : M.V} (hw : R.Wf V) (p : Int) : Q6.fetch V p = Q.fetch V p := by
  have e := Q6.wd_eq hw p
  have hb : 0 ≤ Q6.wd V p ∧ Q6.wd V p < 4294967296 := Q.wrap_bd _
  unfold Q6.fetch Q.fetch
  rw [← e, Q3.decode_eq hb]
  generalize Q6.wd V p = x at *
  cases hd : ((Q.decode x).2 != 0) with
  | false => rfl
  | true => rw [Q.decode_err hd]
theorem rOp_3 (a b : Int) (ha : 0 ≤ a) (ha' : a < 4294967296) (hb : 0 ≤ b) (hb' : b < 4294967296) (w : World) :
    Calls Tryz.prog 56 #[.int .i64 3, .int .u32 a, .int .u32 b] w fun e w' => e = .returned (.int .u32 (W.op 3 a b)) ∧ Bel w w' := by
  go_enter Tryz.func56, Tryz.ntmps56
  go_wp2_with (first | (go_at_call 79; refine (rbit_any _ _).mono ?_; rintro e w' ⟨rfl, hb⟩) | (go_at_call 78; refine (rsigned_any _ (by assumption) (by assumption) _).mono ?_; rintro e w' ⟨rfl, hb⟩))
  go_ret
  exact ⟨ret_int (by rw [W.op_3]), Nz.bel⟩
theorem rOp_4 (a b : Int) (ha : 0 ≤ a) (ha' : a < 4294967296) (hb : 0 ≤ b) (hb' : b < 4294967296) (w : World) :
    Calls Tryz.prog 56 #[.int .i64 4, .int .u32 a, .int .u32 b] w fun e w' => e = .returned (.int .u32 (W.op 4 a b)) ∧ Bel w w' := by
  go_enter Tryz.func56, Tryz.ntmps56
  go_wp2_with (first | (go_at_call 79; refine (rbit_any _ _).mono ?_; rintro e w' ⟨rfl, hb⟩) | (go_at_call 78; refine (rsigned_any _ (by assumption) (by assumption) _).mono ?_; rintro e w' ⟨rfl, hb⟩))
  go_ret
  exact ⟨ret_int (by rw [W.op_4]), Nz.bel⟩
theorem rOp_5 (a b : Int) (ha : 0 ≤ a) (ha' : a < 4294967296) (hb : 0 ≤ b) (hb' : b < 4294967296) (w : World) :
    Calls Tryz.prog 56 #[.int .i64 5, .int .u32 a, .int .u32 b] w fun e w' => e = .returned (.int .u32 (W.op 5 a b)) ∧ Bel w w' := by
  go_enter Tryz.func56, Tryz.ntmps56
  go_wp2_with (first | (go_at_call 79; refine (rbit_any _ _).mono ?_; rintro e w' ⟨rfl, hb⟩) | (go_at_call 78; refine (rsigned_any _ (by assumption) (by assumption) _).mono ?_; rintro e w' ⟨rfl, hb⟩))
  go_ret
  exact ⟨ret_int (by rw [W.op_5]), Nz.bel⟩
theorem rOp_6 (a b : Int) (ha : 0 ≤ a) (ha' : a < 4294967296) (hb : 0 ≤ b) (hb' : b < 4294967296) (w : World) :
    Calls Tryz.prog 56 #[.int .i64 6, .int .u32 a, .int .u32 b] w fun e w' => e = .returned (.int .u32 (W.op 6 a b)) ∧ Bel w w' := by
  go_enter Tryz.func56, Tryz.ntmps56
  go_wp2_with (first | (go_at_call 79; refine (rbit_any _ _).mono ?_; rintro e w' ⟨rfl, hb⟩) | (go_at_call 78; refine (rsigned_any _ (by assumption) (by assumption) _).mono ?_; rintro e w' ⟨rfl, hb⟩))
  go_ret
  exact ⟨ret_int (by rw [W.op_6]), Nz.bel⟩
theorem rOp_7 (a b : Int) (ha : 0 ≤ a) (ha' : a < 4294967296) (hb : 0 ≤ b) (hb' : b < 4294967296) (w : World) :
    Calls Tryz.prog 56 #[.int .i64 7, .int .u32 a, .int .u32 b] w fun e w' => e = .returned (.int .u32 (W.op 7 a b)) ∧ Bel w w' := by
  go_enter Tryz.func56, Tryz.ntmps56
  go_wp2_with (first | (go_at_call 79; refine (rbit_any _ _).mono ?_; rintro e w' ⟨rfl, hb⟩) | (go_at_call 78; refine (rsigned_any _ (by assumption) (by assumption) _).mono ?_; rintro e w' ⟨rfl, hb⟩))
  go_ret
  exact ⟨ret_int (by rw [W.op_7]), Nz.bel⟩
theorem rOp_8 (a b : Int) (ha : 0 ≤ a) (ha' : a < 4294967296) (hb : 0 ≤ b) (hb' : b < 4294967296) (w : World) :
    Calls Tryz.prog 56 #[.int .i64 8, .int .u32 a, .int .u32 b] w fun e w' => e = .returned (.int .u32 (W.op 8 a b)) ∧ Bel w w' := by
  have hd : 0 ≤ b % 32 ∧ b % 32 < 32 := by omega
  go_enter Tryz.func56, Tryz.ntmps56
  go_wp2_with (first | (go_at_call 79; refine (rbit_any _ _).mono ?_; rintro e w' ⟨rfl, hb⟩) | (go_at_call 78; refine (rsigned_any _ (by assumption) (by assumption) _).mono ?_; rintro e w' ⟨rfl, hb⟩))
  go_ret
  exact ⟨ret_int (by rw [W.op_8]), Nz.bel⟩
theorem rOp_9 (a b : Int) (ha : 0 ≤ a) (ha' : a < 4294967296) (hb : 0 ≤ b) (hb' : b < 4294967296) (w : World) :
    Calls Tryz.prog 56 #[.int .i64 9, .int .u32 a, .int .u32 b] w fun e w' => e = .returned (.int .u32 (W.op 9 a b)) ∧ Bel w w' := by
  have hd : 0 ≤ b % 32 ∧ b % 32 < 32 := by omega
  go_enter Tryz.func56, Tryz.ntmps56
  go_wp2_with (first | (go_at_call 79; refine (rbit_any _ _).mono ?_; rintro e w' ⟨rfl, hb⟩) | (go_at_call 78; refine (rsigned_any _ (by assumption) (by assumption) _).mono ?_; rintro e w' ⟨rfl, hb⟩))
  go_ret
  exact ⟨ret_int (by rw [W.op_9]), Nz.bel⟩
theorem rOp_10 (a b : Int) (ha : 0 ≤ a) (ha' : a < 4294967296) (hb : 0 ≤ b) (hb' : b < 4294967296) (w : World) :
    Calls Tryz.prog 56 #[.int .i64 10, .int .u32 a, .int .u32 b] w fun e w' => e = .returned (.int .u32 (W.op 10 a b)) ∧ Bel w w' := by
  have hd : 0 ≤ b % 32 ∧ b % 32 < 32 := by omega
  have hs := W.sg_bd a ha ha'
  have hs' := W.sg_bd b hb hb'
  go_enter Tryz.func56, Tryz.ntmps56
  go_wp2_with (first | (go_at_call 79; refine (rbit_any _ _).mono ?_; rintro e w' ⟨rfl, hb⟩) | (go_at_call 78; refine (rsigned_any _ (by assumption) (by assumption) _).mono ?_; rintro e w' ⟨rfl, hb⟩))
  go_ret
  exact ⟨ret_int (by rw [W.op_10]), Nz.bel⟩
theorem rOp_11 (a b : Int) (ha : 0 ≤ a) (ha' : a < 4294967296) (hb : 0 ≤ b) (hb' : b < 4294967296) (w : World) :
    Calls Tryz.prog 56 #[.int .i64 11, .int .u32 a, .int .u32 b] w fun e w' => e = .returned (.int .u32 (W.op 11 a b)) ∧ Bel w w' := by
  go_enter Tryz.func56, Tryz.ntmps56
  go_wp2_with (first | (go_at_call 79; refine (rbit_any _ _).mono ?_; rintro e w' ⟨rfl, hb⟩) | (go_at_call 78; refine (rsigned_any _ (by assumption) (by assumption) _).mono ?_; rintro e w' ⟨rfl, hb⟩))
  go_ret
  exact ⟨ret_int (by rw [W.op_11]), Nz.bel⟩
theorem rOp_12 (a b : Int) (ha : 0 ≤ a) (ha' : a < 4294967296) (hb : 0 ≤ b) (hb' : b < 4294967296) (w : World) :
    Calls Tryz.prog 56 #[.int .i64 12, .int .u32 a, .int .u32 b] w fun e w' => e = .returned (.int .u32 (W.op 12 a b)) ∧ Bel w w' := by
  by_cases h : b = 0
  · subst h
    go_enter Tryz.func56, Tryz.ntmps56
    go_wp2_with (first | (go_at_call 79; refine (rbit_any _ _).mono ?_; rintro e w' ⟨rfl, hb⟩) | (go_at_call 78; refine (rsigned_any _ (by assumption) (by assumption) _).mono ?_; rintro e w' ⟨rfl, hb⟩))
    go_ret
    exact ⟨ret_int (by rw [W.op_12]; simp), Nz.bel⟩
  · have h0 : (b == 0) = false := by simp [h]
    go_enter Tryz.func56, Tryz.ntmps56
    go_wp2_with (first | (go_at_call 79; refine (rbit_any _ _).mono ?_; rintro e w' ⟨rfl, hb⟩) | (go_at_call 78; refine (rsigned_any _ (by assumption) (by assumption) _).mono ?_; rintro e w' ⟨rfl, hb⟩))
    go_ret
    exact ⟨ret_int (by rw [W.op_12]), Nz.bel⟩
theorem rOp_13 (a b : Int) (ha : 0 ≤ a) (ha' : a < 4294967296) (hb : 0 ≤ b) (hb' : b < 4294967296) (w : World) :
    Calls Tryz.prog 56 #[.int .i64 13, .int .u32 a, .int .u32 b] w fun e w' => e = .returned (.int .u32 (W.op 13 a b)) ∧ Bel w w' := by
  go_enter Tryz.func56, Tryz.ntmps56
  go_wp2_with (first | (go_at_call 79; refine (rbit_any _ _).mono ?_; rintro e w' ⟨rfl, hb⟩) | (go_at_call 78; refine (rsigned_any _ (by assumption) (by assumption) _).mono ?_; rintro e w' ⟨rfl, hb⟩))
  go_ret
  exact ⟨ret_int (by rw [W.op_13]), Nz.bel⟩
theorem rOp_14 (a b : Int) (ha : 0 ≤ a) (ha' : a < 4294967296) (hb : 0 ≤ b) (hb' : b < 4294967296) (w : World) :
    Calls Tryz.prog 56 #[.int .i64 14, .int .u32 a, .int .u32 b] w fun e w' => e = .returned (.int .u32 (W.op 14 a b)) ∧ Bel w w' := by
  go_enter Tryz.func56, Tryz.ntmps56
  go_wp2_with (first | (go_at_call 79; refine (rbit_any _ _).mono ?_; rintro e w' ⟨rfl, hb⟩) | (go_at_call 78; refine (rsigned_any _ (by assumption) (by assumption) _).mono ?_; rintro e w' ⟨rfl, hb⟩))
  go_ret
  exact ⟨ret_int (by rw [W.op_14]), Nz.bel⟩
theorem rOp_15 (a b : Int) (ha : 0 ≤ a) (ha' : a < 4294967296) (hb : 0 ≤ b) (hb' : b < 4294967296) (w : World) :
    Calls Tryz.prog 56 #[.int .i64 15, .int .u32 a, .int .u32 b] w fun e w' => e = .returned (.int .u32 (W.op 15 a b)) ∧ Bel w w' := by
  have hs := W.sg_bd a ha ha'
  have hs' := W.sg_bd b hb hb'
  go_enter Tryz.func56, Tryz.ntmps56
  go_wp2_with (first | (go_at_call 79; refine (rbit_any _ _).mono ?_; rintro e w' ⟨rfl, hb⟩) | (go_at_call 78; refine (rsigned_any _ (by assumption) (by assumption) _).mono ?_; rintro e w' ⟨rfl, hb⟩))
  go_ret
  exact ⟨ret_int (by rw [W.op_15]), Nz.bel⟩
theorem rOp_n (c a b : Int) (hc : c < 3 ∨ 15 < c) (w : World) :
    Calls Tryz.prog 56 #[.int .i64 c, .int .u32 a, .int .u32 b] w fun e w' => e = .returned (.int .u32 (W.op c a b)) ∧ Bel w w' := by
  have HN := hid (W.op_n c a b hc)
  have h3 : (c == 3) = false := by simp; omega
  have h4 : (c == 4) = false := by simp; omega
  have h5 : (c == 5) = false := by simp; omega
  have h6 : (c == 6) = false := by simp; omega
  have h7 : (c == 7) = false := by simp; omega
  have h8 : (c == 8) = false := by simp; omega
  have h9 : (c == 9) = false := by simp; omega
  have h10 : (c == 10) = false := by simp; omega
  have h11 : (c == 11) = false := by simp; omega
  have h12 : (c == 12) = false := by simp; omega
  have h13 : (c == 13) = false := by simp; omega
  have h14 : (c == 14) = false := by simp; omega
  have h15 : (c == 15) = false := by simp; omega
  go_enter Tryz.func56, Tryz.ntmps56
  go_wp2_with fail
  go_ret
  exact ⟨ret_int (by rw [HN.out]), Nz.bel⟩
theorem rOp_any (c a b : Int) (ha : 0 ≤ a) (ha' : a < 4294967296) (hb : 0 ≤ b) (hb' : b < 4294967296) (w : World) :
    Calls Tryz.prog 56 #[.int .i64 c, .int .u32 a, .int .u32 b] w fun e w' => e = .returned (.int .u32 (W.op c a b)) ∧ Bel w w' := by
  rcases (by omega : c = 3 ∨ c = 4 ∨ c = 5 ∨ c = 6 ∨ c = 7 ∨ c = 8 ∨ c = 9 ∨ c = 10 ∨ c = 11 ∨ c = 12 ∨ c = 13 ∨ c = 14 ∨ c = 15 ∨ (c < 3 ∨ 15 < c)) with rfl | rfl | rfl | rfl | rfl | rfl | rfl | rfl | rfl | rfl | rfl | rfl | rfl | h
  · exact rOp_3 a b ha ha' hb hb' w
  · exact rOp_4 a b ha ha' hb hb' w
  · exact rOp_5 a b ha ha' hb hb' w
  · exact rOp_6 a b ha ha' hb hb' w
  · exact rOp_7 a b ha ha' hb hb' w
  · exact rOp_8 a b ha ha' hb hb' w
  · exact rOp_9 a b ha ha' hb hb' w
  · exact rOp_10 a b ha ha' hb hb' w
  · exact rOp_11 a b ha ha' hb hb' w
  · exact rOp_12 a b ha ha' hb hb' w
  · exact rOp_13 a b ha ha' hb hb' w
  · exact rOp_14 a b ha ha' hb hb' w
  · exact rOp_15 a b ha ha' hb hb' w
  · exact rOp_n c a b h w
def Q6.taken (c a b : Int) : Bool := (bif (c == 32) then (a == b) else (bif (c == 33) then (a != b) else (bif (c == 34) then (decide (a < b)) else (bif (c == 35) then (decide (a ≥ b)) else (bif (c == 36) then ((W.op 15 a b) == 1) else ((c == 37) && ((W.op 15 a b) == 0)))))))
theorem Taken6_any (c a b : Int) (ha : 0 ≤ a ∧ a < 4294967296) (hb : 0 ≤ b ∧ b < 4294967296) (w : World) : Calls Tryz.prog 57 #[.int .i64 c, .int .u32 a, .int .u32 b] w fun e w' => e = .returned (.bool (Q6.taken c a b)) ∧ Bel w w' := by
 refine E.enter (n := 42) (S := fun _ => False) Tryz.func57 rfl rfl (by kernel_rfl) (E.Hp.start w) (E.sr (E.op (.bool false) (E.To.code (E.C.seq (E.sr (E.op (E.i c) (E.To.code (E.C.block (E.sr (E.op (.bool (c == 32)) (E.op (.bool (c == 32)) ?_)))))))))))
 refine E.To.code (E.cd (c == 32) (fun hc1 => ?_) (fun hc1 => ?_))
 ·
  exact E.sr (E.op (E.u a) (E.op (E.u b) (E.op (.bool (a == b)) (E.op (.bool (a == b)) (E.To.code (E.C.ret (E.P.rb (E.P.rt (E.bd Tryz.f57 [.bool (a == b)] (fun w h => ⟨by show Ending.returned (.bool (a == b)) = _; unfold Q6.taken; rw [hc1, cond_true] <;> rfl, h.ch.bel (fun _ h => h.elim)⟩))))))))))
 refine E.sr (E.op (.bool (c == 33)) (E.op (.bool (c == 33)) (E.To.code (E.cd (c == 33) (fun hc2 => ?_) (fun hc2 => ?_)))))
 ·
  exact E.sr (E.op (E.u a) (E.op (E.u b) (E.op (.bool (a != b)) (E.op (.bool (a != b)) (E.To.code (E.wk [(0, E.i c), (1, E.u a), (2, E.u b), (6, .bool (a != b))] [] Nz.sub (E.C.ret (E.P.rb (E.P.rt (E.bd Tryz.f57 [.bool (a != b)] (fun w h => ⟨by show Ending.returned (.bool (a != b)) = _; unfold Q6.taken; rw [hc1, cond_false, hc2, cond_true] <;> rfl, h.ch.bel (fun _ h => h.elim)⟩)))))))))))
 refine E.sr (E.op (.bool (c == 34)) (E.op (.bool (c == 34)) (E.To.code (E.cd (c == 34) (fun hc3 => ?_) (fun hc3 => ?_)))))
 ·
  exact E.sr (E.op (E.u a) (E.op (E.u b) (E.op (.bool (decide (a < b))) (E.op (.bool (decide (a < b))) (E.To.code (E.wk [(0, E.i c), (1, E.u a), (2, E.u b), (6, .bool (decide (a < b)))] [] Nz.sub (E.C.ret (E.P.rb (E.P.rt (E.bd Tryz.f57 [.bool (decide (a < b))] (fun w h => ⟨by show Ending.returned (.bool (decide (a < b))) = _; unfold Q6.taken; rw [hc1, cond_false, hc2, cond_false, hc3, cond_true] <;> rfl, h.ch.bel (fun _ h => h.elim)⟩)))))))))))
 refine E.sr (E.op (.bool (c == 35)) (E.op (.bool (c == 35)) (E.To.code (E.cd (c == 35) (fun hc4 => ?_) (fun hc4 => ?_)))))
 ·
  exact E.sr (E.op (E.u a) (E.op (E.u b) (E.op (.bool (decide (a ≥ b))) (E.op (.bool (decide (a ≥ b))) (E.To.code (E.wk [(0, E.i c), (1, E.u a), (2, E.u b), (6, .bool (decide (a ≥ b)))] [] Nz.sub (E.C.ret (E.P.rb (E.P.rt (E.bd Tryz.f57 [.bool (decide (a ≥ b))] (fun w h => ⟨by show Ending.returned (.bool (decide (a ≥ b))) = _; unfold Q6.taken; rw [hc1, cond_false, hc2, cond_false, hc3, cond_false, hc4, cond_true] <;> rfl, h.ch.bel (fun _ h => h.elim)⟩)))))))))))
 refine E.sr (E.op (.bool (c == 36)) (E.op (.bool (c == 36)) (E.To.code (E.wk [(0, E.i c), (1, E.u a), (2, E.u b), (6, .bool false), (28, .bool (c == 36))] [] Nz.sub (E.cd (c == 36) (fun hc5 => ?_) (fun hc5 => ?_))))))
 ·
  exact E.sr (E.op (E.u a) (E.op (E.u b) (E.G.call (E.u (W.op 15 a b)) (fun w h => rOp_any 15 a b ha.1 ha.2 hb.1 hb.2 w) (fun w _ => by kernel_rfl) (by kernel_rfl) (E.op (.bool ((W.op 15 a b) == 1)) (E.op (.bool ((W.op 15 a b) == 1)) (E.To.code (E.C.ret (E.P.rb (E.P.rt (E.bd Tryz.f57 [.bool ((W.op 15 a b) == 1)] (fun w h => ⟨by show Ending.returned (.bool ((W.op 15 a b) == 1)) = _; unfold Q6.taken; rw [hc1, cond_false, hc2, cond_false, hc3, cond_false, hc4, cond_false, hc5, cond_true] <;> rfl, h.ch.bel (fun _ h => h.elim)⟩)))))))))))
 refine E.C.skip (E.P.nb (E.To.code (E.sr (E.op (E.i c) (E.op (.bool (c == 37)) (E.op (.bool (c == 37)) (E.G.cut 5 [(6, .bool false), (41, .bool ((c == 37) && ((W.op 15 a b) == 0)))] (fun _ => True) [] ?_ ?_)))))))
 ·
  generalize hc6 : (c == 37) = b7
  cases b7
  ·
   exact E.sk (E.sk (E.sk (E.sk (E.op (.bool false) (E.G.end_pst ⟨by kernel_rfl, by kernel_rfl⟩ Nz.sub (fun _ h => h))))))
  exact E.op (E.u a) (E.op (E.u b) (E.G.call (E.u (W.op 15 a b)) (fun w h => rOp_any 15 a b ha.1 ha.2 hb.1 hb.2 w) (fun w _ => by kernel_rfl) (by kernel_rfl) (E.op (.bool ((W.op 15 a b) == 0)) (E.op (.bool ((W.op 15 a b) == 0)) (E.G.end_pst ⟨by kernel_rfl, by kernel_rfl⟩ Nz.sub (fun _ h => h))))))
 exact E.op (.bool ((c == 37) && ((W.op 15 a b) == 0))) (E.To.code (E.C.ret (E.bd Tryz.f57 [.bool ((c == 37) && ((W.op 15 a b) == 0))] (fun w h => ⟨by show Ending.returned (.bool ((c == 37) && ((W.op 15 a b) == 0))) = _; unfold Q6.taken; rw [hc1, cond_false, hc2, cond_false, hc3, cond_false, hc4, cond_false, hc5, cond_false] <;> rfl, h.ch.bel (fun _ h => h.elim)⟩))))
end Go.Proofs.YtgbndbljohpnmaaGreat
