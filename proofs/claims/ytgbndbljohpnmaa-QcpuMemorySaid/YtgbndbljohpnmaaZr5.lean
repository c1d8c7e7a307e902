/- Texts of the walk, merged (5): see the remark ahead of each. -/
import Derived.Test.YtgbndbljohpnmaaZr4
import Derived.Test.YtgbndbljohpnmaaProg
/- XQg -/
namespace Go.Proofs.Ytgbndbljohpnmaa
set_option linter.unusedVariables false
set_option linter.unusedSimpArgs false
open Go.RowKit
def Q.fetch (V : M.V) (p : Int) : Q.I × Int × Int := (bif ((Int.tmod p 4) != 0) then (⟨0, 0, 0, 0, 0⟩, 7, 0) else (bif (!((V.fetch ((IntKind.wrap .u32 (p + 0))).toNat).2)) then (⟨0, 0, 0, 0, 0⟩, 5, (IntKind.wrap .u32 (p + 0))) else (bif (!((V.fetch ((IntKind.wrap .u32 (p + 1))).toNat).2)) then (⟨0, 0, 0, 0, 0⟩, 5, (IntKind.wrap .u32 (p + 1))) else (bif (!((V.fetch ((IntKind.wrap .u32 (p + 2))).toNat).2)) then (⟨0, 0, 0, 0, 0⟩, 5, (IntKind.wrap .u32 (p + 2))) else (bif (!((V.fetch ((IntKind.wrap .u32 (p + 3))).toNat).2)) then (⟨0, 0, 0, 0, 0⟩, 5, (IntKind.wrap .u32 (p + 3))) else (bif (((Q.decode (W.get (strOfNums [(V.fetch ((IntKind.wrap .u32 (p + 0))).toNat).1, (V.fetch ((IntKind.wrap .u32 (p + 1))).toNat).1, (V.fetch ((IntKind.wrap .u32 (p + 2))).toNat).1, (V.fetch ((IntKind.wrap .u32 (p + 3))).toNat).1]).data.toList)).2) != 0) then (((Q.decode (W.get (strOfNums [(V.fetch ((IntKind.wrap .u32 (p + 0))).toNat).1, (V.fetch ((IntKind.wrap .u32 (p + 1))).toNat).1, (V.fetch ((IntKind.wrap .u32 (p + 2))).toNat).1, (V.fetch ((IntKind.wrap .u32 (p + 3))).toNat).1]).data.toList)).1), 7, 0) else (((Q.decode (W.get (strOfNums [(V.fetch ((IntKind.wrap .u32 (p + 0))).toNat).1, (V.fetch ((IntKind.wrap .u32 (p + 1))).toNat).1, (V.fetch ((IntKind.wrap .u32 (p + 2))).toNat).1, (V.fetch ((IntKind.wrap .u32 (p + 3))).toNat).1]).data.toList)).1), 0, 0)))))))
theorem Fetch_rd {m : Nat} {xs : List Value} (V : M.V) (p : Int)  : A.Rd Try.prog 58 #[.int .u32 p, .iface 82 (.pointer (some ⟨m, 0, none⟩))] [M.It m V xs] (.tuple #[.agg #[.int .i64 (((Q.fetch V p).1).op), .int .i64 (((Q.fetch V p).1).d), .int .i64 (((Q.fetch V p).1).a), .int .i64 (((Q.fetch V p).1).b), .int .u32 (((Q.fetch V p).1).imm)], .agg #[.int .i64 ((Q.fetch V p).2.1), .int .u32 ((Q.fetch V p).2.2)]]) := by
 intro w oo aa hh
 refine E.enter (n := 54) (S := fun _ => False) Try.func58 rfl rfl (by kernel_rfl) (A.startY hh) ?_
 refine E.sr ?_
 refine E.G.new (fun g => .pointer (some ⟨g, 0, none⟩)) [.int .i64 0, .int .i64 0, .int .i64 0, .int .i64 0, .int .u32 0] 47 (fun w => by kernel_rfl) (by kernel_rfl) (fun g1 => ?_)
 refine E.G.new (fun g => .pointer (some ⟨g, 0, none⟩)) [.int .i64 0, .int .u32 0] 51 (fun w => by kernel_rfl) (by kernel_rfl) (fun g2 => ?_)
 refine E.To.code ?_
 refine E.C.seq ?_
 refine E.sr ?_
 refine E.op (.int .u32 p) ?_
 refine E.op (.int .u32 (Int.tmod p 4)) ?_
 refine E.op (.bool ((Int.tmod p 4) != 0)) ?_
 refine E.To.code ?_
 refine E.cd ((Int.tmod p 4) != 0) (fun hc3 => ?_) (fun hc3 => ?_)
 ·
  refine E.sr ?_
  refine E.vl (.agg #[.int .i64 0, .int .i64 0, .int .i64 0, .int .i64 0, .int .u32 0]) (fun w h => E.run_build #[.int .i64 0, .int .i64 0, .int .i64 0, .int .i64 0, .int .u32 0] (by kernel_rfl) w) ?_
  refine E.vl (.agg #[.int .i64 7, .int .u32 0]) (fun w h => E.run_build #[.int .i64 7, .int .u32 0] (by kernel_rfl) w) ?_
  refine E.st 1 [.int .i64 0, .int .i64 0, .int .i64 0, .int .i64 0, .int .u32 0] rfl rfl ?_
  refine E.st 0 [.int .i64 7, .int .u32 0] rfl rfl ?_
  refine E.To.code ?_
  refine E.C.ret (E.P.rt (E.To.body (fn := Try.f58) [.agg #[.int .i64 0, .int .i64 0, .int .i64 0, .int .i64 0, .int .u32 0], .agg #[.int .i64 7, .int .u32 0]] ?_ ?_))
  · exact ⟨⟨by kernel_rfl, _, _, 1, _, rfl, rfl, by kernel_rfl⟩, ⟨by kernel_rfl, _, _, 0, _, rfl, rfl, by kernel_rfl⟩, trivial⟩
  intro w h
  exact ⟨by show Ending.returned (.tuple #[.agg #[.int .i64 0, .int .i64 0, .int .i64 0, .int .i64 0, .int .u32 0], .agg #[.int .i64 7, .int .u32 0]]) = _; unfold Q.fetch; rw [hc3, cond_true] <;> rfl, h.ch.bel (fun _ h => h.elim)⟩
 refine E.C.skip (E.To.code ?_)
 refine E.sr ?_
 refine E.G.new (fun g => .pointer (some ⟨g, 0, none⟩)) [.int .u8 0, .int .u8 0, .int .u8 0, .int .u8 0] 125 (fun w => by kernel_rfl) (by kernel_rfl) (fun g4 => ?_)
 refine E.To.code ?_
 refine E.C.seq ?_
 refine E.sr ?_
 refine E.op (.int .i64 0) ?_
 refine E.To.code ?_
 refine E.C.block ?_
 refine E.C.rounds 4 ?_
 refine E.sr ?_
 refine E.op (.bool true) ?_
 refine E.To.code ?_
 refine E.C.seq ?_
 refine E.C.condT (by kernel_rfl) (by kernel_rfl) ?_
 refine E.C.skip (E.To.code ?_)
 refine E.C.seq ?_
 refine E.C.block ?_
 refine E.sr ?_
 refine E.op (.int .i64 0) ?_
 refine E.op (.int .i64 0) ?_
 refine E.tr ?_
 refine E.op (.iface 82 (.pointer (some ⟨m, 0, none⟩))) ?_
 refine E.op (.int .u32 p) ?_
 refine E.op (.int .i64 0) ?_
 refine E.op (.int .u32 0) ?_
 refine E.op (.int .u32 (IntKind.wrap .u32 (p + 0))) ?_
 refine E.G.call (.tuple #[.int .u8 ((V.fetch ((IntKind.wrap .u32 (p + 0))).toNat).1), .bool ((V.fetch ((IntKind.wrap .u32 (p + 0))).toNat).2)]) (fun w h => A.Y.rd [] (I_Fetch (IntKind.wrap .u32 (p + 0)) (Q.wrap_bd _) (m := m) (V := V) (xs := xs)) h.x (A.pn [0])) (fun w _ => by kernel_rfl) (by kernel_rfl) ?_
 refine E.op (.tuple #[.int .u8 ((V.fetch ((IntKind.wrap .u32 (p + 0))).toNat).1), .bool ((V.fetch ((IntKind.wrap .u32 (p + 0))).toNat).2)]) ?_
 refine E.op (.int .u8 ((V.fetch ((IntKind.wrap .u32 (p + 0))).toNat).1)) ?_
 refine E.op (.bool ((V.fetch ((IntKind.wrap .u32 (p + 0))).toNat).2)) ?_
 refine E.op (.int .u8 ((V.fetch ((IntKind.wrap .u32 (p + 0))).toNat).1)) ?_
 refine E.op (.bool ((V.fetch ((IntKind.wrap .u32 (p + 0))).toNat).2)) ?_
 refine E.To.code ?_
 refine E.C.seq ?_
 refine E.sr ?_
 refine E.op (.bool ((V.fetch ((IntKind.wrap .u32 (p + 0))).toNat).2)) ?_
 refine E.op (.bool (!((V.fetch ((IntKind.wrap .u32 (p + 0))).toNat).2))) ?_
 refine E.To.code ?_
 refine E.cd (!((V.fetch ((IntKind.wrap .u32 (p + 0))).toNat).2)) (fun hc5 => ?_) (fun hc5 => ?_)
 ·
  refine E.sr ?_
  refine E.vl (.agg #[.int .i64 0, .int .i64 0, .int .i64 0, .int .i64 0, .int .u32 0]) (fun w h => E.run_build #[.int .i64 0, .int .i64 0, .int .i64 0, .int .i64 0, .int .u32 0] (by kernel_rfl) w) ?_
  refine E.op (.int .u32 p) ?_
  refine E.op (.int .i64 0) ?_
  refine E.op (.int .u32 0) ?_
  refine E.op (.int .u32 (IntKind.wrap .u32 (p + 0))) ?_
  refine E.vl (.agg #[.int .i64 5, .int .u32 (IntKind.wrap .u32 (p + 0))]) (fun w h => E.run_build #[.int .i64 5, .int .u32 (IntKind.wrap .u32 (p + 0))] (by kernel_rfl) w) ?_
  refine E.st 2 [.int .i64 0, .int .i64 0, .int .i64 0, .int .i64 0, .int .u32 0] rfl rfl ?_
  refine E.st 1 [.int .i64 5, .int .u32 (IntKind.wrap .u32 (p + 0))] rfl rfl ?_
  refine E.To.code ?_
  refine E.C.ret (E.P.rt (E.P.rb (E.P.rt (E.P.rt (E.P.rb (E.P.rt (E.To.body (fn := Try.f58) [.agg #[.int .i64 0, .int .i64 0, .int .i64 0, .int .i64 0, .int .u32 0], .agg #[.int .i64 5, .int .u32 (IntKind.wrap .u32 (p + 0))]] ?_ ?_)))))))
  · exact ⟨⟨by kernel_rfl, _, _, 2, _, rfl, rfl, by kernel_rfl⟩, ⟨by kernel_rfl, _, _, 1, _, rfl, rfl, by kernel_rfl⟩, trivial⟩
  intro w h
  exact ⟨by show Ending.returned (.tuple #[.agg #[.int .i64 0, .int .i64 0, .int .i64 0, .int .i64 0, .int .u32 0], .agg #[.int .i64 5, .int .u32 (IntKind.wrap .u32 (p + 0))]]) = _; unfold Q.fetch; rw [hc3, cond_false, hc5, cond_true] <;> rfl, h.ch.bel (fun _ h => h.elim)⟩
 refine E.C.skip (E.To.code ?_)
 refine E.C.region ?_
 refine E.op (.int .i64 0) ?_
 refine E.op (.int .u8 ((V.fetch ((IntKind.wrap .u32 (p + 0))).toNat).1)) ?_
 refine E.op (.pointer (some ⟨g4, 0, none⟩)) ?_
 refine E.st 0 [.int .u8 ((V.fetch ((IntKind.wrap .u32 (p + 0))).toNat).1), .int .u8 0, .int .u8 0, .int .u8 0] rfl rfl ?_
 refine E.P.nb (E.To.code ?_)
 refine E.C.region ?_
 refine E.op (.int .i64 1) ?_
 refine E.op (.int .i64 1) ?_
 refine E.To.rounds 3 ?_
 refine E.wk [(0, .int .u32 p), (1, .iface 82 (.pointer (some ⟨m, 0, none⟩))), (4, .pointer (some ⟨g1, 0, none⟩)), (5, .pointer (some ⟨g2, 0, none⟩)), (6, .pointer (some ⟨g4, 0, none⟩)), (7, .int .i64 0), (8, .int .u8 ((V.fetch ((IntKind.wrap .u32 (p + 0))).toNat).1)), (9, .bool ((V.fetch ((IntKind.wrap .u32 (p + 0))).toNat).2)), (17, .int .i64 1), (18, .bool true), (19, .int .i64 0), (20, .tuple #[.int .u8 ((V.fetch ((IntKind.wrap .u32 (p + 0))).toNat).1), .bool ((V.fetch ((IntKind.wrap .u32 (p + 0))).toNat).2)]), (21, .iface 82 (.pointer (some ⟨m, 0, none⟩))), (22, .int .u32 p), (23, .int .i64 0), (24, .int .u32 0), (25, .int .u32 (IntKind.wrap .u32 (p + 0))), (26, .tuple #[.int .u8 ((V.fetch ((IntKind.wrap .u32 (p + 0))).toNat).1), .bool ((V.fetch ((IntKind.wrap .u32 (p + 0))).toNat).2)]), (27, .int .u8 ((V.fetch ((IntKind.wrap .u32 (p + 0))).toNat).1)), (28, .bool ((V.fetch ((IntKind.wrap .u32 (p + 0))).toNat).2)), (29, .bool ((V.fetch ((IntKind.wrap .u32 (p + 0))).toNat).2)), (30, .bool (!((V.fetch ((IntKind.wrap .u32 (p + 0))).toNat).2))), (37, .int .i64 0), (38, .int .u8 ((V.fetch ((IntKind.wrap .u32 (p + 0))).toNat).1)), (39, .pointer (some ⟨g4, 0, none⟩)), (40, .int .i64 1)] [(g4, [.int .u8 ((V.fetch ((IntKind.wrap .u32 (p + 0))).toNat).1), .int .u8 0, .int .u8 0, .int .u8 0]), (g2, [.int .i64 0, .int .u32 0]), (g1, [.int .i64 0, .int .i64 0, .int .i64 0, .int .i64 0, .int .u32 0])] (List.Sublist.refl _) ?_
 refine E.sr ?_
 refine E.op (.bool true) ?_
 refine E.To.code ?_
 refine E.C.seq ?_
 refine E.C.condT (by kernel_rfl) (by kernel_rfl) ?_
 refine E.C.skip (E.To.code ?_)
 refine E.C.seq ?_
 refine E.C.block ?_
 refine E.sr ?_
 refine E.op (.int .i64 1) ?_
 refine E.op (.int .i64 1) ?_
 refine E.tr ?_
 refine E.op (.iface 82 (.pointer (some ⟨m, 0, none⟩))) ?_
 refine E.op (.int .u32 p) ?_
 refine E.op (.int .i64 1) ?_
 refine E.op (.int .u32 1) ?_
 refine E.op (.int .u32 (IntKind.wrap .u32 (p + 1))) ?_
 refine E.G.call (.tuple #[.int .u8 ((V.fetch ((IntKind.wrap .u32 (p + 1))).toNat).1), .bool ((V.fetch ((IntKind.wrap .u32 (p + 1))).toNat).2)]) (fun w h => A.Y.rd [] (I_Fetch (IntKind.wrap .u32 (p + 1)) (Q.wrap_bd _) (m := m) (V := V) (xs := xs)) h.x (A.pn [0])) (fun w _ => by kernel_rfl) (by kernel_rfl) ?_
 refine E.op (.tuple #[.int .u8 ((V.fetch ((IntKind.wrap .u32 (p + 1))).toNat).1), .bool ((V.fetch ((IntKind.wrap .u32 (p + 1))).toNat).2)]) ?_
 refine E.op (.int .u8 ((V.fetch ((IntKind.wrap .u32 (p + 1))).toNat).1)) ?_
 refine E.op (.bool ((V.fetch ((IntKind.wrap .u32 (p + 1))).toNat).2)) ?_
 refine E.op (.int .u8 ((V.fetch ((IntKind.wrap .u32 (p + 1))).toNat).1)) ?_
 refine E.op (.bool ((V.fetch ((IntKind.wrap .u32 (p + 1))).toNat).2)) ?_
 refine E.To.code ?_
 refine E.C.seq ?_
 refine E.sr ?_
 refine E.op (.bool ((V.fetch ((IntKind.wrap .u32 (p + 1))).toNat).2)) ?_
 refine E.op (.bool (!((V.fetch ((IntKind.wrap .u32 (p + 1))).toNat).2))) ?_
 refine E.To.code ?_
 refine E.cd (!((V.fetch ((IntKind.wrap .u32 (p + 1))).toNat).2)) (fun hc6 => ?_) (fun hc6 => ?_)
 ·
  refine E.sr ?_
  refine E.vl (.agg #[.int .i64 0, .int .i64 0, .int .i64 0, .int .i64 0, .int .u32 0]) (fun w h => E.run_build #[.int .i64 0, .int .i64 0, .int .i64 0, .int .i64 0, .int .u32 0] (by kernel_rfl) w) ?_
  refine E.op (.int .u32 p) ?_
  refine E.op (.int .i64 1) ?_
  refine E.op (.int .u32 1) ?_
  refine E.op (.int .u32 (IntKind.wrap .u32 (p + 1))) ?_
  refine E.vl (.agg #[.int .i64 5, .int .u32 (IntKind.wrap .u32 (p + 1))]) (fun w h => E.run_build #[.int .i64 5, .int .u32 (IntKind.wrap .u32 (p + 1))] (by kernel_rfl) w) ?_
  refine E.st 2 [.int .i64 0, .int .i64 0, .int .i64 0, .int .i64 0, .int .u32 0] rfl rfl ?_
  refine E.st 1 [.int .i64 5, .int .u32 (IntKind.wrap .u32 (p + 1))] rfl rfl ?_
  refine E.To.code ?_
  refine E.C.ret (E.P.rt (E.P.rb (E.P.rt (E.P.rt (E.P.rb (E.P.rt (E.To.body (fn := Try.f58) [.agg #[.int .i64 0, .int .i64 0, .int .i64 0, .int .i64 0, .int .u32 0], .agg #[.int .i64 5, .int .u32 (IntKind.wrap .u32 (p + 1))]] ?_ ?_)))))))
  · exact ⟨⟨by kernel_rfl, _, _, 2, _, rfl, rfl, by kernel_rfl⟩, ⟨by kernel_rfl, _, _, 1, _, rfl, rfl, by kernel_rfl⟩, trivial⟩
  intro w h
  exact ⟨by show Ending.returned (.tuple #[.agg #[.int .i64 0, .int .i64 0, .int .i64 0, .int .i64 0, .int .u32 0], .agg #[.int .i64 5, .int .u32 (IntKind.wrap .u32 (p + 1))]]) = _; unfold Q.fetch; rw [hc3, cond_false, hc5, cond_false, hc6, cond_true] <;> rfl, h.ch.bel (fun _ h => h.elim)⟩
 refine E.C.skip (E.To.code ?_)
 refine E.C.region ?_
 refine E.op (.int .i64 1) ?_
 refine E.op (.int .u8 ((V.fetch ((IntKind.wrap .u32 (p + 1))).toNat).1)) ?_
 refine E.op (.pointer (some ⟨g4, 1, none⟩)) ?_
 refine E.st 0 [.int .u8 ((V.fetch ((IntKind.wrap .u32 (p + 0))).toNat).1), .int .u8 ((V.fetch ((IntKind.wrap .u32 (p + 1))).toNat).1), .int .u8 0, .int .u8 0] rfl rfl ?_
 refine E.P.nb (E.To.code ?_)
 refine E.C.region ?_
 refine E.op (.int .i64 2) ?_
 refine E.op (.int .i64 2) ?_
 refine E.To.rounds 2 ?_
 refine E.wk [(0, .int .u32 p), (1, .iface 82 (.pointer (some ⟨m, 0, none⟩))), (4, .pointer (some ⟨g1, 0, none⟩)), (5, .pointer (some ⟨g2, 0, none⟩)), (6, .pointer (some ⟨g4, 0, none⟩)), (7, .int .i64 1), (8, .int .u8 ((V.fetch ((IntKind.wrap .u32 (p + 1))).toNat).1)), (9, .bool ((V.fetch ((IntKind.wrap .u32 (p + 1))).toNat).2)), (17, .int .i64 2), (18, .bool true), (19, .int .i64 1), (20, .tuple #[.int .u8 ((V.fetch ((IntKind.wrap .u32 (p + 1))).toNat).1), .bool ((V.fetch ((IntKind.wrap .u32 (p + 1))).toNat).2)]), (21, .iface 82 (.pointer (some ⟨m, 0, none⟩))), (22, .int .u32 p), (23, .int .i64 1), (24, .int .u32 1), (25, .int .u32 (IntKind.wrap .u32 (p + 1))), (26, .tuple #[.int .u8 ((V.fetch ((IntKind.wrap .u32 (p + 1))).toNat).1), .bool ((V.fetch ((IntKind.wrap .u32 (p + 1))).toNat).2)]), (27, .int .u8 ((V.fetch ((IntKind.wrap .u32 (p + 1))).toNat).1)), (28, .bool ((V.fetch ((IntKind.wrap .u32 (p + 1))).toNat).2)), (29, .bool ((V.fetch ((IntKind.wrap .u32 (p + 1))).toNat).2)), (30, .bool (!((V.fetch ((IntKind.wrap .u32 (p + 1))).toNat).2))), (37, .int .i64 1), (38, .int .u8 ((V.fetch ((IntKind.wrap .u32 (p + 1))).toNat).1)), (39, .pointer (some ⟨g4, 1, none⟩)), (40, .int .i64 2)] [(g4, [.int .u8 ((V.fetch ((IntKind.wrap .u32 (p + 0))).toNat).1), .int .u8 ((V.fetch ((IntKind.wrap .u32 (p + 1))).toNat).1), .int .u8 0, .int .u8 0]), (g2, [.int .i64 0, .int .u32 0]), (g1, [.int .i64 0, .int .i64 0, .int .i64 0, .int .i64 0, .int .u32 0])] (List.Sublist.refl _) ?_
 refine E.sr ?_
 refine E.op (.bool true) ?_
 refine E.To.code ?_
 refine E.C.seq ?_
 refine E.C.condT (by kernel_rfl) (by kernel_rfl) ?_
 refine E.C.skip (E.To.code ?_)
 refine E.C.seq ?_
 refine E.C.block ?_
 refine E.sr ?_
 refine E.op (.int .i64 2) ?_
 refine E.op (.int .i64 2) ?_
 refine E.tr ?_
 refine E.op (.iface 82 (.pointer (some ⟨m, 0, none⟩))) ?_
 refine E.op (.int .u32 p) ?_
 refine E.op (.int .i64 2) ?_
 refine E.op (.int .u32 2) ?_
 refine E.op (.int .u32 (IntKind.wrap .u32 (p + 2))) ?_
 refine E.G.call (.tuple #[.int .u8 ((V.fetch ((IntKind.wrap .u32 (p + 2))).toNat).1), .bool ((V.fetch ((IntKind.wrap .u32 (p + 2))).toNat).2)]) (fun w h => A.Y.rd [] (I_Fetch (IntKind.wrap .u32 (p + 2)) (Q.wrap_bd _) (m := m) (V := V) (xs := xs)) h.x (A.pn [0])) (fun w _ => by kernel_rfl) (by kernel_rfl) ?_
 refine E.op (.tuple #[.int .u8 ((V.fetch ((IntKind.wrap .u32 (p + 2))).toNat).1), .bool ((V.fetch ((IntKind.wrap .u32 (p + 2))).toNat).2)]) ?_
 refine E.op (.int .u8 ((V.fetch ((IntKind.wrap .u32 (p + 2))).toNat).1)) ?_
 refine E.op (.bool ((V.fetch ((IntKind.wrap .u32 (p + 2))).toNat).2)) ?_
 refine E.op (.int .u8 ((V.fetch ((IntKind.wrap .u32 (p + 2))).toNat).1)) ?_
 refine E.op (.bool ((V.fetch ((IntKind.wrap .u32 (p + 2))).toNat).2)) ?_
 refine E.To.code ?_
 refine E.C.seq ?_
 refine E.sr ?_
 refine E.op (.bool ((V.fetch ((IntKind.wrap .u32 (p + 2))).toNat).2)) ?_
 refine E.op (.bool (!((V.fetch ((IntKind.wrap .u32 (p + 2))).toNat).2))) ?_
 refine E.To.code ?_
 refine E.cd (!((V.fetch ((IntKind.wrap .u32 (p + 2))).toNat).2)) (fun hc7 => ?_) (fun hc7 => ?_)
 ·
  refine E.sr ?_
  refine E.vl (.agg #[.int .i64 0, .int .i64 0, .int .i64 0, .int .i64 0, .int .u32 0]) (fun w h => E.run_build #[.int .i64 0, .int .i64 0, .int .i64 0, .int .i64 0, .int .u32 0] (by kernel_rfl) w) ?_
  refine E.op (.int .u32 p) ?_
  refine E.op (.int .i64 2) ?_
  refine E.op (.int .u32 2) ?_
  refine E.op (.int .u32 (IntKind.wrap .u32 (p + 2))) ?_
  refine E.vl (.agg #[.int .i64 5, .int .u32 (IntKind.wrap .u32 (p + 2))]) (fun w h => E.run_build #[.int .i64 5, .int .u32 (IntKind.wrap .u32 (p + 2))] (by kernel_rfl) w) ?_
  refine E.st 2 [.int .i64 0, .int .i64 0, .int .i64 0, .int .i64 0, .int .u32 0] rfl rfl ?_
  refine E.st 1 [.int .i64 5, .int .u32 (IntKind.wrap .u32 (p + 2))] rfl rfl ?_
  refine E.To.code ?_
  refine E.C.ret (E.P.rt (E.P.rb (E.P.rt (E.P.rt (E.P.rb (E.P.rt (E.To.body (fn := Try.f58) [.agg #[.int .i64 0, .int .i64 0, .int .i64 0, .int .i64 0, .int .u32 0], .agg #[.int .i64 5, .int .u32 (IntKind.wrap .u32 (p + 2))]] ?_ ?_)))))))
  · exact ⟨⟨by kernel_rfl, _, _, 2, _, rfl, rfl, by kernel_rfl⟩, ⟨by kernel_rfl, _, _, 1, _, rfl, rfl, by kernel_rfl⟩, trivial⟩
  intro w h
  exact ⟨by show Ending.returned (.tuple #[.agg #[.int .i64 0, .int .i64 0, .int .i64 0, .int .i64 0, .int .u32 0], .agg #[.int .i64 5, .int .u32 (IntKind.wrap .u32 (p + 2))]]) = _; unfold Q.fetch; rw [hc3, cond_false, hc5, cond_false, hc6, cond_false, hc7, cond_true] <;> rfl, h.ch.bel (fun _ h => h.elim)⟩
 refine E.C.skip (E.To.code ?_)
 refine E.C.region ?_
 refine E.op (.int .i64 2) ?_
 refine E.op (.int .u8 ((V.fetch ((IntKind.wrap .u32 (p + 2))).toNat).1)) ?_
 refine E.op (.pointer (some ⟨g4, 2, none⟩)) ?_
 refine E.st 0 [.int .u8 ((V.fetch ((IntKind.wrap .u32 (p + 0))).toNat).1), .int .u8 ((V.fetch ((IntKind.wrap .u32 (p + 1))).toNat).1), .int .u8 ((V.fetch ((IntKind.wrap .u32 (p + 2))).toNat).1), .int .u8 0] rfl rfl ?_
 refine E.P.nb (E.To.code ?_)
 refine E.C.region ?_
 refine E.op (.int .i64 3) ?_
 refine E.op (.int .i64 3) ?_
 refine E.To.rounds 1 ?_
 refine E.wk [(0, .int .u32 p), (1, .iface 82 (.pointer (some ⟨m, 0, none⟩))), (4, .pointer (some ⟨g1, 0, none⟩)), (5, .pointer (some ⟨g2, 0, none⟩)), (6, .pointer (some ⟨g4, 0, none⟩)), (7, .int .i64 2), (8, .int .u8 ((V.fetch ((IntKind.wrap .u32 (p + 2))).toNat).1)), (9, .bool ((V.fetch ((IntKind.wrap .u32 (p + 2))).toNat).2)), (17, .int .i64 3), (18, .bool true), (19, .int .i64 2), (20, .tuple #[.int .u8 ((V.fetch ((IntKind.wrap .u32 (p + 2))).toNat).1), .bool ((V.fetch ((IntKind.wrap .u32 (p + 2))).toNat).2)]), (21, .iface 82 (.pointer (some ⟨m, 0, none⟩))), (22, .int .u32 p), (23, .int .i64 2), (24, .int .u32 2), (25, .int .u32 (IntKind.wrap .u32 (p + 2))), (26, .tuple #[.int .u8 ((V.fetch ((IntKind.wrap .u32 (p + 2))).toNat).1), .bool ((V.fetch ((IntKind.wrap .u32 (p + 2))).toNat).2)]), (27, .int .u8 ((V.fetch ((IntKind.wrap .u32 (p + 2))).toNat).1)), (28, .bool ((V.fetch ((IntKind.wrap .u32 (p + 2))).toNat).2)), (29, .bool ((V.fetch ((IntKind.wrap .u32 (p + 2))).toNat).2)), (30, .bool (!((V.fetch ((IntKind.wrap .u32 (p + 2))).toNat).2))), (37, .int .i64 2), (38, .int .u8 ((V.fetch ((IntKind.wrap .u32 (p + 2))).toNat).1)), (39, .pointer (some ⟨g4, 2, none⟩)), (40, .int .i64 3)] [(g4, [.int .u8 ((V.fetch ((IntKind.wrap .u32 (p + 0))).toNat).1), .int .u8 ((V.fetch ((IntKind.wrap .u32 (p + 1))).toNat).1), .int .u8 ((V.fetch ((IntKind.wrap .u32 (p + 2))).toNat).1), .int .u8 0]), (g2, [.int .i64 0, .int .u32 0]), (g1, [.int .i64 0, .int .i64 0, .int .i64 0, .int .i64 0, .int .u32 0])] (List.Sublist.refl _) ?_
 refine E.sr ?_
 refine E.op (.bool true) ?_
 refine E.To.code ?_
 refine E.C.seq ?_
 refine E.C.condT (by kernel_rfl) (by kernel_rfl) ?_
 refine E.C.skip (E.To.code ?_)
 refine E.C.seq ?_
 refine E.C.block ?_
 refine E.sr ?_
 refine E.op (.int .i64 3) ?_
 refine E.op (.int .i64 3) ?_
 refine E.tr ?_
 refine E.op (.iface 82 (.pointer (some ⟨m, 0, none⟩))) ?_
 refine E.op (.int .u32 p) ?_
 refine E.op (.int .i64 3) ?_
 refine E.op (.int .u32 3) ?_
 refine E.op (.int .u32 (IntKind.wrap .u32 (p + 3))) ?_
 refine E.G.call (.tuple #[.int .u8 ((V.fetch ((IntKind.wrap .u32 (p + 3))).toNat).1), .bool ((V.fetch ((IntKind.wrap .u32 (p + 3))).toNat).2)]) (fun w h => A.Y.rd [] (I_Fetch (IntKind.wrap .u32 (p + 3)) (Q.wrap_bd _) (m := m) (V := V) (xs := xs)) h.x (A.pn [0])) (fun w _ => by kernel_rfl) (by kernel_rfl) ?_
 refine E.op (.tuple #[.int .u8 ((V.fetch ((IntKind.wrap .u32 (p + 3))).toNat).1), .bool ((V.fetch ((IntKind.wrap .u32 (p + 3))).toNat).2)]) ?_
 refine E.op (.int .u8 ((V.fetch ((IntKind.wrap .u32 (p + 3))).toNat).1)) ?_
 refine E.op (.bool ((V.fetch ((IntKind.wrap .u32 (p + 3))).toNat).2)) ?_
 refine E.op (.int .u8 ((V.fetch ((IntKind.wrap .u32 (p + 3))).toNat).1)) ?_
 refine E.op (.bool ((V.fetch ((IntKind.wrap .u32 (p + 3))).toNat).2)) ?_
 refine E.To.code ?_
 refine E.C.seq ?_
 refine E.sr ?_
 refine E.op (.bool ((V.fetch ((IntKind.wrap .u32 (p + 3))).toNat).2)) ?_
 refine E.op (.bool (!((V.fetch ((IntKind.wrap .u32 (p + 3))).toNat).2))) ?_
 refine E.To.code ?_
 refine E.cd (!((V.fetch ((IntKind.wrap .u32 (p + 3))).toNat).2)) (fun hc8 => ?_) (fun hc8 => ?_)
 ·
  refine E.sr ?_
  refine E.vl (.agg #[.int .i64 0, .int .i64 0, .int .i64 0, .int .i64 0, .int .u32 0]) (fun w h => E.run_build #[.int .i64 0, .int .i64 0, .int .i64 0, .int .i64 0, .int .u32 0] (by kernel_rfl) w) ?_
  refine E.op (.int .u32 p) ?_
  refine E.op (.int .i64 3) ?_
  refine E.op (.int .u32 3) ?_
  refine E.op (.int .u32 (IntKind.wrap .u32 (p + 3))) ?_
  refine E.vl (.agg #[.int .i64 5, .int .u32 (IntKind.wrap .u32 (p + 3))]) (fun w h => E.run_build #[.int .i64 5, .int .u32 (IntKind.wrap .u32 (p + 3))] (by kernel_rfl) w) ?_
  refine E.st 2 [.int .i64 0, .int .i64 0, .int .i64 0, .int .i64 0, .int .u32 0] rfl rfl ?_
  refine E.st 1 [.int .i64 5, .int .u32 (IntKind.wrap .u32 (p + 3))] rfl rfl ?_
  refine E.To.code ?_
  refine E.C.ret (E.P.rt (E.P.rb (E.P.rt (E.P.rt (E.P.rb (E.P.rt (E.To.body (fn := Try.f58) [.agg #[.int .i64 0, .int .i64 0, .int .i64 0, .int .i64 0, .int .u32 0], .agg #[.int .i64 5, .int .u32 (IntKind.wrap .u32 (p + 3))]] ?_ ?_)))))))
  · exact ⟨⟨by kernel_rfl, _, _, 2, _, rfl, rfl, by kernel_rfl⟩, ⟨by kernel_rfl, _, _, 1, _, rfl, rfl, by kernel_rfl⟩, trivial⟩
  intro w h
  exact ⟨by show Ending.returned (.tuple #[.agg #[.int .i64 0, .int .i64 0, .int .i64 0, .int .i64 0, .int .u32 0], .agg #[.int .i64 5, .int .u32 (IntKind.wrap .u32 (p + 3))]]) = _; unfold Q.fetch; rw [hc3, cond_false, hc5, cond_false, hc6, cond_false, hc7, cond_false, hc8, cond_true] <;> rfl, h.ch.bel (fun _ h => h.elim)⟩
 refine E.C.skip (E.To.code ?_)
 refine E.C.region ?_
 refine E.op (.int .i64 3) ?_
 refine E.op (.int .u8 ((V.fetch ((IntKind.wrap .u32 (p + 3))).toNat).1)) ?_
 refine E.op (.pointer (some ⟨g4, 3, none⟩)) ?_
 refine E.st 0 [.int .u8 ((V.fetch ((IntKind.wrap .u32 (p + 0))).toNat).1), .int .u8 ((V.fetch ((IntKind.wrap .u32 (p + 1))).toNat).1), .int .u8 ((V.fetch ((IntKind.wrap .u32 (p + 2))).toNat).1), .int .u8 ((V.fetch ((IntKind.wrap .u32 (p + 3))).toNat).1)] rfl rfl ?_
 refine E.P.nb (E.To.code ?_)
 refine E.C.region ?_
 refine E.op (.int .i64 4) ?_
 refine E.op (.int .i64 4) ?_
 refine E.To.rounds 0 ?_
 refine E.wk [(0, .int .u32 p), (1, .iface 82 (.pointer (some ⟨m, 0, none⟩))), (4, .pointer (some ⟨g1, 0, none⟩)), (5, .pointer (some ⟨g2, 0, none⟩)), (6, .pointer (some ⟨g4, 0, none⟩)), (7, .int .i64 3), (8, .int .u8 ((V.fetch ((IntKind.wrap .u32 (p + 3))).toNat).1)), (9, .bool ((V.fetch ((IntKind.wrap .u32 (p + 3))).toNat).2)), (17, .int .i64 4), (18, .bool true), (19, .int .i64 3), (20, .tuple #[.int .u8 ((V.fetch ((IntKind.wrap .u32 (p + 3))).toNat).1), .bool ((V.fetch ((IntKind.wrap .u32 (p + 3))).toNat).2)]), (21, .iface 82 (.pointer (some ⟨m, 0, none⟩))), (22, .int .u32 p), (23, .int .i64 3), (24, .int .u32 3), (25, .int .u32 (IntKind.wrap .u32 (p + 3))), (26, .tuple #[.int .u8 ((V.fetch ((IntKind.wrap .u32 (p + 3))).toNat).1), .bool ((V.fetch ((IntKind.wrap .u32 (p + 3))).toNat).2)]), (27, .int .u8 ((V.fetch ((IntKind.wrap .u32 (p + 3))).toNat).1)), (28, .bool ((V.fetch ((IntKind.wrap .u32 (p + 3))).toNat).2)), (29, .bool ((V.fetch ((IntKind.wrap .u32 (p + 3))).toNat).2)), (30, .bool (!((V.fetch ((IntKind.wrap .u32 (p + 3))).toNat).2))), (37, .int .i64 3), (38, .int .u8 ((V.fetch ((IntKind.wrap .u32 (p + 3))).toNat).1)), (39, .pointer (some ⟨g4, 3, none⟩)), (40, .int .i64 4)] [(g4, [.int .u8 ((V.fetch ((IntKind.wrap .u32 (p + 0))).toNat).1), .int .u8 ((V.fetch ((IntKind.wrap .u32 (p + 1))).toNat).1), .int .u8 ((V.fetch ((IntKind.wrap .u32 (p + 2))).toNat).1), .int .u8 ((V.fetch ((IntKind.wrap .u32 (p + 3))).toNat).1)]), (g2, [.int .i64 0, .int .u32 0]), (g1, [.int .i64 0, .int .i64 0, .int .i64 0, .int .i64 0, .int .u32 0])] (List.Sublist.refl _) ?_
 refine E.sr ?_
 refine E.op (.bool false) ?_
 refine E.To.code ?_
 refine E.C.seq ?_
 refine E.C.condF (by kernel_rfl) (by kernel_rfl) ?_
 refine E.C.exit (E.P.et (E.P.et (E.P.eh (E.To.code ?_))))
 refine E.wk [(4, .pointer (some ⟨g1, 0, none⟩)), (5, .pointer (some ⟨g2, 0, none⟩)), (6, .pointer (some ⟨g4, 0, none⟩))] [(g4, [.int .u8 ((V.fetch ((IntKind.wrap .u32 (p + 0))).toNat).1), .int .u8 ((V.fetch ((IntKind.wrap .u32 (p + 1))).toNat).1), .int .u8 ((V.fetch ((IntKind.wrap .u32 (p + 2))).toNat).1), .int .u8 ((V.fetch ((IntKind.wrap .u32 (p + 3))).toNat).1)]), (g2, [.int .i64 0, .int .u32 0]), (g1, [.int .i64 0, .int .i64 0, .int .i64 0, .int .i64 0, .int .u32 0])] (List.Sublist.refl _) ?_
 refine E.sr ?_
 refine E.vl (.slice (some ⟨g4, 0, none⟩) 4 4) (fun w h => by kernel_rfl) ?_
 refine E.vl (.string (strOfNums [(V.fetch ((IntKind.wrap .u32 (p + 0))).toNat).1, (V.fetch ((IntKind.wrap .u32 (p + 1))).toNat).1, (V.fetch ((IntKind.wrap .u32 (p + 2))).toNat).1, (V.fetch ((IntKind.wrap .u32 (p + 3))).toNat).1])) (fun w h => E.b2s h 0 g4 0 4 4 [(V.fetch ((IntKind.wrap .u32 (p + 0))).toNat).1, (V.fetch ((IntKind.wrap .u32 (p + 1))).toNat).1, (V.fetch ((IntKind.wrap .u32 (p + 2))).toNat).1, (V.fetch ((IntKind.wrap .u32 (p + 3))).toNat).1] (e := 5) (by kernel_rfl) (by kernel_rfl) (by kernel_rfl) (by kernel_rfl) rfl (by kernel_rfl) rfl) ?_
 refine E.G.call (.int .u32 (W.get (strOfNums [(V.fetch ((IntKind.wrap .u32 (p + 0))).toNat).1, (V.fetch ((IntKind.wrap .u32 (p + 1))).toNat).1, (V.fetch ((IntKind.wrap .u32 (p + 2))).toNat).1, (V.fetch ((IntKind.wrap .u32 (p + 3))).toNat).1]).data.toList)) (fun w h => Get_any (strOfNums [(V.fetch ((IntKind.wrap .u32 (p + 0))).toNat).1, (V.fetch ((IntKind.wrap .u32 (p + 1))).toNat).1, (V.fetch ((IntKind.wrap .u32 (p + 2))).toNat).1, (V.fetch ((IntKind.wrap .u32 (p + 3))).toNat).1]) (by rw [strOfNums_size]; show (4 : Nat) ≤ maxLen; decide) w) (fun w _ => by kernel_rfl) (by kernel_rfl) ?_
 refine E.G.call (.tuple #[.agg #[.int .i64 (((Q.decode (W.get (strOfNums [(V.fetch ((IntKind.wrap .u32 (p + 0))).toNat).1, (V.fetch ((IntKind.wrap .u32 (p + 1))).toNat).1, (V.fetch ((IntKind.wrap .u32 (p + 2))).toNat).1, (V.fetch ((IntKind.wrap .u32 (p + 3))).toNat).1]).data.toList)).1).op), .int .i64 (((Q.decode (W.get (strOfNums [(V.fetch ((IntKind.wrap .u32 (p + 0))).toNat).1, (V.fetch ((IntKind.wrap .u32 (p + 1))).toNat).1, (V.fetch ((IntKind.wrap .u32 (p + 2))).toNat).1, (V.fetch ((IntKind.wrap .u32 (p + 3))).toNat).1]).data.toList)).1).d), .int .i64 (((Q.decode (W.get (strOfNums [(V.fetch ((IntKind.wrap .u32 (p + 0))).toNat).1, (V.fetch ((IntKind.wrap .u32 (p + 1))).toNat).1, (V.fetch ((IntKind.wrap .u32 (p + 2))).toNat).1, (V.fetch ((IntKind.wrap .u32 (p + 3))).toNat).1]).data.toList)).1).a), .int .i64 (((Q.decode (W.get (strOfNums [(V.fetch ((IntKind.wrap .u32 (p + 0))).toNat).1, (V.fetch ((IntKind.wrap .u32 (p + 1))).toNat).1, (V.fetch ((IntKind.wrap .u32 (p + 2))).toNat).1, (V.fetch ((IntKind.wrap .u32 (p + 3))).toNat).1]).data.toList)).1).b), .int .u32 (((Q.decode (W.get (strOfNums [(V.fetch ((IntKind.wrap .u32 (p + 0))).toNat).1, (V.fetch ((IntKind.wrap .u32 (p + 1))).toNat).1, (V.fetch ((IntKind.wrap .u32 (p + 2))).toNat).1, (V.fetch ((IntKind.wrap .u32 (p + 3))).toNat).1]).data.toList)).1).imm)], .int .i64 ((Q.decode (W.get (strOfNums [(V.fetch ((IntKind.wrap .u32 (p + 0))).toNat).1, (V.fetch ((IntKind.wrap .u32 (p + 1))).toNat).1, (V.fetch ((IntKind.wrap .u32 (p + 2))).toNat).1, (V.fetch ((IntKind.wrap .u32 (p + 3))).toNat).1]).data.toList)).2)]) (fun w h => Decode_any (W.get (strOfNums [(V.fetch ((IntKind.wrap .u32 (p + 0))).toNat).1, (V.fetch ((IntKind.wrap .u32 (p + 1))).toNat).1, (V.fetch ((IntKind.wrap .u32 (p + 2))).toNat).1, (V.fetch ((IntKind.wrap .u32 (p + 3))).toNat).1]).data.toList) w) (fun w _ => by kernel_rfl) (by kernel_rfl) ?_
 refine E.op (.tuple #[.agg #[.int .i64 (((Q.decode (W.get (strOfNums [(V.fetch ((IntKind.wrap .u32 (p + 0))).toNat).1, (V.fetch ((IntKind.wrap .u32 (p + 1))).toNat).1, (V.fetch ((IntKind.wrap .u32 (p + 2))).toNat).1, (V.fetch ((IntKind.wrap .u32 (p + 3))).toNat).1]).data.toList)).1).op), .int .i64 (((Q.decode (W.get (strOfNums [(V.fetch ((IntKind.wrap .u32 (p + 0))).toNat).1, (V.fetch ((IntKind.wrap .u32 (p + 1))).toNat).1, (V.fetch ((IntKind.wrap .u32 (p + 2))).toNat).1, (V.fetch ((IntKind.wrap .u32 (p + 3))).toNat).1]).data.toList)).1).d), .int .i64 (((Q.decode (W.get (strOfNums [(V.fetch ((IntKind.wrap .u32 (p + 0))).toNat).1, (V.fetch ((IntKind.wrap .u32 (p + 1))).toNat).1, (V.fetch ((IntKind.wrap .u32 (p + 2))).toNat).1, (V.fetch ((IntKind.wrap .u32 (p + 3))).toNat).1]).data.toList)).1).a), .int .i64 (((Q.decode (W.get (strOfNums [(V.fetch ((IntKind.wrap .u32 (p + 0))).toNat).1, (V.fetch ((IntKind.wrap .u32 (p + 1))).toNat).1, (V.fetch ((IntKind.wrap .u32 (p + 2))).toNat).1, (V.fetch ((IntKind.wrap .u32 (p + 3))).toNat).1]).data.toList)).1).b), .int .u32 (((Q.decode (W.get (strOfNums [(V.fetch ((IntKind.wrap .u32 (p + 0))).toNat).1, (V.fetch ((IntKind.wrap .u32 (p + 1))).toNat).1, (V.fetch ((IntKind.wrap .u32 (p + 2))).toNat).1, (V.fetch ((IntKind.wrap .u32 (p + 3))).toNat).1]).data.toList)).1).imm)], .int .i64 ((Q.decode (W.get (strOfNums [(V.fetch ((IntKind.wrap .u32 (p + 0))).toNat).1, (V.fetch ((IntKind.wrap .u32 (p + 1))).toNat).1, (V.fetch ((IntKind.wrap .u32 (p + 2))).toNat).1, (V.fetch ((IntKind.wrap .u32 (p + 3))).toNat).1]).data.toList)).2)]) ?_
 refine E.op (.agg #[.int .i64 (((Q.decode (W.get (strOfNums [(V.fetch ((IntKind.wrap .u32 (p + 0))).toNat).1, (V.fetch ((IntKind.wrap .u32 (p + 1))).toNat).1, (V.fetch ((IntKind.wrap .u32 (p + 2))).toNat).1, (V.fetch ((IntKind.wrap .u32 (p + 3))).toNat).1]).data.toList)).1).op), .int .i64 (((Q.decode (W.get (strOfNums [(V.fetch ((IntKind.wrap .u32 (p + 0))).toNat).1, (V.fetch ((IntKind.wrap .u32 (p + 1))).toNat).1, (V.fetch ((IntKind.wrap .u32 (p + 2))).toNat).1, (V.fetch ((IntKind.wrap .u32 (p + 3))).toNat).1]).data.toList)).1).d), .int .i64 (((Q.decode (W.get (strOfNums [(V.fetch ((IntKind.wrap .u32 (p + 0))).toNat).1, (V.fetch ((IntKind.wrap .u32 (p + 1))).toNat).1, (V.fetch ((IntKind.wrap .u32 (p + 2))).toNat).1, (V.fetch ((IntKind.wrap .u32 (p + 3))).toNat).1]).data.toList)).1).a), .int .i64 (((Q.decode (W.get (strOfNums [(V.fetch ((IntKind.wrap .u32 (p + 0))).toNat).1, (V.fetch ((IntKind.wrap .u32 (p + 1))).toNat).1, (V.fetch ((IntKind.wrap .u32 (p + 2))).toNat).1, (V.fetch ((IntKind.wrap .u32 (p + 3))).toNat).1]).data.toList)).1).b), .int .u32 (((Q.decode (W.get (strOfNums [(V.fetch ((IntKind.wrap .u32 (p + 0))).toNat).1, (V.fetch ((IntKind.wrap .u32 (p + 1))).toNat).1, (V.fetch ((IntKind.wrap .u32 (p + 2))).toNat).1, (V.fetch ((IntKind.wrap .u32 (p + 3))).toNat).1]).data.toList)).1).imm)]) ?_
 refine E.op (.int .i64 ((Q.decode (W.get (strOfNums [(V.fetch ((IntKind.wrap .u32 (p + 0))).toNat).1, (V.fetch ((IntKind.wrap .u32 (p + 1))).toNat).1, (V.fetch ((IntKind.wrap .u32 (p + 2))).toNat).1, (V.fetch ((IntKind.wrap .u32 (p + 3))).toNat).1]).data.toList)).2)) ?_
 refine E.G.new (fun g => .pointer (some ⟨g, 0, none⟩)) [.int .i64 0, .int .i64 0, .int .i64 0, .int .i64 0, .int .u32 0] 47 (fun w => by kernel_rfl) (by kernel_rfl) (fun g9 => ?_)
 refine E.st 0 [.int .i64 (((Q.decode (W.get (strOfNums [(V.fetch ((IntKind.wrap .u32 (p + 0))).toNat).1, (V.fetch ((IntKind.wrap .u32 (p + 1))).toNat).1, (V.fetch ((IntKind.wrap .u32 (p + 2))).toNat).1, (V.fetch ((IntKind.wrap .u32 (p + 3))).toNat).1]).data.toList)).1).op), .int .i64 (((Q.decode (W.get (strOfNums [(V.fetch ((IntKind.wrap .u32 (p + 0))).toNat).1, (V.fetch ((IntKind.wrap .u32 (p + 1))).toNat).1, (V.fetch ((IntKind.wrap .u32 (p + 2))).toNat).1, (V.fetch ((IntKind.wrap .u32 (p + 3))).toNat).1]).data.toList)).1).d), .int .i64 (((Q.decode (W.get (strOfNums [(V.fetch ((IntKind.wrap .u32 (p + 0))).toNat).1, (V.fetch ((IntKind.wrap .u32 (p + 1))).toNat).1, (V.fetch ((IntKind.wrap .u32 (p + 2))).toNat).1, (V.fetch ((IntKind.wrap .u32 (p + 3))).toNat).1]).data.toList)).1).a), .int .i64 (((Q.decode (W.get (strOfNums [(V.fetch ((IntKind.wrap .u32 (p + 0))).toNat).1, (V.fetch ((IntKind.wrap .u32 (p + 1))).toNat).1, (V.fetch ((IntKind.wrap .u32 (p + 2))).toNat).1, (V.fetch ((IntKind.wrap .u32 (p + 3))).toNat).1]).data.toList)).1).b), .int .u32 (((Q.decode (W.get (strOfNums [(V.fetch ((IntKind.wrap .u32 (p + 0))).toNat).1, (V.fetch ((IntKind.wrap .u32 (p + 1))).toNat).1, (V.fetch ((IntKind.wrap .u32 (p + 2))).toNat).1, (V.fetch ((IntKind.wrap .u32 (p + 3))).toNat).1]).data.toList)).1).imm)] rfl rfl ?_
 refine E.op (.int .i64 ((Q.decode (W.get (strOfNums [(V.fetch ((IntKind.wrap .u32 (p + 0))).toNat).1, (V.fetch ((IntKind.wrap .u32 (p + 1))).toNat).1, (V.fetch ((IntKind.wrap .u32 (p + 2))).toNat).1, (V.fetch ((IntKind.wrap .u32 (p + 3))).toNat).1]).data.toList)).2)) ?_
 refine E.To.code ?_
 refine E.wk [(4, .pointer (some ⟨g1, 0, none⟩)), (5, .pointer (some ⟨g2, 0, none⟩)), (10, .pointer (some ⟨g9, 0, none⟩)), (11, .int .i64 ((Q.decode (W.get (strOfNums [(V.fetch ((IntKind.wrap .u32 (p + 0))).toNat).1, (V.fetch ((IntKind.wrap .u32 (p + 1))).toNat).1, (V.fetch ((IntKind.wrap .u32 (p + 2))).toNat).1, (V.fetch ((IntKind.wrap .u32 (p + 3))).toNat).1]).data.toList)).2))] [(g9, [.int .i64 (((Q.decode (W.get (strOfNums [(V.fetch ((IntKind.wrap .u32 (p + 0))).toNat).1, (V.fetch ((IntKind.wrap .u32 (p + 1))).toNat).1, (V.fetch ((IntKind.wrap .u32 (p + 2))).toNat).1, (V.fetch ((IntKind.wrap .u32 (p + 3))).toNat).1]).data.toList)).1).op), .int .i64 (((Q.decode (W.get (strOfNums [(V.fetch ((IntKind.wrap .u32 (p + 0))).toNat).1, (V.fetch ((IntKind.wrap .u32 (p + 1))).toNat).1, (V.fetch ((IntKind.wrap .u32 (p + 2))).toNat).1, (V.fetch ((IntKind.wrap .u32 (p + 3))).toNat).1]).data.toList)).1).d), .int .i64 (((Q.decode (W.get (strOfNums [(V.fetch ((IntKind.wrap .u32 (p + 0))).toNat).1, (V.fetch ((IntKind.wrap .u32 (p + 1))).toNat).1, (V.fetch ((IntKind.wrap .u32 (p + 2))).toNat).1, (V.fetch ((IntKind.wrap .u32 (p + 3))).toNat).1]).data.toList)).1).a), .int .i64 (((Q.decode (W.get (strOfNums [(V.fetch ((IntKind.wrap .u32 (p + 0))).toNat).1, (V.fetch ((IntKind.wrap .u32 (p + 1))).toNat).1, (V.fetch ((IntKind.wrap .u32 (p + 2))).toNat).1, (V.fetch ((IntKind.wrap .u32 (p + 3))).toNat).1]).data.toList)).1).b), .int .u32 (((Q.decode (W.get (strOfNums [(V.fetch ((IntKind.wrap .u32 (p + 0))).toNat).1, (V.fetch ((IntKind.wrap .u32 (p + 1))).toNat).1, (V.fetch ((IntKind.wrap .u32 (p + 2))).toNat).1, (V.fetch ((IntKind.wrap .u32 (p + 3))).toNat).1]).data.toList)).1).imm)]), (g2, [.int .i64 0, .int .u32 0]), (g1, [.int .i64 0, .int .i64 0, .int .i64 0, .int .i64 0, .int .u32 0])] (List.Sublist.cons_cons _ (List.Sublist.cons _ (List.Sublist.refl _))) ?_
 refine E.C.seq ?_
 refine E.sr ?_
 refine E.op (.int .i64 ((Q.decode (W.get (strOfNums [(V.fetch ((IntKind.wrap .u32 (p + 0))).toNat).1, (V.fetch ((IntKind.wrap .u32 (p + 1))).toNat).1, (V.fetch ((IntKind.wrap .u32 (p + 2))).toNat).1, (V.fetch ((IntKind.wrap .u32 (p + 3))).toNat).1]).data.toList)).2)) ?_
 refine E.op (.bool (((Q.decode (W.get (strOfNums [(V.fetch ((IntKind.wrap .u32 (p + 0))).toNat).1, (V.fetch ((IntKind.wrap .u32 (p + 1))).toNat).1, (V.fetch ((IntKind.wrap .u32 (p + 2))).toNat).1, (V.fetch ((IntKind.wrap .u32 (p + 3))).toNat).1]).data.toList)).2) != 0)) ?_
 refine E.To.code ?_
 refine E.cd (((Q.decode (W.get (strOfNums [(V.fetch ((IntKind.wrap .u32 (p + 0))).toNat).1, (V.fetch ((IntKind.wrap .u32 (p + 1))).toNat).1, (V.fetch ((IntKind.wrap .u32 (p + 2))).toNat).1, (V.fetch ((IntKind.wrap .u32 (p + 3))).toNat).1]).data.toList)).2) != 0) (fun hc10 => ?_) (fun hc10 => ?_)
 ·
  refine E.sr ?_
  refine E.li (.agg #[.int .i64 (((Q.decode (W.get (strOfNums [(V.fetch ((IntKind.wrap .u32 (p + 0))).toNat).1, (V.fetch ((IntKind.wrap .u32 (p + 1))).toNat).1, (V.fetch ((IntKind.wrap .u32 (p + 2))).toNat).1, (V.fetch ((IntKind.wrap .u32 (p + 3))).toNat).1]).data.toList)).1).op), .int .i64 (((Q.decode (W.get (strOfNums [(V.fetch ((IntKind.wrap .u32 (p + 0))).toNat).1, (V.fetch ((IntKind.wrap .u32 (p + 1))).toNat).1, (V.fetch ((IntKind.wrap .u32 (p + 2))).toNat).1, (V.fetch ((IntKind.wrap .u32 (p + 3))).toNat).1]).data.toList)).1).d), .int .i64 (((Q.decode (W.get (strOfNums [(V.fetch ((IntKind.wrap .u32 (p + 0))).toNat).1, (V.fetch ((IntKind.wrap .u32 (p + 1))).toNat).1, (V.fetch ((IntKind.wrap .u32 (p + 2))).toNat).1, (V.fetch ((IntKind.wrap .u32 (p + 3))).toNat).1]).data.toList)).1).a), .int .i64 (((Q.decode (W.get (strOfNums [(V.fetch ((IntKind.wrap .u32 (p + 0))).toNat).1, (V.fetch ((IntKind.wrap .u32 (p + 1))).toNat).1, (V.fetch ((IntKind.wrap .u32 (p + 2))).toNat).1, (V.fetch ((IntKind.wrap .u32 (p + 3))).toNat).1]).data.toList)).1).b), .int .u32 (((Q.decode (W.get (strOfNums [(V.fetch ((IntKind.wrap .u32 (p + 0))).toNat).1, (V.fetch ((IntKind.wrap .u32 (p + 1))).toNat).1, (V.fetch ((IntKind.wrap .u32 (p + 2))).toNat).1, (V.fetch ((IntKind.wrap .u32 (p + 3))).toNat).1]).data.toList)).1).imm)]) 0 rfl rfl ?_
  refine E.vl (.agg #[.int .i64 7, .int .u32 0]) (fun w h => E.run_build #[.int .i64 7, .int .u32 0] (by kernel_rfl) w) ?_
  refine E.st 2 [.int .i64 (((Q.decode (W.get (strOfNums [(V.fetch ((IntKind.wrap .u32 (p + 0))).toNat).1, (V.fetch ((IntKind.wrap .u32 (p + 1))).toNat).1, (V.fetch ((IntKind.wrap .u32 (p + 2))).toNat).1, (V.fetch ((IntKind.wrap .u32 (p + 3))).toNat).1]).data.toList)).1).op), .int .i64 (((Q.decode (W.get (strOfNums [(V.fetch ((IntKind.wrap .u32 (p + 0))).toNat).1, (V.fetch ((IntKind.wrap .u32 (p + 1))).toNat).1, (V.fetch ((IntKind.wrap .u32 (p + 2))).toNat).1, (V.fetch ((IntKind.wrap .u32 (p + 3))).toNat).1]).data.toList)).1).d), .int .i64 (((Q.decode (W.get (strOfNums [(V.fetch ((IntKind.wrap .u32 (p + 0))).toNat).1, (V.fetch ((IntKind.wrap .u32 (p + 1))).toNat).1, (V.fetch ((IntKind.wrap .u32 (p + 2))).toNat).1, (V.fetch ((IntKind.wrap .u32 (p + 3))).toNat).1]).data.toList)).1).a), .int .i64 (((Q.decode (W.get (strOfNums [(V.fetch ((IntKind.wrap .u32 (p + 0))).toNat).1, (V.fetch ((IntKind.wrap .u32 (p + 1))).toNat).1, (V.fetch ((IntKind.wrap .u32 (p + 2))).toNat).1, (V.fetch ((IntKind.wrap .u32 (p + 3))).toNat).1]).data.toList)).1).b), .int .u32 (((Q.decode (W.get (strOfNums [(V.fetch ((IntKind.wrap .u32 (p + 0))).toNat).1, (V.fetch ((IntKind.wrap .u32 (p + 1))).toNat).1, (V.fetch ((IntKind.wrap .u32 (p + 2))).toNat).1, (V.fetch ((IntKind.wrap .u32 (p + 3))).toNat).1]).data.toList)).1).imm)] rfl rfl ?_
  refine E.st 1 [.int .i64 7, .int .u32 0] rfl rfl ?_
  refine E.To.code ?_
  refine E.C.ret (E.P.rt (E.To.body (fn := Try.f58) [.agg #[.int .i64 (((Q.decode (W.get (strOfNums [(V.fetch ((IntKind.wrap .u32 (p + 0))).toNat).1, (V.fetch ((IntKind.wrap .u32 (p + 1))).toNat).1, (V.fetch ((IntKind.wrap .u32 (p + 2))).toNat).1, (V.fetch ((IntKind.wrap .u32 (p + 3))).toNat).1]).data.toList)).1).op), .int .i64 (((Q.decode (W.get (strOfNums [(V.fetch ((IntKind.wrap .u32 (p + 0))).toNat).1, (V.fetch ((IntKind.wrap .u32 (p + 1))).toNat).1, (V.fetch ((IntKind.wrap .u32 (p + 2))).toNat).1, (V.fetch ((IntKind.wrap .u32 (p + 3))).toNat).1]).data.toList)).1).d), .int .i64 (((Q.decode (W.get (strOfNums [(V.fetch ((IntKind.wrap .u32 (p + 0))).toNat).1, (V.fetch ((IntKind.wrap .u32 (p + 1))).toNat).1, (V.fetch ((IntKind.wrap .u32 (p + 2))).toNat).1, (V.fetch ((IntKind.wrap .u32 (p + 3))).toNat).1]).data.toList)).1).a), .int .i64 (((Q.decode (W.get (strOfNums [(V.fetch ((IntKind.wrap .u32 (p + 0))).toNat).1, (V.fetch ((IntKind.wrap .u32 (p + 1))).toNat).1, (V.fetch ((IntKind.wrap .u32 (p + 2))).toNat).1, (V.fetch ((IntKind.wrap .u32 (p + 3))).toNat).1]).data.toList)).1).b), .int .u32 (((Q.decode (W.get (strOfNums [(V.fetch ((IntKind.wrap .u32 (p + 0))).toNat).1, (V.fetch ((IntKind.wrap .u32 (p + 1))).toNat).1, (V.fetch ((IntKind.wrap .u32 (p + 2))).toNat).1, (V.fetch ((IntKind.wrap .u32 (p + 3))).toNat).1]).data.toList)).1).imm)], .agg #[.int .i64 7, .int .u32 0]] ?_ ?_))
  · exact ⟨⟨by kernel_rfl, _, _, 2, _, rfl, rfl, by kernel_rfl⟩, ⟨by kernel_rfl, _, _, 1, _, rfl, rfl, by kernel_rfl⟩, trivial⟩
  intro w h
  exact ⟨by show Ending.returned (.tuple #[.agg #[.int .i64 (((Q.decode (W.get (strOfNums [(V.fetch ((IntKind.wrap .u32 (p + 0))).toNat).1, (V.fetch ((IntKind.wrap .u32 (p + 1))).toNat).1, (V.fetch ((IntKind.wrap .u32 (p + 2))).toNat).1, (V.fetch ((IntKind.wrap .u32 (p + 3))).toNat).1]).data.toList)).1).op), .int .i64 (((Q.decode (W.get (strOfNums [(V.fetch ((IntKind.wrap .u32 (p + 0))).toNat).1, (V.fetch ((IntKind.wrap .u32 (p + 1))).toNat).1, (V.fetch ((IntKind.wrap .u32 (p + 2))).toNat).1, (V.fetch ((IntKind.wrap .u32 (p + 3))).toNat).1]).data.toList)).1).d), .int .i64 (((Q.decode (W.get (strOfNums [(V.fetch ((IntKind.wrap .u32 (p + 0))).toNat).1, (V.fetch ((IntKind.wrap .u32 (p + 1))).toNat).1, (V.fetch ((IntKind.wrap .u32 (p + 2))).toNat).1, (V.fetch ((IntKind.wrap .u32 (p + 3))).toNat).1]).data.toList)).1).a), .int .i64 (((Q.decode (W.get (strOfNums [(V.fetch ((IntKind.wrap .u32 (p + 0))).toNat).1, (V.fetch ((IntKind.wrap .u32 (p + 1))).toNat).1, (V.fetch ((IntKind.wrap .u32 (p + 2))).toNat).1, (V.fetch ((IntKind.wrap .u32 (p + 3))).toNat).1]).data.toList)).1).b), .int .u32 (((Q.decode (W.get (strOfNums [(V.fetch ((IntKind.wrap .u32 (p + 0))).toNat).1, (V.fetch ((IntKind.wrap .u32 (p + 1))).toNat).1, (V.fetch ((IntKind.wrap .u32 (p + 2))).toNat).1, (V.fetch ((IntKind.wrap .u32 (p + 3))).toNat).1]).data.toList)).1).imm)], .agg #[.int .i64 7, .int .u32 0]]) = _; unfold Q.fetch; rw [hc3, cond_false, hc5, cond_false, hc6, cond_false, hc7, cond_false, hc8, cond_false, hc10, cond_true] <;> rfl, h.ch.bel (fun _ h => h.elim)⟩
 refine E.C.skip (E.To.code ?_)
 refine E.sr ?_
 refine E.li (.agg #[.int .i64 (((Q.decode (W.get (strOfNums [(V.fetch ((IntKind.wrap .u32 (p + 0))).toNat).1, (V.fetch ((IntKind.wrap .u32 (p + 1))).toNat).1, (V.fetch ((IntKind.wrap .u32 (p + 2))).toNat).1, (V.fetch ((IntKind.wrap .u32 (p + 3))).toNat).1]).data.toList)).1).op), .int .i64 (((Q.decode (W.get (strOfNums [(V.fetch ((IntKind.wrap .u32 (p + 0))).toNat).1, (V.fetch ((IntKind.wrap .u32 (p + 1))).toNat).1, (V.fetch ((IntKind.wrap .u32 (p + 2))).toNat).1, (V.fetch ((IntKind.wrap .u32 (p + 3))).toNat).1]).data.toList)).1).d), .int .i64 (((Q.decode (W.get (strOfNums [(V.fetch ((IntKind.wrap .u32 (p + 0))).toNat).1, (V.fetch ((IntKind.wrap .u32 (p + 1))).toNat).1, (V.fetch ((IntKind.wrap .u32 (p + 2))).toNat).1, (V.fetch ((IntKind.wrap .u32 (p + 3))).toNat).1]).data.toList)).1).a), .int .i64 (((Q.decode (W.get (strOfNums [(V.fetch ((IntKind.wrap .u32 (p + 0))).toNat).1, (V.fetch ((IntKind.wrap .u32 (p + 1))).toNat).1, (V.fetch ((IntKind.wrap .u32 (p + 2))).toNat).1, (V.fetch ((IntKind.wrap .u32 (p + 3))).toNat).1]).data.toList)).1).b), .int .u32 (((Q.decode (W.get (strOfNums [(V.fetch ((IntKind.wrap .u32 (p + 0))).toNat).1, (V.fetch ((IntKind.wrap .u32 (p + 1))).toNat).1, (V.fetch ((IntKind.wrap .u32 (p + 2))).toNat).1, (V.fetch ((IntKind.wrap .u32 (p + 3))).toNat).1]).data.toList)).1).imm)]) 0 rfl rfl ?_
 refine E.vl (.agg #[.int .i64 0, .int .u32 0]) (fun w h => E.run_build #[.int .i64 0, .int .u32 0] (by kernel_rfl) w) ?_
 refine E.st 2 [.int .i64 (((Q.decode (W.get (strOfNums [(V.fetch ((IntKind.wrap .u32 (p + 0))).toNat).1, (V.fetch ((IntKind.wrap .u32 (p + 1))).toNat).1, (V.fetch ((IntKind.wrap .u32 (p + 2))).toNat).1, (V.fetch ((IntKind.wrap .u32 (p + 3))).toNat).1]).data.toList)).1).op), .int .i64 (((Q.decode (W.get (strOfNums [(V.fetch ((IntKind.wrap .u32 (p + 0))).toNat).1, (V.fetch ((IntKind.wrap .u32 (p + 1))).toNat).1, (V.fetch ((IntKind.wrap .u32 (p + 2))).toNat).1, (V.fetch ((IntKind.wrap .u32 (p + 3))).toNat).1]).data.toList)).1).d), .int .i64 (((Q.decode (W.get (strOfNums [(V.fetch ((IntKind.wrap .u32 (p + 0))).toNat).1, (V.fetch ((IntKind.wrap .u32 (p + 1))).toNat).1, (V.fetch ((IntKind.wrap .u32 (p + 2))).toNat).1, (V.fetch ((IntKind.wrap .u32 (p + 3))).toNat).1]).data.toList)).1).a), .int .i64 (((Q.decode (W.get (strOfNums [(V.fetch ((IntKind.wrap .u32 (p + 0))).toNat).1, (V.fetch ((IntKind.wrap .u32 (p + 1))).toNat).1, (V.fetch ((IntKind.wrap .u32 (p + 2))).toNat).1, (V.fetch ((IntKind.wrap .u32 (p + 3))).toNat).1]).data.toList)).1).b), .int .u32 (((Q.decode (W.get (strOfNums [(V.fetch ((IntKind.wrap .u32 (p + 0))).toNat).1, (V.fetch ((IntKind.wrap .u32 (p + 1))).toNat).1, (V.fetch ((IntKind.wrap .u32 (p + 2))).toNat).1, (V.fetch ((IntKind.wrap .u32 (p + 3))).toNat).1]).data.toList)).1).imm)] rfl rfl ?_
 refine E.st 1 [.int .i64 0, .int .u32 0] rfl rfl ?_
 refine E.To.code ?_
 refine E.C.ret (E.To.body (fn := Try.f58) [.agg #[.int .i64 (((Q.decode (W.get (strOfNums [(V.fetch ((IntKind.wrap .u32 (p + 0))).toNat).1, (V.fetch ((IntKind.wrap .u32 (p + 1))).toNat).1, (V.fetch ((IntKind.wrap .u32 (p + 2))).toNat).1, (V.fetch ((IntKind.wrap .u32 (p + 3))).toNat).1]).data.toList)).1).op), .int .i64 (((Q.decode (W.get (strOfNums [(V.fetch ((IntKind.wrap .u32 (p + 0))).toNat).1, (V.fetch ((IntKind.wrap .u32 (p + 1))).toNat).1, (V.fetch ((IntKind.wrap .u32 (p + 2))).toNat).1, (V.fetch ((IntKind.wrap .u32 (p + 3))).toNat).1]).data.toList)).1).d), .int .i64 (((Q.decode (W.get (strOfNums [(V.fetch ((IntKind.wrap .u32 (p + 0))).toNat).1, (V.fetch ((IntKind.wrap .u32 (p + 1))).toNat).1, (V.fetch ((IntKind.wrap .u32 (p + 2))).toNat).1, (V.fetch ((IntKind.wrap .u32 (p + 3))).toNat).1]).data.toList)).1).a), .int .i64 (((Q.decode (W.get (strOfNums [(V.fetch ((IntKind.wrap .u32 (p + 0))).toNat).1, (V.fetch ((IntKind.wrap .u32 (p + 1))).toNat).1, (V.fetch ((IntKind.wrap .u32 (p + 2))).toNat).1, (V.fetch ((IntKind.wrap .u32 (p + 3))).toNat).1]).data.toList)).1).b), .int .u32 (((Q.decode (W.get (strOfNums [(V.fetch ((IntKind.wrap .u32 (p + 0))).toNat).1, (V.fetch ((IntKind.wrap .u32 (p + 1))).toNat).1, (V.fetch ((IntKind.wrap .u32 (p + 2))).toNat).1, (V.fetch ((IntKind.wrap .u32 (p + 3))).toNat).1]).data.toList)).1).imm)], .agg #[.int .i64 0, .int .u32 0]] ?_ ?_)
 · exact ⟨⟨by kernel_rfl, _, _, 2, _, rfl, rfl, by kernel_rfl⟩, ⟨by kernel_rfl, _, _, 1, _, rfl, rfl, by kernel_rfl⟩, trivial⟩
 intro w h
 exact ⟨by show Ending.returned (.tuple #[.agg #[.int .i64 (((Q.decode (W.get (strOfNums [(V.fetch ((IntKind.wrap .u32 (p + 0))).toNat).1, (V.fetch ((IntKind.wrap .u32 (p + 1))).toNat).1, (V.fetch ((IntKind.wrap .u32 (p + 2))).toNat).1, (V.fetch ((IntKind.wrap .u32 (p + 3))).toNat).1]).data.toList)).1).op), .int .i64 (((Q.decode (W.get (strOfNums [(V.fetch ((IntKind.wrap .u32 (p + 0))).toNat).1, (V.fetch ((IntKind.wrap .u32 (p + 1))).toNat).1, (V.fetch ((IntKind.wrap .u32 (p + 2))).toNat).1, (V.fetch ((IntKind.wrap .u32 (p + 3))).toNat).1]).data.toList)).1).d), .int .i64 (((Q.decode (W.get (strOfNums [(V.fetch ((IntKind.wrap .u32 (p + 0))).toNat).1, (V.fetch ((IntKind.wrap .u32 (p + 1))).toNat).1, (V.fetch ((IntKind.wrap .u32 (p + 2))).toNat).1, (V.fetch ((IntKind.wrap .u32 (p + 3))).toNat).1]).data.toList)).1).a), .int .i64 (((Q.decode (W.get (strOfNums [(V.fetch ((IntKind.wrap .u32 (p + 0))).toNat).1, (V.fetch ((IntKind.wrap .u32 (p + 1))).toNat).1, (V.fetch ((IntKind.wrap .u32 (p + 2))).toNat).1, (V.fetch ((IntKind.wrap .u32 (p + 3))).toNat).1]).data.toList)).1).b), .int .u32 (((Q.decode (W.get (strOfNums [(V.fetch ((IntKind.wrap .u32 (p + 0))).toNat).1, (V.fetch ((IntKind.wrap .u32 (p + 1))).toNat).1, (V.fetch ((IntKind.wrap .u32 (p + 2))).toNat).1, (V.fetch ((IntKind.wrap .u32 (p + 3))).toNat).1]).data.toList)).1).imm)], .agg #[.int .i64 0, .int .u32 0]]) = _; unfold Q.fetch; rw [hc3, cond_false, hc5, cond_false, hc6, cond_false, hc7, cond_false, hc8, cond_false, hc10, cond_false] <;> rfl, h.ch.bel (fun _ h => h.elim)⟩
def Q.stop (i : Q.I) : Int × Int := (bif (i.op == 48) then (4, i.imm) else (bif (i.op == 49) then (3, 0) else (bif (i.op == 50) then (2, 0) else (0, 0))))
theorem stop_any (i : Q.I) (w : World) : Calls Try.prog 59 #[.agg #[.int .i64 i.op, .int .i64 i.d, .int .i64 i.a, .int .i64 i.b, .int .u32 i.imm]] w fun e w' => e = .returned (.agg #[.int .i64 ((Q.stop i).1), .int .u32 ((Q.stop i).2)]) ∧ Bel w w' := by
 refine E.enter (n := 17) (S := fun _ => False) Try.func59 rfl rfl (by kernel_rfl) (E.Hp.start w) ?_
 refine E.sr ?_
 refine E.G.new (fun g => .pointer (some ⟨g, 0, none⟩)) [.int .i64 i.op, .int .i64 i.d, .int .i64 i.a, .int .i64 i.b, .int .u32 i.imm] 47 (fun w => by kernel_rfl) (by kernel_rfl) (fun g1 => ?_)
 refine E.G.new (fun g => .pointer (some ⟨g, 0, none⟩)) [.int .i64 0, .int .u32 0] 51 (fun w => by kernel_rfl) (by kernel_rfl) (fun g2 => ?_)
 refine E.To.code ?_
 refine E.C.seq ?_
 refine E.sr ?_
 refine E.op (.pointer (some ⟨g1, 0, none⟩)) ?_
 refine E.li (.int .i64 i.op) 1 rfl rfl ?_
 refine E.To.code ?_
 refine E.C.block ?_
 refine E.sr ?_
 refine E.op (.bool (i.op == 48)) ?_
 refine E.op (.bool (i.op == 48)) ?_
 refine E.To.code ?_
 refine E.cd (i.op == 48) (fun hc3 => ?_) (fun hc3 => ?_)
 ·
  refine E.sr ?_
  refine E.op (.pointer (some ⟨g1, 4, none⟩)) ?_
  refine E.li (.int .u32 i.imm) 1 rfl rfl ?_
  refine E.vl (.agg #[.int .i64 4, .int .u32 i.imm]) (fun w h => E.run_build #[.int .i64 4, .int .u32 i.imm] (by kernel_rfl) w) ?_
  refine E.st 0 [.int .i64 4, .int .u32 i.imm] rfl rfl ?_
  refine E.To.code ?_
  refine E.wk [(2, .pointer (some ⟨g2, 0, none⟩))] [(g2, [.int .i64 4, .int .u32 i.imm])] (List.Sublist.cons_cons _ (List.nil_sublist _)) ?_
  refine E.C.ret (E.P.rb (E.P.rt (E.To.body (fn := Try.f59) [.agg #[.int .i64 4, .int .u32 i.imm]] ?_ ?_)))
  · exact ⟨⟨by kernel_rfl, _, _, 0, _, rfl, rfl, by kernel_rfl⟩, trivial⟩
  intro w h
  exact ⟨by show Ending.returned (.agg #[.int .i64 4, .int .u32 i.imm]) = _; unfold Q.stop; rw [hc3, cond_true] <;> rfl, h.ch.bel (fun _ h => h.elim)⟩
 refine E.sr ?_
 refine E.op (.bool (i.op == 49)) ?_
 refine E.op (.bool (i.op == 49)) ?_
 refine E.To.code ?_
 refine E.cd (i.op == 49) (fun hc4 => ?_) (fun hc4 => ?_)
 ·
  refine E.sr ?_
  refine E.vl (.agg #[.int .i64 3, .int .u32 0]) (fun w h => E.run_build #[.int .i64 3, .int .u32 0] (by kernel_rfl) w) ?_
  refine E.st 0 [.int .i64 3, .int .u32 0] rfl rfl ?_
  refine E.To.code ?_
  refine E.wk [(2, .pointer (some ⟨g2, 0, none⟩))] [(g2, [.int .i64 3, .int .u32 0])] (List.Sublist.cons_cons _ (List.nil_sublist _)) ?_
  refine E.C.ret (E.P.rb (E.P.rt (E.To.body (fn := Try.f59) [.agg #[.int .i64 3, .int .u32 0]] ?_ ?_)))
  · exact ⟨⟨by kernel_rfl, _, _, 0, _, rfl, rfl, by kernel_rfl⟩, trivial⟩
  intro w h
  exact ⟨by show Ending.returned (.agg #[.int .i64 3, .int .u32 0]) = _; unfold Q.stop; rw [hc3, cond_false, hc4, cond_true] <;> rfl, h.ch.bel (fun _ h => h.elim)⟩
 refine E.sr ?_
 refine E.op (.bool (i.op == 50)) ?_
 refine E.op (.bool (i.op == 50)) ?_
 refine E.To.code ?_
 refine E.wk [(2, .pointer (some ⟨g2, 0, none⟩)), (13, .bool (i.op == 50))] [(g2, [.int .i64 0, .int .u32 0])] (List.Sublist.cons_cons _ (List.nil_sublist _)) ?_
 refine E.cd (i.op == 50) (fun hc5 => ?_) (fun hc5 => ?_)
 ·
  refine E.sr ?_
  refine E.vl (.agg #[.int .i64 2, .int .u32 0]) (fun w h => E.run_build #[.int .i64 2, .int .u32 0] (by kernel_rfl) w) ?_
  refine E.st 0 [.int .i64 2, .int .u32 0] rfl rfl ?_
  refine E.To.code ?_
  refine E.C.ret (E.P.rb (E.P.rt (E.To.body (fn := Try.f59) [.agg #[.int .i64 2, .int .u32 0]] ?_ ?_)))
  · exact ⟨⟨by kernel_rfl, _, _, 0, _, rfl, rfl, by kernel_rfl⟩, trivial⟩
  intro w h
  exact ⟨by show Ending.returned (.agg #[.int .i64 2, .int .u32 0]) = _; unfold Q.stop; rw [hc3, cond_false, hc4, cond_false, hc5, cond_true] <;> rfl, h.ch.bel (fun _ h => h.elim)⟩
 refine E.C.skip (E.P.nb (E.To.code ?_))
 refine E.sr ?_
 refine E.vl (.agg #[.int .i64 0, .int .u32 0]) (fun w h => E.run_build #[.int .i64 0, .int .u32 0] (by kernel_rfl) w) ?_
 refine E.st 0 [.int .i64 0, .int .u32 0] rfl rfl ?_
 refine E.To.code ?_
 refine E.C.ret (E.To.body (fn := Try.f59) [.agg #[.int .i64 0, .int .u32 0]] ?_ ?_)
 · exact ⟨⟨by kernel_rfl, _, _, 0, _, rfl, rfl, by kernel_rfl⟩, trivial⟩
 intro w h
 exact ⟨by show Ending.returned (.agg #[.int .i64 0, .int .u32 0]) = _; unfold Q.stop; rw [hc3, cond_false, hc4, cond_false, hc5, cond_false] <;> rfl, h.ch.bel (fun _ h => h.elim)⟩
theorem Less_rd {g1 g2 : Nat} (c a b : Int) (ha : 0 ≤ a ∧ a < 4294967296) (hb : 0 ≤ b ∧ b < 4294967296) : A.Rd Try.prog 74 #[.int .i64 c, .pointer (some ⟨g1, 0, none⟩), .pointer (some ⟨g2, 0, none⟩)] [A.blk g1 [.int .u32 a], A.blk g2 [.int .u32 b]] (.bool (W.op c a b == 1)) := by
 intro w oo aa hh
 refine E.enter (n := 10) (S := fun _ => False) Try.func74 rfl rfl (by kernel_rfl) (A.startY hh) ?_
 refine E.sr ?_
 refine E.op (.bool false) ?_
 refine E.tr ?_
 refine E.op (.int .i64 c) ?_
 refine E.vl (.int .u32 a) (fun w h => A.Y.bld h.x (k := 0) (j := 0) rfl (by kernel_rfl) (by kernel_rfl)) ?_
 refine E.vl (.int .u32 b) (fun w h => A.Y.bld h.x (k := 1) (j := 0) rfl (by kernel_rfl) (by kernel_rfl)) ?_
 refine E.G.call (.int .u32 (W.op c a b)) (fun w h => Op_any c a b ha.1 ha.2 hb.1 hb.2 w) (fun w _ => by kernel_rfl) (by kernel_rfl) ?_
 refine E.op (.bool ((W.op c a b) == 1)) ?_
 refine E.op (.bool ((W.op c a b) == 1)) ?_
 refine E.To.code ?_
 refine E.wk [(4, .bool ((W.op c a b) == 1))] [] (List.Sublist.refl _) ?_
 refine E.C.ret (E.To.body (fn := Try.f74) [.bool ((W.op c a b) == 1)] ?_ ?_)
 · exact ⟨⟨by kernel_rfl, by kernel_rfl⟩, trivial⟩
 intro w h
 exact ⟨rfl, h.ch.bel (fun _ h => h.elim)⟩
theorem A.of_hp2 {S : Nat → Prop} {w0 w : World} {X : World → Prop} {L : List (Nat × List Value)} (h : E.Hp S w0 X L w) (i j : Nat) {g1 g2 : Nat} {c1 c2 : List Value} (hi : L[i]? = some (g1, c1)) (hj : L[j]? = some (g2, c2)) (n1 : c1.isEmpty = false) (n2 : c2.isEmpty = false) (hne : i ≠ j) : A.Has [A.blk g1 c1, A.blk g2 c2] w (fun x => x = g1 ∨ x = g2) (fun x => x = g1 ∨ x = g2) := by
  have hg : g1 ≠ g2 := fun e => hne (E.nodup_of h.nodup hi hj e)
  have h1 := A.of_hp h i hi n1
  have h2 := A.of_hp h j hj n2
  exact h1.join h2 (fun x hx hy => hg (hx.symm.trans hy)) (fun x hx hy => hg (hy.symm.trans hx))
def Q.taken (c a b : Int) : Bool := (bif (c == 32) then (a == b) else (bif (c == 33) then (a != b) else (bif (c == 34) then (W.op 14 a b == 1) else (bif (c == 35) then (!(W.op 14 a b == 1)) else (bif (c == 36) then (W.op 15 a b == 1) else (!(W.op 15 a b == 1)))))))
theorem taken_any (c a b : Int) (ha : 0 ≤ a ∧ a < 4294967296) (hb : 0 ≤ b ∧ b < 4294967296) (w : World) : Calls Try.prog 64 #[.int .i64 c, .int .u32 a, .int .u32 b] w fun e w' => e = .returned (.bool (Q.taken c a b)) ∧ Bel w w' := by
 refine E.enter (n := 36) (S := fun _ => False) Try.func64 rfl rfl (by kernel_rfl) (E.Hp.start w) ?_
 refine E.sr ?_
 refine E.G.new (fun g => .pointer (some ⟨g, 0, none⟩)) [.int .u32 a] 22 (fun w => by kernel_rfl) (by kernel_rfl) (fun g1 => ?_)
 refine E.G.new (fun g => .pointer (some ⟨g, 0, none⟩)) [.int .u32 b] 22 (fun w => by kernel_rfl) (by kernel_rfl) (fun g2 => ?_)
 refine E.op (.bool false) ?_
 refine E.tr ?_
 refine E.op (.func (.func 74) #[] #[.pointer (some ⟨g1, 0, none⟩), .pointer (some ⟨g2, 0, none⟩)]) ?_
 refine E.op (.func (.func 74) #[] #[.pointer (some ⟨g1, 0, none⟩), .pointer (some ⟨g2, 0, none⟩)]) ?_
 refine E.To.code ?_
 refine E.C.seq ?_
 refine E.sr ?_
 refine E.op (.int .i64 c) ?_
 refine E.To.code ?_
 refine E.C.block ?_
 refine E.sr ?_
 refine E.op (.bool (c == 32)) ?_
 refine E.op (.bool (c == 32)) ?_
 refine E.To.code ?_
 refine E.cd (c == 32) (fun hc3 => ?_) (fun hc3 => ?_)
 ·
  refine E.sr ?_
  refine E.li (.int .u32 a) 1 rfl rfl ?_
  refine E.li (.int .u32 b) 0 rfl rfl ?_
  refine E.op (.bool (a == b)) ?_
  refine E.op (.bool (a == b)) ?_
  refine E.To.code ?_
  refine E.wk [(6, .bool (a == b)), (7, .func (.func 74) #[] #[.pointer (some ⟨g1, 0, none⟩), .pointer (some ⟨g2, 0, none⟩)])] [(g2, [.int .u32 b]), (g1, [.int .u32 a])] (List.Sublist.refl _) ?_
  refine E.C.ret (E.P.rb (E.P.rt (E.To.body (fn := Try.f64) [.bool (a == b)] ?_ ?_)))
  · exact ⟨⟨by kernel_rfl, by kernel_rfl⟩, trivial⟩
  intro w h
  exact ⟨by show Ending.returned (.bool (a == b)) = _; unfold Q.taken; rw [hc3, cond_true] <;> rfl, h.ch.bel (fun _ h => h.elim)⟩
 refine E.sr ?_
 refine E.op (.bool (c == 33)) ?_
 refine E.op (.bool (c == 33)) ?_
 refine E.To.code ?_
 refine E.cd (c == 33) (fun hc4 => ?_) (fun hc4 => ?_)
 ·
  refine E.sr ?_
  refine E.li (.int .u32 a) 1 rfl rfl ?_
  refine E.li (.int .u32 b) 0 rfl rfl ?_
  refine E.op (.bool (a != b)) ?_
  refine E.op (.bool (a != b)) ?_
  refine E.To.code ?_
  refine E.wk [(6, .bool (a != b)), (7, .func (.func 74) #[] #[.pointer (some ⟨g1, 0, none⟩), .pointer (some ⟨g2, 0, none⟩)])] [(g2, [.int .u32 b]), (g1, [.int .u32 a])] (List.Sublist.refl _) ?_
  refine E.C.ret (E.P.rb (E.P.rt (E.To.body (fn := Try.f64) [.bool (a != b)] ?_ ?_)))
  · exact ⟨⟨by kernel_rfl, by kernel_rfl⟩, trivial⟩
  intro w h
  exact ⟨by show Ending.returned (.bool (a != b)) = _; unfold Q.taken; rw [hc3, cond_false, hc4, cond_true] <;> rfl, h.ch.bel (fun _ h => h.elim)⟩
 refine E.sr ?_
 refine E.op (.bool (c == 34)) ?_
 refine E.op (.bool (c == 34)) ?_
 refine E.To.code ?_
 refine E.wk [(6, .bool false), (7, .func (.func 74) #[] #[.pointer (some ⟨g1, 0, none⟩), .pointer (some ⟨g2, 0, none⟩)]), (9, .int .i64 c), (20, .bool (c == 34))] [(g2, [.int .u32 b]), (g1, [.int .u32 a])] (List.Sublist.refl _) ?_
 refine E.cd (c == 34) (fun hc5 => ?_) (fun hc5 => ?_)
 ·
  refine E.sr ?_
  refine E.op (.func (.func 74) #[] #[.pointer (some ⟨g1, 0, none⟩), .pointer (some ⟨g2, 0, none⟩)]) ?_
  refine E.G.call (.bool (W.op 14 a b == 1)) (fun w h => Less_rd (g1 := g1) (g2 := g2) 14 a b ha hb w _ _ (A.of_hp2 h 1 0 rfl rfl rfl rfl (by decide))) (fun w _ => by kernel_rfl) (by kernel_rfl) ?_
  refine E.op (.bool (W.op 14 a b == 1)) ?_
  refine E.To.code ?_
  refine E.C.ret (E.P.rb (E.P.rt (E.To.body (fn := Try.f64) [.bool (W.op 14 a b == 1)] ?_ ?_)))
  · exact ⟨⟨by kernel_rfl, by kernel_rfl⟩, trivial⟩
  intro w h
  exact ⟨by show Ending.returned (.bool (W.op 14 a b == 1)) = _; unfold Q.taken; rw [hc3, cond_false, hc4, cond_false, hc5, cond_true] <;> rfl, h.ch.bel (fun _ h => h.elim)⟩
 refine E.sr ?_
 refine E.op (.bool (c == 35)) ?_
 refine E.op (.bool (c == 35)) ?_
 refine E.To.code ?_
 refine E.cd (c == 35) (fun hc6 => ?_) (fun hc6 => ?_)
 ·
  refine E.sr ?_
  refine E.op (.func (.func 74) #[] #[.pointer (some ⟨g1, 0, none⟩), .pointer (some ⟨g2, 0, none⟩)]) ?_
  refine E.G.call (.bool (W.op 14 a b == 1)) (fun w h => Less_rd (g1 := g1) (g2 := g2) 14 a b ha hb w _ _ (A.of_hp2 h 1 0 rfl rfl rfl rfl (by decide))) (fun w _ => by kernel_rfl) (by kernel_rfl) ?_
  refine E.op (.bool (!(W.op 14 a b == 1))) ?_
  refine E.op (.bool (!(W.op 14 a b == 1))) ?_
  refine E.To.code ?_
  refine E.C.ret (E.P.rb (E.P.rt (E.To.body (fn := Try.f64) [.bool (!(W.op 14 a b == 1))] ?_ ?_)))
  · exact ⟨⟨by kernel_rfl, by kernel_rfl⟩, trivial⟩
  intro w h
  exact ⟨by show Ending.returned (.bool (!(W.op 14 a b == 1))) = _; unfold Q.taken; rw [hc3, cond_false, hc4, cond_false, hc5, cond_false, hc6, cond_true] <;> rfl, h.ch.bel (fun _ h => h.elim)⟩
 refine E.sr ?_
 refine E.op (.bool (c == 36)) ?_
 refine E.op (.bool (c == 36)) ?_
 refine E.To.code ?_
 refine E.cd (c == 36) (fun hc7 => ?_) (fun hc7 => ?_)
 ·
  refine E.sr ?_
  refine E.op (.func (.func 74) #[] #[.pointer (some ⟨g1, 0, none⟩), .pointer (some ⟨g2, 0, none⟩)]) ?_
  refine E.G.call (.bool (W.op 15 a b == 1)) (fun w h => Less_rd (g1 := g1) (g2 := g2) 15 a b ha hb w _ _ (A.of_hp2 h 1 0 rfl rfl rfl rfl (by decide))) (fun w _ => by kernel_rfl) (by kernel_rfl) ?_
  refine E.op (.bool (W.op 15 a b == 1)) ?_
  refine E.To.code ?_
  refine E.wk [(6, .bool (W.op 15 a b == 1)), (7, .func (.func 74) #[] #[.pointer (some ⟨g1, 0, none⟩), .pointer (some ⟨g2, 0, none⟩)])] [(g2, [.int .u32 b]), (g1, [.int .u32 a])] (List.Sublist.refl _) ?_
  refine E.C.ret (E.P.rb (E.P.rt (E.To.body (fn := Try.f64) [.bool (W.op 15 a b == 1)] ?_ ?_)))
  · exact ⟨⟨by kernel_rfl, by kernel_rfl⟩, trivial⟩
  intro w h
  exact ⟨by show Ending.returned (.bool (W.op 15 a b == 1)) = _; unfold Q.taken; rw [hc3, cond_false, hc4, cond_false, hc5, cond_false, hc6, cond_false, hc7, cond_true] <;> rfl, h.ch.bel (fun _ h => h.elim)⟩
 refine E.C.skip (E.P.nb (E.To.code ?_))
 refine E.sr ?_
 refine E.op (.func (.func 74) #[] #[.pointer (some ⟨g1, 0, none⟩), .pointer (some ⟨g2, 0, none⟩)]) ?_
 refine E.G.call (.bool (W.op 15 a b == 1)) (fun w h => Less_rd (g1 := g1) (g2 := g2) 15 a b ha hb w _ _ (A.of_hp2 h 1 0 rfl rfl rfl rfl (by decide))) (fun w _ => by kernel_rfl) (by kernel_rfl) ?_
 refine E.op (.bool (!(W.op 15 a b == 1))) ?_
 refine E.op (.bool (!(W.op 15 a b == 1))) ?_
 refine E.To.code ?_
 refine E.wk [(6, .bool (!(W.op 15 a b == 1)))] [] (List.nil_sublist _) ?_
 refine E.C.ret (E.To.body (fn := Try.f64) [.bool (!(W.op 15 a b == 1))] ?_ ?_)
 · exact ⟨⟨by kernel_rfl, by kernel_rfl⟩, trivial⟩
 intro w h
 exact ⟨by show Ending.returned (.bool (!(W.op 15 a b == 1))) = _; unfold Q.taken; rw [hc3, cond_false, hc4, cond_false, hc5, cond_false, hc6, cond_false, hc7, cond_false] <;> rfl, h.ch.bel (fun _ h => h.elim)⟩
end Go.Proofs.Ytgbndbljohpnmaa

/- XQh -/
namespace Go.Proofs.Ytgbndbljohpnmaa
set_option linter.unusedVariables false
set_option linter.unusedSimpArgs false
open Go.RowKit
def Q.flt (a : Int) (ok : Bool) : Int × Int := (bif ok then (0, 0) else (5, a))
theorem fault_any (a : Int) (ok : Bool) (w : World) : Calls Try.prog 73 #[.int .u32 a, .bool ok] w fun e w' => e = .returned (.agg #[.int .i64 ((Q.flt a ok).1), .int .u32 ((Q.flt a ok).2)]) ∧ Bel w w' := by
 refine E.enter (n := 9) (S := fun _ => False) Try.func73 rfl rfl (by kernel_rfl) (E.Hp.start w) ?_
 refine E.sr ?_
 refine E.G.new (fun g => .pointer (some ⟨g, 0, none⟩)) [.int .i64 0, .int .u32 0] 51 (fun w => by kernel_rfl) (by kernel_rfl) (fun g1 => ?_)
 refine E.To.code ?_
 refine E.C.seq ?_
 refine E.sr ?_
 refine E.op (.bool ok) ?_
 refine E.To.code ?_
 refine E.cd ok (fun hc2 => ?_) (fun hc2 => ?_)
 ·
  refine E.sr ?_
  refine E.vl (.agg #[.int .i64 0, .int .u32 0]) (fun w h => E.run_build #[.int .i64 0, .int .u32 0] (by kernel_rfl) w) ?_
  refine E.st 0 [.int .i64 0, .int .u32 0] rfl rfl ?_
  refine E.To.code ?_
  refine E.C.ret (E.P.rt (E.To.body (fn := Try.f73) [.agg #[.int .i64 0, .int .u32 0]] ?_ ?_))
  · exact ⟨⟨by kernel_rfl, _, _, 0, _, rfl, rfl, by kernel_rfl⟩, trivial⟩
  intro w h
  exact ⟨by show Ending.returned (.agg #[.int .i64 0, .int .u32 0]) = _; unfold Q.flt; rw [hc2, cond_true] <;> rfl, h.ch.bel (fun _ h => h.elim)⟩
 refine E.C.skip (E.To.code ?_)
 refine E.sr ?_
 refine E.op (.int .u32 a) ?_
 refine E.vl (.agg #[.int .i64 5, .int .u32 a]) (fun w h => E.run_build #[.int .i64 5, .int .u32 a] (by kernel_rfl) w) ?_
 refine E.st 0 [.int .i64 5, .int .u32 a] rfl rfl ?_
 refine E.To.code ?_
 refine E.C.ret (E.To.body (fn := Try.f73) [.agg #[.int .i64 5, .int .u32 a]] ?_ ?_)
 · exact ⟨⟨by kernel_rfl, _, _, 0, _, rfl, rfl, by kernel_rfl⟩, trivial⟩
 intro w h
 exact ⟨by show Ending.returned (.agg #[.int .i64 5, .int .u32 a]) = _; unfold Q.flt; rw [hc2, cond_false] <;> rfl, h.ch.bel (fun _ h => h.elim)⟩
def Q.acc (i : Q.I) (V : M.V) (x v : Int) : Int × Int × Int × M.V := (bif ((i.op == 24) || (i.op == 26)) then (bif ((i.op == 25) || (i.op == 26)) then (0, (Q.flt ((V.chk (x).toNat 2 1).1) ((V.chk (x).toNat 2 1).2)).1, (Q.flt ((V.chk (x).toNat 2 1).1) ((V.chk (x).toNat 2 1).2)).2, (V.sto (x).toNat 1 v)) else ((V.load (x).toNat 1).1, (Q.flt ((V.load (x).toNat 1).2.1) ((V.load (x).toNat 1).2.2)).1, (Q.flt ((V.load (x).toNat 1).2.1) ((V.load (x).toNat 1).2.2)).2, V)) else (bif ((i.op == 25) || (i.op == 26)) then (0, (Q.flt ((V.chk (x).toNat 2 4).1) ((V.chk (x).toNat 2 4).2)).1, (Q.flt ((V.chk (x).toNat 2 4).1) ((V.chk (x).toNat 2 4).2)).2, (V.sto (x).toNat 4 v)) else ((V.load (x).toNat 4).1, (Q.flt ((V.load (x).toNat 4).2.1) ((V.load (x).toNat 4).2.2)).1, (Q.flt ((V.load (x).toNat 4).2.1) ((V.load (x).toNat 4).2.2)).2, V)))
theorem Access {m : Nat} {xs : List Value} (i : Q.I) (V : M.V) (x v : Int) (hx : 0 ≤ x ∧ x < 4294967296) : A.Tr Try.prog 62 #[.agg #[.int .i64 i.op, .int .i64 i.d, .int .i64 i.a, .int .i64 i.b, .int .u32 i.imm], .int .u32 x, .int .u32 v, .iface 82 (.pointer (some ⟨m, 0, none⟩))] [M.It m V xs] (I := Unit) (fun _ => True) (fun _ => .tuple #[.int .u32 ((Q.acc i V x v).1), .agg #[.int .i64 ((Q.acc i V x v).2.1), .int .u32 ((Q.acc i V x v).2.2.1)]]) (fun _ => [M.It m (Q.acc i V x v).2.2.2 xs]) := by
 intro w oo aa hh
 refine E.enter (n := 53) (S := oo) Try.func62 rfl rfl (by kernel_rfl) (A.start (L := []) hh) ?_
 refine E.sr ?_
 refine E.G.new (fun g => .pointer (some ⟨g, 0, none⟩)) [.int .i64 i.op, .int .i64 i.d, .int .i64 i.a, .int .i64 i.b, .int .u32 i.imm] 47 (fun w => by kernel_rfl) (by kernel_rfl) (fun g1 => ?_)
 refine E.op (.int .u32 0) ?_
 refine E.G.new (fun g => .pointer (some ⟨g, 0, none⟩)) [.int .i64 0, .int .u32 0] 51 (fun w => by kernel_rfl) (by kernel_rfl) (fun g2 => ?_)
 refine E.tr ?_
 refine E.op (.int .i64 4) ?_
 refine E.To.code ?_
 refine E.C.seq ?_
 refine E.sr ?_
 refine E.op (.pointer (some ⟨g1, 0, none⟩)) ?_
 refine E.li (.int .i64 i.op) 1 rfl rfl ?_
 refine E.op (.bool (i.op == 24)) ?_
 refine E.op (.bool (i.op == 24)) ?_
 refine E.G.cut 4 [(1, .int .u32 x), (2, .int .u32 v), (3, .iface 82 (.pointer (some ⟨m, 0, none⟩))), (4, .pointer (some ⟨g1, 0, none⟩)), (8, .int .u32 0), (9, .pointer (some ⟨g2, 0, none⟩)), (10, .int .i64 4), (22, .bool ((i.op == 24) || (i.op == 26)))] (A.X w oo aa [M.It m V xs]) [(g2, [.int .i64 0, .int .u32 0]), (g1, [.int .i64 i.op, .int .i64 i.d, .int .i64 i.a, .int .i64 i.b, .int .u32 i.imm])] ?_ ?_
 ·
  generalize hc3 : (i.op == 24) = b4
  cases b4
  ·
   refine E.op (.pointer (some ⟨g1, 0, none⟩)) ?_
   refine E.li (.int .i64 i.op) 1 rfl rfl ?_
   refine E.op (.bool (i.op == 26)) ?_
   refine E.op (.bool (i.op == 26)) ?_
   exact E.G.end_pst ⟨by kernel_rfl, by kernel_rfl⟩ (List.Sublist.refl _) (fun _ h => h)
  refine E.sk ?_
  refine E.sk ?_
  refine E.sk ?_
  refine E.op (.bool true) ?_
  exact E.G.end_pst ⟨by kernel_rfl, by kernel_rfl⟩ (List.Sublist.refl _) (fun _ h => h)
 refine E.To.code ?_
 refine E.cd ((i.op == 24) || (i.op == 26)) (fun hc5 => ?_) (fun hc5 => ?_)
 ·
  refine E.C.region ?_
  refine E.op (.int .i64 1) ?_
  refine E.tr ?_
  refine E.op (.func (.func 73) #[] #[]) ?_
  refine E.To.code ?_
  refine E.C.seq ?_
  refine E.sr ?_
  refine E.op (.pointer (some ⟨g1, 0, none⟩)) ?_
  refine E.li (.int .i64 i.op) 1 rfl rfl ?_
  refine E.op (.bool (i.op == 25)) ?_
  refine E.op (.bool (i.op == 25)) ?_
  refine E.G.cut 4 [(1, .int .u32 x), (2, .int .u32 v), (3, .iface 82 (.pointer (some ⟨m, 0, none⟩))), (8, .int .u32 0), (9, .pointer (some ⟨g2, 0, none⟩)), (10, .int .i64 1), (11, .func (.func 73) #[] #[]), (30, .bool ((i.op == 25) || (i.op == 26)))] (A.X w oo aa [M.It m V xs]) [(g2, [.int .i64 0, .int .u32 0]), (g1, [.int .i64 i.op, .int .i64 i.d, .int .i64 i.a, .int .i64 i.b, .int .u32 i.imm])] ?_ ?_
  ·
   generalize hc6 : (i.op == 25) = b7
   cases b7
   ·
    refine E.op (.pointer (some ⟨g1, 0, none⟩)) ?_
    refine E.li (.int .i64 i.op) 1 rfl rfl ?_
    refine E.op (.bool (i.op == 26)) ?_
    refine E.op (.bool (i.op == 26)) ?_
    exact E.G.end_pst ⟨by kernel_rfl, by kernel_rfl⟩ (List.Sublist.refl _) (fun _ h => h)
   refine E.sk ?_
   refine E.sk ?_
   refine E.sk ?_
   refine E.op (.bool true) ?_
   exact E.G.end_pst ⟨by kernel_rfl, by kernel_rfl⟩ (List.Sublist.refl _) (fun _ h => h)
  refine E.To.code ?_
  refine E.cd ((i.op == 25) || (i.op == 26)) (fun hc8 => ?_) (fun hc8 => ?_)
  ·
   refine E.sr ?_
   refine E.op (.func (.func 73) #[] #[]) ?_
   refine E.op (.iface 82 (.pointer (some ⟨m, 0, none⟩))) ?_
   refine E.op (.int .u32 x) ?_
   refine E.op (.int .i64 1) ?_
   refine E.op (.int .u32 v) ?_
   refine A.G.call (I := Unit) (D := fun _ => True) (V := fun _ => .tuple #[.int .u32 ((V.chk (x).toNat 2 1).1), .bool ((V.chk (x).toNat 2 1).2)]) (q := fun _ => [M.It m (V.sto (x).toNat 1 v) xs]) [A.blk g2 ([.int .i64 0, .int .u32 0]), A.blk g1 ([.int .i64 i.op, .int .i64 i.d, .int .i64 i.a, .int .i64 i.b, .int .u32 i.imm])] (fun _ => [(g2, [.int .i64 0, .int .u32 0]), (g1, [.int .i64 i.op, .int .i64 i.d, .int .i64 i.a, .int .i64 i.b, .int .u32 i.imm])]) (fun _ => [M.It m (V.sto (x).toNat 1 v) xs]) (I_Store x 1 v (by assumption) (m := m) (V := V) (xs := xs)) (by kernel_rfl) (A.pn [2, 0, 1]) (fun _ => A.pm [1, 2, 0] (by kernel_rfl) (by kernel_rfl)) (fun w _ => by kernel_rfl) (by kernel_rfl) (fun _ hd9 => ?_)
   refine E.op (.int .u32 ((V.chk (x).toNat 2 1).1)) ?_
   refine E.op (.bool ((V.chk (x).toNat 2 1).2)) ?_
   refine E.G.call (.agg #[.int .i64 ((Q.flt ((V.chk (x).toNat 2 1).1) ((V.chk (x).toNat 2 1).2)).1), .int .u32 ((Q.flt ((V.chk (x).toNat 2 1).1) ((V.chk (x).toNat 2 1).2)).2)]) (fun w h => fault_any ((V.chk (x).toNat 2 1).1) ((V.chk (x).toNat 2 1).2) w) (fun w _ => by kernel_rfl) (by kernel_rfl) ?_
   refine E.op (.int .u32 0) ?_
   refine E.st 0 [.int .i64 ((Q.flt ((V.chk (x).toNat 2 1).1) ((V.chk (x).toNat 2 1).2)).1), .int .u32 ((Q.flt ((V.chk (x).toNat 2 1).1) ((V.chk (x).toNat 2 1).2)).2)] rfl rfl ?_
   refine E.To.code ?_
   refine E.wk [(1, .int .u32 x), (3, .iface 82 (.pointer (some ⟨m, 0, none⟩))), (8, .int .u32 0), (9, .pointer (some ⟨g2, 0, none⟩)), (10, .int .i64 1), (11, .func (.func 73) #[] #[])] [(g2, [.int .i64 ((Q.flt ((V.chk (x).toNat 2 1).1) ((V.chk (x).toNat 2 1).2)).1), .int .u32 ((Q.flt ((V.chk (x).toNat 2 1).1) ((V.chk (x).toNat 2 1).2)).2)])] (List.Sublist.cons_cons _ (List.nil_sublist _)) ?_
   refine E.C.ret (E.P.rt (E.To.body (fn := Try.f62) [.int .u32 0, .agg #[.int .i64 ((Q.flt ((V.chk (x).toNat 2 1).1) ((V.chk (x).toNat 2 1).2)).1), .int .u32 ((Q.flt ((V.chk (x).toNat 2 1).1) ((V.chk (x).toNat 2 1).2)).2)]] ?_ ?_))
   · exact ⟨⟨by kernel_rfl, by kernel_rfl⟩, ⟨by kernel_rfl, _, _, 0, _, rfl, rfl, by kernel_rfl⟩, trivial⟩
   intro w h
   have e : (Q.acc i V x v) = (0, (Q.flt ((V.chk (x).toNat 2 1).1) ((V.chk (x).toNat 2 1).2)).1, (Q.flt ((V.chk (x).toNat 2 1).1) ((V.chk (x).toNat 2 1).2)).2, (V.sto (x).toNat 1 v)) := by unfold Q.acc; rw [hc5, cond_true, hc8, cond_true] <;> rfl
   rw [e]
   exact ⟨(), trivial, rfl, A.done (q := [M.It m (V.sto (x).toNat 1 v) xs]) (r := [A.blk g2 ([.int .i64 ((Q.flt ((V.chk (x).toNat 2 1).1) ((V.chk (x).toNat 2 1).2)).1), .int .u32 ((Q.flt ((V.chk (x).toNat 2 1).1) ((V.chk (x).toNat 2 1).2)).2)])]) h (by kernel_rfl) (A.pn [1, 0])⟩
  refine E.C.skip (E.To.code ?_)
  refine E.sr ?_
  refine E.op (.iface 82 (.pointer (some ⟨m, 0, none⟩))) ?_
  refine E.op (.int .u32 x) ?_
  refine E.op (.int .i64 1) ?_
  refine E.G.call (.tuple #[.int .u32 ((V.load (x).toNat 1).1), .int .u32 ((V.load (x).toNat 1).2.1), .bool ((V.load (x).toNat 1).2.2)]) (fun w h => A.call_rd [A.blk g2 ([.int .i64 0, .int .u32 0]), A.blk g1 ([.int .i64 i.op, .int .i64 i.d, .int .i64 i.a, .int .i64 i.b, .int .u32 i.imm])] (I_Load x 1 (by assumption) (m := m) (V := V) (xs := xs)) h (by kernel_rfl) (A.pn [2, 0, 1])) (fun w _ => by kernel_rfl) (by kernel_rfl) ?_
  refine E.op (.tuple #[.int .u32 ((V.load (x).toNat 1).1), .int .u32 ((V.load (x).toNat 1).2.1), .bool ((V.load (x).toNat 1).2.2)]) ?_
  refine E.op (.int .u32 ((V.load (x).toNat 1).1)) ?_
  refine E.op (.int .u32 ((V.load (x).toNat 1).2.1)) ?_
  refine E.op (.bool ((V.load (x).toNat 1).2.2)) ?_
  refine E.op (.int .u32 ((V.load (x).toNat 1).1)) ?_
  refine E.op (.int .u32 ((V.load (x).toNat 1).2.1)) ?_
  refine E.op (.bool ((V.load (x).toNat 1).2.2)) ?_
  refine E.To.code ?_
  refine E.wk [(8, .int .u32 0), (9, .pointer (some ⟨g2, 0, none⟩)), (11, .func (.func 73) #[] #[]), (12, .int .u32 ((V.load (x).toNat 1).1)), (13, .int .u32 ((V.load (x).toNat 1).2.1)), (14, .bool ((V.load (x).toNat 1).2.2))] [(g2, [.int .i64 0, .int .u32 0])] (List.Sublist.cons_cons _ (List.nil_sublist _)) ?_
  refine E.sr ?_
  refine E.op (.int .u32 ((V.load (x).toNat 1).1)) ?_
  refine E.op (.func (.func 73) #[] #[]) ?_
  refine E.op (.int .u32 ((V.load (x).toNat 1).2.1)) ?_
  refine E.op (.bool ((V.load (x).toNat 1).2.2)) ?_
  refine E.G.call (.agg #[.int .i64 ((Q.flt ((V.load (x).toNat 1).2.1) ((V.load (x).toNat 1).2.2)).1), .int .u32 ((Q.flt ((V.load (x).toNat 1).2.1) ((V.load (x).toNat 1).2.2)).2)]) (fun w h => fault_any ((V.load (x).toNat 1).2.1) ((V.load (x).toNat 1).2.2) w) (fun w _ => by kernel_rfl) (by kernel_rfl) ?_
  refine E.op (.int .u32 ((V.load (x).toNat 1).1)) ?_
  refine E.st 0 [.int .i64 ((Q.flt ((V.load (x).toNat 1).2.1) ((V.load (x).toNat 1).2.2)).1), .int .u32 ((Q.flt ((V.load (x).toNat 1).2.1) ((V.load (x).toNat 1).2.2)).2)] rfl rfl ?_
  refine E.To.code ?_
  refine E.wk [(8, .int .u32 ((V.load (x).toNat 1).1)), (9, .pointer (some ⟨g2, 0, none⟩))] [(g2, [.int .i64 ((Q.flt ((V.load (x).toNat 1).2.1) ((V.load (x).toNat 1).2.2)).1), .int .u32 ((Q.flt ((V.load (x).toNat 1).2.1) ((V.load (x).toNat 1).2.2)).2)])] (List.Sublist.refl _) ?_
  refine E.C.ret (E.To.body (fn := Try.f62) [.int .u32 ((V.load (x).toNat 1).1), .agg #[.int .i64 ((Q.flt ((V.load (x).toNat 1).2.1) ((V.load (x).toNat 1).2.2)).1), .int .u32 ((Q.flt ((V.load (x).toNat 1).2.1) ((V.load (x).toNat 1).2.2)).2)]] ?_ ?_)
  · exact ⟨⟨by kernel_rfl, by kernel_rfl⟩, ⟨by kernel_rfl, _, _, 0, _, rfl, rfl, by kernel_rfl⟩, trivial⟩
  intro w h
  have e : (Q.acc i V x v) = ((V.load (x).toNat 1).1, (Q.flt ((V.load (x).toNat 1).2.1) ((V.load (x).toNat 1).2.2)).1, (Q.flt ((V.load (x).toNat 1).2.1) ((V.load (x).toNat 1).2.2)).2, V) := by unfold Q.acc; rw [hc5, cond_true, hc8, cond_false] <;> rfl
  rw [e]
  exact ⟨(), trivial, rfl, A.done (q := [M.It m V xs]) (r := [A.blk g2 ([.int .i64 ((Q.flt ((V.load (x).toNat 1).2.1) ((V.load (x).toNat 1).2.2)).1), .int .u32 ((Q.flt ((V.load (x).toNat 1).2.1) ((V.load (x).toNat 1).2.2)).2)])]) h (by kernel_rfl) (A.pn [1, 0])⟩
 refine E.C.skip (E.To.code ?_)
 refine E.sr ?_
 refine E.op (.func (.func 73) #[] #[]) ?_
 refine E.To.code ?_
 refine E.C.seq ?_
 refine E.sr ?_
 refine E.op (.pointer (some ⟨g1, 0, none⟩)) ?_
 refine E.li (.int .i64 i.op) 1 rfl rfl ?_
 refine E.op (.bool (i.op == 25)) ?_
 refine E.op (.bool (i.op == 25)) ?_
 refine E.G.cut 4 [(1, .int .u32 x), (2, .int .u32 v), (3, .iface 82 (.pointer (some ⟨m, 0, none⟩))), (8, .int .u32 0), (9, .pointer (some ⟨g2, 0, none⟩)), (10, .int .i64 4), (11, .func (.func 73) #[] #[]), (30, .bool ((i.op == 25) || (i.op == 26)))] (A.X w oo aa [M.It m V xs]) [(g2, [.int .i64 0, .int .u32 0]), (g1, [.int .i64 i.op, .int .i64 i.d, .int .i64 i.a, .int .i64 i.b, .int .u32 i.imm])] ?_ ?_
 ·
  generalize hc10 : (i.op == 25) = b11
  cases b11
  ·
   refine E.op (.pointer (some ⟨g1, 0, none⟩)) ?_
   refine E.li (.int .i64 i.op) 1 rfl rfl ?_
   refine E.op (.bool (i.op == 26)) ?_
   refine E.op (.bool (i.op == 26)) ?_
   exact E.G.end_pst ⟨by kernel_rfl, by kernel_rfl⟩ (List.Sublist.refl _) (fun _ h => h)
  refine E.sk ?_
  refine E.sk ?_
  refine E.sk ?_
  refine E.op (.bool true) ?_
  exact E.G.end_pst ⟨by kernel_rfl, by kernel_rfl⟩ (List.Sublist.refl _) (fun _ h => h)
 refine E.To.code ?_
 refine E.cd ((i.op == 25) || (i.op == 26)) (fun hc12 => ?_) (fun hc12 => ?_)
 ·
  refine E.sr ?_
  refine E.op (.func (.func 73) #[] #[]) ?_
  refine E.op (.iface 82 (.pointer (some ⟨m, 0, none⟩))) ?_
  refine E.op (.int .u32 x) ?_
  refine E.op (.int .i64 4) ?_
  refine E.op (.int .u32 v) ?_
  refine A.G.call (I := Unit) (D := fun _ => True) (V := fun _ => .tuple #[.int .u32 ((V.chk (x).toNat 2 4).1), .bool ((V.chk (x).toNat 2 4).2)]) (q := fun _ => [M.It m (V.sto (x).toNat 4 v) xs]) [A.blk g2 ([.int .i64 0, .int .u32 0]), A.blk g1 ([.int .i64 i.op, .int .i64 i.d, .int .i64 i.a, .int .i64 i.b, .int .u32 i.imm])] (fun _ => [(g2, [.int .i64 0, .int .u32 0]), (g1, [.int .i64 i.op, .int .i64 i.d, .int .i64 i.a, .int .i64 i.b, .int .u32 i.imm])]) (fun _ => [M.It m (V.sto (x).toNat 4 v) xs]) (I_Store x 4 v (by assumption) (m := m) (V := V) (xs := xs)) (by kernel_rfl) (A.pn [2, 0, 1]) (fun _ => A.pm [1, 2, 0] (by kernel_rfl) (by kernel_rfl)) (fun w _ => by kernel_rfl) (by kernel_rfl) (fun _ hd13 => ?_)
  refine E.op (.int .u32 ((V.chk (x).toNat 2 4).1)) ?_
  refine E.op (.bool ((V.chk (x).toNat 2 4).2)) ?_
  refine E.G.call (.agg #[.int .i64 ((Q.flt ((V.chk (x).toNat 2 4).1) ((V.chk (x).toNat 2 4).2)).1), .int .u32 ((Q.flt ((V.chk (x).toNat 2 4).1) ((V.chk (x).toNat 2 4).2)).2)]) (fun w h => fault_any ((V.chk (x).toNat 2 4).1) ((V.chk (x).toNat 2 4).2) w) (fun w _ => by kernel_rfl) (by kernel_rfl) ?_
  refine E.op (.int .u32 0) ?_
  refine E.st 0 [.int .i64 ((Q.flt ((V.chk (x).toNat 2 4).1) ((V.chk (x).toNat 2 4).2)).1), .int .u32 ((Q.flt ((V.chk (x).toNat 2 4).1) ((V.chk (x).toNat 2 4).2)).2)] rfl rfl ?_
  refine E.To.code ?_
  refine E.wk [(1, .int .u32 x), (3, .iface 82 (.pointer (some ⟨m, 0, none⟩))), (8, .int .u32 0), (9, .pointer (some ⟨g2, 0, none⟩)), (10, .int .i64 4), (11, .func (.func 73) #[] #[])] [(g2, [.int .i64 ((Q.flt ((V.chk (x).toNat 2 4).1) ((V.chk (x).toNat 2 4).2)).1), .int .u32 ((Q.flt ((V.chk (x).toNat 2 4).1) ((V.chk (x).toNat 2 4).2)).2)])] (List.Sublist.cons_cons _ (List.nil_sublist _)) ?_
  refine E.C.ret (E.P.rt (E.To.body (fn := Try.f62) [.int .u32 0, .agg #[.int .i64 ((Q.flt ((V.chk (x).toNat 2 4).1) ((V.chk (x).toNat 2 4).2)).1), .int .u32 ((Q.flt ((V.chk (x).toNat 2 4).1) ((V.chk (x).toNat 2 4).2)).2)]] ?_ ?_))
  · exact ⟨⟨by kernel_rfl, by kernel_rfl⟩, ⟨by kernel_rfl, _, _, 0, _, rfl, rfl, by kernel_rfl⟩, trivial⟩
  intro w h
  have e : (Q.acc i V x v) = (0, (Q.flt ((V.chk (x).toNat 2 4).1) ((V.chk (x).toNat 2 4).2)).1, (Q.flt ((V.chk (x).toNat 2 4).1) ((V.chk (x).toNat 2 4).2)).2, (V.sto (x).toNat 4 v)) := by unfold Q.acc; rw [hc5, cond_false, hc12, cond_true] <;> rfl
  rw [e]
  exact ⟨(), trivial, rfl, A.done (q := [M.It m (V.sto (x).toNat 4 v) xs]) (r := [A.blk g2 ([.int .i64 ((Q.flt ((V.chk (x).toNat 2 4).1) ((V.chk (x).toNat 2 4).2)).1), .int .u32 ((Q.flt ((V.chk (x).toNat 2 4).1) ((V.chk (x).toNat 2 4).2)).2)])]) h (by kernel_rfl) (A.pn [1, 0])⟩
 refine E.C.skip (E.To.code ?_)
 refine E.sr ?_
 refine E.op (.iface 82 (.pointer (some ⟨m, 0, none⟩))) ?_
 refine E.op (.int .u32 x) ?_
 refine E.op (.int .i64 4) ?_
 refine E.G.call (.tuple #[.int .u32 ((V.load (x).toNat 4).1), .int .u32 ((V.load (x).toNat 4).2.1), .bool ((V.load (x).toNat 4).2.2)]) (fun w h => A.call_rd [A.blk g2 ([.int .i64 0, .int .u32 0]), A.blk g1 ([.int .i64 i.op, .int .i64 i.d, .int .i64 i.a, .int .i64 i.b, .int .u32 i.imm])] (I_Load x 4 (by assumption) (m := m) (V := V) (xs := xs)) h (by kernel_rfl) (A.pn [2, 0, 1])) (fun w _ => by kernel_rfl) (by kernel_rfl) ?_
 refine E.op (.tuple #[.int .u32 ((V.load (x).toNat 4).1), .int .u32 ((V.load (x).toNat 4).2.1), .bool ((V.load (x).toNat 4).2.2)]) ?_
 refine E.op (.int .u32 ((V.load (x).toNat 4).1)) ?_
 refine E.op (.int .u32 ((V.load (x).toNat 4).2.1)) ?_
 refine E.op (.bool ((V.load (x).toNat 4).2.2)) ?_
 refine E.op (.int .u32 ((V.load (x).toNat 4).1)) ?_
 refine E.op (.int .u32 ((V.load (x).toNat 4).2.1)) ?_
 refine E.op (.bool ((V.load (x).toNat 4).2.2)) ?_
 refine E.To.code ?_
 refine E.wk [(8, .int .u32 0), (9, .pointer (some ⟨g2, 0, none⟩)), (11, .func (.func 73) #[] #[]), (12, .int .u32 ((V.load (x).toNat 4).1)), (13, .int .u32 ((V.load (x).toNat 4).2.1)), (14, .bool ((V.load (x).toNat 4).2.2))] [(g2, [.int .i64 0, .int .u32 0])] (List.Sublist.cons_cons _ (List.nil_sublist _)) ?_
 refine E.sr ?_
 refine E.op (.int .u32 ((V.load (x).toNat 4).1)) ?_
 refine E.op (.func (.func 73) #[] #[]) ?_
 refine E.op (.int .u32 ((V.load (x).toNat 4).2.1)) ?_
 refine E.op (.bool ((V.load (x).toNat 4).2.2)) ?_
 refine E.G.call (.agg #[.int .i64 ((Q.flt ((V.load (x).toNat 4).2.1) ((V.load (x).toNat 4).2.2)).1), .int .u32 ((Q.flt ((V.load (x).toNat 4).2.1) ((V.load (x).toNat 4).2.2)).2)]) (fun w h => fault_any ((V.load (x).toNat 4).2.1) ((V.load (x).toNat 4).2.2) w) (fun w _ => by kernel_rfl) (by kernel_rfl) ?_
 refine E.op (.int .u32 ((V.load (x).toNat 4).1)) ?_
 refine E.st 0 [.int .i64 ((Q.flt ((V.load (x).toNat 4).2.1) ((V.load (x).toNat 4).2.2)).1), .int .u32 ((Q.flt ((V.load (x).toNat 4).2.1) ((V.load (x).toNat 4).2.2)).2)] rfl rfl ?_
 refine E.To.code ?_
 refine E.wk [(8, .int .u32 ((V.load (x).toNat 4).1)), (9, .pointer (some ⟨g2, 0, none⟩))] [(g2, [.int .i64 ((Q.flt ((V.load (x).toNat 4).2.1) ((V.load (x).toNat 4).2.2)).1), .int .u32 ((Q.flt ((V.load (x).toNat 4).2.1) ((V.load (x).toNat 4).2.2)).2)])] (List.Sublist.refl _) ?_
 refine E.C.ret (E.To.body (fn := Try.f62) [.int .u32 ((V.load (x).toNat 4).1), .agg #[.int .i64 ((Q.flt ((V.load (x).toNat 4).2.1) ((V.load (x).toNat 4).2.2)).1), .int .u32 ((Q.flt ((V.load (x).toNat 4).2.1) ((V.load (x).toNat 4).2.2)).2)]] ?_ ?_)
 · exact ⟨⟨by kernel_rfl, by kernel_rfl⟩, ⟨by kernel_rfl, _, _, 0, _, rfl, rfl, by kernel_rfl⟩, trivial⟩
 intro w h
 have e : (Q.acc i V x v) = ((V.load (x).toNat 4).1, (Q.flt ((V.load (x).toNat 4).2.1) ((V.load (x).toNat 4).2.2)).1, (Q.flt ((V.load (x).toNat 4).2.1) ((V.load (x).toNat 4).2.2)).2, V) := by unfold Q.acc; rw [hc5, cond_false, hc12, cond_false] <;> rfl
 rw [e]
 exact ⟨(), trivial, rfl, A.done (q := [M.It m V xs]) (r := [A.blk g2 ([.int .i64 ((Q.flt ((V.load (x).toNat 4).2.1) ((V.load (x).toNat 4).2.2)).1), .int .u32 ((Q.flt ((V.load (x).toNat 4).2.1) ((V.load (x).toNat 4).2.2)).2)])]) h (by kernel_rfl) (A.pn [1, 0])⟩
theorem Q.ctl_ok {n : Int} (h : ((n == 0) || (n == 1)) = true) : 0 ≤ n ∧ n < ((4 : Nat) : Int) := by simp at h; omega
def Q.ctl (s : Q.S) (n v : Int) : Q.S := (bif ((n == 4) && (v == 0)) then ⟨s.pc, s.r, s.f, s.c, s.st, 0⟩ else (bif (n == 4) then ⟨s.pc, s.r, s.f, s.c, s.st, (IntKind.wrap .i64 ((IntKind.wrap .i64 (s.st + 1)) + (IntKind.wrap .i64 v)))⟩ else (bif ((n == 0) || (n == 1)) then ⟨s.pc, s.r, s.f, (Q.up s.c (n).toNat v), s.st, s.du⟩ else s)))
theorem Control {g : Nat} (s : Q.S) (n v : Int) (hn : 0 ≤ n ∧ n < 4294967296) : A.Tr Try.prog 63 #[.pointer (some ⟨g, 0, none⟩), .int .u32 n, .int .u32 v] [A.blk g (Q.S.cells s)] (I := Unit) (fun _ => True) (fun _ => .tuple #[]) (fun _ => [A.blk g (Q.S.cells (Q.ctl s n v))]) := by
 intro w oo aa hh
 refine E.enter (n := 43) (S := oo) Try.func63 rfl rfl (by kernel_rfl) (A.start (L := [(g, (Q.S.cells s))]) hh) ?_
 refine E.C.block ?_
 refine E.sr ?_
 refine E.op (.int .u32 n) ?_
 refine E.op (.bool (n == 4)) ?_
 refine E.op (.bool (n == 4)) ?_
 refine E.G.cut 3 [(0, .pointer (some ⟨g, 0, none⟩)), (1, .int .u32 n), (2, .int .u32 v), (12, .bool ((n == 4) && (v == 0)))] (A.X w oo aa []) [(g, (Q.S.cells s))] ?_ ?_
 ·
  generalize hc1 : (n == 4) = b2
  cases b2
  ·
   refine E.sk ?_
   refine E.sk ?_
   refine E.op (.bool false) ?_
   exact E.G.end_pst ⟨by kernel_rfl, by kernel_rfl⟩ (List.Sublist.refl _) (fun _ h => h)
  refine E.op (.int .u32 v) ?_
  refine E.op (.bool (v == 0)) ?_
  refine E.op (.bool (v == 0)) ?_
  exact E.G.end_pst ⟨by kernel_rfl, by kernel_rfl⟩ (List.Sublist.refl _) (fun _ h => h)
 refine E.op (.bool ((n == 4) && (v == 0))) ?_
 refine E.To.code ?_
 refine E.cd ((n == 4) && (v == 0)) (fun hc3 => ?_) (fun hc3 => ?_)
 ·
  refine E.C.region ?_
  refine E.op (.pointer (some ⟨g, 0, none⟩)) ?_
  refine E.op (.pointer (some ⟨g, 0, none⟩)) ?_
  refine E.op (.pointer (some ⟨g, 23, none⟩)) ?_
  refine E.st 0 (Q.S.cells (⟨s.pc, s.r, s.f, s.c, s.st, 0⟩)) rfl rfl ?_
  refine E.P.nb (E.To.bodyN (fn := Try.f63) [] ?_ ?_)
  · exact trivial
  intro w h
  have e : (Q.ctl s n v) = ⟨s.pc, s.r, s.f, s.c, s.st, 0⟩ := by unfold Q.ctl; rw [hc3, cond_true] <;> rfl
  rw [e]
  exact ⟨(), trivial, rfl, A.done (q := [A.blk g (Q.S.cells (⟨s.pc, s.r, s.f, s.c, s.st, 0⟩))]) (r := []) h (by kernel_rfl) (A.pn [0])⟩
 refine E.sr ?_
 refine E.op (.int .u32 n) ?_
 refine E.op (.bool (n == 4)) ?_
 refine E.op (.bool (n == 4)) ?_
 refine E.To.code ?_
 refine E.cd (n == 4) (fun hc4 => ?_) (fun hc4 => ?_)
 ·
  refine E.C.region ?_
  refine E.op (.pointer (some ⟨g, 0, none⟩)) ?_
  refine E.op (.pointer (some ⟨g, 0, none⟩)) ?_
  refine E.op (.pointer (some ⟨g, 0, none⟩)) ?_
  refine E.op (.pointer (some ⟨g, 22, none⟩)) ?_
  refine E.li (.int .i64 s.st) 0 rfl rfl ?_
  refine E.op (.int .i64 (IntKind.wrap .i64 (s.st + 1))) ?_
  refine E.op (.int .u32 v) ?_
  refine E.op (.int .i64 (IntKind.wrap .i64 v)) ?_
  refine E.op (.int .i64 (IntKind.wrap .i64 ((IntKind.wrap .i64 (s.st + 1)) + (IntKind.wrap .i64 v)))) ?_
  refine E.op (.pointer (some ⟨g, 0, none⟩)) ?_
  refine E.op (.pointer (some ⟨g, 23, none⟩)) ?_
  refine E.st 0 (Q.S.cells (⟨s.pc, s.r, s.f, s.c, s.st, (IntKind.wrap .i64 ((IntKind.wrap .i64 (s.st + 1)) + (IntKind.wrap .i64 v)))⟩)) rfl rfl ?_
  refine E.P.nb (E.To.bodyN (fn := Try.f63) [] ?_ ?_)
  · exact trivial
  intro w h
  have e : (Q.ctl s n v) = ⟨s.pc, s.r, s.f, s.c, s.st, (IntKind.wrap .i64 ((IntKind.wrap .i64 (s.st + 1)) + (IntKind.wrap .i64 v)))⟩ := by unfold Q.ctl; rw [hc3, cond_false, hc4, cond_true] <;> rfl
  rw [e]
  exact ⟨(), trivial, rfl, A.done (q := [A.blk g (Q.S.cells (⟨s.pc, s.r, s.f, s.c, s.st, (IntKind.wrap .i64 ((IntKind.wrap .i64 (s.st + 1)) + (IntKind.wrap .i64 v)))⟩))]) (r := []) h (by kernel_rfl) (A.pn [0])⟩
 refine E.sr ?_
 refine E.op (.int .u32 n) ?_
 refine E.op (.bool (n == 0)) ?_
 refine E.op (.bool (n == 0)) ?_
 refine E.G.cut 3 [(0, .pointer (some ⟨g, 0, none⟩)), (1, .int .u32 n), (2, .int .u32 v), (36, .bool ((n == 0) || (n == 1)))] (A.X w oo aa []) [(g, (Q.S.cells s))] ?_ ?_
 ·
  generalize hc5 : (n == 0) = b6
  cases b6
  ·
   refine E.op (.int .u32 n) ?_
   refine E.op (.bool (n == 1)) ?_
   refine E.op (.bool (n == 1)) ?_
   exact E.G.end_pst ⟨by kernel_rfl, by kernel_rfl⟩ (List.Sublist.refl _) (fun _ h => h)
  refine E.sk ?_
  refine E.sk ?_
  refine E.op (.bool true) ?_
  exact E.G.end_pst ⟨by kernel_rfl, by kernel_rfl⟩ (List.Sublist.refl _) (fun _ h => h)
 refine E.op (.bool ((n == 0) || (n == 1))) ?_
 refine E.To.code ?_
 refine E.cd ((n == 0) || (n == 1)) (fun hc7 => ?_) (fun hc7 => ?_)
 ·
  refine E.C.region ?_
  refine E.op (.pointer (some ⟨g, 0, none⟩)) ?_
  refine E.op (.int .u32 n) ?_
  refine E.op (.int .u32 v) ?_
  refine E.op (.pointer (some ⟨g, 0, none⟩)) ?_
  refine E.op (.pointer (some ⟨g, 18, none⟩)) ?_
  refine E.vl (.pointer (some ⟨g, 18 + (n).toNat, none⟩)) (fun w h => E.idxI (e := 22) g 18 4 .u32 n (by kernel_rfl) (by kernel_rfl) (by kernel_rfl) (by kernel_rfl) (Q.ctl_ok hc7) w) ?_
  refine E.G.store 0 (Q.S.cells (⟨s.pc, s.r, s.f, (Q.up s.c (n).toNat v), s.st, s.du⟩)) rfl rfl (Q.sto_c (s := s) (by kernel_rfl) (by have := (Q.ctl_ok hc7); omega)) (by kernel_rfl) ?_
  refine E.P.nb (E.To.bodyN (fn := Try.f63) [] ?_ ?_)
  · exact trivial
  intro w h
  have e : (Q.ctl s n v) = ⟨s.pc, s.r, s.f, (Q.up s.c (n).toNat v), s.st, s.du⟩ := by unfold Q.ctl; rw [hc3, cond_false, hc4, cond_false, hc7, cond_true] <;> rfl
  rw [e]
  exact ⟨(), trivial, rfl, A.done (q := [A.blk g (Q.S.cells (⟨s.pc, s.r, s.f, (Q.up s.c (n).toNat v), s.st, s.du⟩))]) (r := []) h (by kernel_rfl) (A.pn [0])⟩
 refine E.C.skip (E.P.nb (E.To.bodyN (fn := Try.f63) [] ?_ ?_))
 · exact trivial
 intro w h
 have e : (Q.ctl s n v) = s := by unfold Q.ctl; rw [hc3, cond_false, hc4, cond_false, hc7, cond_false] <;> rfl
 rw [e]
 exact ⟨(), trivial, rfl, A.done (q := [A.blk g (Q.S.cells s)]) (r := []) h (by kernel_rfl) (A.pn [0])⟩
end Go.Proofs.Ytgbndbljohpnmaa
