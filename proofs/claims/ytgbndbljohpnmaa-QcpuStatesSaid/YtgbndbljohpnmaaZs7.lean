/- Texts of the walk, merged (7): see the remark ahead of each. -/
import Derived.Test.YtgbndbljohpnmaaZs6
import Derived.Test.YtgbndbljohpnmaaProg
/- XQr -/
namespace Go.Proofs.Ytgbndbljohpnmaa
set_option linter.unusedVariables false
set_option linter.unusedSimpArgs false
open Go.RowKit
theorem QcpuStates_rd (w0 w1 w2 w3 st du : Int) : A.Rd Try.prog 3 #[.agg #[.int .u32 w0, .int .u32 w1, .int .u32 w2, .int .u32 w3], .int .i64 st, .int .i64 du] [] (.bool true) := by
  intro w oo aa hh
  refine E.enter (n := 78) (S := oo) Try.func3 rfl rfl (by kernel_rfl) (A.start (L := []) hh) ?_
  refine E.C.seq ?_
  refine E.C.region ?_
  refine E.G.new (fun g => .pointer (some ⟨g, 0, none⟩)) [.int .u32 w0, .int .u32 w1, .int .u32 w2, .int .u32 w3] 23 (fun w => by kernel_rfl) (by kernel_rfl) (fun g1 => ?_)
  refine E.G.op (.bool false) (fun w => by kernel_rfl) (by kernel_rfl) ?_
  refine E.To.code ?_
  refine E.C.seq ?_
  refine E.C.region ?_
  refine E.G.call (.bool true) (fun w h => A.call_rd [A.blk g1 ([.int .u32 w0, .int .u32 w1, .int .u32 w2, .int .u32 w3])] (San6) h (by kernel_rfl) (A.pm [0] (by kernel_rfl) (by kernel_rfl))) (fun w _ => by kernel_rfl) (by kernel_rfl) ?_
  refine E.G.op (.bool true) (fun w => by kernel_rfl) (by kernel_rfl) ?_
  refine E.To.code ?_
  refine E.C.seq ?_
  refine E.C.region ?_
  refine E.G.op (.pointer (some ⟨g1, 0, none⟩)) (fun w => by kernel_rfl) (by kernel_rfl) ?_
  refine E.G.val (.int .u32 w0) (by kernel_rfl) (fun w h => E.run_load h 0 rfl rfl (by kernel_rfl)) ?_
  refine E.G.op (.pointer (some ⟨g1, 1, none⟩)) (fun w => by kernel_rfl) (by kernel_rfl) ?_
  refine E.G.val (.int .u32 w1) (by kernel_rfl) (fun w h => E.run_load h 0 rfl rfl (by kernel_rfl)) ?_
  refine E.G.op (.int .i64 st) (fun w => by kernel_rfl) (by kernel_rfl) ?_
  refine E.G.op (.int .i64 du) (fun w => by kernel_rfl) (by kernel_rfl) ?_
  refine E.G.val (Q.S.val (⟨w0, (fun _ => 0), w1, (fun _ => 0), st, du⟩)) (by kernel_rfl) (fun w h => E.run_build (Q.S.cells ⟨w0, (fun _ => 0), w1, (fun _ => 0), st, du⟩).toArray (by kernel_rfl) w) ?_
  refine E.G.new (fun g => .pointer (some ⟨g, 0, none⟩)) (Q.S.cells Q.z0) 27 (fun w => by kernel_rfl) (by kernel_rfl) (fun g2 => ?_)
  refine E.G.store 0 (Q.S.cells (⟨w0, (fun _ => 0), w1, (fun _ => 0), st, du⟩)) rfl rfl (by kernel_rfl) (by kernel_rfl) ?_
  refine E.To.code ?_
  refine E.C.weak [(3, .pointer (some ⟨g1, 0, none⟩)), (6, .bool false), (7, .bool true), (8, .pointer (some ⟨g2, 0, none⟩))] [(g2, (Q.S.cells (⟨w0, (fun _ => 0), w1, (fun _ => 0), st, du⟩))), (g1, [.int .u32 w0, .int .u32 w1, .int .u32 w2, .int .u32 w3])] ⟨by kernel_rfl, by kernel_rfl⟩ (List.Sublist.refl _) ?_
  refine E.C.seq ?_
  refine E.C.seq ?_
  refine E.C.region ?_
  refine E.G.op (.int .i64 0) (fun w => by kernel_rfl) (by kernel_rfl) ?_
  refine E.To.code ?_
  refine E.C.block ?_
  refine E.C.rounds 16 ?_
  refine E.C.seq ?_
  refine E.C.seq ?_
  refine E.C.region ?_
  refine E.G.op (.int .i64 0) (fun w => by kernel_rfl) (by kernel_rfl) ?_
  refine E.G.op (.bool true) (fun w => by kernel_rfl) (by kernel_rfl) ?_
  refine E.To.code ?_
  refine E.C.condT (by kernel_rfl) (by kernel_rfl) ?_
  refine E.C.skip (E.To.code ?_)
  refine E.C.seq ?_
  refine E.C.block ?_
  refine E.C.region ?_
  refine E.G.op (.int .i64 0) (fun w => by kernel_rfl) (by kernel_rfl) ?_
  refine E.G.op (.pointer (some ⟨g1, 2, none⟩)) (fun w => by kernel_rfl) (by kernel_rfl) ?_
  refine E.G.val (.int .u32 w2) (by kernel_rfl) (fun w h => E.run_load h 1 rfl rfl (by kernel_rfl)) ?_
  refine E.G.op (.int .i64 0) (fun w => by kernel_rfl) (by kernel_rfl) ?_
  refine E.G.op (.int .u32 0) (fun w => by kernel_rfl) (by kernel_rfl) ?_
  refine E.G.op (.pointer (some ⟨g1, 3, none⟩)) (fun w => by kernel_rfl) (by kernel_rfl) ?_
  refine E.G.val (.int .u32 w3) (by kernel_rfl) (fun w h => E.run_load h 1 rfl rfl (by kernel_rfl)) ?_
  refine E.G.op (.int .u32 (IntKind.wrap .u32 (0 * w3))) (fun w => by kernel_rfl) (by kernel_rfl) ?_
  refine E.G.op (.int .u32 (IntKind.wrap .u32 (w2 + (IntKind.wrap .u32 (0 * w3))))) (fun w => by kernel_rfl) (by kernel_rfl) ?_
  refine E.G.op (.pointer (some ⟨g2, 1, none⟩)) (fun w => by kernel_rfl) (by kernel_rfl) ?_
  refine E.G.op (.pointer (some ⟨g2, 1, none⟩)) (fun w => by kernel_rfl) (by kernel_rfl) ?_
  refine E.G.store 0 (Q.S.cells (⟨w0, (Q.up (fun _ => 0) 0 (IntKind.wrap .u32 (w2 + (IntKind.wrap .u32 (0 * w3))))), w1, (fun _ => 0), st, du⟩)) rfl rfl (by kernel_rfl) (by kernel_rfl) ?_
  refine E.P.nb (E.To.code ?_)
  refine E.C.region ?_
  refine E.G.op (.int .i64 0) (fun w => by kernel_rfl) (by kernel_rfl) ?_
  refine E.G.op (.int .i64 1) (fun w => by kernel_rfl) (by kernel_rfl) ?_
  refine E.G.op (.int .i64 1) (fun w => by kernel_rfl) (by kernel_rfl) ?_
  refine E.To.rounds 15 ?_
  refine E.C.weak [(3, .pointer (some ⟨g1, 0, none⟩)), (6, .bool false), (7, .bool true), (8, .pointer (some ⟨g2, 0, none⟩)), (9, .int .i64 1), (21, .int .i64 0), (22, .bool true), (23, .int .i64 0), (24, .int .i64 1), (25, .int .i64 0), (26, .pointer (some ⟨g1, 2, none⟩)), (27, .int .u32 w2), (28, .int .i64 0), (29, .int .u32 0), (30, .pointer (some ⟨g1, 3, none⟩)), (31, .int .u32 w3), (32, .int .u32 (IntKind.wrap .u32 (0 * w3))), (33, .int .u32 (IntKind.wrap .u32 (w2 + (IntKind.wrap .u32 (0 * w3))))), (34, .pointer (some ⟨g2, 1, none⟩)), (35, .pointer (some ⟨g2, 1, none⟩))] [(g2, (Q.S.cells (⟨w0, (Q.up (fun _ => 0) 0 (IntKind.wrap .u32 (w2 + (IntKind.wrap .u32 (0 * w3))))), w1, (fun _ => 0), st, du⟩))), (g1, [.int .u32 w0, .int .u32 w1, .int .u32 w2, .int .u32 w3])] ⟨by kernel_rfl, by kernel_rfl⟩ (List.Sublist.refl _) ?_
  refine E.C.seq ?_
  refine E.C.seq ?_
  refine E.C.region ?_
  refine E.G.op (.int .i64 1) (fun w => by kernel_rfl) (by kernel_rfl) ?_
  refine E.G.op (.bool true) (fun w => by kernel_rfl) (by kernel_rfl) ?_
  refine E.To.code ?_
  refine E.C.condT (by kernel_rfl) (by kernel_rfl) ?_
  refine E.C.skip (E.To.code ?_)
  refine E.C.seq ?_
  refine E.C.block ?_
  refine E.C.region ?_
  refine E.G.op (.int .i64 1) (fun w => by kernel_rfl) (by kernel_rfl) ?_
  refine E.G.op (.pointer (some ⟨g1, 2, none⟩)) (fun w => by kernel_rfl) (by kernel_rfl) ?_
  refine E.G.val (.int .u32 w2) (by kernel_rfl) (fun w h => E.run_load h 1 rfl rfl (by kernel_rfl)) ?_
  refine E.G.op (.int .i64 1) (fun w => by kernel_rfl) (by kernel_rfl) ?_
  refine E.G.op (.int .u32 1) (fun w => by kernel_rfl) (by kernel_rfl) ?_
  refine E.G.op (.pointer (some ⟨g1, 3, none⟩)) (fun w => by kernel_rfl) (by kernel_rfl) ?_
  refine E.G.val (.int .u32 w3) (by kernel_rfl) (fun w h => E.run_load h 1 rfl rfl (by kernel_rfl)) ?_
  refine E.G.op (.int .u32 (IntKind.wrap .u32 (1 * w3))) (fun w => by kernel_rfl) (by kernel_rfl) ?_
  refine E.G.op (.int .u32 (IntKind.wrap .u32 (w2 + (IntKind.wrap .u32 (1 * w3))))) (fun w => by kernel_rfl) (by kernel_rfl) ?_
  refine E.G.op (.pointer (some ⟨g2, 1, none⟩)) (fun w => by kernel_rfl) (by kernel_rfl) ?_
  refine E.G.op (.pointer (some ⟨g2, 2, none⟩)) (fun w => by kernel_rfl) (by kernel_rfl) ?_
  refine E.G.store 0 (Q.S.cells (⟨w0, (Q.up (Q.up (fun _ => 0) 0 (IntKind.wrap .u32 (w2 + (IntKind.wrap .u32 (0 * w3))))) 1 (IntKind.wrap .u32 (w2 + (IntKind.wrap .u32 (1 * w3))))), w1, (fun _ => 0), st, du⟩)) rfl rfl (by kernel_rfl) (by kernel_rfl) ?_
  refine E.P.nb (E.To.code ?_)
  refine E.C.region ?_
  refine E.G.op (.int .i64 1) (fun w => by kernel_rfl) (by kernel_rfl) ?_
  refine E.G.op (.int .i64 2) (fun w => by kernel_rfl) (by kernel_rfl) ?_
  refine E.G.op (.int .i64 2) (fun w => by kernel_rfl) (by kernel_rfl) ?_
  refine E.To.rounds 14 ?_
  refine E.C.weak [(3, .pointer (some ⟨g1, 0, none⟩)), (6, .bool false), (7, .bool true), (8, .pointer (some ⟨g2, 0, none⟩)), (9, .int .i64 2), (21, .int .i64 1), (22, .bool true), (23, .int .i64 1), (24, .int .i64 2), (25, .int .i64 1), (26, .pointer (some ⟨g1, 2, none⟩)), (27, .int .u32 w2), (28, .int .i64 1), (29, .int .u32 1), (30, .pointer (some ⟨g1, 3, none⟩)), (31, .int .u32 w3), (32, .int .u32 (IntKind.wrap .u32 (1 * w3))), (33, .int .u32 (IntKind.wrap .u32 (w2 + (IntKind.wrap .u32 (1 * w3))))), (34, .pointer (some ⟨g2, 1, none⟩)), (35, .pointer (some ⟨g2, 2, none⟩))] [(g2, (Q.S.cells (⟨w0, (Q.up (Q.up (fun _ => 0) 0 (IntKind.wrap .u32 (w2 + (IntKind.wrap .u32 (0 * w3))))) 1 (IntKind.wrap .u32 (w2 + (IntKind.wrap .u32 (1 * w3))))), w1, (fun _ => 0), st, du⟩))), (g1, [.int .u32 w0, .int .u32 w1, .int .u32 w2, .int .u32 w3])] ⟨by kernel_rfl, by kernel_rfl⟩ (List.Sublist.refl _) ?_
  refine E.C.seq ?_
  refine E.C.seq ?_
  refine E.C.region ?_
  refine E.G.op (.int .i64 2) (fun w => by kernel_rfl) (by kernel_rfl) ?_
  refine E.G.op (.bool true) (fun w => by kernel_rfl) (by kernel_rfl) ?_
  refine E.To.code ?_
  refine E.C.condT (by kernel_rfl) (by kernel_rfl) ?_
  refine E.C.skip (E.To.code ?_)
  refine E.C.seq ?_
  refine E.C.block ?_
  refine E.C.region ?_
  refine E.G.op (.int .i64 2) (fun w => by kernel_rfl) (by kernel_rfl) ?_
  refine E.G.op (.pointer (some ⟨g1, 2, none⟩)) (fun w => by kernel_rfl) (by kernel_rfl) ?_
  refine E.G.val (.int .u32 w2) (by kernel_rfl) (fun w h => E.run_load h 1 rfl rfl (by kernel_rfl)) ?_
  refine E.G.op (.int .i64 2) (fun w => by kernel_rfl) (by kernel_rfl) ?_
  refine E.G.op (.int .u32 2) (fun w => by kernel_rfl) (by kernel_rfl) ?_
  refine E.G.op (.pointer (some ⟨g1, 3, none⟩)) (fun w => by kernel_rfl) (by kernel_rfl) ?_
  refine E.G.val (.int .u32 w3) (by kernel_rfl) (fun w h => E.run_load h 1 rfl rfl (by kernel_rfl)) ?_
  refine E.G.op (.int .u32 (IntKind.wrap .u32 (2 * w3))) (fun w => by kernel_rfl) (by kernel_rfl) ?_
  refine E.G.op (.int .u32 (IntKind.wrap .u32 (w2 + (IntKind.wrap .u32 (2 * w3))))) (fun w => by kernel_rfl) (by kernel_rfl) ?_
  refine E.G.op (.pointer (some ⟨g2, 1, none⟩)) (fun w => by kernel_rfl) (by kernel_rfl) ?_
  refine E.G.op (.pointer (some ⟨g2, 3, none⟩)) (fun w => by kernel_rfl) (by kernel_rfl) ?_
  refine E.G.store 0 (Q.S.cells (⟨w0, (Q.up (Q.up (Q.up (fun _ => 0) 0 (IntKind.wrap .u32 (w2 + (IntKind.wrap .u32 (0 * w3))))) 1 (IntKind.wrap .u32 (w2 + (IntKind.wrap .u32 (1 * w3))))) 2 (IntKind.wrap .u32 (w2 + (IntKind.wrap .u32 (2 * w3))))), w1, (fun _ => 0), st, du⟩)) rfl rfl (by kernel_rfl) (by kernel_rfl) ?_
  refine E.P.nb (E.To.code ?_)
  refine E.C.region ?_
  refine E.G.op (.int .i64 2) (fun w => by kernel_rfl) (by kernel_rfl) ?_
  refine E.G.op (.int .i64 3) (fun w => by kernel_rfl) (by kernel_rfl) ?_
  refine E.G.op (.int .i64 3) (fun w => by kernel_rfl) (by kernel_rfl) ?_
  refine E.To.rounds 13 ?_
  refine E.C.weak [(3, .pointer (some ⟨g1, 0, none⟩)), (6, .bool false), (7, .bool true), (8, .pointer (some ⟨g2, 0, none⟩)), (9, .int .i64 3), (21, .int .i64 2), (22, .bool true), (23, .int .i64 2), (24, .int .i64 3), (25, .int .i64 2), (26, .pointer (some ⟨g1, 2, none⟩)), (27, .int .u32 w2), (28, .int .i64 2), (29, .int .u32 2), (30, .pointer (some ⟨g1, 3, none⟩)), (31, .int .u32 w3), (32, .int .u32 (IntKind.wrap .u32 (2 * w3))), (33, .int .u32 (IntKind.wrap .u32 (w2 + (IntKind.wrap .u32 (2 * w3))))), (34, .pointer (some ⟨g2, 1, none⟩)), (35, .pointer (some ⟨g2, 3, none⟩))] [(g2, (Q.S.cells (⟨w0, (Q.up (Q.up (Q.up (fun _ => 0) 0 (IntKind.wrap .u32 (w2 + (IntKind.wrap .u32 (0 * w3))))) 1 (IntKind.wrap .u32 (w2 + (IntKind.wrap .u32 (1 * w3))))) 2 (IntKind.wrap .u32 (w2 + (IntKind.wrap .u32 (2 * w3))))), w1, (fun _ => 0), st, du⟩))), (g1, [.int .u32 w0, .int .u32 w1, .int .u32 w2, .int .u32 w3])] ⟨by kernel_rfl, by kernel_rfl⟩ (List.Sublist.refl _) ?_
  refine E.C.seq ?_
  refine E.C.seq ?_
  refine E.C.region ?_
  refine E.G.op (.int .i64 3) (fun w => by kernel_rfl) (by kernel_rfl) ?_
  refine E.G.op (.bool true) (fun w => by kernel_rfl) (by kernel_rfl) ?_
  refine E.To.code ?_
  refine E.C.condT (by kernel_rfl) (by kernel_rfl) ?_
  refine E.C.skip (E.To.code ?_)
  refine E.C.seq ?_
  refine E.C.block ?_
  refine E.C.region ?_
  refine E.G.op (.int .i64 3) (fun w => by kernel_rfl) (by kernel_rfl) ?_
  refine E.G.op (.pointer (some ⟨g1, 2, none⟩)) (fun w => by kernel_rfl) (by kernel_rfl) ?_
  refine E.G.val (.int .u32 w2) (by kernel_rfl) (fun w h => E.run_load h 1 rfl rfl (by kernel_rfl)) ?_
  refine E.G.op (.int .i64 3) (fun w => by kernel_rfl) (by kernel_rfl) ?_
  refine E.G.op (.int .u32 3) (fun w => by kernel_rfl) (by kernel_rfl) ?_
  refine E.G.op (.pointer (some ⟨g1, 3, none⟩)) (fun w => by kernel_rfl) (by kernel_rfl) ?_
  refine E.G.val (.int .u32 w3) (by kernel_rfl) (fun w h => E.run_load h 1 rfl rfl (by kernel_rfl)) ?_
  refine E.G.op (.int .u32 (IntKind.wrap .u32 (3 * w3))) (fun w => by kernel_rfl) (by kernel_rfl) ?_
  refine E.G.op (.int .u32 (IntKind.wrap .u32 (w2 + (IntKind.wrap .u32 (3 * w3))))) (fun w => by kernel_rfl) (by kernel_rfl) ?_
  refine E.G.op (.pointer (some ⟨g2, 1, none⟩)) (fun w => by kernel_rfl) (by kernel_rfl) ?_
  refine E.G.op (.pointer (some ⟨g2, 4, none⟩)) (fun w => by kernel_rfl) (by kernel_rfl) ?_
  refine E.G.store 0 (Q.S.cells (⟨w0, (Q.up (Q.up (Q.up (Q.up (fun _ => 0) 0 (IntKind.wrap .u32 (w2 + (IntKind.wrap .u32 (0 * w3))))) 1 (IntKind.wrap .u32 (w2 + (IntKind.wrap .u32 (1 * w3))))) 2 (IntKind.wrap .u32 (w2 + (IntKind.wrap .u32 (2 * w3))))) 3 (IntKind.wrap .u32 (w2 + (IntKind.wrap .u32 (3 * w3))))), w1, (fun _ => 0), st, du⟩)) rfl rfl (by kernel_rfl) (by kernel_rfl) ?_
  refine E.P.nb (E.To.code ?_)
  refine E.C.region ?_
  refine E.G.op (.int .i64 3) (fun w => by kernel_rfl) (by kernel_rfl) ?_
  refine E.G.op (.int .i64 4) (fun w => by kernel_rfl) (by kernel_rfl) ?_
  refine E.G.op (.int .i64 4) (fun w => by kernel_rfl) (by kernel_rfl) ?_
  refine E.To.rounds 12 ?_
  refine E.C.weak [(3, .pointer (some ⟨g1, 0, none⟩)), (6, .bool false), (7, .bool true), (8, .pointer (some ⟨g2, 0, none⟩)), (9, .int .i64 4), (21, .int .i64 3), (22, .bool true), (23, .int .i64 3), (24, .int .i64 4), (25, .int .i64 3), (26, .pointer (some ⟨g1, 2, none⟩)), (27, .int .u32 w2), (28, .int .i64 3), (29, .int .u32 3), (30, .pointer (some ⟨g1, 3, none⟩)), (31, .int .u32 w3), (32, .int .u32 (IntKind.wrap .u32 (3 * w3))), (33, .int .u32 (IntKind.wrap .u32 (w2 + (IntKind.wrap .u32 (3 * w3))))), (34, .pointer (some ⟨g2, 1, none⟩)), (35, .pointer (some ⟨g2, 4, none⟩))] [(g2, (Q.S.cells (⟨w0, (Q.up (Q.up (Q.up (Q.up (fun _ => 0) 0 (IntKind.wrap .u32 (w2 + (IntKind.wrap .u32 (0 * w3))))) 1 (IntKind.wrap .u32 (w2 + (IntKind.wrap .u32 (1 * w3))))) 2 (IntKind.wrap .u32 (w2 + (IntKind.wrap .u32 (2 * w3))))) 3 (IntKind.wrap .u32 (w2 + (IntKind.wrap .u32 (3 * w3))))), w1, (fun _ => 0), st, du⟩))), (g1, [.int .u32 w0, .int .u32 w1, .int .u32 w2, .int .u32 w3])] ⟨by kernel_rfl, by kernel_rfl⟩ (List.Sublist.refl _) ?_
  refine E.C.seq ?_
  refine E.C.seq ?_
  refine E.C.region ?_
  refine E.G.op (.int .i64 4) (fun w => by kernel_rfl) (by kernel_rfl) ?_
  refine E.G.op (.bool true) (fun w => by kernel_rfl) (by kernel_rfl) ?_
  refine E.To.code ?_
  refine E.C.condT (by kernel_rfl) (by kernel_rfl) ?_
  refine E.C.skip (E.To.code ?_)
  refine E.C.seq ?_
  refine E.C.block ?_
  refine E.C.region ?_
  refine E.G.op (.int .i64 4) (fun w => by kernel_rfl) (by kernel_rfl) ?_
  refine E.G.op (.pointer (some ⟨g1, 2, none⟩)) (fun w => by kernel_rfl) (by kernel_rfl) ?_
  refine E.G.val (.int .u32 w2) (by kernel_rfl) (fun w h => E.run_load h 1 rfl rfl (by kernel_rfl)) ?_
  refine E.G.op (.int .i64 4) (fun w => by kernel_rfl) (by kernel_rfl) ?_
  refine E.G.op (.int .u32 4) (fun w => by kernel_rfl) (by kernel_rfl) ?_
  refine E.G.op (.pointer (some ⟨g1, 3, none⟩)) (fun w => by kernel_rfl) (by kernel_rfl) ?_
  refine E.G.val (.int .u32 w3) (by kernel_rfl) (fun w h => E.run_load h 1 rfl rfl (by kernel_rfl)) ?_
  refine E.G.op (.int .u32 (IntKind.wrap .u32 (4 * w3))) (fun w => by kernel_rfl) (by kernel_rfl) ?_
  refine E.G.op (.int .u32 (IntKind.wrap .u32 (w2 + (IntKind.wrap .u32 (4 * w3))))) (fun w => by kernel_rfl) (by kernel_rfl) ?_
  refine E.G.op (.pointer (some ⟨g2, 1, none⟩)) (fun w => by kernel_rfl) (by kernel_rfl) ?_
  refine E.G.op (.pointer (some ⟨g2, 5, none⟩)) (fun w => by kernel_rfl) (by kernel_rfl) ?_
  refine E.G.store 0 (Q.S.cells (⟨w0, (Q.up (Q.up (Q.up (Q.up (Q.up (fun _ => 0) 0 (IntKind.wrap .u32 (w2 + (IntKind.wrap .u32 (0 * w3))))) 1 (IntKind.wrap .u32 (w2 + (IntKind.wrap .u32 (1 * w3))))) 2 (IntKind.wrap .u32 (w2 + (IntKind.wrap .u32 (2 * w3))))) 3 (IntKind.wrap .u32 (w2 + (IntKind.wrap .u32 (3 * w3))))) 4 (IntKind.wrap .u32 (w2 + (IntKind.wrap .u32 (4 * w3))))), w1, (fun _ => 0), st, du⟩)) rfl rfl (by kernel_rfl) (by kernel_rfl) ?_
  refine E.P.nb (E.To.code ?_)
  refine E.C.region ?_
  refine E.G.op (.int .i64 4) (fun w => by kernel_rfl) (by kernel_rfl) ?_
  refine E.G.op (.int .i64 5) (fun w => by kernel_rfl) (by kernel_rfl) ?_
  refine E.G.op (.int .i64 5) (fun w => by kernel_rfl) (by kernel_rfl) ?_
  refine E.To.rounds 11 ?_
  refine E.C.weak [(3, .pointer (some ⟨g1, 0, none⟩)), (6, .bool false), (7, .bool true), (8, .pointer (some ⟨g2, 0, none⟩)), (9, .int .i64 5), (21, .int .i64 4), (22, .bool true), (23, .int .i64 4), (24, .int .i64 5), (25, .int .i64 4), (26, .pointer (some ⟨g1, 2, none⟩)), (27, .int .u32 w2), (28, .int .i64 4), (29, .int .u32 4), (30, .pointer (some ⟨g1, 3, none⟩)), (31, .int .u32 w3), (32, .int .u32 (IntKind.wrap .u32 (4 * w3))), (33, .int .u32 (IntKind.wrap .u32 (w2 + (IntKind.wrap .u32 (4 * w3))))), (34, .pointer (some ⟨g2, 1, none⟩)), (35, .pointer (some ⟨g2, 5, none⟩))] [(g2, (Q.S.cells (⟨w0, (Q.up (Q.up (Q.up (Q.up (Q.up (fun _ => 0) 0 (IntKind.wrap .u32 (w2 + (IntKind.wrap .u32 (0 * w3))))) 1 (IntKind.wrap .u32 (w2 + (IntKind.wrap .u32 (1 * w3))))) 2 (IntKind.wrap .u32 (w2 + (IntKind.wrap .u32 (2 * w3))))) 3 (IntKind.wrap .u32 (w2 + (IntKind.wrap .u32 (3 * w3))))) 4 (IntKind.wrap .u32 (w2 + (IntKind.wrap .u32 (4 * w3))))), w1, (fun _ => 0), st, du⟩))), (g1, [.int .u32 w0, .int .u32 w1, .int .u32 w2, .int .u32 w3])] ⟨by kernel_rfl, by kernel_rfl⟩ (List.Sublist.refl _) ?_
  refine E.C.seq ?_
  refine E.C.seq ?_
  refine E.C.region ?_
  refine E.G.op (.int .i64 5) (fun w => by kernel_rfl) (by kernel_rfl) ?_
  refine E.G.op (.bool true) (fun w => by kernel_rfl) (by kernel_rfl) ?_
  refine E.To.code ?_
  refine E.C.condT (by kernel_rfl) (by kernel_rfl) ?_
  refine E.C.skip (E.To.code ?_)
  refine E.C.seq ?_
  refine E.C.block ?_
  refine E.C.region ?_
  refine E.G.op (.int .i64 5) (fun w => by kernel_rfl) (by kernel_rfl) ?_
  refine E.G.op (.pointer (some ⟨g1, 2, none⟩)) (fun w => by kernel_rfl) (by kernel_rfl) ?_
  refine E.G.val (.int .u32 w2) (by kernel_rfl) (fun w h => E.run_load h 1 rfl rfl (by kernel_rfl)) ?_
  refine E.G.op (.int .i64 5) (fun w => by kernel_rfl) (by kernel_rfl) ?_
  refine E.G.op (.int .u32 5) (fun w => by kernel_rfl) (by kernel_rfl) ?_
  refine E.G.op (.pointer (some ⟨g1, 3, none⟩)) (fun w => by kernel_rfl) (by kernel_rfl) ?_
  refine E.G.val (.int .u32 w3) (by kernel_rfl) (fun w h => E.run_load h 1 rfl rfl (by kernel_rfl)) ?_
  refine E.G.op (.int .u32 (IntKind.wrap .u32 (5 * w3))) (fun w => by kernel_rfl) (by kernel_rfl) ?_
  refine E.G.op (.int .u32 (IntKind.wrap .u32 (w2 + (IntKind.wrap .u32 (5 * w3))))) (fun w => by kernel_rfl) (by kernel_rfl) ?_
  refine E.G.op (.pointer (some ⟨g2, 1, none⟩)) (fun w => by kernel_rfl) (by kernel_rfl) ?_
  refine E.G.op (.pointer (some ⟨g2, 6, none⟩)) (fun w => by kernel_rfl) (by kernel_rfl) ?_
  refine E.G.store 0 (Q.S.cells (⟨w0, (Q.up (Q.up (Q.up (Q.up (Q.up (Q.up (fun _ => 0) 0 (IntKind.wrap .u32 (w2 + (IntKind.wrap .u32 (0 * w3))))) 1 (IntKind.wrap .u32 (w2 + (IntKind.wrap .u32 (1 * w3))))) 2 (IntKind.wrap .u32 (w2 + (IntKind.wrap .u32 (2 * w3))))) 3 (IntKind.wrap .u32 (w2 + (IntKind.wrap .u32 (3 * w3))))) 4 (IntKind.wrap .u32 (w2 + (IntKind.wrap .u32 (4 * w3))))) 5 (IntKind.wrap .u32 (w2 + (IntKind.wrap .u32 (5 * w3))))), w1, (fun _ => 0), st, du⟩)) rfl rfl (by kernel_rfl) (by kernel_rfl) ?_
  refine E.P.nb (E.To.code ?_)
  refine E.C.region ?_
  refine E.G.op (.int .i64 5) (fun w => by kernel_rfl) (by kernel_rfl) ?_
  refine E.G.op (.int .i64 6) (fun w => by kernel_rfl) (by kernel_rfl) ?_
  refine E.G.op (.int .i64 6) (fun w => by kernel_rfl) (by kernel_rfl) ?_
  refine E.To.rounds 10 ?_
  refine E.C.weak [(3, .pointer (some ⟨g1, 0, none⟩)), (6, .bool false), (7, .bool true), (8, .pointer (some ⟨g2, 0, none⟩)), (9, .int .i64 6), (21, .int .i64 5), (22, .bool true), (23, .int .i64 5), (24, .int .i64 6), (25, .int .i64 5), (26, .pointer (some ⟨g1, 2, none⟩)), (27, .int .u32 w2), (28, .int .i64 5), (29, .int .u32 5), (30, .pointer (some ⟨g1, 3, none⟩)), (31, .int .u32 w3), (32, .int .u32 (IntKind.wrap .u32 (5 * w3))), (33, .int .u32 (IntKind.wrap .u32 (w2 + (IntKind.wrap .u32 (5 * w3))))), (34, .pointer (some ⟨g2, 1, none⟩)), (35, .pointer (some ⟨g2, 6, none⟩))] [(g2, (Q.S.cells (⟨w0, (Q.up (Q.up (Q.up (Q.up (Q.up (Q.up (fun _ => 0) 0 (IntKind.wrap .u32 (w2 + (IntKind.wrap .u32 (0 * w3))))) 1 (IntKind.wrap .u32 (w2 + (IntKind.wrap .u32 (1 * w3))))) 2 (IntKind.wrap .u32 (w2 + (IntKind.wrap .u32 (2 * w3))))) 3 (IntKind.wrap .u32 (w2 + (IntKind.wrap .u32 (3 * w3))))) 4 (IntKind.wrap .u32 (w2 + (IntKind.wrap .u32 (4 * w3))))) 5 (IntKind.wrap .u32 (w2 + (IntKind.wrap .u32 (5 * w3))))), w1, (fun _ => 0), st, du⟩))), (g1, [.int .u32 w0, .int .u32 w1, .int .u32 w2, .int .u32 w3])] ⟨by kernel_rfl, by kernel_rfl⟩ (List.Sublist.refl _) ?_
  refine E.C.seq ?_
  refine E.C.seq ?_
  refine E.C.region ?_
  refine E.G.op (.int .i64 6) (fun w => by kernel_rfl) (by kernel_rfl) ?_
  refine E.G.op (.bool true) (fun w => by kernel_rfl) (by kernel_rfl) ?_
  refine E.To.code ?_
  refine E.C.condT (by kernel_rfl) (by kernel_rfl) ?_
  refine E.C.skip (E.To.code ?_)
  refine E.C.seq ?_
  refine E.C.block ?_
  refine E.C.region ?_
  refine E.G.op (.int .i64 6) (fun w => by kernel_rfl) (by kernel_rfl) ?_
  refine E.G.op (.pointer (some ⟨g1, 2, none⟩)) (fun w => by kernel_rfl) (by kernel_rfl) ?_
  refine E.G.val (.int .u32 w2) (by kernel_rfl) (fun w h => E.run_load h 1 rfl rfl (by kernel_rfl)) ?_
  refine E.G.op (.int .i64 6) (fun w => by kernel_rfl) (by kernel_rfl) ?_
  refine E.G.op (.int .u32 6) (fun w => by kernel_rfl) (by kernel_rfl) ?_
  refine E.G.op (.pointer (some ⟨g1, 3, none⟩)) (fun w => by kernel_rfl) (by kernel_rfl) ?_
  refine E.G.val (.int .u32 w3) (by kernel_rfl) (fun w h => E.run_load h 1 rfl rfl (by kernel_rfl)) ?_
  refine E.G.op (.int .u32 (IntKind.wrap .u32 (6 * w3))) (fun w => by kernel_rfl) (by kernel_rfl) ?_
  refine E.G.op (.int .u32 (IntKind.wrap .u32 (w2 + (IntKind.wrap .u32 (6 * w3))))) (fun w => by kernel_rfl) (by kernel_rfl) ?_
  refine E.G.op (.pointer (some ⟨g2, 1, none⟩)) (fun w => by kernel_rfl) (by kernel_rfl) ?_
  refine E.G.op (.pointer (some ⟨g2, 7, none⟩)) (fun w => by kernel_rfl) (by kernel_rfl) ?_
  refine E.G.store 0 (Q.S.cells (⟨w0, (Q.up (Q.up (Q.up (Q.up (Q.up (Q.up (Q.up (fun _ => 0) 0 (IntKind.wrap .u32 (w2 + (IntKind.wrap .u32 (0 * w3))))) 1 (IntKind.wrap .u32 (w2 + (IntKind.wrap .u32 (1 * w3))))) 2 (IntKind.wrap .u32 (w2 + (IntKind.wrap .u32 (2 * w3))))) 3 (IntKind.wrap .u32 (w2 + (IntKind.wrap .u32 (3 * w3))))) 4 (IntKind.wrap .u32 (w2 + (IntKind.wrap .u32 (4 * w3))))) 5 (IntKind.wrap .u32 (w2 + (IntKind.wrap .u32 (5 * w3))))) 6 (IntKind.wrap .u32 (w2 + (IntKind.wrap .u32 (6 * w3))))), w1, (fun _ => 0), st, du⟩)) rfl rfl (by kernel_rfl) (by kernel_rfl) ?_
  refine E.P.nb (E.To.code ?_)
  refine E.C.region ?_
  refine E.G.op (.int .i64 6) (fun w => by kernel_rfl) (by kernel_rfl) ?_
  refine E.G.op (.int .i64 7) (fun w => by kernel_rfl) (by kernel_rfl) ?_
  refine E.G.op (.int .i64 7) (fun w => by kernel_rfl) (by kernel_rfl) ?_
  refine E.To.rounds 9 ?_
  refine E.C.weak [(3, .pointer (some ⟨g1, 0, none⟩)), (6, .bool false), (7, .bool true), (8, .pointer (some ⟨g2, 0, none⟩)), (9, .int .i64 7), (21, .int .i64 6), (22, .bool true), (23, .int .i64 6), (24, .int .i64 7), (25, .int .i64 6), (26, .pointer (some ⟨g1, 2, none⟩)), (27, .int .u32 w2), (28, .int .i64 6), (29, .int .u32 6), (30, .pointer (some ⟨g1, 3, none⟩)), (31, .int .u32 w3), (32, .int .u32 (IntKind.wrap .u32 (6 * w3))), (33, .int .u32 (IntKind.wrap .u32 (w2 + (IntKind.wrap .u32 (6 * w3))))), (34, .pointer (some ⟨g2, 1, none⟩)), (35, .pointer (some ⟨g2, 7, none⟩))] [(g2, (Q.S.cells (⟨w0, (Q.up (Q.up (Q.up (Q.up (Q.up (Q.up (Q.up (fun _ => 0) 0 (IntKind.wrap .u32 (w2 + (IntKind.wrap .u32 (0 * w3))))) 1 (IntKind.wrap .u32 (w2 + (IntKind.wrap .u32 (1 * w3))))) 2 (IntKind.wrap .u32 (w2 + (IntKind.wrap .u32 (2 * w3))))) 3 (IntKind.wrap .u32 (w2 + (IntKind.wrap .u32 (3 * w3))))) 4 (IntKind.wrap .u32 (w2 + (IntKind.wrap .u32 (4 * w3))))) 5 (IntKind.wrap .u32 (w2 + (IntKind.wrap .u32 (5 * w3))))) 6 (IntKind.wrap .u32 (w2 + (IntKind.wrap .u32 (6 * w3))))), w1, (fun _ => 0), st, du⟩))), (g1, [.int .u32 w0, .int .u32 w1, .int .u32 w2, .int .u32 w3])] ⟨by kernel_rfl, by kernel_rfl⟩ (List.Sublist.refl _) ?_
  refine E.C.seq ?_
  refine E.C.seq ?_
  refine E.C.region ?_
  refine E.G.op (.int .i64 7) (fun w => by kernel_rfl) (by kernel_rfl) ?_
  refine E.G.op (.bool true) (fun w => by kernel_rfl) (by kernel_rfl) ?_
  refine E.To.code ?_
  refine E.C.condT (by kernel_rfl) (by kernel_rfl) ?_
  refine E.C.skip (E.To.code ?_)
  refine E.C.seq ?_
  refine E.C.block ?_
  refine E.C.region ?_
  refine E.G.op (.int .i64 7) (fun w => by kernel_rfl) (by kernel_rfl) ?_
  refine E.G.op (.pointer (some ⟨g1, 2, none⟩)) (fun w => by kernel_rfl) (by kernel_rfl) ?_
  refine E.G.val (.int .u32 w2) (by kernel_rfl) (fun w h => E.run_load h 1 rfl rfl (by kernel_rfl)) ?_
  refine E.G.op (.int .i64 7) (fun w => by kernel_rfl) (by kernel_rfl) ?_
  refine E.G.op (.int .u32 7) (fun w => by kernel_rfl) (by kernel_rfl) ?_
  refine E.G.op (.pointer (some ⟨g1, 3, none⟩)) (fun w => by kernel_rfl) (by kernel_rfl) ?_
  refine E.G.val (.int .u32 w3) (by kernel_rfl) (fun w h => E.run_load h 1 rfl rfl (by kernel_rfl)) ?_
  refine E.G.op (.int .u32 (IntKind.wrap .u32 (7 * w3))) (fun w => by kernel_rfl) (by kernel_rfl) ?_
  refine E.G.op (.int .u32 (IntKind.wrap .u32 (w2 + (IntKind.wrap .u32 (7 * w3))))) (fun w => by kernel_rfl) (by kernel_rfl) ?_
  refine E.G.op (.pointer (some ⟨g2, 1, none⟩)) (fun w => by kernel_rfl) (by kernel_rfl) ?_
  refine E.G.op (.pointer (some ⟨g2, 8, none⟩)) (fun w => by kernel_rfl) (by kernel_rfl) ?_
  refine E.G.store 0 (Q.S.cells (⟨w0, (Q.up (Q.up (Q.up (Q.up (Q.up (Q.up (Q.up (Q.up (fun _ => 0) 0 (IntKind.wrap .u32 (w2 + (IntKind.wrap .u32 (0 * w3))))) 1 (IntKind.wrap .u32 (w2 + (IntKind.wrap .u32 (1 * w3))))) 2 (IntKind.wrap .u32 (w2 + (IntKind.wrap .u32 (2 * w3))))) 3 (IntKind.wrap .u32 (w2 + (IntKind.wrap .u32 (3 * w3))))) 4 (IntKind.wrap .u32 (w2 + (IntKind.wrap .u32 (4 * w3))))) 5 (IntKind.wrap .u32 (w2 + (IntKind.wrap .u32 (5 * w3))))) 6 (IntKind.wrap .u32 (w2 + (IntKind.wrap .u32 (6 * w3))))) 7 (IntKind.wrap .u32 (w2 + (IntKind.wrap .u32 (7 * w3))))), w1, (fun _ => 0), st, du⟩)) rfl rfl (by kernel_rfl) (by kernel_rfl) ?_
  refine E.P.nb (E.To.code ?_)
  refine E.C.region ?_
  refine E.G.op (.int .i64 7) (fun w => by kernel_rfl) (by kernel_rfl) ?_
  refine E.G.op (.int .i64 8) (fun w => by kernel_rfl) (by kernel_rfl) ?_
  refine E.G.op (.int .i64 8) (fun w => by kernel_rfl) (by kernel_rfl) ?_
  refine E.To.rounds 8 ?_
  refine E.C.weak [(3, .pointer (some ⟨g1, 0, none⟩)), (6, .bool false), (7, .bool true), (8, .pointer (some ⟨g2, 0, none⟩)), (9, .int .i64 8), (21, .int .i64 7), (22, .bool true), (23, .int .i64 7), (24, .int .i64 8), (25, .int .i64 7), (26, .pointer (some ⟨g1, 2, none⟩)), (27, .int .u32 w2), (28, .int .i64 7), (29, .int .u32 7), (30, .pointer (some ⟨g1, 3, none⟩)), (31, .int .u32 w3), (32, .int .u32 (IntKind.wrap .u32 (7 * w3))), (33, .int .u32 (IntKind.wrap .u32 (w2 + (IntKind.wrap .u32 (7 * w3))))), (34, .pointer (some ⟨g2, 1, none⟩)), (35, .pointer (some ⟨g2, 8, none⟩))] [(g2, (Q.S.cells (⟨w0, (Q.up (Q.up (Q.up (Q.up (Q.up (Q.up (Q.up (Q.up (fun _ => 0) 0 (IntKind.wrap .u32 (w2 + (IntKind.wrap .u32 (0 * w3))))) 1 (IntKind.wrap .u32 (w2 + (IntKind.wrap .u32 (1 * w3))))) 2 (IntKind.wrap .u32 (w2 + (IntKind.wrap .u32 (2 * w3))))) 3 (IntKind.wrap .u32 (w2 + (IntKind.wrap .u32 (3 * w3))))) 4 (IntKind.wrap .u32 (w2 + (IntKind.wrap .u32 (4 * w3))))) 5 (IntKind.wrap .u32 (w2 + (IntKind.wrap .u32 (5 * w3))))) 6 (IntKind.wrap .u32 (w2 + (IntKind.wrap .u32 (6 * w3))))) 7 (IntKind.wrap .u32 (w2 + (IntKind.wrap .u32 (7 * w3))))), w1, (fun _ => 0), st, du⟩))), (g1, [.int .u32 w0, .int .u32 w1, .int .u32 w2, .int .u32 w3])] ⟨by kernel_rfl, by kernel_rfl⟩ (List.Sublist.refl _) ?_
  refine E.C.seq ?_
  refine E.C.seq ?_
  refine E.C.region ?_
  refine E.G.op (.int .i64 8) (fun w => by kernel_rfl) (by kernel_rfl) ?_
  refine E.G.op (.bool true) (fun w => by kernel_rfl) (by kernel_rfl) ?_
  refine E.To.code ?_
  refine E.C.condT (by kernel_rfl) (by kernel_rfl) ?_
  refine E.C.skip (E.To.code ?_)
  refine E.C.seq ?_
  refine E.C.block ?_
  refine E.C.region ?_
  refine E.G.op (.int .i64 8) (fun w => by kernel_rfl) (by kernel_rfl) ?_
  refine E.G.op (.pointer (some ⟨g1, 2, none⟩)) (fun w => by kernel_rfl) (by kernel_rfl) ?_
  refine E.G.val (.int .u32 w2) (by kernel_rfl) (fun w h => E.run_load h 1 rfl rfl (by kernel_rfl)) ?_
  refine E.G.op (.int .i64 8) (fun w => by kernel_rfl) (by kernel_rfl) ?_
  refine E.G.op (.int .u32 8) (fun w => by kernel_rfl) (by kernel_rfl) ?_
  refine E.G.op (.pointer (some ⟨g1, 3, none⟩)) (fun w => by kernel_rfl) (by kernel_rfl) ?_
  refine E.G.val (.int .u32 w3) (by kernel_rfl) (fun w h => E.run_load h 1 rfl rfl (by kernel_rfl)) ?_
  refine E.G.op (.int .u32 (IntKind.wrap .u32 (8 * w3))) (fun w => by kernel_rfl) (by kernel_rfl) ?_
  refine E.G.op (.int .u32 (IntKind.wrap .u32 (w2 + (IntKind.wrap .u32 (8 * w3))))) (fun w => by kernel_rfl) (by kernel_rfl) ?_
  refine E.G.op (.pointer (some ⟨g2, 1, none⟩)) (fun w => by kernel_rfl) (by kernel_rfl) ?_
  refine E.G.op (.pointer (some ⟨g2, 9, none⟩)) (fun w => by kernel_rfl) (by kernel_rfl) ?_
  refine E.G.store 0 (Q.S.cells (⟨w0, (Q.up (Q.up (Q.up (Q.up (Q.up (Q.up (Q.up (Q.up (Q.up (fun _ => 0) 0 (IntKind.wrap .u32 (w2 + (IntKind.wrap .u32 (0 * w3))))) 1 (IntKind.wrap .u32 (w2 + (IntKind.wrap .u32 (1 * w3))))) 2 (IntKind.wrap .u32 (w2 + (IntKind.wrap .u32 (2 * w3))))) 3 (IntKind.wrap .u32 (w2 + (IntKind.wrap .u32 (3 * w3))))) 4 (IntKind.wrap .u32 (w2 + (IntKind.wrap .u32 (4 * w3))))) 5 (IntKind.wrap .u32 (w2 + (IntKind.wrap .u32 (5 * w3))))) 6 (IntKind.wrap .u32 (w2 + (IntKind.wrap .u32 (6 * w3))))) 7 (IntKind.wrap .u32 (w2 + (IntKind.wrap .u32 (7 * w3))))) 8 (IntKind.wrap .u32 (w2 + (IntKind.wrap .u32 (8 * w3))))), w1, (fun _ => 0), st, du⟩)) rfl rfl (by kernel_rfl) (by kernel_rfl) ?_
  refine E.P.nb (E.To.code ?_)
  refine E.C.region ?_
  refine E.G.op (.int .i64 8) (fun w => by kernel_rfl) (by kernel_rfl) ?_
  refine E.G.op (.int .i64 9) (fun w => by kernel_rfl) (by kernel_rfl) ?_
  refine E.G.op (.int .i64 9) (fun w => by kernel_rfl) (by kernel_rfl) ?_
  refine E.To.rounds 7 ?_
  refine E.C.weak [(3, .pointer (some ⟨g1, 0, none⟩)), (6, .bool false), (7, .bool true), (8, .pointer (some ⟨g2, 0, none⟩)), (9, .int .i64 9), (21, .int .i64 8), (22, .bool true), (23, .int .i64 8), (24, .int .i64 9), (25, .int .i64 8), (26, .pointer (some ⟨g1, 2, none⟩)), (27, .int .u32 w2), (28, .int .i64 8), (29, .int .u32 8), (30, .pointer (some ⟨g1, 3, none⟩)), (31, .int .u32 w3), (32, .int .u32 (IntKind.wrap .u32 (8 * w3))), (33, .int .u32 (IntKind.wrap .u32 (w2 + (IntKind.wrap .u32 (8 * w3))))), (34, .pointer (some ⟨g2, 1, none⟩)), (35, .pointer (some ⟨g2, 9, none⟩))] [(g2, (Q.S.cells (⟨w0, (Q.up (Q.up (Q.up (Q.up (Q.up (Q.up (Q.up (Q.up (Q.up (fun _ => 0) 0 (IntKind.wrap .u32 (w2 + (IntKind.wrap .u32 (0 * w3))))) 1 (IntKind.wrap .u32 (w2 + (IntKind.wrap .u32 (1 * w3))))) 2 (IntKind.wrap .u32 (w2 + (IntKind.wrap .u32 (2 * w3))))) 3 (IntKind.wrap .u32 (w2 + (IntKind.wrap .u32 (3 * w3))))) 4 (IntKind.wrap .u32 (w2 + (IntKind.wrap .u32 (4 * w3))))) 5 (IntKind.wrap .u32 (w2 + (IntKind.wrap .u32 (5 * w3))))) 6 (IntKind.wrap .u32 (w2 + (IntKind.wrap .u32 (6 * w3))))) 7 (IntKind.wrap .u32 (w2 + (IntKind.wrap .u32 (7 * w3))))) 8 (IntKind.wrap .u32 (w2 + (IntKind.wrap .u32 (8 * w3))))), w1, (fun _ => 0), st, du⟩))), (g1, [.int .u32 w0, .int .u32 w1, .int .u32 w2, .int .u32 w3])] ⟨by kernel_rfl, by kernel_rfl⟩ (List.Sublist.refl _) ?_
  refine E.C.seq ?_
  refine E.C.seq ?_
  refine E.C.region ?_
  refine E.G.op (.int .i64 9) (fun w => by kernel_rfl) (by kernel_rfl) ?_
  refine E.G.op (.bool true) (fun w => by kernel_rfl) (by kernel_rfl) ?_
  refine E.To.code ?_
  refine E.C.condT (by kernel_rfl) (by kernel_rfl) ?_
  refine E.C.skip (E.To.code ?_)
  refine E.C.seq ?_
  refine E.C.block ?_
  refine E.C.region ?_
  refine E.G.op (.int .i64 9) (fun w => by kernel_rfl) (by kernel_rfl) ?_
  refine E.G.op (.pointer (some ⟨g1, 2, none⟩)) (fun w => by kernel_rfl) (by kernel_rfl) ?_
  refine E.G.val (.int .u32 w2) (by kernel_rfl) (fun w h => E.run_load h 1 rfl rfl (by kernel_rfl)) ?_
  refine E.G.op (.int .i64 9) (fun w => by kernel_rfl) (by kernel_rfl) ?_
  refine E.G.op (.int .u32 9) (fun w => by kernel_rfl) (by kernel_rfl) ?_
  refine E.G.op (.pointer (some ⟨g1, 3, none⟩)) (fun w => by kernel_rfl) (by kernel_rfl) ?_
  refine E.G.val (.int .u32 w3) (by kernel_rfl) (fun w h => E.run_load h 1 rfl rfl (by kernel_rfl)) ?_
  refine E.G.op (.int .u32 (IntKind.wrap .u32 (9 * w3))) (fun w => by kernel_rfl) (by kernel_rfl) ?_
  refine E.G.op (.int .u32 (IntKind.wrap .u32 (w2 + (IntKind.wrap .u32 (9 * w3))))) (fun w => by kernel_rfl) (by kernel_rfl) ?_
  refine E.G.op (.pointer (some ⟨g2, 1, none⟩)) (fun w => by kernel_rfl) (by kernel_rfl) ?_
  refine E.G.op (.pointer (some ⟨g2, 10, none⟩)) (fun w => by kernel_rfl) (by kernel_rfl) ?_
  refine E.G.store 0 (Q.S.cells (⟨w0, (Q.up (Q.up (Q.up (Q.up (Q.up (Q.up (Q.up (Q.up (Q.up (Q.up (fun _ => 0) 0 (IntKind.wrap .u32 (w2 + (IntKind.wrap .u32 (0 * w3))))) 1 (IntKind.wrap .u32 (w2 + (IntKind.wrap .u32 (1 * w3))))) 2 (IntKind.wrap .u32 (w2 + (IntKind.wrap .u32 (2 * w3))))) 3 (IntKind.wrap .u32 (w2 + (IntKind.wrap .u32 (3 * w3))))) 4 (IntKind.wrap .u32 (w2 + (IntKind.wrap .u32 (4 * w3))))) 5 (IntKind.wrap .u32 (w2 + (IntKind.wrap .u32 (5 * w3))))) 6 (IntKind.wrap .u32 (w2 + (IntKind.wrap .u32 (6 * w3))))) 7 (IntKind.wrap .u32 (w2 + (IntKind.wrap .u32 (7 * w3))))) 8 (IntKind.wrap .u32 (w2 + (IntKind.wrap .u32 (8 * w3))))) 9 (IntKind.wrap .u32 (w2 + (IntKind.wrap .u32 (9 * w3))))), w1, (fun _ => 0), st, du⟩)) rfl rfl (by kernel_rfl) (by kernel_rfl) ?_
  refine E.P.nb (E.To.code ?_)
  refine E.C.region ?_
  refine E.G.op (.int .i64 9) (fun w => by kernel_rfl) (by kernel_rfl) ?_
  refine E.G.op (.int .i64 10) (fun w => by kernel_rfl) (by kernel_rfl) ?_
  refine E.G.op (.int .i64 10) (fun w => by kernel_rfl) (by kernel_rfl) ?_
  refine E.To.rounds 6 ?_
  refine E.C.weak [(3, .pointer (some ⟨g1, 0, none⟩)), (6, .bool false), (7, .bool true), (8, .pointer (some ⟨g2, 0, none⟩)), (9, .int .i64 10), (21, .int .i64 9), (22, .bool true), (23, .int .i64 9), (24, .int .i64 10), (25, .int .i64 9), (26, .pointer (some ⟨g1, 2, none⟩)), (27, .int .u32 w2), (28, .int .i64 9), (29, .int .u32 9), (30, .pointer (some ⟨g1, 3, none⟩)), (31, .int .u32 w3), (32, .int .u32 (IntKind.wrap .u32 (9 * w3))), (33, .int .u32 (IntKind.wrap .u32 (w2 + (IntKind.wrap .u32 (9 * w3))))), (34, .pointer (some ⟨g2, 1, none⟩)), (35, .pointer (some ⟨g2, 10, none⟩))] [(g2, (Q.S.cells (⟨w0, (Q.up (Q.up (Q.up (Q.up (Q.up (Q.up (Q.up (Q.up (Q.up (Q.up (fun _ => 0) 0 (IntKind.wrap .u32 (w2 + (IntKind.wrap .u32 (0 * w3))))) 1 (IntKind.wrap .u32 (w2 + (IntKind.wrap .u32 (1 * w3))))) 2 (IntKind.wrap .u32 (w2 + (IntKind.wrap .u32 (2 * w3))))) 3 (IntKind.wrap .u32 (w2 + (IntKind.wrap .u32 (3 * w3))))) 4 (IntKind.wrap .u32 (w2 + (IntKind.wrap .u32 (4 * w3))))) 5 (IntKind.wrap .u32 (w2 + (IntKind.wrap .u32 (5 * w3))))) 6 (IntKind.wrap .u32 (w2 + (IntKind.wrap .u32 (6 * w3))))) 7 (IntKind.wrap .u32 (w2 + (IntKind.wrap .u32 (7 * w3))))) 8 (IntKind.wrap .u32 (w2 + (IntKind.wrap .u32 (8 * w3))))) 9 (IntKind.wrap .u32 (w2 + (IntKind.wrap .u32 (9 * w3))))), w1, (fun _ => 0), st, du⟩))), (g1, [.int .u32 w0, .int .u32 w1, .int .u32 w2, .int .u32 w3])] ⟨by kernel_rfl, by kernel_rfl⟩ (List.Sublist.refl _) ?_
  refine E.C.seq ?_
  refine E.C.seq ?_
  refine E.C.region ?_
  refine E.G.op (.int .i64 10) (fun w => by kernel_rfl) (by kernel_rfl) ?_
  refine E.G.op (.bool true) (fun w => by kernel_rfl) (by kernel_rfl) ?_
  refine E.To.code ?_
  refine E.C.condT (by kernel_rfl) (by kernel_rfl) ?_
  refine E.C.skip (E.To.code ?_)
  refine E.C.seq ?_
  refine E.C.block ?_
  refine E.C.region ?_
  refine E.G.op (.int .i64 10) (fun w => by kernel_rfl) (by kernel_rfl) ?_
  refine E.G.op (.pointer (some ⟨g1, 2, none⟩)) (fun w => by kernel_rfl) (by kernel_rfl) ?_
  refine E.G.val (.int .u32 w2) (by kernel_rfl) (fun w h => E.run_load h 1 rfl rfl (by kernel_rfl)) ?_
  refine E.G.op (.int .i64 10) (fun w => by kernel_rfl) (by kernel_rfl) ?_
  refine E.G.op (.int .u32 10) (fun w => by kernel_rfl) (by kernel_rfl) ?_
  refine E.G.op (.pointer (some ⟨g1, 3, none⟩)) (fun w => by kernel_rfl) (by kernel_rfl) ?_
  refine E.G.val (.int .u32 w3) (by kernel_rfl) (fun w h => E.run_load h 1 rfl rfl (by kernel_rfl)) ?_
  refine E.G.op (.int .u32 (IntKind.wrap .u32 (10 * w3))) (fun w => by kernel_rfl) (by kernel_rfl) ?_
  refine E.G.op (.int .u32 (IntKind.wrap .u32 (w2 + (IntKind.wrap .u32 (10 * w3))))) (fun w => by kernel_rfl) (by kernel_rfl) ?_
  refine E.G.op (.pointer (some ⟨g2, 1, none⟩)) (fun w => by kernel_rfl) (by kernel_rfl) ?_
  refine E.G.op (.pointer (some ⟨g2, 11, none⟩)) (fun w => by kernel_rfl) (by kernel_rfl) ?_
  refine E.G.store 0 (Q.S.cells (⟨w0, (Q.up (Q.up (Q.up (Q.up (Q.up (Q.up (Q.up (Q.up (Q.up (Q.up (Q.up (fun _ => 0) 0 (IntKind.wrap .u32 (w2 + (IntKind.wrap .u32 (0 * w3))))) 1 (IntKind.wrap .u32 (w2 + (IntKind.wrap .u32 (1 * w3))))) 2 (IntKind.wrap .u32 (w2 + (IntKind.wrap .u32 (2 * w3))))) 3 (IntKind.wrap .u32 (w2 + (IntKind.wrap .u32 (3 * w3))))) 4 (IntKind.wrap .u32 (w2 + (IntKind.wrap .u32 (4 * w3))))) 5 (IntKind.wrap .u32 (w2 + (IntKind.wrap .u32 (5 * w3))))) 6 (IntKind.wrap .u32 (w2 + (IntKind.wrap .u32 (6 * w3))))) 7 (IntKind.wrap .u32 (w2 + (IntKind.wrap .u32 (7 * w3))))) 8 (IntKind.wrap .u32 (w2 + (IntKind.wrap .u32 (8 * w3))))) 9 (IntKind.wrap .u32 (w2 + (IntKind.wrap .u32 (9 * w3))))) 10 (IntKind.wrap .u32 (w2 + (IntKind.wrap .u32 (10 * w3))))), w1, (fun _ => 0), st, du⟩)) rfl rfl (by kernel_rfl) (by kernel_rfl) ?_
  refine E.P.nb (E.To.code ?_)
  refine E.C.region ?_
  refine E.G.op (.int .i64 10) (fun w => by kernel_rfl) (by kernel_rfl) ?_
  refine E.G.op (.int .i64 11) (fun w => by kernel_rfl) (by kernel_rfl) ?_
  refine E.G.op (.int .i64 11) (fun w => by kernel_rfl) (by kernel_rfl) ?_
  refine E.To.rounds 5 ?_
  refine E.C.weak [(3, .pointer (some ⟨g1, 0, none⟩)), (6, .bool false), (7, .bool true), (8, .pointer (some ⟨g2, 0, none⟩)), (9, .int .i64 11), (21, .int .i64 10), (22, .bool true), (23, .int .i64 10), (24, .int .i64 11), (25, .int .i64 10), (26, .pointer (some ⟨g1, 2, none⟩)), (27, .int .u32 w2), (28, .int .i64 10), (29, .int .u32 10), (30, .pointer (some ⟨g1, 3, none⟩)), (31, .int .u32 w3), (32, .int .u32 (IntKind.wrap .u32 (10 * w3))), (33, .int .u32 (IntKind.wrap .u32 (w2 + (IntKind.wrap .u32 (10 * w3))))), (34, .pointer (some ⟨g2, 1, none⟩)), (35, .pointer (some ⟨g2, 11, none⟩))] [(g2, (Q.S.cells (⟨w0, (Q.up (Q.up (Q.up (Q.up (Q.up (Q.up (Q.up (Q.up (Q.up (Q.up (Q.up (fun _ => 0) 0 (IntKind.wrap .u32 (w2 + (IntKind.wrap .u32 (0 * w3))))) 1 (IntKind.wrap .u32 (w2 + (IntKind.wrap .u32 (1 * w3))))) 2 (IntKind.wrap .u32 (w2 + (IntKind.wrap .u32 (2 * w3))))) 3 (IntKind.wrap .u32 (w2 + (IntKind.wrap .u32 (3 * w3))))) 4 (IntKind.wrap .u32 (w2 + (IntKind.wrap .u32 (4 * w3))))) 5 (IntKind.wrap .u32 (w2 + (IntKind.wrap .u32 (5 * w3))))) 6 (IntKind.wrap .u32 (w2 + (IntKind.wrap .u32 (6 * w3))))) 7 (IntKind.wrap .u32 (w2 + (IntKind.wrap .u32 (7 * w3))))) 8 (IntKind.wrap .u32 (w2 + (IntKind.wrap .u32 (8 * w3))))) 9 (IntKind.wrap .u32 (w2 + (IntKind.wrap .u32 (9 * w3))))) 10 (IntKind.wrap .u32 (w2 + (IntKind.wrap .u32 (10 * w3))))), w1, (fun _ => 0), st, du⟩))), (g1, [.int .u32 w0, .int .u32 w1, .int .u32 w2, .int .u32 w3])] ⟨by kernel_rfl, by kernel_rfl⟩ (List.Sublist.refl _) ?_
  refine E.C.seq ?_
  refine E.C.seq ?_
  refine E.C.region ?_
  refine E.G.op (.int .i64 11) (fun w => by kernel_rfl) (by kernel_rfl) ?_
  refine E.G.op (.bool true) (fun w => by kernel_rfl) (by kernel_rfl) ?_
  refine E.To.code ?_
  refine E.C.condT (by kernel_rfl) (by kernel_rfl) ?_
  refine E.C.skip (E.To.code ?_)
  refine E.C.seq ?_
  refine E.C.block ?_
  refine E.C.region ?_
  refine E.G.op (.int .i64 11) (fun w => by kernel_rfl) (by kernel_rfl) ?_
  refine E.G.op (.pointer (some ⟨g1, 2, none⟩)) (fun w => by kernel_rfl) (by kernel_rfl) ?_
  refine E.G.val (.int .u32 w2) (by kernel_rfl) (fun w h => E.run_load h 1 rfl rfl (by kernel_rfl)) ?_
  refine E.G.op (.int .i64 11) (fun w => by kernel_rfl) (by kernel_rfl) ?_
  refine E.G.op (.int .u32 11) (fun w => by kernel_rfl) (by kernel_rfl) ?_
  refine E.G.op (.pointer (some ⟨g1, 3, none⟩)) (fun w => by kernel_rfl) (by kernel_rfl) ?_
  refine E.G.val (.int .u32 w3) (by kernel_rfl) (fun w h => E.run_load h 1 rfl rfl (by kernel_rfl)) ?_
  refine E.G.op (.int .u32 (IntKind.wrap .u32 (11 * w3))) (fun w => by kernel_rfl) (by kernel_rfl) ?_
  refine E.G.op (.int .u32 (IntKind.wrap .u32 (w2 + (IntKind.wrap .u32 (11 * w3))))) (fun w => by kernel_rfl) (by kernel_rfl) ?_
  refine E.G.op (.pointer (some ⟨g2, 1, none⟩)) (fun w => by kernel_rfl) (by kernel_rfl) ?_
  refine E.G.op (.pointer (some ⟨g2, 12, none⟩)) (fun w => by kernel_rfl) (by kernel_rfl) ?_
  refine E.G.store 0 (Q.S.cells (⟨w0, (Q.up (Q.up (Q.up (Q.up (Q.up (Q.up (Q.up (Q.up (Q.up (Q.up (Q.up (Q.up (fun _ => 0) 0 (IntKind.wrap .u32 (w2 + (IntKind.wrap .u32 (0 * w3))))) 1 (IntKind.wrap .u32 (w2 + (IntKind.wrap .u32 (1 * w3))))) 2 (IntKind.wrap .u32 (w2 + (IntKind.wrap .u32 (2 * w3))))) 3 (IntKind.wrap .u32 (w2 + (IntKind.wrap .u32 (3 * w3))))) 4 (IntKind.wrap .u32 (w2 + (IntKind.wrap .u32 (4 * w3))))) 5 (IntKind.wrap .u32 (w2 + (IntKind.wrap .u32 (5 * w3))))) 6 (IntKind.wrap .u32 (w2 + (IntKind.wrap .u32 (6 * w3))))) 7 (IntKind.wrap .u32 (w2 + (IntKind.wrap .u32 (7 * w3))))) 8 (IntKind.wrap .u32 (w2 + (IntKind.wrap .u32 (8 * w3))))) 9 (IntKind.wrap .u32 (w2 + (IntKind.wrap .u32 (9 * w3))))) 10 (IntKind.wrap .u32 (w2 + (IntKind.wrap .u32 (10 * w3))))) 11 (IntKind.wrap .u32 (w2 + (IntKind.wrap .u32 (11 * w3))))), w1, (fun _ => 0), st, du⟩)) rfl rfl (by kernel_rfl) (by kernel_rfl) ?_
  refine E.P.nb (E.To.code ?_)
  refine E.C.region ?_
  refine E.G.op (.int .i64 11) (fun w => by kernel_rfl) (by kernel_rfl) ?_
  refine E.G.op (.int .i64 12) (fun w => by kernel_rfl) (by kernel_rfl) ?_
  refine E.G.op (.int .i64 12) (fun w => by kernel_rfl) (by kernel_rfl) ?_
  refine E.To.rounds 4 ?_
  refine E.C.weak [(3, .pointer (some ⟨g1, 0, none⟩)), (6, .bool false), (7, .bool true), (8, .pointer (some ⟨g2, 0, none⟩)), (9, .int .i64 12), (21, .int .i64 11), (22, .bool true), (23, .int .i64 11), (24, .int .i64 12), (25, .int .i64 11), (26, .pointer (some ⟨g1, 2, none⟩)), (27, .int .u32 w2), (28, .int .i64 11), (29, .int .u32 11), (30, .pointer (some ⟨g1, 3, none⟩)), (31, .int .u32 w3), (32, .int .u32 (IntKind.wrap .u32 (11 * w3))), (33, .int .u32 (IntKind.wrap .u32 (w2 + (IntKind.wrap .u32 (11 * w3))))), (34, .pointer (some ⟨g2, 1, none⟩)), (35, .pointer (some ⟨g2, 12, none⟩))] [(g2, (Q.S.cells (⟨w0, (Q.up (Q.up (Q.up (Q.up (Q.up (Q.up (Q.up (Q.up (Q.up (Q.up (Q.up (Q.up (fun _ => 0) 0 (IntKind.wrap .u32 (w2 + (IntKind.wrap .u32 (0 * w3))))) 1 (IntKind.wrap .u32 (w2 + (IntKind.wrap .u32 (1 * w3))))) 2 (IntKind.wrap .u32 (w2 + (IntKind.wrap .u32 (2 * w3))))) 3 (IntKind.wrap .u32 (w2 + (IntKind.wrap .u32 (3 * w3))))) 4 (IntKind.wrap .u32 (w2 + (IntKind.wrap .u32 (4 * w3))))) 5 (IntKind.wrap .u32 (w2 + (IntKind.wrap .u32 (5 * w3))))) 6 (IntKind.wrap .u32 (w2 + (IntKind.wrap .u32 (6 * w3))))) 7 (IntKind.wrap .u32 (w2 + (IntKind.wrap .u32 (7 * w3))))) 8 (IntKind.wrap .u32 (w2 + (IntKind.wrap .u32 (8 * w3))))) 9 (IntKind.wrap .u32 (w2 + (IntKind.wrap .u32 (9 * w3))))) 10 (IntKind.wrap .u32 (w2 + (IntKind.wrap .u32 (10 * w3))))) 11 (IntKind.wrap .u32 (w2 + (IntKind.wrap .u32 (11 * w3))))), w1, (fun _ => 0), st, du⟩))), (g1, [.int .u32 w0, .int .u32 w1, .int .u32 w2, .int .u32 w3])] ⟨by kernel_rfl, by kernel_rfl⟩ (List.Sublist.refl _) ?_
  refine E.C.seq ?_
  refine E.C.seq ?_
  refine E.C.region ?_
  refine E.G.op (.int .i64 12) (fun w => by kernel_rfl) (by kernel_rfl) ?_
  refine E.G.op (.bool true) (fun w => by kernel_rfl) (by kernel_rfl) ?_
  refine E.To.code ?_
  refine E.C.condT (by kernel_rfl) (by kernel_rfl) ?_
  refine E.C.skip (E.To.code ?_)
  refine E.C.seq ?_
  refine E.C.block ?_
  refine E.C.region ?_
  refine E.G.op (.int .i64 12) (fun w => by kernel_rfl) (by kernel_rfl) ?_
  refine E.G.op (.pointer (some ⟨g1, 2, none⟩)) (fun w => by kernel_rfl) (by kernel_rfl) ?_
  refine E.G.val (.int .u32 w2) (by kernel_rfl) (fun w h => E.run_load h 1 rfl rfl (by kernel_rfl)) ?_
  refine E.G.op (.int .i64 12) (fun w => by kernel_rfl) (by kernel_rfl) ?_
  refine E.G.op (.int .u32 12) (fun w => by kernel_rfl) (by kernel_rfl) ?_
  refine E.G.op (.pointer (some ⟨g1, 3, none⟩)) (fun w => by kernel_rfl) (by kernel_rfl) ?_
  refine E.G.val (.int .u32 w3) (by kernel_rfl) (fun w h => E.run_load h 1 rfl rfl (by kernel_rfl)) ?_
  refine E.G.op (.int .u32 (IntKind.wrap .u32 (12 * w3))) (fun w => by kernel_rfl) (by kernel_rfl) ?_
  refine E.G.op (.int .u32 (IntKind.wrap .u32 (w2 + (IntKind.wrap .u32 (12 * w3))))) (fun w => by kernel_rfl) (by kernel_rfl) ?_
  refine E.G.op (.pointer (some ⟨g2, 1, none⟩)) (fun w => by kernel_rfl) (by kernel_rfl) ?_
  refine E.G.op (.pointer (some ⟨g2, 13, none⟩)) (fun w => by kernel_rfl) (by kernel_rfl) ?_
  refine E.G.store 0 (Q.S.cells (⟨w0, (Q.up (Q.up (Q.up (Q.up (Q.up (Q.up (Q.up (Q.up (Q.up (Q.up (Q.up (Q.up (Q.up (fun _ => 0) 0 (IntKind.wrap .u32 (w2 + (IntKind.wrap .u32 (0 * w3))))) 1 (IntKind.wrap .u32 (w2 + (IntKind.wrap .u32 (1 * w3))))) 2 (IntKind.wrap .u32 (w2 + (IntKind.wrap .u32 (2 * w3))))) 3 (IntKind.wrap .u32 (w2 + (IntKind.wrap .u32 (3 * w3))))) 4 (IntKind.wrap .u32 (w2 + (IntKind.wrap .u32 (4 * w3))))) 5 (IntKind.wrap .u32 (w2 + (IntKind.wrap .u32 (5 * w3))))) 6 (IntKind.wrap .u32 (w2 + (IntKind.wrap .u32 (6 * w3))))) 7 (IntKind.wrap .u32 (w2 + (IntKind.wrap .u32 (7 * w3))))) 8 (IntKind.wrap .u32 (w2 + (IntKind.wrap .u32 (8 * w3))))) 9 (IntKind.wrap .u32 (w2 + (IntKind.wrap .u32 (9 * w3))))) 10 (IntKind.wrap .u32 (w2 + (IntKind.wrap .u32 (10 * w3))))) 11 (IntKind.wrap .u32 (w2 + (IntKind.wrap .u32 (11 * w3))))) 12 (IntKind.wrap .u32 (w2 + (IntKind.wrap .u32 (12 * w3))))), w1, (fun _ => 0), st, du⟩)) rfl rfl (by kernel_rfl) (by kernel_rfl) ?_
  refine E.P.nb (E.To.code ?_)
  refine E.C.region ?_
  refine E.G.op (.int .i64 12) (fun w => by kernel_rfl) (by kernel_rfl) ?_
  refine E.G.op (.int .i64 13) (fun w => by kernel_rfl) (by kernel_rfl) ?_
  refine E.G.op (.int .i64 13) (fun w => by kernel_rfl) (by kernel_rfl) ?_
  refine E.To.rounds 3 ?_
  refine E.C.weak [(3, .pointer (some ⟨g1, 0, none⟩)), (6, .bool false), (7, .bool true), (8, .pointer (some ⟨g2, 0, none⟩)), (9, .int .i64 13), (21, .int .i64 12), (22, .bool true), (23, .int .i64 12), (24, .int .i64 13), (25, .int .i64 12), (26, .pointer (some ⟨g1, 2, none⟩)), (27, .int .u32 w2), (28, .int .i64 12), (29, .int .u32 12), (30, .pointer (some ⟨g1, 3, none⟩)), (31, .int .u32 w3), (32, .int .u32 (IntKind.wrap .u32 (12 * w3))), (33, .int .u32 (IntKind.wrap .u32 (w2 + (IntKind.wrap .u32 (12 * w3))))), (34, .pointer (some ⟨g2, 1, none⟩)), (35, .pointer (some ⟨g2, 13, none⟩))] [(g2, (Q.S.cells (⟨w0, (Q.up (Q.up (Q.up (Q.up (Q.up (Q.up (Q.up (Q.up (Q.up (Q.up (Q.up (Q.up (Q.up (fun _ => 0) 0 (IntKind.wrap .u32 (w2 + (IntKind.wrap .u32 (0 * w3))))) 1 (IntKind.wrap .u32 (w2 + (IntKind.wrap .u32 (1 * w3))))) 2 (IntKind.wrap .u32 (w2 + (IntKind.wrap .u32 (2 * w3))))) 3 (IntKind.wrap .u32 (w2 + (IntKind.wrap .u32 (3 * w3))))) 4 (IntKind.wrap .u32 (w2 + (IntKind.wrap .u32 (4 * w3))))) 5 (IntKind.wrap .u32 (w2 + (IntKind.wrap .u32 (5 * w3))))) 6 (IntKind.wrap .u32 (w2 + (IntKind.wrap .u32 (6 * w3))))) 7 (IntKind.wrap .u32 (w2 + (IntKind.wrap .u32 (7 * w3))))) 8 (IntKind.wrap .u32 (w2 + (IntKind.wrap .u32 (8 * w3))))) 9 (IntKind.wrap .u32 (w2 + (IntKind.wrap .u32 (9 * w3))))) 10 (IntKind.wrap .u32 (w2 + (IntKind.wrap .u32 (10 * w3))))) 11 (IntKind.wrap .u32 (w2 + (IntKind.wrap .u32 (11 * w3))))) 12 (IntKind.wrap .u32 (w2 + (IntKind.wrap .u32 (12 * w3))))), w1, (fun _ => 0), st, du⟩))), (g1, [.int .u32 w0, .int .u32 w1, .int .u32 w2, .int .u32 w3])] ⟨by kernel_rfl, by kernel_rfl⟩ (List.Sublist.refl _) ?_
  refine E.C.seq ?_
  refine E.C.seq ?_
  refine E.C.region ?_
  refine E.G.op (.int .i64 13) (fun w => by kernel_rfl) (by kernel_rfl) ?_
  refine E.G.op (.bool true) (fun w => by kernel_rfl) (by kernel_rfl) ?_
  refine E.To.code ?_
  refine E.C.condT (by kernel_rfl) (by kernel_rfl) ?_
  refine E.C.skip (E.To.code ?_)
  refine E.C.seq ?_
  refine E.C.block ?_
  refine E.C.region ?_
  refine E.G.op (.int .i64 13) (fun w => by kernel_rfl) (by kernel_rfl) ?_
  refine E.G.op (.pointer (some ⟨g1, 2, none⟩)) (fun w => by kernel_rfl) (by kernel_rfl) ?_
  refine E.G.val (.int .u32 w2) (by kernel_rfl) (fun w h => E.run_load h 1 rfl rfl (by kernel_rfl)) ?_
  refine E.G.op (.int .i64 13) (fun w => by kernel_rfl) (by kernel_rfl) ?_
  refine E.G.op (.int .u32 13) (fun w => by kernel_rfl) (by kernel_rfl) ?_
  refine E.G.op (.pointer (some ⟨g1, 3, none⟩)) (fun w => by kernel_rfl) (by kernel_rfl) ?_
  refine E.G.val (.int .u32 w3) (by kernel_rfl) (fun w h => E.run_load h 1 rfl rfl (by kernel_rfl)) ?_
  refine E.G.op (.int .u32 (IntKind.wrap .u32 (13 * w3))) (fun w => by kernel_rfl) (by kernel_rfl) ?_
  refine E.G.op (.int .u32 (IntKind.wrap .u32 (w2 + (IntKind.wrap .u32 (13 * w3))))) (fun w => by kernel_rfl) (by kernel_rfl) ?_
  refine E.G.op (.pointer (some ⟨g2, 1, none⟩)) (fun w => by kernel_rfl) (by kernel_rfl) ?_
  refine E.G.op (.pointer (some ⟨g2, 14, none⟩)) (fun w => by kernel_rfl) (by kernel_rfl) ?_
  refine E.G.store 0 (Q.S.cells (⟨w0, (Q.up (Q.up (Q.up (Q.up (Q.up (Q.up (Q.up (Q.up (Q.up (Q.up (Q.up (Q.up (Q.up (Q.up (fun _ => 0) 0 (IntKind.wrap .u32 (w2 + (IntKind.wrap .u32 (0 * w3))))) 1 (IntKind.wrap .u32 (w2 + (IntKind.wrap .u32 (1 * w3))))) 2 (IntKind.wrap .u32 (w2 + (IntKind.wrap .u32 (2 * w3))))) 3 (IntKind.wrap .u32 (w2 + (IntKind.wrap .u32 (3 * w3))))) 4 (IntKind.wrap .u32 (w2 + (IntKind.wrap .u32 (4 * w3))))) 5 (IntKind.wrap .u32 (w2 + (IntKind.wrap .u32 (5 * w3))))) 6 (IntKind.wrap .u32 (w2 + (IntKind.wrap .u32 (6 * w3))))) 7 (IntKind.wrap .u32 (w2 + (IntKind.wrap .u32 (7 * w3))))) 8 (IntKind.wrap .u32 (w2 + (IntKind.wrap .u32 (8 * w3))))) 9 (IntKind.wrap .u32 (w2 + (IntKind.wrap .u32 (9 * w3))))) 10 (IntKind.wrap .u32 (w2 + (IntKind.wrap .u32 (10 * w3))))) 11 (IntKind.wrap .u32 (w2 + (IntKind.wrap .u32 (11 * w3))))) 12 (IntKind.wrap .u32 (w2 + (IntKind.wrap .u32 (12 * w3))))) 13 (IntKind.wrap .u32 (w2 + (IntKind.wrap .u32 (13 * w3))))), w1, (fun _ => 0), st, du⟩)) rfl rfl (by kernel_rfl) (by kernel_rfl) ?_
  refine E.P.nb (E.To.code ?_)
  refine E.C.region ?_
  refine E.G.op (.int .i64 13) (fun w => by kernel_rfl) (by kernel_rfl) ?_
  refine E.G.op (.int .i64 14) (fun w => by kernel_rfl) (by kernel_rfl) ?_
  refine E.G.op (.int .i64 14) (fun w => by kernel_rfl) (by kernel_rfl) ?_
  refine E.To.rounds 2 ?_
  refine E.C.weak [(3, .pointer (some ⟨g1, 0, none⟩)), (6, .bool false), (7, .bool true), (8, .pointer (some ⟨g2, 0, none⟩)), (9, .int .i64 14), (21, .int .i64 13), (22, .bool true), (23, .int .i64 13), (24, .int .i64 14), (25, .int .i64 13), (26, .pointer (some ⟨g1, 2, none⟩)), (27, .int .u32 w2), (28, .int .i64 13), (29, .int .u32 13), (30, .pointer (some ⟨g1, 3, none⟩)), (31, .int .u32 w3), (32, .int .u32 (IntKind.wrap .u32 (13 * w3))), (33, .int .u32 (IntKind.wrap .u32 (w2 + (IntKind.wrap .u32 (13 * w3))))), (34, .pointer (some ⟨g2, 1, none⟩)), (35, .pointer (some ⟨g2, 14, none⟩))] [(g2, (Q.S.cells (⟨w0, (Q.up (Q.up (Q.up (Q.up (Q.up (Q.up (Q.up (Q.up (Q.up (Q.up (Q.up (Q.up (Q.up (Q.up (fun _ => 0) 0 (IntKind.wrap .u32 (w2 + (IntKind.wrap .u32 (0 * w3))))) 1 (IntKind.wrap .u32 (w2 + (IntKind.wrap .u32 (1 * w3))))) 2 (IntKind.wrap .u32 (w2 + (IntKind.wrap .u32 (2 * w3))))) 3 (IntKind.wrap .u32 (w2 + (IntKind.wrap .u32 (3 * w3))))) 4 (IntKind.wrap .u32 (w2 + (IntKind.wrap .u32 (4 * w3))))) 5 (IntKind.wrap .u32 (w2 + (IntKind.wrap .u32 (5 * w3))))) 6 (IntKind.wrap .u32 (w2 + (IntKind.wrap .u32 (6 * w3))))) 7 (IntKind.wrap .u32 (w2 + (IntKind.wrap .u32 (7 * w3))))) 8 (IntKind.wrap .u32 (w2 + (IntKind.wrap .u32 (8 * w3))))) 9 (IntKind.wrap .u32 (w2 + (IntKind.wrap .u32 (9 * w3))))) 10 (IntKind.wrap .u32 (w2 + (IntKind.wrap .u32 (10 * w3))))) 11 (IntKind.wrap .u32 (w2 + (IntKind.wrap .u32 (11 * w3))))) 12 (IntKind.wrap .u32 (w2 + (IntKind.wrap .u32 (12 * w3))))) 13 (IntKind.wrap .u32 (w2 + (IntKind.wrap .u32 (13 * w3))))), w1, (fun _ => 0), st, du⟩))), (g1, [.int .u32 w0, .int .u32 w1, .int .u32 w2, .int .u32 w3])] ⟨by kernel_rfl, by kernel_rfl⟩ (List.Sublist.refl _) ?_
  refine E.C.seq ?_
  refine E.C.seq ?_
  refine E.C.region ?_
  refine E.G.op (.int .i64 14) (fun w => by kernel_rfl) (by kernel_rfl) ?_
  refine E.G.op (.bool true) (fun w => by kernel_rfl) (by kernel_rfl) ?_
  refine E.To.code ?_
  refine E.C.condT (by kernel_rfl) (by kernel_rfl) ?_
  refine E.C.skip (E.To.code ?_)
  refine E.C.seq ?_
  refine E.C.block ?_
  refine E.C.region ?_
  refine E.G.op (.int .i64 14) (fun w => by kernel_rfl) (by kernel_rfl) ?_
  refine E.G.op (.pointer (some ⟨g1, 2, none⟩)) (fun w => by kernel_rfl) (by kernel_rfl) ?_
  refine E.G.val (.int .u32 w2) (by kernel_rfl) (fun w h => E.run_load h 1 rfl rfl (by kernel_rfl)) ?_
  refine E.G.op (.int .i64 14) (fun w => by kernel_rfl) (by kernel_rfl) ?_
  refine E.G.op (.int .u32 14) (fun w => by kernel_rfl) (by kernel_rfl) ?_
  refine E.G.op (.pointer (some ⟨g1, 3, none⟩)) (fun w => by kernel_rfl) (by kernel_rfl) ?_
  refine E.G.val (.int .u32 w3) (by kernel_rfl) (fun w h => E.run_load h 1 rfl rfl (by kernel_rfl)) ?_
  refine E.G.op (.int .u32 (IntKind.wrap .u32 (14 * w3))) (fun w => by kernel_rfl) (by kernel_rfl) ?_
  refine E.G.op (.int .u32 (IntKind.wrap .u32 (w2 + (IntKind.wrap .u32 (14 * w3))))) (fun w => by kernel_rfl) (by kernel_rfl) ?_
  refine E.G.op (.pointer (some ⟨g2, 1, none⟩)) (fun w => by kernel_rfl) (by kernel_rfl) ?_
  refine E.G.op (.pointer (some ⟨g2, 15, none⟩)) (fun w => by kernel_rfl) (by kernel_rfl) ?_
  refine E.G.store 0 (Q.S.cells (⟨w0, (Q.up (Q.up (Q.up (Q.up (Q.up (Q.up (Q.up (Q.up (Q.up (Q.up (Q.up (Q.up (Q.up (Q.up (Q.up (fun _ => 0) 0 (IntKind.wrap .u32 (w2 + (IntKind.wrap .u32 (0 * w3))))) 1 (IntKind.wrap .u32 (w2 + (IntKind.wrap .u32 (1 * w3))))) 2 (IntKind.wrap .u32 (w2 + (IntKind.wrap .u32 (2 * w3))))) 3 (IntKind.wrap .u32 (w2 + (IntKind.wrap .u32 (3 * w3))))) 4 (IntKind.wrap .u32 (w2 + (IntKind.wrap .u32 (4 * w3))))) 5 (IntKind.wrap .u32 (w2 + (IntKind.wrap .u32 (5 * w3))))) 6 (IntKind.wrap .u32 (w2 + (IntKind.wrap .u32 (6 * w3))))) 7 (IntKind.wrap .u32 (w2 + (IntKind.wrap .u32 (7 * w3))))) 8 (IntKind.wrap .u32 (w2 + (IntKind.wrap .u32 (8 * w3))))) 9 (IntKind.wrap .u32 (w2 + (IntKind.wrap .u32 (9 * w3))))) 10 (IntKind.wrap .u32 (w2 + (IntKind.wrap .u32 (10 * w3))))) 11 (IntKind.wrap .u32 (w2 + (IntKind.wrap .u32 (11 * w3))))) 12 (IntKind.wrap .u32 (w2 + (IntKind.wrap .u32 (12 * w3))))) 13 (IntKind.wrap .u32 (w2 + (IntKind.wrap .u32 (13 * w3))))) 14 (IntKind.wrap .u32 (w2 + (IntKind.wrap .u32 (14 * w3))))), w1, (fun _ => 0), st, du⟩)) rfl rfl (by kernel_rfl) (by kernel_rfl) ?_
  refine E.P.nb (E.To.code ?_)
  refine E.C.region ?_
  refine E.G.op (.int .i64 14) (fun w => by kernel_rfl) (by kernel_rfl) ?_
  refine E.G.op (.int .i64 15) (fun w => by kernel_rfl) (by kernel_rfl) ?_
  refine E.G.op (.int .i64 15) (fun w => by kernel_rfl) (by kernel_rfl) ?_
  refine E.To.rounds 1 ?_
  refine E.C.weak [(3, .pointer (some ⟨g1, 0, none⟩)), (6, .bool false), (7, .bool true), (8, .pointer (some ⟨g2, 0, none⟩)), (9, .int .i64 15), (21, .int .i64 14), (22, .bool true), (23, .int .i64 14), (24, .int .i64 15), (25, .int .i64 14), (26, .pointer (some ⟨g1, 2, none⟩)), (27, .int .u32 w2), (28, .int .i64 14), (29, .int .u32 14), (30, .pointer (some ⟨g1, 3, none⟩)), (31, .int .u32 w3), (32, .int .u32 (IntKind.wrap .u32 (14 * w3))), (33, .int .u32 (IntKind.wrap .u32 (w2 + (IntKind.wrap .u32 (14 * w3))))), (34, .pointer (some ⟨g2, 1, none⟩)), (35, .pointer (some ⟨g2, 15, none⟩))] [(g2, (Q.S.cells (⟨w0, (Q.up (Q.up (Q.up (Q.up (Q.up (Q.up (Q.up (Q.up (Q.up (Q.up (Q.up (Q.up (Q.up (Q.up (Q.up (fun _ => 0) 0 (IntKind.wrap .u32 (w2 + (IntKind.wrap .u32 (0 * w3))))) 1 (IntKind.wrap .u32 (w2 + (IntKind.wrap .u32 (1 * w3))))) 2 (IntKind.wrap .u32 (w2 + (IntKind.wrap .u32 (2 * w3))))) 3 (IntKind.wrap .u32 (w2 + (IntKind.wrap .u32 (3 * w3))))) 4 (IntKind.wrap .u32 (w2 + (IntKind.wrap .u32 (4 * w3))))) 5 (IntKind.wrap .u32 (w2 + (IntKind.wrap .u32 (5 * w3))))) 6 (IntKind.wrap .u32 (w2 + (IntKind.wrap .u32 (6 * w3))))) 7 (IntKind.wrap .u32 (w2 + (IntKind.wrap .u32 (7 * w3))))) 8 (IntKind.wrap .u32 (w2 + (IntKind.wrap .u32 (8 * w3))))) 9 (IntKind.wrap .u32 (w2 + (IntKind.wrap .u32 (9 * w3))))) 10 (IntKind.wrap .u32 (w2 + (IntKind.wrap .u32 (10 * w3))))) 11 (IntKind.wrap .u32 (w2 + (IntKind.wrap .u32 (11 * w3))))) 12 (IntKind.wrap .u32 (w2 + (IntKind.wrap .u32 (12 * w3))))) 13 (IntKind.wrap .u32 (w2 + (IntKind.wrap .u32 (13 * w3))))) 14 (IntKind.wrap .u32 (w2 + (IntKind.wrap .u32 (14 * w3))))), w1, (fun _ => 0), st, du⟩))), (g1, [.int .u32 w0, .int .u32 w1, .int .u32 w2, .int .u32 w3])] ⟨by kernel_rfl, by kernel_rfl⟩ (List.Sublist.refl _) ?_
  refine E.C.seq ?_
  refine E.C.seq ?_
  refine E.C.region ?_
  refine E.G.op (.int .i64 15) (fun w => by kernel_rfl) (by kernel_rfl) ?_
  refine E.G.op (.bool true) (fun w => by kernel_rfl) (by kernel_rfl) ?_
  refine E.To.code ?_
  refine E.C.condT (by kernel_rfl) (by kernel_rfl) ?_
  refine E.C.skip (E.To.code ?_)
  refine E.C.seq ?_
  refine E.C.block ?_
  refine E.C.region ?_
  refine E.G.op (.int .i64 15) (fun w => by kernel_rfl) (by kernel_rfl) ?_
  refine E.G.op (.pointer (some ⟨g1, 2, none⟩)) (fun w => by kernel_rfl) (by kernel_rfl) ?_
  refine E.G.val (.int .u32 w2) (by kernel_rfl) (fun w h => E.run_load h 1 rfl rfl (by kernel_rfl)) ?_
  refine E.G.op (.int .i64 15) (fun w => by kernel_rfl) (by kernel_rfl) ?_
  refine E.G.op (.int .u32 15) (fun w => by kernel_rfl) (by kernel_rfl) ?_
  refine E.G.op (.pointer (some ⟨g1, 3, none⟩)) (fun w => by kernel_rfl) (by kernel_rfl) ?_
  refine E.G.val (.int .u32 w3) (by kernel_rfl) (fun w h => E.run_load h 1 rfl rfl (by kernel_rfl)) ?_
  refine E.G.op (.int .u32 (IntKind.wrap .u32 (15 * w3))) (fun w => by kernel_rfl) (by kernel_rfl) ?_
  refine E.G.op (.int .u32 (IntKind.wrap .u32 (w2 + (IntKind.wrap .u32 (15 * w3))))) (fun w => by kernel_rfl) (by kernel_rfl) ?_
  refine E.G.op (.pointer (some ⟨g2, 1, none⟩)) (fun w => by kernel_rfl) (by kernel_rfl) ?_
  refine E.G.op (.pointer (some ⟨g2, 16, none⟩)) (fun w => by kernel_rfl) (by kernel_rfl) ?_
  refine E.G.store 0 (Q.S.cells (⟨w0, (Q.up (Q.up (Q.up (Q.up (Q.up (Q.up (Q.up (Q.up (Q.up (Q.up (Q.up (Q.up (Q.up (Q.up (Q.up (Q.up (fun _ => 0) 0 (IntKind.wrap .u32 (w2 + (IntKind.wrap .u32 (0 * w3))))) 1 (IntKind.wrap .u32 (w2 + (IntKind.wrap .u32 (1 * w3))))) 2 (IntKind.wrap .u32 (w2 + (IntKind.wrap .u32 (2 * w3))))) 3 (IntKind.wrap .u32 (w2 + (IntKind.wrap .u32 (3 * w3))))) 4 (IntKind.wrap .u32 (w2 + (IntKind.wrap .u32 (4 * w3))))) 5 (IntKind.wrap .u32 (w2 + (IntKind.wrap .u32 (5 * w3))))) 6 (IntKind.wrap .u32 (w2 + (IntKind.wrap .u32 (6 * w3))))) 7 (IntKind.wrap .u32 (w2 + (IntKind.wrap .u32 (7 * w3))))) 8 (IntKind.wrap .u32 (w2 + (IntKind.wrap .u32 (8 * w3))))) 9 (IntKind.wrap .u32 (w2 + (IntKind.wrap .u32 (9 * w3))))) 10 (IntKind.wrap .u32 (w2 + (IntKind.wrap .u32 (10 * w3))))) 11 (IntKind.wrap .u32 (w2 + (IntKind.wrap .u32 (11 * w3))))) 12 (IntKind.wrap .u32 (w2 + (IntKind.wrap .u32 (12 * w3))))) 13 (IntKind.wrap .u32 (w2 + (IntKind.wrap .u32 (13 * w3))))) 14 (IntKind.wrap .u32 (w2 + (IntKind.wrap .u32 (14 * w3))))) 15 (IntKind.wrap .u32 (w2 + (IntKind.wrap .u32 (15 * w3))))), w1, (fun _ => 0), st, du⟩)) rfl rfl (by kernel_rfl) (by kernel_rfl) ?_
  refine E.P.nb (E.To.code ?_)
  refine E.C.region ?_
  refine E.G.op (.int .i64 15) (fun w => by kernel_rfl) (by kernel_rfl) ?_
  refine E.G.op (.int .i64 16) (fun w => by kernel_rfl) (by kernel_rfl) ?_
  refine E.G.op (.int .i64 16) (fun w => by kernel_rfl) (by kernel_rfl) ?_
  refine E.To.rounds 0 ?_
  refine E.C.weak [(3, .pointer (some ⟨g1, 0, none⟩)), (6, .bool false), (7, .bool true), (8, .pointer (some ⟨g2, 0, none⟩)), (9, .int .i64 16), (21, .int .i64 15), (22, .bool true), (23, .int .i64 15), (24, .int .i64 16), (25, .int .i64 15), (26, .pointer (some ⟨g1, 2, none⟩)), (27, .int .u32 w2), (28, .int .i64 15), (29, .int .u32 15), (30, .pointer (some ⟨g1, 3, none⟩)), (31, .int .u32 w3), (32, .int .u32 (IntKind.wrap .u32 (15 * w3))), (33, .int .u32 (IntKind.wrap .u32 (w2 + (IntKind.wrap .u32 (15 * w3))))), (34, .pointer (some ⟨g2, 1, none⟩)), (35, .pointer (some ⟨g2, 16, none⟩))] [(g2, (Q.S.cells (⟨w0, (Q.up (Q.up (Q.up (Q.up (Q.up (Q.up (Q.up (Q.up (Q.up (Q.up (Q.up (Q.up (Q.up (Q.up (Q.up (Q.up (fun _ => 0) 0 (IntKind.wrap .u32 (w2 + (IntKind.wrap .u32 (0 * w3))))) 1 (IntKind.wrap .u32 (w2 + (IntKind.wrap .u32 (1 * w3))))) 2 (IntKind.wrap .u32 (w2 + (IntKind.wrap .u32 (2 * w3))))) 3 (IntKind.wrap .u32 (w2 + (IntKind.wrap .u32 (3 * w3))))) 4 (IntKind.wrap .u32 (w2 + (IntKind.wrap .u32 (4 * w3))))) 5 (IntKind.wrap .u32 (w2 + (IntKind.wrap .u32 (5 * w3))))) 6 (IntKind.wrap .u32 (w2 + (IntKind.wrap .u32 (6 * w3))))) 7 (IntKind.wrap .u32 (w2 + (IntKind.wrap .u32 (7 * w3))))) 8 (IntKind.wrap .u32 (w2 + (IntKind.wrap .u32 (8 * w3))))) 9 (IntKind.wrap .u32 (w2 + (IntKind.wrap .u32 (9 * w3))))) 10 (IntKind.wrap .u32 (w2 + (IntKind.wrap .u32 (10 * w3))))) 11 (IntKind.wrap .u32 (w2 + (IntKind.wrap .u32 (11 * w3))))) 12 (IntKind.wrap .u32 (w2 + (IntKind.wrap .u32 (12 * w3))))) 13 (IntKind.wrap .u32 (w2 + (IntKind.wrap .u32 (13 * w3))))) 14 (IntKind.wrap .u32 (w2 + (IntKind.wrap .u32 (14 * w3))))) 15 (IntKind.wrap .u32 (w2 + (IntKind.wrap .u32 (15 * w3))))), w1, (fun _ => 0), st, du⟩))), (g1, [.int .u32 w0, .int .u32 w1, .int .u32 w2, .int .u32 w3])] ⟨by kernel_rfl, by kernel_rfl⟩ (List.Sublist.refl _) ?_
  refine E.C.seq ?_
  refine E.C.seq ?_
  refine E.C.region ?_
  refine E.G.op (.int .i64 16) (fun w => by kernel_rfl) (by kernel_rfl) ?_
  refine E.G.op (.bool false) (fun w => by kernel_rfl) (by kernel_rfl) ?_
  refine E.To.code ?_
  refine E.C.condF (by kernel_rfl) (by kernel_rfl) ?_
  refine E.C.exit (E.P.et (E.P.et (E.P.eh (E.To.code ?_))))
  refine E.C.weak [(3, .pointer (some ⟨g1, 0, none⟩)), (6, .bool false), (7, .bool true), (8, .pointer (some ⟨g2, 0, none⟩))] [(g2, (Q.S.cells (⟨w0, (Q.up (Q.up (Q.up (Q.up (Q.up (Q.up (Q.up (Q.up (Q.up (Q.up (Q.up (Q.up (Q.up (Q.up (Q.up (Q.up (fun _ => 0) 0 (IntKind.wrap .u32 (w2 + (IntKind.wrap .u32 (0 * w3))))) 1 (IntKind.wrap .u32 (w2 + (IntKind.wrap .u32 (1 * w3))))) 2 (IntKind.wrap .u32 (w2 + (IntKind.wrap .u32 (2 * w3))))) 3 (IntKind.wrap .u32 (w2 + (IntKind.wrap .u32 (3 * w3))))) 4 (IntKind.wrap .u32 (w2 + (IntKind.wrap .u32 (4 * w3))))) 5 (IntKind.wrap .u32 (w2 + (IntKind.wrap .u32 (5 * w3))))) 6 (IntKind.wrap .u32 (w2 + (IntKind.wrap .u32 (6 * w3))))) 7 (IntKind.wrap .u32 (w2 + (IntKind.wrap .u32 (7 * w3))))) 8 (IntKind.wrap .u32 (w2 + (IntKind.wrap .u32 (8 * w3))))) 9 (IntKind.wrap .u32 (w2 + (IntKind.wrap .u32 (9 * w3))))) 10 (IntKind.wrap .u32 (w2 + (IntKind.wrap .u32 (10 * w3))))) 11 (IntKind.wrap .u32 (w2 + (IntKind.wrap .u32 (11 * w3))))) 12 (IntKind.wrap .u32 (w2 + (IntKind.wrap .u32 (12 * w3))))) 13 (IntKind.wrap .u32 (w2 + (IntKind.wrap .u32 (13 * w3))))) 14 (IntKind.wrap .u32 (w2 + (IntKind.wrap .u32 (14 * w3))))) 15 (IntKind.wrap .u32 (w2 + (IntKind.wrap .u32 (15 * w3))))), w1, (fun _ => 0), st, du⟩))), (g1, [.int .u32 w0, .int .u32 w1, .int .u32 w2, .int .u32 w3])] ⟨by kernel_rfl, by kernel_rfl⟩ (List.Sublist.refl _) ?_
  refine E.C.seq ?_
  refine E.C.seq ?_
  refine E.C.region ?_
  refine E.G.op (.int .i64 0) (fun w => by kernel_rfl) (by kernel_rfl) ?_
  refine E.To.code ?_
  refine E.C.block ?_
  refine E.C.rounds 16 ?_
  refine E.C.seq ?_
  refine E.C.seq ?_
  refine E.C.region ?_
  refine E.G.op (.int .i64 0) (fun w => by kernel_rfl) (by kernel_rfl) ?_
  refine E.G.op (.bool true) (fun w => by kernel_rfl) (by kernel_rfl) ?_
  refine E.To.code ?_
  refine E.C.condT (by kernel_rfl) (by kernel_rfl) ?_
  refine E.C.skip (E.To.code ?_)
  refine E.C.seq ?_
  refine E.C.block ?_
  refine E.C.region ?_
  refine E.G.op (.int .i64 0) (fun w => by kernel_rfl) (by kernel_rfl) ?_
  refine E.G.op (.int .i64 0) (fun w => by kernel_rfl) (by kernel_rfl) ?_
  refine E.G.op (.pointer (some ⟨g1, 0, none⟩)) (fun w => by kernel_rfl) (by kernel_rfl) ?_
  refine E.G.val (.int .u32 w0) (by kernel_rfl) (fun w h => E.run_load h 1 rfl rfl (by kernel_rfl)) ?_
  refine E.G.op (.pointer (some ⟨g2, 18, none⟩)) (fun w => by kernel_rfl) (by kernel_rfl) ?_
  refine E.G.op (.pointer (some ⟨g2, 18, none⟩)) (fun w => by kernel_rfl) (by kernel_rfl) ?_
  refine E.G.store 0 (Q.S.cells (⟨w0, (Q.up (Q.up (Q.up (Q.up (Q.up (Q.up (Q.up (Q.up (Q.up (Q.up (Q.up (Q.up (Q.up (Q.up (Q.up (Q.up (fun _ => 0) 0 (IntKind.wrap .u32 (w2 + (IntKind.wrap .u32 (0 * w3))))) 1 (IntKind.wrap .u32 (w2 + (IntKind.wrap .u32 (1 * w3))))) 2 (IntKind.wrap .u32 (w2 + (IntKind.wrap .u32 (2 * w3))))) 3 (IntKind.wrap .u32 (w2 + (IntKind.wrap .u32 (3 * w3))))) 4 (IntKind.wrap .u32 (w2 + (IntKind.wrap .u32 (4 * w3))))) 5 (IntKind.wrap .u32 (w2 + (IntKind.wrap .u32 (5 * w3))))) 6 (IntKind.wrap .u32 (w2 + (IntKind.wrap .u32 (6 * w3))))) 7 (IntKind.wrap .u32 (w2 + (IntKind.wrap .u32 (7 * w3))))) 8 (IntKind.wrap .u32 (w2 + (IntKind.wrap .u32 (8 * w3))))) 9 (IntKind.wrap .u32 (w2 + (IntKind.wrap .u32 (9 * w3))))) 10 (IntKind.wrap .u32 (w2 + (IntKind.wrap .u32 (10 * w3))))) 11 (IntKind.wrap .u32 (w2 + (IntKind.wrap .u32 (11 * w3))))) 12 (IntKind.wrap .u32 (w2 + (IntKind.wrap .u32 (12 * w3))))) 13 (IntKind.wrap .u32 (w2 + (IntKind.wrap .u32 (13 * w3))))) 14 (IntKind.wrap .u32 (w2 + (IntKind.wrap .u32 (14 * w3))))) 15 (IntKind.wrap .u32 (w2 + (IntKind.wrap .u32 (15 * w3))))), w1, (Q.up (fun _ => 0) 0 w0), st, du⟩)) rfl rfl (by kernel_rfl) (by kernel_rfl) ?_
  refine E.P.nb (E.To.code ?_)
  refine E.C.region ?_
  refine E.G.op (.int .i64 0) (fun w => by kernel_rfl) (by kernel_rfl) ?_
  refine E.G.op (.int .i64 1) (fun w => by kernel_rfl) (by kernel_rfl) ?_
  refine E.G.op (.int .i64 1) (fun w => by kernel_rfl) (by kernel_rfl) ?_
  refine E.To.rounds 15 ?_
  refine E.C.weak [(3, .pointer (some ⟨g1, 0, none⟩)), (6, .bool false), (7, .bool true), (8, .pointer (some ⟨g2, 0, none⟩)), (10, .int .i64 1), (36, .int .i64 0), (37, .bool true), (38, .int .i64 0), (39, .int .i64 1), (40, .int .i64 0), (41, .int .i64 0), (42, .pointer (some ⟨g1, 0, none⟩)), (43, .int .u32 w0), (44, .pointer (some ⟨g2, 18, none⟩)), (45, .pointer (some ⟨g2, 18, none⟩))] [(g2, (Q.S.cells (⟨w0, (Q.up (Q.up (Q.up (Q.up (Q.up (Q.up (Q.up (Q.up (Q.up (Q.up (Q.up (Q.up (Q.up (Q.up (Q.up (Q.up (fun _ => 0) 0 (IntKind.wrap .u32 (w2 + (IntKind.wrap .u32 (0 * w3))))) 1 (IntKind.wrap .u32 (w2 + (IntKind.wrap .u32 (1 * w3))))) 2 (IntKind.wrap .u32 (w2 + (IntKind.wrap .u32 (2 * w3))))) 3 (IntKind.wrap .u32 (w2 + (IntKind.wrap .u32 (3 * w3))))) 4 (IntKind.wrap .u32 (w2 + (IntKind.wrap .u32 (4 * w3))))) 5 (IntKind.wrap .u32 (w2 + (IntKind.wrap .u32 (5 * w3))))) 6 (IntKind.wrap .u32 (w2 + (IntKind.wrap .u32 (6 * w3))))) 7 (IntKind.wrap .u32 (w2 + (IntKind.wrap .u32 (7 * w3))))) 8 (IntKind.wrap .u32 (w2 + (IntKind.wrap .u32 (8 * w3))))) 9 (IntKind.wrap .u32 (w2 + (IntKind.wrap .u32 (9 * w3))))) 10 (IntKind.wrap .u32 (w2 + (IntKind.wrap .u32 (10 * w3))))) 11 (IntKind.wrap .u32 (w2 + (IntKind.wrap .u32 (11 * w3))))) 12 (IntKind.wrap .u32 (w2 + (IntKind.wrap .u32 (12 * w3))))) 13 (IntKind.wrap .u32 (w2 + (IntKind.wrap .u32 (13 * w3))))) 14 (IntKind.wrap .u32 (w2 + (IntKind.wrap .u32 (14 * w3))))) 15 (IntKind.wrap .u32 (w2 + (IntKind.wrap .u32 (15 * w3))))), w1, (Q.up (fun _ => 0) 0 w0), st, du⟩))), (g1, [.int .u32 w0, .int .u32 w1, .int .u32 w2, .int .u32 w3])] ⟨by kernel_rfl, by kernel_rfl⟩ (List.Sublist.refl _) ?_
  refine E.C.seq ?_
  refine E.C.seq ?_
  refine E.C.region ?_
  refine E.G.op (.int .i64 1) (fun w => by kernel_rfl) (by kernel_rfl) ?_
  refine E.G.op (.bool true) (fun w => by kernel_rfl) (by kernel_rfl) ?_
  refine E.To.code ?_
  refine E.C.condT (by kernel_rfl) (by kernel_rfl) ?_
  refine E.C.skip (E.To.code ?_)
  refine E.C.seq ?_
  refine E.C.block ?_
  refine E.C.region ?_
  refine E.G.op (.int .i64 1) (fun w => by kernel_rfl) (by kernel_rfl) ?_
  refine E.G.op (.int .i64 1) (fun w => by kernel_rfl) (by kernel_rfl) ?_
  refine E.G.op (.pointer (some ⟨g1, 1, none⟩)) (fun w => by kernel_rfl) (by kernel_rfl) ?_
  refine E.G.val (.int .u32 w1) (by kernel_rfl) (fun w h => E.run_load h 1 rfl rfl (by kernel_rfl)) ?_
  refine E.G.op (.pointer (some ⟨g2, 18, none⟩)) (fun w => by kernel_rfl) (by kernel_rfl) ?_
  refine E.G.op (.pointer (some ⟨g2, 19, none⟩)) (fun w => by kernel_rfl) (by kernel_rfl) ?_
  refine E.G.store 0 (Q.S.cells (⟨w0, (Q.up (Q.up (Q.up (Q.up (Q.up (Q.up (Q.up (Q.up (Q.up (Q.up (Q.up (Q.up (Q.up (Q.up (Q.up (Q.up (fun _ => 0) 0 (IntKind.wrap .u32 (w2 + (IntKind.wrap .u32 (0 * w3))))) 1 (IntKind.wrap .u32 (w2 + (IntKind.wrap .u32 (1 * w3))))) 2 (IntKind.wrap .u32 (w2 + (IntKind.wrap .u32 (2 * w3))))) 3 (IntKind.wrap .u32 (w2 + (IntKind.wrap .u32 (3 * w3))))) 4 (IntKind.wrap .u32 (w2 + (IntKind.wrap .u32 (4 * w3))))) 5 (IntKind.wrap .u32 (w2 + (IntKind.wrap .u32 (5 * w3))))) 6 (IntKind.wrap .u32 (w2 + (IntKind.wrap .u32 (6 * w3))))) 7 (IntKind.wrap .u32 (w2 + (IntKind.wrap .u32 (7 * w3))))) 8 (IntKind.wrap .u32 (w2 + (IntKind.wrap .u32 (8 * w3))))) 9 (IntKind.wrap .u32 (w2 + (IntKind.wrap .u32 (9 * w3))))) 10 (IntKind.wrap .u32 (w2 + (IntKind.wrap .u32 (10 * w3))))) 11 (IntKind.wrap .u32 (w2 + (IntKind.wrap .u32 (11 * w3))))) 12 (IntKind.wrap .u32 (w2 + (IntKind.wrap .u32 (12 * w3))))) 13 (IntKind.wrap .u32 (w2 + (IntKind.wrap .u32 (13 * w3))))) 14 (IntKind.wrap .u32 (w2 + (IntKind.wrap .u32 (14 * w3))))) 15 (IntKind.wrap .u32 (w2 + (IntKind.wrap .u32 (15 * w3))))), w1, (Q.up (Q.up (fun _ => 0) 0 w0) 1 w1), st, du⟩)) rfl rfl (by kernel_rfl) (by kernel_rfl) ?_
  refine E.P.nb (E.To.code ?_)
  refine E.C.region ?_
  refine E.G.op (.int .i64 1) (fun w => by kernel_rfl) (by kernel_rfl) ?_
  refine E.G.op (.int .i64 2) (fun w => by kernel_rfl) (by kernel_rfl) ?_
  refine E.G.op (.int .i64 2) (fun w => by kernel_rfl) (by kernel_rfl) ?_
  refine E.To.rounds 14 ?_
  refine E.C.weak [(3, .pointer (some ⟨g1, 0, none⟩)), (6, .bool false), (7, .bool true), (8, .pointer (some ⟨g2, 0, none⟩)), (10, .int .i64 2), (36, .int .i64 1), (37, .bool true), (38, .int .i64 1), (39, .int .i64 2), (40, .int .i64 1), (41, .int .i64 1), (42, .pointer (some ⟨g1, 1, none⟩)), (43, .int .u32 w1), (44, .pointer (some ⟨g2, 18, none⟩)), (45, .pointer (some ⟨g2, 19, none⟩))] [(g2, (Q.S.cells (⟨w0, (Q.up (Q.up (Q.up (Q.up (Q.up (Q.up (Q.up (Q.up (Q.up (Q.up (Q.up (Q.up (Q.up (Q.up (Q.up (Q.up (fun _ => 0) 0 (IntKind.wrap .u32 (w2 + (IntKind.wrap .u32 (0 * w3))))) 1 (IntKind.wrap .u32 (w2 + (IntKind.wrap .u32 (1 * w3))))) 2 (IntKind.wrap .u32 (w2 + (IntKind.wrap .u32 (2 * w3))))) 3 (IntKind.wrap .u32 (w2 + (IntKind.wrap .u32 (3 * w3))))) 4 (IntKind.wrap .u32 (w2 + (IntKind.wrap .u32 (4 * w3))))) 5 (IntKind.wrap .u32 (w2 + (IntKind.wrap .u32 (5 * w3))))) 6 (IntKind.wrap .u32 (w2 + (IntKind.wrap .u32 (6 * w3))))) 7 (IntKind.wrap .u32 (w2 + (IntKind.wrap .u32 (7 * w3))))) 8 (IntKind.wrap .u32 (w2 + (IntKind.wrap .u32 (8 * w3))))) 9 (IntKind.wrap .u32 (w2 + (IntKind.wrap .u32 (9 * w3))))) 10 (IntKind.wrap .u32 (w2 + (IntKind.wrap .u32 (10 * w3))))) 11 (IntKind.wrap .u32 (w2 + (IntKind.wrap .u32 (11 * w3))))) 12 (IntKind.wrap .u32 (w2 + (IntKind.wrap .u32 (12 * w3))))) 13 (IntKind.wrap .u32 (w2 + (IntKind.wrap .u32 (13 * w3))))) 14 (IntKind.wrap .u32 (w2 + (IntKind.wrap .u32 (14 * w3))))) 15 (IntKind.wrap .u32 (w2 + (IntKind.wrap .u32 (15 * w3))))), w1, (Q.up (Q.up (fun _ => 0) 0 w0) 1 w1), st, du⟩))), (g1, [.int .u32 w0, .int .u32 w1, .int .u32 w2, .int .u32 w3])] ⟨by kernel_rfl, by kernel_rfl⟩ (List.Sublist.refl _) ?_
  refine E.C.seq ?_
  refine E.C.seq ?_
  refine E.C.region ?_
  refine E.G.op (.int .i64 2) (fun w => by kernel_rfl) (by kernel_rfl) ?_
  refine E.G.op (.bool true) (fun w => by kernel_rfl) (by kernel_rfl) ?_
  refine E.To.code ?_
  refine E.C.condT (by kernel_rfl) (by kernel_rfl) ?_
  refine E.C.skip (E.To.code ?_)
  refine E.C.seq ?_
  refine E.C.block ?_
  refine E.C.region ?_
  refine E.G.op (.int .i64 2) (fun w => by kernel_rfl) (by kernel_rfl) ?_
  refine E.G.op (.int .i64 2) (fun w => by kernel_rfl) (by kernel_rfl) ?_
  refine E.G.op (.pointer (some ⟨g1, 2, none⟩)) (fun w => by kernel_rfl) (by kernel_rfl) ?_
  refine E.G.val (.int .u32 w2) (by kernel_rfl) (fun w h => E.run_load h 1 rfl rfl (by kernel_rfl)) ?_
  refine E.G.op (.pointer (some ⟨g2, 18, none⟩)) (fun w => by kernel_rfl) (by kernel_rfl) ?_
  refine E.G.op (.pointer (some ⟨g2, 20, none⟩)) (fun w => by kernel_rfl) (by kernel_rfl) ?_
  refine E.G.store 0 (Q.S.cells (⟨w0, (Q.up (Q.up (Q.up (Q.up (Q.up (Q.up (Q.up (Q.up (Q.up (Q.up (Q.up (Q.up (Q.up (Q.up (Q.up (Q.up (fun _ => 0) 0 (IntKind.wrap .u32 (w2 + (IntKind.wrap .u32 (0 * w3))))) 1 (IntKind.wrap .u32 (w2 + (IntKind.wrap .u32 (1 * w3))))) 2 (IntKind.wrap .u32 (w2 + (IntKind.wrap .u32 (2 * w3))))) 3 (IntKind.wrap .u32 (w2 + (IntKind.wrap .u32 (3 * w3))))) 4 (IntKind.wrap .u32 (w2 + (IntKind.wrap .u32 (4 * w3))))) 5 (IntKind.wrap .u32 (w2 + (IntKind.wrap .u32 (5 * w3))))) 6 (IntKind.wrap .u32 (w2 + (IntKind.wrap .u32 (6 * w3))))) 7 (IntKind.wrap .u32 (w2 + (IntKind.wrap .u32 (7 * w3))))) 8 (IntKind.wrap .u32 (w2 + (IntKind.wrap .u32 (8 * w3))))) 9 (IntKind.wrap .u32 (w2 + (IntKind.wrap .u32 (9 * w3))))) 10 (IntKind.wrap .u32 (w2 + (IntKind.wrap .u32 (10 * w3))))) 11 (IntKind.wrap .u32 (w2 + (IntKind.wrap .u32 (11 * w3))))) 12 (IntKind.wrap .u32 (w2 + (IntKind.wrap .u32 (12 * w3))))) 13 (IntKind.wrap .u32 (w2 + (IntKind.wrap .u32 (13 * w3))))) 14 (IntKind.wrap .u32 (w2 + (IntKind.wrap .u32 (14 * w3))))) 15 (IntKind.wrap .u32 (w2 + (IntKind.wrap .u32 (15 * w3))))), w1, (Q.up (Q.up (Q.up (fun _ => 0) 0 w0) 1 w1) 2 w2), st, du⟩)) rfl rfl (by kernel_rfl) (by kernel_rfl) ?_
  refine E.P.nb (E.To.code ?_)
  refine E.C.region ?_
  refine E.G.op (.int .i64 2) (fun w => by kernel_rfl) (by kernel_rfl) ?_
  refine E.G.op (.int .i64 3) (fun w => by kernel_rfl) (by kernel_rfl) ?_
  refine E.G.op (.int .i64 3) (fun w => by kernel_rfl) (by kernel_rfl) ?_
  refine E.To.rounds 13 ?_
  refine E.C.weak [(3, .pointer (some ⟨g1, 0, none⟩)), (6, .bool false), (7, .bool true), (8, .pointer (some ⟨g2, 0, none⟩)), (10, .int .i64 3), (36, .int .i64 2), (37, .bool true), (38, .int .i64 2), (39, .int .i64 3), (40, .int .i64 2), (41, .int .i64 2), (42, .pointer (some ⟨g1, 2, none⟩)), (43, .int .u32 w2), (44, .pointer (some ⟨g2, 18, none⟩)), (45, .pointer (some ⟨g2, 20, none⟩))] [(g2, (Q.S.cells (⟨w0, (Q.up (Q.up (Q.up (Q.up (Q.up (Q.up (Q.up (Q.up (Q.up (Q.up (Q.up (Q.up (Q.up (Q.up (Q.up (Q.up (fun _ => 0) 0 (IntKind.wrap .u32 (w2 + (IntKind.wrap .u32 (0 * w3))))) 1 (IntKind.wrap .u32 (w2 + (IntKind.wrap .u32 (1 * w3))))) 2 (IntKind.wrap .u32 (w2 + (IntKind.wrap .u32 (2 * w3))))) 3 (IntKind.wrap .u32 (w2 + (IntKind.wrap .u32 (3 * w3))))) 4 (IntKind.wrap .u32 (w2 + (IntKind.wrap .u32 (4 * w3))))) 5 (IntKind.wrap .u32 (w2 + (IntKind.wrap .u32 (5 * w3))))) 6 (IntKind.wrap .u32 (w2 + (IntKind.wrap .u32 (6 * w3))))) 7 (IntKind.wrap .u32 (w2 + (IntKind.wrap .u32 (7 * w3))))) 8 (IntKind.wrap .u32 (w2 + (IntKind.wrap .u32 (8 * w3))))) 9 (IntKind.wrap .u32 (w2 + (IntKind.wrap .u32 (9 * w3))))) 10 (IntKind.wrap .u32 (w2 + (IntKind.wrap .u32 (10 * w3))))) 11 (IntKind.wrap .u32 (w2 + (IntKind.wrap .u32 (11 * w3))))) 12 (IntKind.wrap .u32 (w2 + (IntKind.wrap .u32 (12 * w3))))) 13 (IntKind.wrap .u32 (w2 + (IntKind.wrap .u32 (13 * w3))))) 14 (IntKind.wrap .u32 (w2 + (IntKind.wrap .u32 (14 * w3))))) 15 (IntKind.wrap .u32 (w2 + (IntKind.wrap .u32 (15 * w3))))), w1, (Q.up (Q.up (Q.up (fun _ => 0) 0 w0) 1 w1) 2 w2), st, du⟩))), (g1, [.int .u32 w0, .int .u32 w1, .int .u32 w2, .int .u32 w3])] ⟨by kernel_rfl, by kernel_rfl⟩ (List.Sublist.refl _) ?_
  refine E.C.seq ?_
  refine E.C.seq ?_
  refine E.C.region ?_
  refine E.G.op (.int .i64 3) (fun w => by kernel_rfl) (by kernel_rfl) ?_
  refine E.G.op (.bool true) (fun w => by kernel_rfl) (by kernel_rfl) ?_
  refine E.To.code ?_
  refine E.C.condT (by kernel_rfl) (by kernel_rfl) ?_
  refine E.C.skip (E.To.code ?_)
  refine E.C.seq ?_
  refine E.C.block ?_
  refine E.C.region ?_
  refine E.G.op (.int .i64 3) (fun w => by kernel_rfl) (by kernel_rfl) ?_
  refine E.G.op (.int .i64 3) (fun w => by kernel_rfl) (by kernel_rfl) ?_
  refine E.G.op (.pointer (some ⟨g1, 3, none⟩)) (fun w => by kernel_rfl) (by kernel_rfl) ?_
  refine E.G.val (.int .u32 w3) (by kernel_rfl) (fun w h => E.run_load h 1 rfl rfl (by kernel_rfl)) ?_
  refine E.G.op (.pointer (some ⟨g2, 18, none⟩)) (fun w => by kernel_rfl) (by kernel_rfl) ?_
  refine E.G.op (.pointer (some ⟨g2, 21, none⟩)) (fun w => by kernel_rfl) (by kernel_rfl) ?_
  refine E.G.store 0 (Q.S.cells (⟨w0, (Q.up (Q.up (Q.up (Q.up (Q.up (Q.up (Q.up (Q.up (Q.up (Q.up (Q.up (Q.up (Q.up (Q.up (Q.up (Q.up (fun _ => 0) 0 (IntKind.wrap .u32 (w2 + (IntKind.wrap .u32 (0 * w3))))) 1 (IntKind.wrap .u32 (w2 + (IntKind.wrap .u32 (1 * w3))))) 2 (IntKind.wrap .u32 (w2 + (IntKind.wrap .u32 (2 * w3))))) 3 (IntKind.wrap .u32 (w2 + (IntKind.wrap .u32 (3 * w3))))) 4 (IntKind.wrap .u32 (w2 + (IntKind.wrap .u32 (4 * w3))))) 5 (IntKind.wrap .u32 (w2 + (IntKind.wrap .u32 (5 * w3))))) 6 (IntKind.wrap .u32 (w2 + (IntKind.wrap .u32 (6 * w3))))) 7 (IntKind.wrap .u32 (w2 + (IntKind.wrap .u32 (7 * w3))))) 8 (IntKind.wrap .u32 (w2 + (IntKind.wrap .u32 (8 * w3))))) 9 (IntKind.wrap .u32 (w2 + (IntKind.wrap .u32 (9 * w3))))) 10 (IntKind.wrap .u32 (w2 + (IntKind.wrap .u32 (10 * w3))))) 11 (IntKind.wrap .u32 (w2 + (IntKind.wrap .u32 (11 * w3))))) 12 (IntKind.wrap .u32 (w2 + (IntKind.wrap .u32 (12 * w3))))) 13 (IntKind.wrap .u32 (w2 + (IntKind.wrap .u32 (13 * w3))))) 14 (IntKind.wrap .u32 (w2 + (IntKind.wrap .u32 (14 * w3))))) 15 (IntKind.wrap .u32 (w2 + (IntKind.wrap .u32 (15 * w3))))), w1, (Q.up (Q.up (Q.up (Q.up (fun _ => 0) 0 w0) 1 w1) 2 w2) 3 w3), st, du⟩)) rfl rfl (by kernel_rfl) (by kernel_rfl) ?_
  refine E.P.nb (E.To.code ?_)
  refine E.C.region ?_
  refine E.G.op (.int .i64 3) (fun w => by kernel_rfl) (by kernel_rfl) ?_
  refine E.G.op (.int .i64 4) (fun w => by kernel_rfl) (by kernel_rfl) ?_
  refine E.G.op (.int .i64 4) (fun w => by kernel_rfl) (by kernel_rfl) ?_
  refine E.To.rounds 12 ?_
  refine E.C.weak [(3, .pointer (some ⟨g1, 0, none⟩)), (6, .bool false), (7, .bool true), (8, .pointer (some ⟨g2, 0, none⟩)), (10, .int .i64 4), (36, .int .i64 3), (37, .bool true), (38, .int .i64 3), (39, .int .i64 4), (40, .int .i64 3), (41, .int .i64 3), (42, .pointer (some ⟨g1, 3, none⟩)), (43, .int .u32 w3), (44, .pointer (some ⟨g2, 18, none⟩)), (45, .pointer (some ⟨g2, 21, none⟩))] [(g2, (Q.S.cells (⟨w0, (Q.up (Q.up (Q.up (Q.up (Q.up (Q.up (Q.up (Q.up (Q.up (Q.up (Q.up (Q.up (Q.up (Q.up (Q.up (Q.up (fun _ => 0) 0 (IntKind.wrap .u32 (w2 + (IntKind.wrap .u32 (0 * w3))))) 1 (IntKind.wrap .u32 (w2 + (IntKind.wrap .u32 (1 * w3))))) 2 (IntKind.wrap .u32 (w2 + (IntKind.wrap .u32 (2 * w3))))) 3 (IntKind.wrap .u32 (w2 + (IntKind.wrap .u32 (3 * w3))))) 4 (IntKind.wrap .u32 (w2 + (IntKind.wrap .u32 (4 * w3))))) 5 (IntKind.wrap .u32 (w2 + (IntKind.wrap .u32 (5 * w3))))) 6 (IntKind.wrap .u32 (w2 + (IntKind.wrap .u32 (6 * w3))))) 7 (IntKind.wrap .u32 (w2 + (IntKind.wrap .u32 (7 * w3))))) 8 (IntKind.wrap .u32 (w2 + (IntKind.wrap .u32 (8 * w3))))) 9 (IntKind.wrap .u32 (w2 + (IntKind.wrap .u32 (9 * w3))))) 10 (IntKind.wrap .u32 (w2 + (IntKind.wrap .u32 (10 * w3))))) 11 (IntKind.wrap .u32 (w2 + (IntKind.wrap .u32 (11 * w3))))) 12 (IntKind.wrap .u32 (w2 + (IntKind.wrap .u32 (12 * w3))))) 13 (IntKind.wrap .u32 (w2 + (IntKind.wrap .u32 (13 * w3))))) 14 (IntKind.wrap .u32 (w2 + (IntKind.wrap .u32 (14 * w3))))) 15 (IntKind.wrap .u32 (w2 + (IntKind.wrap .u32 (15 * w3))))), w1, (Q.up (Q.up (Q.up (Q.up (fun _ => 0) 0 w0) 1 w1) 2 w2) 3 w3), st, du⟩))), (g1, [.int .u32 w0, .int .u32 w1, .int .u32 w2, .int .u32 w3])] ⟨by kernel_rfl, by kernel_rfl⟩ (List.Sublist.refl _) ?_
  refine E.C.seq ?_
  refine E.C.seq ?_
  refine E.C.region ?_
  refine E.G.op (.int .i64 4) (fun w => by kernel_rfl) (by kernel_rfl) ?_
  refine E.G.op (.bool false) (fun w => by kernel_rfl) (by kernel_rfl) ?_
  refine E.To.code ?_
  refine E.C.condF (by kernel_rfl) (by kernel_rfl) ?_
  refine E.C.exit (E.P.et (E.P.et (E.P.eh (E.To.code ?_))))
  refine E.C.weak [(6, .bool false), (7, .bool true), (8, .pointer (some ⟨g2, 0, none⟩))] [(g2, (Q.S.cells (⟨w0, (Q.up (Q.up (Q.up (Q.up (Q.up (Q.up (Q.up (Q.up (Q.up (Q.up (Q.up (Q.up (Q.up (Q.up (Q.up (Q.up (fun _ => 0) 0 (IntKind.wrap .u32 (w2 + (IntKind.wrap .u32 (0 * w3))))) 1 (IntKind.wrap .u32 (w2 + (IntKind.wrap .u32 (1 * w3))))) 2 (IntKind.wrap .u32 (w2 + (IntKind.wrap .u32 (2 * w3))))) 3 (IntKind.wrap .u32 (w2 + (IntKind.wrap .u32 (3 * w3))))) 4 (IntKind.wrap .u32 (w2 + (IntKind.wrap .u32 (4 * w3))))) 5 (IntKind.wrap .u32 (w2 + (IntKind.wrap .u32 (5 * w3))))) 6 (IntKind.wrap .u32 (w2 + (IntKind.wrap .u32 (6 * w3))))) 7 (IntKind.wrap .u32 (w2 + (IntKind.wrap .u32 (7 * w3))))) 8 (IntKind.wrap .u32 (w2 + (IntKind.wrap .u32 (8 * w3))))) 9 (IntKind.wrap .u32 (w2 + (IntKind.wrap .u32 (9 * w3))))) 10 (IntKind.wrap .u32 (w2 + (IntKind.wrap .u32 (10 * w3))))) 11 (IntKind.wrap .u32 (w2 + (IntKind.wrap .u32 (11 * w3))))) 12 (IntKind.wrap .u32 (w2 + (IntKind.wrap .u32 (12 * w3))))) 13 (IntKind.wrap .u32 (w2 + (IntKind.wrap .u32 (13 * w3))))) 14 (IntKind.wrap .u32 (w2 + (IntKind.wrap .u32 (14 * w3))))) 15 (IntKind.wrap .u32 (w2 + (IntKind.wrap .u32 (15 * w3))))), w1, (Q.up (Q.up (Q.up (Q.up (fun _ => 0) 0 w0) 1 w1) 2 w2) 3 w3), st, du⟩)))] ⟨by kernel_rfl, by kernel_rfl⟩ (List.Sublist.cons_cons _ (List.nil_sublist _)) ?_
  refine E.C.seq ?_
  refine E.C.region ?_
  refine A.G.call (I := Nat) (D := fun m3 => True) (V := fun m3 => .pointer (some ⟨m3, 0, none⟩)) (q := fun m3 => [M.It m3 (M.V.new (M.np 1) false) (Q.S.cells Q.z0)]) [A.blk g2 (Q.S.cells (⟨w0, (Q.up (Q.up (Q.up (Q.up (Q.up (Q.up (Q.up (Q.up (Q.up (Q.up (Q.up (Q.up (Q.up (Q.up (Q.up (Q.up (fun _ => 0) 0 (IntKind.wrap .u32 (w2 + (IntKind.wrap .u32 (0 * w3))))) 1 (IntKind.wrap .u32 (w2 + (IntKind.wrap .u32 (1 * w3))))) 2 (IntKind.wrap .u32 (w2 + (IntKind.wrap .u32 (2 * w3))))) 3 (IntKind.wrap .u32 (w2 + (IntKind.wrap .u32 (3 * w3))))) 4 (IntKind.wrap .u32 (w2 + (IntKind.wrap .u32 (4 * w3))))) 5 (IntKind.wrap .u32 (w2 + (IntKind.wrap .u32 (5 * w3))))) 6 (IntKind.wrap .u32 (w2 + (IntKind.wrap .u32 (6 * w3))))) 7 (IntKind.wrap .u32 (w2 + (IntKind.wrap .u32 (7 * w3))))) 8 (IntKind.wrap .u32 (w2 + (IntKind.wrap .u32 (8 * w3))))) 9 (IntKind.wrap .u32 (w2 + (IntKind.wrap .u32 (9 * w3))))) 10 (IntKind.wrap .u32 (w2 + (IntKind.wrap .u32 (10 * w3))))) 11 (IntKind.wrap .u32 (w2 + (IntKind.wrap .u32 (11 * w3))))) 12 (IntKind.wrap .u32 (w2 + (IntKind.wrap .u32 (12 * w3))))) 13 (IntKind.wrap .u32 (w2 + (IntKind.wrap .u32 (13 * w3))))) 14 (IntKind.wrap .u32 (w2 + (IntKind.wrap .u32 (14 * w3))))) 15 (IntKind.wrap .u32 (w2 + (IntKind.wrap .u32 (15 * w3))))), w1, (Q.up (Q.up (Q.up (Q.up (fun _ => 0) 0 w0) 1 w1) 2 w2) 3 w3), st, du⟩))] (fun m3 => [(g2, (Q.S.cells (⟨w0, (Q.up (Q.up (Q.up (Q.up (Q.up (Q.up (Q.up (Q.up (Q.up (Q.up (Q.up (Q.up (Q.up (Q.up (Q.up (Q.up (fun _ => 0) 0 (IntKind.wrap .u32 (w2 + (IntKind.wrap .u32 (0 * w3))))) 1 (IntKind.wrap .u32 (w2 + (IntKind.wrap .u32 (1 * w3))))) 2 (IntKind.wrap .u32 (w2 + (IntKind.wrap .u32 (2 * w3))))) 3 (IntKind.wrap .u32 (w2 + (IntKind.wrap .u32 (3 * w3))))) 4 (IntKind.wrap .u32 (w2 + (IntKind.wrap .u32 (4 * w3))))) 5 (IntKind.wrap .u32 (w2 + (IntKind.wrap .u32 (5 * w3))))) 6 (IntKind.wrap .u32 (w2 + (IntKind.wrap .u32 (6 * w3))))) 7 (IntKind.wrap .u32 (w2 + (IntKind.wrap .u32 (7 * w3))))) 8 (IntKind.wrap .u32 (w2 + (IntKind.wrap .u32 (8 * w3))))) 9 (IntKind.wrap .u32 (w2 + (IntKind.wrap .u32 (9 * w3))))) 10 (IntKind.wrap .u32 (w2 + (IntKind.wrap .u32 (10 * w3))))) 11 (IntKind.wrap .u32 (w2 + (IntKind.wrap .u32 (11 * w3))))) 12 (IntKind.wrap .u32 (w2 + (IntKind.wrap .u32 (12 * w3))))) 13 (IntKind.wrap .u32 (w2 + (IntKind.wrap .u32 (13 * w3))))) 14 (IntKind.wrap .u32 (w2 + (IntKind.wrap .u32 (14 * w3))))) 15 (IntKind.wrap .u32 (w2 + (IntKind.wrap .u32 (15 * w3))))), w1, (Q.up (Q.up (Q.up (Q.up (fun _ => 0) 0 w0) 1 w1) 2 w2) 3 w3), st, du⟩)))]) (fun m3 => [M.It m3 (M.V.new (M.np 1) false) (Q.S.cells Q.z0)]) (CNew 1) (by kernel_rfl) (A.pm [0] (by kernel_rfl) (by kernel_rfl)) (fun m3 => A.pm [1, 0] (by kernel_rfl) (by kernel_rfl)) (fun w _ => by kernel_rfl) (by kernel_rfl) (fun m3 hd4 => ?_)
  refine E.G.op (.pointer (some ⟨m3, 0, none⟩)) (fun w => by kernel_rfl) (by kernel_rfl) ?_
  refine E.To.code ?_
  refine E.C.seq ?_
  refine E.C.seq ?_
  refine E.C.region ?_
  refine E.G.op (.pointer (some ⟨m3, 0, none⟩)) (fun w => by kernel_rfl) (by kernel_rfl) ?_
  refine E.G.op (.bool false) (fun w => by kernel_rfl) (by kernel_rfl) ?_
  refine E.To.code ?_
  refine E.C.condF (by kernel_rfl) (by kernel_rfl) ?_
  refine E.C.skip (E.To.code ?_)
  refine E.C.seq ?_
  refine E.C.region ?_
  refine E.G.op (.pointer (some ⟨m3, 0, none⟩)) (fun w => by kernel_rfl) (by kernel_rfl) ?_
  refine E.G.val (Q.S.val (⟨w0, (Q.up (Q.up (Q.up (Q.up (Q.up (Q.up (Q.up (Q.up (Q.up (Q.up (Q.up (Q.up (Q.up (Q.up (Q.up (Q.up (fun _ => 0) 0 (IntKind.wrap .u32 (w2 + (IntKind.wrap .u32 (0 * w3))))) 1 (IntKind.wrap .u32 (w2 + (IntKind.wrap .u32 (1 * w3))))) 2 (IntKind.wrap .u32 (w2 + (IntKind.wrap .u32 (2 * w3))))) 3 (IntKind.wrap .u32 (w2 + (IntKind.wrap .u32 (3 * w3))))) 4 (IntKind.wrap .u32 (w2 + (IntKind.wrap .u32 (4 * w3))))) 5 (IntKind.wrap .u32 (w2 + (IntKind.wrap .u32 (5 * w3))))) 6 (IntKind.wrap .u32 (w2 + (IntKind.wrap .u32 (6 * w3))))) 7 (IntKind.wrap .u32 (w2 + (IntKind.wrap .u32 (7 * w3))))) 8 (IntKind.wrap .u32 (w2 + (IntKind.wrap .u32 (8 * w3))))) 9 (IntKind.wrap .u32 (w2 + (IntKind.wrap .u32 (9 * w3))))) 10 (IntKind.wrap .u32 (w2 + (IntKind.wrap .u32 (10 * w3))))) 11 (IntKind.wrap .u32 (w2 + (IntKind.wrap .u32 (11 * w3))))) 12 (IntKind.wrap .u32 (w2 + (IntKind.wrap .u32 (12 * w3))))) 13 (IntKind.wrap .u32 (w2 + (IntKind.wrap .u32 (13 * w3))))) 14 (IntKind.wrap .u32 (w2 + (IntKind.wrap .u32 (14 * w3))))) 15 (IntKind.wrap .u32 (w2 + (IntKind.wrap .u32 (15 * w3))))), w1, (Q.up (Q.up (Q.up (Q.up (fun _ => 0) 0 w0) 1 w1) 2 w2) 3 w3), st, du⟩)) (by kernel_rfl) (fun w h => E.run_load h 0 rfl rfl (by kernel_rfl)) ?_
  refine A.G.call (I := Unit) (D := fun _ => True) (V := fun _ => .tuple #[]) (q := fun _ => [M.It m3 (M.V.new (M.np 1) false) (Q.S.cells (Q.norm (⟨w0, (Q.up (Q.up (Q.up (Q.up (Q.up (Q.up (Q.up (Q.up (Q.up (Q.up (Q.up (Q.up (Q.up (Q.up (Q.up (Q.up (fun _ => 0) 0 (IntKind.wrap .u32 (w2 + (IntKind.wrap .u32 (0 * w3))))) 1 (IntKind.wrap .u32 (w2 + (IntKind.wrap .u32 (1 * w3))))) 2 (IntKind.wrap .u32 (w2 + (IntKind.wrap .u32 (2 * w3))))) 3 (IntKind.wrap .u32 (w2 + (IntKind.wrap .u32 (3 * w3))))) 4 (IntKind.wrap .u32 (w2 + (IntKind.wrap .u32 (4 * w3))))) 5 (IntKind.wrap .u32 (w2 + (IntKind.wrap .u32 (5 * w3))))) 6 (IntKind.wrap .u32 (w2 + (IntKind.wrap .u32 (6 * w3))))) 7 (IntKind.wrap .u32 (w2 + (IntKind.wrap .u32 (7 * w3))))) 8 (IntKind.wrap .u32 (w2 + (IntKind.wrap .u32 (8 * w3))))) 9 (IntKind.wrap .u32 (w2 + (IntKind.wrap .u32 (9 * w3))))) 10 (IntKind.wrap .u32 (w2 + (IntKind.wrap .u32 (10 * w3))))) 11 (IntKind.wrap .u32 (w2 + (IntKind.wrap .u32 (11 * w3))))) 12 (IntKind.wrap .u32 (w2 + (IntKind.wrap .u32 (12 * w3))))) 13 (IntKind.wrap .u32 (w2 + (IntKind.wrap .u32 (13 * w3))))) 14 (IntKind.wrap .u32 (w2 + (IntKind.wrap .u32 (14 * w3))))) 15 (IntKind.wrap .u32 (w2 + (IntKind.wrap .u32 (15 * w3))))), w1, (Q.up (Q.up (Q.up (Q.up (fun _ => 0) 0 w0) 1 w1) 2 w2) 3 w3), st, du⟩ : Q.S)))]) [A.blk g2 (Q.S.cells (⟨w0, (Q.up (Q.up (Q.up (Q.up (Q.up (Q.up (Q.up (Q.up (Q.up (Q.up (Q.up (Q.up (Q.up (Q.up (Q.up (Q.up (fun _ => 0) 0 (IntKind.wrap .u32 (w2 + (IntKind.wrap .u32 (0 * w3))))) 1 (IntKind.wrap .u32 (w2 + (IntKind.wrap .u32 (1 * w3))))) 2 (IntKind.wrap .u32 (w2 + (IntKind.wrap .u32 (2 * w3))))) 3 (IntKind.wrap .u32 (w2 + (IntKind.wrap .u32 (3 * w3))))) 4 (IntKind.wrap .u32 (w2 + (IntKind.wrap .u32 (4 * w3))))) 5 (IntKind.wrap .u32 (w2 + (IntKind.wrap .u32 (5 * w3))))) 6 (IntKind.wrap .u32 (w2 + (IntKind.wrap .u32 (6 * w3))))) 7 (IntKind.wrap .u32 (w2 + (IntKind.wrap .u32 (7 * w3))))) 8 (IntKind.wrap .u32 (w2 + (IntKind.wrap .u32 (8 * w3))))) 9 (IntKind.wrap .u32 (w2 + (IntKind.wrap .u32 (9 * w3))))) 10 (IntKind.wrap .u32 (w2 + (IntKind.wrap .u32 (10 * w3))))) 11 (IntKind.wrap .u32 (w2 + (IntKind.wrap .u32 (11 * w3))))) 12 (IntKind.wrap .u32 (w2 + (IntKind.wrap .u32 (12 * w3))))) 13 (IntKind.wrap .u32 (w2 + (IntKind.wrap .u32 (13 * w3))))) 14 (IntKind.wrap .u32 (w2 + (IntKind.wrap .u32 (14 * w3))))) 15 (IntKind.wrap .u32 (w2 + (IntKind.wrap .u32 (15 * w3))))), w1, (Q.up (Q.up (Q.up (Q.up (fun _ => 0) 0 w0) 1 w1) 2 w2) 3 w3), st, du⟩))] (fun _ => [(g2, (Q.S.cells (⟨w0, (Q.up (Q.up (Q.up (Q.up (Q.up (Q.up (Q.up (Q.up (Q.up (Q.up (Q.up (Q.up (Q.up (Q.up (Q.up (Q.up (fun _ => 0) 0 (IntKind.wrap .u32 (w2 + (IntKind.wrap .u32 (0 * w3))))) 1 (IntKind.wrap .u32 (w2 + (IntKind.wrap .u32 (1 * w3))))) 2 (IntKind.wrap .u32 (w2 + (IntKind.wrap .u32 (2 * w3))))) 3 (IntKind.wrap .u32 (w2 + (IntKind.wrap .u32 (3 * w3))))) 4 (IntKind.wrap .u32 (w2 + (IntKind.wrap .u32 (4 * w3))))) 5 (IntKind.wrap .u32 (w2 + (IntKind.wrap .u32 (5 * w3))))) 6 (IntKind.wrap .u32 (w2 + (IntKind.wrap .u32 (6 * w3))))) 7 (IntKind.wrap .u32 (w2 + (IntKind.wrap .u32 (7 * w3))))) 8 (IntKind.wrap .u32 (w2 + (IntKind.wrap .u32 (8 * w3))))) 9 (IntKind.wrap .u32 (w2 + (IntKind.wrap .u32 (9 * w3))))) 10 (IntKind.wrap .u32 (w2 + (IntKind.wrap .u32 (10 * w3))))) 11 (IntKind.wrap .u32 (w2 + (IntKind.wrap .u32 (11 * w3))))) 12 (IntKind.wrap .u32 (w2 + (IntKind.wrap .u32 (12 * w3))))) 13 (IntKind.wrap .u32 (w2 + (IntKind.wrap .u32 (13 * w3))))) 14 (IntKind.wrap .u32 (w2 + (IntKind.wrap .u32 (14 * w3))))) 15 (IntKind.wrap .u32 (w2 + (IntKind.wrap .u32 (15 * w3))))), w1, (Q.up (Q.up (Q.up (Q.up (fun _ => 0) 0 w0) 1 w1) 2 w2) 3 w3), st, du⟩)))]) (fun _ => [M.It m3 (M.V.new (M.np 1) false) (Q.S.cells (Q.norm (⟨w0, (Q.up (Q.up (Q.up (Q.up (Q.up (Q.up (Q.up (Q.up (Q.up (Q.up (Q.up (Q.up (Q.up (Q.up (Q.up (Q.up (fun _ => 0) 0 (IntKind.wrap .u32 (w2 + (IntKind.wrap .u32 (0 * w3))))) 1 (IntKind.wrap .u32 (w2 + (IntKind.wrap .u32 (1 * w3))))) 2 (IntKind.wrap .u32 (w2 + (IntKind.wrap .u32 (2 * w3))))) 3 (IntKind.wrap .u32 (w2 + (IntKind.wrap .u32 (3 * w3))))) 4 (IntKind.wrap .u32 (w2 + (IntKind.wrap .u32 (4 * w3))))) 5 (IntKind.wrap .u32 (w2 + (IntKind.wrap .u32 (5 * w3))))) 6 (IntKind.wrap .u32 (w2 + (IntKind.wrap .u32 (6 * w3))))) 7 (IntKind.wrap .u32 (w2 + (IntKind.wrap .u32 (7 * w3))))) 8 (IntKind.wrap .u32 (w2 + (IntKind.wrap .u32 (8 * w3))))) 9 (IntKind.wrap .u32 (w2 + (IntKind.wrap .u32 (9 * w3))))) 10 (IntKind.wrap .u32 (w2 + (IntKind.wrap .u32 (10 * w3))))) 11 (IntKind.wrap .u32 (w2 + (IntKind.wrap .u32 (11 * w3))))) 12 (IntKind.wrap .u32 (w2 + (IntKind.wrap .u32 (12 * w3))))) 13 (IntKind.wrap .u32 (w2 + (IntKind.wrap .u32 (13 * w3))))) 14 (IntKind.wrap .u32 (w2 + (IntKind.wrap .u32 (14 * w3))))) 15 (IntKind.wrap .u32 (w2 + (IntKind.wrap .u32 (15 * w3))))), w1, (Q.up (Q.up (Q.up (Q.up (fun _ => 0) 0 w0) 1 w1) 2 w2) 3 w3), st, du⟩ : Q.S)))]) (CSet (c := m3) (V := (M.V.new (M.np 1) false)) (s0 := Q.z0) (⟨w0, (Q.up (Q.up (Q.up (Q.up (Q.up (Q.up (Q.up (Q.up (Q.up (Q.up (Q.up (Q.up (Q.up (Q.up (Q.up (Q.up (fun _ => 0) 0 (IntKind.wrap .u32 (w2 + (IntKind.wrap .u32 (0 * w3))))) 1 (IntKind.wrap .u32 (w2 + (IntKind.wrap .u32 (1 * w3))))) 2 (IntKind.wrap .u32 (w2 + (IntKind.wrap .u32 (2 * w3))))) 3 (IntKind.wrap .u32 (w2 + (IntKind.wrap .u32 (3 * w3))))) 4 (IntKind.wrap .u32 (w2 + (IntKind.wrap .u32 (4 * w3))))) 5 (IntKind.wrap .u32 (w2 + (IntKind.wrap .u32 (5 * w3))))) 6 (IntKind.wrap .u32 (w2 + (IntKind.wrap .u32 (6 * w3))))) 7 (IntKind.wrap .u32 (w2 + (IntKind.wrap .u32 (7 * w3))))) 8 (IntKind.wrap .u32 (w2 + (IntKind.wrap .u32 (8 * w3))))) 9 (IntKind.wrap .u32 (w2 + (IntKind.wrap .u32 (9 * w3))))) 10 (IntKind.wrap .u32 (w2 + (IntKind.wrap .u32 (10 * w3))))) 11 (IntKind.wrap .u32 (w2 + (IntKind.wrap .u32 (11 * w3))))) 12 (IntKind.wrap .u32 (w2 + (IntKind.wrap .u32 (12 * w3))))) 13 (IntKind.wrap .u32 (w2 + (IntKind.wrap .u32 (13 * w3))))) 14 (IntKind.wrap .u32 (w2 + (IntKind.wrap .u32 (14 * w3))))) 15 (IntKind.wrap .u32 (w2 + (IntKind.wrap .u32 (15 * w3))))), w1, (Q.up (Q.up (Q.up (Q.up (fun _ => 0) 0 w0) 1 w1) 2 w2) 3 w3), st, du⟩)) (by kernel_rfl) (A.pm [1, 0] (by kernel_rfl) (by kernel_rfl)) (fun _ => A.pm [1, 0] (by kernel_rfl) (by kernel_rfl)) (fun w _ => by kernel_rfl) (by kernel_rfl) (fun _ hd5 => ?_)
  refine E.To.code ?_
  refine E.C.seq ?_
  refine E.C.region ?_
  refine A.G.call (I := Nat × Nat) (D := fun i6 => True) (V := fun i6 => .pointer (some ⟨i6.1, 0, none⟩)) (q := fun i6 => [A.blk i6.1 (Q.S.cells Q.z0 ++ [.pointer (some ⟨i6.2, 0, none⟩)]), R.It i6.2 (M.V.new (M.np 1) false)]) [A.blk g2 (Q.S.cells (⟨w0, (Q.up (Q.up (Q.up (Q.up (Q.up (Q.up (Q.up (Q.up (Q.up (Q.up (Q.up (Q.up (Q.up (Q.up (Q.up (Q.up (fun _ => 0) 0 (IntKind.wrap .u32 (w2 + (IntKind.wrap .u32 (0 * w3))))) 1 (IntKind.wrap .u32 (w2 + (IntKind.wrap .u32 (1 * w3))))) 2 (IntKind.wrap .u32 (w2 + (IntKind.wrap .u32 (2 * w3))))) 3 (IntKind.wrap .u32 (w2 + (IntKind.wrap .u32 (3 * w3))))) 4 (IntKind.wrap .u32 (w2 + (IntKind.wrap .u32 (4 * w3))))) 5 (IntKind.wrap .u32 (w2 + (IntKind.wrap .u32 (5 * w3))))) 6 (IntKind.wrap .u32 (w2 + (IntKind.wrap .u32 (6 * w3))))) 7 (IntKind.wrap .u32 (w2 + (IntKind.wrap .u32 (7 * w3))))) 8 (IntKind.wrap .u32 (w2 + (IntKind.wrap .u32 (8 * w3))))) 9 (IntKind.wrap .u32 (w2 + (IntKind.wrap .u32 (9 * w3))))) 10 (IntKind.wrap .u32 (w2 + (IntKind.wrap .u32 (10 * w3))))) 11 (IntKind.wrap .u32 (w2 + (IntKind.wrap .u32 (11 * w3))))) 12 (IntKind.wrap .u32 (w2 + (IntKind.wrap .u32 (12 * w3))))) 13 (IntKind.wrap .u32 (w2 + (IntKind.wrap .u32 (13 * w3))))) 14 (IntKind.wrap .u32 (w2 + (IntKind.wrap .u32 (14 * w3))))) 15 (IntKind.wrap .u32 (w2 + (IntKind.wrap .u32 (15 * w3))))), w1, (Q.up (Q.up (Q.up (Q.up (fun _ => 0) 0 w0) 1 w1) 2 w2) 3 w3), st, du⟩)), M.It m3 (M.V.new (M.np 1) false) (Q.S.cells (Q.norm (⟨w0, (Q.up (Q.up (Q.up (Q.up (Q.up (Q.up (Q.up (Q.up (Q.up (Q.up (Q.up (Q.up (Q.up (Q.up (Q.up (Q.up (fun _ => 0) 0 (IntKind.wrap .u32 (w2 + (IntKind.wrap .u32 (0 * w3))))) 1 (IntKind.wrap .u32 (w2 + (IntKind.wrap .u32 (1 * w3))))) 2 (IntKind.wrap .u32 (w2 + (IntKind.wrap .u32 (2 * w3))))) 3 (IntKind.wrap .u32 (w2 + (IntKind.wrap .u32 (3 * w3))))) 4 (IntKind.wrap .u32 (w2 + (IntKind.wrap .u32 (4 * w3))))) 5 (IntKind.wrap .u32 (w2 + (IntKind.wrap .u32 (5 * w3))))) 6 (IntKind.wrap .u32 (w2 + (IntKind.wrap .u32 (6 * w3))))) 7 (IntKind.wrap .u32 (w2 + (IntKind.wrap .u32 (7 * w3))))) 8 (IntKind.wrap .u32 (w2 + (IntKind.wrap .u32 (8 * w3))))) 9 (IntKind.wrap .u32 (w2 + (IntKind.wrap .u32 (9 * w3))))) 10 (IntKind.wrap .u32 (w2 + (IntKind.wrap .u32 (10 * w3))))) 11 (IntKind.wrap .u32 (w2 + (IntKind.wrap .u32 (11 * w3))))) 12 (IntKind.wrap .u32 (w2 + (IntKind.wrap .u32 (12 * w3))))) 13 (IntKind.wrap .u32 (w2 + (IntKind.wrap .u32 (13 * w3))))) 14 (IntKind.wrap .u32 (w2 + (IntKind.wrap .u32 (14 * w3))))) 15 (IntKind.wrap .u32 (w2 + (IntKind.wrap .u32 (15 * w3))))), w1, (Q.up (Q.up (Q.up (Q.up (fun _ => 0) 0 w0) 1 w1) 2 w2) 3 w3), st, du⟩ : Q.S)))] (fun i6 => [(i6.1, (Q.S.cells Q.z0 ++ [.pointer (some ⟨i6.2, 0, none⟩)])), (g2, (Q.S.cells (⟨w0, (Q.up (Q.up (Q.up (Q.up (Q.up (Q.up (Q.up (Q.up (Q.up (Q.up (Q.up (Q.up (Q.up (Q.up (Q.up (Q.up (fun _ => 0) 0 (IntKind.wrap .u32 (w2 + (IntKind.wrap .u32 (0 * w3))))) 1 (IntKind.wrap .u32 (w2 + (IntKind.wrap .u32 (1 * w3))))) 2 (IntKind.wrap .u32 (w2 + (IntKind.wrap .u32 (2 * w3))))) 3 (IntKind.wrap .u32 (w2 + (IntKind.wrap .u32 (3 * w3))))) 4 (IntKind.wrap .u32 (w2 + (IntKind.wrap .u32 (4 * w3))))) 5 (IntKind.wrap .u32 (w2 + (IntKind.wrap .u32 (5 * w3))))) 6 (IntKind.wrap .u32 (w2 + (IntKind.wrap .u32 (6 * w3))))) 7 (IntKind.wrap .u32 (w2 + (IntKind.wrap .u32 (7 * w3))))) 8 (IntKind.wrap .u32 (w2 + (IntKind.wrap .u32 (8 * w3))))) 9 (IntKind.wrap .u32 (w2 + (IntKind.wrap .u32 (9 * w3))))) 10 (IntKind.wrap .u32 (w2 + (IntKind.wrap .u32 (10 * w3))))) 11 (IntKind.wrap .u32 (w2 + (IntKind.wrap .u32 (11 * w3))))) 12 (IntKind.wrap .u32 (w2 + (IntKind.wrap .u32 (12 * w3))))) 13 (IntKind.wrap .u32 (w2 + (IntKind.wrap .u32 (13 * w3))))) 14 (IntKind.wrap .u32 (w2 + (IntKind.wrap .u32 (14 * w3))))) 15 (IntKind.wrap .u32 (w2 + (IntKind.wrap .u32 (15 * w3))))), w1, (Q.up (Q.up (Q.up (Q.up (fun _ => 0) 0 w0) 1 w1) 2 w2) 3 w3), st, du⟩)))]) (fun i6 => [R.It i6.2 (M.V.new (M.np 1) false), M.It m3 (M.V.new (M.np 1) false) (Q.S.cells (Q.norm (⟨w0, (Q.up (Q.up (Q.up (Q.up (Q.up (Q.up (Q.up (Q.up (Q.up (Q.up (Q.up (Q.up (Q.up (Q.up (Q.up (Q.up (fun _ => 0) 0 (IntKind.wrap .u32 (w2 + (IntKind.wrap .u32 (0 * w3))))) 1 (IntKind.wrap .u32 (w2 + (IntKind.wrap .u32 (1 * w3))))) 2 (IntKind.wrap .u32 (w2 + (IntKind.wrap .u32 (2 * w3))))) 3 (IntKind.wrap .u32 (w2 + (IntKind.wrap .u32 (3 * w3))))) 4 (IntKind.wrap .u32 (w2 + (IntKind.wrap .u32 (4 * w3))))) 5 (IntKind.wrap .u32 (w2 + (IntKind.wrap .u32 (5 * w3))))) 6 (IntKind.wrap .u32 (w2 + (IntKind.wrap .u32 (6 * w3))))) 7 (IntKind.wrap .u32 (w2 + (IntKind.wrap .u32 (7 * w3))))) 8 (IntKind.wrap .u32 (w2 + (IntKind.wrap .u32 (8 * w3))))) 9 (IntKind.wrap .u32 (w2 + (IntKind.wrap .u32 (9 * w3))))) 10 (IntKind.wrap .u32 (w2 + (IntKind.wrap .u32 (10 * w3))))) 11 (IntKind.wrap .u32 (w2 + (IntKind.wrap .u32 (11 * w3))))) 12 (IntKind.wrap .u32 (w2 + (IntKind.wrap .u32 (12 * w3))))) 13 (IntKind.wrap .u32 (w2 + (IntKind.wrap .u32 (13 * w3))))) 14 (IntKind.wrap .u32 (w2 + (IntKind.wrap .u32 (14 * w3))))) 15 (IntKind.wrap .u32 (w2 + (IntKind.wrap .u32 (15 * w3))))), w1, (Q.up (Q.up (Q.up (Q.up (fun _ => 0) 0 w0) 1 w1) 2 w2) 3 w3), st, du⟩ : Q.S)))]) (CNew6 1) (by kernel_rfl) (A.pm [0, 1] (by kernel_rfl) (by kernel_rfl)) (fun i6 => A.pm [0, 2, 1, 3] (by kernel_rfl) (by kernel_rfl)) (fun w _ => by kernel_rfl) (by kernel_rfl) (fun i6 hd7 => ?_)
  refine E.G.op (.pointer (some ⟨i6.1, 0, none⟩)) (fun w => by kernel_rfl) (by kernel_rfl) ?_
  refine E.To.code ?_
  refine E.C.seq ?_
  refine E.C.region ?_
  refine E.G.op (.pointer (some ⟨i6.1, 0, none⟩)) (fun w => by kernel_rfl) (by kernel_rfl) ?_
  refine E.G.val (Q.S.val (⟨w0, (Q.up (Q.up (Q.up (Q.up (Q.up (Q.up (Q.up (Q.up (Q.up (Q.up (Q.up (Q.up (Q.up (Q.up (Q.up (Q.up (fun _ => 0) 0 (IntKind.wrap .u32 (w2 + (IntKind.wrap .u32 (0 * w3))))) 1 (IntKind.wrap .u32 (w2 + (IntKind.wrap .u32 (1 * w3))))) 2 (IntKind.wrap .u32 (w2 + (IntKind.wrap .u32 (2 * w3))))) 3 (IntKind.wrap .u32 (w2 + (IntKind.wrap .u32 (3 * w3))))) 4 (IntKind.wrap .u32 (w2 + (IntKind.wrap .u32 (4 * w3))))) 5 (IntKind.wrap .u32 (w2 + (IntKind.wrap .u32 (5 * w3))))) 6 (IntKind.wrap .u32 (w2 + (IntKind.wrap .u32 (6 * w3))))) 7 (IntKind.wrap .u32 (w2 + (IntKind.wrap .u32 (7 * w3))))) 8 (IntKind.wrap .u32 (w2 + (IntKind.wrap .u32 (8 * w3))))) 9 (IntKind.wrap .u32 (w2 + (IntKind.wrap .u32 (9 * w3))))) 10 (IntKind.wrap .u32 (w2 + (IntKind.wrap .u32 (10 * w3))))) 11 (IntKind.wrap .u32 (w2 + (IntKind.wrap .u32 (11 * w3))))) 12 (IntKind.wrap .u32 (w2 + (IntKind.wrap .u32 (12 * w3))))) 13 (IntKind.wrap .u32 (w2 + (IntKind.wrap .u32 (13 * w3))))) 14 (IntKind.wrap .u32 (w2 + (IntKind.wrap .u32 (14 * w3))))) 15 (IntKind.wrap .u32 (w2 + (IntKind.wrap .u32 (15 * w3))))), w1, (Q.up (Q.up (Q.up (Q.up (fun _ => 0) 0 w0) 1 w1) 2 w2) 3 w3), st, du⟩)) (by kernel_rfl) (fun w h => E.run_load h 1 rfl rfl (by kernel_rfl)) ?_
  refine A.G.call (I := Unit) (D := fun _ => True) (V := fun _ => .tuple #[]) (q := fun _ => [A.blk i6.1 (Q.S.cells (Q.norm (⟨w0, (Q.up (Q.up (Q.up (Q.up (Q.up (Q.up (Q.up (Q.up (Q.up (Q.up (Q.up (Q.up (Q.up (Q.up (Q.up (Q.up (fun _ => 0) 0 (IntKind.wrap .u32 (w2 + (IntKind.wrap .u32 (0 * w3))))) 1 (IntKind.wrap .u32 (w2 + (IntKind.wrap .u32 (1 * w3))))) 2 (IntKind.wrap .u32 (w2 + (IntKind.wrap .u32 (2 * w3))))) 3 (IntKind.wrap .u32 (w2 + (IntKind.wrap .u32 (3 * w3))))) 4 (IntKind.wrap .u32 (w2 + (IntKind.wrap .u32 (4 * w3))))) 5 (IntKind.wrap .u32 (w2 + (IntKind.wrap .u32 (5 * w3))))) 6 (IntKind.wrap .u32 (w2 + (IntKind.wrap .u32 (6 * w3))))) 7 (IntKind.wrap .u32 (w2 + (IntKind.wrap .u32 (7 * w3))))) 8 (IntKind.wrap .u32 (w2 + (IntKind.wrap .u32 (8 * w3))))) 9 (IntKind.wrap .u32 (w2 + (IntKind.wrap .u32 (9 * w3))))) 10 (IntKind.wrap .u32 (w2 + (IntKind.wrap .u32 (10 * w3))))) 11 (IntKind.wrap .u32 (w2 + (IntKind.wrap .u32 (11 * w3))))) 12 (IntKind.wrap .u32 (w2 + (IntKind.wrap .u32 (12 * w3))))) 13 (IntKind.wrap .u32 (w2 + (IntKind.wrap .u32 (13 * w3))))) 14 (IntKind.wrap .u32 (w2 + (IntKind.wrap .u32 (14 * w3))))) 15 (IntKind.wrap .u32 (w2 + (IntKind.wrap .u32 (15 * w3))))), w1, (Q.up (Q.up (Q.up (Q.up (fun _ => 0) 0 w0) 1 w1) 2 w2) 3 w3), st, du⟩ : Q.S)) ++ [.pointer (some ⟨i6.2, 0, none⟩)])]) [A.blk g2 (Q.S.cells (⟨w0, (Q.up (Q.up (Q.up (Q.up (Q.up (Q.up (Q.up (Q.up (Q.up (Q.up (Q.up (Q.up (Q.up (Q.up (Q.up (Q.up (fun _ => 0) 0 (IntKind.wrap .u32 (w2 + (IntKind.wrap .u32 (0 * w3))))) 1 (IntKind.wrap .u32 (w2 + (IntKind.wrap .u32 (1 * w3))))) 2 (IntKind.wrap .u32 (w2 + (IntKind.wrap .u32 (2 * w3))))) 3 (IntKind.wrap .u32 (w2 + (IntKind.wrap .u32 (3 * w3))))) 4 (IntKind.wrap .u32 (w2 + (IntKind.wrap .u32 (4 * w3))))) 5 (IntKind.wrap .u32 (w2 + (IntKind.wrap .u32 (5 * w3))))) 6 (IntKind.wrap .u32 (w2 + (IntKind.wrap .u32 (6 * w3))))) 7 (IntKind.wrap .u32 (w2 + (IntKind.wrap .u32 (7 * w3))))) 8 (IntKind.wrap .u32 (w2 + (IntKind.wrap .u32 (8 * w3))))) 9 (IntKind.wrap .u32 (w2 + (IntKind.wrap .u32 (9 * w3))))) 10 (IntKind.wrap .u32 (w2 + (IntKind.wrap .u32 (10 * w3))))) 11 (IntKind.wrap .u32 (w2 + (IntKind.wrap .u32 (11 * w3))))) 12 (IntKind.wrap .u32 (w2 + (IntKind.wrap .u32 (12 * w3))))) 13 (IntKind.wrap .u32 (w2 + (IntKind.wrap .u32 (13 * w3))))) 14 (IntKind.wrap .u32 (w2 + (IntKind.wrap .u32 (14 * w3))))) 15 (IntKind.wrap .u32 (w2 + (IntKind.wrap .u32 (15 * w3))))), w1, (Q.up (Q.up (Q.up (Q.up (fun _ => 0) 0 w0) 1 w1) 2 w2) 3 w3), st, du⟩)), R.It i6.2 (M.V.new (M.np 1) false), M.It m3 (M.V.new (M.np 1) false) (Q.S.cells (Q.norm (⟨w0, (Q.up (Q.up (Q.up (Q.up (Q.up (Q.up (Q.up (Q.up (Q.up (Q.up (Q.up (Q.up (Q.up (Q.up (Q.up (Q.up (fun _ => 0) 0 (IntKind.wrap .u32 (w2 + (IntKind.wrap .u32 (0 * w3))))) 1 (IntKind.wrap .u32 (w2 + (IntKind.wrap .u32 (1 * w3))))) 2 (IntKind.wrap .u32 (w2 + (IntKind.wrap .u32 (2 * w3))))) 3 (IntKind.wrap .u32 (w2 + (IntKind.wrap .u32 (3 * w3))))) 4 (IntKind.wrap .u32 (w2 + (IntKind.wrap .u32 (4 * w3))))) 5 (IntKind.wrap .u32 (w2 + (IntKind.wrap .u32 (5 * w3))))) 6 (IntKind.wrap .u32 (w2 + (IntKind.wrap .u32 (6 * w3))))) 7 (IntKind.wrap .u32 (w2 + (IntKind.wrap .u32 (7 * w3))))) 8 (IntKind.wrap .u32 (w2 + (IntKind.wrap .u32 (8 * w3))))) 9 (IntKind.wrap .u32 (w2 + (IntKind.wrap .u32 (9 * w3))))) 10 (IntKind.wrap .u32 (w2 + (IntKind.wrap .u32 (10 * w3))))) 11 (IntKind.wrap .u32 (w2 + (IntKind.wrap .u32 (11 * w3))))) 12 (IntKind.wrap .u32 (w2 + (IntKind.wrap .u32 (12 * w3))))) 13 (IntKind.wrap .u32 (w2 + (IntKind.wrap .u32 (13 * w3))))) 14 (IntKind.wrap .u32 (w2 + (IntKind.wrap .u32 (14 * w3))))) 15 (IntKind.wrap .u32 (w2 + (IntKind.wrap .u32 (15 * w3))))), w1, (Q.up (Q.up (Q.up (Q.up (fun _ => 0) 0 w0) 1 w1) 2 w2) 3 w3), st, du⟩ : Q.S)))] (fun _ => [(i6.1, (Q.S.cells (Q.norm (⟨w0, (Q.up (Q.up (Q.up (Q.up (Q.up (Q.up (Q.up (Q.up (Q.up (Q.up (Q.up (Q.up (Q.up (Q.up (Q.up (Q.up (fun _ => 0) 0 (IntKind.wrap .u32 (w2 + (IntKind.wrap .u32 (0 * w3))))) 1 (IntKind.wrap .u32 (w2 + (IntKind.wrap .u32 (1 * w3))))) 2 (IntKind.wrap .u32 (w2 + (IntKind.wrap .u32 (2 * w3))))) 3 (IntKind.wrap .u32 (w2 + (IntKind.wrap .u32 (3 * w3))))) 4 (IntKind.wrap .u32 (w2 + (IntKind.wrap .u32 (4 * w3))))) 5 (IntKind.wrap .u32 (w2 + (IntKind.wrap .u32 (5 * w3))))) 6 (IntKind.wrap .u32 (w2 + (IntKind.wrap .u32 (6 * w3))))) 7 (IntKind.wrap .u32 (w2 + (IntKind.wrap .u32 (7 * w3))))) 8 (IntKind.wrap .u32 (w2 + (IntKind.wrap .u32 (8 * w3))))) 9 (IntKind.wrap .u32 (w2 + (IntKind.wrap .u32 (9 * w3))))) 10 (IntKind.wrap .u32 (w2 + (IntKind.wrap .u32 (10 * w3))))) 11 (IntKind.wrap .u32 (w2 + (IntKind.wrap .u32 (11 * w3))))) 12 (IntKind.wrap .u32 (w2 + (IntKind.wrap .u32 (12 * w3))))) 13 (IntKind.wrap .u32 (w2 + (IntKind.wrap .u32 (13 * w3))))) 14 (IntKind.wrap .u32 (w2 + (IntKind.wrap .u32 (14 * w3))))) 15 (IntKind.wrap .u32 (w2 + (IntKind.wrap .u32 (15 * w3))))), w1, (Q.up (Q.up (Q.up (Q.up (fun _ => 0) 0 w0) 1 w1) 2 w2) 3 w3), st, du⟩ : Q.S)) ++ [.pointer (some ⟨i6.2, 0, none⟩)])), (g2, (Q.S.cells (⟨w0, (Q.up (Q.up (Q.up (Q.up (Q.up (Q.up (Q.up (Q.up (Q.up (Q.up (Q.up (Q.up (Q.up (Q.up (Q.up (Q.up (fun _ => 0) 0 (IntKind.wrap .u32 (w2 + (IntKind.wrap .u32 (0 * w3))))) 1 (IntKind.wrap .u32 (w2 + (IntKind.wrap .u32 (1 * w3))))) 2 (IntKind.wrap .u32 (w2 + (IntKind.wrap .u32 (2 * w3))))) 3 (IntKind.wrap .u32 (w2 + (IntKind.wrap .u32 (3 * w3))))) 4 (IntKind.wrap .u32 (w2 + (IntKind.wrap .u32 (4 * w3))))) 5 (IntKind.wrap .u32 (w2 + (IntKind.wrap .u32 (5 * w3))))) 6 (IntKind.wrap .u32 (w2 + (IntKind.wrap .u32 (6 * w3))))) 7 (IntKind.wrap .u32 (w2 + (IntKind.wrap .u32 (7 * w3))))) 8 (IntKind.wrap .u32 (w2 + (IntKind.wrap .u32 (8 * w3))))) 9 (IntKind.wrap .u32 (w2 + (IntKind.wrap .u32 (9 * w3))))) 10 (IntKind.wrap .u32 (w2 + (IntKind.wrap .u32 (10 * w3))))) 11 (IntKind.wrap .u32 (w2 + (IntKind.wrap .u32 (11 * w3))))) 12 (IntKind.wrap .u32 (w2 + (IntKind.wrap .u32 (12 * w3))))) 13 (IntKind.wrap .u32 (w2 + (IntKind.wrap .u32 (13 * w3))))) 14 (IntKind.wrap .u32 (w2 + (IntKind.wrap .u32 (14 * w3))))) 15 (IntKind.wrap .u32 (w2 + (IntKind.wrap .u32 (15 * w3))))), w1, (Q.up (Q.up (Q.up (Q.up (fun _ => 0) 0 w0) 1 w1) 2 w2) 3 w3), st, du⟩)))]) (fun _ => [R.It i6.2 (M.V.new (M.np 1) false), M.It m3 (M.V.new (M.np 1) false) (Q.S.cells (Q.norm (⟨w0, (Q.up (Q.up (Q.up (Q.up (Q.up (Q.up (Q.up (Q.up (Q.up (Q.up (Q.up (Q.up (Q.up (Q.up (Q.up (Q.up (fun _ => 0) 0 (IntKind.wrap .u32 (w2 + (IntKind.wrap .u32 (0 * w3))))) 1 (IntKind.wrap .u32 (w2 + (IntKind.wrap .u32 (1 * w3))))) 2 (IntKind.wrap .u32 (w2 + (IntKind.wrap .u32 (2 * w3))))) 3 (IntKind.wrap .u32 (w2 + (IntKind.wrap .u32 (3 * w3))))) 4 (IntKind.wrap .u32 (w2 + (IntKind.wrap .u32 (4 * w3))))) 5 (IntKind.wrap .u32 (w2 + (IntKind.wrap .u32 (5 * w3))))) 6 (IntKind.wrap .u32 (w2 + (IntKind.wrap .u32 (6 * w3))))) 7 (IntKind.wrap .u32 (w2 + (IntKind.wrap .u32 (7 * w3))))) 8 (IntKind.wrap .u32 (w2 + (IntKind.wrap .u32 (8 * w3))))) 9 (IntKind.wrap .u32 (w2 + (IntKind.wrap .u32 (9 * w3))))) 10 (IntKind.wrap .u32 (w2 + (IntKind.wrap .u32 (10 * w3))))) 11 (IntKind.wrap .u32 (w2 + (IntKind.wrap .u32 (11 * w3))))) 12 (IntKind.wrap .u32 (w2 + (IntKind.wrap .u32 (12 * w3))))) 13 (IntKind.wrap .u32 (w2 + (IntKind.wrap .u32 (13 * w3))))) 14 (IntKind.wrap .u32 (w2 + (IntKind.wrap .u32 (14 * w3))))) 15 (IntKind.wrap .u32 (w2 + (IntKind.wrap .u32 (15 * w3))))), w1, (Q.up (Q.up (Q.up (Q.up (fun _ => 0) 0 w0) 1 w1) 2 w2) 3 w3), st, du⟩ : Q.S)))]) (CSet6 (r := i6.1) (p := .pointer (some ⟨i6.2, 0, none⟩)) (s0 := Q.z0) (⟨w0, (Q.up (Q.up (Q.up (Q.up (Q.up (Q.up (Q.up (Q.up (Q.up (Q.up (Q.up (Q.up (Q.up (Q.up (Q.up (Q.up (fun _ => 0) 0 (IntKind.wrap .u32 (w2 + (IntKind.wrap .u32 (0 * w3))))) 1 (IntKind.wrap .u32 (w2 + (IntKind.wrap .u32 (1 * w3))))) 2 (IntKind.wrap .u32 (w2 + (IntKind.wrap .u32 (2 * w3))))) 3 (IntKind.wrap .u32 (w2 + (IntKind.wrap .u32 (3 * w3))))) 4 (IntKind.wrap .u32 (w2 + (IntKind.wrap .u32 (4 * w3))))) 5 (IntKind.wrap .u32 (w2 + (IntKind.wrap .u32 (5 * w3))))) 6 (IntKind.wrap .u32 (w2 + (IntKind.wrap .u32 (6 * w3))))) 7 (IntKind.wrap .u32 (w2 + (IntKind.wrap .u32 (7 * w3))))) 8 (IntKind.wrap .u32 (w2 + (IntKind.wrap .u32 (8 * w3))))) 9 (IntKind.wrap .u32 (w2 + (IntKind.wrap .u32 (9 * w3))))) 10 (IntKind.wrap .u32 (w2 + (IntKind.wrap .u32 (10 * w3))))) 11 (IntKind.wrap .u32 (w2 + (IntKind.wrap .u32 (11 * w3))))) 12 (IntKind.wrap .u32 (w2 + (IntKind.wrap .u32 (12 * w3))))) 13 (IntKind.wrap .u32 (w2 + (IntKind.wrap .u32 (13 * w3))))) 14 (IntKind.wrap .u32 (w2 + (IntKind.wrap .u32 (14 * w3))))) 15 (IntKind.wrap .u32 (w2 + (IntKind.wrap .u32 (15 * w3))))), w1, (Q.up (Q.up (Q.up (Q.up (fun _ => 0) 0 w0) 1 w1) 2 w2) 3 w3), st, du⟩)) (by kernel_rfl) (A.pm [0, 1, 2, 3] (by kernel_rfl) (by kernel_rfl)) (fun _ => A.pm [0, 1, 2, 3] (by kernel_rfl) (by kernel_rfl)) (fun w _ => by kernel_rfl) (by kernel_rfl) (fun _ hd8 => ?_)
  refine E.To.code ?_
  refine E.C.weak [(6, .bool false), (7, .bool true), (11, .pointer (some ⟨m3, 0, none⟩)), (12, .pointer (some ⟨i6.1, 0, none⟩))] [(i6.1, (Q.S.cells (Q.norm (⟨w0, (Q.up (Q.up (Q.up (Q.up (Q.up (Q.up (Q.up (Q.up (Q.up (Q.up (Q.up (Q.up (Q.up (Q.up (Q.up (Q.up (fun _ => 0) 0 (IntKind.wrap .u32 (w2 + (IntKind.wrap .u32 (0 * w3))))) 1 (IntKind.wrap .u32 (w2 + (IntKind.wrap .u32 (1 * w3))))) 2 (IntKind.wrap .u32 (w2 + (IntKind.wrap .u32 (2 * w3))))) 3 (IntKind.wrap .u32 (w2 + (IntKind.wrap .u32 (3 * w3))))) 4 (IntKind.wrap .u32 (w2 + (IntKind.wrap .u32 (4 * w3))))) 5 (IntKind.wrap .u32 (w2 + (IntKind.wrap .u32 (5 * w3))))) 6 (IntKind.wrap .u32 (w2 + (IntKind.wrap .u32 (6 * w3))))) 7 (IntKind.wrap .u32 (w2 + (IntKind.wrap .u32 (7 * w3))))) 8 (IntKind.wrap .u32 (w2 + (IntKind.wrap .u32 (8 * w3))))) 9 (IntKind.wrap .u32 (w2 + (IntKind.wrap .u32 (9 * w3))))) 10 (IntKind.wrap .u32 (w2 + (IntKind.wrap .u32 (10 * w3))))) 11 (IntKind.wrap .u32 (w2 + (IntKind.wrap .u32 (11 * w3))))) 12 (IntKind.wrap .u32 (w2 + (IntKind.wrap .u32 (12 * w3))))) 13 (IntKind.wrap .u32 (w2 + (IntKind.wrap .u32 (13 * w3))))) 14 (IntKind.wrap .u32 (w2 + (IntKind.wrap .u32 (14 * w3))))) 15 (IntKind.wrap .u32 (w2 + (IntKind.wrap .u32 (15 * w3))))), w1, (Q.up (Q.up (Q.up (Q.up (fun _ => 0) 0 w0) 1 w1) 2 w2) 3 w3), st, du⟩ : Q.S)) ++ [.pointer (some ⟨i6.2, 0, none⟩)]))] ⟨by kernel_rfl, by kernel_rfl⟩ (List.Sublist.cons_cons _ (List.nil_sublist _)) ?_
  refine E.C.seq ?_
  refine E.C.quiet (by kernel_rfl) (by kernel_rfl) ?_
  refine E.W.op (.bool true) (fun w => by kernel_rfl) (by kernel_rfl) ?_
  refine E.W.op (.bool true) (fun w => by kernel_rfl) (by kernel_rfl) ?_
  refine E.W.op (.pointer (some ⟨m3, 0, none⟩)) (fun w => by kernel_rfl) (by kernel_rfl) ?_
  refine E.W.call (Q.S.val (Q.norm (⟨w0, (Q.up (Q.up (Q.up (Q.up (Q.up (Q.up (Q.up (Q.up (Q.up (Q.up (Q.up (Q.up (Q.up (Q.up (Q.up (Q.up (fun _ => 0) 0 (IntKind.wrap .u32 (w2 + (IntKind.wrap .u32 (0 * w3))))) 1 (IntKind.wrap .u32 (w2 + (IntKind.wrap .u32 (1 * w3))))) 2 (IntKind.wrap .u32 (w2 + (IntKind.wrap .u32 (2 * w3))))) 3 (IntKind.wrap .u32 (w2 + (IntKind.wrap .u32 (3 * w3))))) 4 (IntKind.wrap .u32 (w2 + (IntKind.wrap .u32 (4 * w3))))) 5 (IntKind.wrap .u32 (w2 + (IntKind.wrap .u32 (5 * w3))))) 6 (IntKind.wrap .u32 (w2 + (IntKind.wrap .u32 (6 * w3))))) 7 (IntKind.wrap .u32 (w2 + (IntKind.wrap .u32 (7 * w3))))) 8 (IntKind.wrap .u32 (w2 + (IntKind.wrap .u32 (8 * w3))))) 9 (IntKind.wrap .u32 (w2 + (IntKind.wrap .u32 (9 * w3))))) 10 (IntKind.wrap .u32 (w2 + (IntKind.wrap .u32 (10 * w3))))) 11 (IntKind.wrap .u32 (w2 + (IntKind.wrap .u32 (11 * w3))))) 12 (IntKind.wrap .u32 (w2 + (IntKind.wrap .u32 (12 * w3))))) 13 (IntKind.wrap .u32 (w2 + (IntKind.wrap .u32 (13 * w3))))) 14 (IntKind.wrap .u32 (w2 + (IntKind.wrap .u32 (14 * w3))))) 15 (IntKind.wrap .u32 (w2 + (IntKind.wrap .u32 (15 * w3))))), w1, (Q.up (Q.up (Q.up (Q.up (fun _ => 0) 0 w0) 1 w1) 2 w2) 3 w3), st, du⟩ : Q.S))) (fun w h => A.call_rd [A.blk i6.1 (Q.S.cells (Q.norm (⟨w0, (Q.up (Q.up (Q.up (Q.up (Q.up (Q.up (Q.up (Q.up (Q.up (Q.up (Q.up (Q.up (Q.up (Q.up (Q.up (Q.up (fun _ => 0) 0 (IntKind.wrap .u32 (w2 + (IntKind.wrap .u32 (0 * w3))))) 1 (IntKind.wrap .u32 (w2 + (IntKind.wrap .u32 (1 * w3))))) 2 (IntKind.wrap .u32 (w2 + (IntKind.wrap .u32 (2 * w3))))) 3 (IntKind.wrap .u32 (w2 + (IntKind.wrap .u32 (3 * w3))))) 4 (IntKind.wrap .u32 (w2 + (IntKind.wrap .u32 (4 * w3))))) 5 (IntKind.wrap .u32 (w2 + (IntKind.wrap .u32 (5 * w3))))) 6 (IntKind.wrap .u32 (w2 + (IntKind.wrap .u32 (6 * w3))))) 7 (IntKind.wrap .u32 (w2 + (IntKind.wrap .u32 (7 * w3))))) 8 (IntKind.wrap .u32 (w2 + (IntKind.wrap .u32 (8 * w3))))) 9 (IntKind.wrap .u32 (w2 + (IntKind.wrap .u32 (9 * w3))))) 10 (IntKind.wrap .u32 (w2 + (IntKind.wrap .u32 (10 * w3))))) 11 (IntKind.wrap .u32 (w2 + (IntKind.wrap .u32 (11 * w3))))) 12 (IntKind.wrap .u32 (w2 + (IntKind.wrap .u32 (12 * w3))))) 13 (IntKind.wrap .u32 (w2 + (IntKind.wrap .u32 (13 * w3))))) 14 (IntKind.wrap .u32 (w2 + (IntKind.wrap .u32 (14 * w3))))) 15 (IntKind.wrap .u32 (w2 + (IntKind.wrap .u32 (15 * w3))))), w1, (Q.up (Q.up (Q.up (Q.up (fun _ => 0) 0 w0) 1 w1) 2 w2) 3 w3), st, du⟩ : Q.S)) ++ [.pointer (some ⟨i6.2, 0, none⟩)]), R.It i6.2 (M.V.new (M.np 1) false)] (CState (c := m3) (V := (M.V.new (M.np 1) false)) (Q.norm (⟨w0, (Q.up (Q.up (Q.up (Q.up (Q.up (Q.up (Q.up (Q.up (Q.up (Q.up (Q.up (Q.up (Q.up (Q.up (Q.up (Q.up (fun _ => 0) 0 (IntKind.wrap .u32 (w2 + (IntKind.wrap .u32 (0 * w3))))) 1 (IntKind.wrap .u32 (w2 + (IntKind.wrap .u32 (1 * w3))))) 2 (IntKind.wrap .u32 (w2 + (IntKind.wrap .u32 (2 * w3))))) 3 (IntKind.wrap .u32 (w2 + (IntKind.wrap .u32 (3 * w3))))) 4 (IntKind.wrap .u32 (w2 + (IntKind.wrap .u32 (4 * w3))))) 5 (IntKind.wrap .u32 (w2 + (IntKind.wrap .u32 (5 * w3))))) 6 (IntKind.wrap .u32 (w2 + (IntKind.wrap .u32 (6 * w3))))) 7 (IntKind.wrap .u32 (w2 + (IntKind.wrap .u32 (7 * w3))))) 8 (IntKind.wrap .u32 (w2 + (IntKind.wrap .u32 (8 * w3))))) 9 (IntKind.wrap .u32 (w2 + (IntKind.wrap .u32 (9 * w3))))) 10 (IntKind.wrap .u32 (w2 + (IntKind.wrap .u32 (10 * w3))))) 11 (IntKind.wrap .u32 (w2 + (IntKind.wrap .u32 (11 * w3))))) 12 (IntKind.wrap .u32 (w2 + (IntKind.wrap .u32 (12 * w3))))) 13 (IntKind.wrap .u32 (w2 + (IntKind.wrap .u32 (13 * w3))))) 14 (IntKind.wrap .u32 (w2 + (IntKind.wrap .u32 (14 * w3))))) 15 (IntKind.wrap .u32 (w2 + (IntKind.wrap .u32 (15 * w3))))), w1, (Q.up (Q.up (Q.up (Q.up (fun _ => 0) 0 w0) 1 w1) 2 w2) 3 w3), st, du⟩ : Q.S))) h (by kernel_rfl) (A.pm [2, 0, 1] (by kernel_rfl) (by kernel_rfl))) (fun w _ => by kernel_rfl) (by kernel_rfl) ?_
  refine E.W.op (.pointer (some ⟨i6.1, 0, none⟩)) (fun w => by kernel_rfl) (by kernel_rfl) ?_
  refine E.W.op (.pointer (some ⟨i6.1, 0, none⟩)) (fun w => by kernel_rfl) (by kernel_rfl) ?_
  refine E.W.op (.pointer (some ⟨i6.1, 0, none⟩)) (fun w => by kernel_rfl) (by kernel_rfl) ?_
  refine E.W.val (Q.S.val (Q.norm (⟨w0, (Q.up (Q.up (Q.up (Q.up (Q.up (Q.up (Q.up (Q.up (Q.up (Q.up (Q.up (Q.up (Q.up (Q.up (Q.up (Q.up (fun _ => 0) 0 (IntKind.wrap .u32 (w2 + (IntKind.wrap .u32 (0 * w3))))) 1 (IntKind.wrap .u32 (w2 + (IntKind.wrap .u32 (1 * w3))))) 2 (IntKind.wrap .u32 (w2 + (IntKind.wrap .u32 (2 * w3))))) 3 (IntKind.wrap .u32 (w2 + (IntKind.wrap .u32 (3 * w3))))) 4 (IntKind.wrap .u32 (w2 + (IntKind.wrap .u32 (4 * w3))))) 5 (IntKind.wrap .u32 (w2 + (IntKind.wrap .u32 (5 * w3))))) 6 (IntKind.wrap .u32 (w2 + (IntKind.wrap .u32 (6 * w3))))) 7 (IntKind.wrap .u32 (w2 + (IntKind.wrap .u32 (7 * w3))))) 8 (IntKind.wrap .u32 (w2 + (IntKind.wrap .u32 (8 * w3))))) 9 (IntKind.wrap .u32 (w2 + (IntKind.wrap .u32 (9 * w3))))) 10 (IntKind.wrap .u32 (w2 + (IntKind.wrap .u32 (10 * w3))))) 11 (IntKind.wrap .u32 (w2 + (IntKind.wrap .u32 (11 * w3))))) 12 (IntKind.wrap .u32 (w2 + (IntKind.wrap .u32 (12 * w3))))) 13 (IntKind.wrap .u32 (w2 + (IntKind.wrap .u32 (13 * w3))))) 14 (IntKind.wrap .u32 (w2 + (IntKind.wrap .u32 (14 * w3))))) 15 (IntKind.wrap .u32 (w2 + (IntKind.wrap .u32 (15 * w3))))), w1, (Q.up (Q.up (Q.up (Q.up (fun _ => 0) 0 w0) 1 w1) 2 w2) 3 w3), st, du⟩ : Q.S))) (by kernel_rfl) (fun w h => E.run_load h 0 rfl rfl (by kernel_rfl)) ?_
  refine E.W.val (.bool true) (by kernel_rfl) (fun w h => E.api_State_self (Q.norm (⟨w0, (Q.up (Q.up (Q.up (Q.up (Q.up (Q.up (Q.up (Q.up (Q.up (Q.up (Q.up (Q.up (Q.up (Q.up (Q.up (Q.up (fun _ => 0) 0 (IntKind.wrap .u32 (w2 + (IntKind.wrap .u32 (0 * w3))))) 1 (IntKind.wrap .u32 (w2 + (IntKind.wrap .u32 (1 * w3))))) 2 (IntKind.wrap .u32 (w2 + (IntKind.wrap .u32 (2 * w3))))) 3 (IntKind.wrap .u32 (w2 + (IntKind.wrap .u32 (3 * w3))))) 4 (IntKind.wrap .u32 (w2 + (IntKind.wrap .u32 (4 * w3))))) 5 (IntKind.wrap .u32 (w2 + (IntKind.wrap .u32 (5 * w3))))) 6 (IntKind.wrap .u32 (w2 + (IntKind.wrap .u32 (6 * w3))))) 7 (IntKind.wrap .u32 (w2 + (IntKind.wrap .u32 (7 * w3))))) 8 (IntKind.wrap .u32 (w2 + (IntKind.wrap .u32 (8 * w3))))) 9 (IntKind.wrap .u32 (w2 + (IntKind.wrap .u32 (9 * w3))))) 10 (IntKind.wrap .u32 (w2 + (IntKind.wrap .u32 (10 * w3))))) 11 (IntKind.wrap .u32 (w2 + (IntKind.wrap .u32 (11 * w3))))) 12 (IntKind.wrap .u32 (w2 + (IntKind.wrap .u32 (12 * w3))))) 13 (IntKind.wrap .u32 (w2 + (IntKind.wrap .u32 (13 * w3))))) 14 (IntKind.wrap .u32 (w2 + (IntKind.wrap .u32 (14 * w3))))) 15 (IntKind.wrap .u32 (w2 + (IntKind.wrap .u32 (15 * w3))))), w1, (Q.up (Q.up (Q.up (Q.up (fun _ => 0) 0 w0) 1 w1) 2 w2) 3 w3), st, du⟩ : Q.S)) (by kernel_rfl) (by kernel_rfl)) ?_
  refine E.W.op (.bool true) (fun w => by kernel_rfl) (by kernel_rfl) ?_
  refine E.W.op (.bool true) (fun w => by kernel_rfl) (by kernel_rfl) ?_
  refine E.W.op (.pointer (some ⟨m3, 0, none⟩)) (fun w => by kernel_rfl) (by kernel_rfl) ?_
  refine E.W.call (.int .i64 2) (fun w h => CKind (c := m3) w) (fun w _ => by kernel_rfl) (by kernel_rfl) ?_
  refine E.W.op (.bool true) (fun w => by kernel_rfl) (by kernel_rfl) ?_
  refine E.W.op (.bool true) (fun w => by kernel_rfl) (by kernel_rfl) ?_
  refine E.W.op (.bool true) (fun w => by kernel_rfl) (by kernel_rfl) ?_
  refine E.W.op (.pointer (some ⟨m3, 0, none⟩)) (fun w => by kernel_rfl) (by kernel_rfl) ?_
  refine E.W.op (.pointer (some ⟨m3, 0, none⟩)) (fun w => by kernel_rfl) (by kernel_rfl) ?_
  refine E.W.op (.pointer (some ⟨m3, 0, none⟩)) (fun w => by kernel_rfl) (by kernel_rfl) ?_
  refine E.W.call (.int .i64 (((M.V.new (M.np 1) false).n : Nat) : Int)) (fun w h => A.call_rd [A.blk i6.1 (Q.S.cells (Q.norm (⟨w0, (Q.up (Q.up (Q.up (Q.up (Q.up (Q.up (Q.up (Q.up (Q.up (Q.up (Q.up (Q.up (Q.up (Q.up (Q.up (Q.up (fun _ => 0) 0 (IntKind.wrap .u32 (w2 + (IntKind.wrap .u32 (0 * w3))))) 1 (IntKind.wrap .u32 (w2 + (IntKind.wrap .u32 (1 * w3))))) 2 (IntKind.wrap .u32 (w2 + (IntKind.wrap .u32 (2 * w3))))) 3 (IntKind.wrap .u32 (w2 + (IntKind.wrap .u32 (3 * w3))))) 4 (IntKind.wrap .u32 (w2 + (IntKind.wrap .u32 (4 * w3))))) 5 (IntKind.wrap .u32 (w2 + (IntKind.wrap .u32 (5 * w3))))) 6 (IntKind.wrap .u32 (w2 + (IntKind.wrap .u32 (6 * w3))))) 7 (IntKind.wrap .u32 (w2 + (IntKind.wrap .u32 (7 * w3))))) 8 (IntKind.wrap .u32 (w2 + (IntKind.wrap .u32 (8 * w3))))) 9 (IntKind.wrap .u32 (w2 + (IntKind.wrap .u32 (9 * w3))))) 10 (IntKind.wrap .u32 (w2 + (IntKind.wrap .u32 (10 * w3))))) 11 (IntKind.wrap .u32 (w2 + (IntKind.wrap .u32 (11 * w3))))) 12 (IntKind.wrap .u32 (w2 + (IntKind.wrap .u32 (12 * w3))))) 13 (IntKind.wrap .u32 (w2 + (IntKind.wrap .u32 (13 * w3))))) 14 (IntKind.wrap .u32 (w2 + (IntKind.wrap .u32 (14 * w3))))) 15 (IntKind.wrap .u32 (w2 + (IntKind.wrap .u32 (15 * w3))))), w1, (Q.up (Q.up (Q.up (Q.up (fun _ => 0) 0 w0) 1 w1) 2 w2) 3 w3), st, du⟩ : Q.S)) ++ [.pointer (some ⟨i6.2, 0, none⟩)]), R.It i6.2 (M.V.new (M.np 1) false)] (A_Pages (m := m3) (V := (M.V.new (M.np 1) false)) (xs := (Q.S.cells (Q.norm (⟨w0, (Q.up (Q.up (Q.up (Q.up (Q.up (Q.up (Q.up (Q.up (Q.up (Q.up (Q.up (Q.up (Q.up (Q.up (Q.up (Q.up (fun _ => 0) 0 (IntKind.wrap .u32 (w2 + (IntKind.wrap .u32 (0 * w3))))) 1 (IntKind.wrap .u32 (w2 + (IntKind.wrap .u32 (1 * w3))))) 2 (IntKind.wrap .u32 (w2 + (IntKind.wrap .u32 (2 * w3))))) 3 (IntKind.wrap .u32 (w2 + (IntKind.wrap .u32 (3 * w3))))) 4 (IntKind.wrap .u32 (w2 + (IntKind.wrap .u32 (4 * w3))))) 5 (IntKind.wrap .u32 (w2 + (IntKind.wrap .u32 (5 * w3))))) 6 (IntKind.wrap .u32 (w2 + (IntKind.wrap .u32 (6 * w3))))) 7 (IntKind.wrap .u32 (w2 + (IntKind.wrap .u32 (7 * w3))))) 8 (IntKind.wrap .u32 (w2 + (IntKind.wrap .u32 (8 * w3))))) 9 (IntKind.wrap .u32 (w2 + (IntKind.wrap .u32 (9 * w3))))) 10 (IntKind.wrap .u32 (w2 + (IntKind.wrap .u32 (10 * w3))))) 11 (IntKind.wrap .u32 (w2 + (IntKind.wrap .u32 (11 * w3))))) 12 (IntKind.wrap .u32 (w2 + (IntKind.wrap .u32 (12 * w3))))) 13 (IntKind.wrap .u32 (w2 + (IntKind.wrap .u32 (13 * w3))))) 14 (IntKind.wrap .u32 (w2 + (IntKind.wrap .u32 (14 * w3))))) 15 (IntKind.wrap .u32 (w2 + (IntKind.wrap .u32 (15 * w3))))), w1, (Q.up (Q.up (Q.up (Q.up (fun _ => 0) 0 w0) 1 w1) 2 w2) 3 w3), st, du⟩ : Q.S))))) h (by kernel_rfl) (A.pm [2, 0, 1] (by kernel_rfl) (by kernel_rfl))) (fun w _ => by kernel_rfl) (by kernel_rfl) ?_
  refine E.W.op (.bool ((((M.V.new (M.np 1) false).n : Nat) : Int) == 1)) (fun w => by kernel_rfl) (by kernel_rfl) ?_
  refine E.W.op (.bool ((((M.V.new (M.np 1) false).n : Nat) : Int) == 1)) (fun w => by kernel_rfl) (by kernel_rfl) ?_
  refine E.W.op (.bool ((((M.V.new (M.np 1) false).n : Nat) : Int) == 1)) (fun w => by kernel_rfl) (by kernel_rfl) ?_
  refine E.W.done (E.To.code ?_)
  refine E.C.weak [(6, .bool ((((M.V.new (M.np 1) false).n : Nat) : Int) == 1))] [] ⟨by kernel_rfl, by kernel_rfl⟩ (List.nil_sublist _) ?_
  refine E.C.ret (E.To.body (fn := Try.f3) [.bool ((((M.V.new (M.np 1) false).n : Nat) : Int) == 1)] ?_ ?_)
  · exact ⟨⟨by kernel_rfl, by kernel_rfl⟩, trivial⟩
  · intro w h
    exact ⟨rfl, h.ch.bel (fun x hx => (hh.1 x hx).elim)⟩
theorem QcpuStates_law (w0 w1 w2 w3 st du : Int) (w : World) : Calls Try.prog 3 #[.agg #[.int .u32 w0, .int .u32 w1, .int .u32 w2, .int .u32 w3], .int .i64 st, .int .i64 du] w fun e w' => e = .returned (.bool true) ∧ Bel w w' := by
  skip
  exact QcpuStates_rd w0 w1 w2 w3 st du w _ _ ⟨fun _ h => h, fun _ h => h⟩
end Go.Proofs.Ytgbndbljohpnmaa
