/- Walks: MemNil, printed by wip/eng. No condition but what is named. -/
import Derived.Test.YtdjjjikokfadiaaProg
import Derived.Test.YtdjjjikokfadiaaNd
namespace Go.Proofs.Ytdjjjikokfadiaa
set_option linter.unusedVariables false
set_option linter.unusedSimpArgs false
open Go.RowKit
theorem Z_Sync {g : Nat} (a : Nat) (ha : a < 4294967296) : A.Tr Try.prog 33 #[.pointer (some ⟨g, 0, none⟩), .int .u32 ((a : Nat) : Int)] [M.It g M.Z []] (I := Unit) (fun _ => True) (fun _ => .bool false) (fun _ => [M.It g M.Z []]) := by
  have := A_Sync (m := g) (V := M.Z) (xs := []) a ha
  have e : M.Z.sync (a / 256) = M.Z := if_neg (fun h => Nat.not_lt_zero _ h.1)
  have e2 : decide (a / 256 < M.Z.n) = false := decide_eq_false (Nat.not_lt_zero _)
  rw [e, e2] at this; exact this
theorem MemNil_rd (a : Nat) (ha : a < 4294967296) (n : Int) : A.Rd Try.prog 12 #[.int .u32 ((a : Nat) : Int), .int .i64 n] [] (.bool true) := by
  intro w oo aa hh
  refine E.enter (n := 125) (S := oo) Try.func12 rfl rfl (by kernel_rfl) (A.start (L := []) hh) ?_
  refine E.C.seq ?_
  refine E.C.region ?_
  refine E.G.op (.bool false) (fun w => by kernel_rfl) (by kernel_rfl) ?_
  refine E.To.code ?_
  refine E.C.seq ?_
  refine E.C.region ?_
  refine E.G.call (.bool true) (fun w h => A.call_rd [] (San) h (by kernel_rfl) (A.pm [] (by kernel_rfl) (by kernel_rfl))) (fun w _ => by kernel_rfl) (by kernel_rfl) ?_
  refine E.G.op (.bool true) (fun w => by kernel_rfl) (by kernel_rfl) ?_
  refine E.To.code ?_
  refine E.C.seq ?_
  refine E.C.region ?_
  refine E.G.op (.pointer none) (fun w => by kernel_rfl) (by kernel_rfl) ?_
  refine E.To.code ?_
  refine E.C.seq ?_
  refine E.C.region ?_
  refine E.G.op (.pointer none) (fun w => by kernel_rfl) (by kernel_rfl) ?_
  refine E.G.val (.agg #[.slice none 0 0, .bool false]) (by kernel_rfl) (fun w h => E.run_build #[.slice none 0 0, .bool false] (by kernel_rfl) w) ?_
  refine E.G.new (fun g => .pointer (some ⟨g, 0, none⟩)) [.slice none 0 0, .bool false] 66 (fun w => by kernel_rfl) (by kernel_rfl) (fun g1 => ?_)
  refine E.G.val (.agg #[.pointer none, .pointer (some ⟨g1, 0, none⟩)]) (by kernel_rfl) (fun w h => E.run_build #[.pointer none, .pointer (some ⟨g1, 0, none⟩)] (by kernel_rfl) w) ?_
  refine E.G.new (fun g => .pointer (some ⟨g, 0, none⟩)) [.pointer none, .pointer none] 67 (fun w => by kernel_rfl) (by kernel_rfl) (fun g2 => ?_)
  refine E.G.store 0 [.pointer none, .pointer (some ⟨g1, 0, none⟩)] rfl rfl (by kernel_rfl) (by kernel_rfl) ?_
  refine E.To.code ?_
  refine E.C.seq ?_
  refine E.C.seq ?_
  refine A.C.shift [(g2, [.pointer none, .pointer (some ⟨g1, 0, none⟩)])] [A.blk g1 [.slice none 0 0, .bool false]] (by kernel_rfl) (A.pm [0, 1] (by kernel_rfl) (by kernel_rfl)) ?_
  refine M.C.zero ?_
  refine E.C.region ?_
  refine E.G.op (.int .i64 0) (fun w => by kernel_rfl) (by kernel_rfl) ?_
  refine E.To.code ?_
  refine E.C.block ?_
  refine E.C.rounds 2 ?_
  refine E.C.seq ?_
  refine E.C.seq ?_
  refine E.C.region ?_
  refine E.G.op (.int .i64 0) (fun w => by kernel_rfl) (by kernel_rfl) ?_
  refine E.G.op (.bool true) (fun w => by kernel_rfl) (by kernel_rfl) ?_
  refine E.To.code ?_
  refine E.C.condT (by kernel_rfl) (by kernel_rfl) ?_
  refine E.C.skip (E.To.code ?_)
  refine E.C.seq ?_
  refine E.C.block ?_
  refine E.C.seq ?_
  refine E.C.region ?_
  refine E.G.op (.int .i64 0) (fun w => by kernel_rfl) (by kernel_rfl) ?_
  refine E.G.op (.pointer (some ⟨g2, 0, none⟩)) (fun w => by kernel_rfl) (by kernel_rfl) ?_
  refine E.G.val (.pointer none) (by kernel_rfl) (fun w h => E.run_load h 0 rfl rfl (by kernel_rfl)) ?_
  refine E.G.op (.pointer none) (fun w => by kernel_rfl) (by kernel_rfl) ?_
  refine E.To.code ?_
  refine E.C.seq ?_
  refine E.C.region ?_
  refine E.G.op (.pointer none) (fun w => by kernel_rfl) (by kernel_rfl) ?_
  refine E.G.op (.int .u32 ((a : Nat) : Int)) (fun w => by kernel_rfl) (by kernel_rfl) ?_
  refine E.G.call (.tuple #[]) (fun w h => Poke_nil a ha w) (fun w _ => by kernel_rfl) (by kernel_rfl) ?_
  refine E.To.code ?_
  refine E.C.seq ?_
  refine E.C.region ?_
  refine E.G.op (.pointer none) (fun w => by kernel_rfl) (by kernel_rfl) ?_
  refine E.G.call (.tuple #[]) (fun w h => SetCode_nil (⟨#[120]⟩ : ByteArray) w) (fun w _ => by kernel_rfl) (by kernel_rfl) ?_
  refine E.To.code ?_
  refine E.C.weak [(0, .int .u32 ((a : Nat) : Int)), (1, .int .i64 n), (4, .bool false), (5, .bool true), (7, .pointer (some ⟨g2, 0, none⟩)), (8, .int .i64 0), (9, .pointer none), (22, .int .i64 0), (23, .bool true), (26, .int .i64 0), (27, .pointer (some ⟨g2, 0, none⟩)), (28, .pointer none), (29, .pointer none), (30, .int .u32 ((a : Nat) : Int)), (32, .pointer none)] [(g2, [.pointer none, .pointer (some ⟨g1, 0, none⟩)])] ⟨by kernel_rfl, by kernel_rfl⟩ (List.Sublist.refl _) ?_
  refine E.C.seq ?_
  refine E.C.region ?_
  refine E.G.op (.pointer none) (fun w => by kernel_rfl) (by kernel_rfl) ?_
  refine E.G.call (.tuple #[]) (fun w h => Protect_nil w) (fun w _ => by kernel_rfl) (by kernel_rfl) ?_
  refine E.To.code ?_
  refine E.C.seq ?_
  refine E.C.region ?_
  refine E.G.op (.pointer none) (fun w => by kernel_rfl) (by kernel_rfl) ?_
  refine E.G.call (.tuple #[]) (fun w h => Clean_nil w) (fun w _ => by kernel_rfl) (by kernel_rfl) ?_
  refine E.To.code ?_
  refine E.C.seq ?_
  refine E.C.region ?_
  refine E.G.op (.pointer none) (fun w => by kernel_rfl) (by kernel_rfl) ?_
  refine E.G.op (.int .u32 ((a : Nat) : Int)) (fun w => by kernel_rfl) (by kernel_rfl) ?_
  refine E.G.op (.int .i64 n) (fun w => by kernel_rfl) (by kernel_rfl) ?_
  refine E.G.call (.tuple #[.int .u32 0, .int .u32 ((a : Nat) : Int), .bool false]) (fun w h => Load_nil a ha n w) (fun w _ => by kernel_rfl) (by kernel_rfl) ?_
  refine E.G.op (.tuple #[.int .u32 0, .int .u32 ((a : Nat) : Int), .bool false]) (fun w => by kernel_rfl) (by kernel_rfl) ?_
  refine E.G.op (.int .u32 0) (fun w => by kernel_rfl) (by kernel_rfl) ?_
  refine E.G.op (.int .u32 ((a : Nat) : Int)) (fun w => by kernel_rfl) (by kernel_rfl) ?_
  refine E.G.op (.bool false) (fun w => by kernel_rfl) (by kernel_rfl) ?_
  refine E.G.op (.int .u32 0) (fun w => by kernel_rfl) (by kernel_rfl) ?_
  refine E.G.op (.int .u32 ((a : Nat) : Int)) (fun w => by kernel_rfl) (by kernel_rfl) ?_
  refine E.G.op (.bool false) (fun w => by kernel_rfl) (by kernel_rfl) ?_
  refine E.To.code ?_
  refine E.C.seq ?_
  refine E.C.region ?_
  refine E.G.op (.pointer none) (fun w => by kernel_rfl) (by kernel_rfl) ?_
  refine E.G.op (.int .u32 ((a : Nat) : Int)) (fun w => by kernel_rfl) (by kernel_rfl) ?_
  refine E.G.op (.int .i64 n) (fun w => by kernel_rfl) (by kernel_rfl) ?_
  refine E.G.call (.tuple #[.int .u32 ((a : Nat) : Int), .bool false]) (fun w h => Store_nil a ha n 1 w) (fun w _ => by kernel_rfl) (by kernel_rfl) ?_
  refine E.G.op (.tuple #[.int .u32 ((a : Nat) : Int), .bool false]) (fun w => by kernel_rfl) (by kernel_rfl) ?_
  refine E.G.op (.int .u32 ((a : Nat) : Int)) (fun w => by kernel_rfl) (by kernel_rfl) ?_
  refine E.G.op (.bool false) (fun w => by kernel_rfl) (by kernel_rfl) ?_
  refine E.G.op (.int .u32 ((a : Nat) : Int)) (fun w => by kernel_rfl) (by kernel_rfl) ?_
  refine E.G.op (.bool false) (fun w => by kernel_rfl) (by kernel_rfl) ?_
  refine E.To.code ?_
  refine E.C.seq ?_
  refine E.C.region ?_
  refine E.G.op (.pointer none) (fun w => by kernel_rfl) (by kernel_rfl) ?_
  refine E.G.op (.int .u32 ((a : Nat) : Int)) (fun w => by kernel_rfl) (by kernel_rfl) ?_
  refine E.G.call (.tuple #[.int .u8 0, .bool false]) (fun w h => Fetch_nil a ha w) (fun w _ => by kernel_rfl) (by kernel_rfl) ?_
  refine E.G.op (.tuple #[.int .u8 0, .bool false]) (fun w => by kernel_rfl) (by kernel_rfl) ?_
  refine E.G.op (.int .u8 0) (fun w => by kernel_rfl) (by kernel_rfl) ?_
  refine E.G.op (.bool false) (fun w => by kernel_rfl) (by kernel_rfl) ?_
  refine E.G.op (.int .u8 0) (fun w => by kernel_rfl) (by kernel_rfl) ?_
  refine E.G.op (.bool false) (fun w => by kernel_rfl) (by kernel_rfl) ?_
  refine E.To.code ?_
  refine E.C.seq ?_
  refine E.C.region ?_
  refine E.G.op (.int .u32 ((a : Nat) : Int)) (fun w => by kernel_rfl) (by kernel_rfl) ?_
  refine E.G.op (.int .u32 ((a : Nat) : Int)) (fun w => by kernel_rfl) (by kernel_rfl) ?_
  refine E.G.val (.bool false) (by kernel_rfl) (fun w h => E.run_as (a := .bool (((a : Nat) : Int) != ((a : Nat) : Int))) (by kernel_rfl) (congrArg Value.bool (bne_self_eq_false _))) ?_
  refine E.G.op (.bool false) (fun w => by kernel_rfl) (by kernel_rfl) ?_
  refine E.G.op (.bool false) (fun w => by kernel_rfl) (by kernel_rfl) ?_
  refine E.G.op (.bool false) (fun w => by kernel_rfl) (by kernel_rfl) ?_
  refine E.G.op (.bool false) (fun w => by kernel_rfl) (by kernel_rfl) ?_
  refine E.G.op (.int .u32 ((a : Nat) : Int)) (fun w => by kernel_rfl) (by kernel_rfl) ?_
  refine E.G.op (.int .u32 ((a : Nat) : Int)) (fun w => by kernel_rfl) (by kernel_rfl) ?_
  refine E.G.val (.bool false) (by kernel_rfl) (fun w h => E.run_as (a := .bool (((a : Nat) : Int) != ((a : Nat) : Int))) (by kernel_rfl) (congrArg Value.bool (bne_self_eq_false _))) ?_
  refine E.G.op (.bool false) (fun w => by kernel_rfl) (by kernel_rfl) ?_
  refine E.G.op (.bool false) (fun w => by kernel_rfl) (by kernel_rfl) ?_
  refine E.G.op (.bool false) (fun w => by kernel_rfl) (by kernel_rfl) ?_
  refine E.G.op (.bool false) (fun w => by kernel_rfl) (by kernel_rfl) ?_
  refine E.G.op (.bool false) (fun w => by kernel_rfl) (by kernel_rfl) ?_
  refine E.G.op (.bool false) (fun w => by kernel_rfl) (by kernel_rfl) ?_
  refine E.G.op (.bool false) (fun w => by kernel_rfl) (by kernel_rfl) ?_
  refine E.G.op (.bool false) (fun w => by kernel_rfl) (by kernel_rfl) ?_
  refine E.G.op (.pointer none) (fun w => by kernel_rfl) (by kernel_rfl) ?_
  refine E.G.op (.int .u32 ((a : Nat) : Int)) (fun w => by kernel_rfl) (by kernel_rfl) ?_
  refine E.G.call (.bool false) (fun w h => Sync_nil a ha w) (fun w _ => by kernel_rfl) (by kernel_rfl) ?_
  refine E.G.op (.bool false) (fun w => by kernel_rfl) (by kernel_rfl) ?_
  refine E.G.op (.bool false) (fun w => by kernel_rfl) (by kernel_rfl) ?_
  refine E.G.op (.pointer none) (fun w => by kernel_rfl) (by kernel_rfl) ?_
  refine E.G.call (.int .i64 0) (fun w h => Pages_nil w) (fun w _ => by kernel_rfl) (by kernel_rfl) ?_
  refine E.G.op (.bool false) (fun w => by kernel_rfl) (by kernel_rfl) ?_
  refine E.G.op (.bool false) (fun w => by kernel_rfl) (by kernel_rfl) ?_
  refine E.G.op (.bool false) (fun w => by kernel_rfl) (by kernel_rfl) ?_
  refine E.G.op (.pointer none) (fun w => by kernel_rfl) (by kernel_rfl) ?_
  refine E.G.op (.int .u32 ((a : Nat) : Int)) (fun w => by kernel_rfl) (by kernel_rfl) ?_
  refine E.G.call (.int .u8 0) (fun w h => Peek_nil a ha w) (fun w _ => by kernel_rfl) (by kernel_rfl) ?_
  refine E.G.op (.bool false) (fun w => by kernel_rfl) (by kernel_rfl) ?_
  refine E.G.op (.bool false) (fun w => by kernel_rfl) (by kernel_rfl) ?_
  refine E.G.op (.bool false) (fun w => by kernel_rfl) (by kernel_rfl) ?_
  refine E.G.op (.pointer none) (fun w => by kernel_rfl) (by kernel_rfl) ?_
  refine E.G.op (.int .u32 ((a : Nat) : Int)) (fun w => by kernel_rfl) (by kernel_rfl) ?_
  refine E.G.call (.int .u8 0) (fun w h => Code_nil a ha w) (fun w _ => by kernel_rfl) (by kernel_rfl) ?_
  refine E.G.op (.bool false) (fun w => by kernel_rfl) (by kernel_rfl) ?_
  refine E.G.op (.bool false) (fun w => by kernel_rfl) (by kernel_rfl) ?_
  refine E.G.op (.bool false) (fun w => by kernel_rfl) (by kernel_rfl) ?_
  refine E.G.op (.pointer none) (fun w => by kernel_rfl) (by kernel_rfl) ?_
  refine E.G.call (.int .i64 0) (fun w h => Rights_nil w) (fun w _ => by kernel_rfl) (by kernel_rfl) ?_
  refine E.G.op (.bool false) (fun w => by kernel_rfl) (by kernel_rfl) ?_
  refine E.G.op (.bool false) (fun w => by kernel_rfl) (by kernel_rfl) ?_
  refine E.G.op (.bool false) (fun w => by kernel_rfl) (by kernel_rfl) ?_
  refine E.G.op (.pointer none) (fun w => by kernel_rfl) (by kernel_rfl) ?_
  refine E.G.call (.slice none 0 0) (fun w h => Dirty_nil w) (fun w _ => by kernel_rfl) (by kernel_rfl) ?_
  refine E.G.op (.int .i64 0) (fun w => by kernel_rfl) (by kernel_rfl) ?_
  refine E.G.op (.bool false) (fun w => by kernel_rfl) (by kernel_rfl) ?_
  refine E.G.op (.bool false) (fun w => by kernel_rfl) (by kernel_rfl) ?_
  refine E.G.op (.bool false) (fun w => by kernel_rfl) (by kernel_rfl) ?_
  refine E.G.op (.pointer none) (fun w => by kernel_rfl) (by kernel_rfl) ?_
  refine A.G.call (I := Nat) (D := fun m3 => True) (V := fun m3 => .pointer (some ⟨m3, 0, none⟩)) (q := fun m3 => [M.It m3 M.Z ([])]) [A.blk g2 ([.pointer none, .pointer (some ⟨g1, 0, none⟩)]), M.It g1 M.Z ([])] (fun m3 => [(g2, [.pointer none, .pointer (some ⟨g1, 0, none⟩)])]) (fun m3 => [M.It m3 M.Z ([]), M.It g1 M.Z ([])]) (A_New 0 false) (by kernel_rfl) (A.pm [0, 1] (by kernel_rfl) (by kernel_rfl)) (fun m3 => A.pm [1, 0, 2] (by kernel_rfl) (by kernel_rfl)) (fun w _ => by kernel_rfl) (by kernel_rfl) (fun m3 hd4 => ?_)
  refine E.G.call (.bool true) (fun w h => A.call_rd [A.blk g2 ([.pointer none, .pointer (some ⟨g1, 0, none⟩)]), M.It g1 M.Z ([])] (Nil_Equal0 (m := m3)) h (by kernel_rfl) (A.pm [1, 0, 2] (by kernel_rfl) (by kernel_rfl))) (fun w _ => by kernel_rfl) (by kernel_rfl) ?_
  refine E.G.op (.bool false) (fun w => by kernel_rfl) (by kernel_rfl) ?_
  refine E.G.op (.bool false) (fun w => by kernel_rfl) (by kernel_rfl) ?_
  refine E.G.op (.bool false) (fun w => by kernel_rfl) (by kernel_rfl) ?_
  refine E.G.op (.pointer none) (fun w => by kernel_rfl) (by kernel_rfl) ?_
  refine A.G.call (I := Nat) (D := fun m5 => True) (V := fun m5 => .pointer (some ⟨m5, 0, none⟩)) (q := fun m5 => [M.It m5 M.Z ([])]) [A.blk g2 ([.pointer none, .pointer (some ⟨g1, 0, none⟩)]), M.It m3 M.Z ([]), M.It g1 M.Z ([])] (fun m5 => [(g2, [.pointer none, .pointer (some ⟨g1, 0, none⟩)])]) (fun m5 => [M.It m5 M.Z ([]), M.It m3 M.Z ([]), M.It g1 M.Z ([])]) (Nil_Snapshot) (by kernel_rfl) (A.pm [0, 1, 2] (by kernel_rfl) (by kernel_rfl)) (fun m5 => A.pm [1, 0, 2, 3] (by kernel_rfl) (by kernel_rfl)) (fun w _ => by kernel_rfl) (by kernel_rfl) (fun m5 hd6 => ?_)
  refine E.G.op (.pointer none) (fun w => by kernel_rfl) (by kernel_rfl) ?_
  refine E.G.call (.bool true) (fun w h => A.call_rd [A.blk g2 ([.pointer none, .pointer (some ⟨g1, 0, none⟩)]), M.It m3 M.Z ([]), M.It g1 M.Z ([])] (Nil_Equal1 (m := m5)) h (by kernel_rfl) (A.pm [1, 0, 2, 3] (by kernel_rfl) (by kernel_rfl))) (fun w _ => by kernel_rfl) (by kernel_rfl) ?_
  refine E.G.op (.bool false) (fun w => by kernel_rfl) (by kernel_rfl) ?_
  refine E.G.op (.bool false) (fun w => by kernel_rfl) (by kernel_rfl) ?_
  refine E.To.code ?_
  refine E.C.condF (by kernel_rfl) (by kernel_rfl) ?_
  refine E.C.skip (E.P.nb (E.To.code ?_))
  refine E.C.region ?_
  refine E.G.op (.int .i64 0) (fun w => by kernel_rfl) (by kernel_rfl) ?_
  refine E.G.op (.int .i64 1) (fun w => by kernel_rfl) (by kernel_rfl) ?_
  refine E.G.op (.int .i64 1) (fun w => by kernel_rfl) (by kernel_rfl) ?_
  refine E.To.rounds 1 ?_
  refine E.C.weak [(0, .int .u32 ((a : Nat) : Int)), (1, .int .i64 n), (4, .bool false), (5, .bool true), (7, .pointer (some ⟨g2, 0, none⟩)), (8, .int .i64 1), (9, .pointer none), (11, .int .u32 ((a : Nat) : Int)), (12, .bool false), (13, .int .u32 ((a : Nat) : Int)), (14, .bool false), (16, .bool false), (22, .int .i64 0), (23, .bool true), (24, .int .i64 0), (25, .int .i64 1), (26, .int .i64 0), (27, .pointer (some ⟨g2, 0, none⟩)), (28, .pointer none), (29, .pointer none), (30, .int .u32 ((a : Nat) : Int)), (32, .pointer none), (34, .pointer none), (36, .pointer none), (38, .tuple #[.int .u32 0, .int .u32 ((a : Nat) : Int), .bool false]), (39, .pointer none), (40, .int .u32 ((a : Nat) : Int)), (41, .int .i64 n), (42, .tuple #[.int .u32 0, .int .u32 ((a : Nat) : Int), .bool false]), (43, .int .u32 0), (44, .int .u32 ((a : Nat) : Int)), (45, .bool false), (46, .tuple #[.int .u32 ((a : Nat) : Int), .bool false]), (47, .pointer none), (48, .int .u32 ((a : Nat) : Int)), (49, .int .i64 n), (50, .tuple #[.int .u32 ((a : Nat) : Int), .bool false]), (51, .int .u32 ((a : Nat) : Int)), (52, .bool false), (53, .tuple #[.int .u8 0, .bool false]), (54, .pointer none), (55, .int .u32 ((a : Nat) : Int)), (56, .tuple #[.int .u8 0, .bool false]), (57, .int .u8 0), (58, .bool false), (59, .int .u32 ((a : Nat) : Int)), (60, .int .u32 ((a : Nat) : Int)), (61, .bool false), (62, .bool false), (63, .bool false), (64, .bool false), (65, .bool false), (66, .int .u32 ((a : Nat) : Int)), (67, .int .u32 ((a : Nat) : Int)), (68, .bool false), (69, .bool false), (70, .bool false), (71, .bool false), (72, .bool false), (73, .bool false), (74, .bool false), (75, .bool false), (76, .bool false), (77, .pointer none), (78, .int .u32 ((a : Nat) : Int)), (79, .bool false), (80, .bool false), (81, .bool false), (82, .pointer none), (83, .int .i64 0), (84, .bool false), (85, .bool false), (86, .bool false), (87, .pointer none), (88, .int .u32 ((a : Nat) : Int)), (89, .int .u8 0), (90, .bool false), (91, .bool false), (92, .bool false), (93, .pointer none), (94, .int .u32 ((a : Nat) : Int)), (95, .int .u8 0), (96, .bool false), (97, .bool false), (98, .bool false), (99, .pointer none), (100, .int .i64 0), (101, .bool false), (102, .bool false), (103, .bool false), (104, .pointer none), (105, .slice none 0 0), (106, .int .i64 0), (107, .bool false), (108, .bool false), (109, .bool false), (110, .pointer none), (111, .pointer (some ⟨m3, 0, none⟩)), (112, .bool true), (113, .bool false), (114, .bool false), (115, .bool false), (116, .pointer none), (117, .pointer (some ⟨m5, 0, none⟩)), (118, .pointer none), (119, .bool true), (120, .bool false), (121, .bool false)] [(g2, [.pointer none, .pointer (some ⟨g1, 0, none⟩)])] ⟨by kernel_rfl, by kernel_rfl⟩ (List.Sublist.refl _) ?_
  refine E.C.seq ?_
  refine E.C.seq ?_
  refine E.C.region ?_
  refine E.G.op (.int .i64 1) (fun w => by kernel_rfl) (by kernel_rfl) ?_
  refine E.G.op (.bool true) (fun w => by kernel_rfl) (by kernel_rfl) ?_
  refine E.To.code ?_
  refine E.C.condT (by kernel_rfl) (by kernel_rfl) ?_
  refine E.C.skip (E.To.code ?_)
  refine E.C.seq ?_
  refine E.C.block ?_
  refine E.C.seq ?_
  refine E.C.region ?_
  refine E.G.op (.int .i64 1) (fun w => by kernel_rfl) (by kernel_rfl) ?_
  refine E.G.op (.pointer (some ⟨g2, 1, none⟩)) (fun w => by kernel_rfl) (by kernel_rfl) ?_
  refine E.G.val (.pointer (some ⟨g1, 0, none⟩)) (by kernel_rfl) (fun w h => E.run_load h 0 rfl rfl (by kernel_rfl)) ?_
  refine E.G.op (.pointer (some ⟨g1, 0, none⟩)) (fun w => by kernel_rfl) (by kernel_rfl) ?_
  refine E.To.code ?_
  refine E.C.seq ?_
  refine E.C.region ?_
  refine E.G.op (.pointer (some ⟨g1, 0, none⟩)) (fun w => by kernel_rfl) (by kernel_rfl) ?_
  refine E.G.op (.int .u32 ((a : Nat) : Int)) (fun w => by kernel_rfl) (by kernel_rfl) ?_
  refine A.G.call (I := Unit) (D := fun _ => True) (V := fun _ => .tuple #[]) (q := fun _ => [M.It g1 M.Z ([])]) [A.blk g2 ([.pointer none, .pointer (some ⟨g1, 0, none⟩)]), M.It m5 M.Z ([]), M.It m3 M.Z ([])] (fun _ => [(g2, [.pointer none, .pointer (some ⟨g1, 0, none⟩)])]) (fun _ => [M.It g1 M.Z ([]), M.It m5 M.Z ([]), M.It m3 M.Z ([])]) (Z_Poke (g := g1) a ha) (by kernel_rfl) (A.pm [3, 0, 1, 2] (by kernel_rfl) (by kernel_rfl)) (fun _ => A.pm [1, 0, 2, 3] (by kernel_rfl) (by kernel_rfl)) (fun w _ => by kernel_rfl) (by kernel_rfl) (fun _ hd7 => ?_)
  refine E.To.code ?_
  refine E.C.seq ?_
  refine E.C.region ?_
  refine E.G.op (.pointer (some ⟨g1, 0, none⟩)) (fun w => by kernel_rfl) (by kernel_rfl) ?_
  refine A.G.call (I := Unit) (D := fun _ => True) (V := fun _ => .tuple #[]) (q := fun _ => [M.It g1 M.Z ([])]) [A.blk g2 ([.pointer none, .pointer (some ⟨g1, 0, none⟩)]), M.It m5 M.Z ([]), M.It m3 M.Z ([])] (fun _ => [(g2, [.pointer none, .pointer (some ⟨g1, 0, none⟩)])]) (fun _ => [M.It g1 M.Z ([]), M.It m5 M.Z ([]), M.It m3 M.Z ([])]) (Z_SetCode (g := g1) (⟨#[120]⟩ : ByteArray)) (by kernel_rfl) (A.pm [1, 0, 2, 3] (by kernel_rfl) (by kernel_rfl)) (fun _ => A.pm [1, 0, 2, 3] (by kernel_rfl) (by kernel_rfl)) (fun w _ => by kernel_rfl) (by kernel_rfl) (fun _ hd8 => ?_)
  refine E.To.code ?_
  refine E.C.seq ?_
  refine E.C.region ?_
  refine E.G.op (.pointer (some ⟨g1, 0, none⟩)) (fun w => by kernel_rfl) (by kernel_rfl) ?_
  refine A.G.call (I := Unit) (D := fun _ => True) (V := fun _ => .tuple #[]) (q := fun _ => [M.It g1 M.Z ([])]) [A.blk g2 ([.pointer none, .pointer (some ⟨g1, 0, none⟩)]), M.It m5 M.Z ([]), M.It m3 M.Z ([])] (fun _ => [(g2, [.pointer none, .pointer (some ⟨g1, 0, none⟩)])]) (fun _ => [M.It g1 M.Z ([]), M.It m5 M.Z ([]), M.It m3 M.Z ([])]) (Z_Protect (g := g1)) (by kernel_rfl) (A.pm [1, 0, 2, 3] (by kernel_rfl) (by kernel_rfl)) (fun _ => A.pm [1, 0, 2, 3] (by kernel_rfl) (by kernel_rfl)) (fun w _ => by kernel_rfl) (by kernel_rfl) (fun _ hd9 => ?_)
  refine E.To.code ?_
  refine E.C.seq ?_
  refine E.C.region ?_
  refine E.G.op (.pointer (some ⟨g1, 0, none⟩)) (fun w => by kernel_rfl) (by kernel_rfl) ?_
  refine A.G.call (I := Unit) (D := fun _ => True) (V := fun _ => .tuple #[]) (q := fun _ => [M.It g1 M.Z ([])]) [A.blk g2 ([.pointer none, .pointer (some ⟨g1, 0, none⟩)]), M.It m5 M.Z ([]), M.It m3 M.Z ([])] (fun _ => [(g2, [.pointer none, .pointer (some ⟨g1, 0, none⟩)])]) (fun _ => [M.It g1 M.Z ([]), M.It m5 M.Z ([]), M.It m3 M.Z ([])]) (Z_Clean (g := g1)) (by kernel_rfl) (A.pm [1, 0, 2, 3] (by kernel_rfl) (by kernel_rfl)) (fun _ => A.pm [1, 0, 2, 3] (by kernel_rfl) (by kernel_rfl)) (fun w _ => by kernel_rfl) (by kernel_rfl) (fun _ hd10 => ?_)
  refine E.To.code ?_
  refine E.C.seq ?_
  refine E.C.region ?_
  refine E.G.op (.pointer (some ⟨g1, 0, none⟩)) (fun w => by kernel_rfl) (by kernel_rfl) ?_
  refine E.G.op (.int .u32 ((a : Nat) : Int)) (fun w => by kernel_rfl) (by kernel_rfl) ?_
  refine E.G.op (.int .i64 n) (fun w => by kernel_rfl) (by kernel_rfl) ?_
  refine E.G.call (.tuple #[.int .u32 0, .int .u32 ((a : Nat) : Int), .bool false]) (fun w h => A.call_rd [A.blk g2 ([.pointer none, .pointer (some ⟨g1, 0, none⟩)]), M.It m5 M.Z ([]), M.It m3 M.Z ([])] (Z_Load (g := g1) a ha n) h (by kernel_rfl) (A.pm [1, 0, 2, 3] (by kernel_rfl) (by kernel_rfl))) (fun w _ => by kernel_rfl) (by kernel_rfl) ?_
  refine E.G.op (.tuple #[.int .u32 0, .int .u32 ((a : Nat) : Int), .bool false]) (fun w => by kernel_rfl) (by kernel_rfl) ?_
  refine E.G.op (.int .u32 0) (fun w => by kernel_rfl) (by kernel_rfl) ?_
  refine E.G.op (.int .u32 ((a : Nat) : Int)) (fun w => by kernel_rfl) (by kernel_rfl) ?_
  refine E.G.op (.bool false) (fun w => by kernel_rfl) (by kernel_rfl) ?_
  refine E.G.op (.int .u32 0) (fun w => by kernel_rfl) (by kernel_rfl) ?_
  refine E.G.op (.int .u32 ((a : Nat) : Int)) (fun w => by kernel_rfl) (by kernel_rfl) ?_
  refine E.G.op (.bool false) (fun w => by kernel_rfl) (by kernel_rfl) ?_
  refine E.To.code ?_
  refine E.C.seq ?_
  refine E.C.region ?_
  refine E.G.op (.pointer (some ⟨g1, 0, none⟩)) (fun w => by kernel_rfl) (by kernel_rfl) ?_
  refine E.G.op (.int .u32 ((a : Nat) : Int)) (fun w => by kernel_rfl) (by kernel_rfl) ?_
  refine E.G.op (.int .i64 n) (fun w => by kernel_rfl) (by kernel_rfl) ?_
  refine A.G.call (I := Unit) (D := fun _ => True) (V := fun _ => .tuple #[.int .u32 ((a : Nat) : Int), .bool false]) (q := fun _ => [M.It g1 M.Z ([])]) [A.blk g2 ([.pointer none, .pointer (some ⟨g1, 0, none⟩)]), M.It m5 M.Z ([]), M.It m3 M.Z ([])] (fun _ => [(g2, [.pointer none, .pointer (some ⟨g1, 0, none⟩)])]) (fun _ => [M.It g1 M.Z ([]), M.It m5 M.Z ([]), M.It m3 M.Z ([])]) (Z_Store (g := g1) a ha n 1) (by kernel_rfl) (A.pm [1, 0, 2, 3] (by kernel_rfl) (by kernel_rfl)) (fun _ => A.pm [1, 0, 2, 3] (by kernel_rfl) (by kernel_rfl)) (fun w _ => by kernel_rfl) (by kernel_rfl) (fun _ hd11 => ?_)
  refine E.G.op (.tuple #[.int .u32 ((a : Nat) : Int), .bool false]) (fun w => by kernel_rfl) (by kernel_rfl) ?_
  refine E.G.op (.int .u32 ((a : Nat) : Int)) (fun w => by kernel_rfl) (by kernel_rfl) ?_
  refine E.G.op (.bool false) (fun w => by kernel_rfl) (by kernel_rfl) ?_
  refine E.G.op (.int .u32 ((a : Nat) : Int)) (fun w => by kernel_rfl) (by kernel_rfl) ?_
  refine E.G.op (.bool false) (fun w => by kernel_rfl) (by kernel_rfl) ?_
  refine E.To.code ?_
  refine E.C.seq ?_
  refine E.C.region ?_
  refine E.G.op (.pointer (some ⟨g1, 0, none⟩)) (fun w => by kernel_rfl) (by kernel_rfl) ?_
  refine E.G.op (.int .u32 ((a : Nat) : Int)) (fun w => by kernel_rfl) (by kernel_rfl) ?_
  refine E.G.call (.tuple #[.int .u8 0, .bool false]) (fun w h => A.call_rd [A.blk g2 ([.pointer none, .pointer (some ⟨g1, 0, none⟩)]), M.It m5 M.Z ([]), M.It m3 M.Z ([])] (M.rdAs (A_Fetch a ha (m := g1) (V := M.Z) (xs := [])) (v' := .tuple #[.int .u8 0, .bool false]) rfl) h (by kernel_rfl) (A.pm [1, 0, 2, 3] (by kernel_rfl) (by kernel_rfl))) (fun w _ => by kernel_rfl) (by kernel_rfl) ?_
  refine E.G.op (.tuple #[.int .u8 0, .bool false]) (fun w => by kernel_rfl) (by kernel_rfl) ?_
  refine E.G.op (.int .u8 0) (fun w => by kernel_rfl) (by kernel_rfl) ?_
  refine E.G.op (.bool false) (fun w => by kernel_rfl) (by kernel_rfl) ?_
  refine E.G.op (.int .u8 0) (fun w => by kernel_rfl) (by kernel_rfl) ?_
  refine E.G.op (.bool false) (fun w => by kernel_rfl) (by kernel_rfl) ?_
  refine E.To.code ?_
  refine E.C.seq ?_
  refine E.C.region ?_
  refine E.G.op (.int .u32 ((a : Nat) : Int)) (fun w => by kernel_rfl) (by kernel_rfl) ?_
  refine E.G.op (.int .u32 ((a : Nat) : Int)) (fun w => by kernel_rfl) (by kernel_rfl) ?_
  refine E.G.val (.bool false) (by kernel_rfl) (fun w h => E.run_as (a := .bool (((a : Nat) : Int) != ((a : Nat) : Int))) (by kernel_rfl) (congrArg Value.bool (bne_self_eq_false _))) ?_
  refine E.G.op (.bool false) (fun w => by kernel_rfl) (by kernel_rfl) ?_
  refine E.G.op (.bool false) (fun w => by kernel_rfl) (by kernel_rfl) ?_
  refine E.G.op (.bool false) (fun w => by kernel_rfl) (by kernel_rfl) ?_
  refine E.G.op (.bool false) (fun w => by kernel_rfl) (by kernel_rfl) ?_
  refine E.G.op (.int .u32 ((a : Nat) : Int)) (fun w => by kernel_rfl) (by kernel_rfl) ?_
  refine E.G.op (.int .u32 ((a : Nat) : Int)) (fun w => by kernel_rfl) (by kernel_rfl) ?_
  refine E.G.val (.bool false) (by kernel_rfl) (fun w h => E.run_as (a := .bool (((a : Nat) : Int) != ((a : Nat) : Int))) (by kernel_rfl) (congrArg Value.bool (bne_self_eq_false _))) ?_
  refine E.G.op (.bool false) (fun w => by kernel_rfl) (by kernel_rfl) ?_
  refine E.G.op (.bool false) (fun w => by kernel_rfl) (by kernel_rfl) ?_
  refine E.G.op (.bool false) (fun w => by kernel_rfl) (by kernel_rfl) ?_
  refine E.G.op (.bool false) (fun w => by kernel_rfl) (by kernel_rfl) ?_
  refine E.G.op (.bool false) (fun w => by kernel_rfl) (by kernel_rfl) ?_
  refine E.G.op (.bool false) (fun w => by kernel_rfl) (by kernel_rfl) ?_
  refine E.G.op (.bool false) (fun w => by kernel_rfl) (by kernel_rfl) ?_
  refine E.G.op (.bool false) (fun w => by kernel_rfl) (by kernel_rfl) ?_
  refine E.G.op (.pointer (some ⟨g1, 0, none⟩)) (fun w => by kernel_rfl) (by kernel_rfl) ?_
  refine E.G.op (.int .u32 ((a : Nat) : Int)) (fun w => by kernel_rfl) (by kernel_rfl) ?_
  refine A.G.call (I := Unit) (D := fun _ => True) (V := fun _ => .bool false) (q := fun _ => [M.It g1 M.Z ([])]) [A.blk g2 ([.pointer none, .pointer (some ⟨g1, 0, none⟩)]), M.It m5 M.Z ([]), M.It m3 M.Z ([])] (fun _ => [(g2, [.pointer none, .pointer (some ⟨g1, 0, none⟩)])]) (fun _ => [M.It g1 M.Z ([]), M.It m5 M.Z ([]), M.It m3 M.Z ([])]) (Z_Sync (g := g1) a ha) (by kernel_rfl) (A.pm [1, 0, 2, 3] (by kernel_rfl) (by kernel_rfl)) (fun _ => A.pm [1, 0, 2, 3] (by kernel_rfl) (by kernel_rfl)) (fun w _ => by kernel_rfl) (by kernel_rfl) (fun _ hd12 => ?_)
  refine E.G.op (.bool false) (fun w => by kernel_rfl) (by kernel_rfl) ?_
  refine E.G.op (.bool false) (fun w => by kernel_rfl) (by kernel_rfl) ?_
  refine E.G.op (.pointer (some ⟨g1, 0, none⟩)) (fun w => by kernel_rfl) (by kernel_rfl) ?_
  refine E.G.call (.int .i64 0) (fun w h => A.call_rd [A.blk g2 ([.pointer none, .pointer (some ⟨g1, 0, none⟩)]), M.It m5 M.Z ([]), M.It m3 M.Z ([])] (M.rdAs (A_Pages (m := g1) (V := M.Z) (xs := [])) (v' := .int .i64 0) rfl) h (by kernel_rfl) (A.pm [1, 0, 2, 3] (by kernel_rfl) (by kernel_rfl))) (fun w _ => by kernel_rfl) (by kernel_rfl) ?_
  refine E.G.op (.bool false) (fun w => by kernel_rfl) (by kernel_rfl) ?_
  refine E.G.op (.bool false) (fun w => by kernel_rfl) (by kernel_rfl) ?_
  refine E.G.op (.bool false) (fun w => by kernel_rfl) (by kernel_rfl) ?_
  refine E.G.op (.pointer (some ⟨g1, 0, none⟩)) (fun w => by kernel_rfl) (by kernel_rfl) ?_
  refine E.G.op (.int .u32 ((a : Nat) : Int)) (fun w => by kernel_rfl) (by kernel_rfl) ?_
  refine E.G.call (.int .u8 0) (fun w h => A.call_rd [A.blk g2 ([.pointer none, .pointer (some ⟨g1, 0, none⟩)]), M.It m5 M.Z ([]), M.It m3 M.Z ([])] (M.rdAs (A_Peek a ha (m := g1) (V := M.Z) (xs := [])) (v' := .int .u8 0) rfl) h (by kernel_rfl) (A.pm [1, 0, 2, 3] (by kernel_rfl) (by kernel_rfl))) (fun w _ => by kernel_rfl) (by kernel_rfl) ?_
  refine E.G.op (.bool false) (fun w => by kernel_rfl) (by kernel_rfl) ?_
  refine E.G.op (.bool false) (fun w => by kernel_rfl) (by kernel_rfl) ?_
  refine E.G.op (.bool false) (fun w => by kernel_rfl) (by kernel_rfl) ?_
  refine E.G.op (.pointer (some ⟨g1, 0, none⟩)) (fun w => by kernel_rfl) (by kernel_rfl) ?_
  refine E.G.op (.int .u32 ((a : Nat) : Int)) (fun w => by kernel_rfl) (by kernel_rfl) ?_
  refine E.G.call (.int .u8 0) (fun w h => A.call_rd [A.blk g2 ([.pointer none, .pointer (some ⟨g1, 0, none⟩)]), M.It m5 M.Z ([]), M.It m3 M.Z ([])] (M.rdAs (A_Code a ha (m := g1) (V := M.Z) (xs := [])) (v' := .int .u8 0) rfl) h (by kernel_rfl) (A.pm [1, 0, 2, 3] (by kernel_rfl) (by kernel_rfl))) (fun w _ => by kernel_rfl) (by kernel_rfl) ?_
  refine E.G.op (.bool false) (fun w => by kernel_rfl) (by kernel_rfl) ?_
  refine E.G.op (.bool false) (fun w => by kernel_rfl) (by kernel_rfl) ?_
  refine E.G.op (.bool false) (fun w => by kernel_rfl) (by kernel_rfl) ?_
  refine E.G.op (.pointer (some ⟨g1, 0, none⟩)) (fun w => by kernel_rfl) (by kernel_rfl) ?_
  refine E.G.call (.int .i64 0) (fun w h => A.call_rd [A.blk g2 ([.pointer none, .pointer (some ⟨g1, 0, none⟩)]), M.It m5 M.Z ([]), M.It m3 M.Z ([])] (M.rdAs (A_Rights 0 (m := g1) (V := M.Z) (xs := [])) (v' := .int .i64 0) rfl) h (by kernel_rfl) (A.pm [1, 0, 2, 3] (by kernel_rfl) (by kernel_rfl))) (fun w _ => by kernel_rfl) (by kernel_rfl) ?_
  refine E.G.op (.bool false) (fun w => by kernel_rfl) (by kernel_rfl) ?_
  refine E.G.op (.bool false) (fun w => by kernel_rfl) (by kernel_rfl) ?_
  refine E.G.op (.bool false) (fun w => by kernel_rfl) (by kernel_rfl) ?_
  refine E.G.op (.pointer (some ⟨g1, 0, none⟩)) (fun w => by kernel_rfl) (by kernel_rfl) ?_
  refine A.G.call (I := Option Addr × Nat) (D := fun i13 => True) (V := fun i13 => .slice i13.1 0 i13.2) (q := fun i13 => [M.It g1 M.Z ([])]) [A.blk g2 ([.pointer none, .pointer (some ⟨g1, 0, none⟩)]), M.It m5 M.Z ([]), M.It m3 M.Z ([])] (fun i13 => [(g2, [.pointer none, .pointer (some ⟨g1, 0, none⟩)])]) (fun i13 => [M.It g1 M.Z ([]), M.It m5 M.Z ([]), M.It m3 M.Z ([])]) (Z_Dirty (g := g1)) (by kernel_rfl) (A.pm [1, 0, 2, 3] (by kernel_rfl) (by kernel_rfl)) (fun i13 => A.pm [1, 0, 2, 3] (by kernel_rfl) (by kernel_rfl)) (fun w _ => by kernel_rfl) (by kernel_rfl) (fun i13 hd14 => ?_)
  refine E.G.op (.int .i64 0) (fun w => by kernel_rfl) (by kernel_rfl) ?_
  refine E.G.op (.bool false) (fun w => by kernel_rfl) (by kernel_rfl) ?_
  refine E.G.op (.bool false) (fun w => by kernel_rfl) (by kernel_rfl) ?_
  refine E.G.op (.bool false) (fun w => by kernel_rfl) (by kernel_rfl) ?_
  refine E.G.op (.pointer (some ⟨g1, 0, none⟩)) (fun w => by kernel_rfl) (by kernel_rfl) ?_
  refine A.G.call (I := Nat) (D := fun m15 => True) (V := fun m15 => .pointer (some ⟨m15, 0, none⟩)) (q := fun m15 => [M.It m15 M.Z ([])]) [A.blk g2 ([.pointer none, .pointer (some ⟨g1, 0, none⟩)]), M.It g1 M.Z ([]), M.It m5 M.Z ([]), M.It m3 M.Z ([])] (fun m15 => [(g2, [.pointer none, .pointer (some ⟨g1, 0, none⟩)])]) (fun m15 => [M.It m15 M.Z ([]), M.It g1 M.Z ([]), M.It m5 M.Z ([]), M.It m3 M.Z ([])]) (A_New 0 false) (by kernel_rfl) (A.pm [0, 1, 2, 3] (by kernel_rfl) (by kernel_rfl)) (fun m15 => A.pm [1, 0, 2, 3, 4] (by kernel_rfl) (by kernel_rfl)) (fun w _ => by kernel_rfl) (by kernel_rfl) (fun m15 hd16 => ?_)
  refine E.G.call (.bool true) (fun w h => A.call_rd [A.blk g2 ([.pointer none, .pointer (some ⟨g1, 0, none⟩)]), M.It m5 M.Z ([]), M.It m3 M.Z ([])] (M.rdAs (A_Equal (m := g1) (n := m15) (V := M.Z) (W := M.Z) (xs := []) (ys := [])) (v' := .bool true) (congrArg Value.bool (by kernel_rfl))) h (by kernel_rfl) (A.pm [2, 1, 0, 3, 4] (by kernel_rfl) (by kernel_rfl))) (fun w _ => by kernel_rfl) (by kernel_rfl) ?_
  refine E.G.op (.bool false) (fun w => by kernel_rfl) (by kernel_rfl) ?_
  refine E.G.op (.bool false) (fun w => by kernel_rfl) (by kernel_rfl) ?_
  refine E.G.op (.bool false) (fun w => by kernel_rfl) (by kernel_rfl) ?_
  refine E.G.op (.pointer (some ⟨g1, 0, none⟩)) (fun w => by kernel_rfl) (by kernel_rfl) ?_
  refine A.G.call (I := Nat) (D := fun m17 => True) (V := fun m17 => .pointer (some ⟨m17, 0, none⟩)) (q := fun m17 => [M.It g1 M.Z ([]), M.It m17 M.Z ([])]) [A.blk g2 ([.pointer none, .pointer (some ⟨g1, 0, none⟩)]), M.It m15 M.Z ([]), M.It m5 M.Z ([]), M.It m3 M.Z ([])] (fun m17 => [(g2, [.pointer none, .pointer (some ⟨g1, 0, none⟩)])]) (fun m17 => [M.It g1 M.Z ([]), M.It m17 M.Z ([]), M.It m15 M.Z ([]), M.It m5 M.Z ([]), M.It m3 M.Z ([])]) (A_Snapshot (m := g1) (V := M.Z) (xs := [])) (by kernel_rfl) (A.pm [2, 0, 1, 3, 4] (by kernel_rfl) (by kernel_rfl)) (fun m17 => A.pm [2, 0, 1, 3, 4, 5] (by kernel_rfl) (by kernel_rfl)) (fun w _ => by kernel_rfl) (by kernel_rfl) (fun m17 hd18 => ?_)
  refine E.G.op (.pointer (some ⟨g1, 0, none⟩)) (fun w => by kernel_rfl) (by kernel_rfl) ?_
  refine E.G.call (.bool true) (fun w h => A.call_rd [A.blk g2 ([.pointer none, .pointer (some ⟨g1, 0, none⟩)]), M.It m15 M.Z ([]), M.It m5 M.Z ([]), M.It m3 M.Z ([])] (M.rdAs (A_Equal (m := m17) (n := g1) (V := M.Z) (W := M.Z) (xs := []) (ys := [])) (v' := .bool true) (congrArg Value.bool (by kernel_rfl))) h (by kernel_rfl) (A.pm [2, 1, 0, 3, 4, 5] (by kernel_rfl) (by kernel_rfl))) (fun w _ => by kernel_rfl) (by kernel_rfl) ?_
  refine E.G.op (.bool false) (fun w => by kernel_rfl) (by kernel_rfl) ?_
  refine E.G.op (.bool false) (fun w => by kernel_rfl) (by kernel_rfl) ?_
  refine E.To.code ?_
  refine E.C.condF (by kernel_rfl) (by kernel_rfl) ?_
  refine E.C.skip (E.P.nb (E.To.code ?_))
  refine E.C.region ?_
  refine E.G.op (.int .i64 1) (fun w => by kernel_rfl) (by kernel_rfl) ?_
  refine E.G.op (.int .i64 2) (fun w => by kernel_rfl) (by kernel_rfl) ?_
  refine E.G.op (.int .i64 2) (fun w => by kernel_rfl) (by kernel_rfl) ?_
  refine E.To.rounds 0 ?_
  refine E.C.weak [(0, .int .u32 ((a : Nat) : Int)), (1, .int .i64 n), (4, .bool false), (5, .bool true), (7, .pointer (some ⟨g2, 0, none⟩)), (8, .int .i64 2), (9, .pointer (some ⟨g1, 0, none⟩)), (11, .int .u32 ((a : Nat) : Int)), (12, .bool false), (13, .int .u32 ((a : Nat) : Int)), (14, .bool false), (16, .bool false), (22, .int .i64 1), (23, .bool true), (24, .int .i64 1), (25, .int .i64 2), (26, .int .i64 1), (27, .pointer (some ⟨g2, 1, none⟩)), (28, .pointer (some ⟨g1, 0, none⟩)), (29, .pointer (some ⟨g1, 0, none⟩)), (30, .int .u32 ((a : Nat) : Int)), (32, .pointer (some ⟨g1, 0, none⟩)), (34, .pointer (some ⟨g1, 0, none⟩)), (36, .pointer (some ⟨g1, 0, none⟩)), (38, .tuple #[.int .u32 0, .int .u32 ((a : Nat) : Int), .bool false]), (39, .pointer (some ⟨g1, 0, none⟩)), (40, .int .u32 ((a : Nat) : Int)), (41, .int .i64 n), (42, .tuple #[.int .u32 0, .int .u32 ((a : Nat) : Int), .bool false]), (43, .int .u32 0), (44, .int .u32 ((a : Nat) : Int)), (45, .bool false), (46, .tuple #[.int .u32 ((a : Nat) : Int), .bool false]), (47, .pointer (some ⟨g1, 0, none⟩)), (48, .int .u32 ((a : Nat) : Int)), (49, .int .i64 n), (50, .tuple #[.int .u32 ((a : Nat) : Int), .bool false]), (51, .int .u32 ((a : Nat) : Int)), (52, .bool false), (53, .tuple #[.int .u8 0, .bool false]), (54, .pointer (some ⟨g1, 0, none⟩)), (55, .int .u32 ((a : Nat) : Int)), (56, .tuple #[.int .u8 0, .bool false]), (57, .int .u8 0), (58, .bool false), (59, .int .u32 ((a : Nat) : Int)), (60, .int .u32 ((a : Nat) : Int)), (61, .bool false), (62, .bool false), (63, .bool false), (64, .bool false), (65, .bool false), (66, .int .u32 ((a : Nat) : Int)), (67, .int .u32 ((a : Nat) : Int)), (68, .bool false), (69, .bool false), (70, .bool false), (71, .bool false), (72, .bool false), (73, .bool false), (74, .bool false), (75, .bool false), (76, .bool false), (77, .pointer (some ⟨g1, 0, none⟩)), (78, .int .u32 ((a : Nat) : Int)), (79, .bool false), (80, .bool false), (81, .bool false), (82, .pointer (some ⟨g1, 0, none⟩)), (83, .int .i64 0), (84, .bool false), (85, .bool false), (86, .bool false), (87, .pointer (some ⟨g1, 0, none⟩)), (88, .int .u32 ((a : Nat) : Int)), (89, .int .u8 0), (90, .bool false), (91, .bool false), (92, .bool false), (93, .pointer (some ⟨g1, 0, none⟩)), (94, .int .u32 ((a : Nat) : Int)), (95, .int .u8 0), (96, .bool false), (97, .bool false), (98, .bool false), (99, .pointer (some ⟨g1, 0, none⟩)), (100, .int .i64 0), (101, .bool false), (102, .bool false), (103, .bool false), (104, .pointer (some ⟨g1, 0, none⟩)), (105, .slice i13.1 0 i13.2), (106, .int .i64 0), (107, .bool false), (108, .bool false), (109, .bool false), (110, .pointer (some ⟨g1, 0, none⟩)), (111, .pointer (some ⟨m15, 0, none⟩)), (112, .bool true), (113, .bool false), (114, .bool false), (115, .bool false), (116, .pointer (some ⟨g1, 0, none⟩)), (117, .pointer (some ⟨m17, 0, none⟩)), (118, .pointer (some ⟨g1, 0, none⟩)), (119, .bool true), (120, .bool false), (121, .bool false)] [(g2, [.pointer none, .pointer (some ⟨g1, 0, none⟩)])] ⟨by kernel_rfl, by kernel_rfl⟩ (List.Sublist.refl _) ?_
  refine E.C.seq ?_
  refine E.C.seq ?_
  refine E.C.region ?_
  refine E.G.op (.int .i64 2) (fun w => by kernel_rfl) (by kernel_rfl) ?_
  refine E.G.op (.bool false) (fun w => by kernel_rfl) (by kernel_rfl) ?_
  refine E.To.code ?_
  refine E.C.condF (by kernel_rfl) (by kernel_rfl) ?_
  refine E.C.exit (E.P.et (E.P.et (E.P.eh (E.To.code ?_))))
  refine E.C.weak [(4, .bool false), (5, .bool true)] [] ⟨by kernel_rfl, by kernel_rfl⟩ (List.nil_sublist _) ?_
  refine E.C.seq ?_
  refine E.C.region ?_
  refine E.G.op (.bool true) (fun w => by kernel_rfl) (by kernel_rfl) ?_
  refine E.G.op (.bool true) (fun w => by kernel_rfl) (by kernel_rfl) ?_
  refine E.G.op (.bool true) (fun w => by kernel_rfl) (by kernel_rfl) ?_
  refine E.G.op (.bool true) (fun w => by kernel_rfl) (by kernel_rfl) ?_
  refine E.To.code ?_
  refine E.C.ret (E.To.body (fn := Try.f12) [.bool true] ?_ ?_)
  · exact ⟨⟨by kernel_rfl, by kernel_rfl⟩, trivial⟩
  · intro w h
    exact ⟨rfl, h.ch.bel (fun x hx => (hh.1 x hx).elim)⟩
theorem A.Has.nil (w : World) : A.Has [] w (fun _ => False) (fun _ => False) := ⟨fun _ h => h, fun _ h => h⟩
theorem MemNil_law (a n : Int) (ha : 0 ≤ a ∧ a < 4294967296) (hn : -9223372036854775808 ≤ n ∧ n < 9223372036854775808) (w : World) : Calls Try.prog 12 #[.int .u32 a, .int .i64 n] w fun e w' => e = .returned (.bool true) ∧ Bel w w' := by
  obtain ⟨b, rfl⟩ := Int.eq_ofNat_of_zero_le ha.1
  exact MemNil_rd b (by omega) n w _ _ (A.Has.nil w)
end Go.Proofs.Ytdjjjikokfadiaa
