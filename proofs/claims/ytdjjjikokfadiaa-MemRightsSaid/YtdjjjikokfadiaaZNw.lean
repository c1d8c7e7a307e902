/- Walks: MemRights, printed by wip/eng. No condition but what is named. -/
import Derived.Test.YtdjjjikokfadiaaProg
import Derived.Test.YtdjjjikokfadiaaZNv
namespace Go.Proofs.Ytdjjjikokfadiaa
set_option linter.unusedVariables false
set_option linter.unusedSimpArgs false
open Go.RowKit
theorem M.ldc (V : M.V) (a : Nat) (n : Int) : Value.tuple #[.int .u32 (V.load a n).1, .int .u32 (V.load a n).2.1, .bool (V.load a n).2.2] = .tuple #[.int .u32 (V.load a n).1, .int .u32 (V.chk a 1 n).1, .bool (V.chk a 1 n).2] := by
  cases h : (V.chk a 1 n).2 with
  | true => have e : V.load a n = (V.ldv a n.toNat n.toNat, 0, true) := by unfold M.V.load; rw [if_pos h]
            rw [e, R.chk_0 h]
  | false => rw [R.load_f h]
theorem M.al_end {m c : Nat} (h : c ≤ m) (h2 : decide ((((m - c : Nat) : Int) - 1) ≥ 0) = false) : c = m := by
  have := of_decide_eq_false h2
  omega
theorem MemRights_rd (r0 r1 r2 r3 : Int) (h0 : 0 ≤ r0 ∧ r0 < 256) (h1 : 0 ≤ r1 ∧ r1 < 256) (h2 : 0 ≤ r2 ∧ r2 < 256) (h3 : 0 ≤ r3 ∧ r3 < 256) (a s : Nat) (ha : a < 4294967296) (hs : s < 256) : A.Rd Try.prog 3 #[.agg #[.int .u8 r0, .int .u8 r1, .int .u8 r2, .int .u8 r3], .int .u32 ((a : Nat) : Int), .int .u8 ((s : Nat) : Int)] [] (.bool true) := by
  intro w oo aa hh
  refine E.enter (n := 192) (S := oo) Try.func3 rfl rfl (by kernel_rfl) (A.start (L := []) hh) ?_
  refine E.C.seq ?_
  refine E.C.region ?_
  refine E.G.new (fun g => .pointer (some ⟨g, 0, none⟩)) [.int .u8 r0, .int .u8 r1, .int .u8 r2, .int .u8 r3] 22 (fun w => by kernel_rfl) (by kernel_rfl) (fun g1 => ?_)
  refine E.G.val (.bool false) (by kernel_rfl) (fun w h => E.run_as (a := .bool false) (by kernel_rfl) (rfl)) ?_
  refine E.To.code ?_
  refine E.C.seq ?_
  refine E.C.region ?_
  refine E.G.call (.bool true) (fun w h => A.call_rd [A.blk g1 ([.int .u8 r0, .int .u8 r1, .int .u8 r2, .int .u8 r3])] (San) h (by kernel_rfl) (A.pm [0] (by kernel_rfl) (by kernel_rfl))) (fun w _ => by kernel_rfl) (by kernel_rfl) ?_
  refine E.G.op (.bool true) (fun w => by kernel_rfl) (by kernel_rfl) ?_
  refine E.To.code ?_
  refine E.C.seq ?_
  refine E.C.region ?_
  refine A.G.call (I := Nat) (D := fun m2 => True) (V := fun m2 => .pointer (some ⟨m2, 0, none⟩)) (q := fun m2 => [M.It m2 (M.V.new (M.np 4) false) ([])]) [A.blk g1 ([.int .u8 r0, .int .u8 r1, .int .u8 r2, .int .u8 r3])] (fun m2 => [(g1, [.int .u8 r0, .int .u8 r1, .int .u8 r2, .int .u8 r3])]) (fun m2 => [M.It m2 (M.V.new (M.np 4) false) ([])]) (A_New 4 false) (by kernel_rfl) (A.pm [0] (by kernel_rfl) (by kernel_rfl)) (fun m2 => A.pm [1, 0] (by kernel_rfl) (by kernel_rfl)) (fun w _ => by kernel_rfl) (by kernel_rfl) (fun m2 hd3 => ?_)
  refine E.G.op (.pointer (some ⟨m2, 0, none⟩)) (fun w => by kernel_rfl) (by kernel_rfl) ?_
  refine E.To.code ?_
  refine E.C.seq ?_
  refine E.C.seq ?_
  refine E.C.region ?_
  refine E.G.op (.int .i64 0) (fun w => by kernel_rfl) (by kernel_rfl) ?_
  refine E.To.code ?_
  refine E.C.block ?_
  refine E.C.rounds 4 ?_
  refine E.C.seq ?_
  refine E.C.seq ?_
  refine E.C.region ?_
  refine E.G.op (.int .i64 0) (fun w => by kernel_rfl) (by kernel_rfl) ?_
  refine E.G.op (.bool true) (fun w => by kernel_rfl) (by kernel_rfl) ?_
  refine E.To.code ?_
  refine E.C.condT (by kernel_rfl) (by kernel_rfl) ?_
  refine E.C.skip (E.To.code ?_)
  refine E.C.seq ?_
  refine E.C.block ?_
  refine E.C.region ?_
  refine E.G.op (.pointer (some ⟨m2, 0, none⟩)) (fun w => by kernel_rfl) (by kernel_rfl) ?_
  refine E.G.op (.int .i64 0) (fun w => by kernel_rfl) (by kernel_rfl) ?_
  refine E.G.op (.int .i64 0) (fun w => by kernel_rfl) (by kernel_rfl) ?_
  refine E.G.op (.pointer (some ⟨g1, 0, none⟩)) (fun w => by kernel_rfl) (by kernel_rfl) ?_
  refine E.G.val (.int .u8 r0) (by kernel_rfl) (fun w h => E.run_load h 0 rfl rfl (by kernel_rfl)) ?_
  refine E.G.op (.int .i64 (IntKind.wrap .i64 r0)) (fun w => by kernel_rfl) (by kernel_rfl) ?_
  refine A.G.call (I := Unit) (D := fun _ => True) (V := fun _ => .tuple #[]) (q := fun _ => [M.It m2 ((M.V.new (M.np 4) false).prot 0 (IntKind.wrap .i64 r0)) ([])]) [A.blk g1 ([.int .u8 r0, .int .u8 r1, .int .u8 r2, .int .u8 r3])] (fun _ => [(g1, [.int .u8 r0, .int .u8 r1, .int .u8 r2, .int .u8 r3])]) (fun _ => [M.It m2 ((M.V.new (M.np 4) false).prot 0 (IntKind.wrap .i64 r0)) ([])]) (A_Protect 0 (IntKind.wrap .i64 r0) (m := m2) (V := (M.V.new (M.np 4) false)) (xs := [])) (by kernel_rfl) (A.pm [1, 0] (by kernel_rfl) (by kernel_rfl)) (fun _ => A.pm [1, 0] (by kernel_rfl) (by kernel_rfl)) (fun w _ => by kernel_rfl) (by kernel_rfl) (fun _ hd4 => ?_)
  refine E.P.nb (E.To.code ?_)
  refine E.C.region ?_
  refine E.G.op (.int .i64 0) (fun w => by kernel_rfl) (by kernel_rfl) ?_
  refine E.G.op (.int .i64 1) (fun w => by kernel_rfl) (by kernel_rfl) ?_
  refine E.G.op (.int .i64 1) (fun w => by kernel_rfl) (by kernel_rfl) ?_
  refine E.To.rounds 3 ?_
  refine E.C.weak [(1, .int .u32 ((a : Nat) : Int)), (2, .int .u8 ((s : Nat) : Int)), (3, .pointer (some ⟨g1, 0, none⟩)), (6, .bool false), (7, .bool true), (8, .pointer (some ⟨m2, 0, none⟩)), (9, .int .i64 1), (28, .int .i64 0), (29, .bool true), (30, .int .i64 0), (31, .int .i64 1), (32, .pointer (some ⟨m2, 0, none⟩)), (33, .int .i64 0), (34, .int .i64 0), (35, .pointer (some ⟨g1, 0, none⟩)), (36, .int .u8 r0), (37, .int .i64 (IntKind.wrap .i64 r0))] [(g1, [.int .u8 r0, .int .u8 r1, .int .u8 r2, .int .u8 r3])] ⟨by kernel_rfl, by kernel_rfl⟩ (List.Sublist.refl _) ?_
  refine E.C.seq ?_
  refine E.C.seq ?_
  refine E.C.region ?_
  refine E.G.op (.int .i64 1) (fun w => by kernel_rfl) (by kernel_rfl) ?_
  refine E.G.op (.bool true) (fun w => by kernel_rfl) (by kernel_rfl) ?_
  refine E.To.code ?_
  refine E.C.condT (by kernel_rfl) (by kernel_rfl) ?_
  refine E.C.skip (E.To.code ?_)
  refine E.C.seq ?_
  refine E.C.block ?_
  refine E.C.region ?_
  refine E.G.op (.pointer (some ⟨m2, 0, none⟩)) (fun w => by kernel_rfl) (by kernel_rfl) ?_
  refine E.G.op (.int .i64 1) (fun w => by kernel_rfl) (by kernel_rfl) ?_
  refine E.G.op (.int .i64 1) (fun w => by kernel_rfl) (by kernel_rfl) ?_
  refine E.G.op (.pointer (some ⟨g1, 1, none⟩)) (fun w => by kernel_rfl) (by kernel_rfl) ?_
  refine E.G.val (.int .u8 r1) (by kernel_rfl) (fun w h => E.run_load h 0 rfl rfl (by kernel_rfl)) ?_
  refine E.G.op (.int .i64 (IntKind.wrap .i64 r1)) (fun w => by kernel_rfl) (by kernel_rfl) ?_
  refine A.G.call (I := Unit) (D := fun _ => True) (V := fun _ => .tuple #[]) (q := fun _ => [M.It m2 (((M.V.new (M.np 4) false).prot 0 (IntKind.wrap .i64 r0)).prot 1 (IntKind.wrap .i64 r1)) ([])]) [A.blk g1 ([.int .u8 r0, .int .u8 r1, .int .u8 r2, .int .u8 r3])] (fun _ => [(g1, [.int .u8 r0, .int .u8 r1, .int .u8 r2, .int .u8 r3])]) (fun _ => [M.It m2 (((M.V.new (M.np 4) false).prot 0 (IntKind.wrap .i64 r0)).prot 1 (IntKind.wrap .i64 r1)) ([])]) (A_Protect 1 (IntKind.wrap .i64 r1) (m := m2) (V := ((M.V.new (M.np 4) false).prot 0 (IntKind.wrap .i64 r0))) (xs := [])) (by kernel_rfl) (A.pm [1, 0] (by kernel_rfl) (by kernel_rfl)) (fun _ => A.pm [1, 0] (by kernel_rfl) (by kernel_rfl)) (fun w _ => by kernel_rfl) (by kernel_rfl) (fun _ hd5 => ?_)
  refine E.P.nb (E.To.code ?_)
  refine E.C.region ?_
  refine E.G.op (.int .i64 1) (fun w => by kernel_rfl) (by kernel_rfl) ?_
  refine E.G.op (.int .i64 2) (fun w => by kernel_rfl) (by kernel_rfl) ?_
  refine E.G.op (.int .i64 2) (fun w => by kernel_rfl) (by kernel_rfl) ?_
  refine E.To.rounds 2 ?_
  refine E.C.weak [(1, .int .u32 ((a : Nat) : Int)), (2, .int .u8 ((s : Nat) : Int)), (3, .pointer (some ⟨g1, 0, none⟩)), (6, .bool false), (7, .bool true), (8, .pointer (some ⟨m2, 0, none⟩)), (9, .int .i64 2), (28, .int .i64 1), (29, .bool true), (30, .int .i64 1), (31, .int .i64 2), (32, .pointer (some ⟨m2, 0, none⟩)), (33, .int .i64 1), (34, .int .i64 1), (35, .pointer (some ⟨g1, 1, none⟩)), (36, .int .u8 r1), (37, .int .i64 (IntKind.wrap .i64 r1))] [(g1, [.int .u8 r0, .int .u8 r1, .int .u8 r2, .int .u8 r3])] ⟨by kernel_rfl, by kernel_rfl⟩ (List.Sublist.refl _) ?_
  refine E.C.seq ?_
  refine E.C.seq ?_
  refine E.C.region ?_
  refine E.G.op (.int .i64 2) (fun w => by kernel_rfl) (by kernel_rfl) ?_
  refine E.G.op (.bool true) (fun w => by kernel_rfl) (by kernel_rfl) ?_
  refine E.To.code ?_
  refine E.C.condT (by kernel_rfl) (by kernel_rfl) ?_
  refine E.C.skip (E.To.code ?_)
  refine E.C.seq ?_
  refine E.C.block ?_
  refine E.C.region ?_
  refine E.G.op (.pointer (some ⟨m2, 0, none⟩)) (fun w => by kernel_rfl) (by kernel_rfl) ?_
  refine E.G.op (.int .i64 2) (fun w => by kernel_rfl) (by kernel_rfl) ?_
  refine E.G.op (.int .i64 2) (fun w => by kernel_rfl) (by kernel_rfl) ?_
  refine E.G.op (.pointer (some ⟨g1, 2, none⟩)) (fun w => by kernel_rfl) (by kernel_rfl) ?_
  refine E.G.val (.int .u8 r2) (by kernel_rfl) (fun w h => E.run_load h 0 rfl rfl (by kernel_rfl)) ?_
  refine E.G.op (.int .i64 (IntKind.wrap .i64 r2)) (fun w => by kernel_rfl) (by kernel_rfl) ?_
  refine A.G.call (I := Unit) (D := fun _ => True) (V := fun _ => .tuple #[]) (q := fun _ => [M.It m2 ((((M.V.new (M.np 4) false).prot 0 (IntKind.wrap .i64 r0)).prot 1 (IntKind.wrap .i64 r1)).prot 2 (IntKind.wrap .i64 r2)) ([])]) [A.blk g1 ([.int .u8 r0, .int .u8 r1, .int .u8 r2, .int .u8 r3])] (fun _ => [(g1, [.int .u8 r0, .int .u8 r1, .int .u8 r2, .int .u8 r3])]) (fun _ => [M.It m2 ((((M.V.new (M.np 4) false).prot 0 (IntKind.wrap .i64 r0)).prot 1 (IntKind.wrap .i64 r1)).prot 2 (IntKind.wrap .i64 r2)) ([])]) (A_Protect 2 (IntKind.wrap .i64 r2) (m := m2) (V := (((M.V.new (M.np 4) false).prot 0 (IntKind.wrap .i64 r0)).prot 1 (IntKind.wrap .i64 r1))) (xs := [])) (by kernel_rfl) (A.pm [1, 0] (by kernel_rfl) (by kernel_rfl)) (fun _ => A.pm [1, 0] (by kernel_rfl) (by kernel_rfl)) (fun w _ => by kernel_rfl) (by kernel_rfl) (fun _ hd6 => ?_)
  refine E.P.nb (E.To.code ?_)
  refine E.C.region ?_
  refine E.G.op (.int .i64 2) (fun w => by kernel_rfl) (by kernel_rfl) ?_
  refine E.G.op (.int .i64 3) (fun w => by kernel_rfl) (by kernel_rfl) ?_
  refine E.G.op (.int .i64 3) (fun w => by kernel_rfl) (by kernel_rfl) ?_
  refine E.To.rounds 1 ?_
  refine E.C.weak [(1, .int .u32 ((a : Nat) : Int)), (2, .int .u8 ((s : Nat) : Int)), (3, .pointer (some ⟨g1, 0, none⟩)), (6, .bool false), (7, .bool true), (8, .pointer (some ⟨m2, 0, none⟩)), (9, .int .i64 3), (28, .int .i64 2), (29, .bool true), (30, .int .i64 2), (31, .int .i64 3), (32, .pointer (some ⟨m2, 0, none⟩)), (33, .int .i64 2), (34, .int .i64 2), (35, .pointer (some ⟨g1, 2, none⟩)), (36, .int .u8 r2), (37, .int .i64 (IntKind.wrap .i64 r2))] [(g1, [.int .u8 r0, .int .u8 r1, .int .u8 r2, .int .u8 r3])] ⟨by kernel_rfl, by kernel_rfl⟩ (List.Sublist.refl _) ?_
  refine E.C.seq ?_
  refine E.C.seq ?_
  refine E.C.region ?_
  refine E.G.op (.int .i64 3) (fun w => by kernel_rfl) (by kernel_rfl) ?_
  refine E.G.op (.bool true) (fun w => by kernel_rfl) (by kernel_rfl) ?_
  refine E.To.code ?_
  refine E.C.condT (by kernel_rfl) (by kernel_rfl) ?_
  refine E.C.skip (E.To.code ?_)
  refine E.C.seq ?_
  refine E.C.block ?_
  refine E.C.region ?_
  refine E.G.op (.pointer (some ⟨m2, 0, none⟩)) (fun w => by kernel_rfl) (by kernel_rfl) ?_
  refine E.G.op (.int .i64 3) (fun w => by kernel_rfl) (by kernel_rfl) ?_
  refine E.G.op (.int .i64 3) (fun w => by kernel_rfl) (by kernel_rfl) ?_
  refine E.G.op (.pointer (some ⟨g1, 3, none⟩)) (fun w => by kernel_rfl) (by kernel_rfl) ?_
  refine E.G.val (.int .u8 r3) (by kernel_rfl) (fun w h => E.run_load h 0 rfl rfl (by kernel_rfl)) ?_
  refine E.G.op (.int .i64 (IntKind.wrap .i64 r3)) (fun w => by kernel_rfl) (by kernel_rfl) ?_
  refine A.G.call (I := Unit) (D := fun _ => True) (V := fun _ => .tuple #[]) (q := fun _ => [M.It m2 (M.rg r0 r1 r2 r3) ([])]) [A.blk g1 ([.int .u8 r0, .int .u8 r1, .int .u8 r2, .int .u8 r3])] (fun _ => [(g1, [.int .u8 r0, .int .u8 r1, .int .u8 r2, .int .u8 r3])]) (fun _ => [M.It m2 (M.rg r0 r1 r2 r3) ([])]) (A_Protect 3 (IntKind.wrap .i64 r3) (m := m2) (V := ((((M.V.new (M.np 4) false).prot 0 (IntKind.wrap .i64 r0)).prot 1 (IntKind.wrap .i64 r1)).prot 2 (IntKind.wrap .i64 r2))) (xs := [])) (by kernel_rfl) (A.pm [1, 0] (by kernel_rfl) (by kernel_rfl)) (fun _ => A.pm [1, 0] (by kernel_rfl) (by kernel_rfl)) (fun w _ => by kernel_rfl) (by kernel_rfl) (fun _ hd7 => ?_)
  refine E.P.nb (E.To.code ?_)
  refine E.C.region ?_
  refine E.G.op (.int .i64 3) (fun w => by kernel_rfl) (by kernel_rfl) ?_
  refine E.G.op (.int .i64 4) (fun w => by kernel_rfl) (by kernel_rfl) ?_
  refine E.G.op (.int .i64 4) (fun w => by kernel_rfl) (by kernel_rfl) ?_
  refine E.To.rounds 0 ?_
  refine E.C.weak [(1, .int .u32 ((a : Nat) : Int)), (2, .int .u8 ((s : Nat) : Int)), (3, .pointer (some ⟨g1, 0, none⟩)), (6, .bool false), (7, .bool true), (8, .pointer (some ⟨m2, 0, none⟩)), (9, .int .i64 4), (28, .int .i64 3), (29, .bool true), (30, .int .i64 3), (31, .int .i64 4), (32, .pointer (some ⟨m2, 0, none⟩)), (33, .int .i64 3), (34, .int .i64 3), (35, .pointer (some ⟨g1, 3, none⟩)), (36, .int .u8 r3), (37, .int .i64 (IntKind.wrap .i64 r3))] [(g1, [.int .u8 r0, .int .u8 r1, .int .u8 r2, .int .u8 r3])] ⟨by kernel_rfl, by kernel_rfl⟩ (List.Sublist.refl _) ?_
  refine E.C.seq ?_
  refine E.C.seq ?_
  refine E.C.region ?_
  refine E.G.op (.int .i64 4) (fun w => by kernel_rfl) (by kernel_rfl) ?_
  refine E.G.op (.bool false) (fun w => by kernel_rfl) (by kernel_rfl) ?_
  refine E.To.code ?_
  refine E.C.condF (by kernel_rfl) (by kernel_rfl) ?_
  refine E.C.exit (E.P.et (E.P.et (E.P.eh (E.To.code ?_))))
  refine E.C.weak [(1, .int .u32 ((a : Nat) : Int)), (2, .int .u8 ((s : Nat) : Int)), (3, .pointer (some ⟨g1, 0, none⟩)), (6, .bool false), (7, .bool true), (8, .pointer (some ⟨m2, 0, none⟩))] [(g1, [.int .u8 r0, .int .u8 r1, .int .u8 r2, .int .u8 r3])] ⟨by kernel_rfl, by kernel_rfl⟩ (List.Sublist.refl _) ?_
  refine E.C.seq ?_
  refine E.C.region ?_
  refine E.G.op (.int .u32 ((a : Nat) : Int)) (fun w => by kernel_rfl) (by kernel_rfl) ?_
  refine E.G.val (.int .u32 ((a % 2048 : Nat) : Int)) (by kernel_rfl) (fun w h => E.run_as (a := .int .u32 (bits .and .u32 ((a : Nat) : Int) 2047)) (by kernel_rfl) (congrArg (Value.int .u32) (M.and11 ha))) ?_
  refine E.G.val (.int .u32 ((M.sub500 a : Nat) : Int)) (by kernel_rfl) (fun w h => E.run_as (a := .int .u32 (IntKind.wrap .u32 (((a % 2048 : Nat) : Int) - 500))) (by kernel_rfl) (congrArg (Value.int .u32) (M.sub500_eq a))) ?_
  refine E.G.op (.int .u32 ((M.sub500 a : Nat) : Int)) (fun w => by kernel_rfl) (by kernel_rfl) ?_
  refine E.To.code ?_
  refine E.C.seq ?_
  refine E.C.region ?_
  refine E.G.op (.int .u8 ((s : Nat) : Int)) (fun w => by kernel_rfl) (by kernel_rfl) ?_
  refine E.G.val (.int .u8 ((s % 4 : Nat) : Int)) (by kernel_rfl) (fun w h => E.run_as (a := .int .u8 (Int.tmod ((s : Nat) : Int) 4)) (by kernel_rfl) (congrArg (Value.int .u8) (by exact Nz.rem s 4))) ?_
  refine E.G.val (.int .i64 (((s % 4) : Nat) : Int)) (by kernel_rfl) (fun w h => E.run_as (a := .int .i64 (IntKind.wrap .i64 ((s % 4 : Nat) : Int))) (by kernel_rfl) (congrArg (Value.int .i64) (by exact Nz.w64 (x := (s % 4)) (by (first | assumption | ((try simp only [Bool.or_eq_false_iff, Bool.or_eq_true, Bool.and_eq_true, Bool.and_eq_false_iff, Bool.not_eq_eq_eq_not, Bool.not_true, Bool.not_false, decide_eq_true_eq, decide_eq_false_iff_not, ge_iff_le, gt_iff_lt] at *); omega)))))) ?_
  refine E.G.val (.int .i64 ((1 + (s % 4) : Nat) : Int)) (by kernel_rfl) (fun w h => E.run_as (a := .int .i64 (IntKind.wrap .i64 (1 + (((s % 4) : Nat) : Int)))) (by kernel_rfl) (congrArg (Value.int .i64) (by exact Nz.add64 (x := 1) (y := (s % 4)) (by (first | assumption | ((try simp only [Bool.or_eq_false_iff, Bool.or_eq_true, Bool.and_eq_true, Bool.and_eq_false_iff, Bool.not_eq_eq_eq_not, Bool.not_true, Bool.not_false, decide_eq_true_eq, decide_eq_false_iff_not, ge_iff_le, gt_iff_lt] at *); omega)))))) ?_
  refine E.G.op (.int .i64 ((1 + (s % 4) : Nat) : Int)) (fun w => by kernel_rfl) (by kernel_rfl) ?_
  refine E.To.code ?_
  refine E.C.weak [(1, .int .u32 ((M.sub500 a : Nat) : Int)), (3, .pointer (some ⟨g1, 0, none⟩)), (6, .bool false), (7, .bool true), (8, .pointer (some ⟨m2, 0, none⟩)), (10, .int .i64 ((1 + (s % 4) : Nat) : Int))] [(g1, [.int .u8 r0, .int .u8 r1, .int .u8 r2, .int .u8 r3])] ⟨by kernel_rfl, by kernel_rfl⟩ (List.Sublist.refl _) ?_
  refine E.C.seq ?_
  refine E.C.region ?_
  refine E.G.op (.pointer (some ⟨m2, 0, none⟩)) (fun w => by kernel_rfl) (by kernel_rfl) ?_
  refine E.G.op (.int .u32 ((M.sub500 a : Nat) : Int)) (fun w => by kernel_rfl) (by kernel_rfl) ?_
  refine E.G.op (.int .i64 ((1 + (s % 4) : Nat) : Int)) (fun w => by kernel_rfl) (by kernel_rfl) ?_
  refine E.G.call (.tuple #[.int .u32 (((M.rg r0 r1 r2 r3).load (M.sub500 a) ((1 + (s % 4) : Nat) : Int)).1), .int .u32 (((M.rg r0 r1 r2 r3).chk (M.sub500 a) 1 ((1 + (s % 4) : Nat) : Int)).1), .bool (((M.rg r0 r1 r2 r3).chk (M.sub500 a) 1 ((1 + (s % 4) : Nat) : Int)).2)]) (fun w h => A.call_rd [A.blk g1 ([.int .u8 r0, .int .u8 r1, .int .u8 r2, .int .u8 r3])] (M.rdAs (A_Load (m := m2) (V := (M.rg r0 r1 r2 r3)) (xs := []) (M.sub500 a) ((1 + (s % 4) : Nat) : Int) (M.sub500_lt a)) (v' := .tuple #[.int .u32 (((M.rg r0 r1 r2 r3).load (M.sub500 a) ((1 + (s % 4) : Nat) : Int)).1), .int .u32 (((M.rg r0 r1 r2 r3).chk (M.sub500 a) 1 ((1 + (s % 4) : Nat) : Int)).1), .bool (((M.rg r0 r1 r2 r3).chk (M.sub500 a) 1 ((1 + (s % 4) : Nat) : Int)).2)]) (M.ldc _ _ _)) h (by kernel_rfl) (A.pm [1, 0] (by kernel_rfl) (by kernel_rfl))) (fun w _ => by kernel_rfl) (by kernel_rfl) ?_
  refine E.G.op (.tuple #[.int .u32 (((M.rg r0 r1 r2 r3).load (M.sub500 a) ((1 + (s % 4) : Nat) : Int)).1), .int .u32 (((M.rg r0 r1 r2 r3).chk (M.sub500 a) 1 ((1 + (s % 4) : Nat) : Int)).1), .bool (((M.rg r0 r1 r2 r3).chk (M.sub500 a) 1 ((1 + (s % 4) : Nat) : Int)).2)]) (fun w => by kernel_rfl) (by kernel_rfl) ?_
  refine E.G.op (.int .u32 (((M.rg r0 r1 r2 r3).load (M.sub500 a) ((1 + (s % 4) : Nat) : Int)).1)) (fun w => by kernel_rfl) (by kernel_rfl) ?_
  refine E.G.op (.int .u32 (((M.rg r0 r1 r2 r3).chk (M.sub500 a) 1 ((1 + (s % 4) : Nat) : Int)).1)) (fun w => by kernel_rfl) (by kernel_rfl) ?_
  refine E.G.op (.bool (((M.rg r0 r1 r2 r3).chk (M.sub500 a) 1 ((1 + (s % 4) : Nat) : Int)).2)) (fun w => by kernel_rfl) (by kernel_rfl) ?_
  refine E.G.op (.int .u32 (((M.rg r0 r1 r2 r3).load (M.sub500 a) ((1 + (s % 4) : Nat) : Int)).1)) (fun w => by kernel_rfl) (by kernel_rfl) ?_
  refine E.G.op (.int .u32 (((M.rg r0 r1 r2 r3).chk (M.sub500 a) 1 ((1 + (s % 4) : Nat) : Int)).1)) (fun w => by kernel_rfl) (by kernel_rfl) ?_
  refine E.G.op (.bool (((M.rg r0 r1 r2 r3).chk (M.sub500 a) 1 ((1 + (s % 4) : Nat) : Int)).2)) (fun w => by kernel_rfl) (by kernel_rfl) ?_
  refine E.To.code ?_
  refine E.C.weak [(1, .int .u32 ((M.sub500 a : Nat) : Int)), (3, .pointer (some ⟨g1, 0, none⟩)), (6, .bool false), (7, .bool true), (8, .pointer (some ⟨m2, 0, none⟩)), (10, .int .i64 ((1 + (s % 4) : Nat) : Int)), (12, .int .u32 (((M.rg r0 r1 r2 r3).chk (M.sub500 a) 1 ((1 + (s % 4) : Nat) : Int)).1)), (13, .bool (((M.rg r0 r1 r2 r3).chk (M.sub500 a) 1 ((1 + (s % 4) : Nat) : Int)).2))] [(g1, [.int .u8 r0, .int .u8 r1, .int .u8 r2, .int .u8 r3])] ⟨by kernel_rfl, by kernel_rfl⟩ (List.Sublist.refl _) ?_
  refine E.C.seq ?_
  refine E.C.region ?_
  refine E.G.op (.pointer (some ⟨m2, 0, none⟩)) (fun w => by kernel_rfl) (by kernel_rfl) ?_
  refine E.G.op (.int .u32 ((M.sub500 a : Nat) : Int)) (fun w => by kernel_rfl) (by kernel_rfl) ?_
  refine E.G.op (.int .i64 ((1 + (s % 4) : Nat) : Int)) (fun w => by kernel_rfl) (by kernel_rfl) ?_
  refine A.G.call (I := Unit) (D := fun _ => True) (V := fun _ => .tuple #[.int .u32 (((M.rg r0 r1 r2 r3).chk (M.sub500 a) 2 ((1 + (s % 4) : Nat) : Int)).1), .bool (((M.rg r0 r1 r2 r3).chk (M.sub500 a) 2 ((1 + (s % 4) : Nat) : Int)).2)]) (q := fun _ => [M.It m2 ((M.rg r0 r1 r2 r3).sto (M.sub500 a) ((1 + (s % 4) : Nat) : Int) 5) ([])]) [A.blk g1 ([.int .u8 r0, .int .u8 r1, .int .u8 r2, .int .u8 r3])] (fun _ => [(g1, [.int .u8 r0, .int .u8 r1, .int .u8 r2, .int .u8 r3])]) (fun _ => [M.It m2 ((M.rg r0 r1 r2 r3).sto (M.sub500 a) ((1 + (s % 4) : Nat) : Int) 5) ([])]) (A_Store (m := m2) (V := (M.rg r0 r1 r2 r3)) (xs := []) (M.sub500 a) ((1 + (s % 4) : Nat) : Int) 5 (M.sub500_lt a)) (by kernel_rfl) (A.pm [1, 0] (by kernel_rfl) (by kernel_rfl)) (fun _ => A.pm [1, 0] (by kernel_rfl) (by kernel_rfl)) (fun w _ => by kernel_rfl) (by kernel_rfl) (fun _ hd8 => ?_)
  refine E.G.op (.tuple #[.int .u32 (((M.rg r0 r1 r2 r3).chk (M.sub500 a) 2 ((1 + (s % 4) : Nat) : Int)).1), .bool (((M.rg r0 r1 r2 r3).chk (M.sub500 a) 2 ((1 + (s % 4) : Nat) : Int)).2)]) (fun w => by kernel_rfl) (by kernel_rfl) ?_
  refine E.G.op (.int .u32 (((M.rg r0 r1 r2 r3).chk (M.sub500 a) 2 ((1 + (s % 4) : Nat) : Int)).1)) (fun w => by kernel_rfl) (by kernel_rfl) ?_
  refine E.G.op (.bool (((M.rg r0 r1 r2 r3).chk (M.sub500 a) 2 ((1 + (s % 4) : Nat) : Int)).2)) (fun w => by kernel_rfl) (by kernel_rfl) ?_
  refine E.G.op (.int .u32 (((M.rg r0 r1 r2 r3).chk (M.sub500 a) 2 ((1 + (s % 4) : Nat) : Int)).1)) (fun w => by kernel_rfl) (by kernel_rfl) ?_
  refine E.G.op (.bool (((M.rg r0 r1 r2 r3).chk (M.sub500 a) 2 ((1 + (s % 4) : Nat) : Int)).2)) (fun w => by kernel_rfl) (by kernel_rfl) ?_
  refine E.To.code ?_
  refine E.C.seq ?_
  refine E.C.region ?_
  refine E.G.op (.bool true) (fun w => by kernel_rfl) (by kernel_rfl) ?_
  refine E.To.code ?_
  refine E.C.seq ?_
  refine E.C.region ?_
  refine E.G.op (.bool true) (fun w => by kernel_rfl) (by kernel_rfl) ?_
  refine E.To.code ?_
  refine E.C.seq ?_
  refine E.C.seq ?_
  refine E.C.region ?_
  refine E.G.op (.int .i64 ((1 + (s % 4) : Nat) : Int)) (fun w => by kernel_rfl) (by kernel_rfl) ?_
  refine E.G.val (.int .i64 ((((1 + (s % 4)) - 0 : Nat) : Int) - 1)) (by kernel_rfl) (fun w h => E.run_as (a := .int .i64 (IntKind.wrap .i64 (((1 + (s % 4) : Nat) : Int) - 1))) (by kernel_rfl) (congrArg (Value.int .i64) (M.i_0 (by omega)))) ?_
  refine E.G.op (.int .i64 ((((1 + (s % 4)) - 0 : Nat) : Int) - 1)) (fun w => by kernel_rfl) (by kernel_rfl) ?_
  refine E.To.code ?_
  refine E.C.weak [(1, .int .u32 ((M.sub500 a : Nat) : Int)), (3, .pointer (some ⟨g1, 0, none⟩)), (6, .bool false), (7, .bool true), (8, .pointer (some ⟨m2, 0, none⟩)), (10, .int .i64 ((1 + (s % 4) : Nat) : Int)), (12, .int .u32 (((M.rg r0 r1 r2 r3).chk (M.sub500 a) 1 ((1 + (s % 4) : Nat) : Int)).1)), (13, .bool (((M.rg r0 r1 r2 r3).chk (M.sub500 a) 1 ((1 + (s % 4) : Nat) : Int)).2)), (14, .int .u32 (((M.rg r0 r1 r2 r3).chk (M.sub500 a) 2 ((1 + (s % 4) : Nat) : Int)).1)), (15, .bool (((M.rg r0 r1 r2 r3).chk (M.sub500 a) 2 ((1 + (s % 4) : Nat) : Int)).2)), (16, .bool true), (17, .bool true), (18, .int .i64 ((((1 + (s % 4)) - 0 : Nat) : Int) - 1))] [(g1, [.int .u8 r0, .int .u8 r1, .int .u8 r2, .int .u8 r3])] ⟨by kernel_rfl, by kernel_rfl⟩ (List.Sublist.refl _) ?_
  refine E.C.block ?_
  refine E.C.loop (I := Nat × Bool × Bool × M.V) (fun i => (1 + (s % 4)) - i.1) (fun i => i.1 ≤ (1 + (s % 4)) ∧ i.2.1 = M.al (M.rg r0 r1 r2 r3) (M.sub500 a) 1 (1 + (s % 4)) i.1 ∧ i.2.2.1 = M.al (M.rg r0 r1 r2 r3) (M.sub500 a) 2 (1 + (s % 4)) i.1 ∧ M.Rt i.2.2.2 (M.rg r0 r1 r2 r3)) (fun i => [(1, .int .u32 ((M.sub500 a : Nat) : Int)), (3, .pointer (some ⟨g1, 0, none⟩)), (6, .bool false), (7, .bool true), (8, .pointer (some ⟨m2, 0, none⟩)), (10, .int .i64 ((1 + (s % 4) : Nat) : Int)), (12, .int .u32 (((M.rg r0 r1 r2 r3).chk (M.sub500 a) 1 ((1 + (s % 4) : Nat) : Int)).1)), (13, .bool (((M.rg r0 r1 r2 r3).chk (M.sub500 a) 1 ((1 + (s % 4) : Nat) : Int)).2)), (14, .int .u32 (((M.rg r0 r1 r2 r3).chk (M.sub500 a) 2 ((1 + (s % 4) : Nat) : Int)).1)), (15, .bool (((M.rg r0 r1 r2 r3).chk (M.sub500 a) 2 ((1 + (s % 4) : Nat) : Int)).2)), (16, .bool i.2.1), (17, .bool i.2.2.1), (18, .int .i64 ((((1 + (s % 4)) - i.1 : Nat) : Int) - 1))]) (fun i => A.X w oo aa [M.It m2 i.2.2.2 ([])]) (fun i => [(g1, [.int .u8 r0, .int .u8 r1, .int .u8 r2, .int .u8 r3])]) (0, true, true, ((M.rg r0 r1 r2 r3).sto (M.sub500 a) ((1 + (s % 4) : Nat) : Int) 5)) (⟨Nat.zero_le _, rfl, rfl, M.Rt.sto ⟨rfl, rfl⟩ _ _ _⟩) ⟨by kernel_rfl, by kernel_rfl⟩ (List.Sublist.refl _) (fun _ h => h) (fun i hk1 => ?_)
  refine E.C.seq ?_
  refine E.C.seq ?_
  refine E.C.region ?_
  refine E.G.op (.int .i64 ((((1 + (s % 4)) - i.1 : Nat) : Int) - 1)) (fun w => by kernel_rfl) (by kernel_rfl) ?_
  refine E.G.op (.bool (decide (((((1 + (s % 4)) - i.1 : Nat) : Int) - 1) ≥ 0))) (fun w => by kernel_rfl) (by kernel_rfl) ?_
  refine E.To.code ?_
  refine E.C.cond (decide (((((1 + (s % 4)) - i.1 : Nat) : Int) - 1) ≥ 0)) (by kernel_rfl) (by kernel_rfl) (fun hc9 => ?_) (fun hc9 => ?_)
  · skip
    refine E.C.skip (E.To.code ?_)
    refine E.C.seq ?_
    refine E.C.block ?_
    refine E.C.seq ?_
    refine E.C.region ?_
    refine E.G.op (.pointer (some ⟨m2, 0, none⟩)) (fun w => by kernel_rfl) (by kernel_rfl) ?_
    refine E.G.op (.int .u32 ((M.sub500 a : Nat) : Int)) (fun w => by kernel_rfl) (by kernel_rfl) ?_
    refine E.G.op (.int .i64 ((((1 + (s % 4)) - i.1 : Nat) : Int) - 1)) (fun w => by kernel_rfl) (by kernel_rfl) ?_
    refine E.G.val (.int .u32 (((1 + (s % 4)) - i.1 - 1 : Nat) : Int)) (by kernel_rfl) (fun w h => E.run_as (a := .int .u32 (IntKind.wrap .u32 ((((1 + (s % 4)) - i.1 : Nat) : Int) - 1))) (by kernel_rfl) (congrArg (Value.int .u32) (M.i_32 (by omega) (by have := hk1.1; (first | assumption | ((try simp only [Bool.or_eq_false_iff, Bool.or_eq_true, Bool.and_eq_true, Bool.and_eq_false_iff, Bool.not_eq_eq_eq_not, Bool.not_true, Bool.not_false, decide_eq_true_eq, decide_eq_false_iff_not, ge_iff_le, gt_iff_lt] at *); omega)))))) ?_
    refine E.G.val (.int .u32 ((((M.sub500 a) + ((1 + (s % 4)) - i.1 - 1)) % 4294967296 : Nat) : Int)) (by kernel_rfl) (fun w h => E.run_as (a := .int .u32 (IntKind.wrap .u32 (((M.sub500 a : Nat) : Int) + (((1 + (s % 4)) - i.1 - 1 : Nat) : Int)))) (by kernel_rfl) (congrArg (Value.int .u32) (by exact Nz.add32 (M.sub500 a) ((1 + (s % 4)) - i.1 - 1)))) ?_
    refine E.fork ((M.rg r0 r1 r2 r3).ok (((M.sub500 a) + ((1 + (s % 4)) - i.1 - 1)) % 4294967296) 1) (fun hc10 => ?_) (fun hc10 => ?_)
    · skip
      refine E.G.call (.tuple #[.int .u32 ((i.2.2.2.load (((M.sub500 a) + ((1 + (s % 4)) - i.1 - 1)) % 4294967296) 1).1), .int .u32 0, .bool true]) (fun w h => A.call_rd [A.blk g1 ([.int .u8 r0, .int .u8 r1, .int .u8 r2, .int .u8 r3])] (M.rdAs (A_Load (m := m2) (V := i.2.2.2) (xs := []) (((M.sub500 a) + ((1 + (s % 4)) - i.1 - 1)) % 4294967296) 1 (Nat.mod_lt _ (by decide) : (((M.sub500 a) + ((1 + (s % 4)) - i.1 - 1)) % 4294967296) < 4294967296)) (v' := .tuple #[.int .u32 ((i.2.2.2.load (((M.sub500 a) + ((1 + (s % 4)) - i.1 - 1)) % 4294967296) 1).1), .int .u32 0, .bool true]) (M.ld1t hk1.2.2.2 (Nat.mod_lt _ (by decide) : (((M.sub500 a) + ((1 + (s % 4)) - i.1 - 1)) % 4294967296) < 4294967296) hc10)) h (by kernel_rfl) (A.pm [1, 0] (by kernel_rfl) (by kernel_rfl))) (fun w _ => by kernel_rfl) (by kernel_rfl) ?_
      refine E.G.op (.tuple #[.int .u32 ((i.2.2.2.load (((M.sub500 a) + ((1 + (s % 4)) - i.1 - 1)) % 4294967296) 1).1), .int .u32 0, .bool true]) (fun w => by kernel_rfl) (by kernel_rfl) ?_
      refine E.G.op (.int .u32 ((i.2.2.2.load (((M.sub500 a) + ((1 + (s % 4)) - i.1 - 1)) % 4294967296) 1).1)) (fun w => by kernel_rfl) (by kernel_rfl) ?_
      refine E.G.op (.int .u32 0) (fun w => by kernel_rfl) (by kernel_rfl) ?_
      refine E.G.op (.bool true) (fun w => by kernel_rfl) (by kernel_rfl) ?_
      refine E.G.op (.int .u32 ((i.2.2.2.load (((M.sub500 a) + ((1 + (s % 4)) - i.1 - 1)) % 4294967296) 1).1)) (fun w => by kernel_rfl) (by kernel_rfl) ?_
      refine E.G.op (.int .u32 0) (fun w => by kernel_rfl) (by kernel_rfl) ?_
      refine E.G.op (.bool true) (fun w => by kernel_rfl) (by kernel_rfl) ?_
      refine E.To.code ?_
      refine E.C.seq ?_
      refine E.C.region ?_
      refine E.G.op (.pointer (some ⟨m2, 0, none⟩)) (fun w => by kernel_rfl) (by kernel_rfl) ?_
      refine E.G.op (.int .u32 ((M.sub500 a : Nat) : Int)) (fun w => by kernel_rfl) (by kernel_rfl) ?_
      refine E.G.op (.int .i64 ((((1 + (s % 4)) - i.1 : Nat) : Int) - 1)) (fun w => by kernel_rfl) (by kernel_rfl) ?_
      refine E.G.val (.int .u32 (((1 + (s % 4)) - i.1 - 1 : Nat) : Int)) (by kernel_rfl) (fun w h => E.run_as (a := .int .u32 (IntKind.wrap .u32 ((((1 + (s % 4)) - i.1 : Nat) : Int) - 1))) (by kernel_rfl) (congrArg (Value.int .u32) (M.i_32 (by omega) (by have := hk1.1; (first | assumption | ((try simp only [Bool.or_eq_false_iff, Bool.or_eq_true, Bool.and_eq_true, Bool.and_eq_false_iff, Bool.not_eq_eq_eq_not, Bool.not_true, Bool.not_false, decide_eq_true_eq, decide_eq_false_iff_not, ge_iff_le, gt_iff_lt] at *); omega)))))) ?_
      refine E.G.val (.int .u32 ((((M.sub500 a) + ((1 + (s % 4)) - i.1 - 1)) % 4294967296 : Nat) : Int)) (by kernel_rfl) (fun w h => E.run_as (a := .int .u32 (IntKind.wrap .u32 (((M.sub500 a : Nat) : Int) + (((1 + (s % 4)) - i.1 - 1 : Nat) : Int)))) (by kernel_rfl) (congrArg (Value.int .u32) (by exact Nz.add32 (M.sub500 a) ((1 + (s % 4)) - i.1 - 1)))) ?_
      refine E.fork ((M.rg r0 r1 r2 r3).ok (((M.sub500 a) + ((1 + (s % 4)) - i.1 - 1)) % 4294967296) 2) (fun hc11 => ?_) (fun hc11 => ?_)
      · skip
        refine A.G.call (I := Unit) (D := fun _ => True) (V := fun _ => .tuple #[.int .u32 0, .bool true]) (q := fun _ => [M.It m2 (i.2.2.2.put (((M.sub500 a) + ((1 + (s % 4)) - i.1 - 1)) % 4294967296) 7 1) ([])]) [A.blk g1 ([.int .u8 r0, .int .u8 r1, .int .u8 r2, .int .u8 r3])] (fun _ => [(g1, [.int .u8 r0, .int .u8 r1, .int .u8 r2, .int .u8 r3])]) (fun _ => [M.It m2 (i.2.2.2.put (((M.sub500 a) + ((1 + (s % 4)) - i.1 - 1)) % 4294967296) 7 1) ([])]) (M.trF (u := .tuple #[.int .u32 0, .bool true]) (A_Store (m := m2) (V := i.2.2.2) (xs := []) (((M.sub500 a) + ((1 + (s % 4)) - i.1 - 1)) % 4294967296) ((1 : Nat) : Int) 7 (Nat.mod_lt _ (by decide) : (((M.sub500 a) + ((1 + (s % 4)) - i.1 - 1)) % 4294967296) < 4294967296)) (M.sto_t (m := 1) (M.st1 hk1.2.2.2 (Nat.mod_lt _ (by decide) : (((M.sub500 a) + ((1 + (s % 4)) - i.1 - 1)) % 4294967296) < 4294967296) hc11)) (M.stv_t (M.st1 hk1.2.2.2 (Nat.mod_lt _ (by decide) : (((M.sub500 a) + ((1 + (s % 4)) - i.1 - 1)) % 4294967296) < 4294967296) hc11))) (by kernel_rfl) (A.pm [1, 0] (by kernel_rfl) (by kernel_rfl)) (fun _ => A.pm [1, 0] (by kernel_rfl) (by kernel_rfl)) (fun w _ => by kernel_rfl) (by kernel_rfl) (fun _ hd12 => ?_)
        refine E.G.op (.tuple #[.int .u32 0, .bool true]) (fun w => by kernel_rfl) (by kernel_rfl) ?_
        refine E.G.op (.int .u32 0) (fun w => by kernel_rfl) (by kernel_rfl) ?_
        refine E.G.op (.bool true) (fun w => by kernel_rfl) (by kernel_rfl) ?_
        refine E.G.op (.int .u32 0) (fun w => by kernel_rfl) (by kernel_rfl) ?_
        refine E.G.op (.bool true) (fun w => by kernel_rfl) (by kernel_rfl) ?_
        refine E.To.code ?_
        refine E.C.seq ?_
        refine E.C.seq ?_
        refine E.C.region ?_
        refine E.G.op (.bool true) (fun w => by kernel_rfl) (by kernel_rfl) ?_
        refine E.G.op (.bool false) (fun w => by kernel_rfl) (by kernel_rfl) ?_
        refine E.G.op (.bool false) (fun w => by kernel_rfl) (by kernel_rfl) ?_
        refine E.G.skip (by kernel_rfl) (by kernel_rfl) ?_
        refine E.G.skip (by kernel_rfl) (by kernel_rfl) ?_
        refine E.G.skip (by kernel_rfl) (by kernel_rfl) ?_
        refine E.G.skip (by kernel_rfl) (by kernel_rfl) ?_
        refine E.G.skip (by kernel_rfl) (by kernel_rfl) ?_
        refine E.G.skip (by kernel_rfl) (by kernel_rfl) ?_
        refine E.G.op (.bool false) (fun w => by kernel_rfl) (by kernel_rfl) ?_
        refine E.G.op (.bool false) (fun w => by kernel_rfl) (by kernel_rfl) ?_
        refine E.G.op (.bool true) (fun w => by kernel_rfl) (by kernel_rfl) ?_
        refine E.G.op (.bool false) (fun w => by kernel_rfl) (by kernel_rfl) ?_
        refine E.G.op (.bool false) (fun w => by kernel_rfl) (by kernel_rfl) ?_
        refine E.G.skip (by kernel_rfl) (by kernel_rfl) ?_
        refine E.G.skip (by kernel_rfl) (by kernel_rfl) ?_
        refine E.G.skip (by kernel_rfl) (by kernel_rfl) ?_
        refine E.G.skip (by kernel_rfl) (by kernel_rfl) ?_
        refine E.G.skip (by kernel_rfl) (by kernel_rfl) ?_
        refine E.G.skip (by kernel_rfl) (by kernel_rfl) ?_
        refine E.G.op (.bool false) (fun w => by kernel_rfl) (by kernel_rfl) ?_
        refine E.G.op (.bool false) (fun w => by kernel_rfl) (by kernel_rfl) ?_
        refine E.To.code ?_
        refine E.C.weak [(1, .int .u32 ((M.sub500 a : Nat) : Int)), (3, .pointer (some ⟨g1, 0, none⟩)), (6, .bool false), (7, .bool true), (8, .pointer (some ⟨m2, 0, none⟩)), (10, .int .i64 ((1 + (s % 4) : Nat) : Int)), (12, .int .u32 (((M.rg r0 r1 r2 r3).chk (M.sub500 a) 1 ((1 + (s % 4) : Nat) : Int)).1)), (13, .bool (((M.rg r0 r1 r2 r3).chk (M.sub500 a) 1 ((1 + (s % 4) : Nat) : Int)).2)), (14, .int .u32 (((M.rg r0 r1 r2 r3).chk (M.sub500 a) 2 ((1 + (s % 4) : Nat) : Int)).1)), (15, .bool (((M.rg r0 r1 r2 r3).chk (M.sub500 a) 2 ((1 + (s % 4) : Nat) : Int)).2)), (16, .bool i.2.1), (17, .bool i.2.2.1), (18, .int .i64 ((((1 + (s % 4)) - i.1 : Nat) : Int) - 1)), (20, .int .u32 0), (21, .bool true), (22, .int .u32 0), (23, .bool true), (63, .int .i64 ((((1 + (s % 4)) - i.1 : Nat) : Int) - 1)), (64, .bool (decide (((((1 + (s % 4)) - i.1 : Nat) : Int) - 1) ≥ 0))), (67, .tuple #[.int .u32 ((i.2.2.2.load (((M.sub500 a) + ((1 + (s % 4)) - i.1 - 1)) % 4294967296) 1).1), .int .u32 0, .bool true]), (68, .pointer (some ⟨m2, 0, none⟩)), (69, .int .u32 ((M.sub500 a : Nat) : Int)), (70, .int .i64 ((((1 + (s % 4)) - i.1 : Nat) : Int) - 1)), (71, .int .u32 (((1 + (s % 4)) - i.1 - 1 : Nat) : Int)), (72, .int .u32 ((((M.sub500 a) + ((1 + (s % 4)) - i.1 - 1)) % 4294967296 : Nat) : Int)), (73, .tuple #[.int .u32 ((i.2.2.2.load (((M.sub500 a) + ((1 + (s % 4)) - i.1 - 1)) % 4294967296) 1).1), .int .u32 0, .bool true]), (74, .int .u32 ((i.2.2.2.load (((M.sub500 a) + ((1 + (s % 4)) - i.1 - 1)) % 4294967296) 1).1)), (75, .int .u32 0), (76, .bool true), (77, .tuple #[.int .u32 0, .bool true]), (78, .pointer (some ⟨m2, 0, none⟩)), (79, .int .u32 ((M.sub500 a : Nat) : Int)), (80, .int .i64 ((((1 + (s % 4)) - i.1 : Nat) : Int) - 1)), (81, .int .u32 (((1 + (s % 4)) - i.1 - 1 : Nat) : Int)), (82, .int .u32 ((((M.sub500 a) + ((1 + (s % 4)) - i.1 - 1)) % 4294967296 : Nat) : Int)), (83, .tuple #[.int .u32 0, .bool true]), (84, .int .u32 0), (85, .bool true), (86, .bool true), (87, .bool false), (88, .bool false), (95, .bool false), (96, .bool false), (97, .bool true), (98, .bool false), (99, .bool false), (106, .bool false), (107, .bool false)] [(g1, [.int .u8 r0, .int .u8 r1, .int .u8 r2, .int .u8 r3])] ⟨by kernel_rfl, by kernel_rfl⟩ (List.Sublist.refl _) ?_
        refine E.C.condF (by kernel_rfl) (by kernel_rfl) ?_
        refine E.C.skip (E.To.code ?_)
        refine E.C.seq ?_
        refine E.C.seq ?_
        refine E.C.region ?_
        refine E.G.op (.bool true) (fun w => by kernel_rfl) (by kernel_rfl) ?_
        refine E.G.op (.bool false) (fun w => by kernel_rfl) (by kernel_rfl) ?_
        refine E.To.code ?_
        refine E.C.condF (by kernel_rfl) (by kernel_rfl) ?_
        refine E.C.skip (E.To.code ?_)
        refine E.C.seq ?_
        refine E.C.region ?_
        refine E.G.op (.bool i.2.2.1) (fun w => by kernel_rfl) (by kernel_rfl) ?_
        refine E.G.op (.bool i.2.2.1) (fun w => by kernel_rfl) (by kernel_rfl) ?_
        refine E.G.cut 2 [(1, .int .u32 ((M.sub500 a : Nat) : Int)), (3, .pointer (some ⟨g1, 0, none⟩)), (6, .bool false), (7, .bool true), (8, .pointer (some ⟨m2, 0, none⟩)), (10, .int .i64 ((1 + (s % 4) : Nat) : Int)), (12, .int .u32 (((M.rg r0 r1 r2 r3).chk (M.sub500 a) 1 ((1 + (s % 4) : Nat) : Int)).1)), (13, .bool (((M.rg r0 r1 r2 r3).chk (M.sub500 a) 1 ((1 + (s % 4) : Nat) : Int)).2)), (14, .int .u32 (((M.rg r0 r1 r2 r3).chk (M.sub500 a) 2 ((1 + (s % 4) : Nat) : Int)).1)), (15, .bool (((M.rg r0 r1 r2 r3).chk (M.sub500 a) 2 ((1 + (s % 4) : Nat) : Int)).2)), (16, .bool i.2.1), (17, .bool i.2.2.1), (18, .int .i64 ((((1 + (s % 4)) - i.1 : Nat) : Int) - 1)), (20, .int .u32 0), (21, .bool true), (22, .int .u32 0), (23, .bool true), (63, .int .i64 ((((1 + (s % 4)) - i.1 : Nat) : Int) - 1)), (64, .bool (decide (((((1 + (s % 4)) - i.1 : Nat) : Int) - 1) ≥ 0))), (67, .tuple #[.int .u32 ((i.2.2.2.load (((M.sub500 a) + ((1 + (s % 4)) - i.1 - 1)) % 4294967296) 1).1), .int .u32 0, .bool true]), (68, .pointer (some ⟨m2, 0, none⟩)), (69, .int .u32 ((M.sub500 a : Nat) : Int)), (70, .int .i64 ((((1 + (s % 4)) - i.1 : Nat) : Int) - 1)), (71, .int .u32 (((1 + (s % 4)) - i.1 - 1 : Nat) : Int)), (72, .int .u32 ((((M.sub500 a) + ((1 + (s % 4)) - i.1 - 1)) % 4294967296 : Nat) : Int)), (73, .tuple #[.int .u32 ((i.2.2.2.load (((M.sub500 a) + ((1 + (s % 4)) - i.1 - 1)) % 4294967296) 1).1), .int .u32 0, .bool true]), (74, .int .u32 ((i.2.2.2.load (((M.sub500 a) + ((1 + (s % 4)) - i.1 - 1)) % 4294967296) 1).1)), (75, .int .u32 0), (76, .bool true), (77, .tuple #[.int .u32 0, .bool true]), (78, .pointer (some ⟨m2, 0, none⟩)), (79, .int .u32 ((M.sub500 a : Nat) : Int)), (80, .int .i64 ((((1 + (s % 4)) - i.1 : Nat) : Int) - 1)), (81, .int .u32 (((1 + (s % 4)) - i.1 - 1 : Nat) : Int)), (82, .int .u32 ((((M.sub500 a) + ((1 + (s % 4)) - i.1 - 1)) % 4294967296 : Nat) : Int)), (83, .tuple #[.int .u32 0, .bool true]), (84, .int .u32 0), (85, .bool true), (86, .bool true), (87, .bool false), (88, .bool false), (95, .bool false), (96, .bool false), (97, .bool true), (98, .bool false), (99, .bool false), (106, .bool false), (107, .bool false), (108, .bool true), (109, .bool false), (134, .bool i.2.2.1), (135, .bool i.2.2.1), (137, .bool (i.2.2.1 && true))] (A.X w oo aa [M.It m2 (i.2.2.2.put (((M.sub500 a) + ((1 + (s % 4)) - i.1 - 1)) % 4294967296) 7 1) ([])]) [(g1, [.int .u8 r0, .int .u8 r1, .int .u8 r2, .int .u8 r3])] ?_ ?_
        · generalize hc13 : i.2.2.1 = b14
          cases b14
          · skip
            refine E.G.skip (by kernel_rfl) (by kernel_rfl) ?_
            refine E.G.op (.bool false) (fun w => by kernel_rfl) (by kernel_rfl) ?_
            exact E.G.end_pst ⟨by kernel_rfl, by kernel_rfl⟩ (List.Sublist.refl _) (fun _ h => h)
          · skip
            refine E.G.op (.bool true) (fun w => by kernel_rfl) (by kernel_rfl) ?_
            refine E.G.op (.bool true) (fun w => by kernel_rfl) (by kernel_rfl) ?_
            exact E.G.end_pst ⟨by kernel_rfl, by kernel_rfl⟩ (List.Sublist.refl _) (fun _ h => h)
        refine E.G.op (.bool (i.2.2.1 && true)) (fun w => by kernel_rfl) (by kernel_rfl) ?_
        refine E.To.code ?_
        refine E.C.seq ?_
        refine E.C.region ?_
        refine E.G.op (.int .u32 ((M.sub500 a : Nat) : Int)) (fun w => by kernel_rfl) (by kernel_rfl) ?_
        refine E.G.op (.int .i64 ((((1 + (s % 4)) - i.1 : Nat) : Int) - 1)) (fun w => by kernel_rfl) (by kernel_rfl) ?_
        refine E.G.val (.int .u32 (((1 + (s % 4)) - i.1 - 1 : Nat) : Int)) (by kernel_rfl) (fun w h => E.run_as (a := .int .u32 (IntKind.wrap .u32 ((((1 + (s % 4)) - i.1 : Nat) : Int) - 1))) (by kernel_rfl) (congrArg (Value.int .u32) (M.i_32 (by omega) (by have := hk1.1; (first | assumption | ((try simp only [Bool.or_eq_false_iff, Bool.or_eq_true, Bool.and_eq_true, Bool.and_eq_false_iff, Bool.not_eq_eq_eq_not, Bool.not_true, Bool.not_false, decide_eq_true_eq, decide_eq_false_iff_not, ge_iff_le, gt_iff_lt] at *); omega)))))) ?_
        refine E.G.val (.int .u32 ((((M.sub500 a) + ((1 + (s % 4)) - i.1 - 1)) % 4294967296 : Nat) : Int)) (by kernel_rfl) (fun w h => E.run_as (a := .int .u32 (IntKind.wrap .u32 (((M.sub500 a : Nat) : Int) + (((1 + (s % 4)) - i.1 - 1 : Nat) : Int)))) (by kernel_rfl) (congrArg (Value.int .u32) (by exact Nz.add32 (M.sub500 a) ((1 + (s % 4)) - i.1 - 1)))) ?_
        refine E.G.op (.bool (decide (((((M.sub500 a) + ((1 + (s % 4)) - i.1 - 1)) % 4294967296 : Nat) : Int) < 1024))) (fun w => by kernel_rfl) (by kernel_rfl) ?_
        refine E.G.op (.bool (decide (((((M.sub500 a) + ((1 + (s % 4)) - i.1 - 1)) % 4294967296 : Nat) : Int) < 1024))) (fun w => by kernel_rfl) (by kernel_rfl) ?_
        refine E.To.code ?_
        refine E.C.seq ?_
        refine E.C.region ?_
        refine E.G.op (.bool (decide (((((M.sub500 a) + ((1 + (s % 4)) - i.1 - 1)) % 4294967296 : Nat) : Int) < 1024))) (fun w => by kernel_rfl) (by kernel_rfl) ?_
        refine E.G.op (.bool (decide (((((M.sub500 a) + ((1 + (s % 4)) - i.1 - 1)) % 4294967296 : Nat) : Int) < 1024))) (fun w => by kernel_rfl) (by kernel_rfl) ?_
        refine E.G.cut 11 [(1, .int .u32 ((M.sub500 a : Nat) : Int)), (3, .pointer (some ⟨g1, 0, none⟩)), (6, .bool false), (7, .bool true), (8, .pointer (some ⟨m2, 0, none⟩)), (10, .int .i64 ((1 + (s % 4) : Nat) : Int)), (12, .int .u32 (((M.rg r0 r1 r2 r3).chk (M.sub500 a) 1 ((1 + (s % 4) : Nat) : Int)).1)), (13, .bool (((M.rg r0 r1 r2 r3).chk (M.sub500 a) 1 ((1 + (s % 4) : Nat) : Int)).2)), (14, .int .u32 (((M.rg r0 r1 r2 r3).chk (M.sub500 a) 2 ((1 + (s % 4) : Nat) : Int)).1)), (15, .bool (((M.rg r0 r1 r2 r3).chk (M.sub500 a) 2 ((1 + (s % 4) : Nat) : Int)).2)), (16, .bool i.2.1), (17, .bool (i.2.2.1 && true)), (18, .int .i64 ((((1 + (s % 4)) - i.1 : Nat) : Int) - 1)), (20, .int .u32 0), (21, .bool true), (22, .int .u32 0), (23, .bool true), (24, .bool (decide (((((M.sub500 a) + ((1 + (s % 4)) - i.1 - 1)) % 4294967296 : Nat) : Int) < 1024))), (63, .int .i64 ((((1 + (s % 4)) - i.1 : Nat) : Int) - 1)), (64, .bool (decide (((((1 + (s % 4)) - i.1 : Nat) : Int) - 1) ≥ 0))), (67, .tuple #[.int .u32 ((i.2.2.2.load (((M.sub500 a) + ((1 + (s % 4)) - i.1 - 1)) % 4294967296) 1).1), .int .u32 0, .bool true]), (68, .pointer (some ⟨m2, 0, none⟩)), (69, .int .u32 ((M.sub500 a : Nat) : Int)), (70, .int .i64 ((((1 + (s % 4)) - i.1 : Nat) : Int) - 1)), (71, .int .u32 (((1 + (s % 4)) - i.1 - 1 : Nat) : Int)), (72, .int .u32 ((((M.sub500 a) + ((1 + (s % 4)) - i.1 - 1)) % 4294967296 : Nat) : Int)), (73, .tuple #[.int .u32 ((i.2.2.2.load (((M.sub500 a) + ((1 + (s % 4)) - i.1 - 1)) % 4294967296) 1).1), .int .u32 0, .bool true]), (74, .int .u32 ((i.2.2.2.load (((M.sub500 a) + ((1 + (s % 4)) - i.1 - 1)) % 4294967296) 1).1)), (75, .int .u32 0), (76, .bool true), (77, .tuple #[.int .u32 0, .bool true]), (78, .pointer (some ⟨m2, 0, none⟩)), (79, .int .u32 ((M.sub500 a : Nat) : Int)), (80, .int .i64 ((((1 + (s % 4)) - i.1 : Nat) : Int) - 1)), (81, .int .u32 (((1 + (s % 4)) - i.1 - 1 : Nat) : Int)), (82, .int .u32 ((((M.sub500 a) + ((1 + (s % 4)) - i.1 - 1)) % 4294967296 : Nat) : Int)), (83, .tuple #[.int .u32 0, .bool true]), (84, .int .u32 0), (85, .bool true), (86, .bool true), (87, .bool false), (88, .bool false), (95, .bool false), (96, .bool false), (97, .bool true), (98, .bool false), (99, .bool false), (106, .bool false), (107, .bool false), (108, .bool true), (109, .bool false), (134, .bool i.2.2.1), (135, .bool i.2.2.1), (137, .bool (i.2.2.1 && true)), (138, .int .u32 ((M.sub500 a : Nat) : Int)), (139, .int .i64 ((((1 + (s % 4)) - i.1 : Nat) : Int) - 1)), (140, .int .u32 (((1 + (s % 4)) - i.1 - 1 : Nat) : Int)), (141, .int .u32 ((((M.sub500 a) + ((1 + (s % 4)) - i.1 - 1)) % 4294967296 : Nat) : Int)), (142, .bool (decide (((((M.sub500 a) + ((1 + (s % 4)) - i.1 - 1)) % 4294967296 : Nat) : Int) < 1024))), (143, .bool (decide (((((M.sub500 a) + ((1 + (s % 4)) - i.1 - 1)) % 4294967296 : Nat) : Int) < 1024))), (144, .bool (decide (((((M.sub500 a) + ((1 + (s % 4)) - i.1 - 1)) % 4294967296 : Nat) : Int) < 1024))), (155, .bool ((decide (((((M.sub500 a) + ((1 + (s % 4)) - i.1 - 1)) % 4294967296 : Nat) : Int) < 1024)) && ((bits .and .u8 ([r0, r1, r2, r3].getD (0 + (((((((M.sub500 a) + ((1 + (s % 4)) - i.1 - 1)) % 4294967296) / 256) % 4 : Nat) : Int)).toNat * 1) 0) 1) == 1)))] (A.X w oo aa [M.It m2 (i.2.2.2.put (((M.sub500 a) + ((1 + (s % 4)) - i.1 - 1)) % 4294967296) 7 1) ([])]) [(g1, [.int .u8 r0, .int .u8 r1, .int .u8 r2, .int .u8 r3])] ?_ ?_
        · generalize hc15 : (decide (((((M.sub500 a) + ((1 + (s % 4)) - i.1 - 1)) % 4294967296 : Nat) : Int) < 1024)) = b16
          cases b16
          · skip
            refine E.G.skip (by kernel_rfl) (by kernel_rfl) ?_
            refine E.G.skip (by kernel_rfl) (by kernel_rfl) ?_
            refine E.G.skip (by kernel_rfl) (by kernel_rfl) ?_
            refine E.G.skip (by kernel_rfl) (by kernel_rfl) ?_
            refine E.G.skip (by kernel_rfl) (by kernel_rfl) ?_
            refine E.G.skip (by kernel_rfl) (by kernel_rfl) ?_
            refine E.G.skip (by kernel_rfl) (by kernel_rfl) ?_
            refine E.G.skip (by kernel_rfl) (by kernel_rfl) ?_
            refine E.G.skip (by kernel_rfl) (by kernel_rfl) ?_
            refine E.G.skip (by kernel_rfl) (by kernel_rfl) ?_
            refine E.G.op (.bool false) (fun w => by kernel_rfl) (by kernel_rfl) ?_
            exact E.G.end_pst ⟨by kernel_rfl, by kernel_rfl⟩ (List.Sublist.refl _) (fun _ h => h)
          · skip
            refine E.G.op (.int .u32 ((M.sub500 a : Nat) : Int)) (fun w => by kernel_rfl) (by kernel_rfl) ?_
            refine E.G.op (.int .i64 ((((1 + (s % 4)) - i.1 : Nat) : Int) - 1)) (fun w => by kernel_rfl) (by kernel_rfl) ?_
            refine E.G.val (.int .u32 (((1 + (s % 4)) - i.1 - 1 : Nat) : Int)) (by kernel_rfl) (fun w h => E.run_as (a := .int .u32 (IntKind.wrap .u32 ((((1 + (s % 4)) - i.1 : Nat) : Int) - 1))) (by kernel_rfl) (congrArg (Value.int .u32) (M.i_32 (by omega) (by have := hk1.1; (first | assumption | ((try simp only [Bool.or_eq_false_iff, Bool.or_eq_true, Bool.and_eq_true, Bool.and_eq_false_iff, Bool.not_eq_eq_eq_not, Bool.not_true, Bool.not_false, decide_eq_true_eq, decide_eq_false_iff_not, ge_iff_le, gt_iff_lt] at *); omega)))))) ?_
            refine E.G.val (.int .u32 ((((M.sub500 a) + ((1 + (s % 4)) - i.1 - 1)) % 4294967296 : Nat) : Int)) (by kernel_rfl) (fun w h => E.run_as (a := .int .u32 (IntKind.wrap .u32 (((M.sub500 a : Nat) : Int) + (((1 + (s % 4)) - i.1 - 1 : Nat) : Int)))) (by kernel_rfl) (congrArg (Value.int .u32) (by exact Nz.add32 (M.sub500 a) ((1 + (s % 4)) - i.1 - 1)))) ?_
            refine E.G.val (.int .u32 (((((M.sub500 a) + ((1 + (s % 4)) - i.1 - 1)) % 4294967296) / 256 : Nat) : Int)) (by kernel_rfl) (fun w h => E.run_as (a := .int .u32 (IntKind.wrap .u32 (Int.tdiv ((((M.sub500 a) + ((1 + (s % 4)) - i.1 - 1)) % 4294967296 : Nat) : Int) 256))) (by kernel_rfl) (congrArg (Value.int .u32) (by exact Nz.quo32 (x := (((M.sub500 a) + ((1 + (s % 4)) - i.1 - 1)) % 4294967296)) 256 (by (first | assumption | ((try simp only [Bool.or_eq_false_iff, Bool.or_eq_true, Bool.and_eq_true, Bool.and_eq_false_iff, Bool.not_eq_eq_eq_not, Bool.not_true, Bool.not_false, decide_eq_true_eq, decide_eq_false_iff_not, ge_iff_le, gt_iff_lt] at *); omega)))))) ?_
            refine E.G.val (.int .u32 ((((((M.sub500 a) + ((1 + (s % 4)) - i.1 - 1)) % 4294967296) / 256) % 4 : Nat) : Int)) (by kernel_rfl) (fun w h => E.run_as (a := .int .u32 (Int.tmod (((((M.sub500 a) + ((1 + (s % 4)) - i.1 - 1)) % 4294967296) / 256 : Nat) : Int) 4)) (by kernel_rfl) (congrArg (Value.int .u32) (by exact Nz.rem ((((M.sub500 a) + ((1 + (s % 4)) - i.1 - 1)) % 4294967296) / 256) 4))) ?_
            refine E.G.val (.pointer (some ⟨g1, 0 + (((((((M.sub500 a) + ((1 + (s % 4)) - i.1 - 1)) % 4294967296) / 256) % 4 : Nat) : Int)).toNat * 1, none⟩)) (by kernel_rfl) (fun w h => E.idxA (e := 5) g1 0 4 1 .u32 (((((((M.sub500 a) + ((1 + (s % 4)) - i.1 - 1)) % 4294967296) / 256) % 4 : Nat) : Int)) (by kernel_rfl) (by kernel_rfl) (by kernel_rfl) (by kernel_rfl) (by omega) (by omega) w) ?_
            refine E.G.val (.int .u8 ([r0, r1, r2, r3].getD (0 + (((((((M.sub500 a) + ((1 + (s % 4)) - i.1 - 1)) % 4294967296) / 256) % 4 : Nat) : Int)).toNat * 1) 0)) (by kernel_rfl) (fun w h => E.run_load h 0 rfl rfl (E.ld_row (xs := [r0, r1, r2, r3]) (by kernel_rfl) (by simp only [List.length_cons, List.length_nil]; omega))) ?_
            refine E.G.op (.int .u8 (bits .and .u8 ([r0, r1, r2, r3].getD (0 + (((((((M.sub500 a) + ((1 + (s % 4)) - i.1 - 1)) % 4294967296) / 256) % 4 : Nat) : Int)).toNat * 1) 0) 1)) (fun w => by kernel_rfl) (by kernel_rfl) ?_
            refine E.G.op (.bool ((bits .and .u8 ([r0, r1, r2, r3].getD (0 + (((((((M.sub500 a) + ((1 + (s % 4)) - i.1 - 1)) % 4294967296) / 256) % 4 : Nat) : Int)).toNat * 1) 0) 1) == 1)) (fun w => by kernel_rfl) (by kernel_rfl) ?_
            refine E.G.op (.bool ((bits .and .u8 ([r0, r1, r2, r3].getD (0 + (((((((M.sub500 a) + ((1 + (s % 4)) - i.1 - 1)) % 4294967296) / 256) % 4 : Nat) : Int)).toNat * 1) 0) 1) == 1)) (fun w => by kernel_rfl) (by kernel_rfl) ?_
            exact E.G.end_pst ⟨by kernel_rfl, by kernel_rfl⟩ (List.Sublist.refl _) (fun _ h => h)
        refine E.G.op (.bool ((decide (((((M.sub500 a) + ((1 + (s % 4)) - i.1 - 1)) % 4294967296 : Nat) : Int) < 1024)) && ((bits .and .u8 ([r0, r1, r2, r3].getD (0 + (((((((M.sub500 a) + ((1 + (s % 4)) - i.1 - 1)) % 4294967296) / 256) % 4 : Nat) : Int)).toNat * 1) 0) 1) == 1))) (fun w => by kernel_rfl) (by kernel_rfl) ?_
        refine E.To.code ?_
        refine E.C.seq ?_
        refine E.C.region ?_
        refine E.G.op (.bool true) (fun w => by kernel_rfl) (by kernel_rfl) ?_
        refine E.G.op (.bool ((decide (((((M.sub500 a) + ((1 + (s % 4)) - i.1 - 1)) % 4294967296 : Nat) : Int) < 1024)) && ((bits .and .u8 ([r0, r1, r2, r3].getD (0 + (((((((M.sub500 a) + ((1 + (s % 4)) - i.1 - 1)) % 4294967296) / 256) % 4 : Nat) : Int)).toNat * 1) 0) 1) == 1))) (fun w => by kernel_rfl) (by kernel_rfl) ?_
        refine E.G.val (.bool false) (by kernel_rfl) (fun w h => E.run_as (a := .bool (true != ((decide (((((M.sub500 a) + ((1 + (s % 4)) - i.1 - 1)) % 4294967296 : Nat) : Int) < 1024)) && ((bits .and .u8 ([r0, r1, r2, r3].getD (0 + (((((((M.sub500 a) + ((1 + (s % 4)) - i.1 - 1)) % 4294967296) / 256) % 4 : Nat) : Int)).toNat * 1) 0) 1) == 1)))) (by kernel_rfl) (congrArg Value.bool (M.rg_ne hc10 (M.rg_ok h0 h1 h2 h3 _)))) ?_
        refine E.To.code ?_
        refine E.C.condF (by kernel_rfl) (by kernel_rfl) ?_
        refine E.C.skip (E.P.nb (E.To.code ?_))
        refine E.C.region ?_
        refine E.G.op (.int .i64 ((((1 + (s % 4)) - i.1 : Nat) : Int) - 1)) (fun w => by kernel_rfl) (by kernel_rfl) ?_
        refine E.G.val (.int .i64 ((((1 + (s % 4)) - (i.1 + 1) : Nat) : Int) - 1)) (by kernel_rfl) (fun w h => E.run_as (a := .int .i64 (IntKind.wrap .i64 (((((1 + (s % 4)) - i.1 : Nat) : Int) - 1) - 1))) (by kernel_rfl) (congrArg (Value.int .i64) (M.i_dn (by omega) (by have := hk1.1; (first | assumption | ((try simp only [Bool.or_eq_false_iff, Bool.or_eq_true, Bool.and_eq_true, Bool.and_eq_false_iff, Bool.not_eq_eq_eq_not, Bool.not_true, Bool.not_false, decide_eq_true_eq, decide_eq_false_iff_not, ge_iff_le, gt_iff_lt] at *); omega)))))) ?_
        refine E.G.op (.int .i64 ((((1 + (s % 4)) - (i.1 + 1) : Nat) : Int) - 1)) (fun w => by kernel_rfl) (by kernel_rfl) ?_
        exact E.To.round (i.1 + 1, i.2.1, (i.2.2.1 && true), (i.2.2.2.put (((M.sub500 a) + ((1 + (s % 4)) - i.1 - 1)) % 4294967296) 7 1)) (by show (1 + (s % 4)) - (i.1 + 1) < (1 + (s % 4)) - i.1; (first | assumption | ((try simp only [Bool.or_eq_false_iff, Bool.or_eq_true, Bool.and_eq_true, Bool.and_eq_false_iff, Bool.not_eq_eq_eq_not, Bool.not_true, Bool.not_false, decide_eq_true_eq, decide_eq_false_iff_not, ge_iff_le, gt_iff_lt] at *); omega))) (⟨by show i.1 + 1 ≤ (1 + (s % 4)); (first | assumption | ((try simp only [Bool.or_eq_false_iff, Bool.or_eq_true, Bool.and_eq_true, Bool.and_eq_false_iff, Bool.not_eq_eq_eq_not, Bool.not_true, Bool.not_false, decide_eq_true_eq, decide_eq_false_iff_not, ge_iff_le, gt_iff_lt] at *); omega)), by show _ = (M.al _ _ _ _ _ && _); rw [hc10, ← hk1.2.1]; (try simp), by show _ = (M.al _ _ _ _ _ && _); rw [hc11, ← hk1.2.2.1]; (try simp), hk1.2.2.2.put _ _ _⟩) ⟨by kernel_rfl, by kernel_rfl⟩ (List.Sublist.refl _) (fun _ h => h)
      · skip
        refine A.G.call (I := Unit) (D := fun _ => True) (V := fun _ => .tuple #[.int .u32 ((((M.sub500 a) + ((1 + (s % 4)) - i.1 - 1)) % 4294967296 : Nat) : Int), .bool false]) (q := fun _ => [M.It m2 i.2.2.2 ([])]) [A.blk g1 ([.int .u8 r0, .int .u8 r1, .int .u8 r2, .int .u8 r3])] (fun _ => [(g1, [.int .u8 r0, .int .u8 r1, .int .u8 r2, .int .u8 r3])]) (fun _ => [M.It m2 i.2.2.2 ([])]) (M.trF (u := .tuple #[.int .u32 ((((M.sub500 a) + ((1 + (s % 4)) - i.1 - 1)) % 4294967296 : Nat) : Int), .bool false]) (A_Store (m := m2) (V := i.2.2.2) (xs := []) (((M.sub500 a) + ((1 + (s % 4)) - i.1 - 1)) % 4294967296) ((1 : Nat) : Int) 7 (Nat.mod_lt _ (by decide) : (((M.sub500 a) + ((1 + (s % 4)) - i.1 - 1)) % 4294967296) < 4294967296)) (M.sto_f (M.st1 hk1.2.2.2 (Nat.mod_lt _ (by decide) : (((M.sub500 a) + ((1 + (s % 4)) - i.1 - 1)) % 4294967296) < 4294967296) hc11)) (M.st1f hk1.2.2.2 (Nat.mod_lt _ (by decide) : (((M.sub500 a) + ((1 + (s % 4)) - i.1 - 1)) % 4294967296) < 4294967296) hc11)) (by kernel_rfl) (A.pm [1, 0] (by kernel_rfl) (by kernel_rfl)) (fun _ => A.pm [1, 0] (by kernel_rfl) (by kernel_rfl)) (fun w _ => by kernel_rfl) (by kernel_rfl) (fun _ hd17 => ?_)
        refine E.G.op (.tuple #[.int .u32 ((((M.sub500 a) + ((1 + (s % 4)) - i.1 - 1)) % 4294967296 : Nat) : Int), .bool false]) (fun w => by kernel_rfl) (by kernel_rfl) ?_
        refine E.G.op (.int .u32 ((((M.sub500 a) + ((1 + (s % 4)) - i.1 - 1)) % 4294967296 : Nat) : Int)) (fun w => by kernel_rfl) (by kernel_rfl) ?_
        refine E.G.op (.bool false) (fun w => by kernel_rfl) (by kernel_rfl) ?_
        refine E.G.op (.int .u32 ((((M.sub500 a) + ((1 + (s % 4)) - i.1 - 1)) % 4294967296 : Nat) : Int)) (fun w => by kernel_rfl) (by kernel_rfl) ?_
        refine E.G.op (.bool false) (fun w => by kernel_rfl) (by kernel_rfl) ?_
        refine E.To.code ?_
        refine E.C.seq ?_
        refine E.C.seq ?_
        refine E.C.region ?_
        refine E.G.op (.bool true) (fun w => by kernel_rfl) (by kernel_rfl) ?_
        refine E.G.op (.bool false) (fun w => by kernel_rfl) (by kernel_rfl) ?_
        refine E.G.op (.bool false) (fun w => by kernel_rfl) (by kernel_rfl) ?_
        refine E.G.skip (by kernel_rfl) (by kernel_rfl) ?_
        refine E.G.skip (by kernel_rfl) (by kernel_rfl) ?_
        refine E.G.skip (by kernel_rfl) (by kernel_rfl) ?_
        refine E.G.skip (by kernel_rfl) (by kernel_rfl) ?_
        refine E.G.skip (by kernel_rfl) (by kernel_rfl) ?_
        refine E.G.skip (by kernel_rfl) (by kernel_rfl) ?_
        refine E.G.op (.bool false) (fun w => by kernel_rfl) (by kernel_rfl) ?_
        refine E.G.op (.bool false) (fun w => by kernel_rfl) (by kernel_rfl) ?_
        refine E.G.op (.bool false) (fun w => by kernel_rfl) (by kernel_rfl) ?_
        refine E.G.op (.bool true) (fun w => by kernel_rfl) (by kernel_rfl) ?_
        refine E.G.op (.bool true) (fun w => by kernel_rfl) (by kernel_rfl) ?_
        refine E.G.op (.int .u32 ((((M.sub500 a) + ((1 + (s % 4)) - i.1 - 1)) % 4294967296 : Nat) : Int)) (fun w => by kernel_rfl) (by kernel_rfl) ?_
        refine E.G.op (.int .u32 ((M.sub500 a : Nat) : Int)) (fun w => by kernel_rfl) (by kernel_rfl) ?_
        refine E.G.op (.int .i64 ((((1 + (s % 4)) - i.1 : Nat) : Int) - 1)) (fun w => by kernel_rfl) (by kernel_rfl) ?_
        refine E.G.val (.int .u32 (((1 + (s % 4)) - i.1 - 1 : Nat) : Int)) (by kernel_rfl) (fun w h => E.run_as (a := .int .u32 (IntKind.wrap .u32 ((((1 + (s % 4)) - i.1 : Nat) : Int) - 1))) (by kernel_rfl) (congrArg (Value.int .u32) (M.i_32 (by omega) (by have := hk1.1; (first | assumption | ((try simp only [Bool.or_eq_false_iff, Bool.or_eq_true, Bool.and_eq_true, Bool.and_eq_false_iff, Bool.not_eq_eq_eq_not, Bool.not_true, Bool.not_false, decide_eq_true_eq, decide_eq_false_iff_not, ge_iff_le, gt_iff_lt] at *); omega)))))) ?_
        refine E.G.val (.int .u32 ((((M.sub500 a) + ((1 + (s % 4)) - i.1 - 1)) % 4294967296 : Nat) : Int)) (by kernel_rfl) (fun w h => E.run_as (a := .int .u32 (IntKind.wrap .u32 (((M.sub500 a : Nat) : Int) + (((1 + (s % 4)) - i.1 - 1 : Nat) : Int)))) (by kernel_rfl) (congrArg (Value.int .u32) (by exact Nz.add32 (M.sub500 a) ((1 + (s % 4)) - i.1 - 1)))) ?_
        refine E.G.val (.bool false) (by kernel_rfl) (fun w h => E.run_as (a := .bool (((((M.sub500 a) + ((1 + (s % 4)) - i.1 - 1)) % 4294967296 : Nat) : Int) != ((((M.sub500 a) + ((1 + (s % 4)) - i.1 - 1)) % 4294967296 : Nat) : Int))) (by kernel_rfl) (congrArg Value.bool (bne_self_eq_false _))) ?_
        refine E.G.op (.bool false) (fun w => by kernel_rfl) (by kernel_rfl) ?_
        refine E.G.op (.bool false) (fun w => by kernel_rfl) (by kernel_rfl) ?_
        refine E.To.code ?_
        refine E.C.condF (by kernel_rfl) (by kernel_rfl) ?_
        refine E.C.skip (E.To.code ?_)
        refine E.C.seq ?_
        refine E.C.seq ?_
        refine E.C.region ?_
        refine E.G.op (.bool true) (fun w => by kernel_rfl) (by kernel_rfl) ?_
        refine E.G.op (.bool false) (fun w => by kernel_rfl) (by kernel_rfl) ?_
        refine E.To.code ?_
        refine E.C.condF (by kernel_rfl) (by kernel_rfl) ?_
        refine E.C.skip (E.To.code ?_)
        refine E.C.seq ?_
        refine E.C.region ?_
        refine E.G.op (.bool i.2.2.1) (fun w => by kernel_rfl) (by kernel_rfl) ?_
        refine E.G.op (.bool i.2.2.1) (fun w => by kernel_rfl) (by kernel_rfl) ?_
        refine E.G.cut 2 [(1, .int .u32 ((M.sub500 a : Nat) : Int)), (3, .pointer (some ⟨g1, 0, none⟩)), (6, .bool false), (7, .bool true), (8, .pointer (some ⟨m2, 0, none⟩)), (10, .int .i64 ((1 + (s % 4) : Nat) : Int)), (12, .int .u32 (((M.rg r0 r1 r2 r3).chk (M.sub500 a) 1 ((1 + (s % 4) : Nat) : Int)).1)), (13, .bool (((M.rg r0 r1 r2 r3).chk (M.sub500 a) 1 ((1 + (s % 4) : Nat) : Int)).2)), (14, .int .u32 (((M.rg r0 r1 r2 r3).chk (M.sub500 a) 2 ((1 + (s % 4) : Nat) : Int)).1)), (15, .bool (((M.rg r0 r1 r2 r3).chk (M.sub500 a) 2 ((1 + (s % 4) : Nat) : Int)).2)), (16, .bool i.2.1), (17, .bool i.2.2.1), (18, .int .i64 ((((1 + (s % 4)) - i.1 : Nat) : Int) - 1)), (20, .int .u32 0), (21, .bool true), (22, .int .u32 ((((M.sub500 a) + ((1 + (s % 4)) - i.1 - 1)) % 4294967296 : Nat) : Int)), (23, .bool false), (63, .int .i64 ((((1 + (s % 4)) - i.1 : Nat) : Int) - 1)), (64, .bool (decide (((((1 + (s % 4)) - i.1 : Nat) : Int) - 1) ≥ 0))), (67, .tuple #[.int .u32 ((i.2.2.2.load (((M.sub500 a) + ((1 + (s % 4)) - i.1 - 1)) % 4294967296) 1).1), .int .u32 0, .bool true]), (68, .pointer (some ⟨m2, 0, none⟩)), (69, .int .u32 ((M.sub500 a : Nat) : Int)), (70, .int .i64 ((((1 + (s % 4)) - i.1 : Nat) : Int) - 1)), (71, .int .u32 (((1 + (s % 4)) - i.1 - 1 : Nat) : Int)), (72, .int .u32 ((((M.sub500 a) + ((1 + (s % 4)) - i.1 - 1)) % 4294967296 : Nat) : Int)), (73, .tuple #[.int .u32 ((i.2.2.2.load (((M.sub500 a) + ((1 + (s % 4)) - i.1 - 1)) % 4294967296) 1).1), .int .u32 0, .bool true]), (74, .int .u32 ((i.2.2.2.load (((M.sub500 a) + ((1 + (s % 4)) - i.1 - 1)) % 4294967296) 1).1)), (75, .int .u32 0), (76, .bool true), (77, .tuple #[.int .u32 ((((M.sub500 a) + ((1 + (s % 4)) - i.1 - 1)) % 4294967296 : Nat) : Int), .bool false]), (78, .pointer (some ⟨m2, 0, none⟩)), (79, .int .u32 ((M.sub500 a : Nat) : Int)), (80, .int .i64 ((((1 + (s % 4)) - i.1 : Nat) : Int) - 1)), (81, .int .u32 (((1 + (s % 4)) - i.1 - 1 : Nat) : Int)), (82, .int .u32 ((((M.sub500 a) + ((1 + (s % 4)) - i.1 - 1)) % 4294967296 : Nat) : Int)), (83, .tuple #[.int .u32 ((((M.sub500 a) + ((1 + (s % 4)) - i.1 - 1)) % 4294967296 : Nat) : Int), .bool false]), (84, .int .u32 ((((M.sub500 a) + ((1 + (s % 4)) - i.1 - 1)) % 4294967296 : Nat) : Int)), (85, .bool false), (86, .bool true), (87, .bool false), (88, .bool false), (89, undef), (90, undef), (91, undef), (92, undef), (93, undef), (94, undef), (95, .bool false), (96, .bool false), (97, .bool false), (98, .bool true), (99, .bool true), (100, .int .u32 ((((M.sub500 a) + ((1 + (s % 4)) - i.1 - 1)) % 4294967296 : Nat) : Int)), (101, .int .u32 ((M.sub500 a : Nat) : Int)), (102, .int .i64 ((((1 + (s % 4)) - i.1 : Nat) : Int) - 1)), (103, .int .u32 (((1 + (s % 4)) - i.1 - 1 : Nat) : Int)), (104, .int .u32 ((((M.sub500 a) + ((1 + (s % 4)) - i.1 - 1)) % 4294967296 : Nat) : Int)), (105, .bool false), (106, .bool false), (107, .bool false), (108, .bool true), (109, .bool false), (134, .bool i.2.2.1), (135, .bool i.2.2.1), (137, .bool false)] (A.X w oo aa [M.It m2 i.2.2.2 ([])]) [(g1, [.int .u8 r0, .int .u8 r1, .int .u8 r2, .int .u8 r3])] ?_ ?_
        · generalize hc18 : i.2.2.1 = b19
          cases b19
          · skip
            refine E.G.skip (by kernel_rfl) (by kernel_rfl) ?_
            refine E.G.op (.bool false) (fun w => by kernel_rfl) (by kernel_rfl) ?_
            exact E.G.end_pst ⟨by kernel_rfl, by kernel_rfl⟩ (List.Sublist.refl _) (fun _ h => h)
          · skip
            refine E.G.op (.bool false) (fun w => by kernel_rfl) (by kernel_rfl) ?_
            refine E.G.op (.bool false) (fun w => by kernel_rfl) (by kernel_rfl) ?_
            exact E.G.end_pst ⟨by kernel_rfl, by kernel_rfl⟩ (List.Sublist.refl _) (fun _ h => h)
        refine E.G.op (.bool false) (fun w => by kernel_rfl) (by kernel_rfl) ?_
        refine E.To.code ?_
        refine E.C.seq ?_
        refine E.C.region ?_
        refine E.G.op (.int .u32 ((M.sub500 a : Nat) : Int)) (fun w => by kernel_rfl) (by kernel_rfl) ?_
        refine E.G.op (.int .i64 ((((1 + (s % 4)) - i.1 : Nat) : Int) - 1)) (fun w => by kernel_rfl) (by kernel_rfl) ?_
        refine E.G.val (.int .u32 (((1 + (s % 4)) - i.1 - 1 : Nat) : Int)) (by kernel_rfl) (fun w h => E.run_as (a := .int .u32 (IntKind.wrap .u32 ((((1 + (s % 4)) - i.1 : Nat) : Int) - 1))) (by kernel_rfl) (congrArg (Value.int .u32) (M.i_32 (by omega) (by have := hk1.1; (first | assumption | ((try simp only [Bool.or_eq_false_iff, Bool.or_eq_true, Bool.and_eq_true, Bool.and_eq_false_iff, Bool.not_eq_eq_eq_not, Bool.not_true, Bool.not_false, decide_eq_true_eq, decide_eq_false_iff_not, ge_iff_le, gt_iff_lt] at *); omega)))))) ?_
        refine E.G.val (.int .u32 ((((M.sub500 a) + ((1 + (s % 4)) - i.1 - 1)) % 4294967296 : Nat) : Int)) (by kernel_rfl) (fun w h => E.run_as (a := .int .u32 (IntKind.wrap .u32 (((M.sub500 a : Nat) : Int) + (((1 + (s % 4)) - i.1 - 1 : Nat) : Int)))) (by kernel_rfl) (congrArg (Value.int .u32) (by exact Nz.add32 (M.sub500 a) ((1 + (s % 4)) - i.1 - 1)))) ?_
        refine E.G.op (.bool (decide (((((M.sub500 a) + ((1 + (s % 4)) - i.1 - 1)) % 4294967296 : Nat) : Int) < 1024))) (fun w => by kernel_rfl) (by kernel_rfl) ?_
        refine E.G.op (.bool (decide (((((M.sub500 a) + ((1 + (s % 4)) - i.1 - 1)) % 4294967296 : Nat) : Int) < 1024))) (fun w => by kernel_rfl) (by kernel_rfl) ?_
        refine E.To.code ?_
        refine E.C.seq ?_
        refine E.C.region ?_
        refine E.G.op (.bool (decide (((((M.sub500 a) + ((1 + (s % 4)) - i.1 - 1)) % 4294967296 : Nat) : Int) < 1024))) (fun w => by kernel_rfl) (by kernel_rfl) ?_
        refine E.G.op (.bool (decide (((((M.sub500 a) + ((1 + (s % 4)) - i.1 - 1)) % 4294967296 : Nat) : Int) < 1024))) (fun w => by kernel_rfl) (by kernel_rfl) ?_
        refine E.G.cut 11 [(1, .int .u32 ((M.sub500 a : Nat) : Int)), (3, .pointer (some ⟨g1, 0, none⟩)), (6, .bool false), (7, .bool true), (8, .pointer (some ⟨m2, 0, none⟩)), (10, .int .i64 ((1 + (s % 4) : Nat) : Int)), (12, .int .u32 (((M.rg r0 r1 r2 r3).chk (M.sub500 a) 1 ((1 + (s % 4) : Nat) : Int)).1)), (13, .bool (((M.rg r0 r1 r2 r3).chk (M.sub500 a) 1 ((1 + (s % 4) : Nat) : Int)).2)), (14, .int .u32 (((M.rg r0 r1 r2 r3).chk (M.sub500 a) 2 ((1 + (s % 4) : Nat) : Int)).1)), (15, .bool (((M.rg r0 r1 r2 r3).chk (M.sub500 a) 2 ((1 + (s % 4) : Nat) : Int)).2)), (16, .bool i.2.1), (17, .bool false), (18, .int .i64 ((((1 + (s % 4)) - i.1 : Nat) : Int) - 1)), (20, .int .u32 0), (21, .bool true), (22, .int .u32 ((((M.sub500 a) + ((1 + (s % 4)) - i.1 - 1)) % 4294967296 : Nat) : Int)), (23, .bool false), (24, .bool (decide (((((M.sub500 a) + ((1 + (s % 4)) - i.1 - 1)) % 4294967296 : Nat) : Int) < 1024))), (63, .int .i64 ((((1 + (s % 4)) - i.1 : Nat) : Int) - 1)), (64, .bool (decide (((((1 + (s % 4)) - i.1 : Nat) : Int) - 1) ≥ 0))), (67, .tuple #[.int .u32 ((i.2.2.2.load (((M.sub500 a) + ((1 + (s % 4)) - i.1 - 1)) % 4294967296) 1).1), .int .u32 0, .bool true]), (68, .pointer (some ⟨m2, 0, none⟩)), (69, .int .u32 ((M.sub500 a : Nat) : Int)), (70, .int .i64 ((((1 + (s % 4)) - i.1 : Nat) : Int) - 1)), (71, .int .u32 (((1 + (s % 4)) - i.1 - 1 : Nat) : Int)), (72, .int .u32 ((((M.sub500 a) + ((1 + (s % 4)) - i.1 - 1)) % 4294967296 : Nat) : Int)), (73, .tuple #[.int .u32 ((i.2.2.2.load (((M.sub500 a) + ((1 + (s % 4)) - i.1 - 1)) % 4294967296) 1).1), .int .u32 0, .bool true]), (74, .int .u32 ((i.2.2.2.load (((M.sub500 a) + ((1 + (s % 4)) - i.1 - 1)) % 4294967296) 1).1)), (75, .int .u32 0), (76, .bool true), (77, .tuple #[.int .u32 ((((M.sub500 a) + ((1 + (s % 4)) - i.1 - 1)) % 4294967296 : Nat) : Int), .bool false]), (78, .pointer (some ⟨m2, 0, none⟩)), (79, .int .u32 ((M.sub500 a : Nat) : Int)), (80, .int .i64 ((((1 + (s % 4)) - i.1 : Nat) : Int) - 1)), (81, .int .u32 (((1 + (s % 4)) - i.1 - 1 : Nat) : Int)), (82, .int .u32 ((((M.sub500 a) + ((1 + (s % 4)) - i.1 - 1)) % 4294967296 : Nat) : Int)), (83, .tuple #[.int .u32 ((((M.sub500 a) + ((1 + (s % 4)) - i.1 - 1)) % 4294967296 : Nat) : Int), .bool false]), (84, .int .u32 ((((M.sub500 a) + ((1 + (s % 4)) - i.1 - 1)) % 4294967296 : Nat) : Int)), (85, .bool false), (86, .bool true), (87, .bool false), (88, .bool false), (89, undef), (90, undef), (91, undef), (92, undef), (93, undef), (94, undef), (95, .bool false), (96, .bool false), (97, .bool false), (98, .bool true), (99, .bool true), (100, .int .u32 ((((M.sub500 a) + ((1 + (s % 4)) - i.1 - 1)) % 4294967296 : Nat) : Int)), (101, .int .u32 ((M.sub500 a : Nat) : Int)), (102, .int .i64 ((((1 + (s % 4)) - i.1 : Nat) : Int) - 1)), (103, .int .u32 (((1 + (s % 4)) - i.1 - 1 : Nat) : Int)), (104, .int .u32 ((((M.sub500 a) + ((1 + (s % 4)) - i.1 - 1)) % 4294967296 : Nat) : Int)), (105, .bool false), (106, .bool false), (107, .bool false), (108, .bool true), (109, .bool false), (134, .bool i.2.2.1), (135, .bool i.2.2.1), (137, .bool false), (138, .int .u32 ((M.sub500 a : Nat) : Int)), (139, .int .i64 ((((1 + (s % 4)) - i.1 : Nat) : Int) - 1)), (140, .int .u32 (((1 + (s % 4)) - i.1 - 1 : Nat) : Int)), (141, .int .u32 ((((M.sub500 a) + ((1 + (s % 4)) - i.1 - 1)) % 4294967296 : Nat) : Int)), (142, .bool (decide (((((M.sub500 a) + ((1 + (s % 4)) - i.1 - 1)) % 4294967296 : Nat) : Int) < 1024))), (143, .bool (decide (((((M.sub500 a) + ((1 + (s % 4)) - i.1 - 1)) % 4294967296 : Nat) : Int) < 1024))), (144, .bool (decide (((((M.sub500 a) + ((1 + (s % 4)) - i.1 - 1)) % 4294967296 : Nat) : Int) < 1024))), (155, .bool ((decide (((((M.sub500 a) + ((1 + (s % 4)) - i.1 - 1)) % 4294967296 : Nat) : Int) < 1024)) && ((bits .and .u8 ([r0, r1, r2, r3].getD (0 + (((((((M.sub500 a) + ((1 + (s % 4)) - i.1 - 1)) % 4294967296) / 256) % 4 : Nat) : Int)).toNat * 1) 0) 1) == 1)))] (A.X w oo aa [M.It m2 i.2.2.2 ([])]) [(g1, [.int .u8 r0, .int .u8 r1, .int .u8 r2, .int .u8 r3])] ?_ ?_
        · generalize hc20 : (decide (((((M.sub500 a) + ((1 + (s % 4)) - i.1 - 1)) % 4294967296 : Nat) : Int) < 1024)) = b21
          cases b21
          · skip
            refine E.G.skip (by kernel_rfl) (by kernel_rfl) ?_
            refine E.G.skip (by kernel_rfl) (by kernel_rfl) ?_
            refine E.G.skip (by kernel_rfl) (by kernel_rfl) ?_
            refine E.G.skip (by kernel_rfl) (by kernel_rfl) ?_
            refine E.G.skip (by kernel_rfl) (by kernel_rfl) ?_
            refine E.G.skip (by kernel_rfl) (by kernel_rfl) ?_
            refine E.G.skip (by kernel_rfl) (by kernel_rfl) ?_
            refine E.G.skip (by kernel_rfl) (by kernel_rfl) ?_
            refine E.G.skip (by kernel_rfl) (by kernel_rfl) ?_
            refine E.G.skip (by kernel_rfl) (by kernel_rfl) ?_
            refine E.G.op (.bool false) (fun w => by kernel_rfl) (by kernel_rfl) ?_
            exact E.G.end_pst ⟨by kernel_rfl, by kernel_rfl⟩ (List.Sublist.refl _) (fun _ h => h)
          · skip
            refine E.G.op (.int .u32 ((M.sub500 a : Nat) : Int)) (fun w => by kernel_rfl) (by kernel_rfl) ?_
            refine E.G.op (.int .i64 ((((1 + (s % 4)) - i.1 : Nat) : Int) - 1)) (fun w => by kernel_rfl) (by kernel_rfl) ?_
            refine E.G.val (.int .u32 (((1 + (s % 4)) - i.1 - 1 : Nat) : Int)) (by kernel_rfl) (fun w h => E.run_as (a := .int .u32 (IntKind.wrap .u32 ((((1 + (s % 4)) - i.1 : Nat) : Int) - 1))) (by kernel_rfl) (congrArg (Value.int .u32) (M.i_32 (by omega) (by have := hk1.1; (first | assumption | ((try simp only [Bool.or_eq_false_iff, Bool.or_eq_true, Bool.and_eq_true, Bool.and_eq_false_iff, Bool.not_eq_eq_eq_not, Bool.not_true, Bool.not_false, decide_eq_true_eq, decide_eq_false_iff_not, ge_iff_le, gt_iff_lt] at *); omega)))))) ?_
            refine E.G.val (.int .u32 ((((M.sub500 a) + ((1 + (s % 4)) - i.1 - 1)) % 4294967296 : Nat) : Int)) (by kernel_rfl) (fun w h => E.run_as (a := .int .u32 (IntKind.wrap .u32 (((M.sub500 a : Nat) : Int) + (((1 + (s % 4)) - i.1 - 1 : Nat) : Int)))) (by kernel_rfl) (congrArg (Value.int .u32) (by exact Nz.add32 (M.sub500 a) ((1 + (s % 4)) - i.1 - 1)))) ?_
            refine E.G.val (.int .u32 (((((M.sub500 a) + ((1 + (s % 4)) - i.1 - 1)) % 4294967296) / 256 : Nat) : Int)) (by kernel_rfl) (fun w h => E.run_as (a := .int .u32 (IntKind.wrap .u32 (Int.tdiv ((((M.sub500 a) + ((1 + (s % 4)) - i.1 - 1)) % 4294967296 : Nat) : Int) 256))) (by kernel_rfl) (congrArg (Value.int .u32) (by exact Nz.quo32 (x := (((M.sub500 a) + ((1 + (s % 4)) - i.1 - 1)) % 4294967296)) 256 (by (first | assumption | ((try simp only [Bool.or_eq_false_iff, Bool.or_eq_true, Bool.and_eq_true, Bool.and_eq_false_iff, Bool.not_eq_eq_eq_not, Bool.not_true, Bool.not_false, decide_eq_true_eq, decide_eq_false_iff_not, ge_iff_le, gt_iff_lt] at *); omega)))))) ?_
            refine E.G.val (.int .u32 ((((((M.sub500 a) + ((1 + (s % 4)) - i.1 - 1)) % 4294967296) / 256) % 4 : Nat) : Int)) (by kernel_rfl) (fun w h => E.run_as (a := .int .u32 (Int.tmod (((((M.sub500 a) + ((1 + (s % 4)) - i.1 - 1)) % 4294967296) / 256 : Nat) : Int) 4)) (by kernel_rfl) (congrArg (Value.int .u32) (by exact Nz.rem ((((M.sub500 a) + ((1 + (s % 4)) - i.1 - 1)) % 4294967296) / 256) 4))) ?_
            refine E.G.val (.pointer (some ⟨g1, 0 + (((((((M.sub500 a) + ((1 + (s % 4)) - i.1 - 1)) % 4294967296) / 256) % 4 : Nat) : Int)).toNat * 1, none⟩)) (by kernel_rfl) (fun w h => E.idxA (e := 5) g1 0 4 1 .u32 (((((((M.sub500 a) + ((1 + (s % 4)) - i.1 - 1)) % 4294967296) / 256) % 4 : Nat) : Int)) (by kernel_rfl) (by kernel_rfl) (by kernel_rfl) (by kernel_rfl) (by omega) (by omega) w) ?_
            refine E.G.val (.int .u8 ([r0, r1, r2, r3].getD (0 + (((((((M.sub500 a) + ((1 + (s % 4)) - i.1 - 1)) % 4294967296) / 256) % 4 : Nat) : Int)).toNat * 1) 0)) (by kernel_rfl) (fun w h => E.run_load h 0 rfl rfl (E.ld_row (xs := [r0, r1, r2, r3]) (by kernel_rfl) (by simp only [List.length_cons, List.length_nil]; omega))) ?_
            refine E.G.op (.int .u8 (bits .and .u8 ([r0, r1, r2, r3].getD (0 + (((((((M.sub500 a) + ((1 + (s % 4)) - i.1 - 1)) % 4294967296) / 256) % 4 : Nat) : Int)).toNat * 1) 0) 1)) (fun w => by kernel_rfl) (by kernel_rfl) ?_
            refine E.G.op (.bool ((bits .and .u8 ([r0, r1, r2, r3].getD (0 + (((((((M.sub500 a) + ((1 + (s % 4)) - i.1 - 1)) % 4294967296) / 256) % 4 : Nat) : Int)).toNat * 1) 0) 1) == 1)) (fun w => by kernel_rfl) (by kernel_rfl) ?_
            refine E.G.op (.bool ((bits .and .u8 ([r0, r1, r2, r3].getD (0 + (((((((M.sub500 a) + ((1 + (s % 4)) - i.1 - 1)) % 4294967296) / 256) % 4 : Nat) : Int)).toNat * 1) 0) 1) == 1)) (fun w => by kernel_rfl) (by kernel_rfl) ?_
            exact E.G.end_pst ⟨by kernel_rfl, by kernel_rfl⟩ (List.Sublist.refl _) (fun _ h => h)
        refine E.G.op (.bool ((decide (((((M.sub500 a) + ((1 + (s % 4)) - i.1 - 1)) % 4294967296 : Nat) : Int) < 1024)) && ((bits .and .u8 ([r0, r1, r2, r3].getD (0 + (((((((M.sub500 a) + ((1 + (s % 4)) - i.1 - 1)) % 4294967296) / 256) % 4 : Nat) : Int)).toNat * 1) 0) 1) == 1))) (fun w => by kernel_rfl) (by kernel_rfl) ?_
        refine E.To.code ?_
        refine E.C.seq ?_
        refine E.C.region ?_
        refine E.G.op (.bool true) (fun w => by kernel_rfl) (by kernel_rfl) ?_
        refine E.G.op (.bool ((decide (((((M.sub500 a) + ((1 + (s % 4)) - i.1 - 1)) % 4294967296 : Nat) : Int) < 1024)) && ((bits .and .u8 ([r0, r1, r2, r3].getD (0 + (((((((M.sub500 a) + ((1 + (s % 4)) - i.1 - 1)) % 4294967296) / 256) % 4 : Nat) : Int)).toNat * 1) 0) 1) == 1))) (fun w => by kernel_rfl) (by kernel_rfl) ?_
        refine E.G.val (.bool false) (by kernel_rfl) (fun w h => E.run_as (a := .bool (true != ((decide (((((M.sub500 a) + ((1 + (s % 4)) - i.1 - 1)) % 4294967296 : Nat) : Int) < 1024)) && ((bits .and .u8 ([r0, r1, r2, r3].getD (0 + (((((((M.sub500 a) + ((1 + (s % 4)) - i.1 - 1)) % 4294967296) / 256) % 4 : Nat) : Int)).toNat * 1) 0) 1) == 1)))) (by kernel_rfl) (congrArg Value.bool (M.rg_ne hc10 (M.rg_ok h0 h1 h2 h3 _)))) ?_
        refine E.To.code ?_
        refine E.C.condF (by kernel_rfl) (by kernel_rfl) ?_
        refine E.C.skip (E.P.nb (E.To.code ?_))
        refine E.C.region ?_
        refine E.G.op (.int .i64 ((((1 + (s % 4)) - i.1 : Nat) : Int) - 1)) (fun w => by kernel_rfl) (by kernel_rfl) ?_
        refine E.G.val (.int .i64 ((((1 + (s % 4)) - (i.1 + 1) : Nat) : Int) - 1)) (by kernel_rfl) (fun w h => E.run_as (a := .int .i64 (IntKind.wrap .i64 (((((1 + (s % 4)) - i.1 : Nat) : Int) - 1) - 1))) (by kernel_rfl) (congrArg (Value.int .i64) (M.i_dn (by omega) (by have := hk1.1; (first | assumption | ((try simp only [Bool.or_eq_false_iff, Bool.or_eq_true, Bool.and_eq_true, Bool.and_eq_false_iff, Bool.not_eq_eq_eq_not, Bool.not_true, Bool.not_false, decide_eq_true_eq, decide_eq_false_iff_not, ge_iff_le, gt_iff_lt] at *); omega)))))) ?_
        refine E.G.op (.int .i64 ((((1 + (s % 4)) - (i.1 + 1) : Nat) : Int) - 1)) (fun w => by kernel_rfl) (by kernel_rfl) ?_
        exact E.To.round (i.1 + 1, i.2.1, false, i.2.2.2) (by show (1 + (s % 4)) - (i.1 + 1) < (1 + (s % 4)) - i.1; (first | assumption | ((try simp only [Bool.or_eq_false_iff, Bool.or_eq_true, Bool.and_eq_true, Bool.and_eq_false_iff, Bool.not_eq_eq_eq_not, Bool.not_true, Bool.not_false, decide_eq_true_eq, decide_eq_false_iff_not, ge_iff_le, gt_iff_lt] at *); omega))) (⟨by show i.1 + 1 ≤ (1 + (s % 4)); (first | assumption | ((try simp only [Bool.or_eq_false_iff, Bool.or_eq_true, Bool.and_eq_true, Bool.and_eq_false_iff, Bool.not_eq_eq_eq_not, Bool.not_true, Bool.not_false, decide_eq_true_eq, decide_eq_false_iff_not, ge_iff_le, gt_iff_lt] at *); omega)), by show _ = (M.al _ _ _ _ _ && _); rw [hc10, ← hk1.2.1]; (try simp), by show _ = (M.al _ _ _ _ _ && _); rw [hc11, ← hk1.2.2.1]; (try simp), hk1.2.2.2⟩) ⟨by kernel_rfl, by kernel_rfl⟩ (List.Sublist.refl _) (fun _ h => h)
    · skip
      refine E.G.call (.tuple #[.int .u32 0, .int .u32 ((((M.sub500 a) + ((1 + (s % 4)) - i.1 - 1)) % 4294967296 : Nat) : Int), .bool false]) (fun w h => A.call_rd [A.blk g1 ([.int .u8 r0, .int .u8 r1, .int .u8 r2, .int .u8 r3])] (M.rdAs (A_Load (m := m2) (V := i.2.2.2) (xs := []) (((M.sub500 a) + ((1 + (s % 4)) - i.1 - 1)) % 4294967296) 1 (Nat.mod_lt _ (by decide) : (((M.sub500 a) + ((1 + (s % 4)) - i.1 - 1)) % 4294967296) < 4294967296)) (v' := .tuple #[.int .u32 0, .int .u32 ((((M.sub500 a) + ((1 + (s % 4)) - i.1 - 1)) % 4294967296 : Nat) : Int), .bool false]) (M.ld1f hk1.2.2.2 (Nat.mod_lt _ (by decide) : (((M.sub500 a) + ((1 + (s % 4)) - i.1 - 1)) % 4294967296) < 4294967296) hc10)) h (by kernel_rfl) (A.pm [1, 0] (by kernel_rfl) (by kernel_rfl))) (fun w _ => by kernel_rfl) (by kernel_rfl) ?_
      refine E.G.op (.tuple #[.int .u32 0, .int .u32 ((((M.sub500 a) + ((1 + (s % 4)) - i.1 - 1)) % 4294967296 : Nat) : Int), .bool false]) (fun w => by kernel_rfl) (by kernel_rfl) ?_
      refine E.G.op (.int .u32 0) (fun w => by kernel_rfl) (by kernel_rfl) ?_
      refine E.G.op (.int .u32 ((((M.sub500 a) + ((1 + (s % 4)) - i.1 - 1)) % 4294967296 : Nat) : Int)) (fun w => by kernel_rfl) (by kernel_rfl) ?_
      refine E.G.op (.bool false) (fun w => by kernel_rfl) (by kernel_rfl) ?_
      refine E.G.op (.int .u32 0) (fun w => by kernel_rfl) (by kernel_rfl) ?_
      refine E.G.op (.int .u32 ((((M.sub500 a) + ((1 + (s % 4)) - i.1 - 1)) % 4294967296 : Nat) : Int)) (fun w => by kernel_rfl) (by kernel_rfl) ?_
      refine E.G.op (.bool false) (fun w => by kernel_rfl) (by kernel_rfl) ?_
      refine E.To.code ?_
      refine E.C.seq ?_
      refine E.C.region ?_
      refine E.G.op (.pointer (some ⟨m2, 0, none⟩)) (fun w => by kernel_rfl) (by kernel_rfl) ?_
      refine E.G.op (.int .u32 ((M.sub500 a : Nat) : Int)) (fun w => by kernel_rfl) (by kernel_rfl) ?_
      refine E.G.op (.int .i64 ((((1 + (s % 4)) - i.1 : Nat) : Int) - 1)) (fun w => by kernel_rfl) (by kernel_rfl) ?_
      refine E.G.val (.int .u32 (((1 + (s % 4)) - i.1 - 1 : Nat) : Int)) (by kernel_rfl) (fun w h => E.run_as (a := .int .u32 (IntKind.wrap .u32 ((((1 + (s % 4)) - i.1 : Nat) : Int) - 1))) (by kernel_rfl) (congrArg (Value.int .u32) (M.i_32 (by omega) (by have := hk1.1; (first | assumption | ((try simp only [Bool.or_eq_false_iff, Bool.or_eq_true, Bool.and_eq_true, Bool.and_eq_false_iff, Bool.not_eq_eq_eq_not, Bool.not_true, Bool.not_false, decide_eq_true_eq, decide_eq_false_iff_not, ge_iff_le, gt_iff_lt] at *); omega)))))) ?_
      refine E.G.val (.int .u32 ((((M.sub500 a) + ((1 + (s % 4)) - i.1 - 1)) % 4294967296 : Nat) : Int)) (by kernel_rfl) (fun w h => E.run_as (a := .int .u32 (IntKind.wrap .u32 (((M.sub500 a : Nat) : Int) + (((1 + (s % 4)) - i.1 - 1 : Nat) : Int)))) (by kernel_rfl) (congrArg (Value.int .u32) (by exact Nz.add32 (M.sub500 a) ((1 + (s % 4)) - i.1 - 1)))) ?_
      refine E.fork ((M.rg r0 r1 r2 r3).ok (((M.sub500 a) + ((1 + (s % 4)) - i.1 - 1)) % 4294967296) 2) (fun hc22 => ?_) (fun hc22 => ?_)
      · skip
        refine A.G.call (I := Unit) (D := fun _ => True) (V := fun _ => .tuple #[.int .u32 0, .bool true]) (q := fun _ => [M.It m2 (i.2.2.2.put (((M.sub500 a) + ((1 + (s % 4)) - i.1 - 1)) % 4294967296) 7 1) ([])]) [A.blk g1 ([.int .u8 r0, .int .u8 r1, .int .u8 r2, .int .u8 r3])] (fun _ => [(g1, [.int .u8 r0, .int .u8 r1, .int .u8 r2, .int .u8 r3])]) (fun _ => [M.It m2 (i.2.2.2.put (((M.sub500 a) + ((1 + (s % 4)) - i.1 - 1)) % 4294967296) 7 1) ([])]) (M.trF (u := .tuple #[.int .u32 0, .bool true]) (A_Store (m := m2) (V := i.2.2.2) (xs := []) (((M.sub500 a) + ((1 + (s % 4)) - i.1 - 1)) % 4294967296) ((1 : Nat) : Int) 7 (Nat.mod_lt _ (by decide) : (((M.sub500 a) + ((1 + (s % 4)) - i.1 - 1)) % 4294967296) < 4294967296)) (M.sto_t (m := 1) (M.st1 hk1.2.2.2 (Nat.mod_lt _ (by decide) : (((M.sub500 a) + ((1 + (s % 4)) - i.1 - 1)) % 4294967296) < 4294967296) hc22)) (M.stv_t (M.st1 hk1.2.2.2 (Nat.mod_lt _ (by decide) : (((M.sub500 a) + ((1 + (s % 4)) - i.1 - 1)) % 4294967296) < 4294967296) hc22))) (by kernel_rfl) (A.pm [1, 0] (by kernel_rfl) (by kernel_rfl)) (fun _ => A.pm [1, 0] (by kernel_rfl) (by kernel_rfl)) (fun w _ => by kernel_rfl) (by kernel_rfl) (fun _ hd23 => ?_)
        refine E.G.op (.tuple #[.int .u32 0, .bool true]) (fun w => by kernel_rfl) (by kernel_rfl) ?_
        refine E.G.op (.int .u32 0) (fun w => by kernel_rfl) (by kernel_rfl) ?_
        refine E.G.op (.bool true) (fun w => by kernel_rfl) (by kernel_rfl) ?_
        refine E.G.op (.int .u32 0) (fun w => by kernel_rfl) (by kernel_rfl) ?_
        refine E.G.op (.bool true) (fun w => by kernel_rfl) (by kernel_rfl) ?_
        refine E.To.code ?_
        refine E.C.seq ?_
        refine E.C.seq ?_
        refine E.C.region ?_
        refine E.G.op (.bool false) (fun w => by kernel_rfl) (by kernel_rfl) ?_
        refine E.G.op (.bool true) (fun w => by kernel_rfl) (by kernel_rfl) ?_
        refine E.G.op (.bool true) (fun w => by kernel_rfl) (by kernel_rfl) ?_
        refine E.G.op (.int .u32 ((((M.sub500 a) + ((1 + (s % 4)) - i.1 - 1)) % 4294967296 : Nat) : Int)) (fun w => by kernel_rfl) (by kernel_rfl) ?_
        refine E.G.op (.int .u32 ((M.sub500 a : Nat) : Int)) (fun w => by kernel_rfl) (by kernel_rfl) ?_
        refine E.G.op (.int .i64 ((((1 + (s % 4)) - i.1 : Nat) : Int) - 1)) (fun w => by kernel_rfl) (by kernel_rfl) ?_
        refine E.G.val (.int .u32 (((1 + (s % 4)) - i.1 - 1 : Nat) : Int)) (by kernel_rfl) (fun w h => E.run_as (a := .int .u32 (IntKind.wrap .u32 ((((1 + (s % 4)) - i.1 : Nat) : Int) - 1))) (by kernel_rfl) (congrArg (Value.int .u32) (M.i_32 (by omega) (by have := hk1.1; (first | assumption | ((try simp only [Bool.or_eq_false_iff, Bool.or_eq_true, Bool.and_eq_true, Bool.and_eq_false_iff, Bool.not_eq_eq_eq_not, Bool.not_true, Bool.not_false, decide_eq_true_eq, decide_eq_false_iff_not, ge_iff_le, gt_iff_lt] at *); omega)))))) ?_
        refine E.G.val (.int .u32 ((((M.sub500 a) + ((1 + (s % 4)) - i.1 - 1)) % 4294967296 : Nat) : Int)) (by kernel_rfl) (fun w h => E.run_as (a := .int .u32 (IntKind.wrap .u32 (((M.sub500 a : Nat) : Int) + (((1 + (s % 4)) - i.1 - 1 : Nat) : Int)))) (by kernel_rfl) (congrArg (Value.int .u32) (by exact Nz.add32 (M.sub500 a) ((1 + (s % 4)) - i.1 - 1)))) ?_
        refine E.G.val (.bool false) (by kernel_rfl) (fun w h => E.run_as (a := .bool (((((M.sub500 a) + ((1 + (s % 4)) - i.1 - 1)) % 4294967296 : Nat) : Int) != ((((M.sub500 a) + ((1 + (s % 4)) - i.1 - 1)) % 4294967296 : Nat) : Int))) (by kernel_rfl) (congrArg Value.bool (bne_self_eq_false _))) ?_
        refine E.G.op (.bool false) (fun w => by kernel_rfl) (by kernel_rfl) ?_
        refine E.G.op (.bool false) (fun w => by kernel_rfl) (by kernel_rfl) ?_
        refine E.G.op (.bool true) (fun w => by kernel_rfl) (by kernel_rfl) ?_
        refine E.G.op (.bool false) (fun w => by kernel_rfl) (by kernel_rfl) ?_
        refine E.G.op (.bool false) (fun w => by kernel_rfl) (by kernel_rfl) ?_
        refine E.G.skip (by kernel_rfl) (by kernel_rfl) ?_
        refine E.G.skip (by kernel_rfl) (by kernel_rfl) ?_
        refine E.G.skip (by kernel_rfl) (by kernel_rfl) ?_
        refine E.G.skip (by kernel_rfl) (by kernel_rfl) ?_
        refine E.G.skip (by kernel_rfl) (by kernel_rfl) ?_
        refine E.G.skip (by kernel_rfl) (by kernel_rfl) ?_
        refine E.G.op (.bool false) (fun w => by kernel_rfl) (by kernel_rfl) ?_
        refine E.G.op (.bool false) (fun w => by kernel_rfl) (by kernel_rfl) ?_
        refine E.To.code ?_
        refine E.C.condF (by kernel_rfl) (by kernel_rfl) ?_
        refine E.C.skip (E.To.code ?_)
        refine E.C.seq ?_
        refine E.C.seq ?_
        refine E.C.region ?_
        refine E.G.op (.bool false) (fun w => by kernel_rfl) (by kernel_rfl) ?_
        refine E.G.op (.bool true) (fun w => by kernel_rfl) (by kernel_rfl) ?_
        refine E.To.code ?_
        refine E.C.condT (by kernel_rfl) (by kernel_rfl) ?_
        refine E.C.seq ?_
        refine E.C.region ?_
        refine E.G.op (.bool false) (fun w => by kernel_rfl) (by kernel_rfl) ?_
        refine E.To.code ?_
        refine E.C.seq ?_
        refine E.C.region ?_
        refine E.G.op (.bool (((M.rg r0 r1 r2 r3).chk (M.sub500 a) 1 ((1 + (s % 4) : Nat) : Int)).2)) (fun w => by kernel_rfl) (by kernel_rfl) ?_
        refine E.G.op (.bool (!(((M.rg r0 r1 r2 r3).chk (M.sub500 a) 1 ((1 + (s % 4) : Nat) : Int)).2))) (fun w => by kernel_rfl) (by kernel_rfl) ?_
        refine E.G.op (.bool (!(((M.rg r0 r1 r2 r3).chk (M.sub500 a) 1 ((1 + (s % 4) : Nat) : Int)).2))) (fun w => by kernel_rfl) (by kernel_rfl) ?_
        refine E.G.cut 7 [(1, .int .u32 ((M.sub500 a : Nat) : Int)), (3, .pointer (some ⟨g1, 0, none⟩)), (6, .bool false), (7, .bool true), (8, .pointer (some ⟨m2, 0, none⟩)), (10, .int .i64 ((1 + (s % 4) : Nat) : Int)), (12, .int .u32 (((M.rg r0 r1 r2 r3).chk (M.sub500 a) 1 ((1 + (s % 4) : Nat) : Int)).1)), (13, .bool (((M.rg r0 r1 r2 r3).chk (M.sub500 a) 1 ((1 + (s % 4) : Nat) : Int)).2)), (14, .int .u32 (((M.rg r0 r1 r2 r3).chk (M.sub500 a) 2 ((1 + (s % 4) : Nat) : Int)).1)), (15, .bool (((M.rg r0 r1 r2 r3).chk (M.sub500 a) 2 ((1 + (s % 4) : Nat) : Int)).2)), (16, .bool false), (17, .bool i.2.2.1), (18, .int .i64 ((((1 + (s % 4)) - i.1 : Nat) : Int) - 1)), (20, .int .u32 ((((M.sub500 a) + ((1 + (s % 4)) - i.1 - 1)) % 4294967296 : Nat) : Int)), (21, .bool false), (22, .int .u32 0), (23, .bool true), (63, .int .i64 ((((1 + (s % 4)) - i.1 : Nat) : Int) - 1)), (64, .bool (decide (((((1 + (s % 4)) - i.1 : Nat) : Int) - 1) ≥ 0))), (67, .tuple #[.int .u32 0, .int .u32 ((((M.sub500 a) + ((1 + (s % 4)) - i.1 - 1)) % 4294967296 : Nat) : Int), .bool false]), (68, .pointer (some ⟨m2, 0, none⟩)), (69, .int .u32 ((M.sub500 a : Nat) : Int)), (70, .int .i64 ((((1 + (s % 4)) - i.1 : Nat) : Int) - 1)), (71, .int .u32 (((1 + (s % 4)) - i.1 - 1 : Nat) : Int)), (72, .int .u32 ((((M.sub500 a) + ((1 + (s % 4)) - i.1 - 1)) % 4294967296 : Nat) : Int)), (73, .tuple #[.int .u32 0, .int .u32 ((((M.sub500 a) + ((1 + (s % 4)) - i.1 - 1)) % 4294967296 : Nat) : Int), .bool false]), (74, .int .u32 0), (75, .int .u32 ((((M.sub500 a) + ((1 + (s % 4)) - i.1 - 1)) % 4294967296 : Nat) : Int)), (76, .bool false), (77, .tuple #[.int .u32 0, .bool true]), (78, .pointer (some ⟨m2, 0, none⟩)), (79, .int .u32 ((M.sub500 a : Nat) : Int)), (80, .int .i64 ((((1 + (s % 4)) - i.1 : Nat) : Int) - 1)), (81, .int .u32 (((1 + (s % 4)) - i.1 - 1 : Nat) : Int)), (82, .int .u32 ((((M.sub500 a) + ((1 + (s % 4)) - i.1 - 1)) % 4294967296 : Nat) : Int)), (83, .tuple #[.int .u32 0, .bool true]), (84, .int .u32 0), (85, .bool true), (86, .bool false), (87, .bool true), (88, .bool true), (89, .int .u32 ((((M.sub500 a) + ((1 + (s % 4)) - i.1 - 1)) % 4294967296 : Nat) : Int)), (90, .int .u32 ((M.sub500 a : Nat) : Int)), (91, .int .i64 ((((1 + (s % 4)) - i.1 : Nat) : Int) - 1)), (92, .int .u32 (((1 + (s % 4)) - i.1 - 1 : Nat) : Int)), (93, .int .u32 ((((M.sub500 a) + ((1 + (s % 4)) - i.1 - 1)) % 4294967296 : Nat) : Int)), (94, .bool false), (95, .bool false), (96, .bool false), (97, .bool true), (98, .bool false), (99, .bool false), (100, undef), (101, undef), (102, undef), (103, undef), (104, undef), (105, undef), (106, .bool false), (107, .bool false), (108, .bool false), (109, .bool true), (110, .bool (((M.rg r0 r1 r2 r3).chk (M.sub500 a) 1 ((1 + (s % 4) : Nat) : Int)).2)), (111, .bool (!(((M.rg r0 r1 r2 r3).chk (M.sub500 a) 1 ((1 + (s % 4) : Nat) : Int)).2))), (112, .bool (!(((M.rg r0 r1 r2 r3).chk (M.sub500 a) 1 ((1 + (s % 4) : Nat) : Int)).2))), (119, .bool ((!(((M.rg r0 r1 r2 r3).chk (M.sub500 a) 1 ((1 + (s % 4) : Nat) : Int)).2)) && (decide ((((M.rg r0 r1 r2 r3).chk (M.sub500 a) 1 ((1 + (s % 4) : Nat) : Int)).1) > ((((M.sub500 a) + ((1 + (s % 4)) - i.1 - 1)) % 4294967296 : Nat) : Int)))))] (A.X w oo aa [M.It m2 (i.2.2.2.put (((M.sub500 a) + ((1 + (s % 4)) - i.1 - 1)) % 4294967296) 7 1) ([])]) [(g1, [.int .u8 r0, .int .u8 r1, .int .u8 r2, .int .u8 r3])] ?_ ?_
        · generalize hc24 : (!(((M.rg r0 r1 r2 r3).chk (M.sub500 a) 1 ((1 + (s % 4) : Nat) : Int)).2)) = b25
          cases b25
          · skip
            refine E.G.skip (by kernel_rfl) (by kernel_rfl) ?_
            refine E.G.skip (by kernel_rfl) (by kernel_rfl) ?_
            refine E.G.skip (by kernel_rfl) (by kernel_rfl) ?_
            refine E.G.skip (by kernel_rfl) (by kernel_rfl) ?_
            refine E.G.skip (by kernel_rfl) (by kernel_rfl) ?_
            refine E.G.skip (by kernel_rfl) (by kernel_rfl) ?_
            refine E.G.op (.bool false) (fun w => by kernel_rfl) (by kernel_rfl) ?_
            exact E.G.end_pst ⟨by kernel_rfl, by kernel_rfl⟩ (List.Sublist.refl _) (fun _ h => h)
          · skip
            refine E.G.op (.int .u32 (((M.rg r0 r1 r2 r3).chk (M.sub500 a) 1 ((1 + (s % 4) : Nat) : Int)).1)) (fun w => by kernel_rfl) (by kernel_rfl) ?_
            refine E.G.op (.int .u32 ((M.sub500 a : Nat) : Int)) (fun w => by kernel_rfl) (by kernel_rfl) ?_
            refine E.G.op (.int .i64 ((((1 + (s % 4)) - i.1 : Nat) : Int) - 1)) (fun w => by kernel_rfl) (by kernel_rfl) ?_
            refine E.G.val (.int .u32 (((1 + (s % 4)) - i.1 - 1 : Nat) : Int)) (by kernel_rfl) (fun w h => E.run_as (a := .int .u32 (IntKind.wrap .u32 ((((1 + (s % 4)) - i.1 : Nat) : Int) - 1))) (by kernel_rfl) (congrArg (Value.int .u32) (M.i_32 (by omega) (by have := hk1.1; (first | assumption | ((try simp only [Bool.or_eq_false_iff, Bool.or_eq_true, Bool.and_eq_true, Bool.and_eq_false_iff, Bool.not_eq_eq_eq_not, Bool.not_true, Bool.not_false, decide_eq_true_eq, decide_eq_false_iff_not, ge_iff_le, gt_iff_lt] at *); omega)))))) ?_
            refine E.G.val (.int .u32 ((((M.sub500 a) + ((1 + (s % 4)) - i.1 - 1)) % 4294967296 : Nat) : Int)) (by kernel_rfl) (fun w h => E.run_as (a := .int .u32 (IntKind.wrap .u32 (((M.sub500 a : Nat) : Int) + (((1 + (s % 4)) - i.1 - 1 : Nat) : Int)))) (by kernel_rfl) (congrArg (Value.int .u32) (by exact Nz.add32 (M.sub500 a) ((1 + (s % 4)) - i.1 - 1)))) ?_
            refine E.G.op (.bool (decide ((((M.rg r0 r1 r2 r3).chk (M.sub500 a) 1 ((1 + (s % 4) : Nat) : Int)).1) > ((((M.sub500 a) + ((1 + (s % 4)) - i.1 - 1)) % 4294967296 : Nat) : Int)))) (fun w => by kernel_rfl) (by kernel_rfl) ?_
            refine E.G.op (.bool (decide ((((M.rg r0 r1 r2 r3).chk (M.sub500 a) 1 ((1 + (s % 4) : Nat) : Int)).1) > ((((M.sub500 a) + ((1 + (s % 4)) - i.1 - 1)) % 4294967296 : Nat) : Int)))) (fun w => by kernel_rfl) (by kernel_rfl) ?_
            exact E.G.end_pst ⟨by kernel_rfl, by kernel_rfl⟩ (List.Sublist.refl _) (fun _ h => h)
        refine E.G.op (.bool ((!(((M.rg r0 r1 r2 r3).chk (M.sub500 a) 1 ((1 + (s % 4) : Nat) : Int)).2)) && (decide ((((M.rg r0 r1 r2 r3).chk (M.sub500 a) 1 ((1 + (s % 4) : Nat) : Int)).1) > ((((M.sub500 a) + ((1 + (s % 4)) - i.1 - 1)) % 4294967296 : Nat) : Int))))) (fun w => by kernel_rfl) (by kernel_rfl) ?_
        refine E.G.cut 5 [(1, .int .u32 ((M.sub500 a : Nat) : Int)), (3, .pointer (some ⟨g1, 0, none⟩)), (6, .bool false), (7, .bool true), (8, .pointer (some ⟨m2, 0, none⟩)), (10, .int .i64 ((1 + (s % 4) : Nat) : Int)), (12, .int .u32 (((M.rg r0 r1 r2 r3).chk (M.sub500 a) 1 ((1 + (s % 4) : Nat) : Int)).1)), (13, .bool (((M.rg r0 r1 r2 r3).chk (M.sub500 a) 1 ((1 + (s % 4) : Nat) : Int)).2)), (14, .int .u32 (((M.rg r0 r1 r2 r3).chk (M.sub500 a) 2 ((1 + (s % 4) : Nat) : Int)).1)), (15, .bool (((M.rg r0 r1 r2 r3).chk (M.sub500 a) 2 ((1 + (s % 4) : Nat) : Int)).2)), (16, .bool false), (17, .bool i.2.2.1), (18, .int .i64 ((((1 + (s % 4)) - i.1 : Nat) : Int) - 1)), (20, .int .u32 ((((M.sub500 a) + ((1 + (s % 4)) - i.1 - 1)) % 4294967296 : Nat) : Int)), (21, .bool false), (22, .int .u32 0), (23, .bool true), (63, .int .i64 ((((1 + (s % 4)) - i.1 : Nat) : Int) - 1)), (64, .bool (decide (((((1 + (s % 4)) - i.1 : Nat) : Int) - 1) ≥ 0))), (67, .tuple #[.int .u32 0, .int .u32 ((((M.sub500 a) + ((1 + (s % 4)) - i.1 - 1)) % 4294967296 : Nat) : Int), .bool false]), (68, .pointer (some ⟨m2, 0, none⟩)), (69, .int .u32 ((M.sub500 a : Nat) : Int)), (70, .int .i64 ((((1 + (s % 4)) - i.1 : Nat) : Int) - 1)), (71, .int .u32 (((1 + (s % 4)) - i.1 - 1 : Nat) : Int)), (72, .int .u32 ((((M.sub500 a) + ((1 + (s % 4)) - i.1 - 1)) % 4294967296 : Nat) : Int)), (73, .tuple #[.int .u32 0, .int .u32 ((((M.sub500 a) + ((1 + (s % 4)) - i.1 - 1)) % 4294967296 : Nat) : Int), .bool false]), (74, .int .u32 0), (75, .int .u32 ((((M.sub500 a) + ((1 + (s % 4)) - i.1 - 1)) % 4294967296 : Nat) : Int)), (76, .bool false), (77, .tuple #[.int .u32 0, .bool true]), (78, .pointer (some ⟨m2, 0, none⟩)), (79, .int .u32 ((M.sub500 a : Nat) : Int)), (80, .int .i64 ((((1 + (s % 4)) - i.1 : Nat) : Int) - 1)), (81, .int .u32 (((1 + (s % 4)) - i.1 - 1 : Nat) : Int)), (82, .int .u32 ((((M.sub500 a) + ((1 + (s % 4)) - i.1 - 1)) % 4294967296 : Nat) : Int)), (83, .tuple #[.int .u32 0, .bool true]), (84, .int .u32 0), (85, .bool true), (86, .bool false), (87, .bool true), (88, .bool true), (89, .int .u32 ((((M.sub500 a) + ((1 + (s % 4)) - i.1 - 1)) % 4294967296 : Nat) : Int)), (90, .int .u32 ((M.sub500 a : Nat) : Int)), (91, .int .i64 ((((1 + (s % 4)) - i.1 : Nat) : Int) - 1)), (92, .int .u32 (((1 + (s % 4)) - i.1 - 1 : Nat) : Int)), (93, .int .u32 ((((M.sub500 a) + ((1 + (s % 4)) - i.1 - 1)) % 4294967296 : Nat) : Int)), (94, .bool false), (95, .bool false), (96, .bool false), (97, .bool true), (98, .bool false), (99, .bool false), (100, undef), (101, undef), (102, undef), (103, undef), (104, undef), (105, undef), (106, .bool false), (107, .bool false), (108, .bool false), (109, .bool true), (110, .bool (((M.rg r0 r1 r2 r3).chk (M.sub500 a) 1 ((1 + (s % 4) : Nat) : Int)).2)), (111, .bool (!(((M.rg r0 r1 r2 r3).chk (M.sub500 a) 1 ((1 + (s % 4) : Nat) : Int)).2))), (112, .bool (!(((M.rg r0 r1 r2 r3).chk (M.sub500 a) 1 ((1 + (s % 4) : Nat) : Int)).2))), (119, .bool ((!(((M.rg r0 r1 r2 r3).chk (M.sub500 a) 1 ((1 + (s % 4) : Nat) : Int)).2)) && (decide ((((M.rg r0 r1 r2 r3).chk (M.sub500 a) 1 ((1 + (s % 4) : Nat) : Int)).1) > ((((M.sub500 a) + ((1 + (s % 4)) - i.1 - 1)) % 4294967296 : Nat) : Int))))), (120, .bool ((!(((M.rg r0 r1 r2 r3).chk (M.sub500 a) 1 ((1 + (s % 4) : Nat) : Int)).2)) && (decide ((((M.rg r0 r1 r2 r3).chk (M.sub500 a) 1 ((1 + (s % 4) : Nat) : Int)).1) > ((((M.sub500 a) + ((1 + (s % 4)) - i.1 - 1)) % 4294967296 : Nat) : Int))))), (125, .bool (((!(((M.rg r0 r1 r2 r3).chk (M.sub500 a) 1 ((1 + (s % 4) : Nat) : Int)).2)) && (decide ((((M.rg r0 r1 r2 r3).chk (M.sub500 a) 1 ((1 + (s % 4) : Nat) : Int)).1) > ((((M.sub500 a) + ((1 + (s % 4)) - i.1 - 1)) % 4294967296 : Nat) : Int)))) && (decide ((IntKind.wrap .u32 ((((M.rg r0 r1 r2 r3).chk (M.sub500 a) 1 ((1 + (s % 4) : Nat) : Int)).1) - ((M.sub500 a : Nat) : Int))) < 4))))] (A.X w oo aa [M.It m2 (i.2.2.2.put (((M.sub500 a) + ((1 + (s % 4)) - i.1 - 1)) % 4294967296) 7 1) ([])]) [(g1, [.int .u8 r0, .int .u8 r1, .int .u8 r2, .int .u8 r3])] ?_ ?_
        · generalize hc26 : ((!(((M.rg r0 r1 r2 r3).chk (M.sub500 a) 1 ((1 + (s % 4) : Nat) : Int)).2)) && (decide ((((M.rg r0 r1 r2 r3).chk (M.sub500 a) 1 ((1 + (s % 4) : Nat) : Int)).1) > ((((M.sub500 a) + ((1 + (s % 4)) - i.1 - 1)) % 4294967296 : Nat) : Int)))) = b27
          cases b27
          · skip
            refine E.G.skip (by kernel_rfl) (by kernel_rfl) ?_
            refine E.G.skip (by kernel_rfl) (by kernel_rfl) ?_
            refine E.G.skip (by kernel_rfl) (by kernel_rfl) ?_
            refine E.G.skip (by kernel_rfl) (by kernel_rfl) ?_
            refine E.G.op (.bool false) (fun w => by kernel_rfl) (by kernel_rfl) ?_
            exact E.G.end_pst ⟨by kernel_rfl, by kernel_rfl⟩ (List.Sublist.refl _) (fun _ h => h)
          · skip
            refine E.G.op (.int .u32 (((M.rg r0 r1 r2 r3).chk (M.sub500 a) 1 ((1 + (s % 4) : Nat) : Int)).1)) (fun w => by kernel_rfl) (by kernel_rfl) ?_
            refine E.G.op (.int .u32 ((M.sub500 a : Nat) : Int)) (fun w => by kernel_rfl) (by kernel_rfl) ?_
            refine E.G.op (.int .u32 (IntKind.wrap .u32 ((((M.rg r0 r1 r2 r3).chk (M.sub500 a) 1 ((1 + (s % 4) : Nat) : Int)).1) - ((M.sub500 a : Nat) : Int)))) (fun w => by kernel_rfl) (by kernel_rfl) ?_
            refine E.G.op (.bool (decide ((IntKind.wrap .u32 ((((M.rg r0 r1 r2 r3).chk (M.sub500 a) 1 ((1 + (s % 4) : Nat) : Int)).1) - ((M.sub500 a : Nat) : Int))) < 4))) (fun w => by kernel_rfl) (by kernel_rfl) ?_
            refine E.G.op (.bool (decide ((IntKind.wrap .u32 ((((M.rg r0 r1 r2 r3).chk (M.sub500 a) 1 ((1 + (s % 4) : Nat) : Int)).1) - ((M.sub500 a : Nat) : Int))) < 4))) (fun w => by kernel_rfl) (by kernel_rfl) ?_
            exact E.G.end_pst ⟨by kernel_rfl, by kernel_rfl⟩ (List.Sublist.refl _) (fun _ h => h)
        refine E.G.op (.bool (((!(((M.rg r0 r1 r2 r3).chk (M.sub500 a) 1 ((1 + (s % 4) : Nat) : Int)).2)) && (decide ((((M.rg r0 r1 r2 r3).chk (M.sub500 a) 1 ((1 + (s % 4) : Nat) : Int)).1) > ((((M.sub500 a) + ((1 + (s % 4)) - i.1 - 1)) % 4294967296 : Nat) : Int)))) && (decide ((IntKind.wrap .u32 ((((M.rg r0 r1 r2 r3).chk (M.sub500 a) 1 ((1 + (s % 4) : Nat) : Int)).1) - ((M.sub500 a : Nat) : Int))) < 4)))) (fun w => by kernel_rfl) (by kernel_rfl) ?_
        refine E.G.cut 7 [(1, .int .u32 ((M.sub500 a : Nat) : Int)), (3, .pointer (some ⟨g1, 0, none⟩)), (6, .bool false), (7, .bool true), (8, .pointer (some ⟨m2, 0, none⟩)), (10, .int .i64 ((1 + (s % 4) : Nat) : Int)), (12, .int .u32 (((M.rg r0 r1 r2 r3).chk (M.sub500 a) 1 ((1 + (s % 4) : Nat) : Int)).1)), (13, .bool (((M.rg r0 r1 r2 r3).chk (M.sub500 a) 1 ((1 + (s % 4) : Nat) : Int)).2)), (14, .int .u32 (((M.rg r0 r1 r2 r3).chk (M.sub500 a) 2 ((1 + (s % 4) : Nat) : Int)).1)), (15, .bool (((M.rg r0 r1 r2 r3).chk (M.sub500 a) 2 ((1 + (s % 4) : Nat) : Int)).2)), (16, .bool false), (17, .bool i.2.2.1), (18, .int .i64 ((((1 + (s % 4)) - i.1 : Nat) : Int) - 1)), (20, .int .u32 ((((M.sub500 a) + ((1 + (s % 4)) - i.1 - 1)) % 4294967296 : Nat) : Int)), (21, .bool false), (22, .int .u32 0), (23, .bool true), (63, .int .i64 ((((1 + (s % 4)) - i.1 : Nat) : Int) - 1)), (64, .bool (decide (((((1 + (s % 4)) - i.1 : Nat) : Int) - 1) ≥ 0))), (67, .tuple #[.int .u32 0, .int .u32 ((((M.sub500 a) + ((1 + (s % 4)) - i.1 - 1)) % 4294967296 : Nat) : Int), .bool false]), (68, .pointer (some ⟨m2, 0, none⟩)), (69, .int .u32 ((M.sub500 a : Nat) : Int)), (70, .int .i64 ((((1 + (s % 4)) - i.1 : Nat) : Int) - 1)), (71, .int .u32 (((1 + (s % 4)) - i.1 - 1 : Nat) : Int)), (72, .int .u32 ((((M.sub500 a) + ((1 + (s % 4)) - i.1 - 1)) % 4294967296 : Nat) : Int)), (73, .tuple #[.int .u32 0, .int .u32 ((((M.sub500 a) + ((1 + (s % 4)) - i.1 - 1)) % 4294967296 : Nat) : Int), .bool false]), (74, .int .u32 0), (75, .int .u32 ((((M.sub500 a) + ((1 + (s % 4)) - i.1 - 1)) % 4294967296 : Nat) : Int)), (76, .bool false), (77, .tuple #[.int .u32 0, .bool true]), (78, .pointer (some ⟨m2, 0, none⟩)), (79, .int .u32 ((M.sub500 a : Nat) : Int)), (80, .int .i64 ((((1 + (s % 4)) - i.1 : Nat) : Int) - 1)), (81, .int .u32 (((1 + (s % 4)) - i.1 - 1 : Nat) : Int)), (82, .int .u32 ((((M.sub500 a) + ((1 + (s % 4)) - i.1 - 1)) % 4294967296 : Nat) : Int)), (83, .tuple #[.int .u32 0, .bool true]), (84, .int .u32 0), (85, .bool true), (86, .bool false), (87, .bool true), (88, .bool true), (89, .int .u32 ((((M.sub500 a) + ((1 + (s % 4)) - i.1 - 1)) % 4294967296 : Nat) : Int)), (90, .int .u32 ((M.sub500 a : Nat) : Int)), (91, .int .i64 ((((1 + (s % 4)) - i.1 : Nat) : Int) - 1)), (92, .int .u32 (((1 + (s % 4)) - i.1 - 1 : Nat) : Int)), (93, .int .u32 ((((M.sub500 a) + ((1 + (s % 4)) - i.1 - 1)) % 4294967296 : Nat) : Int)), (94, .bool false), (95, .bool false), (96, .bool false), (97, .bool true), (98, .bool false), (99, .bool false), (100, undef), (101, undef), (102, undef), (103, undef), (104, undef), (105, undef), (106, .bool false), (107, .bool false), (108, .bool false), (109, .bool true), (110, .bool (((M.rg r0 r1 r2 r3).chk (M.sub500 a) 1 ((1 + (s % 4) : Nat) : Int)).2)), (111, .bool (!(((M.rg r0 r1 r2 r3).chk (M.sub500 a) 1 ((1 + (s % 4) : Nat) : Int)).2))), (112, .bool (!(((M.rg r0 r1 r2 r3).chk (M.sub500 a) 1 ((1 + (s % 4) : Nat) : Int)).2))), (119, .bool ((!(((M.rg r0 r1 r2 r3).chk (M.sub500 a) 1 ((1 + (s % 4) : Nat) : Int)).2)) && (decide ((((M.rg r0 r1 r2 r3).chk (M.sub500 a) 1 ((1 + (s % 4) : Nat) : Int)).1) > ((((M.sub500 a) + ((1 + (s % 4)) - i.1 - 1)) % 4294967296 : Nat) : Int))))), (120, .bool ((!(((M.rg r0 r1 r2 r3).chk (M.sub500 a) 1 ((1 + (s % 4) : Nat) : Int)).2)) && (decide ((((M.rg r0 r1 r2 r3).chk (M.sub500 a) 1 ((1 + (s % 4) : Nat) : Int)).1) > ((((M.sub500 a) + ((1 + (s % 4)) - i.1 - 1)) % 4294967296 : Nat) : Int))))), (125, .bool (((!(((M.rg r0 r1 r2 r3).chk (M.sub500 a) 1 ((1 + (s % 4) : Nat) : Int)).2)) && (decide ((((M.rg r0 r1 r2 r3).chk (M.sub500 a) 1 ((1 + (s % 4) : Nat) : Int)).1) > ((((M.sub500 a) + ((1 + (s % 4)) - i.1 - 1)) % 4294967296 : Nat) : Int)))) && (decide ((IntKind.wrap .u32 ((((M.rg r0 r1 r2 r3).chk (M.sub500 a) 1 ((1 + (s % 4) : Nat) : Int)).1) - ((M.sub500 a : Nat) : Int))) < 4)))), (126, .bool (((!(((M.rg r0 r1 r2 r3).chk (M.sub500 a) 1 ((1 + (s % 4) : Nat) : Int)).2)) && (decide ((((M.rg r0 r1 r2 r3).chk (M.sub500 a) 1 ((1 + (s % 4) : Nat) : Int)).1) > ((((M.sub500 a) + ((1 + (s % 4)) - i.1 - 1)) % 4294967296 : Nat) : Int)))) && (decide ((IntKind.wrap .u32 ((((M.rg r0 r1 r2 r3).chk (M.sub500 a) 1 ((1 + (s % 4) : Nat) : Int)).1) - ((M.sub500 a : Nat) : Int))) < 4)))), (133, .bool false)] (A.X w oo aa [M.It m2 (i.2.2.2.put (((M.sub500 a) + ((1 + (s % 4)) - i.1 - 1)) % 4294967296) 7 1) ([])]) [(g1, [.int .u8 r0, .int .u8 r1, .int .u8 r2, .int .u8 r3])] ?_ ?_
        · generalize hc28 : (((!(((M.rg r0 r1 r2 r3).chk (M.sub500 a) 1 ((1 + (s % 4) : Nat) : Int)).2)) && (decide ((((M.rg r0 r1 r2 r3).chk (M.sub500 a) 1 ((1 + (s % 4) : Nat) : Int)).1) > ((((M.sub500 a) + ((1 + (s % 4)) - i.1 - 1)) % 4294967296 : Nat) : Int)))) && (decide ((IntKind.wrap .u32 ((((M.rg r0 r1 r2 r3).chk (M.sub500 a) 1 ((1 + (s % 4) : Nat) : Int)).1) - ((M.sub500 a : Nat) : Int))) < 4))) = b29
          cases b29
          · skip
            refine E.G.skip (by kernel_rfl) (by kernel_rfl) ?_
            refine E.G.skip (by kernel_rfl) (by kernel_rfl) ?_
            refine E.G.skip (by kernel_rfl) (by kernel_rfl) ?_
            refine E.G.skip (by kernel_rfl) (by kernel_rfl) ?_
            refine E.G.skip (by kernel_rfl) (by kernel_rfl) ?_
            refine E.G.skip (by kernel_rfl) (by kernel_rfl) ?_
            refine E.G.op (.bool false) (fun w => by kernel_rfl) (by kernel_rfl) ?_
            exact E.G.end_pst ⟨by kernel_rfl, by kernel_rfl⟩ (List.Sublist.refl _) (fun _ h => h)
          · skip
            refine E.G.op (.int .u32 (((M.rg r0 r1 r2 r3).chk (M.sub500 a) 1 ((1 + (s % 4) : Nat) : Int)).1)) (fun w => by kernel_rfl) (by kernel_rfl) ?_
            refine E.G.op (.int .u32 ((M.sub500 a : Nat) : Int)) (fun w => by kernel_rfl) (by kernel_rfl) ?_
            refine E.G.op (.int .u32 (IntKind.wrap .u32 ((((M.rg r0 r1 r2 r3).chk (M.sub500 a) 1 ((1 + (s % 4) : Nat) : Int)).1) - ((M.sub500 a : Nat) : Int)))) (fun w => by kernel_rfl) (by kernel_rfl) ?_
            refine E.G.op (.int .i64 ((((1 + (s % 4)) - i.1 : Nat) : Int) - 1)) (fun w => by kernel_rfl) (by kernel_rfl) ?_
            refine E.G.val (.int .u32 (((1 + (s % 4)) - i.1 - 1 : Nat) : Int)) (by kernel_rfl) (fun w h => E.run_as (a := .int .u32 (IntKind.wrap .u32 ((((1 + (s % 4)) - i.1 : Nat) : Int) - 1))) (by kernel_rfl) (congrArg (Value.int .u32) (M.i_32 (by omega) (by have := hk1.1; (first | assumption | ((try simp only [Bool.or_eq_false_iff, Bool.or_eq_true, Bool.and_eq_true, Bool.and_eq_false_iff, Bool.not_eq_eq_eq_not, Bool.not_true, Bool.not_false, decide_eq_true_eq, decide_eq_false_iff_not, ge_iff_le, gt_iff_lt] at *); omega)))))) ?_
            refine E.G.val (.bool false) (by kernel_rfl) (fun w h => E.run_as (a := .bool (decide ((IntKind.wrap .u32 ((((M.rg r0 r1 r2 r3).chk (M.sub500 a) 1 ((1 + (s % 4) : Nat) : Int)).1) - ((M.sub500 a : Nat) : Int))) > (((1 + (s % 4)) - i.1 - 1 : Nat) : Int)))) (by kernel_rfl) (congrArg Value.bool (M.first_le (M.sub500_lt a) (by omega : 1 ≤ 1 + s % 4 ∧ 1 + s % 4 ≤ 4) (by have := hk1.1; (first | assumption | ((try simp only [Bool.or_eq_false_iff, Bool.or_eq_true, Bool.and_eq_true, Bool.and_eq_false_iff, Bool.not_eq_eq_eq_not, Bool.not_true, Bool.not_false, decide_eq_true_eq, decide_eq_false_iff_not, ge_iff_le, gt_iff_lt] at *); omega))) hc10))) ?_
            refine E.G.op (.bool false) (fun w => by kernel_rfl) (by kernel_rfl) ?_
            exact E.G.end_pst ⟨by kernel_rfl, by kernel_rfl⟩ (List.Sublist.refl _) (fun _ h => h)
        refine E.To.code ?_
        refine E.C.condF (by kernel_rfl) (by kernel_rfl) ?_
        refine E.C.skip (E.To.code ?_)
        refine E.C.seq ?_
        refine E.C.region ?_
        refine E.G.op (.bool i.2.2.1) (fun w => by kernel_rfl) (by kernel_rfl) ?_
        refine E.G.op (.bool i.2.2.1) (fun w => by kernel_rfl) (by kernel_rfl) ?_
        refine E.G.cut 2 [(1, .int .u32 ((M.sub500 a : Nat) : Int)), (3, .pointer (some ⟨g1, 0, none⟩)), (6, .bool false), (7, .bool true), (8, .pointer (some ⟨m2, 0, none⟩)), (10, .int .i64 ((1 + (s % 4) : Nat) : Int)), (12, .int .u32 (((M.rg r0 r1 r2 r3).chk (M.sub500 a) 1 ((1 + (s % 4) : Nat) : Int)).1)), (13, .bool (((M.rg r0 r1 r2 r3).chk (M.sub500 a) 1 ((1 + (s % 4) : Nat) : Int)).2)), (14, .int .u32 (((M.rg r0 r1 r2 r3).chk (M.sub500 a) 2 ((1 + (s % 4) : Nat) : Int)).1)), (15, .bool (((M.rg r0 r1 r2 r3).chk (M.sub500 a) 2 ((1 + (s % 4) : Nat) : Int)).2)), (16, .bool false), (17, .bool i.2.2.1), (18, .int .i64 ((((1 + (s % 4)) - i.1 : Nat) : Int) - 1)), (20, .int .u32 ((((M.sub500 a) + ((1 + (s % 4)) - i.1 - 1)) % 4294967296 : Nat) : Int)), (21, .bool false), (22, .int .u32 0), (23, .bool true), (63, .int .i64 ((((1 + (s % 4)) - i.1 : Nat) : Int) - 1)), (64, .bool (decide (((((1 + (s % 4)) - i.1 : Nat) : Int) - 1) ≥ 0))), (67, .tuple #[.int .u32 0, .int .u32 ((((M.sub500 a) + ((1 + (s % 4)) - i.1 - 1)) % 4294967296 : Nat) : Int), .bool false]), (68, .pointer (some ⟨m2, 0, none⟩)), (69, .int .u32 ((M.sub500 a : Nat) : Int)), (70, .int .i64 ((((1 + (s % 4)) - i.1 : Nat) : Int) - 1)), (71, .int .u32 (((1 + (s % 4)) - i.1 - 1 : Nat) : Int)), (72, .int .u32 ((((M.sub500 a) + ((1 + (s % 4)) - i.1 - 1)) % 4294967296 : Nat) : Int)), (73, .tuple #[.int .u32 0, .int .u32 ((((M.sub500 a) + ((1 + (s % 4)) - i.1 - 1)) % 4294967296 : Nat) : Int), .bool false]), (74, .int .u32 0), (75, .int .u32 ((((M.sub500 a) + ((1 + (s % 4)) - i.1 - 1)) % 4294967296 : Nat) : Int)), (76, .bool false), (77, .tuple #[.int .u32 0, .bool true]), (78, .pointer (some ⟨m2, 0, none⟩)), (79, .int .u32 ((M.sub500 a : Nat) : Int)), (80, .int .i64 ((((1 + (s % 4)) - i.1 : Nat) : Int) - 1)), (81, .int .u32 (((1 + (s % 4)) - i.1 - 1 : Nat) : Int)), (82, .int .u32 ((((M.sub500 a) + ((1 + (s % 4)) - i.1 - 1)) % 4294967296 : Nat) : Int)), (83, .tuple #[.int .u32 0, .bool true]), (84, .int .u32 0), (85, .bool true), (86, .bool false), (87, .bool true), (88, .bool true), (89, .int .u32 ((((M.sub500 a) + ((1 + (s % 4)) - i.1 - 1)) % 4294967296 : Nat) : Int)), (90, .int .u32 ((M.sub500 a : Nat) : Int)), (91, .int .i64 ((((1 + (s % 4)) - i.1 : Nat) : Int) - 1)), (92, .int .u32 (((1 + (s % 4)) - i.1 - 1 : Nat) : Int)), (93, .int .u32 ((((M.sub500 a) + ((1 + (s % 4)) - i.1 - 1)) % 4294967296 : Nat) : Int)), (94, .bool false), (95, .bool false), (96, .bool false), (97, .bool true), (98, .bool false), (99, .bool false), (100, undef), (101, undef), (102, undef), (103, undef), (104, undef), (105, undef), (106, .bool false), (107, .bool false), (108, .bool false), (109, .bool true), (110, .bool (((M.rg r0 r1 r2 r3).chk (M.sub500 a) 1 ((1 + (s % 4) : Nat) : Int)).2)), (111, .bool (!(((M.rg r0 r1 r2 r3).chk (M.sub500 a) 1 ((1 + (s % 4) : Nat) : Int)).2))), (112, .bool (!(((M.rg r0 r1 r2 r3).chk (M.sub500 a) 1 ((1 + (s % 4) : Nat) : Int)).2))), (119, .bool ((!(((M.rg r0 r1 r2 r3).chk (M.sub500 a) 1 ((1 + (s % 4) : Nat) : Int)).2)) && (decide ((((M.rg r0 r1 r2 r3).chk (M.sub500 a) 1 ((1 + (s % 4) : Nat) : Int)).1) > ((((M.sub500 a) + ((1 + (s % 4)) - i.1 - 1)) % 4294967296 : Nat) : Int))))), (120, .bool ((!(((M.rg r0 r1 r2 r3).chk (M.sub500 a) 1 ((1 + (s % 4) : Nat) : Int)).2)) && (decide ((((M.rg r0 r1 r2 r3).chk (M.sub500 a) 1 ((1 + (s % 4) : Nat) : Int)).1) > ((((M.sub500 a) + ((1 + (s % 4)) - i.1 - 1)) % 4294967296 : Nat) : Int))))), (125, .bool (((!(((M.rg r0 r1 r2 r3).chk (M.sub500 a) 1 ((1 + (s % 4) : Nat) : Int)).2)) && (decide ((((M.rg r0 r1 r2 r3).chk (M.sub500 a) 1 ((1 + (s % 4) : Nat) : Int)).1) > ((((M.sub500 a) + ((1 + (s % 4)) - i.1 - 1)) % 4294967296 : Nat) : Int)))) && (decide ((IntKind.wrap .u32 ((((M.rg r0 r1 r2 r3).chk (M.sub500 a) 1 ((1 + (s % 4) : Nat) : Int)).1) - ((M.sub500 a : Nat) : Int))) < 4)))), (126, .bool (((!(((M.rg r0 r1 r2 r3).chk (M.sub500 a) 1 ((1 + (s % 4) : Nat) : Int)).2)) && (decide ((((M.rg r0 r1 r2 r3).chk (M.sub500 a) 1 ((1 + (s % 4) : Nat) : Int)).1) > ((((M.sub500 a) + ((1 + (s % 4)) - i.1 - 1)) % 4294967296 : Nat) : Int)))) && (decide ((IntKind.wrap .u32 ((((M.rg r0 r1 r2 r3).chk (M.sub500 a) 1 ((1 + (s % 4) : Nat) : Int)).1) - ((M.sub500 a : Nat) : Int))) < 4)))), (133, .bool false), (134, .bool i.2.2.1), (135, .bool i.2.2.1), (137, .bool (i.2.2.1 && true))] (A.X w oo aa [M.It m2 (i.2.2.2.put (((M.sub500 a) + ((1 + (s % 4)) - i.1 - 1)) % 4294967296) 7 1) ([])]) [(g1, [.int .u8 r0, .int .u8 r1, .int .u8 r2, .int .u8 r3])] ?_ ?_
        · generalize hc30 : i.2.2.1 = b31
          cases b31
          · skip
            refine E.G.skip (by kernel_rfl) (by kernel_rfl) ?_
            refine E.G.op (.bool false) (fun w => by kernel_rfl) (by kernel_rfl) ?_
            exact E.G.end_pst ⟨by kernel_rfl, by kernel_rfl⟩ (List.Sublist.refl _) (fun _ h => h)
          · skip
            refine E.G.op (.bool true) (fun w => by kernel_rfl) (by kernel_rfl) ?_
            refine E.G.op (.bool true) (fun w => by kernel_rfl) (by kernel_rfl) ?_
            exact E.G.end_pst ⟨by kernel_rfl, by kernel_rfl⟩ (List.Sublist.refl _) (fun _ h => h)
        refine E.G.op (.bool (i.2.2.1 && true)) (fun w => by kernel_rfl) (by kernel_rfl) ?_
        refine E.To.code ?_
        refine E.C.seq ?_
        refine E.C.region ?_
        refine E.G.op (.int .u32 ((M.sub500 a : Nat) : Int)) (fun w => by kernel_rfl) (by kernel_rfl) ?_
        refine E.G.op (.int .i64 ((((1 + (s % 4)) - i.1 : Nat) : Int) - 1)) (fun w => by kernel_rfl) (by kernel_rfl) ?_
        refine E.G.val (.int .u32 (((1 + (s % 4)) - i.1 - 1 : Nat) : Int)) (by kernel_rfl) (fun w h => E.run_as (a := .int .u32 (IntKind.wrap .u32 ((((1 + (s % 4)) - i.1 : Nat) : Int) - 1))) (by kernel_rfl) (congrArg (Value.int .u32) (M.i_32 (by omega) (by have := hk1.1; (first | assumption | ((try simp only [Bool.or_eq_false_iff, Bool.or_eq_true, Bool.and_eq_true, Bool.and_eq_false_iff, Bool.not_eq_eq_eq_not, Bool.not_true, Bool.not_false, decide_eq_true_eq, decide_eq_false_iff_not, ge_iff_le, gt_iff_lt] at *); omega)))))) ?_
        refine E.G.val (.int .u32 ((((M.sub500 a) + ((1 + (s % 4)) - i.1 - 1)) % 4294967296 : Nat) : Int)) (by kernel_rfl) (fun w h => E.run_as (a := .int .u32 (IntKind.wrap .u32 (((M.sub500 a : Nat) : Int) + (((1 + (s % 4)) - i.1 - 1 : Nat) : Int)))) (by kernel_rfl) (congrArg (Value.int .u32) (by exact Nz.add32 (M.sub500 a) ((1 + (s % 4)) - i.1 - 1)))) ?_
        refine E.G.op (.bool (decide (((((M.sub500 a) + ((1 + (s % 4)) - i.1 - 1)) % 4294967296 : Nat) : Int) < 1024))) (fun w => by kernel_rfl) (by kernel_rfl) ?_
        refine E.G.op (.bool (decide (((((M.sub500 a) + ((1 + (s % 4)) - i.1 - 1)) % 4294967296 : Nat) : Int) < 1024))) (fun w => by kernel_rfl) (by kernel_rfl) ?_
        refine E.To.code ?_
        refine E.C.seq ?_
        refine E.C.region ?_
        refine E.G.op (.bool (decide (((((M.sub500 a) + ((1 + (s % 4)) - i.1 - 1)) % 4294967296 : Nat) : Int) < 1024))) (fun w => by kernel_rfl) (by kernel_rfl) ?_
        refine E.G.op (.bool (decide (((((M.sub500 a) + ((1 + (s % 4)) - i.1 - 1)) % 4294967296 : Nat) : Int) < 1024))) (fun w => by kernel_rfl) (by kernel_rfl) ?_
        refine E.G.cut 11 [(1, .int .u32 ((M.sub500 a : Nat) : Int)), (3, .pointer (some ⟨g1, 0, none⟩)), (6, .bool false), (7, .bool true), (8, .pointer (some ⟨m2, 0, none⟩)), (10, .int .i64 ((1 + (s % 4) : Nat) : Int)), (12, .int .u32 (((M.rg r0 r1 r2 r3).chk (M.sub500 a) 1 ((1 + (s % 4) : Nat) : Int)).1)), (13, .bool (((M.rg r0 r1 r2 r3).chk (M.sub500 a) 1 ((1 + (s % 4) : Nat) : Int)).2)), (14, .int .u32 (((M.rg r0 r1 r2 r3).chk (M.sub500 a) 2 ((1 + (s % 4) : Nat) : Int)).1)), (15, .bool (((M.rg r0 r1 r2 r3).chk (M.sub500 a) 2 ((1 + (s % 4) : Nat) : Int)).2)), (16, .bool false), (17, .bool (i.2.2.1 && true)), (18, .int .i64 ((((1 + (s % 4)) - i.1 : Nat) : Int) - 1)), (20, .int .u32 ((((M.sub500 a) + ((1 + (s % 4)) - i.1 - 1)) % 4294967296 : Nat) : Int)), (21, .bool false), (22, .int .u32 0), (23, .bool true), (24, .bool (decide (((((M.sub500 a) + ((1 + (s % 4)) - i.1 - 1)) % 4294967296 : Nat) : Int) < 1024))), (63, .int .i64 ((((1 + (s % 4)) - i.1 : Nat) : Int) - 1)), (64, .bool (decide (((((1 + (s % 4)) - i.1 : Nat) : Int) - 1) ≥ 0))), (67, .tuple #[.int .u32 0, .int .u32 ((((M.sub500 a) + ((1 + (s % 4)) - i.1 - 1)) % 4294967296 : Nat) : Int), .bool false]), (68, .pointer (some ⟨m2, 0, none⟩)), (69, .int .u32 ((M.sub500 a : Nat) : Int)), (70, .int .i64 ((((1 + (s % 4)) - i.1 : Nat) : Int) - 1)), (71, .int .u32 (((1 + (s % 4)) - i.1 - 1 : Nat) : Int)), (72, .int .u32 ((((M.sub500 a) + ((1 + (s % 4)) - i.1 - 1)) % 4294967296 : Nat) : Int)), (73, .tuple #[.int .u32 0, .int .u32 ((((M.sub500 a) + ((1 + (s % 4)) - i.1 - 1)) % 4294967296 : Nat) : Int), .bool false]), (74, .int .u32 0), (75, .int .u32 ((((M.sub500 a) + ((1 + (s % 4)) - i.1 - 1)) % 4294967296 : Nat) : Int)), (76, .bool false), (77, .tuple #[.int .u32 0, .bool true]), (78, .pointer (some ⟨m2, 0, none⟩)), (79, .int .u32 ((M.sub500 a : Nat) : Int)), (80, .int .i64 ((((1 + (s % 4)) - i.1 : Nat) : Int) - 1)), (81, .int .u32 (((1 + (s % 4)) - i.1 - 1 : Nat) : Int)), (82, .int .u32 ((((M.sub500 a) + ((1 + (s % 4)) - i.1 - 1)) % 4294967296 : Nat) : Int)), (83, .tuple #[.int .u32 0, .bool true]), (84, .int .u32 0), (85, .bool true), (86, .bool false), (87, .bool true), (88, .bool true), (89, .int .u32 ((((M.sub500 a) + ((1 + (s % 4)) - i.1 - 1)) % 4294967296 : Nat) : Int)), (90, .int .u32 ((M.sub500 a : Nat) : Int)), (91, .int .i64 ((((1 + (s % 4)) - i.1 : Nat) : Int) - 1)), (92, .int .u32 (((1 + (s % 4)) - i.1 - 1 : Nat) : Int)), (93, .int .u32 ((((M.sub500 a) + ((1 + (s % 4)) - i.1 - 1)) % 4294967296 : Nat) : Int)), (94, .bool false), (95, .bool false), (96, .bool false), (97, .bool true), (98, .bool false), (99, .bool false), (100, undef), (101, undef), (102, undef), (103, undef), (104, undef), (105, undef), (106, .bool false), (107, .bool false), (108, .bool false), (109, .bool true), (110, .bool (((M.rg r0 r1 r2 r3).chk (M.sub500 a) 1 ((1 + (s % 4) : Nat) : Int)).2)), (111, .bool (!(((M.rg r0 r1 r2 r3).chk (M.sub500 a) 1 ((1 + (s % 4) : Nat) : Int)).2))), (112, .bool (!(((M.rg r0 r1 r2 r3).chk (M.sub500 a) 1 ((1 + (s % 4) : Nat) : Int)).2))), (119, .bool ((!(((M.rg r0 r1 r2 r3).chk (M.sub500 a) 1 ((1 + (s % 4) : Nat) : Int)).2)) && (decide ((((M.rg r0 r1 r2 r3).chk (M.sub500 a) 1 ((1 + (s % 4) : Nat) : Int)).1) > ((((M.sub500 a) + ((1 + (s % 4)) - i.1 - 1)) % 4294967296 : Nat) : Int))))), (120, .bool ((!(((M.rg r0 r1 r2 r3).chk (M.sub500 a) 1 ((1 + (s % 4) : Nat) : Int)).2)) && (decide ((((M.rg r0 r1 r2 r3).chk (M.sub500 a) 1 ((1 + (s % 4) : Nat) : Int)).1) > ((((M.sub500 a) + ((1 + (s % 4)) - i.1 - 1)) % 4294967296 : Nat) : Int))))), (125, .bool (((!(((M.rg r0 r1 r2 r3).chk (M.sub500 a) 1 ((1 + (s % 4) : Nat) : Int)).2)) && (decide ((((M.rg r0 r1 r2 r3).chk (M.sub500 a) 1 ((1 + (s % 4) : Nat) : Int)).1) > ((((M.sub500 a) + ((1 + (s % 4)) - i.1 - 1)) % 4294967296 : Nat) : Int)))) && (decide ((IntKind.wrap .u32 ((((M.rg r0 r1 r2 r3).chk (M.sub500 a) 1 ((1 + (s % 4) : Nat) : Int)).1) - ((M.sub500 a : Nat) : Int))) < 4)))), (126, .bool (((!(((M.rg r0 r1 r2 r3).chk (M.sub500 a) 1 ((1 + (s % 4) : Nat) : Int)).2)) && (decide ((((M.rg r0 r1 r2 r3).chk (M.sub500 a) 1 ((1 + (s % 4) : Nat) : Int)).1) > ((((M.sub500 a) + ((1 + (s % 4)) - i.1 - 1)) % 4294967296 : Nat) : Int)))) && (decide ((IntKind.wrap .u32 ((((M.rg r0 r1 r2 r3).chk (M.sub500 a) 1 ((1 + (s % 4) : Nat) : Int)).1) - ((M.sub500 a : Nat) : Int))) < 4)))), (133, .bool false), (134, .bool i.2.2.1), (135, .bool i.2.2.1), (137, .bool (i.2.2.1 && true)), (138, .int .u32 ((M.sub500 a : Nat) : Int)), (139, .int .i64 ((((1 + (s % 4)) - i.1 : Nat) : Int) - 1)), (140, .int .u32 (((1 + (s % 4)) - i.1 - 1 : Nat) : Int)), (141, .int .u32 ((((M.sub500 a) + ((1 + (s % 4)) - i.1 - 1)) % 4294967296 : Nat) : Int)), (142, .bool (decide (((((M.sub500 a) + ((1 + (s % 4)) - i.1 - 1)) % 4294967296 : Nat) : Int) < 1024))), (143, .bool (decide (((((M.sub500 a) + ((1 + (s % 4)) - i.1 - 1)) % 4294967296 : Nat) : Int) < 1024))), (144, .bool (decide (((((M.sub500 a) + ((1 + (s % 4)) - i.1 - 1)) % 4294967296 : Nat) : Int) < 1024))), (155, .bool ((decide (((((M.sub500 a) + ((1 + (s % 4)) - i.1 - 1)) % 4294967296 : Nat) : Int) < 1024)) && ((bits .and .u8 ([r0, r1, r2, r3].getD (0 + (((((((M.sub500 a) + ((1 + (s % 4)) - i.1 - 1)) % 4294967296) / 256) % 4 : Nat) : Int)).toNat * 1) 0) 1) == 1)))] (A.X w oo aa [M.It m2 (i.2.2.2.put (((M.sub500 a) + ((1 + (s % 4)) - i.1 - 1)) % 4294967296) 7 1) ([])]) [(g1, [.int .u8 r0, .int .u8 r1, .int .u8 r2, .int .u8 r3])] ?_ ?_
        · generalize hc32 : (decide (((((M.sub500 a) + ((1 + (s % 4)) - i.1 - 1)) % 4294967296 : Nat) : Int) < 1024)) = b33
          cases b33
          · skip
            refine E.G.skip (by kernel_rfl) (by kernel_rfl) ?_
            refine E.G.skip (by kernel_rfl) (by kernel_rfl) ?_
            refine E.G.skip (by kernel_rfl) (by kernel_rfl) ?_
            refine E.G.skip (by kernel_rfl) (by kernel_rfl) ?_
            refine E.G.skip (by kernel_rfl) (by kernel_rfl) ?_
            refine E.G.skip (by kernel_rfl) (by kernel_rfl) ?_
            refine E.G.skip (by kernel_rfl) (by kernel_rfl) ?_
            refine E.G.skip (by kernel_rfl) (by kernel_rfl) ?_
            refine E.G.skip (by kernel_rfl) (by kernel_rfl) ?_
            refine E.G.skip (by kernel_rfl) (by kernel_rfl) ?_
            refine E.G.op (.bool false) (fun w => by kernel_rfl) (by kernel_rfl) ?_
            exact E.G.end_pst ⟨by kernel_rfl, by kernel_rfl⟩ (List.Sublist.refl _) (fun _ h => h)
          · skip
            refine E.G.op (.int .u32 ((M.sub500 a : Nat) : Int)) (fun w => by kernel_rfl) (by kernel_rfl) ?_
            refine E.G.op (.int .i64 ((((1 + (s % 4)) - i.1 : Nat) : Int) - 1)) (fun w => by kernel_rfl) (by kernel_rfl) ?_
            refine E.G.val (.int .u32 (((1 + (s % 4)) - i.1 - 1 : Nat) : Int)) (by kernel_rfl) (fun w h => E.run_as (a := .int .u32 (IntKind.wrap .u32 ((((1 + (s % 4)) - i.1 : Nat) : Int) - 1))) (by kernel_rfl) (congrArg (Value.int .u32) (M.i_32 (by omega) (by have := hk1.1; (first | assumption | ((try simp only [Bool.or_eq_false_iff, Bool.or_eq_true, Bool.and_eq_true, Bool.and_eq_false_iff, Bool.not_eq_eq_eq_not, Bool.not_true, Bool.not_false, decide_eq_true_eq, decide_eq_false_iff_not, ge_iff_le, gt_iff_lt] at *); omega)))))) ?_
            refine E.G.val (.int .u32 ((((M.sub500 a) + ((1 + (s % 4)) - i.1 - 1)) % 4294967296 : Nat) : Int)) (by kernel_rfl) (fun w h => E.run_as (a := .int .u32 (IntKind.wrap .u32 (((M.sub500 a : Nat) : Int) + (((1 + (s % 4)) - i.1 - 1 : Nat) : Int)))) (by kernel_rfl) (congrArg (Value.int .u32) (by exact Nz.add32 (M.sub500 a) ((1 + (s % 4)) - i.1 - 1)))) ?_
            refine E.G.val (.int .u32 (((((M.sub500 a) + ((1 + (s % 4)) - i.1 - 1)) % 4294967296) / 256 : Nat) : Int)) (by kernel_rfl) (fun w h => E.run_as (a := .int .u32 (IntKind.wrap .u32 (Int.tdiv ((((M.sub500 a) + ((1 + (s % 4)) - i.1 - 1)) % 4294967296 : Nat) : Int) 256))) (by kernel_rfl) (congrArg (Value.int .u32) (by exact Nz.quo32 (x := (((M.sub500 a) + ((1 + (s % 4)) - i.1 - 1)) % 4294967296)) 256 (by (first | assumption | ((try simp only [Bool.or_eq_false_iff, Bool.or_eq_true, Bool.and_eq_true, Bool.and_eq_false_iff, Bool.not_eq_eq_eq_not, Bool.not_true, Bool.not_false, decide_eq_true_eq, decide_eq_false_iff_not, ge_iff_le, gt_iff_lt] at *); omega)))))) ?_
            refine E.G.val (.int .u32 ((((((M.sub500 a) + ((1 + (s % 4)) - i.1 - 1)) % 4294967296) / 256) % 4 : Nat) : Int)) (by kernel_rfl) (fun w h => E.run_as (a := .int .u32 (Int.tmod (((((M.sub500 a) + ((1 + (s % 4)) - i.1 - 1)) % 4294967296) / 256 : Nat) : Int) 4)) (by kernel_rfl) (congrArg (Value.int .u32) (by exact Nz.rem ((((M.sub500 a) + ((1 + (s % 4)) - i.1 - 1)) % 4294967296) / 256) 4))) ?_
            refine E.G.val (.pointer (some ⟨g1, 0 + (((((((M.sub500 a) + ((1 + (s % 4)) - i.1 - 1)) % 4294967296) / 256) % 4 : Nat) : Int)).toNat * 1, none⟩)) (by kernel_rfl) (fun w h => E.idxA (e := 5) g1 0 4 1 .u32 (((((((M.sub500 a) + ((1 + (s % 4)) - i.1 - 1)) % 4294967296) / 256) % 4 : Nat) : Int)) (by kernel_rfl) (by kernel_rfl) (by kernel_rfl) (by kernel_rfl) (by omega) (by omega) w) ?_
            refine E.G.val (.int .u8 ([r0, r1, r2, r3].getD (0 + (((((((M.sub500 a) + ((1 + (s % 4)) - i.1 - 1)) % 4294967296) / 256) % 4 : Nat) : Int)).toNat * 1) 0)) (by kernel_rfl) (fun w h => E.run_load h 0 rfl rfl (E.ld_row (xs := [r0, r1, r2, r3]) (by kernel_rfl) (by simp only [List.length_cons, List.length_nil]; omega))) ?_
            refine E.G.op (.int .u8 (bits .and .u8 ([r0, r1, r2, r3].getD (0 + (((((((M.sub500 a) + ((1 + (s % 4)) - i.1 - 1)) % 4294967296) / 256) % 4 : Nat) : Int)).toNat * 1) 0) 1)) (fun w => by kernel_rfl) (by kernel_rfl) ?_
            refine E.G.op (.bool ((bits .and .u8 ([r0, r1, r2, r3].getD (0 + (((((((M.sub500 a) + ((1 + (s % 4)) - i.1 - 1)) % 4294967296) / 256) % 4 : Nat) : Int)).toNat * 1) 0) 1) == 1)) (fun w => by kernel_rfl) (by kernel_rfl) ?_
            refine E.G.op (.bool ((bits .and .u8 ([r0, r1, r2, r3].getD (0 + (((((((M.sub500 a) + ((1 + (s % 4)) - i.1 - 1)) % 4294967296) / 256) % 4 : Nat) : Int)).toNat * 1) 0) 1) == 1)) (fun w => by kernel_rfl) (by kernel_rfl) ?_
            exact E.G.end_pst ⟨by kernel_rfl, by kernel_rfl⟩ (List.Sublist.refl _) (fun _ h => h)
        refine E.G.op (.bool ((decide (((((M.sub500 a) + ((1 + (s % 4)) - i.1 - 1)) % 4294967296 : Nat) : Int) < 1024)) && ((bits .and .u8 ([r0, r1, r2, r3].getD (0 + (((((((M.sub500 a) + ((1 + (s % 4)) - i.1 - 1)) % 4294967296) / 256) % 4 : Nat) : Int)).toNat * 1) 0) 1) == 1))) (fun w => by kernel_rfl) (by kernel_rfl) ?_
        refine E.To.code ?_
        refine E.C.seq ?_
        refine E.C.region ?_
        refine E.G.op (.bool false) (fun w => by kernel_rfl) (by kernel_rfl) ?_
        refine E.G.op (.bool ((decide (((((M.sub500 a) + ((1 + (s % 4)) - i.1 - 1)) % 4294967296 : Nat) : Int) < 1024)) && ((bits .and .u8 ([r0, r1, r2, r3].getD (0 + (((((((M.sub500 a) + ((1 + (s % 4)) - i.1 - 1)) % 4294967296) / 256) % 4 : Nat) : Int)).toNat * 1) 0) 1) == 1))) (fun w => by kernel_rfl) (by kernel_rfl) ?_
        refine E.G.val (.bool false) (by kernel_rfl) (fun w h => E.run_as (a := .bool (false != ((decide (((((M.sub500 a) + ((1 + (s % 4)) - i.1 - 1)) % 4294967296 : Nat) : Int) < 1024)) && ((bits .and .u8 ([r0, r1, r2, r3].getD (0 + (((((((M.sub500 a) + ((1 + (s % 4)) - i.1 - 1)) % 4294967296) / 256) % 4 : Nat) : Int)).toNat * 1) 0) 1) == 1)))) (by kernel_rfl) (congrArg Value.bool (M.rg_ne hc10 (M.rg_ok h0 h1 h2 h3 _)))) ?_
        refine E.To.code ?_
        refine E.C.condF (by kernel_rfl) (by kernel_rfl) ?_
        refine E.C.skip (E.P.nb (E.To.code ?_))
        refine E.C.region ?_
        refine E.G.op (.int .i64 ((((1 + (s % 4)) - i.1 : Nat) : Int) - 1)) (fun w => by kernel_rfl) (by kernel_rfl) ?_
        refine E.G.val (.int .i64 ((((1 + (s % 4)) - (i.1 + 1) : Nat) : Int) - 1)) (by kernel_rfl) (fun w h => E.run_as (a := .int .i64 (IntKind.wrap .i64 (((((1 + (s % 4)) - i.1 : Nat) : Int) - 1) - 1))) (by kernel_rfl) (congrArg (Value.int .i64) (M.i_dn (by omega) (by have := hk1.1; (first | assumption | ((try simp only [Bool.or_eq_false_iff, Bool.or_eq_true, Bool.and_eq_true, Bool.and_eq_false_iff, Bool.not_eq_eq_eq_not, Bool.not_true, Bool.not_false, decide_eq_true_eq, decide_eq_false_iff_not, ge_iff_le, gt_iff_lt] at *); omega)))))) ?_
        refine E.G.op (.int .i64 ((((1 + (s % 4)) - (i.1 + 1) : Nat) : Int) - 1)) (fun w => by kernel_rfl) (by kernel_rfl) ?_
        exact E.To.round (i.1 + 1, false, (i.2.2.1 && true), (i.2.2.2.put (((M.sub500 a) + ((1 + (s % 4)) - i.1 - 1)) % 4294967296) 7 1)) (by show (1 + (s % 4)) - (i.1 + 1) < (1 + (s % 4)) - i.1; (first | assumption | ((try simp only [Bool.or_eq_false_iff, Bool.or_eq_true, Bool.and_eq_true, Bool.and_eq_false_iff, Bool.not_eq_eq_eq_not, Bool.not_true, Bool.not_false, decide_eq_true_eq, decide_eq_false_iff_not, ge_iff_le, gt_iff_lt] at *); omega))) (⟨by show i.1 + 1 ≤ (1 + (s % 4)); (first | assumption | ((try simp only [Bool.or_eq_false_iff, Bool.or_eq_true, Bool.and_eq_true, Bool.and_eq_false_iff, Bool.not_eq_eq_eq_not, Bool.not_true, Bool.not_false, decide_eq_true_eq, decide_eq_false_iff_not, ge_iff_le, gt_iff_lt] at *); omega)), by show _ = (M.al _ _ _ _ _ && _); rw [hc10, ← hk1.2.1]; (try simp), by show _ = (M.al _ _ _ _ _ && _); rw [hc22, ← hk1.2.2.1]; (try simp), hk1.2.2.2.put _ _ _⟩) ⟨by kernel_rfl, by kernel_rfl⟩ (List.Sublist.refl _) (fun _ h => h)
      · skip
        refine A.G.call (I := Unit) (D := fun _ => True) (V := fun _ => .tuple #[.int .u32 ((((M.sub500 a) + ((1 + (s % 4)) - i.1 - 1)) % 4294967296 : Nat) : Int), .bool false]) (q := fun _ => [M.It m2 i.2.2.2 ([])]) [A.blk g1 ([.int .u8 r0, .int .u8 r1, .int .u8 r2, .int .u8 r3])] (fun _ => [(g1, [.int .u8 r0, .int .u8 r1, .int .u8 r2, .int .u8 r3])]) (fun _ => [M.It m2 i.2.2.2 ([])]) (M.trF (u := .tuple #[.int .u32 ((((M.sub500 a) + ((1 + (s % 4)) - i.1 - 1)) % 4294967296 : Nat) : Int), .bool false]) (A_Store (m := m2) (V := i.2.2.2) (xs := []) (((M.sub500 a) + ((1 + (s % 4)) - i.1 - 1)) % 4294967296) ((1 : Nat) : Int) 7 (Nat.mod_lt _ (by decide) : (((M.sub500 a) + ((1 + (s % 4)) - i.1 - 1)) % 4294967296) < 4294967296)) (M.sto_f (M.st1 hk1.2.2.2 (Nat.mod_lt _ (by decide) : (((M.sub500 a) + ((1 + (s % 4)) - i.1 - 1)) % 4294967296) < 4294967296) hc22)) (M.st1f hk1.2.2.2 (Nat.mod_lt _ (by decide) : (((M.sub500 a) + ((1 + (s % 4)) - i.1 - 1)) % 4294967296) < 4294967296) hc22)) (by kernel_rfl) (A.pm [1, 0] (by kernel_rfl) (by kernel_rfl)) (fun _ => A.pm [1, 0] (by kernel_rfl) (by kernel_rfl)) (fun w _ => by kernel_rfl) (by kernel_rfl) (fun _ hd34 => ?_)
        refine E.G.op (.tuple #[.int .u32 ((((M.sub500 a) + ((1 + (s % 4)) - i.1 - 1)) % 4294967296 : Nat) : Int), .bool false]) (fun w => by kernel_rfl) (by kernel_rfl) ?_
        refine E.G.op (.int .u32 ((((M.sub500 a) + ((1 + (s % 4)) - i.1 - 1)) % 4294967296 : Nat) : Int)) (fun w => by kernel_rfl) (by kernel_rfl) ?_
        refine E.G.op (.bool false) (fun w => by kernel_rfl) (by kernel_rfl) ?_
        refine E.G.op (.int .u32 ((((M.sub500 a) + ((1 + (s % 4)) - i.1 - 1)) % 4294967296 : Nat) : Int)) (fun w => by kernel_rfl) (by kernel_rfl) ?_
        refine E.G.op (.bool false) (fun w => by kernel_rfl) (by kernel_rfl) ?_
        refine E.To.code ?_
        refine E.C.seq ?_
        refine E.C.seq ?_
        refine E.C.region ?_
        refine E.G.op (.bool false) (fun w => by kernel_rfl) (by kernel_rfl) ?_
        refine E.G.op (.bool true) (fun w => by kernel_rfl) (by kernel_rfl) ?_
        refine E.G.op (.bool true) (fun w => by kernel_rfl) (by kernel_rfl) ?_
        refine E.G.op (.int .u32 ((((M.sub500 a) + ((1 + (s % 4)) - i.1 - 1)) % 4294967296 : Nat) : Int)) (fun w => by kernel_rfl) (by kernel_rfl) ?_
        refine E.G.op (.int .u32 ((M.sub500 a : Nat) : Int)) (fun w => by kernel_rfl) (by kernel_rfl) ?_
        refine E.G.op (.int .i64 ((((1 + (s % 4)) - i.1 : Nat) : Int) - 1)) (fun w => by kernel_rfl) (by kernel_rfl) ?_
        refine E.G.val (.int .u32 (((1 + (s % 4)) - i.1 - 1 : Nat) : Int)) (by kernel_rfl) (fun w h => E.run_as (a := .int .u32 (IntKind.wrap .u32 ((((1 + (s % 4)) - i.1 : Nat) : Int) - 1))) (by kernel_rfl) (congrArg (Value.int .u32) (M.i_32 (by omega) (by have := hk1.1; (first | assumption | ((try simp only [Bool.or_eq_false_iff, Bool.or_eq_true, Bool.and_eq_true, Bool.and_eq_false_iff, Bool.not_eq_eq_eq_not, Bool.not_true, Bool.not_false, decide_eq_true_eq, decide_eq_false_iff_not, ge_iff_le, gt_iff_lt] at *); omega)))))) ?_
        refine E.G.val (.int .u32 ((((M.sub500 a) + ((1 + (s % 4)) - i.1 - 1)) % 4294967296 : Nat) : Int)) (by kernel_rfl) (fun w h => E.run_as (a := .int .u32 (IntKind.wrap .u32 (((M.sub500 a : Nat) : Int) + (((1 + (s % 4)) - i.1 - 1 : Nat) : Int)))) (by kernel_rfl) (congrArg (Value.int .u32) (by exact Nz.add32 (M.sub500 a) ((1 + (s % 4)) - i.1 - 1)))) ?_
        refine E.G.val (.bool false) (by kernel_rfl) (fun w h => E.run_as (a := .bool (((((M.sub500 a) + ((1 + (s % 4)) - i.1 - 1)) % 4294967296 : Nat) : Int) != ((((M.sub500 a) + ((1 + (s % 4)) - i.1 - 1)) % 4294967296 : Nat) : Int))) (by kernel_rfl) (congrArg Value.bool (bne_self_eq_false _))) ?_
        refine E.G.op (.bool false) (fun w => by kernel_rfl) (by kernel_rfl) ?_
        refine E.G.op (.bool false) (fun w => by kernel_rfl) (by kernel_rfl) ?_
        refine E.G.op (.bool false) (fun w => by kernel_rfl) (by kernel_rfl) ?_
        refine E.G.op (.bool true) (fun w => by kernel_rfl) (by kernel_rfl) ?_
        refine E.G.op (.bool true) (fun w => by kernel_rfl) (by kernel_rfl) ?_
        refine E.G.op (.int .u32 ((((M.sub500 a) + ((1 + (s % 4)) - i.1 - 1)) % 4294967296 : Nat) : Int)) (fun w => by kernel_rfl) (by kernel_rfl) ?_
        refine E.G.op (.int .u32 ((M.sub500 a : Nat) : Int)) (fun w => by kernel_rfl) (by kernel_rfl) ?_
        refine E.G.op (.int .i64 ((((1 + (s % 4)) - i.1 : Nat) : Int) - 1)) (fun w => by kernel_rfl) (by kernel_rfl) ?_
        refine E.G.val (.int .u32 (((1 + (s % 4)) - i.1 - 1 : Nat) : Int)) (by kernel_rfl) (fun w h => E.run_as (a := .int .u32 (IntKind.wrap .u32 ((((1 + (s % 4)) - i.1 : Nat) : Int) - 1))) (by kernel_rfl) (congrArg (Value.int .u32) (M.i_32 (by omega) (by have := hk1.1; (first | assumption | ((try simp only [Bool.or_eq_false_iff, Bool.or_eq_true, Bool.and_eq_true, Bool.and_eq_false_iff, Bool.not_eq_eq_eq_not, Bool.not_true, Bool.not_false, decide_eq_true_eq, decide_eq_false_iff_not, ge_iff_le, gt_iff_lt] at *); omega)))))) ?_
        refine E.G.val (.int .u32 ((((M.sub500 a) + ((1 + (s % 4)) - i.1 - 1)) % 4294967296 : Nat) : Int)) (by kernel_rfl) (fun w h => E.run_as (a := .int .u32 (IntKind.wrap .u32 (((M.sub500 a : Nat) : Int) + (((1 + (s % 4)) - i.1 - 1 : Nat) : Int)))) (by kernel_rfl) (congrArg (Value.int .u32) (by exact Nz.add32 (M.sub500 a) ((1 + (s % 4)) - i.1 - 1)))) ?_
        refine E.G.val (.bool false) (by kernel_rfl) (fun w h => E.run_as (a := .bool (((((M.sub500 a) + ((1 + (s % 4)) - i.1 - 1)) % 4294967296 : Nat) : Int) != ((((M.sub500 a) + ((1 + (s % 4)) - i.1 - 1)) % 4294967296 : Nat) : Int))) (by kernel_rfl) (congrArg Value.bool (bne_self_eq_false _))) ?_
        refine E.G.op (.bool false) (fun w => by kernel_rfl) (by kernel_rfl) ?_
        refine E.G.op (.bool false) (fun w => by kernel_rfl) (by kernel_rfl) ?_
        refine E.To.code ?_
        refine E.C.condF (by kernel_rfl) (by kernel_rfl) ?_
        refine E.C.skip (E.To.code ?_)
        refine E.C.seq ?_
        refine E.C.seq ?_
        refine E.C.region ?_
        refine E.G.op (.bool false) (fun w => by kernel_rfl) (by kernel_rfl) ?_
        refine E.G.op (.bool true) (fun w => by kernel_rfl) (by kernel_rfl) ?_
        refine E.To.code ?_
        refine E.C.condT (by kernel_rfl) (by kernel_rfl) ?_
        refine E.C.seq ?_
        refine E.C.region ?_
        refine E.G.op (.bool false) (fun w => by kernel_rfl) (by kernel_rfl) ?_
        refine E.To.code ?_
        refine E.C.seq ?_
        refine E.C.region ?_
        refine E.G.op (.bool (((M.rg r0 r1 r2 r3).chk (M.sub500 a) 1 ((1 + (s % 4) : Nat) : Int)).2)) (fun w => by kernel_rfl) (by kernel_rfl) ?_
        refine E.G.op (.bool (!(((M.rg r0 r1 r2 r3).chk (M.sub500 a) 1 ((1 + (s % 4) : Nat) : Int)).2))) (fun w => by kernel_rfl) (by kernel_rfl) ?_
        refine E.G.op (.bool (!(((M.rg r0 r1 r2 r3).chk (M.sub500 a) 1 ((1 + (s % 4) : Nat) : Int)).2))) (fun w => by kernel_rfl) (by kernel_rfl) ?_
        refine E.G.cut 7 [(1, .int .u32 ((M.sub500 a : Nat) : Int)), (3, .pointer (some ⟨g1, 0, none⟩)), (6, .bool false), (7, .bool true), (8, .pointer (some ⟨m2, 0, none⟩)), (10, .int .i64 ((1 + (s % 4) : Nat) : Int)), (12, .int .u32 (((M.rg r0 r1 r2 r3).chk (M.sub500 a) 1 ((1 + (s % 4) : Nat) : Int)).1)), (13, .bool (((M.rg r0 r1 r2 r3).chk (M.sub500 a) 1 ((1 + (s % 4) : Nat) : Int)).2)), (14, .int .u32 (((M.rg r0 r1 r2 r3).chk (M.sub500 a) 2 ((1 + (s % 4) : Nat) : Int)).1)), (15, .bool (((M.rg r0 r1 r2 r3).chk (M.sub500 a) 2 ((1 + (s % 4) : Nat) : Int)).2)), (16, .bool false), (17, .bool i.2.2.1), (18, .int .i64 ((((1 + (s % 4)) - i.1 : Nat) : Int) - 1)), (20, .int .u32 ((((M.sub500 a) + ((1 + (s % 4)) - i.1 - 1)) % 4294967296 : Nat) : Int)), (21, .bool false), (22, .int .u32 ((((M.sub500 a) + ((1 + (s % 4)) - i.1 - 1)) % 4294967296 : Nat) : Int)), (23, .bool false), (63, .int .i64 ((((1 + (s % 4)) - i.1 : Nat) : Int) - 1)), (64, .bool (decide (((((1 + (s % 4)) - i.1 : Nat) : Int) - 1) ≥ 0))), (67, .tuple #[.int .u32 0, .int .u32 ((((M.sub500 a) + ((1 + (s % 4)) - i.1 - 1)) % 4294967296 : Nat) : Int), .bool false]), (68, .pointer (some ⟨m2, 0, none⟩)), (69, .int .u32 ((M.sub500 a : Nat) : Int)), (70, .int .i64 ((((1 + (s % 4)) - i.1 : Nat) : Int) - 1)), (71, .int .u32 (((1 + (s % 4)) - i.1 - 1 : Nat) : Int)), (72, .int .u32 ((((M.sub500 a) + ((1 + (s % 4)) - i.1 - 1)) % 4294967296 : Nat) : Int)), (73, .tuple #[.int .u32 0, .int .u32 ((((M.sub500 a) + ((1 + (s % 4)) - i.1 - 1)) % 4294967296 : Nat) : Int), .bool false]), (74, .int .u32 0), (75, .int .u32 ((((M.sub500 a) + ((1 + (s % 4)) - i.1 - 1)) % 4294967296 : Nat) : Int)), (76, .bool false), (77, .tuple #[.int .u32 ((((M.sub500 a) + ((1 + (s % 4)) - i.1 - 1)) % 4294967296 : Nat) : Int), .bool false]), (78, .pointer (some ⟨m2, 0, none⟩)), (79, .int .u32 ((M.sub500 a : Nat) : Int)), (80, .int .i64 ((((1 + (s % 4)) - i.1 : Nat) : Int) - 1)), (81, .int .u32 (((1 + (s % 4)) - i.1 - 1 : Nat) : Int)), (82, .int .u32 ((((M.sub500 a) + ((1 + (s % 4)) - i.1 - 1)) % 4294967296 : Nat) : Int)), (83, .tuple #[.int .u32 ((((M.sub500 a) + ((1 + (s % 4)) - i.1 - 1)) % 4294967296 : Nat) : Int), .bool false]), (84, .int .u32 ((((M.sub500 a) + ((1 + (s % 4)) - i.1 - 1)) % 4294967296 : Nat) : Int)), (85, .bool false), (86, .bool false), (87, .bool true), (88, .bool true), (89, .int .u32 ((((M.sub500 a) + ((1 + (s % 4)) - i.1 - 1)) % 4294967296 : Nat) : Int)), (90, .int .u32 ((M.sub500 a : Nat) : Int)), (91, .int .i64 ((((1 + (s % 4)) - i.1 : Nat) : Int) - 1)), (92, .int .u32 (((1 + (s % 4)) - i.1 - 1 : Nat) : Int)), (93, .int .u32 ((((M.sub500 a) + ((1 + (s % 4)) - i.1 - 1)) % 4294967296 : Nat) : Int)), (94, .bool false), (95, .bool false), (96, .bool false), (97, .bool false), (98, .bool true), (99, .bool true), (100, .int .u32 ((((M.sub500 a) + ((1 + (s % 4)) - i.1 - 1)) % 4294967296 : Nat) : Int)), (101, .int .u32 ((M.sub500 a : Nat) : Int)), (102, .int .i64 ((((1 + (s % 4)) - i.1 : Nat) : Int) - 1)), (103, .int .u32 (((1 + (s % 4)) - i.1 - 1 : Nat) : Int)), (104, .int .u32 ((((M.sub500 a) + ((1 + (s % 4)) - i.1 - 1)) % 4294967296 : Nat) : Int)), (105, .bool false), (106, .bool false), (107, .bool false), (108, .bool false), (109, .bool true), (110, .bool (((M.rg r0 r1 r2 r3).chk (M.sub500 a) 1 ((1 + (s % 4) : Nat) : Int)).2)), (111, .bool (!(((M.rg r0 r1 r2 r3).chk (M.sub500 a) 1 ((1 + (s % 4) : Nat) : Int)).2))), (112, .bool (!(((M.rg r0 r1 r2 r3).chk (M.sub500 a) 1 ((1 + (s % 4) : Nat) : Int)).2))), (119, .bool ((!(((M.rg r0 r1 r2 r3).chk (M.sub500 a) 1 ((1 + (s % 4) : Nat) : Int)).2)) && (decide ((((M.rg r0 r1 r2 r3).chk (M.sub500 a) 1 ((1 + (s % 4) : Nat) : Int)).1) > ((((M.sub500 a) + ((1 + (s % 4)) - i.1 - 1)) % 4294967296 : Nat) : Int)))))] (A.X w oo aa [M.It m2 i.2.2.2 ([])]) [(g1, [.int .u8 r0, .int .u8 r1, .int .u8 r2, .int .u8 r3])] ?_ ?_
        · generalize hc35 : (!(((M.rg r0 r1 r2 r3).chk (M.sub500 a) 1 ((1 + (s % 4) : Nat) : Int)).2)) = b36
          cases b36
          · skip
            refine E.G.skip (by kernel_rfl) (by kernel_rfl) ?_
            refine E.G.skip (by kernel_rfl) (by kernel_rfl) ?_
            refine E.G.skip (by kernel_rfl) (by kernel_rfl) ?_
            refine E.G.skip (by kernel_rfl) (by kernel_rfl) ?_
            refine E.G.skip (by kernel_rfl) (by kernel_rfl) ?_
            refine E.G.skip (by kernel_rfl) (by kernel_rfl) ?_
            refine E.G.op (.bool false) (fun w => by kernel_rfl) (by kernel_rfl) ?_
            exact E.G.end_pst ⟨by kernel_rfl, by kernel_rfl⟩ (List.Sublist.refl _) (fun _ h => h)
          · skip
            refine E.G.op (.int .u32 (((M.rg r0 r1 r2 r3).chk (M.sub500 a) 1 ((1 + (s % 4) : Nat) : Int)).1)) (fun w => by kernel_rfl) (by kernel_rfl) ?_
            refine E.G.op (.int .u32 ((M.sub500 a : Nat) : Int)) (fun w => by kernel_rfl) (by kernel_rfl) ?_
            refine E.G.op (.int .i64 ((((1 + (s % 4)) - i.1 : Nat) : Int) - 1)) (fun w => by kernel_rfl) (by kernel_rfl) ?_
            refine E.G.val (.int .u32 (((1 + (s % 4)) - i.1 - 1 : Nat) : Int)) (by kernel_rfl) (fun w h => E.run_as (a := .int .u32 (IntKind.wrap .u32 ((((1 + (s % 4)) - i.1 : Nat) : Int) - 1))) (by kernel_rfl) (congrArg (Value.int .u32) (M.i_32 (by omega) (by have := hk1.1; (first | assumption | ((try simp only [Bool.or_eq_false_iff, Bool.or_eq_true, Bool.and_eq_true, Bool.and_eq_false_iff, Bool.not_eq_eq_eq_not, Bool.not_true, Bool.not_false, decide_eq_true_eq, decide_eq_false_iff_not, ge_iff_le, gt_iff_lt] at *); omega)))))) ?_
            refine E.G.val (.int .u32 ((((M.sub500 a) + ((1 + (s % 4)) - i.1 - 1)) % 4294967296 : Nat) : Int)) (by kernel_rfl) (fun w h => E.run_as (a := .int .u32 (IntKind.wrap .u32 (((M.sub500 a : Nat) : Int) + (((1 + (s % 4)) - i.1 - 1 : Nat) : Int)))) (by kernel_rfl) (congrArg (Value.int .u32) (by exact Nz.add32 (M.sub500 a) ((1 + (s % 4)) - i.1 - 1)))) ?_
            refine E.G.op (.bool (decide ((((M.rg r0 r1 r2 r3).chk (M.sub500 a) 1 ((1 + (s % 4) : Nat) : Int)).1) > ((((M.sub500 a) + ((1 + (s % 4)) - i.1 - 1)) % 4294967296 : Nat) : Int)))) (fun w => by kernel_rfl) (by kernel_rfl) ?_
            refine E.G.op (.bool (decide ((((M.rg r0 r1 r2 r3).chk (M.sub500 a) 1 ((1 + (s % 4) : Nat) : Int)).1) > ((((M.sub500 a) + ((1 + (s % 4)) - i.1 - 1)) % 4294967296 : Nat) : Int)))) (fun w => by kernel_rfl) (by kernel_rfl) ?_
            exact E.G.end_pst ⟨by kernel_rfl, by kernel_rfl⟩ (List.Sublist.refl _) (fun _ h => h)
        refine E.G.op (.bool ((!(((M.rg r0 r1 r2 r3).chk (M.sub500 a) 1 ((1 + (s % 4) : Nat) : Int)).2)) && (decide ((((M.rg r0 r1 r2 r3).chk (M.sub500 a) 1 ((1 + (s % 4) : Nat) : Int)).1) > ((((M.sub500 a) + ((1 + (s % 4)) - i.1 - 1)) % 4294967296 : Nat) : Int))))) (fun w => by kernel_rfl) (by kernel_rfl) ?_
        refine E.G.cut 5 [(1, .int .u32 ((M.sub500 a : Nat) : Int)), (3, .pointer (some ⟨g1, 0, none⟩)), (6, .bool false), (7, .bool true), (8, .pointer (some ⟨m2, 0, none⟩)), (10, .int .i64 ((1 + (s % 4) : Nat) : Int)), (12, .int .u32 (((M.rg r0 r1 r2 r3).chk (M.sub500 a) 1 ((1 + (s % 4) : Nat) : Int)).1)), (13, .bool (((M.rg r0 r1 r2 r3).chk (M.sub500 a) 1 ((1 + (s % 4) : Nat) : Int)).2)), (14, .int .u32 (((M.rg r0 r1 r2 r3).chk (M.sub500 a) 2 ((1 + (s % 4) : Nat) : Int)).1)), (15, .bool (((M.rg r0 r1 r2 r3).chk (M.sub500 a) 2 ((1 + (s % 4) : Nat) : Int)).2)), (16, .bool false), (17, .bool i.2.2.1), (18, .int .i64 ((((1 + (s % 4)) - i.1 : Nat) : Int) - 1)), (20, .int .u32 ((((M.sub500 a) + ((1 + (s % 4)) - i.1 - 1)) % 4294967296 : Nat) : Int)), (21, .bool false), (22, .int .u32 ((((M.sub500 a) + ((1 + (s % 4)) - i.1 - 1)) % 4294967296 : Nat) : Int)), (23, .bool false), (63, .int .i64 ((((1 + (s % 4)) - i.1 : Nat) : Int) - 1)), (64, .bool (decide (((((1 + (s % 4)) - i.1 : Nat) : Int) - 1) ≥ 0))), (67, .tuple #[.int .u32 0, .int .u32 ((((M.sub500 a) + ((1 + (s % 4)) - i.1 - 1)) % 4294967296 : Nat) : Int), .bool false]), (68, .pointer (some ⟨m2, 0, none⟩)), (69, .int .u32 ((M.sub500 a : Nat) : Int)), (70, .int .i64 ((((1 + (s % 4)) - i.1 : Nat) : Int) - 1)), (71, .int .u32 (((1 + (s % 4)) - i.1 - 1 : Nat) : Int)), (72, .int .u32 ((((M.sub500 a) + ((1 + (s % 4)) - i.1 - 1)) % 4294967296 : Nat) : Int)), (73, .tuple #[.int .u32 0, .int .u32 ((((M.sub500 a) + ((1 + (s % 4)) - i.1 - 1)) % 4294967296 : Nat) : Int), .bool false]), (74, .int .u32 0), (75, .int .u32 ((((M.sub500 a) + ((1 + (s % 4)) - i.1 - 1)) % 4294967296 : Nat) : Int)), (76, .bool false), (77, .tuple #[.int .u32 ((((M.sub500 a) + ((1 + (s % 4)) - i.1 - 1)) % 4294967296 : Nat) : Int), .bool false]), (78, .pointer (some ⟨m2, 0, none⟩)), (79, .int .u32 ((M.sub500 a : Nat) : Int)), (80, .int .i64 ((((1 + (s % 4)) - i.1 : Nat) : Int) - 1)), (81, .int .u32 (((1 + (s % 4)) - i.1 - 1 : Nat) : Int)), (82, .int .u32 ((((M.sub500 a) + ((1 + (s % 4)) - i.1 - 1)) % 4294967296 : Nat) : Int)), (83, .tuple #[.int .u32 ((((M.sub500 a) + ((1 + (s % 4)) - i.1 - 1)) % 4294967296 : Nat) : Int), .bool false]), (84, .int .u32 ((((M.sub500 a) + ((1 + (s % 4)) - i.1 - 1)) % 4294967296 : Nat) : Int)), (85, .bool false), (86, .bool false), (87, .bool true), (88, .bool true), (89, .int .u32 ((((M.sub500 a) + ((1 + (s % 4)) - i.1 - 1)) % 4294967296 : Nat) : Int)), (90, .int .u32 ((M.sub500 a : Nat) : Int)), (91, .int .i64 ((((1 + (s % 4)) - i.1 : Nat) : Int) - 1)), (92, .int .u32 (((1 + (s % 4)) - i.1 - 1 : Nat) : Int)), (93, .int .u32 ((((M.sub500 a) + ((1 + (s % 4)) - i.1 - 1)) % 4294967296 : Nat) : Int)), (94, .bool false), (95, .bool false), (96, .bool false), (97, .bool false), (98, .bool true), (99, .bool true), (100, .int .u32 ((((M.sub500 a) + ((1 + (s % 4)) - i.1 - 1)) % 4294967296 : Nat) : Int)), (101, .int .u32 ((M.sub500 a : Nat) : Int)), (102, .int .i64 ((((1 + (s % 4)) - i.1 : Nat) : Int) - 1)), (103, .int .u32 (((1 + (s % 4)) - i.1 - 1 : Nat) : Int)), (104, .int .u32 ((((M.sub500 a) + ((1 + (s % 4)) - i.1 - 1)) % 4294967296 : Nat) : Int)), (105, .bool false), (106, .bool false), (107, .bool false), (108, .bool false), (109, .bool true), (110, .bool (((M.rg r0 r1 r2 r3).chk (M.sub500 a) 1 ((1 + (s % 4) : Nat) : Int)).2)), (111, .bool (!(((M.rg r0 r1 r2 r3).chk (M.sub500 a) 1 ((1 + (s % 4) : Nat) : Int)).2))), (112, .bool (!(((M.rg r0 r1 r2 r3).chk (M.sub500 a) 1 ((1 + (s % 4) : Nat) : Int)).2))), (119, .bool ((!(((M.rg r0 r1 r2 r3).chk (M.sub500 a) 1 ((1 + (s % 4) : Nat) : Int)).2)) && (decide ((((M.rg r0 r1 r2 r3).chk (M.sub500 a) 1 ((1 + (s % 4) : Nat) : Int)).1) > ((((M.sub500 a) + ((1 + (s % 4)) - i.1 - 1)) % 4294967296 : Nat) : Int))))), (120, .bool ((!(((M.rg r0 r1 r2 r3).chk (M.sub500 a) 1 ((1 + (s % 4) : Nat) : Int)).2)) && (decide ((((M.rg r0 r1 r2 r3).chk (M.sub500 a) 1 ((1 + (s % 4) : Nat) : Int)).1) > ((((M.sub500 a) + ((1 + (s % 4)) - i.1 - 1)) % 4294967296 : Nat) : Int))))), (125, .bool (((!(((M.rg r0 r1 r2 r3).chk (M.sub500 a) 1 ((1 + (s % 4) : Nat) : Int)).2)) && (decide ((((M.rg r0 r1 r2 r3).chk (M.sub500 a) 1 ((1 + (s % 4) : Nat) : Int)).1) > ((((M.sub500 a) + ((1 + (s % 4)) - i.1 - 1)) % 4294967296 : Nat) : Int)))) && (decide ((IntKind.wrap .u32 ((((M.rg r0 r1 r2 r3).chk (M.sub500 a) 1 ((1 + (s % 4) : Nat) : Int)).1) - ((M.sub500 a : Nat) : Int))) < 4))))] (A.X w oo aa [M.It m2 i.2.2.2 ([])]) [(g1, [.int .u8 r0, .int .u8 r1, .int .u8 r2, .int .u8 r3])] ?_ ?_
        · generalize hc37 : ((!(((M.rg r0 r1 r2 r3).chk (M.sub500 a) 1 ((1 + (s % 4) : Nat) : Int)).2)) && (decide ((((M.rg r0 r1 r2 r3).chk (M.sub500 a) 1 ((1 + (s % 4) : Nat) : Int)).1) > ((((M.sub500 a) + ((1 + (s % 4)) - i.1 - 1)) % 4294967296 : Nat) : Int)))) = b38
          cases b38
          · skip
            refine E.G.skip (by kernel_rfl) (by kernel_rfl) ?_
            refine E.G.skip (by kernel_rfl) (by kernel_rfl) ?_
            refine E.G.skip (by kernel_rfl) (by kernel_rfl) ?_
            refine E.G.skip (by kernel_rfl) (by kernel_rfl) ?_
            refine E.G.op (.bool false) (fun w => by kernel_rfl) (by kernel_rfl) ?_
            exact E.G.end_pst ⟨by kernel_rfl, by kernel_rfl⟩ (List.Sublist.refl _) (fun _ h => h)
          · skip
            refine E.G.op (.int .u32 (((M.rg r0 r1 r2 r3).chk (M.sub500 a) 1 ((1 + (s % 4) : Nat) : Int)).1)) (fun w => by kernel_rfl) (by kernel_rfl) ?_
            refine E.G.op (.int .u32 ((M.sub500 a : Nat) : Int)) (fun w => by kernel_rfl) (by kernel_rfl) ?_
            refine E.G.op (.int .u32 (IntKind.wrap .u32 ((((M.rg r0 r1 r2 r3).chk (M.sub500 a) 1 ((1 + (s % 4) : Nat) : Int)).1) - ((M.sub500 a : Nat) : Int)))) (fun w => by kernel_rfl) (by kernel_rfl) ?_
            refine E.G.op (.bool (decide ((IntKind.wrap .u32 ((((M.rg r0 r1 r2 r3).chk (M.sub500 a) 1 ((1 + (s % 4) : Nat) : Int)).1) - ((M.sub500 a : Nat) : Int))) < 4))) (fun w => by kernel_rfl) (by kernel_rfl) ?_
            refine E.G.op (.bool (decide ((IntKind.wrap .u32 ((((M.rg r0 r1 r2 r3).chk (M.sub500 a) 1 ((1 + (s % 4) : Nat) : Int)).1) - ((M.sub500 a : Nat) : Int))) < 4))) (fun w => by kernel_rfl) (by kernel_rfl) ?_
            exact E.G.end_pst ⟨by kernel_rfl, by kernel_rfl⟩ (List.Sublist.refl _) (fun _ h => h)
        refine E.G.op (.bool (((!(((M.rg r0 r1 r2 r3).chk (M.sub500 a) 1 ((1 + (s % 4) : Nat) : Int)).2)) && (decide ((((M.rg r0 r1 r2 r3).chk (M.sub500 a) 1 ((1 + (s % 4) : Nat) : Int)).1) > ((((M.sub500 a) + ((1 + (s % 4)) - i.1 - 1)) % 4294967296 : Nat) : Int)))) && (decide ((IntKind.wrap .u32 ((((M.rg r0 r1 r2 r3).chk (M.sub500 a) 1 ((1 + (s % 4) : Nat) : Int)).1) - ((M.sub500 a : Nat) : Int))) < 4)))) (fun w => by kernel_rfl) (by kernel_rfl) ?_
        refine E.G.cut 7 [(1, .int .u32 ((M.sub500 a : Nat) : Int)), (3, .pointer (some ⟨g1, 0, none⟩)), (6, .bool false), (7, .bool true), (8, .pointer (some ⟨m2, 0, none⟩)), (10, .int .i64 ((1 + (s % 4) : Nat) : Int)), (12, .int .u32 (((M.rg r0 r1 r2 r3).chk (M.sub500 a) 1 ((1 + (s % 4) : Nat) : Int)).1)), (13, .bool (((M.rg r0 r1 r2 r3).chk (M.sub500 a) 1 ((1 + (s % 4) : Nat) : Int)).2)), (14, .int .u32 (((M.rg r0 r1 r2 r3).chk (M.sub500 a) 2 ((1 + (s % 4) : Nat) : Int)).1)), (15, .bool (((M.rg r0 r1 r2 r3).chk (M.sub500 a) 2 ((1 + (s % 4) : Nat) : Int)).2)), (16, .bool false), (17, .bool i.2.2.1), (18, .int .i64 ((((1 + (s % 4)) - i.1 : Nat) : Int) - 1)), (20, .int .u32 ((((M.sub500 a) + ((1 + (s % 4)) - i.1 - 1)) % 4294967296 : Nat) : Int)), (21, .bool false), (22, .int .u32 ((((M.sub500 a) + ((1 + (s % 4)) - i.1 - 1)) % 4294967296 : Nat) : Int)), (23, .bool false), (63, .int .i64 ((((1 + (s % 4)) - i.1 : Nat) : Int) - 1)), (64, .bool (decide (((((1 + (s % 4)) - i.1 : Nat) : Int) - 1) ≥ 0))), (67, .tuple #[.int .u32 0, .int .u32 ((((M.sub500 a) + ((1 + (s % 4)) - i.1 - 1)) % 4294967296 : Nat) : Int), .bool false]), (68, .pointer (some ⟨m2, 0, none⟩)), (69, .int .u32 ((M.sub500 a : Nat) : Int)), (70, .int .i64 ((((1 + (s % 4)) - i.1 : Nat) : Int) - 1)), (71, .int .u32 (((1 + (s % 4)) - i.1 - 1 : Nat) : Int)), (72, .int .u32 ((((M.sub500 a) + ((1 + (s % 4)) - i.1 - 1)) % 4294967296 : Nat) : Int)), (73, .tuple #[.int .u32 0, .int .u32 ((((M.sub500 a) + ((1 + (s % 4)) - i.1 - 1)) % 4294967296 : Nat) : Int), .bool false]), (74, .int .u32 0), (75, .int .u32 ((((M.sub500 a) + ((1 + (s % 4)) - i.1 - 1)) % 4294967296 : Nat) : Int)), (76, .bool false), (77, .tuple #[.int .u32 ((((M.sub500 a) + ((1 + (s % 4)) - i.1 - 1)) % 4294967296 : Nat) : Int), .bool false]), (78, .pointer (some ⟨m2, 0, none⟩)), (79, .int .u32 ((M.sub500 a : Nat) : Int)), (80, .int .i64 ((((1 + (s % 4)) - i.1 : Nat) : Int) - 1)), (81, .int .u32 (((1 + (s % 4)) - i.1 - 1 : Nat) : Int)), (82, .int .u32 ((((M.sub500 a) + ((1 + (s % 4)) - i.1 - 1)) % 4294967296 : Nat) : Int)), (83, .tuple #[.int .u32 ((((M.sub500 a) + ((1 + (s % 4)) - i.1 - 1)) % 4294967296 : Nat) : Int), .bool false]), (84, .int .u32 ((((M.sub500 a) + ((1 + (s % 4)) - i.1 - 1)) % 4294967296 : Nat) : Int)), (85, .bool false), (86, .bool false), (87, .bool true), (88, .bool true), (89, .int .u32 ((((M.sub500 a) + ((1 + (s % 4)) - i.1 - 1)) % 4294967296 : Nat) : Int)), (90, .int .u32 ((M.sub500 a : Nat) : Int)), (91, .int .i64 ((((1 + (s % 4)) - i.1 : Nat) : Int) - 1)), (92, .int .u32 (((1 + (s % 4)) - i.1 - 1 : Nat) : Int)), (93, .int .u32 ((((M.sub500 a) + ((1 + (s % 4)) - i.1 - 1)) % 4294967296 : Nat) : Int)), (94, .bool false), (95, .bool false), (96, .bool false), (97, .bool false), (98, .bool true), (99, .bool true), (100, .int .u32 ((((M.sub500 a) + ((1 + (s % 4)) - i.1 - 1)) % 4294967296 : Nat) : Int)), (101, .int .u32 ((M.sub500 a : Nat) : Int)), (102, .int .i64 ((((1 + (s % 4)) - i.1 : Nat) : Int) - 1)), (103, .int .u32 (((1 + (s % 4)) - i.1 - 1 : Nat) : Int)), (104, .int .u32 ((((M.sub500 a) + ((1 + (s % 4)) - i.1 - 1)) % 4294967296 : Nat) : Int)), (105, .bool false), (106, .bool false), (107, .bool false), (108, .bool false), (109, .bool true), (110, .bool (((M.rg r0 r1 r2 r3).chk (M.sub500 a) 1 ((1 + (s % 4) : Nat) : Int)).2)), (111, .bool (!(((M.rg r0 r1 r2 r3).chk (M.sub500 a) 1 ((1 + (s % 4) : Nat) : Int)).2))), (112, .bool (!(((M.rg r0 r1 r2 r3).chk (M.sub500 a) 1 ((1 + (s % 4) : Nat) : Int)).2))), (119, .bool ((!(((M.rg r0 r1 r2 r3).chk (M.sub500 a) 1 ((1 + (s % 4) : Nat) : Int)).2)) && (decide ((((M.rg r0 r1 r2 r3).chk (M.sub500 a) 1 ((1 + (s % 4) : Nat) : Int)).1) > ((((M.sub500 a) + ((1 + (s % 4)) - i.1 - 1)) % 4294967296 : Nat) : Int))))), (120, .bool ((!(((M.rg r0 r1 r2 r3).chk (M.sub500 a) 1 ((1 + (s % 4) : Nat) : Int)).2)) && (decide ((((M.rg r0 r1 r2 r3).chk (M.sub500 a) 1 ((1 + (s % 4) : Nat) : Int)).1) > ((((M.sub500 a) + ((1 + (s % 4)) - i.1 - 1)) % 4294967296 : Nat) : Int))))), (125, .bool (((!(((M.rg r0 r1 r2 r3).chk (M.sub500 a) 1 ((1 + (s % 4) : Nat) : Int)).2)) && (decide ((((M.rg r0 r1 r2 r3).chk (M.sub500 a) 1 ((1 + (s % 4) : Nat) : Int)).1) > ((((M.sub500 a) + ((1 + (s % 4)) - i.1 - 1)) % 4294967296 : Nat) : Int)))) && (decide ((IntKind.wrap .u32 ((((M.rg r0 r1 r2 r3).chk (M.sub500 a) 1 ((1 + (s % 4) : Nat) : Int)).1) - ((M.sub500 a : Nat) : Int))) < 4)))), (126, .bool (((!(((M.rg r0 r1 r2 r3).chk (M.sub500 a) 1 ((1 + (s % 4) : Nat) : Int)).2)) && (decide ((((M.rg r0 r1 r2 r3).chk (M.sub500 a) 1 ((1 + (s % 4) : Nat) : Int)).1) > ((((M.sub500 a) + ((1 + (s % 4)) - i.1 - 1)) % 4294967296 : Nat) : Int)))) && (decide ((IntKind.wrap .u32 ((((M.rg r0 r1 r2 r3).chk (M.sub500 a) 1 ((1 + (s % 4) : Nat) : Int)).1) - ((M.sub500 a : Nat) : Int))) < 4)))), (133, .bool false)] (A.X w oo aa [M.It m2 i.2.2.2 ([])]) [(g1, [.int .u8 r0, .int .u8 r1, .int .u8 r2, .int .u8 r3])] ?_ ?_
        · generalize hc39 : (((!(((M.rg r0 r1 r2 r3).chk (M.sub500 a) 1 ((1 + (s % 4) : Nat) : Int)).2)) && (decide ((((M.rg r0 r1 r2 r3).chk (M.sub500 a) 1 ((1 + (s % 4) : Nat) : Int)).1) > ((((M.sub500 a) + ((1 + (s % 4)) - i.1 - 1)) % 4294967296 : Nat) : Int)))) && (decide ((IntKind.wrap .u32 ((((M.rg r0 r1 r2 r3).chk (M.sub500 a) 1 ((1 + (s % 4) : Nat) : Int)).1) - ((M.sub500 a : Nat) : Int))) < 4))) = b40
          cases b40
          · skip
            refine E.G.skip (by kernel_rfl) (by kernel_rfl) ?_
            refine E.G.skip (by kernel_rfl) (by kernel_rfl) ?_
            refine E.G.skip (by kernel_rfl) (by kernel_rfl) ?_
            refine E.G.skip (by kernel_rfl) (by kernel_rfl) ?_
            refine E.G.skip (by kernel_rfl) (by kernel_rfl) ?_
            refine E.G.skip (by kernel_rfl) (by kernel_rfl) ?_
            refine E.G.op (.bool false) (fun w => by kernel_rfl) (by kernel_rfl) ?_
            exact E.G.end_pst ⟨by kernel_rfl, by kernel_rfl⟩ (List.Sublist.refl _) (fun _ h => h)
          · skip
            refine E.G.op (.int .u32 (((M.rg r0 r1 r2 r3).chk (M.sub500 a) 1 ((1 + (s % 4) : Nat) : Int)).1)) (fun w => by kernel_rfl) (by kernel_rfl) ?_
            refine E.G.op (.int .u32 ((M.sub500 a : Nat) : Int)) (fun w => by kernel_rfl) (by kernel_rfl) ?_
            refine E.G.op (.int .u32 (IntKind.wrap .u32 ((((M.rg r0 r1 r2 r3).chk (M.sub500 a) 1 ((1 + (s % 4) : Nat) : Int)).1) - ((M.sub500 a : Nat) : Int)))) (fun w => by kernel_rfl) (by kernel_rfl) ?_
            refine E.G.op (.int .i64 ((((1 + (s % 4)) - i.1 : Nat) : Int) - 1)) (fun w => by kernel_rfl) (by kernel_rfl) ?_
            refine E.G.val (.int .u32 (((1 + (s % 4)) - i.1 - 1 : Nat) : Int)) (by kernel_rfl) (fun w h => E.run_as (a := .int .u32 (IntKind.wrap .u32 ((((1 + (s % 4)) - i.1 : Nat) : Int) - 1))) (by kernel_rfl) (congrArg (Value.int .u32) (M.i_32 (by omega) (by have := hk1.1; (first | assumption | ((try simp only [Bool.or_eq_false_iff, Bool.or_eq_true, Bool.and_eq_true, Bool.and_eq_false_iff, Bool.not_eq_eq_eq_not, Bool.not_true, Bool.not_false, decide_eq_true_eq, decide_eq_false_iff_not, ge_iff_le, gt_iff_lt] at *); omega)))))) ?_
            refine E.G.val (.bool false) (by kernel_rfl) (fun w h => E.run_as (a := .bool (decide ((IntKind.wrap .u32 ((((M.rg r0 r1 r2 r3).chk (M.sub500 a) 1 ((1 + (s % 4) : Nat) : Int)).1) - ((M.sub500 a : Nat) : Int))) > (((1 + (s % 4)) - i.1 - 1 : Nat) : Int)))) (by kernel_rfl) (congrArg Value.bool (M.first_le (M.sub500_lt a) (by omega : 1 ≤ 1 + s % 4 ∧ 1 + s % 4 ≤ 4) (by have := hk1.1; (first | assumption | ((try simp only [Bool.or_eq_false_iff, Bool.or_eq_true, Bool.and_eq_true, Bool.and_eq_false_iff, Bool.not_eq_eq_eq_not, Bool.not_true, Bool.not_false, decide_eq_true_eq, decide_eq_false_iff_not, ge_iff_le, gt_iff_lt] at *); omega))) hc10))) ?_
            refine E.G.op (.bool false) (fun w => by kernel_rfl) (by kernel_rfl) ?_
            exact E.G.end_pst ⟨by kernel_rfl, by kernel_rfl⟩ (List.Sublist.refl _) (fun _ h => h)
        refine E.To.code ?_
        refine E.C.condF (by kernel_rfl) (by kernel_rfl) ?_
        refine E.C.skip (E.To.code ?_)
        refine E.C.seq ?_
        refine E.C.region ?_
        refine E.G.op (.bool i.2.2.1) (fun w => by kernel_rfl) (by kernel_rfl) ?_
        refine E.G.op (.bool i.2.2.1) (fun w => by kernel_rfl) (by kernel_rfl) ?_
        refine E.G.cut 2 [(1, .int .u32 ((M.sub500 a : Nat) : Int)), (3, .pointer (some ⟨g1, 0, none⟩)), (6, .bool false), (7, .bool true), (8, .pointer (some ⟨m2, 0, none⟩)), (10, .int .i64 ((1 + (s % 4) : Nat) : Int)), (12, .int .u32 (((M.rg r0 r1 r2 r3).chk (M.sub500 a) 1 ((1 + (s % 4) : Nat) : Int)).1)), (13, .bool (((M.rg r0 r1 r2 r3).chk (M.sub500 a) 1 ((1 + (s % 4) : Nat) : Int)).2)), (14, .int .u32 (((M.rg r0 r1 r2 r3).chk (M.sub500 a) 2 ((1 + (s % 4) : Nat) : Int)).1)), (15, .bool (((M.rg r0 r1 r2 r3).chk (M.sub500 a) 2 ((1 + (s % 4) : Nat) : Int)).2)), (16, .bool false), (17, .bool i.2.2.1), (18, .int .i64 ((((1 + (s % 4)) - i.1 : Nat) : Int) - 1)), (20, .int .u32 ((((M.sub500 a) + ((1 + (s % 4)) - i.1 - 1)) % 4294967296 : Nat) : Int)), (21, .bool false), (22, .int .u32 ((((M.sub500 a) + ((1 + (s % 4)) - i.1 - 1)) % 4294967296 : Nat) : Int)), (23, .bool false), (63, .int .i64 ((((1 + (s % 4)) - i.1 : Nat) : Int) - 1)), (64, .bool (decide (((((1 + (s % 4)) - i.1 : Nat) : Int) - 1) ≥ 0))), (67, .tuple #[.int .u32 0, .int .u32 ((((M.sub500 a) + ((1 + (s % 4)) - i.1 - 1)) % 4294967296 : Nat) : Int), .bool false]), (68, .pointer (some ⟨m2, 0, none⟩)), (69, .int .u32 ((M.sub500 a : Nat) : Int)), (70, .int .i64 ((((1 + (s % 4)) - i.1 : Nat) : Int) - 1)), (71, .int .u32 (((1 + (s % 4)) - i.1 - 1 : Nat) : Int)), (72, .int .u32 ((((M.sub500 a) + ((1 + (s % 4)) - i.1 - 1)) % 4294967296 : Nat) : Int)), (73, .tuple #[.int .u32 0, .int .u32 ((((M.sub500 a) + ((1 + (s % 4)) - i.1 - 1)) % 4294967296 : Nat) : Int), .bool false]), (74, .int .u32 0), (75, .int .u32 ((((M.sub500 a) + ((1 + (s % 4)) - i.1 - 1)) % 4294967296 : Nat) : Int)), (76, .bool false), (77, .tuple #[.int .u32 ((((M.sub500 a) + ((1 + (s % 4)) - i.1 - 1)) % 4294967296 : Nat) : Int), .bool false]), (78, .pointer (some ⟨m2, 0, none⟩)), (79, .int .u32 ((M.sub500 a : Nat) : Int)), (80, .int .i64 ((((1 + (s % 4)) - i.1 : Nat) : Int) - 1)), (81, .int .u32 (((1 + (s % 4)) - i.1 - 1 : Nat) : Int)), (82, .int .u32 ((((M.sub500 a) + ((1 + (s % 4)) - i.1 - 1)) % 4294967296 : Nat) : Int)), (83, .tuple #[.int .u32 ((((M.sub500 a) + ((1 + (s % 4)) - i.1 - 1)) % 4294967296 : Nat) : Int), .bool false]), (84, .int .u32 ((((M.sub500 a) + ((1 + (s % 4)) - i.1 - 1)) % 4294967296 : Nat) : Int)), (85, .bool false), (86, .bool false), (87, .bool true), (88, .bool true), (89, .int .u32 ((((M.sub500 a) + ((1 + (s % 4)) - i.1 - 1)) % 4294967296 : Nat) : Int)), (90, .int .u32 ((M.sub500 a : Nat) : Int)), (91, .int .i64 ((((1 + (s % 4)) - i.1 : Nat) : Int) - 1)), (92, .int .u32 (((1 + (s % 4)) - i.1 - 1 : Nat) : Int)), (93, .int .u32 ((((M.sub500 a) + ((1 + (s % 4)) - i.1 - 1)) % 4294967296 : Nat) : Int)), (94, .bool false), (95, .bool false), (96, .bool false), (97, .bool false), (98, .bool true), (99, .bool true), (100, .int .u32 ((((M.sub500 a) + ((1 + (s % 4)) - i.1 - 1)) % 4294967296 : Nat) : Int)), (101, .int .u32 ((M.sub500 a : Nat) : Int)), (102, .int .i64 ((((1 + (s % 4)) - i.1 : Nat) : Int) - 1)), (103, .int .u32 (((1 + (s % 4)) - i.1 - 1 : Nat) : Int)), (104, .int .u32 ((((M.sub500 a) + ((1 + (s % 4)) - i.1 - 1)) % 4294967296 : Nat) : Int)), (105, .bool false), (106, .bool false), (107, .bool false), (108, .bool false), (109, .bool true), (110, .bool (((M.rg r0 r1 r2 r3).chk (M.sub500 a) 1 ((1 + (s % 4) : Nat) : Int)).2)), (111, .bool (!(((M.rg r0 r1 r2 r3).chk (M.sub500 a) 1 ((1 + (s % 4) : Nat) : Int)).2))), (112, .bool (!(((M.rg r0 r1 r2 r3).chk (M.sub500 a) 1 ((1 + (s % 4) : Nat) : Int)).2))), (119, .bool ((!(((M.rg r0 r1 r2 r3).chk (M.sub500 a) 1 ((1 + (s % 4) : Nat) : Int)).2)) && (decide ((((M.rg r0 r1 r2 r3).chk (M.sub500 a) 1 ((1 + (s % 4) : Nat) : Int)).1) > ((((M.sub500 a) + ((1 + (s % 4)) - i.1 - 1)) % 4294967296 : Nat) : Int))))), (120, .bool ((!(((M.rg r0 r1 r2 r3).chk (M.sub500 a) 1 ((1 + (s % 4) : Nat) : Int)).2)) && (decide ((((M.rg r0 r1 r2 r3).chk (M.sub500 a) 1 ((1 + (s % 4) : Nat) : Int)).1) > ((((M.sub500 a) + ((1 + (s % 4)) - i.1 - 1)) % 4294967296 : Nat) : Int))))), (125, .bool (((!(((M.rg r0 r1 r2 r3).chk (M.sub500 a) 1 ((1 + (s % 4) : Nat) : Int)).2)) && (decide ((((M.rg r0 r1 r2 r3).chk (M.sub500 a) 1 ((1 + (s % 4) : Nat) : Int)).1) > ((((M.sub500 a) + ((1 + (s % 4)) - i.1 - 1)) % 4294967296 : Nat) : Int)))) && (decide ((IntKind.wrap .u32 ((((M.rg r0 r1 r2 r3).chk (M.sub500 a) 1 ((1 + (s % 4) : Nat) : Int)).1) - ((M.sub500 a : Nat) : Int))) < 4)))), (126, .bool (((!(((M.rg r0 r1 r2 r3).chk (M.sub500 a) 1 ((1 + (s % 4) : Nat) : Int)).2)) && (decide ((((M.rg r0 r1 r2 r3).chk (M.sub500 a) 1 ((1 + (s % 4) : Nat) : Int)).1) > ((((M.sub500 a) + ((1 + (s % 4)) - i.1 - 1)) % 4294967296 : Nat) : Int)))) && (decide ((IntKind.wrap .u32 ((((M.rg r0 r1 r2 r3).chk (M.sub500 a) 1 ((1 + (s % 4) : Nat) : Int)).1) - ((M.sub500 a : Nat) : Int))) < 4)))), (133, .bool false), (134, .bool i.2.2.1), (135, .bool i.2.2.1), (137, .bool false)] (A.X w oo aa [M.It m2 i.2.2.2 ([])]) [(g1, [.int .u8 r0, .int .u8 r1, .int .u8 r2, .int .u8 r3])] ?_ ?_
        · generalize hc41 : i.2.2.1 = b42
          cases b42
          · skip
            refine E.G.skip (by kernel_rfl) (by kernel_rfl) ?_
            refine E.G.op (.bool false) (fun w => by kernel_rfl) (by kernel_rfl) ?_
            exact E.G.end_pst ⟨by kernel_rfl, by kernel_rfl⟩ (List.Sublist.refl _) (fun _ h => h)
          · skip
            refine E.G.op (.bool false) (fun w => by kernel_rfl) (by kernel_rfl) ?_
            refine E.G.op (.bool false) (fun w => by kernel_rfl) (by kernel_rfl) ?_
            exact E.G.end_pst ⟨by kernel_rfl, by kernel_rfl⟩ (List.Sublist.refl _) (fun _ h => h)
        refine E.G.op (.bool false) (fun w => by kernel_rfl) (by kernel_rfl) ?_
        refine E.To.code ?_
        refine E.C.seq ?_
        refine E.C.region ?_
        refine E.G.op (.int .u32 ((M.sub500 a : Nat) : Int)) (fun w => by kernel_rfl) (by kernel_rfl) ?_
        refine E.G.op (.int .i64 ((((1 + (s % 4)) - i.1 : Nat) : Int) - 1)) (fun w => by kernel_rfl) (by kernel_rfl) ?_
        refine E.G.val (.int .u32 (((1 + (s % 4)) - i.1 - 1 : Nat) : Int)) (by kernel_rfl) (fun w h => E.run_as (a := .int .u32 (IntKind.wrap .u32 ((((1 + (s % 4)) - i.1 : Nat) : Int) - 1))) (by kernel_rfl) (congrArg (Value.int .u32) (M.i_32 (by omega) (by have := hk1.1; (first | assumption | ((try simp only [Bool.or_eq_false_iff, Bool.or_eq_true, Bool.and_eq_true, Bool.and_eq_false_iff, Bool.not_eq_eq_eq_not, Bool.not_true, Bool.not_false, decide_eq_true_eq, decide_eq_false_iff_not, ge_iff_le, gt_iff_lt] at *); omega)))))) ?_
        refine E.G.val (.int .u32 ((((M.sub500 a) + ((1 + (s % 4)) - i.1 - 1)) % 4294967296 : Nat) : Int)) (by kernel_rfl) (fun w h => E.run_as (a := .int .u32 (IntKind.wrap .u32 (((M.sub500 a : Nat) : Int) + (((1 + (s % 4)) - i.1 - 1 : Nat) : Int)))) (by kernel_rfl) (congrArg (Value.int .u32) (by exact Nz.add32 (M.sub500 a) ((1 + (s % 4)) - i.1 - 1)))) ?_
        refine E.G.op (.bool (decide (((((M.sub500 a) + ((1 + (s % 4)) - i.1 - 1)) % 4294967296 : Nat) : Int) < 1024))) (fun w => by kernel_rfl) (by kernel_rfl) ?_
        refine E.G.op (.bool (decide (((((M.sub500 a) + ((1 + (s % 4)) - i.1 - 1)) % 4294967296 : Nat) : Int) < 1024))) (fun w => by kernel_rfl) (by kernel_rfl) ?_
        refine E.To.code ?_
        refine E.C.seq ?_
        refine E.C.region ?_
        refine E.G.op (.bool (decide (((((M.sub500 a) + ((1 + (s % 4)) - i.1 - 1)) % 4294967296 : Nat) : Int) < 1024))) (fun w => by kernel_rfl) (by kernel_rfl) ?_
        refine E.G.op (.bool (decide (((((M.sub500 a) + ((1 + (s % 4)) - i.1 - 1)) % 4294967296 : Nat) : Int) < 1024))) (fun w => by kernel_rfl) (by kernel_rfl) ?_
        refine E.G.cut 11 [(1, .int .u32 ((M.sub500 a : Nat) : Int)), (3, .pointer (some ⟨g1, 0, none⟩)), (6, .bool false), (7, .bool true), (8, .pointer (some ⟨m2, 0, none⟩)), (10, .int .i64 ((1 + (s % 4) : Nat) : Int)), (12, .int .u32 (((M.rg r0 r1 r2 r3).chk (M.sub500 a) 1 ((1 + (s % 4) : Nat) : Int)).1)), (13, .bool (((M.rg r0 r1 r2 r3).chk (M.sub500 a) 1 ((1 + (s % 4) : Nat) : Int)).2)), (14, .int .u32 (((M.rg r0 r1 r2 r3).chk (M.sub500 a) 2 ((1 + (s % 4) : Nat) : Int)).1)), (15, .bool (((M.rg r0 r1 r2 r3).chk (M.sub500 a) 2 ((1 + (s % 4) : Nat) : Int)).2)), (16, .bool false), (17, .bool false), (18, .int .i64 ((((1 + (s % 4)) - i.1 : Nat) : Int) - 1)), (20, .int .u32 ((((M.sub500 a) + ((1 + (s % 4)) - i.1 - 1)) % 4294967296 : Nat) : Int)), (21, .bool false), (22, .int .u32 ((((M.sub500 a) + ((1 + (s % 4)) - i.1 - 1)) % 4294967296 : Nat) : Int)), (23, .bool false), (24, .bool (decide (((((M.sub500 a) + ((1 + (s % 4)) - i.1 - 1)) % 4294967296 : Nat) : Int) < 1024))), (63, .int .i64 ((((1 + (s % 4)) - i.1 : Nat) : Int) - 1)), (64, .bool (decide (((((1 + (s % 4)) - i.1 : Nat) : Int) - 1) ≥ 0))), (67, .tuple #[.int .u32 0, .int .u32 ((((M.sub500 a) + ((1 + (s % 4)) - i.1 - 1)) % 4294967296 : Nat) : Int), .bool false]), (68, .pointer (some ⟨m2, 0, none⟩)), (69, .int .u32 ((M.sub500 a : Nat) : Int)), (70, .int .i64 ((((1 + (s % 4)) - i.1 : Nat) : Int) - 1)), (71, .int .u32 (((1 + (s % 4)) - i.1 - 1 : Nat) : Int)), (72, .int .u32 ((((M.sub500 a) + ((1 + (s % 4)) - i.1 - 1)) % 4294967296 : Nat) : Int)), (73, .tuple #[.int .u32 0, .int .u32 ((((M.sub500 a) + ((1 + (s % 4)) - i.1 - 1)) % 4294967296 : Nat) : Int), .bool false]), (74, .int .u32 0), (75, .int .u32 ((((M.sub500 a) + ((1 + (s % 4)) - i.1 - 1)) % 4294967296 : Nat) : Int)), (76, .bool false), (77, .tuple #[.int .u32 ((((M.sub500 a) + ((1 + (s % 4)) - i.1 - 1)) % 4294967296 : Nat) : Int), .bool false]), (78, .pointer (some ⟨m2, 0, none⟩)), (79, .int .u32 ((M.sub500 a : Nat) : Int)), (80, .int .i64 ((((1 + (s % 4)) - i.1 : Nat) : Int) - 1)), (81, .int .u32 (((1 + (s % 4)) - i.1 - 1 : Nat) : Int)), (82, .int .u32 ((((M.sub500 a) + ((1 + (s % 4)) - i.1 - 1)) % 4294967296 : Nat) : Int)), (83, .tuple #[.int .u32 ((((M.sub500 a) + ((1 + (s % 4)) - i.1 - 1)) % 4294967296 : Nat) : Int), .bool false]), (84, .int .u32 ((((M.sub500 a) + ((1 + (s % 4)) - i.1 - 1)) % 4294967296 : Nat) : Int)), (85, .bool false), (86, .bool false), (87, .bool true), (88, .bool true), (89, .int .u32 ((((M.sub500 a) + ((1 + (s % 4)) - i.1 - 1)) % 4294967296 : Nat) : Int)), (90, .int .u32 ((M.sub500 a : Nat) : Int)), (91, .int .i64 ((((1 + (s % 4)) - i.1 : Nat) : Int) - 1)), (92, .int .u32 (((1 + (s % 4)) - i.1 - 1 : Nat) : Int)), (93, .int .u32 ((((M.sub500 a) + ((1 + (s % 4)) - i.1 - 1)) % 4294967296 : Nat) : Int)), (94, .bool false), (95, .bool false), (96, .bool false), (97, .bool false), (98, .bool true), (99, .bool true), (100, .int .u32 ((((M.sub500 a) + ((1 + (s % 4)) - i.1 - 1)) % 4294967296 : Nat) : Int)), (101, .int .u32 ((M.sub500 a : Nat) : Int)), (102, .int .i64 ((((1 + (s % 4)) - i.1 : Nat) : Int) - 1)), (103, .int .u32 (((1 + (s % 4)) - i.1 - 1 : Nat) : Int)), (104, .int .u32 ((((M.sub500 a) + ((1 + (s % 4)) - i.1 - 1)) % 4294967296 : Nat) : Int)), (105, .bool false), (106, .bool false), (107, .bool false), (108, .bool false), (109, .bool true), (110, .bool (((M.rg r0 r1 r2 r3).chk (M.sub500 a) 1 ((1 + (s % 4) : Nat) : Int)).2)), (111, .bool (!(((M.rg r0 r1 r2 r3).chk (M.sub500 a) 1 ((1 + (s % 4) : Nat) : Int)).2))), (112, .bool (!(((M.rg r0 r1 r2 r3).chk (M.sub500 a) 1 ((1 + (s % 4) : Nat) : Int)).2))), (119, .bool ((!(((M.rg r0 r1 r2 r3).chk (M.sub500 a) 1 ((1 + (s % 4) : Nat) : Int)).2)) && (decide ((((M.rg r0 r1 r2 r3).chk (M.sub500 a) 1 ((1 + (s % 4) : Nat) : Int)).1) > ((((M.sub500 a) + ((1 + (s % 4)) - i.1 - 1)) % 4294967296 : Nat) : Int))))), (120, .bool ((!(((M.rg r0 r1 r2 r3).chk (M.sub500 a) 1 ((1 + (s % 4) : Nat) : Int)).2)) && (decide ((((M.rg r0 r1 r2 r3).chk (M.sub500 a) 1 ((1 + (s % 4) : Nat) : Int)).1) > ((((M.sub500 a) + ((1 + (s % 4)) - i.1 - 1)) % 4294967296 : Nat) : Int))))), (125, .bool (((!(((M.rg r0 r1 r2 r3).chk (M.sub500 a) 1 ((1 + (s % 4) : Nat) : Int)).2)) && (decide ((((M.rg r0 r1 r2 r3).chk (M.sub500 a) 1 ((1 + (s % 4) : Nat) : Int)).1) > ((((M.sub500 a) + ((1 + (s % 4)) - i.1 - 1)) % 4294967296 : Nat) : Int)))) && (decide ((IntKind.wrap .u32 ((((M.rg r0 r1 r2 r3).chk (M.sub500 a) 1 ((1 + (s % 4) : Nat) : Int)).1) - ((M.sub500 a : Nat) : Int))) < 4)))), (126, .bool (((!(((M.rg r0 r1 r2 r3).chk (M.sub500 a) 1 ((1 + (s % 4) : Nat) : Int)).2)) && (decide ((((M.rg r0 r1 r2 r3).chk (M.sub500 a) 1 ((1 + (s % 4) : Nat) : Int)).1) > ((((M.sub500 a) + ((1 + (s % 4)) - i.1 - 1)) % 4294967296 : Nat) : Int)))) && (decide ((IntKind.wrap .u32 ((((M.rg r0 r1 r2 r3).chk (M.sub500 a) 1 ((1 + (s % 4) : Nat) : Int)).1) - ((M.sub500 a : Nat) : Int))) < 4)))), (133, .bool false), (134, .bool i.2.2.1), (135, .bool i.2.2.1), (137, .bool false), (138, .int .u32 ((M.sub500 a : Nat) : Int)), (139, .int .i64 ((((1 + (s % 4)) - i.1 : Nat) : Int) - 1)), (140, .int .u32 (((1 + (s % 4)) - i.1 - 1 : Nat) : Int)), (141, .int .u32 ((((M.sub500 a) + ((1 + (s % 4)) - i.1 - 1)) % 4294967296 : Nat) : Int)), (142, .bool (decide (((((M.sub500 a) + ((1 + (s % 4)) - i.1 - 1)) % 4294967296 : Nat) : Int) < 1024))), (143, .bool (decide (((((M.sub500 a) + ((1 + (s % 4)) - i.1 - 1)) % 4294967296 : Nat) : Int) < 1024))), (144, .bool (decide (((((M.sub500 a) + ((1 + (s % 4)) - i.1 - 1)) % 4294967296 : Nat) : Int) < 1024))), (155, .bool ((decide (((((M.sub500 a) + ((1 + (s % 4)) - i.1 - 1)) % 4294967296 : Nat) : Int) < 1024)) && ((bits .and .u8 ([r0, r1, r2, r3].getD (0 + (((((((M.sub500 a) + ((1 + (s % 4)) - i.1 - 1)) % 4294967296) / 256) % 4 : Nat) : Int)).toNat * 1) 0) 1) == 1)))] (A.X w oo aa [M.It m2 i.2.2.2 ([])]) [(g1, [.int .u8 r0, .int .u8 r1, .int .u8 r2, .int .u8 r3])] ?_ ?_
        · generalize hc43 : (decide (((((M.sub500 a) + ((1 + (s % 4)) - i.1 - 1)) % 4294967296 : Nat) : Int) < 1024)) = b44
          cases b44
          · skip
            refine E.G.skip (by kernel_rfl) (by kernel_rfl) ?_
            refine E.G.skip (by kernel_rfl) (by kernel_rfl) ?_
            refine E.G.skip (by kernel_rfl) (by kernel_rfl) ?_
            refine E.G.skip (by kernel_rfl) (by kernel_rfl) ?_
            refine E.G.skip (by kernel_rfl) (by kernel_rfl) ?_
            refine E.G.skip (by kernel_rfl) (by kernel_rfl) ?_
            refine E.G.skip (by kernel_rfl) (by kernel_rfl) ?_
            refine E.G.skip (by kernel_rfl) (by kernel_rfl) ?_
            refine E.G.skip (by kernel_rfl) (by kernel_rfl) ?_
            refine E.G.skip (by kernel_rfl) (by kernel_rfl) ?_
            refine E.G.op (.bool false) (fun w => by kernel_rfl) (by kernel_rfl) ?_
            exact E.G.end_pst ⟨by kernel_rfl, by kernel_rfl⟩ (List.Sublist.refl _) (fun _ h => h)
          · skip
            refine E.G.op (.int .u32 ((M.sub500 a : Nat) : Int)) (fun w => by kernel_rfl) (by kernel_rfl) ?_
            refine E.G.op (.int .i64 ((((1 + (s % 4)) - i.1 : Nat) : Int) - 1)) (fun w => by kernel_rfl) (by kernel_rfl) ?_
            refine E.G.val (.int .u32 (((1 + (s % 4)) - i.1 - 1 : Nat) : Int)) (by kernel_rfl) (fun w h => E.run_as (a := .int .u32 (IntKind.wrap .u32 ((((1 + (s % 4)) - i.1 : Nat) : Int) - 1))) (by kernel_rfl) (congrArg (Value.int .u32) (M.i_32 (by omega) (by have := hk1.1; (first | assumption | ((try simp only [Bool.or_eq_false_iff, Bool.or_eq_true, Bool.and_eq_true, Bool.and_eq_false_iff, Bool.not_eq_eq_eq_not, Bool.not_true, Bool.not_false, decide_eq_true_eq, decide_eq_false_iff_not, ge_iff_le, gt_iff_lt] at *); omega)))))) ?_
            refine E.G.val (.int .u32 ((((M.sub500 a) + ((1 + (s % 4)) - i.1 - 1)) % 4294967296 : Nat) : Int)) (by kernel_rfl) (fun w h => E.run_as (a := .int .u32 (IntKind.wrap .u32 (((M.sub500 a : Nat) : Int) + (((1 + (s % 4)) - i.1 - 1 : Nat) : Int)))) (by kernel_rfl) (congrArg (Value.int .u32) (by exact Nz.add32 (M.sub500 a) ((1 + (s % 4)) - i.1 - 1)))) ?_
            refine E.G.val (.int .u32 (((((M.sub500 a) + ((1 + (s % 4)) - i.1 - 1)) % 4294967296) / 256 : Nat) : Int)) (by kernel_rfl) (fun w h => E.run_as (a := .int .u32 (IntKind.wrap .u32 (Int.tdiv ((((M.sub500 a) + ((1 + (s % 4)) - i.1 - 1)) % 4294967296 : Nat) : Int) 256))) (by kernel_rfl) (congrArg (Value.int .u32) (by exact Nz.quo32 (x := (((M.sub500 a) + ((1 + (s % 4)) - i.1 - 1)) % 4294967296)) 256 (by (first | assumption | ((try simp only [Bool.or_eq_false_iff, Bool.or_eq_true, Bool.and_eq_true, Bool.and_eq_false_iff, Bool.not_eq_eq_eq_not, Bool.not_true, Bool.not_false, decide_eq_true_eq, decide_eq_false_iff_not, ge_iff_le, gt_iff_lt] at *); omega)))))) ?_
            refine E.G.val (.int .u32 ((((((M.sub500 a) + ((1 + (s % 4)) - i.1 - 1)) % 4294967296) / 256) % 4 : Nat) : Int)) (by kernel_rfl) (fun w h => E.run_as (a := .int .u32 (Int.tmod (((((M.sub500 a) + ((1 + (s % 4)) - i.1 - 1)) % 4294967296) / 256 : Nat) : Int) 4)) (by kernel_rfl) (congrArg (Value.int .u32) (by exact Nz.rem ((((M.sub500 a) + ((1 + (s % 4)) - i.1 - 1)) % 4294967296) / 256) 4))) ?_
            refine E.G.val (.pointer (some ⟨g1, 0 + (((((((M.sub500 a) + ((1 + (s % 4)) - i.1 - 1)) % 4294967296) / 256) % 4 : Nat) : Int)).toNat * 1, none⟩)) (by kernel_rfl) (fun w h => E.idxA (e := 5) g1 0 4 1 .u32 (((((((M.sub500 a) + ((1 + (s % 4)) - i.1 - 1)) % 4294967296) / 256) % 4 : Nat) : Int)) (by kernel_rfl) (by kernel_rfl) (by kernel_rfl) (by kernel_rfl) (by omega) (by omega) w) ?_
            refine E.G.val (.int .u8 ([r0, r1, r2, r3].getD (0 + (((((((M.sub500 a) + ((1 + (s % 4)) - i.1 - 1)) % 4294967296) / 256) % 4 : Nat) : Int)).toNat * 1) 0)) (by kernel_rfl) (fun w h => E.run_load h 0 rfl rfl (E.ld_row (xs := [r0, r1, r2, r3]) (by kernel_rfl) (by simp only [List.length_cons, List.length_nil]; omega))) ?_
            refine E.G.op (.int .u8 (bits .and .u8 ([r0, r1, r2, r3].getD (0 + (((((((M.sub500 a) + ((1 + (s % 4)) - i.1 - 1)) % 4294967296) / 256) % 4 : Nat) : Int)).toNat * 1) 0) 1)) (fun w => by kernel_rfl) (by kernel_rfl) ?_
            refine E.G.op (.bool ((bits .and .u8 ([r0, r1, r2, r3].getD (0 + (((((((M.sub500 a) + ((1 + (s % 4)) - i.1 - 1)) % 4294967296) / 256) % 4 : Nat) : Int)).toNat * 1) 0) 1) == 1)) (fun w => by kernel_rfl) (by kernel_rfl) ?_
            refine E.G.op (.bool ((bits .and .u8 ([r0, r1, r2, r3].getD (0 + (((((((M.sub500 a) + ((1 + (s % 4)) - i.1 - 1)) % 4294967296) / 256) % 4 : Nat) : Int)).toNat * 1) 0) 1) == 1)) (fun w => by kernel_rfl) (by kernel_rfl) ?_
            exact E.G.end_pst ⟨by kernel_rfl, by kernel_rfl⟩ (List.Sublist.refl _) (fun _ h => h)
        refine E.G.op (.bool ((decide (((((M.sub500 a) + ((1 + (s % 4)) - i.1 - 1)) % 4294967296 : Nat) : Int) < 1024)) && ((bits .and .u8 ([r0, r1, r2, r3].getD (0 + (((((((M.sub500 a) + ((1 + (s % 4)) - i.1 - 1)) % 4294967296) / 256) % 4 : Nat) : Int)).toNat * 1) 0) 1) == 1))) (fun w => by kernel_rfl) (by kernel_rfl) ?_
        refine E.To.code ?_
        refine E.C.seq ?_
        refine E.C.region ?_
        refine E.G.op (.bool false) (fun w => by kernel_rfl) (by kernel_rfl) ?_
        refine E.G.op (.bool ((decide (((((M.sub500 a) + ((1 + (s % 4)) - i.1 - 1)) % 4294967296 : Nat) : Int) < 1024)) && ((bits .and .u8 ([r0, r1, r2, r3].getD (0 + (((((((M.sub500 a) + ((1 + (s % 4)) - i.1 - 1)) % 4294967296) / 256) % 4 : Nat) : Int)).toNat * 1) 0) 1) == 1))) (fun w => by kernel_rfl) (by kernel_rfl) ?_
        refine E.G.val (.bool false) (by kernel_rfl) (fun w h => E.run_as (a := .bool (false != ((decide (((((M.sub500 a) + ((1 + (s % 4)) - i.1 - 1)) % 4294967296 : Nat) : Int) < 1024)) && ((bits .and .u8 ([r0, r1, r2, r3].getD (0 + (((((((M.sub500 a) + ((1 + (s % 4)) - i.1 - 1)) % 4294967296) / 256) % 4 : Nat) : Int)).toNat * 1) 0) 1) == 1)))) (by kernel_rfl) (congrArg Value.bool (M.rg_ne hc10 (M.rg_ok h0 h1 h2 h3 _)))) ?_
        refine E.To.code ?_
        refine E.C.condF (by kernel_rfl) (by kernel_rfl) ?_
        refine E.C.skip (E.P.nb (E.To.code ?_))
        refine E.C.region ?_
        refine E.G.op (.int .i64 ((((1 + (s % 4)) - i.1 : Nat) : Int) - 1)) (fun w => by kernel_rfl) (by kernel_rfl) ?_
        refine E.G.val (.int .i64 ((((1 + (s % 4)) - (i.1 + 1) : Nat) : Int) - 1)) (by kernel_rfl) (fun w h => E.run_as (a := .int .i64 (IntKind.wrap .i64 (((((1 + (s % 4)) - i.1 : Nat) : Int) - 1) - 1))) (by kernel_rfl) (congrArg (Value.int .i64) (M.i_dn (by omega) (by have := hk1.1; (first | assumption | ((try simp only [Bool.or_eq_false_iff, Bool.or_eq_true, Bool.and_eq_true, Bool.and_eq_false_iff, Bool.not_eq_eq_eq_not, Bool.not_true, Bool.not_false, decide_eq_true_eq, decide_eq_false_iff_not, ge_iff_le, gt_iff_lt] at *); omega)))))) ?_
        refine E.G.op (.int .i64 ((((1 + (s % 4)) - (i.1 + 1) : Nat) : Int) - 1)) (fun w => by kernel_rfl) (by kernel_rfl) ?_
        exact E.To.round (i.1 + 1, false, false, i.2.2.2) (by show (1 + (s % 4)) - (i.1 + 1) < (1 + (s % 4)) - i.1; (first | assumption | ((try simp only [Bool.or_eq_false_iff, Bool.or_eq_true, Bool.and_eq_true, Bool.and_eq_false_iff, Bool.not_eq_eq_eq_not, Bool.not_true, Bool.not_false, decide_eq_true_eq, decide_eq_false_iff_not, ge_iff_le, gt_iff_lt] at *); omega))) (⟨by show i.1 + 1 ≤ (1 + (s % 4)); (first | assumption | ((try simp only [Bool.or_eq_false_iff, Bool.or_eq_true, Bool.and_eq_true, Bool.and_eq_false_iff, Bool.not_eq_eq_eq_not, Bool.not_true, Bool.not_false, decide_eq_true_eq, decide_eq_false_iff_not, ge_iff_le, gt_iff_lt] at *); omega)), by show _ = (M.al _ _ _ _ _ && _); rw [hc10, ← hk1.2.1]; (try simp), by show _ = (M.al _ _ _ _ _ && _); rw [hc22, ← hk1.2.2.1]; (try simp), hk1.2.2.2⟩) ⟨by kernel_rfl, by kernel_rfl⟩ (List.Sublist.refl _) (fun _ h => h)
  · skip
    refine E.C.exit (E.P.et (E.P.et (E.P.eh (E.To.code ?_))))
    refine E.C.seq ?_
    refine E.C.region ?_
    refine E.G.op (.bool true) (fun w => by kernel_rfl) (by kernel_rfl) ?_
    refine E.G.op (.bool true) (fun w => by kernel_rfl) (by kernel_rfl) ?_
    refine E.G.op (.bool (((M.rg r0 r1 r2 r3).chk (M.sub500 a) 1 ((1 + (s % 4) : Nat) : Int)).2)) (fun w => by kernel_rfl) (by kernel_rfl) ?_
    refine E.G.op (.bool i.2.1) (fun w => by kernel_rfl) (by kernel_rfl) ?_
    refine E.G.val (.bool true) (by kernel_rfl) (fun w h => E.run_as (a := .bool (((M.rg r0 r1 r2 r3).chk (M.sub500 a) 1 ((1 + (s % 4) : Nat) : Int)).2 == i.2.1)) (by kernel_rfl) (congrArg Value.bool (by rw [hk1.2.1, M.al_chk (by omega : 1 ≤ 1 + s % 4 ∧ 1 + s % 4 ≤ 4), M.al_end hk1.1 hc9]; exact beq_self_eq_true _))) ?_
    refine E.G.op (.bool true) (fun w => by kernel_rfl) (by kernel_rfl) ?_
    refine E.G.op (.bool true) (fun w => by kernel_rfl) (by kernel_rfl) ?_
    refine E.G.op (.bool (((M.rg r0 r1 r2 r3).chk (M.sub500 a) 2 ((1 + (s % 4) : Nat) : Int)).2)) (fun w => by kernel_rfl) (by kernel_rfl) ?_
    refine E.G.op (.bool i.2.2.1) (fun w => by kernel_rfl) (by kernel_rfl) ?_
    refine E.G.val (.bool true) (by kernel_rfl) (fun w h => E.run_as (a := .bool (((M.rg r0 r1 r2 r3).chk (M.sub500 a) 2 ((1 + (s % 4) : Nat) : Int)).2 == i.2.2.1)) (by kernel_rfl) (congrArg Value.bool (by rw [hk1.2.2.1, M.al_chk (by omega : 1 ≤ 1 + s % 4 ∧ 1 + s % 4 ≤ 4), M.al_end hk1.1 hc9]; exact beq_self_eq_true _))) ?_
    refine E.G.op (.bool true) (fun w => by kernel_rfl) (by kernel_rfl) ?_
    refine E.G.op (.bool true) (fun w => by kernel_rfl) (by kernel_rfl) ?_
    refine E.G.op (.bool (((M.rg r0 r1 r2 r3).chk (M.sub500 a) 1 ((1 + (s % 4) : Nat) : Int)).2)) (fun w => by kernel_rfl) (by kernel_rfl) ?_
    refine E.G.op (.bool (((M.rg r0 r1 r2 r3).chk (M.sub500 a) 1 ((1 + (s % 4) : Nat) : Int)).2)) (fun w => by kernel_rfl) (by kernel_rfl) ?_
    refine E.G.cut 7 [(1, .int .u32 ((M.sub500 a : Nat) : Int)), (6, .bool false), (10, .int .i64 ((1 + (s % 4) : Nat) : Int)), (14, .int .u32 (((M.rg r0 r1 r2 r3).chk (M.sub500 a) 2 ((1 + (s % 4) : Nat) : Int)).1)), (15, .bool (((M.rg r0 r1 r2 r3).chk (M.sub500 a) 2 ((1 + (s % 4) : Nat) : Int)).2)), (170, .bool true), (179, .bool ((((M.rg r0 r1 r2 r3).chk (M.sub500 a) 1 ((1 + (s % 4) : Nat) : Int)).2) || (decide ((IntKind.wrap .u32 ((((M.rg r0 r1 r2 r3).chk (M.sub500 a) 1 ((1 + (s % 4) : Nat) : Int)).1) - ((M.sub500 a : Nat) : Int))) < (((1 + (s % 4)) : Nat) : Int)))))] (A.X w oo aa [M.It m2 i.2.2.2 ([])]) [(g1, [.int .u8 r0, .int .u8 r1, .int .u8 r2, .int .u8 r3])] ?_ ?_
    · generalize hc45 : ((M.rg r0 r1 r2 r3).chk (M.sub500 a) 1 ((1 + (s % 4) : Nat) : Int)).2 = b46
      cases b46
      · skip
        refine E.G.op (.int .u32 (((M.rg r0 r1 r2 r3).chk (M.sub500 a) 1 ((1 + (s % 4) : Nat) : Int)).1)) (fun w => by kernel_rfl) (by kernel_rfl) ?_
        refine E.G.op (.int .u32 ((M.sub500 a : Nat) : Int)) (fun w => by kernel_rfl) (by kernel_rfl) ?_
        refine E.G.op (.int .u32 (IntKind.wrap .u32 ((((M.rg r0 r1 r2 r3).chk (M.sub500 a) 1 ((1 + (s % 4) : Nat) : Int)).1) - ((M.sub500 a : Nat) : Int)))) (fun w => by kernel_rfl) (by kernel_rfl) ?_
        refine E.G.op (.int .i64 ((1 + (s % 4) : Nat) : Int)) (fun w => by kernel_rfl) (by kernel_rfl) ?_
        refine E.G.val (.int .u32 (((1 + (s % 4)) : Nat) : Int)) (by kernel_rfl) (fun w h => E.run_as (a := .int .u32 (IntKind.wrap .u32 ((1 + (s % 4) : Nat) : Int))) (by kernel_rfl) (congrArg (Value.int .u32) (by exact Nz.w32 (x := (1 + (s % 4))) (by (first | assumption | ((try simp only [Bool.or_eq_false_iff, Bool.or_eq_true, Bool.and_eq_true, Bool.and_eq_false_iff, Bool.not_eq_eq_eq_not, Bool.not_true, Bool.not_false, decide_eq_true_eq, decide_eq_false_iff_not, ge_iff_le, gt_iff_lt] at *); omega)))))) ?_
        refine E.G.op (.bool (decide ((IntKind.wrap .u32 ((((M.rg r0 r1 r2 r3).chk (M.sub500 a) 1 ((1 + (s % 4) : Nat) : Int)).1) - ((M.sub500 a : Nat) : Int))) < (((1 + (s % 4)) : Nat) : Int)))) (fun w => by kernel_rfl) (by kernel_rfl) ?_
        refine E.G.op (.bool (decide ((IntKind.wrap .u32 ((((M.rg r0 r1 r2 r3).chk (M.sub500 a) 1 ((1 + (s % 4) : Nat) : Int)).1) - ((M.sub500 a : Nat) : Int))) < (((1 + (s % 4)) : Nat) : Int)))) (fun w => by kernel_rfl) (by kernel_rfl) ?_
        exact E.G.end_pst ⟨by kernel_rfl, by kernel_rfl⟩ (List.Sublist.refl _) (fun _ h => h)
      · skip
        refine E.G.skip (by kernel_rfl) (by kernel_rfl) ?_
        refine E.G.skip (by kernel_rfl) (by kernel_rfl) ?_
        refine E.G.skip (by kernel_rfl) (by kernel_rfl) ?_
        refine E.G.skip (by kernel_rfl) (by kernel_rfl) ?_
        refine E.G.skip (by kernel_rfl) (by kernel_rfl) ?_
        refine E.G.skip (by kernel_rfl) (by kernel_rfl) ?_
        refine E.G.op (.bool true) (fun w => by kernel_rfl) (by kernel_rfl) ?_
        exact E.G.end_pst ⟨by kernel_rfl, by kernel_rfl⟩ (List.Sublist.refl _) (fun _ h => h)
    refine E.G.op (.bool ((((M.rg r0 r1 r2 r3).chk (M.sub500 a) 1 ((1 + (s % 4) : Nat) : Int)).2) || (decide ((IntKind.wrap .u32 ((((M.rg r0 r1 r2 r3).chk (M.sub500 a) 1 ((1 + (s % 4) : Nat) : Int)).1) - ((M.sub500 a : Nat) : Int))) < (((1 + (s % 4)) : Nat) : Int))))) (fun w => by kernel_rfl) (by kernel_rfl) ?_
    refine E.G.op (.bool ((((M.rg r0 r1 r2 r3).chk (M.sub500 a) 1 ((1 + (s % 4) : Nat) : Int)).2) || (decide ((IntKind.wrap .u32 ((((M.rg r0 r1 r2 r3).chk (M.sub500 a) 1 ((1 + (s % 4) : Nat) : Int)).1) - ((M.sub500 a : Nat) : Int))) < (((1 + (s % 4)) : Nat) : Int))))) (fun w => by kernel_rfl) (by kernel_rfl) ?_
    refine E.G.cut 10 [(6, .bool false), (191, .bool (((((M.rg r0 r1 r2 r3).chk (M.sub500 a) 1 ((1 + (s % 4) : Nat) : Int)).2) || (decide ((IntKind.wrap .u32 ((((M.rg r0 r1 r2 r3).chk (M.sub500 a) 1 ((1 + (s % 4) : Nat) : Int)).1) - ((M.sub500 a : Nat) : Int))) < (((1 + (s % 4)) : Nat) : Int)))) && ((((M.rg r0 r1 r2 r3).chk (M.sub500 a) 2 ((1 + (s % 4) : Nat) : Int)).2) || (decide ((IntKind.wrap .u32 ((((M.rg r0 r1 r2 r3).chk (M.sub500 a) 2 ((1 + (s % 4) : Nat) : Int)).1) - ((M.sub500 a : Nat) : Int))) < (((1 + (s % 4)) : Nat) : Int))))))] (A.X w oo aa [M.It m2 i.2.2.2 ([])]) [(g1, [.int .u8 r0, .int .u8 r1, .int .u8 r2, .int .u8 r3])] ?_ ?_
    · generalize hc47 : ((((M.rg r0 r1 r2 r3).chk (M.sub500 a) 1 ((1 + (s % 4) : Nat) : Int)).2) || (decide ((IntKind.wrap .u32 ((((M.rg r0 r1 r2 r3).chk (M.sub500 a) 1 ((1 + (s % 4) : Nat) : Int)).1) - ((M.sub500 a : Nat) : Int))) < (((1 + (s % 4)) : Nat) : Int)))) = b48
      cases b48
      · skip
        refine E.G.skip (by kernel_rfl) (by kernel_rfl) ?_
        refine E.G.skip (by kernel_rfl) (by kernel_rfl) ?_
        refine E.G.skip (by kernel_rfl) (by kernel_rfl) ?_
        refine E.G.skip (by kernel_rfl) (by kernel_rfl) ?_
        refine E.G.skip (by kernel_rfl) (by kernel_rfl) ?_
        refine E.G.skip (by kernel_rfl) (by kernel_rfl) ?_
        refine E.G.skip (by kernel_rfl) (by kernel_rfl) ?_
        refine E.G.skip (by kernel_rfl) (by kernel_rfl) ?_
        refine E.G.skip (by kernel_rfl) (by kernel_rfl) ?_
        refine E.G.op (.bool false) (fun w => by kernel_rfl) (by kernel_rfl) ?_
        exact E.G.end_pst ⟨by kernel_rfl, by kernel_rfl⟩ (List.Sublist.refl _) (fun _ h => h)
      · skip
        refine E.G.op (.bool (((M.rg r0 r1 r2 r3).chk (M.sub500 a) 2 ((1 + (s % 4) : Nat) : Int)).2)) (fun w => by kernel_rfl) (by kernel_rfl) ?_
        refine E.G.op (.bool (((M.rg r0 r1 r2 r3).chk (M.sub500 a) 2 ((1 + (s % 4) : Nat) : Int)).2)) (fun w => by kernel_rfl) (by kernel_rfl) ?_
        refine E.G.cut 7 [(6, .bool false), (181, .bool true), (190, .bool ((((M.rg r0 r1 r2 r3).chk (M.sub500 a) 2 ((1 + (s % 4) : Nat) : Int)).2) || (decide ((IntKind.wrap .u32 ((((M.rg r0 r1 r2 r3).chk (M.sub500 a) 2 ((1 + (s % 4) : Nat) : Int)).1) - ((M.sub500 a : Nat) : Int))) < (((1 + (s % 4)) : Nat) : Int)))))] (A.X w oo aa [M.It m2 i.2.2.2 ([])]) [(g1, [.int .u8 r0, .int .u8 r1, .int .u8 r2, .int .u8 r3])] ?_ ?_
        · generalize hc49 : ((M.rg r0 r1 r2 r3).chk (M.sub500 a) 2 ((1 + (s % 4) : Nat) : Int)).2 = b50
          cases b50
          · skip
            refine E.G.op (.int .u32 (((M.rg r0 r1 r2 r3).chk (M.sub500 a) 2 ((1 + (s % 4) : Nat) : Int)).1)) (fun w => by kernel_rfl) (by kernel_rfl) ?_
            refine E.G.op (.int .u32 ((M.sub500 a : Nat) : Int)) (fun w => by kernel_rfl) (by kernel_rfl) ?_
            refine E.G.op (.int .u32 (IntKind.wrap .u32 ((((M.rg r0 r1 r2 r3).chk (M.sub500 a) 2 ((1 + (s % 4) : Nat) : Int)).1) - ((M.sub500 a : Nat) : Int)))) (fun w => by kernel_rfl) (by kernel_rfl) ?_
            refine E.G.op (.int .i64 ((1 + (s % 4) : Nat) : Int)) (fun w => by kernel_rfl) (by kernel_rfl) ?_
            refine E.G.val (.int .u32 (((1 + (s % 4)) : Nat) : Int)) (by kernel_rfl) (fun w h => E.run_as (a := .int .u32 (IntKind.wrap .u32 ((1 + (s % 4) : Nat) : Int))) (by kernel_rfl) (congrArg (Value.int .u32) (by exact Nz.w32 (x := (1 + (s % 4))) (by (first | assumption | ((try simp only [Bool.or_eq_false_iff, Bool.or_eq_true, Bool.and_eq_true, Bool.and_eq_false_iff, Bool.not_eq_eq_eq_not, Bool.not_true, Bool.not_false, decide_eq_true_eq, decide_eq_false_iff_not, ge_iff_le, gt_iff_lt] at *); omega)))))) ?_
            refine E.G.op (.bool (decide ((IntKind.wrap .u32 ((((M.rg r0 r1 r2 r3).chk (M.sub500 a) 2 ((1 + (s % 4) : Nat) : Int)).1) - ((M.sub500 a : Nat) : Int))) < (((1 + (s % 4)) : Nat) : Int)))) (fun w => by kernel_rfl) (by kernel_rfl) ?_
            refine E.G.op (.bool (decide ((IntKind.wrap .u32 ((((M.rg r0 r1 r2 r3).chk (M.sub500 a) 2 ((1 + (s % 4) : Nat) : Int)).1) - ((M.sub500 a : Nat) : Int))) < (((1 + (s % 4)) : Nat) : Int)))) (fun w => by kernel_rfl) (by kernel_rfl) ?_
            exact E.G.end_pst ⟨by kernel_rfl, by kernel_rfl⟩ (List.Sublist.refl _) (fun _ h => h)
          · skip
            refine E.G.skip (by kernel_rfl) (by kernel_rfl) ?_
            refine E.G.skip (by kernel_rfl) (by kernel_rfl) ?_
            refine E.G.skip (by kernel_rfl) (by kernel_rfl) ?_
            refine E.G.skip (by kernel_rfl) (by kernel_rfl) ?_
            refine E.G.skip (by kernel_rfl) (by kernel_rfl) ?_
            refine E.G.skip (by kernel_rfl) (by kernel_rfl) ?_
            refine E.G.op (.bool true) (fun w => by kernel_rfl) (by kernel_rfl) ?_
            exact E.G.end_pst ⟨by kernel_rfl, by kernel_rfl⟩ (List.Sublist.refl _) (fun _ h => h)
        refine E.G.op (.bool ((((M.rg r0 r1 r2 r3).chk (M.sub500 a) 2 ((1 + (s % 4) : Nat) : Int)).2) || (decide ((IntKind.wrap .u32 ((((M.rg r0 r1 r2 r3).chk (M.sub500 a) 2 ((1 + (s % 4) : Nat) : Int)).1) - ((M.sub500 a : Nat) : Int))) < (((1 + (s % 4)) : Nat) : Int))))) (fun w => by kernel_rfl) (by kernel_rfl) ?_
        exact E.G.end_pst ⟨by kernel_rfl, by kernel_rfl⟩ (List.Sublist.refl _) (fun _ h => h)
    refine E.G.val (.bool true) (by kernel_rfl) (fun w h => E.run_as (a := .bool (((((M.rg r0 r1 r2 r3).chk (M.sub500 a) 1 ((1 + (s % 4) : Nat) : Int)).2) || (decide ((IntKind.wrap .u32 ((((M.rg r0 r1 r2 r3).chk (M.sub500 a) 1 ((1 + (s % 4) : Nat) : Int)).1) - ((M.sub500 a : Nat) : Int))) < (((1 + (s % 4)) : Nat) : Int)))) && ((((M.rg r0 r1 r2 r3).chk (M.sub500 a) 2 ((1 + (s % 4) : Nat) : Int)).2) || (decide ((IntKind.wrap .u32 ((((M.rg r0 r1 r2 r3).chk (M.sub500 a) 2 ((1 + (s % 4) : Nat) : Int)).1) - ((M.sub500 a : Nat) : Int))) < (((1 + (s % 4)) : Nat) : Int)))))) (by kernel_rfl) (congrArg Value.bool (by rw [M.near1 (M.sub500_lt a) (by omega : 1 ≤ 1 + s % 4 ∧ 1 + s % 4 ≤ 4), M.near1 (M.sub500_lt a) (by omega : 1 ≤ 1 + s % 4 ∧ 1 + s % 4 ≤ 4)]; rfl))) ?_
    refine E.To.code ?_
    refine E.C.ret (E.To.body (fn := Try.f3) [.bool true] ?_ ?_)
    · exact ⟨⟨by kernel_rfl, by kernel_rfl⟩, trivial⟩
    · intro w h
      exact ⟨rfl, h.ch.bel (fun x hx => (hh.1 x hx).elim)⟩
end Go.Proofs.Ytdjjjikokfadiaa
