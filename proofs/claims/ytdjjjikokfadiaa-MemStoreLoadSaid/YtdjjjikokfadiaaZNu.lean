/- Walks: MemStoreLoad, printed by wip/eng. No condition but what is named. -/
import Derived.Test.YtdjjjikokfadiaaProg
import Derived.Test.YtdjjjikokfadiaaZNt
namespace Go.Proofs.Ytdjjjikokfadiaa
set_option linter.unusedVariables false
set_option linter.unusedSimpArgs false
open Go.RowKit
theorem MemStoreLoad_rd (a x : Nat) (v : Int) (ha : a < 4294967296) (hx : x < 4294967296) (hv : 0 ≤ v ∧ v < 4294967296) {ao0 : Option Addr} {ad0 : Addr} {n0 cap0 : Nat} {q0 : Nat → M.Op} (hao0 : 0 < n0 → ao0 = some ad0) : A.Rd Try.prog 6 #[.slice ao0 n0 cap0, .int .u32 ((a : Nat) : Int), .agg #[.int .u32 ((x : Nat) : Int), .int .u32 v]] [A.facts (M.opF ad0 n0 q0)] (.bool true) := by
  intro w oo aa hh
  refine E.enter (n := 138) (S := oo) Try.func6 rfl rfl (by kernel_rfl) (A.start (L := []) hh) ?_
  refine E.C.seq ?_
  refine E.C.region ?_
  refine E.G.new (fun g => .pointer (some ⟨g, 0, none⟩)) [.int .u32 ((x : Nat) : Int), .int .u32 v] 52 (fun w => by kernel_rfl) (by kernel_rfl) (fun g1 => ?_)
  refine E.G.op (.bool false) (fun w => by kernel_rfl) (by kernel_rfl) ?_
  refine E.To.code ?_
  refine E.C.seq ?_
  refine E.C.region ?_
  refine E.G.call (.bool true) (fun w h => A.call_rd [A.blk g1 ([.int .u32 ((x : Nat) : Int), .int .u32 v]), A.facts (M.opF ad0 n0 q0)] (San) h (by kernel_rfl) (A.pm [0, 1] (by kernel_rfl) (by kernel_rfl))) (fun w _ => by kernel_rfl) (by kernel_rfl) ?_
  refine E.G.op (.bool true) (fun w => by kernel_rfl) (by kernel_rfl) ?_
  refine E.To.code ?_
  refine E.C.seq ?_
  refine E.C.region ?_
  refine E.G.buildSlice [.int .u8 3, .int .u8 3, .int .u8 2] (by kernel_rfl) (by kernel_rfl) (fun g2 => ?_)
  refine A.G.call (I := (Nat × Nat) × M.V) (D := fun i3 => M.Is i3.2 3 false) (V := fun i3 => .tuple #[.agg #[.pointer (some ⟨i3.1.1, 0, none⟩), .pointer (some ⟨i3.1.2, 0, none⟩)], .bool true]) (q := fun i3 => [A.blk g2 ([.int .u8 3, .int .u8 3, .int .u8 2]), M.It i3.1.1 i3.2 ([]), R.It i3.1.2 i3.2]) [A.blk g1 ([.int .u32 ((x : Nat) : Int), .int .u32 v]), A.facts (M.opF ad0 n0 q0)] (fun i3 => [(g2, [.int .u8 3, .int .u8 3, .int .u8 2]), (g1, [.int .u32 ((x : Nat) : Int), .int .u32 v])]) (fun i3 => [M.It i3.1.1 i3.2 ([]), R.It i3.1.2 i3.2, A.facts (M.opF ad0 n0 q0)]) (Begin2 (it := (A.blk g2 ([.int .u8 3, .int .u8 3, .int .u8 2]))) (ao := (some ⟨g2, 0, none⟩)) (ad := ⟨g2, 0, none⟩) (n := 3) (cap := 3) (q := (fun i => [3, 3, 2].getD i 0)) 3 false 3 rfl (.inr (by decide)) (fun _ => rfl) (M.blk_hit fun i hi => by have : i = 0 ∨ i = 1 ∨ i = 2 := (by omega); rcases this with rfl | rfl | rfl <;> rfl)) (by kernel_rfl) (A.pm [0, 1, 2] (by kernel_rfl) (by kernel_rfl)) (fun i3 => A.pm [0, 3, 1, 2, 4] (by kernel_rfl) (by kernel_rfl)) (fun w _ => by kernel_rfl) (by kernel_rfl) (fun i3 hd4 => ?_)
  refine E.G.op (.tuple #[.agg #[.pointer (some ⟨i3.1.1, 0, none⟩), .pointer (some ⟨i3.1.2, 0, none⟩)], .bool true]) (fun w => by kernel_rfl) (by kernel_rfl) ?_
  refine E.G.op (.agg #[.pointer (some ⟨i3.1.1, 0, none⟩), .pointer (some ⟨i3.1.2, 0, none⟩)]) (fun w => by kernel_rfl) (by kernel_rfl) ?_
  refine E.G.op (.bool true) (fun w => by kernel_rfl) (by kernel_rfl) ?_
  refine E.G.new (fun g => .pointer (some ⟨g, 0, none⟩)) [.pointer none, .pointer none] 44 (fun w => by kernel_rfl) (by kernel_rfl) (fun g5 => ?_)
  refine E.G.store 0 [.pointer (some ⟨i3.1.1, 0, none⟩), .pointer (some ⟨i3.1.2, 0, none⟩)] rfl rfl (by kernel_rfl) (by kernel_rfl) ?_
  refine E.G.op (.bool true) (fun w => by kernel_rfl) (by kernel_rfl) ?_
  refine E.To.code ?_
  refine E.C.seq ?_
  refine E.C.seq ?_
  refine E.C.region ?_
  refine E.G.op (.bool true) (fun w => by kernel_rfl) (by kernel_rfl) ?_
  refine E.G.op (.bool false) (fun w => by kernel_rfl) (by kernel_rfl) ?_
  refine E.G.op (.bool false) (fun w => by kernel_rfl) (by kernel_rfl) ?_
  refine E.G.val (.agg #[.pointer (some ⟨i3.1.1, 0, none⟩), .pointer (some ⟨i3.1.2, 0, none⟩)]) (by kernel_rfl) (fun w h => E.run_load h 0 rfl rfl (by kernel_rfl)) ?_
  refine E.G.op (.slice ao0 n0 cap0) (fun w => by kernel_rfl) (by kernel_rfl) ?_
  refine A.G.call (I := M.V) (D := fun W6 => M.Is W6 3 false) (V := fun W6 => .bool true) (q := fun W6 => [A.facts (M.opF ad0 n0 q0), M.It i3.1.1 W6 ([]), R.It i3.1.2 W6]) [A.blk g5 ([.pointer (some ⟨i3.1.1, 0, none⟩), .pointer (some ⟨i3.1.2, 0, none⟩)]), A.blk g2 ([.int .u8 3, .int .u8 3, .int .u8 2]), A.blk g1 ([.int .u32 ((x : Nat) : Int), .int .u32 v])] (fun W6 => [(g5, [.pointer (some ⟨i3.1.1, 0, none⟩), .pointer (some ⟨i3.1.2, 0, none⟩)]), (g2, [.int .u8 3, .int .u8 3, .int .u8 2]), (g1, [.int .u32 ((x : Nat) : Int), .int .u32 v])]) (fun W6 => [M.It i3.1.1 W6 ([]), R.It i3.1.2 W6, A.facts (M.opF ad0 n0 q0)]) (Play2 (m := i3.1.1) (r := i3.1.2) (V := i3.2) (ao := ao0) (ad := ad0) (n := n0) (cap := cap0) (q := q0) hao0 hd4) (by kernel_rfl) (A.pm [5, 3, 4, 0, 1, 2] (by kernel_rfl) (by kernel_rfl)) (fun W6 => A.pm [3, 4, 5, 1, 2, 0] (by kernel_rfl) (by kernel_rfl)) (fun w _ => by kernel_rfl) (by kernel_rfl) (fun W6 hd7 => ?_)
  refine E.G.op (.bool false) (fun w => by kernel_rfl) (by kernel_rfl) ?_
  refine E.G.op (.bool false) (fun w => by kernel_rfl) (by kernel_rfl) ?_
  refine E.To.code ?_
  refine E.C.weak [(1, .int .u32 ((a : Nat) : Int)), (5, .pointer (some ⟨g1, 0, none⟩)), (6, .bool false), (7, .bool true), (8, .pointer (some ⟨g5, 0, none⟩)), (32, .bool false)] [(g5, [.pointer (some ⟨i3.1.1, 0, none⟩), .pointer (some ⟨i3.1.2, 0, none⟩)]), (g1, [.int .u32 ((x : Nat) : Int), .int .u32 v])] ⟨by kernel_rfl, by kernel_rfl⟩ (List.Sublist.cons_cons _ (List.Sublist.cons _ (List.Sublist.refl _))) ?_
  refine E.C.condF (by kernel_rfl) (by kernel_rfl) ?_
  refine E.C.skip (E.To.code ?_)
  refine E.C.seq ?_
  refine E.C.region ?_
  refine E.G.op (.int .u32 ((a : Nat) : Int)) (fun w => by kernel_rfl) (by kernel_rfl) ?_
  refine E.G.val (.int .u32 ((a % 1024 : Nat) : Int)) (by kernel_rfl) (fun w h => E.run_as (a := .int .u32 (bits .and .u32 ((a : Nat) : Int) 1023)) (by kernel_rfl) (congrArg (Value.int .u32) (M.and10 ha))) ?_
  refine E.G.val (.int .u32 ((M.sub50 a : Nat) : Int)) (by kernel_rfl) (fun w h => E.run_as (a := .int .u32 (IntKind.wrap .u32 (((a % 1024 : Nat) : Int) - 50))) (by kernel_rfl) (congrArg (Value.int .u32) (M.sub50_eq a))) ?_
  refine E.G.op (.int .u32 ((M.sub50 a : Nat) : Int)) (fun w => by kernel_rfl) (by kernel_rfl) ?_
  refine E.To.code ?_
  refine E.C.seq ?_
  refine E.C.region ?_
  refine E.G.op (.pointer (some ⟨g1, 0, none⟩)) (fun w => by kernel_rfl) (by kernel_rfl) ?_
  refine E.G.val (.int .u32 ((x : Nat) : Int)) (by kernel_rfl) (fun w h => E.run_load h 1 rfl rfl (by kernel_rfl)) ?_
  refine E.G.val (.int .u32 ((x % 4 : Nat) : Int)) (by kernel_rfl) (fun w h => E.run_as (a := .int .u32 (bits .and .u32 ((x : Nat) : Int) 3)) (by kernel_rfl) (congrArg (Value.int .u32) (M.and2 hx))) ?_
  refine E.G.val (.int .i64 (((x % 4) : Nat) : Int)) (by kernel_rfl) (fun w h => E.run_as (a := .int .i64 (IntKind.wrap .i64 ((x % 4 : Nat) : Int))) (by kernel_rfl) (congrArg (Value.int .i64) (by exact Nz.w64 (x := (x % 4)) (by (first | assumption | ((try simp only [Bool.or_eq_false_iff, Bool.or_eq_true, Bool.and_eq_true, Bool.and_eq_false_iff, Bool.not_eq_eq_eq_not, Bool.not_true, Bool.not_false, decide_eq_true_eq, decide_eq_false_iff_not, ge_iff_le, gt_iff_lt] at *); omega)))))) ?_
  refine E.G.val (.int .i64 ((1 + (x % 4) : Nat) : Int)) (by kernel_rfl) (fun w h => E.run_as (a := .int .i64 (IntKind.wrap .i64 (1 + (((x % 4) : Nat) : Int)))) (by kernel_rfl) (congrArg (Value.int .i64) (by exact Nz.add64 (x := 1) (y := (x % 4)) (by (first | assumption | ((try simp only [Bool.or_eq_false_iff, Bool.or_eq_true, Bool.and_eq_true, Bool.and_eq_false_iff, Bool.not_eq_eq_eq_not, Bool.not_true, Bool.not_false, decide_eq_true_eq, decide_eq_false_iff_not, ge_iff_le, gt_iff_lt] at *); omega)))))) ?_
  refine E.G.op (.int .i64 ((1 + (x % 4) : Nat) : Int)) (fun w => by kernel_rfl) (by kernel_rfl) ?_
  refine E.To.code ?_
  refine E.C.weak [(1, .int .u32 ((M.sub50 a : Nat) : Int)), (5, .pointer (some ⟨g1, 0, none⟩)), (6, .bool false), (7, .bool true), (8, .pointer (some ⟨g5, 0, none⟩)), (10, .int .i64 ((1 + (x % 4) : Nat) : Int))] [(g5, [.pointer (some ⟨i3.1.1, 0, none⟩), .pointer (some ⟨i3.1.2, 0, none⟩)]), (g1, [.int .u32 ((x : Nat) : Int), .int .u32 v])] ⟨by kernel_rfl, by kernel_rfl⟩ (List.Sublist.refl _) ?_
  refine E.C.seq ?_
  refine E.C.region ?_
  refine E.G.op (.pointer (some ⟨g5, 0, none⟩)) (fun w => by kernel_rfl) (by kernel_rfl) ?_
  refine E.G.val (.pointer (some ⟨i3.1.1, 0, none⟩)) (by kernel_rfl) (fun w h => E.run_load h 0 rfl rfl (by kernel_rfl)) ?_
  refine A.G.call (I := Nat) (D := fun m8 => True) (V := fun m8 => .pointer (some ⟨m8, 0, none⟩)) (q := fun m8 => [M.It i3.1.1 W6 ([]), M.It m8 W6 ([])]) [A.blk g5 ([.pointer (some ⟨i3.1.1, 0, none⟩), .pointer (some ⟨i3.1.2, 0, none⟩)]), A.blk g1 ([.int .u32 ((x : Nat) : Int), .int .u32 v]), R.It i3.1.2 W6, A.facts (M.opF ad0 n0 q0)] (fun m8 => [(g5, [.pointer (some ⟨i3.1.1, 0, none⟩), .pointer (some ⟨i3.1.2, 0, none⟩)]), (g1, [.int .u32 ((x : Nat) : Int), .int .u32 v])]) (fun m8 => [M.It m8 W6 ([]), M.It i3.1.1 W6 ([]), R.It i3.1.2 W6, A.facts (M.opF ad0 n0 q0)]) (A_Snapshot (m := i3.1.1) (V := W6) (xs := [])) (by kernel_rfl) (A.pm [2, 0, 1, 3, 4] (by kernel_rfl) (by kernel_rfl)) (fun m8 => A.pm [2, 3, 1, 0, 4, 5] (by kernel_rfl) (by kernel_rfl)) (fun w _ => by kernel_rfl) (by kernel_rfl) (fun m8 hd9 => ?_)
  refine E.G.op (.pointer (some ⟨m8, 0, none⟩)) (fun w => by kernel_rfl) (by kernel_rfl) ?_
  refine E.To.code ?_
  refine E.C.seq ?_
  refine E.C.region ?_
  refine E.G.op (.pointer (some ⟨g5, 0, none⟩)) (fun w => by kernel_rfl) (by kernel_rfl) ?_
  refine E.G.val (.pointer (some ⟨i3.1.1, 0, none⟩)) (by kernel_rfl) (fun w h => E.run_load h 0 rfl rfl (by kernel_rfl)) ?_
  refine E.G.op (.int .u32 ((M.sub50 a : Nat) : Int)) (fun w => by kernel_rfl) (by kernel_rfl) ?_
  refine E.G.op (.int .i64 ((1 + (x % 4) : Nat) : Int)) (fun w => by kernel_rfl) (by kernel_rfl) ?_
  refine E.G.op (.pointer (some ⟨g1, 1, none⟩)) (fun w => by kernel_rfl) (by kernel_rfl) ?_
  refine E.G.val (.int .u32 v) (by kernel_rfl) (fun w h => E.run_load h 1 rfl rfl (by kernel_rfl)) ?_
  refine E.fork ((W6.chk (M.sub50 a) 2 ((1 + (x % 4) : Nat) : Int)).2) (fun hc10 => ?_) (fun hc10 => ?_)
  · skip
    refine A.G.call (I := Unit) (D := fun _ => True) (V := fun _ => .tuple #[.int .u32 0, .bool true]) (q := fun _ => [M.It i3.1.1 (W6.put (M.sub50 a) v (1 + (x % 4))) ([])]) [A.blk g5 ([.pointer (some ⟨i3.1.1, 0, none⟩), .pointer (some ⟨i3.1.2, 0, none⟩)]), A.blk g1 ([.int .u32 ((x : Nat) : Int), .int .u32 v]), M.It m8 W6 ([]), R.It i3.1.2 W6, A.facts (M.opF ad0 n0 q0)] (fun _ => [(g5, [.pointer (some ⟨i3.1.1, 0, none⟩), .pointer (some ⟨i3.1.2, 0, none⟩)]), (g1, [.int .u32 ((x : Nat) : Int), .int .u32 v])]) (fun _ => [M.It m8 W6 ([]), M.It i3.1.1 (W6.put (M.sub50 a) v (1 + (x % 4))) ([]), R.It i3.1.2 W6, A.facts (M.opF ad0 n0 q0)]) (M.trE (u := .tuple #[.int .u32 0, .bool true]) (A_Store (m := i3.1.1) (V := W6) (xs := []) (M.sub50 a) ((1 + (x % 4) : Nat) : Int) v (by have := M.sub50_lt a; omega)) (M.sto_t hc10) (M.stv_t hc10)) (by kernel_rfl) (A.pm [3, 0, 1, 2, 4, 5] (by kernel_rfl) (by kernel_rfl)) (fun _ => A.pm [1, 2, 3, 0, 4, 5] (by kernel_rfl) (by kernel_rfl)) (fun w _ => by kernel_rfl) (by kernel_rfl) (fun _ hd11 => ?_)
    refine E.G.op (.tuple #[.int .u32 0, .bool true]) (fun w => by kernel_rfl) (by kernel_rfl) ?_
    refine E.G.op (.int .u32 0) (fun w => by kernel_rfl) (by kernel_rfl) ?_
    refine E.G.op (.bool true) (fun w => by kernel_rfl) (by kernel_rfl) ?_
    refine E.G.op (.int .u32 0) (fun w => by kernel_rfl) (by kernel_rfl) ?_
    refine E.G.op (.bool true) (fun w => by kernel_rfl) (by kernel_rfl) ?_
    refine E.To.code ?_
    refine E.C.weak [(1, .int .u32 ((M.sub50 a : Nat) : Int)), (5, .pointer (some ⟨g1, 0, none⟩)), (6, .bool false), (7, .bool true), (8, .pointer (some ⟨g5, 0, none⟩)), (10, .int .i64 ((1 + (x % 4) : Nat) : Int)), (11, .pointer (some ⟨m8, 0, none⟩)), (12, .int .u32 0), (13, .bool true)] [(g5, [.pointer (some ⟨i3.1.1, 0, none⟩), .pointer (some ⟨i3.1.2, 0, none⟩)]), (g1, [.int .u32 ((x : Nat) : Int), .int .u32 v])] ⟨by kernel_rfl, by kernel_rfl⟩ (List.Sublist.refl _) ?_
    refine E.C.seq ?_
    refine E.C.seq ?_
    refine E.C.region ?_
    refine E.G.op (.int .u32 0) (fun w => by kernel_rfl) (by kernel_rfl) ?_
    refine E.To.code ?_
    refine E.C.block ?_
    refine E.C.loop (I := Nat) (fun k => 770 - k) (fun k => k ≤ 770) (fun k => [(1, .int .u32 ((M.sub50 a : Nat) : Int)), (5, .pointer (some ⟨g1, 0, none⟩)), (6, .bool false), (7, .bool true), (8, .pointer (some ⟨g5, 0, none⟩)), (10, .int .i64 ((1 + (x % 4) : Nat) : Int)), (11, .pointer (some ⟨m8, 0, none⟩)), (12, .int .u32 0), (13, .bool true), (14, .int .u32 ((k : Nat) : Int))]) (fun k => A.X w oo aa [M.It m8 W6 ([]), M.It i3.1.1 (W6.put (M.sub50 a) v (1 + (x % 4))) ([]), R.It i3.1.2 W6, A.facts (M.opF ad0 n0 q0)]) (fun k => [(g5, [.pointer (some ⟨i3.1.1, 0, none⟩), .pointer (some ⟨i3.1.2, 0, none⟩)]), (g1, [.int .u32 ((x : Nat) : Int), .int .u32 v])]) 0 (Nat.zero_le _) ⟨by kernel_rfl, by kernel_rfl⟩ (List.Sublist.refl _) (fun _ h => h) (fun k hk1 => ?_)
    refine E.C.seq ?_
    refine E.C.seq ?_
    refine E.C.region ?_
    refine E.G.op (.int .u32 ((k : Nat) : Int)) (fun w => by kernel_rfl) (by kernel_rfl) ?_
    refine E.G.op (.bool (decide (((k : Nat) : Int) < 770))) (fun w => by kernel_rfl) (by kernel_rfl) ?_
    refine E.To.code ?_
    refine E.C.cond (decide (((k : Nat) : Int) < 770)) (by kernel_rfl) (by kernel_rfl) (fun hc12 => ?_) (fun hc12 => ?_)
    · skip
      refine E.C.skip (E.To.code ?_)
      refine E.C.seq ?_
      refine E.C.block ?_
      refine E.C.seq ?_
      refine E.C.region ?_
      refine E.G.op (.int .u32 ((k : Nat) : Int)) (fun w => by kernel_rfl) (by kernel_rfl) ?_
      refine E.G.op (.int .u32 ((M.sub50 a : Nat) : Int)) (fun w => by kernel_rfl) (by kernel_rfl) ?_
      refine E.G.val (.int .u32 ((M.sb k (M.sub50 a) : Nat) : Int)) (by kernel_rfl) (fun w h => E.run_as (a := .int .u32 (IntKind.wrap .u32 (((k : Nat) : Int) - ((M.sub50 a : Nat) : Int)))) (by kernel_rfl) (congrArg (Value.int .u32) (M.sb_eq (by (first | assumption | ((try simp only [Bool.or_eq_false_iff, Bool.or_eq_true, Bool.and_eq_true, Bool.and_eq_false_iff, Bool.not_eq_eq_eq_not, Bool.not_true, Bool.not_false, decide_eq_true_eq, decide_eq_false_iff_not, ge_iff_le, gt_iff_lt] at *); omega))) (M.sub50_lt a)))) ?_
      refine E.G.op (.int .i64 ((1 + (x % 4) : Nat) : Int)) (fun w => by kernel_rfl) (by kernel_rfl) ?_
      refine E.G.val (.int .u32 (((1 + (x % 4)) : Nat) : Int)) (by kernel_rfl) (fun w h => E.run_as (a := .int .u32 (IntKind.wrap .u32 ((1 + (x % 4) : Nat) : Int))) (by kernel_rfl) (congrArg (Value.int .u32) (by exact Nz.w32 (x := (1 + (x % 4))) (by (first | assumption | ((try simp only [Bool.or_eq_false_iff, Bool.or_eq_true, Bool.and_eq_true, Bool.and_eq_false_iff, Bool.not_eq_eq_eq_not, Bool.not_true, Bool.not_false, decide_eq_true_eq, decide_eq_false_iff_not, ge_iff_le, gt_iff_lt] at *); omega)))))) ?_
      refine E.G.op (.bool (decide (((M.sb k (M.sub50 a) : Nat) : Int) < (((1 + (x % 4)) : Nat) : Int)))) (fun w => by kernel_rfl) (by kernel_rfl) ?_
      refine E.G.op (.bool (decide (((M.sb k (M.sub50 a) : Nat) : Int) < (((1 + (x % 4)) : Nat) : Int)))) (fun w => by kernel_rfl) (by kernel_rfl) ?_
      refine E.G.cut 2 [(1, .int .u32 ((M.sub50 a : Nat) : Int)), (5, .pointer (some ⟨g1, 0, none⟩)), (6, .bool false), (7, .bool true), (8, .pointer (some ⟨g5, 0, none⟩)), (10, .int .i64 ((1 + (x % 4) : Nat) : Int)), (11, .pointer (some ⟨m8, 0, none⟩)), (12, .int .u32 0), (13, .bool true), (14, .int .u32 ((k : Nat) : Int)), (54, .int .u32 ((k : Nat) : Int)), (55, .bool (decide (((k : Nat) : Int) < 770))), (58, .int .u32 ((k : Nat) : Int)), (59, .int .u32 ((M.sub50 a : Nat) : Int)), (60, .int .u32 ((M.sb k (M.sub50 a) : Nat) : Int)), (61, .int .i64 ((1 + (x % 4) : Nat) : Int)), (62, .int .u32 (((1 + (x % 4)) : Nat) : Int)), (63, .bool (decide (((M.sb k (M.sub50 a) : Nat) : Int) < (((1 + (x % 4)) : Nat) : Int)))), (64, .bool (decide (((M.sb k (M.sub50 a) : Nat) : Int) < (((1 + (x % 4)) : Nat) : Int)))), (66, .bool ((decide (((M.sb k (M.sub50 a) : Nat) : Int) < (((1 + (x % 4)) : Nat) : Int))) && true))] (A.X w oo aa [M.It m8 W6 ([]), M.It i3.1.1 (W6.put (M.sub50 a) v (1 + (x % 4))) ([]), R.It i3.1.2 W6, A.facts (M.opF ad0 n0 q0)]) [(g5, [.pointer (some ⟨i3.1.1, 0, none⟩), .pointer (some ⟨i3.1.2, 0, none⟩)]), (g1, [.int .u32 ((x : Nat) : Int), .int .u32 v])] ?_ ?_
      · generalize hc13 : (decide (((M.sb k (M.sub50 a) : Nat) : Int) < (((1 + (x % 4)) : Nat) : Int))) = b14
        cases b14
        · skip
          refine E.G.skip (by kernel_rfl) (by kernel_rfl) ?_
          refine E.G.op (.bool false) (fun w => by kernel_rfl) (by kernel_rfl) ?_
          exact E.G.end_pst ⟨by kernel_rfl, by kernel_rfl⟩ (List.Sublist.refl _) (fun _ h => h)
        · skip
          refine E.G.op (.bool true) (fun w => by kernel_rfl) (by kernel_rfl) ?_
          refine E.G.op (.bool true) (fun w => by kernel_rfl) (by kernel_rfl) ?_
          exact E.G.end_pst ⟨by kernel_rfl, by kernel_rfl⟩ (List.Sublist.refl _) (fun _ h => h)
      refine E.To.code ?_
      refine E.C.cond ((decide (((M.sb k (M.sub50 a) : Nat) : Int) < (((1 + (x % 4)) : Nat) : Int))) && true) (by kernel_rfl) (by kernel_rfl) (fun hc15 => ?_) (fun hc15 => ?_)
      · skip
        refine E.C.seq ?_
        refine E.C.quiet (by kernel_rfl) (by kernel_rfl) ?_
        refine E.W.op (.pointer (some ⟨g5, 0, none⟩)) (fun w => by kernel_rfl) (by kernel_rfl) ?_
        refine E.W.val (.pointer (some ⟨i3.1.1, 0, none⟩)) (by kernel_rfl) (fun w h => E.run_load h 0 rfl rfl (by kernel_rfl)) ?_
        refine E.W.op (.int .u32 ((k : Nat) : Int)) (fun w => by kernel_rfl) (by kernel_rfl) ?_
        refine E.W.call (.int .u8 (IntKind.wrap .u8 (Int.fdiv v (2 ^ (min ((8 * (M.sb k (M.sub50 a))) % 4294967296) 32))))) (fun w h => A.call_rd [A.blk g5 ([.pointer (some ⟨i3.1.1, 0, none⟩), .pointer (some ⟨i3.1.2, 0, none⟩)]), A.blk g1 ([.int .u32 ((x : Nat) : Int), .int .u32 v]), M.It m8 W6 ([]), R.It i3.1.2 W6, A.facts (M.opF ad0 n0 q0)] (M.rdAs (A_Peek (m := i3.1.1) (V := (W6.put (M.sub50 a) v (1 + (x % 4)))) (xs := []) k (by (first | assumption | ((try simp only [Bool.or_eq_false_iff, Bool.or_eq_true, Bool.and_eq_true, Bool.and_eq_false_iff, Bool.not_eq_eq_eq_not, Bool.not_true, Bool.not_false, decide_eq_true_eq, decide_eq_false_iff_not, ge_iff_le, gt_iff_lt] at *); omega)))) (v' := .int .u8 (IntKind.wrap .u8 (Int.fdiv v (2 ^ (min ((8 * (M.sb k (M.sub50 a))) % 4294967296) 32))))) (congrArg (Value.int .u8) (M.pkT hd7 (M.sub50_lt a) (by omega : 1 ≤ 1 + x % 4 ∧ 1 + x % 4 ≤ 4) (by (first | assumption | ((try simp only [Bool.or_eq_false_iff, Bool.or_eq_true, Bool.and_eq_true, Bool.and_eq_false_iff, Bool.not_eq_eq_eq_not, Bool.not_true, Bool.not_false, decide_eq_true_eq, decide_eq_false_iff_not, ge_iff_le, gt_iff_lt] at *); omega))) hc10 hc15))) h (by kernel_rfl) (A.pm [3, 0, 1, 2, 4, 5] (by kernel_rfl) (by kernel_rfl))) (fun w _ => by kernel_rfl) (by kernel_rfl) ?_
        refine E.W.op (.pointer (some ⟨g1, 1, none⟩)) (fun w => by kernel_rfl) (by kernel_rfl) ?_
        refine E.W.val (.int .u32 v) (by kernel_rfl) (fun w h => E.run_load h 1 rfl rfl (by kernel_rfl)) ?_
        refine E.W.op (.int .u32 ((k : Nat) : Int)) (fun w => by kernel_rfl) (by kernel_rfl) ?_
        refine E.W.op (.int .u32 ((M.sub50 a : Nat) : Int)) (fun w => by kernel_rfl) (by kernel_rfl) ?_
        refine E.W.val (.int .u32 ((M.sb k (M.sub50 a) : Nat) : Int)) (by kernel_rfl) (fun w h => E.run_as (a := .int .u32 (IntKind.wrap .u32 (((k : Nat) : Int) - ((M.sub50 a : Nat) : Int)))) (by kernel_rfl) (congrArg (Value.int .u32) (M.sb_eq (by (first | assumption | ((try simp only [Bool.or_eq_false_iff, Bool.or_eq_true, Bool.and_eq_true, Bool.and_eq_false_iff, Bool.not_eq_eq_eq_not, Bool.not_true, Bool.not_false, decide_eq_true_eq, decide_eq_false_iff_not, ge_iff_le, gt_iff_lt] at *); omega))) (M.sub50_lt a)))) ?_
        refine E.W.val (.int .u32 (((8 * (M.sb k (M.sub50 a))) % 4294967296 : Nat) : Int)) (by kernel_rfl) (fun w h => E.run_as (a := .int .u32 (IntKind.wrap .u32 (8 * ((M.sb k (M.sub50 a) : Nat) : Int)))) (by kernel_rfl) (congrArg (Value.int .u32) (by exact Nz.mul32 8 (M.sb k (M.sub50 a))))) ?_
        refine E.W.val (.int .u32 (Int.fdiv v (2 ^ (min ((8 * (M.sb k (M.sub50 a))) % 4294967296) 32)))) (by kernel_rfl) (fun w h => E.shr (k2 := .u32) v ((8 * (M.sb k (M.sub50 a))) % 4294967296) 32 (by rfl) (by kernel_rfl) (by kernel_rfl) w) ?_
        refine E.W.op (.int .u8 (IntKind.wrap .u8 (Int.fdiv v (2 ^ (min ((8 * (M.sb k (M.sub50 a))) % 4294967296) 32))))) (fun w => by kernel_rfl) (by kernel_rfl) ?_
        refine E.W.val (.bool false) (by kernel_rfl) (fun w h => E.run_as (a := .bool ((IntKind.wrap .u8 (Int.fdiv v (2 ^ (min ((8 * (M.sb k (M.sub50 a))) % 4294967296) 32)))) != (IntKind.wrap .u8 (Int.fdiv v (2 ^ (min ((8 * (M.sb k (M.sub50 a))) % 4294967296) 32)))))) (by kernel_rfl) (congrArg Value.bool (bne_self_eq_false _))) ?_
        refine E.W.done (E.To.code ?_)
        refine E.C.condF (by kernel_rfl) (by kernel_rfl) ?_
        refine E.C.skip (E.P.nb (E.To.code ?_))
        refine E.C.region ?_
        refine E.G.op (.int .u32 ((k : Nat) : Int)) (fun w => by kernel_rfl) (by kernel_rfl) ?_
        refine E.G.val (.int .u32 ((k + 1 : Nat) : Int)) (by kernel_rfl) (fun w h => E.run_as (a := .int .u32 (IntKind.wrap .u32 (((k : Nat) : Int) + 1))) (by kernel_rfl) (congrArg (Value.int .u32) (M.u32_s (by (first | assumption | ((try simp only [Bool.or_eq_false_iff, Bool.or_eq_true, Bool.and_eq_true, Bool.and_eq_false_iff, Bool.not_eq_eq_eq_not, Bool.not_true, Bool.not_false, decide_eq_true_eq, decide_eq_false_iff_not, ge_iff_le, gt_iff_lt] at *); omega)))))) ?_
        refine E.G.op (.int .u32 ((k + 1 : Nat) : Int)) (fun w => by kernel_rfl) (by kernel_rfl) ?_
        exact E.To.round (k + 1) (by (first | assumption | ((try simp only [Bool.or_eq_false_iff, Bool.or_eq_true, Bool.and_eq_true, Bool.and_eq_false_iff, Bool.not_eq_eq_eq_not, Bool.not_true, Bool.not_false, decide_eq_true_eq, decide_eq_false_iff_not, ge_iff_le, gt_iff_lt] at *); omega))) (by (first | assumption | ((try simp only [Bool.or_eq_false_iff, Bool.or_eq_true, Bool.and_eq_true, Bool.and_eq_false_iff, Bool.not_eq_eq_eq_not, Bool.not_true, Bool.not_false, decide_eq_true_eq, decide_eq_false_iff_not, ge_iff_le, gt_iff_lt] at *); omega))) ⟨by kernel_rfl, by kernel_rfl⟩ (List.Sublist.refl _) (fun _ h => h)
      · skip
        refine E.C.seq ?_
        refine E.C.region ?_
        refine E.G.op (.pointer (some ⟨g5, 0, none⟩)) (fun w => by kernel_rfl) (by kernel_rfl) ?_
        refine E.G.val (.pointer (some ⟨i3.1.1, 0, none⟩)) (by kernel_rfl) (fun w h => E.run_load h 0 rfl rfl (by kernel_rfl)) ?_
        refine E.G.op (.int .u32 ((k : Nat) : Int)) (fun w => by kernel_rfl) (by kernel_rfl) ?_
        refine E.G.call (.int .u8 (W6.peek k)) (fun w h => A.call_rd [A.blk g5 ([.pointer (some ⟨i3.1.1, 0, none⟩), .pointer (some ⟨i3.1.2, 0, none⟩)]), A.blk g1 ([.int .u32 ((x : Nat) : Int), .int .u32 v]), M.It m8 W6 ([]), R.It i3.1.2 W6, A.facts (M.opF ad0 n0 q0)] (M.rdAs (A_Peek (m := i3.1.1) (V := (W6.put (M.sub50 a) v (1 + (x % 4)))) (xs := []) k (by (first | assumption | ((try simp only [Bool.or_eq_false_iff, Bool.or_eq_true, Bool.and_eq_true, Bool.and_eq_false_iff, Bool.not_eq_eq_eq_not, Bool.not_true, Bool.not_false, decide_eq_true_eq, decide_eq_false_iff_not, ge_iff_le, gt_iff_lt] at *); omega)))) (v' := .int .u8 (W6.peek k)) (congrArg (Value.int .u8) (M.pkF hd7 (M.sub50_lt a) (by omega : 1 ≤ 1 + x % 4 ∧ 1 + x % 4 ≤ 4) (by (first | assumption | ((try simp only [Bool.or_eq_false_iff, Bool.or_eq_true, Bool.and_eq_true, Bool.and_eq_false_iff, Bool.not_eq_eq_eq_not, Bool.not_true, Bool.not_false, decide_eq_true_eq, decide_eq_false_iff_not, ge_iff_le, gt_iff_lt] at *); omega))) hc10 hc15))) h (by kernel_rfl) (A.pm [3, 0, 1, 2, 4, 5] (by kernel_rfl) (by kernel_rfl))) (fun w _ => by kernel_rfl) (by kernel_rfl) ?_
        refine E.G.op (.pointer (some ⟨m8, 0, none⟩)) (fun w => by kernel_rfl) (by kernel_rfl) ?_
        refine E.G.op (.int .u32 ((k : Nat) : Int)) (fun w => by kernel_rfl) (by kernel_rfl) ?_
        refine E.G.call (.int .u8 (W6.peek k)) (fun w h => A.call_rd [A.blk g5 ([.pointer (some ⟨i3.1.1, 0, none⟩), .pointer (some ⟨i3.1.2, 0, none⟩)]), A.blk g1 ([.int .u32 ((x : Nat) : Int), .int .u32 v]), M.It i3.1.1 (W6.put (M.sub50 a) v (1 + (x % 4))) ([]), R.It i3.1.2 W6, A.facts (M.opF ad0 n0 q0)] (A_Peek (m := m8) (V := W6) (xs := []) k (by (first | assumption | ((try simp only [Bool.or_eq_false_iff, Bool.or_eq_true, Bool.and_eq_true, Bool.and_eq_false_iff, Bool.not_eq_eq_eq_not, Bool.not_true, Bool.not_false, decide_eq_true_eq, decide_eq_false_iff_not, ge_iff_le, gt_iff_lt] at *); omega)))) h (by kernel_rfl) (A.pm [2, 0, 1, 3, 4, 5] (by kernel_rfl) (by kernel_rfl))) (fun w _ => by kernel_rfl) (by kernel_rfl) ?_
        refine E.G.val (.bool false) (by kernel_rfl) (fun w h => E.run_as (a := .bool ((W6.peek k) != (W6.peek k))) (by kernel_rfl) (congrArg Value.bool (bne_self_eq_false _))) ?_
        refine E.To.code ?_
        refine E.C.condF (by kernel_rfl) (by kernel_rfl) ?_
        refine E.C.skip (E.P.nb (E.To.code ?_))
        refine E.C.region ?_
        refine E.G.op (.int .u32 ((k : Nat) : Int)) (fun w => by kernel_rfl) (by kernel_rfl) ?_
        refine E.G.val (.int .u32 ((k + 1 : Nat) : Int)) (by kernel_rfl) (fun w h => E.run_as (a := .int .u32 (IntKind.wrap .u32 (((k : Nat) : Int) + 1))) (by kernel_rfl) (congrArg (Value.int .u32) (M.u32_s (by (first | assumption | ((try simp only [Bool.or_eq_false_iff, Bool.or_eq_true, Bool.and_eq_true, Bool.and_eq_false_iff, Bool.not_eq_eq_eq_not, Bool.not_true, Bool.not_false, decide_eq_true_eq, decide_eq_false_iff_not, ge_iff_le, gt_iff_lt] at *); omega)))))) ?_
        refine E.G.op (.int .u32 ((k + 1 : Nat) : Int)) (fun w => by kernel_rfl) (by kernel_rfl) ?_
        exact E.To.round (k + 1) (by (first | assumption | ((try simp only [Bool.or_eq_false_iff, Bool.or_eq_true, Bool.and_eq_true, Bool.and_eq_false_iff, Bool.not_eq_eq_eq_not, Bool.not_true, Bool.not_false, decide_eq_true_eq, decide_eq_false_iff_not, ge_iff_le, gt_iff_lt] at *); omega))) (by (first | assumption | ((try simp only [Bool.or_eq_false_iff, Bool.or_eq_true, Bool.and_eq_true, Bool.and_eq_false_iff, Bool.not_eq_eq_eq_not, Bool.not_true, Bool.not_false, decide_eq_true_eq, decide_eq_false_iff_not, ge_iff_le, gt_iff_lt] at *); omega))) ⟨by kernel_rfl, by kernel_rfl⟩ (List.Sublist.refl _) (fun _ h => h)
    · skip
      refine E.C.exit (E.P.et (E.P.et (E.P.eh (E.To.code ?_))))
      refine E.C.seq ?_
      refine E.C.region ?_
      refine E.G.op (.pointer (some ⟨g5, 0, none⟩)) (fun w => by kernel_rfl) (by kernel_rfl) ?_
      refine E.G.val (.pointer (some ⟨i3.1.1, 0, none⟩)) (by kernel_rfl) (fun w h => E.run_load h 0 rfl rfl (by kernel_rfl)) ?_
      refine E.G.op (.int .u32 ((M.sub50 a : Nat) : Int)) (fun w => by kernel_rfl) (by kernel_rfl) ?_
      refine E.G.op (.int .i64 ((1 + (x % 4) : Nat) : Int)) (fun w => by kernel_rfl) (by kernel_rfl) ?_
      refine E.fork (((W6.put (M.sub50 a) v (1 + (x % 4))).chk (M.sub50 a) 1 ((1 + (x % 4) : Nat) : Int)).2) (fun hc16 => ?_) (fun hc16 => ?_)
      · skip
        refine E.G.call (.tuple #[.int .u32 (bits .and .u32 v (Int.fdiv 4294967295 (2 ^ (min (32 - 8 * (1 + (x % 4))) 32)))), .int .u32 0, .bool true]) (fun w h => A.call_rd [A.blk g5 ([.pointer (some ⟨i3.1.1, 0, none⟩), .pointer (some ⟨i3.1.2, 0, none⟩)]), A.blk g1 ([.int .u32 ((x : Nat) : Int), .int .u32 v]), M.It m8 W6 ([]), R.It i3.1.2 W6, A.facts (M.opF ad0 n0 q0)] (M.rdAs (A_Load (m := i3.1.1) (V := (W6.put (M.sub50 a) v (1 + (x % 4)))) (xs := []) (M.sub50 a) ((1 + (x % 4) : Nat) : Int) (by have := M.sub50_lt a; omega)) (v' := .tuple #[.int .u32 (bits .and .u32 v (Int.fdiv 4294967295 (2 ^ (min (32 - 8 * (1 + (x % 4))) 32)))), .int .u32 0, .bool true]) (M.ldt hd7 (M.sub50_lt a) (by omega : 1 ≤ 1 + x % 4 ∧ 1 + x % 4 ≤ 4) hv hc10 hc16)) h (by kernel_rfl) (A.pm [3, 0, 1, 2, 4, 5] (by kernel_rfl) (by kernel_rfl))) (fun w _ => by kernel_rfl) (by kernel_rfl) ?_
        refine E.G.op (.tuple #[.int .u32 (bits .and .u32 v (Int.fdiv 4294967295 (2 ^ (min (32 - 8 * (1 + (x % 4))) 32)))), .int .u32 0, .bool true]) (fun w => by kernel_rfl) (by kernel_rfl) ?_
        refine E.G.op (.int .u32 (bits .and .u32 v (Int.fdiv 4294967295 (2 ^ (min (32 - 8 * (1 + (x % 4))) 32))))) (fun w => by kernel_rfl) (by kernel_rfl) ?_
        refine E.G.op (.int .u32 0) (fun w => by kernel_rfl) (by kernel_rfl) ?_
        refine E.G.op (.bool true) (fun w => by kernel_rfl) (by kernel_rfl) ?_
        refine E.G.op (.int .u32 (bits .and .u32 v (Int.fdiv 4294967295 (2 ^ (min (32 - 8 * (1 + (x % 4))) 32))))) (fun w => by kernel_rfl) (by kernel_rfl) ?_
        refine E.G.op (.int .u32 0) (fun w => by kernel_rfl) (by kernel_rfl) ?_
        refine E.G.op (.bool true) (fun w => by kernel_rfl) (by kernel_rfl) ?_
        refine E.To.code ?_
        refine E.C.weak [(1, .int .u32 ((M.sub50 a : Nat) : Int)), (5, .pointer (some ⟨g1, 0, none⟩)), (6, .bool false), (7, .bool true), (10, .int .i64 ((1 + (x % 4) : Nat) : Int)), (12, .int .u32 0), (13, .bool true), (15, .int .u32 (bits .and .u32 v (Int.fdiv 4294967295 (2 ^ (min (32 - 8 * (1 + (x % 4))) 32))))), (17, .bool true)] [(g1, [.int .u32 ((x : Nat) : Int), .int .u32 v])] ⟨by kernel_rfl, by kernel_rfl⟩ (List.Sublist.cons _ (List.Sublist.refl _)) ?_
        refine E.C.seq ?_
        refine E.C.region ?_
        refine E.G.op (.int .i64 ((1 + (x % 4) : Nat) : Int)) (fun w => by kernel_rfl) (by kernel_rfl) ?_
        refine E.G.val (.int .u32 (((1 + (x % 4)) : Nat) : Int)) (by kernel_rfl) (fun w h => E.run_as (a := .int .u32 (IntKind.wrap .u32 ((1 + (x % 4) : Nat) : Int))) (by kernel_rfl) (congrArg (Value.int .u32) (by exact Nz.w32 (x := (1 + (x % 4))) (by (first | assumption | ((try simp only [Bool.or_eq_false_iff, Bool.or_eq_true, Bool.and_eq_true, Bool.and_eq_false_iff, Bool.not_eq_eq_eq_not, Bool.not_true, Bool.not_false, decide_eq_true_eq, decide_eq_false_iff_not, ge_iff_le, gt_iff_lt] at *); omega)))))) ?_
        refine E.G.val (.int .u32 (((8 * (1 + (x % 4))) % 4294967296 : Nat) : Int)) (by kernel_rfl) (fun w h => E.run_as (a := .int .u32 (IntKind.wrap .u32 (8 * (((1 + (x % 4)) : Nat) : Int)))) (by kernel_rfl) (congrArg (Value.int .u32) (by exact Nz.mul32 8 (1 + (x % 4))))) ?_
        refine E.G.val (.int .u32 ((32 - 8 * (1 + (x % 4)) : Nat) : Int)) (by kernel_rfl) (fun w h => E.run_as (a := .int .u32 (IntKind.wrap .u32 (32 - (((8 * (1 + (x % 4))) % 4294967296 : Nat) : Int)))) (by kernel_rfl) (congrArg (Value.int .u32) (M.sub32 (by omega : 1 ≤ 1 + x % 4 ∧ 1 + x % 4 ≤ 4)))) ?_
        refine E.G.val (.int .u32 (Int.fdiv 4294967295 (2 ^ (min (32 - 8 * (1 + (x % 4))) 32)))) (by kernel_rfl) (fun w h => E.shr (k2 := .u32) 4294967295 (32 - 8 * (1 + (x % 4))) 32 (by rfl) (by kernel_rfl) (by kernel_rfl) w) ?_
        refine E.G.op (.int .u32 (Int.fdiv 4294967295 (2 ^ (min (32 - 8 * (1 + (x % 4))) 32)))) (fun w => by kernel_rfl) (by kernel_rfl) ?_
        refine E.To.code ?_
        refine E.C.seq ?_
        refine E.C.region ?_
        refine E.G.op (.bool true) (fun w => by kernel_rfl) (by kernel_rfl) ?_
        refine E.G.op (.bool true) (fun w => by kernel_rfl) (by kernel_rfl) ?_
        refine E.G.op (.bool true) (fun w => by kernel_rfl) (by kernel_rfl) ?_
        refine E.G.op (.bool true) (fun w => by kernel_rfl) (by kernel_rfl) ?_
        refine E.G.skip (by kernel_rfl) (by kernel_rfl) ?_
        refine E.G.skip (by kernel_rfl) (by kernel_rfl) ?_
        refine E.G.skip (by kernel_rfl) (by kernel_rfl) ?_
        refine E.G.skip (by kernel_rfl) (by kernel_rfl) ?_
        refine E.G.skip (by kernel_rfl) (by kernel_rfl) ?_
        refine E.G.skip (by kernel_rfl) (by kernel_rfl) ?_
        refine E.G.op (.bool true) (fun w => by kernel_rfl) (by kernel_rfl) ?_
        refine E.G.op (.bool true) (fun w => by kernel_rfl) (by kernel_rfl) ?_
        refine E.G.op (.bool true) (fun w => by kernel_rfl) (by kernel_rfl) ?_
        refine E.G.op (.bool true) (fun w => by kernel_rfl) (by kernel_rfl) ?_
        refine E.G.op (.bool false) (fun w => by kernel_rfl) (by kernel_rfl) ?_
        refine E.G.op (.bool false) (fun w => by kernel_rfl) (by kernel_rfl) ?_
        refine E.G.op (.bool true) (fun w => by kernel_rfl) (by kernel_rfl) ?_
        refine E.G.op (.bool false) (fun w => by kernel_rfl) (by kernel_rfl) ?_
        refine E.G.op (.bool false) (fun w => by kernel_rfl) (by kernel_rfl) ?_
        refine E.G.op (.bool false) (fun w => by kernel_rfl) (by kernel_rfl) ?_
        refine E.G.op (.int .u32 (bits .and .u32 v (Int.fdiv 4294967295 (2 ^ (min (32 - 8 * (1 + (x % 4))) 32))))) (fun w => by kernel_rfl) (by kernel_rfl) ?_
        refine E.G.op (.pointer (some ⟨g1, 1, none⟩)) (fun w => by kernel_rfl) (by kernel_rfl) ?_
        refine E.G.val (.int .u32 v) (by kernel_rfl) (fun w h => E.run_load h 0 rfl rfl (by kernel_rfl)) ?_
        refine E.G.op (.int .u32 (Int.fdiv 4294967295 (2 ^ (min (32 - 8 * (1 + (x % 4))) 32)))) (fun w => by kernel_rfl) (by kernel_rfl) ?_
        refine E.G.op (.int .u32 (bits .and .u32 v (Int.fdiv 4294967295 (2 ^ (min (32 - 8 * (1 + (x % 4))) 32))))) (fun w => by kernel_rfl) (by kernel_rfl) ?_
        refine E.G.val (.bool true) (by kernel_rfl) (fun w h => E.run_as (a := .bool ((bits .and .u32 v (Int.fdiv 4294967295 (2 ^ (min (32 - 8 * (1 + (x % 4))) 32)))) == (bits .and .u32 v (Int.fdiv 4294967295 (2 ^ (min (32 - 8 * (1 + (x % 4))) 32)))))) (by kernel_rfl) (congrArg Value.bool (beq_self_eq_true _))) ?_
        refine E.G.op (.bool true) (fun w => by kernel_rfl) (by kernel_rfl) ?_
        refine E.G.op (.bool true) (fun w => by kernel_rfl) (by kernel_rfl) ?_
        refine E.G.op (.bool true) (fun w => by kernel_rfl) (by kernel_rfl) ?_
        refine E.G.op (.bool true) (fun w => by kernel_rfl) (by kernel_rfl) ?_
        refine E.G.op (.bool false) (fun w => by kernel_rfl) (by kernel_rfl) ?_
        refine E.G.op (.bool false) (fun w => by kernel_rfl) (by kernel_rfl) ?_
        refine E.G.op (.int .u32 0) (fun w => by kernel_rfl) (by kernel_rfl) ?_
        refine E.G.op (.bool true) (fun w => by kernel_rfl) (by kernel_rfl) ?_
        refine E.G.op (.bool true) (fun w => by kernel_rfl) (by kernel_rfl) ?_
        refine E.G.op (.bool true) (fun w => by kernel_rfl) (by kernel_rfl) ?_
        refine E.G.op (.bool true) (fun w => by kernel_rfl) (by kernel_rfl) ?_
        refine E.To.code ?_
        refine E.C.weak [(6, .bool true)] [] ⟨by kernel_rfl, by kernel_rfl⟩ (List.nil_sublist _) ?_
        refine E.C.ret (E.To.body (fn := Try.f6) [.bool true] ?_ ?_)
        · exact ⟨⟨by kernel_rfl, by kernel_rfl⟩, trivial⟩
        · intro w h
          exact ⟨rfl, h.ch.bel (fun x hx => (A.no1 hh x hx).elim)⟩
      · skip
        refine E.G.call (.tuple #[.int .u32 0, .int .u32 (((W6.put (M.sub50 a) v (1 + (x % 4))).chk (M.sub50 a) 1 ((1 + (x % 4) : Nat) : Int)).1), .bool false]) (fun w h => A.call_rd [A.blk g5 ([.pointer (some ⟨i3.1.1, 0, none⟩), .pointer (some ⟨i3.1.2, 0, none⟩)]), A.blk g1 ([.int .u32 ((x : Nat) : Int), .int .u32 v]), M.It m8 W6 ([]), R.It i3.1.2 W6, A.facts (M.opF ad0 n0 q0)] (M.rdAs (A_Load (m := i3.1.1) (V := (W6.put (M.sub50 a) v (1 + (x % 4)))) (xs := []) (M.sub50 a) ((1 + (x % 4) : Nat) : Int) (by have := M.sub50_lt a; omega)) (v' := .tuple #[.int .u32 0, .int .u32 (((W6.put (M.sub50 a) v (1 + (x % 4))).chk (M.sub50 a) 1 ((1 + (x % 4) : Nat) : Int)).1), .bool false]) (M.ldf hc16)) h (by kernel_rfl) (A.pm [3, 0, 1, 2, 4, 5] (by kernel_rfl) (by kernel_rfl))) (fun w _ => by kernel_rfl) (by kernel_rfl) ?_
        refine E.G.op (.tuple #[.int .u32 0, .int .u32 (((W6.put (M.sub50 a) v (1 + (x % 4))).chk (M.sub50 a) 1 ((1 + (x % 4) : Nat) : Int)).1), .bool false]) (fun w => by kernel_rfl) (by kernel_rfl) ?_
        refine E.G.op (.int .u32 0) (fun w => by kernel_rfl) (by kernel_rfl) ?_
        refine E.G.op (.int .u32 (((W6.put (M.sub50 a) v (1 + (x % 4))).chk (M.sub50 a) 1 ((1 + (x % 4) : Nat) : Int)).1)) (fun w => by kernel_rfl) (by kernel_rfl) ?_
        refine E.G.op (.bool false) (fun w => by kernel_rfl) (by kernel_rfl) ?_
        refine E.G.op (.int .u32 0) (fun w => by kernel_rfl) (by kernel_rfl) ?_
        refine E.G.op (.int .u32 (((W6.put (M.sub50 a) v (1 + (x % 4))).chk (M.sub50 a) 1 ((1 + (x % 4) : Nat) : Int)).1)) (fun w => by kernel_rfl) (by kernel_rfl) ?_
        refine E.G.op (.bool false) (fun w => by kernel_rfl) (by kernel_rfl) ?_
        refine E.To.code ?_
        refine E.C.weak [(1, .int .u32 ((M.sub50 a : Nat) : Int)), (5, .pointer (some ⟨g1, 0, none⟩)), (6, .bool false), (7, .bool true), (10, .int .i64 ((1 + (x % 4) : Nat) : Int)), (12, .int .u32 0), (13, .bool true), (15, .int .u32 0), (17, .bool false)] [(g1, [.int .u32 ((x : Nat) : Int), .int .u32 v])] ⟨by kernel_rfl, by kernel_rfl⟩ (List.Sublist.cons _ (List.Sublist.refl _)) ?_
        refine E.C.seq ?_
        refine E.C.region ?_
        refine E.G.op (.int .i64 ((1 + (x % 4) : Nat) : Int)) (fun w => by kernel_rfl) (by kernel_rfl) ?_
        refine E.G.val (.int .u32 (((1 + (x % 4)) : Nat) : Int)) (by kernel_rfl) (fun w h => E.run_as (a := .int .u32 (IntKind.wrap .u32 ((1 + (x % 4) : Nat) : Int))) (by kernel_rfl) (congrArg (Value.int .u32) (by exact Nz.w32 (x := (1 + (x % 4))) (by (first | assumption | ((try simp only [Bool.or_eq_false_iff, Bool.or_eq_true, Bool.and_eq_true, Bool.and_eq_false_iff, Bool.not_eq_eq_eq_not, Bool.not_true, Bool.not_false, decide_eq_true_eq, decide_eq_false_iff_not, ge_iff_le, gt_iff_lt] at *); omega)))))) ?_
        refine E.G.val (.int .u32 (((8 * (1 + (x % 4))) % 4294967296 : Nat) : Int)) (by kernel_rfl) (fun w h => E.run_as (a := .int .u32 (IntKind.wrap .u32 (8 * (((1 + (x % 4)) : Nat) : Int)))) (by kernel_rfl) (congrArg (Value.int .u32) (by exact Nz.mul32 8 (1 + (x % 4))))) ?_
        refine E.G.val (.int .u32 ((32 - 8 * (1 + (x % 4)) : Nat) : Int)) (by kernel_rfl) (fun w h => E.run_as (a := .int .u32 (IntKind.wrap .u32 (32 - (((8 * (1 + (x % 4))) % 4294967296 : Nat) : Int)))) (by kernel_rfl) (congrArg (Value.int .u32) (M.sub32 (by omega : 1 ≤ 1 + x % 4 ∧ 1 + x % 4 ≤ 4)))) ?_
        refine E.G.val (.int .u32 (Int.fdiv 4294967295 (2 ^ (min (32 - 8 * (1 + (x % 4))) 32)))) (by kernel_rfl) (fun w h => E.shr (k2 := .u32) 4294967295 (32 - 8 * (1 + (x % 4))) 32 (by rfl) (by kernel_rfl) (by kernel_rfl) w) ?_
        refine E.G.op (.int .u32 (Int.fdiv 4294967295 (2 ^ (min (32 - 8 * (1 + (x % 4))) 32)))) (fun w => by kernel_rfl) (by kernel_rfl) ?_
        refine E.To.code ?_
        refine E.C.seq ?_
        refine E.C.region ?_
        refine E.G.op (.bool true) (fun w => by kernel_rfl) (by kernel_rfl) ?_
        refine E.G.op (.bool true) (fun w => by kernel_rfl) (by kernel_rfl) ?_
        refine E.G.op (.bool true) (fun w => by kernel_rfl) (by kernel_rfl) ?_
        refine E.G.op (.bool true) (fun w => by kernel_rfl) (by kernel_rfl) ?_
        refine E.G.skip (by kernel_rfl) (by kernel_rfl) ?_
        refine E.G.skip (by kernel_rfl) (by kernel_rfl) ?_
        refine E.G.skip (by kernel_rfl) (by kernel_rfl) ?_
        refine E.G.skip (by kernel_rfl) (by kernel_rfl) ?_
        refine E.G.skip (by kernel_rfl) (by kernel_rfl) ?_
        refine E.G.skip (by kernel_rfl) (by kernel_rfl) ?_
        refine E.G.op (.bool true) (fun w => by kernel_rfl) (by kernel_rfl) ?_
        refine E.G.op (.bool true) (fun w => by kernel_rfl) (by kernel_rfl) ?_
        refine E.G.op (.bool true) (fun w => by kernel_rfl) (by kernel_rfl) ?_
        refine E.G.op (.bool true) (fun w => by kernel_rfl) (by kernel_rfl) ?_
        refine E.G.op (.bool false) (fun w => by kernel_rfl) (by kernel_rfl) ?_
        refine E.G.op (.bool false) (fun w => by kernel_rfl) (by kernel_rfl) ?_
        refine E.G.op (.bool false) (fun w => by kernel_rfl) (by kernel_rfl) ?_
        refine E.G.op (.bool true) (fun w => by kernel_rfl) (by kernel_rfl) ?_
        refine E.G.op (.bool true) (fun w => by kernel_rfl) (by kernel_rfl) ?_
        refine E.G.op (.bool true) (fun w => by kernel_rfl) (by kernel_rfl) ?_
        refine E.G.skip (by kernel_rfl) (by kernel_rfl) ?_
        refine E.G.skip (by kernel_rfl) (by kernel_rfl) ?_
        refine E.G.skip (by kernel_rfl) (by kernel_rfl) ?_
        refine E.G.skip (by kernel_rfl) (by kernel_rfl) ?_
        refine E.G.skip (by kernel_rfl) (by kernel_rfl) ?_
        refine E.G.skip (by kernel_rfl) (by kernel_rfl) ?_
        refine E.G.op (.bool true) (fun w => by kernel_rfl) (by kernel_rfl) ?_
        refine E.G.op (.bool true) (fun w => by kernel_rfl) (by kernel_rfl) ?_
        refine E.G.op (.bool true) (fun w => by kernel_rfl) (by kernel_rfl) ?_
        refine E.G.op (.bool true) (fun w => by kernel_rfl) (by kernel_rfl) ?_
        refine E.G.op (.bool false) (fun w => by kernel_rfl) (by kernel_rfl) ?_
        refine E.G.op (.bool false) (fun w => by kernel_rfl) (by kernel_rfl) ?_
        refine E.G.op (.int .u32 0) (fun w => by kernel_rfl) (by kernel_rfl) ?_
        refine E.G.op (.bool true) (fun w => by kernel_rfl) (by kernel_rfl) ?_
        refine E.G.op (.bool true) (fun w => by kernel_rfl) (by kernel_rfl) ?_
        refine E.G.op (.bool true) (fun w => by kernel_rfl) (by kernel_rfl) ?_
        refine E.G.op (.bool true) (fun w => by kernel_rfl) (by kernel_rfl) ?_
        refine E.To.code ?_
        refine E.C.weak [(6, .bool true)] [] ⟨by kernel_rfl, by kernel_rfl⟩ (List.nil_sublist _) ?_
        refine E.C.ret (E.To.body (fn := Try.f6) [.bool true] ?_ ?_)
        · exact ⟨⟨by kernel_rfl, by kernel_rfl⟩, trivial⟩
        · intro w h
          exact ⟨rfl, h.ch.bel (fun x hx => (A.no1 hh x hx).elim)⟩
  · skip
    refine A.G.call (I := Unit) (D := fun _ => True) (V := fun _ => .tuple #[.int .u32 ((W6.chk (M.sub50 a) 2 ((1 + (x % 4) : Nat) : Int)).1), .bool false]) (q := fun _ => [M.It i3.1.1 W6 ([])]) [A.blk g5 ([.pointer (some ⟨i3.1.1, 0, none⟩), .pointer (some ⟨i3.1.2, 0, none⟩)]), A.blk g1 ([.int .u32 ((x : Nat) : Int), .int .u32 v]), M.It m8 W6 ([]), R.It i3.1.2 W6, A.facts (M.opF ad0 n0 q0)] (fun _ => [(g5, [.pointer (some ⟨i3.1.1, 0, none⟩), .pointer (some ⟨i3.1.2, 0, none⟩)]), (g1, [.int .u32 ((x : Nat) : Int), .int .u32 v])]) (fun _ => [M.It m8 W6 ([]), M.It i3.1.1 W6 ([]), R.It i3.1.2 W6, A.facts (M.opF ad0 n0 q0)]) (M.trE (u := .tuple #[.int .u32 ((W6.chk (M.sub50 a) 2 ((1 + (x % 4) : Nat) : Int)).1), .bool false]) (A_Store (m := i3.1.1) (V := W6) (xs := []) (M.sub50 a) ((1 + (x % 4) : Nat) : Int) v (by have := M.sub50_lt a; omega)) (M.sto_f hc10) (M.stv_f hc10)) (by kernel_rfl) (A.pm [3, 0, 1, 2, 4, 5] (by kernel_rfl) (by kernel_rfl)) (fun _ => A.pm [1, 2, 3, 0, 4, 5] (by kernel_rfl) (by kernel_rfl)) (fun w _ => by kernel_rfl) (by kernel_rfl) (fun _ hd17 => ?_)
    refine E.G.op (.tuple #[.int .u32 ((W6.chk (M.sub50 a) 2 ((1 + (x % 4) : Nat) : Int)).1), .bool false]) (fun w => by kernel_rfl) (by kernel_rfl) ?_
    refine E.G.op (.int .u32 ((W6.chk (M.sub50 a) 2 ((1 + (x % 4) : Nat) : Int)).1)) (fun w => by kernel_rfl) (by kernel_rfl) ?_
    refine E.G.op (.bool false) (fun w => by kernel_rfl) (by kernel_rfl) ?_
    refine E.G.op (.int .u32 ((W6.chk (M.sub50 a) 2 ((1 + (x % 4) : Nat) : Int)).1)) (fun w => by kernel_rfl) (by kernel_rfl) ?_
    refine E.G.op (.bool false) (fun w => by kernel_rfl) (by kernel_rfl) ?_
    refine E.To.code ?_
    refine E.C.weak [(1, .int .u32 ((M.sub50 a : Nat) : Int)), (5, .pointer (some ⟨g1, 0, none⟩)), (6, .bool false), (7, .bool true), (8, .pointer (some ⟨g5, 0, none⟩)), (10, .int .i64 ((1 + (x % 4) : Nat) : Int)), (11, .pointer (some ⟨m8, 0, none⟩)), (12, .int .u32 ((W6.chk (M.sub50 a) 2 ((1 + (x % 4) : Nat) : Int)).1)), (13, .bool false)] [(g5, [.pointer (some ⟨i3.1.1, 0, none⟩), .pointer (some ⟨i3.1.2, 0, none⟩)]), (g1, [.int .u32 ((x : Nat) : Int), .int .u32 v])] ⟨by kernel_rfl, by kernel_rfl⟩ (List.Sublist.refl _) ?_
    refine E.C.seq ?_
    refine E.C.seq ?_
    refine E.C.region ?_
    refine E.G.op (.int .u32 0) (fun w => by kernel_rfl) (by kernel_rfl) ?_
    refine E.To.code ?_
    refine E.C.block ?_
    refine E.C.loop (I := Nat) (fun k => 770 - k) (fun k => k ≤ 770) (fun k => [(1, .int .u32 ((M.sub50 a : Nat) : Int)), (5, .pointer (some ⟨g1, 0, none⟩)), (6, .bool false), (7, .bool true), (8, .pointer (some ⟨g5, 0, none⟩)), (10, .int .i64 ((1 + (x % 4) : Nat) : Int)), (11, .pointer (some ⟨m8, 0, none⟩)), (12, .int .u32 ((W6.chk (M.sub50 a) 2 ((1 + (x % 4) : Nat) : Int)).1)), (13, .bool false), (14, .int .u32 ((k : Nat) : Int))]) (fun k => A.X w oo aa [M.It m8 W6 ([]), M.It i3.1.1 W6 ([]), R.It i3.1.2 W6, A.facts (M.opF ad0 n0 q0)]) (fun k => [(g5, [.pointer (some ⟨i3.1.1, 0, none⟩), .pointer (some ⟨i3.1.2, 0, none⟩)]), (g1, [.int .u32 ((x : Nat) : Int), .int .u32 v])]) 0 (Nat.zero_le _) ⟨by kernel_rfl, by kernel_rfl⟩ (List.Sublist.refl _) (fun _ h => h) (fun k hk2 => ?_)
    refine E.C.seq ?_
    refine E.C.seq ?_
    refine E.C.region ?_
    refine E.G.op (.int .u32 ((k : Nat) : Int)) (fun w => by kernel_rfl) (by kernel_rfl) ?_
    refine E.G.op (.bool (decide (((k : Nat) : Int) < 770))) (fun w => by kernel_rfl) (by kernel_rfl) ?_
    refine E.To.code ?_
    refine E.C.cond (decide (((k : Nat) : Int) < 770)) (by kernel_rfl) (by kernel_rfl) (fun hc18 => ?_) (fun hc18 => ?_)
    · skip
      refine E.C.skip (E.To.code ?_)
      refine E.C.seq ?_
      refine E.C.block ?_
      refine E.C.seq ?_
      refine E.C.region ?_
      refine E.G.op (.int .u32 ((k : Nat) : Int)) (fun w => by kernel_rfl) (by kernel_rfl) ?_
      refine E.G.op (.int .u32 ((M.sub50 a : Nat) : Int)) (fun w => by kernel_rfl) (by kernel_rfl) ?_
      refine E.G.val (.int .u32 ((M.sb k (M.sub50 a) : Nat) : Int)) (by kernel_rfl) (fun w h => E.run_as (a := .int .u32 (IntKind.wrap .u32 (((k : Nat) : Int) - ((M.sub50 a : Nat) : Int)))) (by kernel_rfl) (congrArg (Value.int .u32) (M.sb_eq (by (first | assumption | ((try simp only [Bool.or_eq_false_iff, Bool.or_eq_true, Bool.and_eq_true, Bool.and_eq_false_iff, Bool.not_eq_eq_eq_not, Bool.not_true, Bool.not_false, decide_eq_true_eq, decide_eq_false_iff_not, ge_iff_le, gt_iff_lt] at *); omega))) (M.sub50_lt a)))) ?_
      refine E.G.op (.int .i64 ((1 + (x % 4) : Nat) : Int)) (fun w => by kernel_rfl) (by kernel_rfl) ?_
      refine E.G.val (.int .u32 (((1 + (x % 4)) : Nat) : Int)) (by kernel_rfl) (fun w h => E.run_as (a := .int .u32 (IntKind.wrap .u32 ((1 + (x % 4) : Nat) : Int))) (by kernel_rfl) (congrArg (Value.int .u32) (by exact Nz.w32 (x := (1 + (x % 4))) (by (first | assumption | ((try simp only [Bool.or_eq_false_iff, Bool.or_eq_true, Bool.and_eq_true, Bool.and_eq_false_iff, Bool.not_eq_eq_eq_not, Bool.not_true, Bool.not_false, decide_eq_true_eq, decide_eq_false_iff_not, ge_iff_le, gt_iff_lt] at *); omega)))))) ?_
      refine E.G.op (.bool (decide (((M.sb k (M.sub50 a) : Nat) : Int) < (((1 + (x % 4)) : Nat) : Int)))) (fun w => by kernel_rfl) (by kernel_rfl) ?_
      refine E.G.op (.bool (decide (((M.sb k (M.sub50 a) : Nat) : Int) < (((1 + (x % 4)) : Nat) : Int)))) (fun w => by kernel_rfl) (by kernel_rfl) ?_
      refine E.G.cut 2 [(1, .int .u32 ((M.sub50 a : Nat) : Int)), (5, .pointer (some ⟨g1, 0, none⟩)), (6, .bool false), (7, .bool true), (8, .pointer (some ⟨g5, 0, none⟩)), (10, .int .i64 ((1 + (x % 4) : Nat) : Int)), (11, .pointer (some ⟨m8, 0, none⟩)), (12, .int .u32 ((W6.chk (M.sub50 a) 2 ((1 + (x % 4) : Nat) : Int)).1)), (13, .bool false), (14, .int .u32 ((k : Nat) : Int)), (54, .int .u32 ((k : Nat) : Int)), (55, .bool (decide (((k : Nat) : Int) < 770))), (58, .int .u32 ((k : Nat) : Int)), (59, .int .u32 ((M.sub50 a : Nat) : Int)), (60, .int .u32 ((M.sb k (M.sub50 a) : Nat) : Int)), (61, .int .i64 ((1 + (x % 4) : Nat) : Int)), (62, .int .u32 (((1 + (x % 4)) : Nat) : Int)), (63, .bool (decide (((M.sb k (M.sub50 a) : Nat) : Int) < (((1 + (x % 4)) : Nat) : Int)))), (64, .bool (decide (((M.sb k (M.sub50 a) : Nat) : Int) < (((1 + (x % 4)) : Nat) : Int)))), (66, .bool false)] (A.X w oo aa [M.It m8 W6 ([]), M.It i3.1.1 W6 ([]), R.It i3.1.2 W6, A.facts (M.opF ad0 n0 q0)]) [(g5, [.pointer (some ⟨i3.1.1, 0, none⟩), .pointer (some ⟨i3.1.2, 0, none⟩)]), (g1, [.int .u32 ((x : Nat) : Int), .int .u32 v])] ?_ ?_
      · generalize hc19 : (decide (((M.sb k (M.sub50 a) : Nat) : Int) < (((1 + (x % 4)) : Nat) : Int))) = b20
        cases b20
        · skip
          refine E.G.skip (by kernel_rfl) (by kernel_rfl) ?_
          refine E.G.op (.bool false) (fun w => by kernel_rfl) (by kernel_rfl) ?_
          exact E.G.end_pst ⟨by kernel_rfl, by kernel_rfl⟩ (List.Sublist.refl _) (fun _ h => h)
        · skip
          refine E.G.op (.bool false) (fun w => by kernel_rfl) (by kernel_rfl) ?_
          refine E.G.op (.bool false) (fun w => by kernel_rfl) (by kernel_rfl) ?_
          exact E.G.end_pst ⟨by kernel_rfl, by kernel_rfl⟩ (List.Sublist.refl _) (fun _ h => h)
      refine E.To.code ?_
      refine E.C.condF (by kernel_rfl) (by kernel_rfl) ?_
      refine E.C.seq ?_
      refine E.C.region ?_
      refine E.G.op (.pointer (some ⟨g5, 0, none⟩)) (fun w => by kernel_rfl) (by kernel_rfl) ?_
      refine E.G.val (.pointer (some ⟨i3.1.1, 0, none⟩)) (by kernel_rfl) (fun w h => E.run_load h 0 rfl rfl (by kernel_rfl)) ?_
      refine E.G.op (.int .u32 ((k : Nat) : Int)) (fun w => by kernel_rfl) (by kernel_rfl) ?_
      refine E.G.call (.int .u8 (W6.peek k)) (fun w h => A.call_rd [A.blk g5 ([.pointer (some ⟨i3.1.1, 0, none⟩), .pointer (some ⟨i3.1.2, 0, none⟩)]), A.blk g1 ([.int .u32 ((x : Nat) : Int), .int .u32 v]), M.It m8 W6 ([]), R.It i3.1.2 W6, A.facts (M.opF ad0 n0 q0)] (A_Peek (m := i3.1.1) (V := W6) (xs := []) k (by (first | assumption | ((try simp only [Bool.or_eq_false_iff, Bool.or_eq_true, Bool.and_eq_true, Bool.and_eq_false_iff, Bool.not_eq_eq_eq_not, Bool.not_true, Bool.not_false, decide_eq_true_eq, decide_eq_false_iff_not, ge_iff_le, gt_iff_lt] at *); omega)))) h (by kernel_rfl) (A.pm [3, 0, 1, 2, 4, 5] (by kernel_rfl) (by kernel_rfl))) (fun w _ => by kernel_rfl) (by kernel_rfl) ?_
      refine E.G.op (.pointer (some ⟨m8, 0, none⟩)) (fun w => by kernel_rfl) (by kernel_rfl) ?_
      refine E.G.op (.int .u32 ((k : Nat) : Int)) (fun w => by kernel_rfl) (by kernel_rfl) ?_
      refine E.G.call (.int .u8 (W6.peek k)) (fun w h => A.call_rd [A.blk g5 ([.pointer (some ⟨i3.1.1, 0, none⟩), .pointer (some ⟨i3.1.2, 0, none⟩)]), A.blk g1 ([.int .u32 ((x : Nat) : Int), .int .u32 v]), M.It i3.1.1 W6 ([]), R.It i3.1.2 W6, A.facts (M.opF ad0 n0 q0)] (A_Peek (m := m8) (V := W6) (xs := []) k (by (first | assumption | ((try simp only [Bool.or_eq_false_iff, Bool.or_eq_true, Bool.and_eq_true, Bool.and_eq_false_iff, Bool.not_eq_eq_eq_not, Bool.not_true, Bool.not_false, decide_eq_true_eq, decide_eq_false_iff_not, ge_iff_le, gt_iff_lt] at *); omega)))) h (by kernel_rfl) (A.pm [2, 0, 1, 3, 4, 5] (by kernel_rfl) (by kernel_rfl))) (fun w _ => by kernel_rfl) (by kernel_rfl) ?_
      refine E.G.val (.bool false) (by kernel_rfl) (fun w h => E.run_as (a := .bool ((W6.peek k) != (W6.peek k))) (by kernel_rfl) (congrArg Value.bool (bne_self_eq_false _))) ?_
      refine E.To.code ?_
      refine E.C.condF (by kernel_rfl) (by kernel_rfl) ?_
      refine E.C.skip (E.P.nb (E.To.code ?_))
      refine E.C.region ?_
      refine E.G.op (.int .u32 ((k : Nat) : Int)) (fun w => by kernel_rfl) (by kernel_rfl) ?_
      refine E.G.val (.int .u32 ((k + 1 : Nat) : Int)) (by kernel_rfl) (fun w h => E.run_as (a := .int .u32 (IntKind.wrap .u32 (((k : Nat) : Int) + 1))) (by kernel_rfl) (congrArg (Value.int .u32) (M.u32_s (by (first | assumption | ((try simp only [Bool.or_eq_false_iff, Bool.or_eq_true, Bool.and_eq_true, Bool.and_eq_false_iff, Bool.not_eq_eq_eq_not, Bool.not_true, Bool.not_false, decide_eq_true_eq, decide_eq_false_iff_not, ge_iff_le, gt_iff_lt] at *); omega)))))) ?_
      refine E.G.op (.int .u32 ((k + 1 : Nat) : Int)) (fun w => by kernel_rfl) (by kernel_rfl) ?_
      exact E.To.round (k + 1) (by (first | assumption | ((try simp only [Bool.or_eq_false_iff, Bool.or_eq_true, Bool.and_eq_true, Bool.and_eq_false_iff, Bool.not_eq_eq_eq_not, Bool.not_true, Bool.not_false, decide_eq_true_eq, decide_eq_false_iff_not, ge_iff_le, gt_iff_lt] at *); omega))) (by (first | assumption | ((try simp only [Bool.or_eq_false_iff, Bool.or_eq_true, Bool.and_eq_true, Bool.and_eq_false_iff, Bool.not_eq_eq_eq_not, Bool.not_true, Bool.not_false, decide_eq_true_eq, decide_eq_false_iff_not, ge_iff_le, gt_iff_lt] at *); omega))) ⟨by kernel_rfl, by kernel_rfl⟩ (List.Sublist.refl _) (fun _ h => h)
    · skip
      refine E.C.exit (E.P.et (E.P.et (E.P.eh (E.To.code ?_))))
      refine E.C.seq ?_
      refine E.C.region ?_
      refine E.G.op (.pointer (some ⟨g5, 0, none⟩)) (fun w => by kernel_rfl) (by kernel_rfl) ?_
      refine E.G.val (.pointer (some ⟨i3.1.1, 0, none⟩)) (by kernel_rfl) (fun w h => E.run_load h 0 rfl rfl (by kernel_rfl)) ?_
      refine E.G.op (.int .u32 ((M.sub50 a : Nat) : Int)) (fun w => by kernel_rfl) (by kernel_rfl) ?_
      refine E.G.op (.int .i64 ((1 + (x % 4) : Nat) : Int)) (fun w => by kernel_rfl) (by kernel_rfl) ?_
      refine E.G.call (.tuple #[.int .u32 ((W6.load (M.sub50 a) ((1 + (x % 4) : Nat) : Int)).1), .int .u32 ((W6.load (M.sub50 a) ((1 + (x % 4) : Nat) : Int)).2.1), .bool ((W6.load (M.sub50 a) ((1 + (x % 4) : Nat) : Int)).2.2)]) (fun w h => A.call_rd [A.blk g5 ([.pointer (some ⟨i3.1.1, 0, none⟩), .pointer (some ⟨i3.1.2, 0, none⟩)]), A.blk g1 ([.int .u32 ((x : Nat) : Int), .int .u32 v]), M.It m8 W6 ([]), R.It i3.1.2 W6, A.facts (M.opF ad0 n0 q0)] (A_Load (m := i3.1.1) (V := W6) (xs := []) (M.sub50 a) ((1 + (x % 4) : Nat) : Int) (by have := M.sub50_lt a; omega)) h (by kernel_rfl) (A.pm [3, 0, 1, 2, 4, 5] (by kernel_rfl) (by kernel_rfl))) (fun w _ => by kernel_rfl) (by kernel_rfl) ?_
      refine E.G.op (.tuple #[.int .u32 ((W6.load (M.sub50 a) ((1 + (x % 4) : Nat) : Int)).1), .int .u32 ((W6.load (M.sub50 a) ((1 + (x % 4) : Nat) : Int)).2.1), .bool ((W6.load (M.sub50 a) ((1 + (x % 4) : Nat) : Int)).2.2)]) (fun w => by kernel_rfl) (by kernel_rfl) ?_
      refine E.G.op (.int .u32 ((W6.load (M.sub50 a) ((1 + (x % 4) : Nat) : Int)).1)) (fun w => by kernel_rfl) (by kernel_rfl) ?_
      refine E.G.op (.int .u32 ((W6.load (M.sub50 a) ((1 + (x % 4) : Nat) : Int)).2.1)) (fun w => by kernel_rfl) (by kernel_rfl) ?_
      refine E.G.op (.bool ((W6.load (M.sub50 a) ((1 + (x % 4) : Nat) : Int)).2.2)) (fun w => by kernel_rfl) (by kernel_rfl) ?_
      refine E.G.op (.int .u32 ((W6.load (M.sub50 a) ((1 + (x % 4) : Nat) : Int)).1)) (fun w => by kernel_rfl) (by kernel_rfl) ?_
      refine E.G.op (.int .u32 ((W6.load (M.sub50 a) ((1 + (x % 4) : Nat) : Int)).2.1)) (fun w => by kernel_rfl) (by kernel_rfl) ?_
      refine E.G.op (.bool ((W6.load (M.sub50 a) ((1 + (x % 4) : Nat) : Int)).2.2)) (fun w => by kernel_rfl) (by kernel_rfl) ?_
      refine E.To.code ?_
      refine E.C.weak [(1, .int .u32 ((M.sub50 a : Nat) : Int)), (5, .pointer (some ⟨g1, 0, none⟩)), (6, .bool false), (7, .bool true), (10, .int .i64 ((1 + (x % 4) : Nat) : Int)), (12, .int .u32 ((W6.chk (M.sub50 a) 2 ((1 + (x % 4) : Nat) : Int)).1)), (13, .bool false), (15, .int .u32 ((W6.load (M.sub50 a) ((1 + (x % 4) : Nat) : Int)).1)), (17, .bool ((W6.load (M.sub50 a) ((1 + (x % 4) : Nat) : Int)).2.2))] [(g1, [.int .u32 ((x : Nat) : Int), .int .u32 v])] ⟨by kernel_rfl, by kernel_rfl⟩ (List.Sublist.cons _ (List.Sublist.refl _)) ?_
      refine E.C.seq ?_
      refine E.C.region ?_
      refine E.G.op (.int .i64 ((1 + (x % 4) : Nat) : Int)) (fun w => by kernel_rfl) (by kernel_rfl) ?_
      refine E.G.val (.int .u32 (((1 + (x % 4)) : Nat) : Int)) (by kernel_rfl) (fun w h => E.run_as (a := .int .u32 (IntKind.wrap .u32 ((1 + (x % 4) : Nat) : Int))) (by kernel_rfl) (congrArg (Value.int .u32) (by exact Nz.w32 (x := (1 + (x % 4))) (by (first | assumption | ((try simp only [Bool.or_eq_false_iff, Bool.or_eq_true, Bool.and_eq_true, Bool.and_eq_false_iff, Bool.not_eq_eq_eq_not, Bool.not_true, Bool.not_false, decide_eq_true_eq, decide_eq_false_iff_not, ge_iff_le, gt_iff_lt] at *); omega)))))) ?_
      refine E.G.val (.int .u32 (((8 * (1 + (x % 4))) % 4294967296 : Nat) : Int)) (by kernel_rfl) (fun w h => E.run_as (a := .int .u32 (IntKind.wrap .u32 (8 * (((1 + (x % 4)) : Nat) : Int)))) (by kernel_rfl) (congrArg (Value.int .u32) (by exact Nz.mul32 8 (1 + (x % 4))))) ?_
      refine E.G.val (.int .u32 ((32 - 8 * (1 + (x % 4)) : Nat) : Int)) (by kernel_rfl) (fun w h => E.run_as (a := .int .u32 (IntKind.wrap .u32 (32 - (((8 * (1 + (x % 4))) % 4294967296 : Nat) : Int)))) (by kernel_rfl) (congrArg (Value.int .u32) (M.sub32 (by omega : 1 ≤ 1 + x % 4 ∧ 1 + x % 4 ≤ 4)))) ?_
      refine E.G.val (.int .u32 (Int.fdiv 4294967295 (2 ^ (min (32 - 8 * (1 + (x % 4))) 32)))) (by kernel_rfl) (fun w h => E.shr (k2 := .u32) 4294967295 (32 - 8 * (1 + (x % 4))) 32 (by rfl) (by kernel_rfl) (by kernel_rfl) w) ?_
      refine E.G.op (.int .u32 (Int.fdiv 4294967295 (2 ^ (min (32 - 8 * (1 + (x % 4))) 32)))) (fun w => by kernel_rfl) (by kernel_rfl) ?_
      refine E.To.code ?_
      refine E.C.seq ?_
      refine E.C.region ?_
      refine E.G.op (.bool true) (fun w => by kernel_rfl) (by kernel_rfl) ?_
      refine E.G.op (.bool true) (fun w => by kernel_rfl) (by kernel_rfl) ?_
      refine E.G.op (.bool false) (fun w => by kernel_rfl) (by kernel_rfl) ?_
      refine E.G.op (.bool false) (fun w => by kernel_rfl) (by kernel_rfl) ?_
      refine E.G.op (.int .u32 ((W6.chk (M.sub50 a) 2 ((1 + (x % 4) : Nat) : Int)).1)) (fun w => by kernel_rfl) (by kernel_rfl) ?_
      refine E.G.op (.int .u32 ((M.sub50 a : Nat) : Int)) (fun w => by kernel_rfl) (by kernel_rfl) ?_
      refine E.G.op (.int .u32 (IntKind.wrap .u32 (((W6.chk (M.sub50 a) 2 ((1 + (x % 4) : Nat) : Int)).1) - ((M.sub50 a : Nat) : Int)))) (fun w => by kernel_rfl) (by kernel_rfl) ?_
      refine E.G.op (.int .i64 ((1 + (x % 4) : Nat) : Int)) (fun w => by kernel_rfl) (by kernel_rfl) ?_
      refine E.G.val (.int .u32 (((1 + (x % 4)) : Nat) : Int)) (by kernel_rfl) (fun w h => E.run_as (a := .int .u32 (IntKind.wrap .u32 ((1 + (x % 4) : Nat) : Int))) (by kernel_rfl) (congrArg (Value.int .u32) (by exact Nz.w32 (x := (1 + (x % 4))) (by (first | assumption | ((try simp only [Bool.or_eq_false_iff, Bool.or_eq_true, Bool.and_eq_true, Bool.and_eq_false_iff, Bool.not_eq_eq_eq_not, Bool.not_true, Bool.not_false, decide_eq_true_eq, decide_eq_false_iff_not, ge_iff_le, gt_iff_lt] at *); omega)))))) ?_
      refine E.G.val (.bool true) (by kernel_rfl) (fun w h => E.run_as (a := .bool (decide ((IntKind.wrap .u32 (((W6.chk (M.sub50 a) 2 ((1 + (x % 4) : Nat) : Int)).1) - ((M.sub50 a : Nat) : Int))) < (((1 + (x % 4)) : Nat) : Int)))) (by kernel_rfl) (congrArg Value.bool (M.at_near (M.sub50_lt a) (by omega : 1 ≤ 1 + x % 4 ∧ 1 + x % 4 ≤ 4) hc10))) ?_
      refine E.G.op (.bool true) (fun w => by kernel_rfl) (by kernel_rfl) ?_
      refine E.G.op (.bool true) (fun w => by kernel_rfl) (by kernel_rfl) ?_
      refine E.G.op (.bool true) (fun w => by kernel_rfl) (by kernel_rfl) ?_
      refine E.G.op (.bool false) (fun w => by kernel_rfl) (by kernel_rfl) ?_
      refine E.G.op (.bool true) (fun w => by kernel_rfl) (by kernel_rfl) ?_
      refine E.G.op (.bool true) (fun w => by kernel_rfl) (by kernel_rfl) ?_
      refine E.G.skip (by kernel_rfl) (by kernel_rfl) ?_
      refine E.G.skip (by kernel_rfl) (by kernel_rfl) ?_
      refine E.G.op (.bool true) (fun w => by kernel_rfl) (by kernel_rfl) ?_
      refine E.G.op (.bool true) (fun w => by kernel_rfl) (by kernel_rfl) ?_
      refine E.G.skip (by kernel_rfl) (by kernel_rfl) ?_
      refine E.G.skip (by kernel_rfl) (by kernel_rfl) ?_
      refine E.G.skip (by kernel_rfl) (by kernel_rfl) ?_
      refine E.G.skip (by kernel_rfl) (by kernel_rfl) ?_
      refine E.G.skip (by kernel_rfl) (by kernel_rfl) ?_
      refine E.G.skip (by kernel_rfl) (by kernel_rfl) ?_
      refine E.G.op (.bool true) (fun w => by kernel_rfl) (by kernel_rfl) ?_
      refine E.G.op (.bool true) (fun w => by kernel_rfl) (by kernel_rfl) ?_
      refine E.G.op (.bool true) (fun w => by kernel_rfl) (by kernel_rfl) ?_
      refine E.G.op (.bool false) (fun w => by kernel_rfl) (by kernel_rfl) ?_
      refine E.G.op (.bool true) (fun w => by kernel_rfl) (by kernel_rfl) ?_
      refine E.G.op (.bool true) (fun w => by kernel_rfl) (by kernel_rfl) ?_
      refine E.G.skip (by kernel_rfl) (by kernel_rfl) ?_
      refine E.G.skip (by kernel_rfl) (by kernel_rfl) ?_
      refine E.G.op (.bool true) (fun w => by kernel_rfl) (by kernel_rfl) ?_
      refine E.G.op (.bool true) (fun w => by kernel_rfl) (by kernel_rfl) ?_
      refine E.G.op (.bool true) (fun w => by kernel_rfl) (by kernel_rfl) ?_
      refine E.To.code ?_
      refine E.C.weak [(6, .bool true)] [] ⟨by kernel_rfl, by kernel_rfl⟩ (List.nil_sublist _) ?_
      refine E.C.ret (E.To.body (fn := Try.f6) [.bool true] ?_ ?_)
      · exact ⟨⟨by kernel_rfl, by kernel_rfl⟩, trivial⟩
      · intro w h
        exact ⟨rfl, h.ch.bel (fun x hx => (A.no1 hh x hx).elim)⟩
theorem MemStoreLoad_law (a x v : Int) {ao0 : Option Addr} {ad0 : Addr} {n0 cap0 : Nat} {q0 : Nat → M.Op} (hao0 : 0 < n0 → ao0 = some ad0) {w : World} (f0 : ∀ a v, M.opF ad0 n0 q0 a v → w.cell? a = some v) (ha : 0 ≤ a ∧ a < 4294967296) (hx : 0 ≤ x ∧ x < 4294967296) (hv : 0 ≤ v ∧ v < 4294967296) : Calls Try.prog 6 #[.slice ao0 n0 cap0, .int .u32 a, .agg #[.int .u32 x, .int .u32 v]] w fun e w' => e = .returned (.bool true) ∧ Bel w w' := by
  obtain ⟨b, rfl⟩ := Int.eq_ofNat_of_zero_le ha.1
  obtain ⟨y, rfl⟩ := Int.eq_ofNat_of_zero_le hx.1
  exact MemStoreLoad_rd b y v (by omega) (by omega) hv hao0 w _ _ (A.facts_has f0)
end Go.Proofs.Ytdjjjikokfadiaa
