/- Walks: MemPages, printed by wip/eng. No condition but what is named. -/
import Derived.Test.YtdjjjikokfadiaaProg
import Derived.Test.YtdjjjikokfadiaaZNq
namespace Go.Proofs.Ytdjjjikokfadiaa
set_option linter.unusedVariables false
set_option linter.unusedSimpArgs false
open Go.RowKit
theorem MemPages_rd (n : Int) {ao0 : Option Addr} {ad0 : Addr} {n0 cap0 : Nat} {q0 : Nat → M.Op} (hao0 : 0 < n0 → ao0 = some ad0) : A.Rd Try.prog 5 #[.slice ao0 n0 cap0, .int .i64 n] [A.facts (M.opF ad0 n0 q0)] (.bool true) := by
  intro w oo aa hh
  refine E.enter (n := 82) (S := oo) Try.func5 rfl rfl (by kernel_rfl) (A.start (L := []) hh) ?_
  refine E.C.seq ?_
  refine E.C.region ?_
  refine E.G.op (.bool false) (fun w => by kernel_rfl) (by kernel_rfl) ?_
  refine E.To.code ?_
  refine E.C.seq ?_
  refine E.C.region ?_
  refine E.G.call (.bool true) (fun w h => A.call_rd [A.facts (M.opF ad0 n0 q0)] (San) h (by kernel_rfl) (A.pm [0] (by kernel_rfl) (by kernel_rfl))) (fun w _ => by kernel_rfl) (by kernel_rfl) ?_
  refine E.G.op (.bool true) (fun w => by kernel_rfl) (by kernel_rfl) ?_
  refine E.To.code ?_
  refine E.C.seq ?_
  refine E.C.region ?_
  refine E.G.buildSlice [.int .u8 7, .int .u8 7, .int .u8 7] (by kernel_rfl) (by kernel_rfl) (fun g1 => ?_)
  refine A.G.call (I := (Nat × Nat) × M.V) (D := fun i2 => M.Is i2.2 3 false) (V := fun i2 => .tuple #[.agg #[.pointer (some ⟨i2.1.1, 0, none⟩), .pointer (some ⟨i2.1.2, 0, none⟩)], .bool true]) (q := fun i2 => [A.blk g1 ([.int .u8 7, .int .u8 7, .int .u8 7]), M.It i2.1.1 i2.2 ([]), R.It i2.1.2 i2.2]) [A.facts (M.opF ad0 n0 q0)] (fun i2 => [(g1, [.int .u8 7, .int .u8 7, .int .u8 7])]) (fun i2 => [M.It i2.1.1 i2.2 ([]), R.It i2.1.2 i2.2, A.facts (M.opF ad0 n0 q0)]) (Begin2 (it := (A.blk g1 ([.int .u8 7, .int .u8 7, .int .u8 7]))) (ao := (some ⟨g1, 0, none⟩)) (ad := ⟨g1, 0, none⟩) (n := 3) (cap := 3) (q := (fun i => [7, 7, 7].getD i 0)) 3 false 3 rfl (.inr (by decide)) (fun _ => rfl) (M.blk_hit fun i hi => by have : i = 0 ∨ i = 1 ∨ i = 2 := (by omega); rcases this with rfl | rfl | rfl <;> rfl)) (by kernel_rfl) (A.pm [0, 1] (by kernel_rfl) (by kernel_rfl)) (fun i2 => A.pm [0, 1, 2, 3] (by kernel_rfl) (by kernel_rfl)) (fun w _ => by kernel_rfl) (by kernel_rfl) (fun i2 hd3 => ?_)
  refine E.G.op (.tuple #[.agg #[.pointer (some ⟨i2.1.1, 0, none⟩), .pointer (some ⟨i2.1.2, 0, none⟩)], .bool true]) (fun w => by kernel_rfl) (by kernel_rfl) ?_
  refine E.G.op (.agg #[.pointer (some ⟨i2.1.1, 0, none⟩), .pointer (some ⟨i2.1.2, 0, none⟩)]) (fun w => by kernel_rfl) (by kernel_rfl) ?_
  refine E.G.op (.bool true) (fun w => by kernel_rfl) (by kernel_rfl) ?_
  refine E.G.new (fun g => .pointer (some ⟨g, 0, none⟩)) [.pointer none, .pointer none] 44 (fun w => by kernel_rfl) (by kernel_rfl) (fun g4 => ?_)
  refine E.G.store 0 [.pointer (some ⟨i2.1.1, 0, none⟩), .pointer (some ⟨i2.1.2, 0, none⟩)] rfl rfl (by kernel_rfl) (by kernel_rfl) ?_
  refine E.G.op (.bool true) (fun w => by kernel_rfl) (by kernel_rfl) ?_
  refine E.To.code ?_
  refine E.C.seq ?_
  refine E.C.seq ?_
  refine E.C.region ?_
  refine E.G.op (.bool true) (fun w => by kernel_rfl) (by kernel_rfl) ?_
  refine E.G.op (.bool false) (fun w => by kernel_rfl) (by kernel_rfl) ?_
  refine E.G.op (.bool false) (fun w => by kernel_rfl) (by kernel_rfl) ?_
  refine E.G.val (.agg #[.pointer (some ⟨i2.1.1, 0, none⟩), .pointer (some ⟨i2.1.2, 0, none⟩)]) (by kernel_rfl) (fun w h => E.run_load h 0 rfl rfl (by kernel_rfl)) ?_
  refine E.G.op (.slice ao0 n0 cap0) (fun w => by kernel_rfl) (by kernel_rfl) ?_
  refine A.G.call (I := M.V) (D := fun W5 => M.Is W5 3 false) (V := fun W5 => .bool true) (q := fun W5 => [A.facts (M.opF ad0 n0 q0), M.It i2.1.1 W5 ([]), R.It i2.1.2 W5]) [A.blk g4 ([.pointer (some ⟨i2.1.1, 0, none⟩), .pointer (some ⟨i2.1.2, 0, none⟩)]), A.blk g1 ([.int .u8 7, .int .u8 7, .int .u8 7])] (fun W5 => [(g4, [.pointer (some ⟨i2.1.1, 0, none⟩), .pointer (some ⟨i2.1.2, 0, none⟩)]), (g1, [.int .u8 7, .int .u8 7, .int .u8 7])]) (fun W5 => [M.It i2.1.1 W5 ([]), R.It i2.1.2 W5, A.facts (M.opF ad0 n0 q0)]) (Play2 (m := i2.1.1) (r := i2.1.2) (V := i2.2) (ao := ao0) (ad := ad0) (n := n0) (cap := cap0) (q := q0) hao0 hd3) (by kernel_rfl) (A.pm [4, 2, 3, 0, 1] (by kernel_rfl) (by kernel_rfl)) (fun W5 => A.pm [3, 4, 1, 2, 0] (by kernel_rfl) (by kernel_rfl)) (fun w _ => by kernel_rfl) (by kernel_rfl) (fun W5 hd6 => ?_)
  refine E.G.op (.bool false) (fun w => by kernel_rfl) (by kernel_rfl) ?_
  refine E.G.op (.bool false) (fun w => by kernel_rfl) (by kernel_rfl) ?_
  refine E.To.code ?_
  refine E.C.weak [(1, .int .i64 n), (4, .bool false), (5, .bool true), (6, .pointer (some ⟨g4, 0, none⟩)), (26, .bool false)] [(g4, [.pointer (some ⟨i2.1.1, 0, none⟩), .pointer (some ⟨i2.1.2, 0, none⟩)])] ⟨by kernel_rfl, by kernel_rfl⟩ (List.Sublist.cons_cons _ (List.nil_sublist _)) ?_
  refine E.C.condF (by kernel_rfl) (by kernel_rfl) ?_
  refine E.C.skip (E.To.code ?_)
  refine E.C.seq ?_
  refine E.C.region ?_
  refine A.G.call (I := Nat) (D := fun m7 => True) (V := fun m7 => .pointer (some ⟨m7, 0, none⟩)) (q := fun m7 => [M.It m7 (M.V.new (M.np 3) false) ([])]) [A.blk g4 ([.pointer (some ⟨i2.1.1, 0, none⟩), .pointer (some ⟨i2.1.2, 0, none⟩)]), M.It i2.1.1 W5 ([]), R.It i2.1.2 W5, A.facts (M.opF ad0 n0 q0)] (fun m7 => [(g4, [.pointer (some ⟨i2.1.1, 0, none⟩), .pointer (some ⟨i2.1.2, 0, none⟩)])]) (fun m7 => [M.It m7 (M.V.new (M.np 3) false) ([]), M.It i2.1.1 W5 ([]), R.It i2.1.2 W5, A.facts (M.opF ad0 n0 q0)]) (A_New 3 false) (by kernel_rfl) (A.pm [0, 1, 2, 3] (by kernel_rfl) (by kernel_rfl)) (fun m7 => A.pm [1, 0, 2, 3, 4] (by kernel_rfl) (by kernel_rfl)) (fun w _ => by kernel_rfl) (by kernel_rfl) (fun m7 hd8 => ?_)
  refine E.G.op (.pointer (some ⟨m7, 0, none⟩)) (fun w => by kernel_rfl) (by kernel_rfl) ?_
  refine E.To.code ?_
  refine E.C.seq ?_
  refine E.C.seq ?_
  refine E.C.region ?_
  refine E.G.op (.int .i64 0) (fun w => by kernel_rfl) (by kernel_rfl) ?_
  refine E.To.code ?_
  refine E.C.block ?_
  refine E.C.loop (I := Nat) (fun p => 3 - p) (fun p => p ≤ 3) (fun p => [(1, .int .i64 n), (4, .bool false), (5, .bool true), (6, .pointer (some ⟨g4, 0, none⟩)), (8, .pointer (some ⟨m7, 0, none⟩)), (9, .int .i64 ((p : Nat) : Int))]) (fun p => A.X w oo aa [M.It m7 (M.cp W5 p) ([]), M.It i2.1.1 W5 ([]), R.It i2.1.2 W5, A.facts (M.opF ad0 n0 q0)]) (fun p => [(g4, [.pointer (some ⟨i2.1.1, 0, none⟩), .pointer (some ⟨i2.1.2, 0, none⟩)])]) 0 (Nat.zero_le _) ⟨by kernel_rfl, by kernel_rfl⟩ (List.Sublist.refl _) (fun _ h => h) (fun p hk1 => ?_)
  refine E.C.seq ?_
  refine E.C.seq ?_
  refine E.C.region ?_
  refine E.G.op (.int .i64 ((p : Nat) : Int)) (fun w => by kernel_rfl) (by kernel_rfl) ?_
  refine E.G.op (.bool (decide (((p : Nat) : Int) < 3))) (fun w => by kernel_rfl) (by kernel_rfl) ?_
  refine E.To.code ?_
  refine E.C.cond (decide (((p : Nat) : Int) < 3)) (by kernel_rfl) (by kernel_rfl) (fun hc9 => ?_) (fun hc9 => ?_)
  · skip
    refine E.C.skip (E.To.code ?_)
    refine E.C.seq ?_
    refine E.C.block ?_
    refine E.C.seq ?_
    refine E.C.region ?_
    refine E.G.op (.pointer (some ⟨g4, 0, none⟩)) (fun w => by kernel_rfl) (by kernel_rfl) ?_
    refine E.G.val (.pointer (some ⟨i2.1.1, 0, none⟩)) (by kernel_rfl) (fun w h => E.run_load h 0 rfl rfl (by kernel_rfl)) ?_
    refine E.G.op (.int .i64 ((p : Nat) : Int)) (fun w => by kernel_rfl) (by kernel_rfl) ?_
    refine E.G.call (.string (W5.page ((p : Nat) : Int))) (fun w h => A.call_rd [A.blk g4 ([.pointer (some ⟨i2.1.1, 0, none⟩), .pointer (some ⟨i2.1.2, 0, none⟩)]), M.It m7 (M.cp W5 p) ([]), R.It i2.1.2 W5, A.facts (M.opF ad0 n0 q0)] (A_Page (m := i2.1.1) (V := W5) (xs := []) ((p : Nat) : Int)) h (by kernel_rfl) (A.pm [2, 0, 1, 3, 4] (by kernel_rfl) (by kernel_rfl))) (fun w _ => by kernel_rfl) (by kernel_rfl) ?_
    refine E.G.op (.string (W5.page ((p : Nat) : Int))) (fun w => by kernel_rfl) (by kernel_rfl) ?_
    refine E.To.code ?_
    refine E.C.seq ?_
    refine E.C.seq ?_
    refine E.C.region ?_
    refine E.G.op (.string (W5.page ((p : Nat) : Int))) (fun w => by kernel_rfl) (by kernel_rfl) ?_
    refine E.G.op (.int .i64 (((W5.page ((p : Nat) : Int)).size : Nat) : Int)) (fun w => by kernel_rfl) (by kernel_rfl) ?_
    refine E.G.val (.bool false) (by kernel_rfl) (fun w h => E.run_as (a := .bool ((((W5.page ((p : Nat) : Int)).size : Nat) : Int) != 256)) (by kernel_rfl) (congrArg Value.bool (by rw [M.page_size hd6 (by (first | assumption | ((try simp only [Bool.or_eq_false_iff, Bool.or_eq_true, Bool.and_eq_true, Bool.and_eq_false_iff, Bool.not_eq_eq_eq_not, Bool.not_true, Bool.not_false, decide_eq_true_eq, decide_eq_false_iff_not, ge_iff_le, gt_iff_lt] at *); omega)))]; rfl))) ?_
    refine E.To.code ?_
    refine E.C.condF (by kernel_rfl) (by kernel_rfl) ?_
    refine E.C.skip (E.To.code ?_)
    refine E.C.seq ?_
    refine E.C.seq ?_
    refine E.C.region ?_
    refine E.G.op (.int .i64 0) (fun w => by kernel_rfl) (by kernel_rfl) ?_
    refine E.To.code ?_
    refine E.C.block ?_
    refine E.C.loop (I := Nat) (fun k => 256 - k) (fun k => k ≤ 256) (fun k => [(1, .int .i64 n), (4, .bool false), (5, .bool true), (6, .pointer (some ⟨g4, 0, none⟩)), (8, .pointer (some ⟨m7, 0, none⟩)), (9, .int .i64 ((p : Nat) : Int)), (10, .string (W5.page ((p : Nat) : Int))), (11, .int .i64 ((k : Nat) : Int)), (28, .int .i64 ((p : Nat) : Int)), (29, .bool (decide (((p : Nat) : Int) < 3))), (32, .pointer (some ⟨g4, 0, none⟩)), (33, .pointer (some ⟨i2.1.1, 0, none⟩)), (34, .int .i64 ((p : Nat) : Int)), (35, .string (W5.page ((p : Nat) : Int))), (36, .string (W5.page ((p : Nat) : Int))), (37, .int .i64 (((W5.page ((p : Nat) : Int)).size : Nat) : Int)), (38, .bool false)]) (fun k => A.X w oo aa [M.It m7 (M.cp W5 p) ([]), M.It i2.1.1 W5 ([]), R.It i2.1.2 W5, A.facts (M.opF ad0 n0 q0)]) (fun k => [(g4, [.pointer (some ⟨i2.1.1, 0, none⟩), .pointer (some ⟨i2.1.2, 0, none⟩)])]) 0 (Nat.zero_le _) ⟨by kernel_rfl, by kernel_rfl⟩ (List.Sublist.refl _) (fun _ h => h) (fun k hk2 => ?_)
    refine E.C.seq ?_
    refine E.C.seq ?_
    refine E.C.region ?_
    refine E.G.op (.int .i64 ((k : Nat) : Int)) (fun w => by kernel_rfl) (by kernel_rfl) ?_
    refine E.G.op (.bool (decide (((k : Nat) : Int) < 256))) (fun w => by kernel_rfl) (by kernel_rfl) ?_
    refine E.To.code ?_
    refine E.C.cond (decide (((k : Nat) : Int) < 256)) (by kernel_rfl) (by kernel_rfl) (fun hc10 => ?_) (fun hc10 => ?_)
    · skip
      refine E.C.skip (E.To.code ?_)
      refine E.C.seq ?_
      refine E.C.block ?_
      refine E.C.seq ?_
      refine E.C.quiet (by kernel_rfl) (by kernel_rfl) ?_
      refine E.W.op (.string (W5.page ((p : Nat) : Int))) (fun w => by kernel_rfl) (by kernel_rfl) ?_
      refine E.W.op (.int .i64 ((k : Nat) : Int)) (fun w => by kernel_rfl) (by kernel_rfl) ?_
      refine E.W.val (.int .u8 (W.byt (W5.page ((p : Nat) : Int)).data.toList (((k : Nat) : Int)).toNat)) (by kernel_rfl) (fun w h => E.sidx (W5.page ((p : Nat) : Int)) .i64 ((k : Nat) : Int) (by kernel_rfl) (by kernel_rfl) (by kernel_rfl) (by have hz := M.page_size hd6 (p := p) (by (first | assumption | ((try simp only [Bool.or_eq_false_iff, Bool.or_eq_true, Bool.and_eq_true, Bool.and_eq_false_iff, Bool.not_eq_eq_eq_not, Bool.not_true, Bool.not_false, decide_eq_true_eq, decide_eq_false_iff_not, ge_iff_le, gt_iff_lt] at *); omega))); (first | assumption | ((try simp only [Bool.or_eq_false_iff, Bool.or_eq_true, Bool.and_eq_true, Bool.and_eq_false_iff, Bool.not_eq_eq_eq_not, Bool.not_true, Bool.not_false, decide_eq_true_eq, decide_eq_false_iff_not, ge_iff_le, gt_iff_lt] at *); omega))) (by have hz := M.page_size hd6 (p := p) (by (first | assumption | ((try simp only [Bool.or_eq_false_iff, Bool.or_eq_true, Bool.and_eq_true, Bool.and_eq_false_iff, Bool.not_eq_eq_eq_not, Bool.not_true, Bool.not_false, decide_eq_true_eq, decide_eq_false_iff_not, ge_iff_le, gt_iff_lt] at *); omega))); (first | assumption | ((try simp only [Bool.or_eq_false_iff, Bool.or_eq_true, Bool.and_eq_true, Bool.and_eq_false_iff, Bool.not_eq_eq_eq_not, Bool.not_true, Bool.not_false, decide_eq_true_eq, decide_eq_false_iff_not, ge_iff_le, gt_iff_lt] at *); omega))) w) ?_
      refine E.W.op (.pointer (some ⟨g4, 0, none⟩)) (fun w => by kernel_rfl) (by kernel_rfl) ?_
      refine E.W.val (.pointer (some ⟨i2.1.1, 0, none⟩)) (by kernel_rfl) (fun w h => E.run_load h 0 rfl rfl (by kernel_rfl)) ?_
      refine E.W.op (.int .i64 ((p : Nat) : Int)) (fun w => by kernel_rfl) (by kernel_rfl) ?_
      refine E.W.val (.int .i64 ((256 * p : Nat) : Int)) (by kernel_rfl) (fun w h => E.run_as (a := .int .i64 (IntKind.wrap .i64 (256 * ((p : Nat) : Int)))) (by kernel_rfl) (congrArg (Value.int .i64) (by exact Nz.mul64 (x := 256) (y := p) (by (first | assumption | ((try simp only [Bool.or_eq_false_iff, Bool.or_eq_true, Bool.and_eq_true, Bool.and_eq_false_iff, Bool.not_eq_eq_eq_not, Bool.not_true, Bool.not_false, decide_eq_true_eq, decide_eq_false_iff_not, ge_iff_le, gt_iff_lt] at *); omega)))))) ?_
      refine E.W.op (.int .i64 ((k : Nat) : Int)) (fun w => by kernel_rfl) (by kernel_rfl) ?_
      refine E.W.val (.int .i64 (((256 * p) + k : Nat) : Int)) (by kernel_rfl) (fun w h => E.run_as (a := .int .i64 (IntKind.wrap .i64 (((256 * p : Nat) : Int) + ((k : Nat) : Int)))) (by kernel_rfl) (congrArg (Value.int .i64) (by exact Nz.add64 (x := (256 * p)) (y := k) (by (first | assumption | ((try simp only [Bool.or_eq_false_iff, Bool.or_eq_true, Bool.and_eq_true, Bool.and_eq_false_iff, Bool.not_eq_eq_eq_not, Bool.not_true, Bool.not_false, decide_eq_true_eq, decide_eq_false_iff_not, ge_iff_le, gt_iff_lt] at *); omega)))))) ?_
      refine E.W.val (.int .u32 ((((256 * p) + k) : Nat) : Int)) (by kernel_rfl) (fun w h => E.run_as (a := .int .u32 (IntKind.wrap .u32 (((256 * p) + k : Nat) : Int))) (by kernel_rfl) (congrArg (Value.int .u32) (by exact Nz.w32 (x := ((256 * p) + k)) (by (first | assumption | ((try simp only [Bool.or_eq_false_iff, Bool.or_eq_true, Bool.and_eq_true, Bool.and_eq_false_iff, Bool.not_eq_eq_eq_not, Bool.not_true, Bool.not_false, decide_eq_true_eq, decide_eq_false_iff_not, ge_iff_le, gt_iff_lt] at *); omega)))))) ?_
      refine E.W.call (.int .u8 (W.byt (W5.page ((p : Nat) : Int)).data.toList (((k : Nat) : Int)).toNat)) (fun w h => A.call_rd [A.blk g4 ([.pointer (some ⟨i2.1.1, 0, none⟩), .pointer (some ⟨i2.1.2, 0, none⟩)]), M.It m7 (M.cp W5 p) ([]), R.It i2.1.2 W5, A.facts (M.opF ad0 n0 q0)] (M.rdAs (A_Peek (m := i2.1.1) (V := W5) (xs := []) (((256 * p) + k)) (by first | omega | (first | assumption | ((try simp only [Bool.or_eq_false_iff, Bool.or_eq_true, Bool.and_eq_true, Bool.and_eq_false_iff, Bool.not_eq_eq_eq_not, Bool.not_true, Bool.not_false, decide_eq_true_eq, decide_eq_false_iff_not, ge_iff_le, gt_iff_lt] at *); omega)))) (v' := .int .u8 (W.byt (W5.page ((p : Nat) : Int)).data.toList (((k : Nat) : Int)).toNat)) (congrArg (Value.int .u8) (M.peek_page hd6 (by (first | assumption | ((try simp only [Bool.or_eq_false_iff, Bool.or_eq_true, Bool.and_eq_true, Bool.and_eq_false_iff, Bool.not_eq_eq_eq_not, Bool.not_true, Bool.not_false, decide_eq_true_eq, decide_eq_false_iff_not, ge_iff_le, gt_iff_lt] at *); omega))) (by (first | assumption | ((try simp only [Bool.or_eq_false_iff, Bool.or_eq_true, Bool.and_eq_true, Bool.and_eq_false_iff, Bool.not_eq_eq_eq_not, Bool.not_true, Bool.not_false, decide_eq_true_eq, decide_eq_false_iff_not, ge_iff_le, gt_iff_lt] at *); omega)))))) h (by kernel_rfl) (A.pm [2, 0, 1, 3, 4] (by kernel_rfl) (by kernel_rfl))) (fun w _ => by kernel_rfl) (by kernel_rfl) ?_
      refine E.W.val (.bool false) (by kernel_rfl) (fun w h => E.run_as (a := .bool ((W.byt (W5.page ((p : Nat) : Int)).data.toList (((k : Nat) : Int)).toNat) != (W.byt (W5.page ((p : Nat) : Int)).data.toList (((k : Nat) : Int)).toNat))) (by kernel_rfl) (congrArg Value.bool (bne_self_eq_false _))) ?_
      refine E.W.done (E.To.code ?_)
      refine E.C.condF (by kernel_rfl) (by kernel_rfl) ?_
      refine E.C.skip (E.P.nb (E.To.code ?_))
      refine E.C.region ?_
      refine E.G.op (.int .i64 ((k : Nat) : Int)) (fun w => by kernel_rfl) (by kernel_rfl) ?_
      refine E.G.val (.int .i64 ((k + 1 : Nat) : Int)) (by kernel_rfl) (fun w h => E.run_as (a := .int .i64 (IntKind.wrap .i64 (((k : Nat) : Int) + 1))) (by kernel_rfl) (congrArg (Value.int .i64) (by exact Nz.add64 (x := k) (y := 1) (by (first | assumption | ((try simp only [Bool.or_eq_false_iff, Bool.or_eq_true, Bool.and_eq_true, Bool.and_eq_false_iff, Bool.not_eq_eq_eq_not, Bool.not_true, Bool.not_false, decide_eq_true_eq, decide_eq_false_iff_not, ge_iff_le, gt_iff_lt] at *); omega)))))) ?_
      refine E.G.op (.int .i64 ((k + 1 : Nat) : Int)) (fun w => by kernel_rfl) (by kernel_rfl) ?_
      exact E.To.round (k + 1) (by (first | assumption | ((try simp only [Bool.or_eq_false_iff, Bool.or_eq_true, Bool.and_eq_true, Bool.and_eq_false_iff, Bool.not_eq_eq_eq_not, Bool.not_true, Bool.not_false, decide_eq_true_eq, decide_eq_false_iff_not, ge_iff_le, gt_iff_lt] at *); omega))) (by (first | assumption | ((try simp only [Bool.or_eq_false_iff, Bool.or_eq_true, Bool.and_eq_true, Bool.and_eq_false_iff, Bool.not_eq_eq_eq_not, Bool.not_true, Bool.not_false, decide_eq_true_eq, decide_eq_false_iff_not, ge_iff_le, gt_iff_lt] at *); omega))) ⟨by kernel_rfl, by kernel_rfl⟩ (List.Sublist.refl _) (fun _ h => h)
    · skip
      refine E.C.exit (E.P.et (E.P.et (E.P.eh (E.To.code ?_))))
      refine E.C.seq ?_
      refine E.C.region ?_
      refine E.G.op (.pointer (some ⟨m7, 0, none⟩)) (fun w => by kernel_rfl) (by kernel_rfl) ?_
      refine E.G.op (.int .i64 ((p : Nat) : Int)) (fun w => by kernel_rfl) (by kernel_rfl) ?_
      refine E.G.val (.int .i64 ((256 * p : Nat) : Int)) (by kernel_rfl) (fun w h => E.run_as (a := .int .i64 (IntKind.wrap .i64 (256 * ((p : Nat) : Int)))) (by kernel_rfl) (congrArg (Value.int .i64) (by exact Nz.mul64 (x := 256) (y := p) (by (first | assumption | ((try simp only [Bool.or_eq_false_iff, Bool.or_eq_true, Bool.and_eq_true, Bool.and_eq_false_iff, Bool.not_eq_eq_eq_not, Bool.not_true, Bool.not_false, decide_eq_true_eq, decide_eq_false_iff_not, ge_iff_le, gt_iff_lt] at *); omega)))))) ?_
      refine E.G.val (.int .u32 (((256 * p) : Nat) : Int)) (by kernel_rfl) (fun w h => E.run_as (a := .int .u32 (IntKind.wrap .u32 ((256 * p : Nat) : Int))) (by kernel_rfl) (congrArg (Value.int .u32) (by exact Nz.w32 (x := (256 * p)) (by (first | assumption | ((try simp only [Bool.or_eq_false_iff, Bool.or_eq_true, Bool.and_eq_true, Bool.and_eq_false_iff, Bool.not_eq_eq_eq_not, Bool.not_true, Bool.not_false, decide_eq_true_eq, decide_eq_false_iff_not, ge_iff_le, gt_iff_lt] at *); omega)))))) ?_
      refine E.G.op (.string (W5.page ((p : Nat) : Int))) (fun w => by kernel_rfl) (by kernel_rfl) ?_
      refine A.G.call (I := Unit) (D := fun _ => True) (V := fun _ => .tuple #[]) (q := fun _ => [M.It m7 (M.cp W5 (p + 1)) ([])]) [A.blk g4 ([.pointer (some ⟨i2.1.1, 0, none⟩), .pointer (some ⟨i2.1.2, 0, none⟩)]), M.It i2.1.1 W5 ([]), R.It i2.1.2 W5, A.facts (M.opF ad0 n0 q0)] (fun _ => [(g4, [.pointer (some ⟨i2.1.1, 0, none⟩), .pointer (some ⟨i2.1.2, 0, none⟩)])]) (fun _ => [M.It m7 (M.cp W5 (p + 1)) ([]), M.It i2.1.1 W5 ([]), R.It i2.1.2 W5, A.facts (M.opF ad0 n0 q0)]) (A_Poke ((256 * p)) (W5.page ((p : Nat) : Int)) (by first | omega | (first | assumption | ((try simp only [Bool.or_eq_false_iff, Bool.or_eq_true, Bool.and_eq_true, Bool.and_eq_false_iff, Bool.not_eq_eq_eq_not, Bool.not_true, Bool.not_false, decide_eq_true_eq, decide_eq_false_iff_not, ge_iff_le, gt_iff_lt] at *); omega))) (by rw [M.page_size (by assumption) (by (first | assumption | ((try simp only [Bool.or_eq_false_iff, Bool.or_eq_true, Bool.and_eq_true, Bool.and_eq_false_iff, Bool.not_eq_eq_eq_not, Bool.not_true, Bool.not_false, decide_eq_true_eq, decide_eq_false_iff_not, ge_iff_le, gt_iff_lt] at *); omega)))]; decide) (m := m7) (V := (M.cp W5 p)) (xs := [])) (by kernel_rfl) (A.pm [1, 0, 2, 3, 4] (by kernel_rfl) (by kernel_rfl)) (fun _ => A.pm [1, 0, 2, 3, 4] (by kernel_rfl) (by kernel_rfl)) (fun w _ => by kernel_rfl) (by kernel_rfl) (fun _ hd11 => ?_)
      refine E.To.code ?_
      refine E.C.seq ?_
      refine E.C.region ?_
      refine E.G.op (.pointer (some ⟨m7, 0, none⟩)) (fun w => by kernel_rfl) (by kernel_rfl) ?_
      refine E.G.op (.int .i64 ((p : Nat) : Int)) (fun w => by kernel_rfl) (by kernel_rfl) ?_
      refine E.G.call (.string (W5.page ((p : Nat) : Int))) (fun w h => A.call_rd [A.blk g4 ([.pointer (some ⟨i2.1.1, 0, none⟩), .pointer (some ⟨i2.1.2, 0, none⟩)]), M.It i2.1.1 W5 ([]), R.It i2.1.2 W5, A.facts (M.opF ad0 n0 q0)] (M.rdAs (A_Page (m := m7) (V := (M.cp W5 (p + 1))) (xs := []) ((p : Nat) : Int)) (v' := .string (W5.page ((p : Nat) : Int))) (congrArg Value.string (M.cp_page hd6 (by (first | assumption | ((try simp only [Bool.or_eq_false_iff, Bool.or_eq_true, Bool.and_eq_true, Bool.and_eq_false_iff, Bool.not_eq_eq_eq_not, Bool.not_true, Bool.not_false, decide_eq_true_eq, decide_eq_false_iff_not, ge_iff_le, gt_iff_lt] at *); omega)))))) h (by kernel_rfl) (A.pm [1, 0, 2, 3, 4] (by kernel_rfl) (by kernel_rfl))) (fun w _ => by kernel_rfl) (by kernel_rfl) ?_
      refine E.G.op (.string (W5.page ((p : Nat) : Int))) (fun w => by kernel_rfl) (by kernel_rfl) ?_
      refine E.G.val (.bool false) (by kernel_rfl) (fun w h => E.run_as (a := .bool (!((W5.page ((p : Nat) : Int)).toList == (W5.page ((p : Nat) : Int)).toList))) (by kernel_rfl) (congrArg Value.bool (by rw [beq_self_eq_true]; rfl))) ?_
      refine E.To.code ?_
      refine E.C.condF (by kernel_rfl) (by kernel_rfl) ?_
      refine E.C.skip (E.P.nb (E.To.code ?_))
      refine E.C.region ?_
      refine E.G.op (.int .i64 ((p : Nat) : Int)) (fun w => by kernel_rfl) (by kernel_rfl) ?_
      refine E.G.val (.int .i64 ((p + 1 : Nat) : Int)) (by kernel_rfl) (fun w h => E.run_as (a := .int .i64 (IntKind.wrap .i64 (((p : Nat) : Int) + 1))) (by kernel_rfl) (congrArg (Value.int .i64) (by exact Nz.add64 (x := p) (y := 1) (by (first | assumption | ((try simp only [Bool.or_eq_false_iff, Bool.or_eq_true, Bool.and_eq_true, Bool.and_eq_false_iff, Bool.not_eq_eq_eq_not, Bool.not_true, Bool.not_false, decide_eq_true_eq, decide_eq_false_iff_not, ge_iff_le, gt_iff_lt] at *); omega)))))) ?_
      refine E.G.op (.int .i64 ((p + 1 : Nat) : Int)) (fun w => by kernel_rfl) (by kernel_rfl) ?_
      exact E.To.round (p + 1) (by (first | assumption | ((try simp only [Bool.or_eq_false_iff, Bool.or_eq_true, Bool.and_eq_true, Bool.and_eq_false_iff, Bool.not_eq_eq_eq_not, Bool.not_true, Bool.not_false, decide_eq_true_eq, decide_eq_false_iff_not, ge_iff_le, gt_iff_lt] at *); omega))) (by (first | assumption | ((try simp only [Bool.or_eq_false_iff, Bool.or_eq_true, Bool.and_eq_true, Bool.and_eq_false_iff, Bool.not_eq_eq_eq_not, Bool.not_true, Bool.not_false, decide_eq_true_eq, decide_eq_false_iff_not, ge_iff_le, gt_iff_lt] at *); omega))) ⟨by kernel_rfl, by kernel_rfl⟩ (List.Sublist.refl _) (fun _ h => h)
  · skip
    refine E.C.exit (E.P.et (E.P.et (E.P.eh (E.To.code ?_))))
    refine E.C.seq ?_
    refine E.C.region ?_
    refine E.G.op (.pointer (some ⟨g4, 0, none⟩)) (fun w => by kernel_rfl) (by kernel_rfl) ?_
    refine E.G.val (.pointer (some ⟨i2.1.1, 0, none⟩)) (by kernel_rfl) (fun w h => E.run_load h 0 rfl rfl (by kernel_rfl)) ?_
    refine E.G.op (.int .i64 n) (fun w => by kernel_rfl) (by kernel_rfl) ?_
    refine E.G.call (.string (W5.page n)) (fun w h => A.call_rd [A.blk g4 ([.pointer (some ⟨i2.1.1, 0, none⟩), .pointer (some ⟨i2.1.2, 0, none⟩)]), M.It m7 (M.cp W5 p) ([]), R.It i2.1.2 W5, A.facts (M.opF ad0 n0 q0)] (A_Page (m := i2.1.1) (V := W5) (xs := []) n) h (by kernel_rfl) (A.pm [2, 0, 1, 3, 4] (by kernel_rfl) (by kernel_rfl))) (fun w _ => by kernel_rfl) (by kernel_rfl) ?_
    refine E.G.op (.string (W5.page n)) (fun w => by kernel_rfl) (by kernel_rfl) ?_
    refine E.To.code ?_
    refine E.C.weak [(1, .int .i64 n), (4, .bool false), (5, .bool true), (12, .string (W5.page n))] [] ⟨by kernel_rfl, by kernel_rfl⟩ (List.nil_sublist _) ?_
    refine E.C.seq ?_
    refine E.C.region ?_
    refine E.G.op (.bool true) (fun w => by kernel_rfl) (by kernel_rfl) ?_
    refine E.G.op (.bool true) (fun w => by kernel_rfl) (by kernel_rfl) ?_
    refine E.G.op (.int .i64 n) (fun w => by kernel_rfl) (by kernel_rfl) ?_
    refine E.G.op (.bool (decide (n ≥ 0))) (fun w => by kernel_rfl) (by kernel_rfl) ?_
    refine E.G.op (.bool (decide (n ≥ 0))) (fun w => by kernel_rfl) (by kernel_rfl) ?_
    refine E.G.cut 3 [(4, .bool false), (12, .string (W5.page n)), (71, .bool true), (77, .bool ((decide (n ≥ 0)) && (decide (n < 3))))] (A.X w oo aa [M.It m7 (M.cp W5 p) ([]), M.It i2.1.1 W5 ([]), R.It i2.1.2 W5, A.facts (M.opF ad0 n0 q0)]) [] ?_ ?_
    · generalize hc12 : (decide (n ≥ 0)) = b13
      cases b13
      · skip
        refine E.G.skip (by kernel_rfl) (by kernel_rfl) ?_
        refine E.G.skip (by kernel_rfl) (by kernel_rfl) ?_
        refine E.G.op (.bool false) (fun w => by kernel_rfl) (by kernel_rfl) ?_
        exact E.G.end_pst ⟨by kernel_rfl, by kernel_rfl⟩ (List.Sublist.refl _) (fun _ h => h)
      · skip
        refine E.G.op (.int .i64 n) (fun w => by kernel_rfl) (by kernel_rfl) ?_
        refine E.G.op (.bool (decide (n < 3))) (fun w => by kernel_rfl) (by kernel_rfl) ?_
        refine E.G.op (.bool (decide (n < 3))) (fun w => by kernel_rfl) (by kernel_rfl) ?_
        exact E.G.end_pst ⟨by kernel_rfl, by kernel_rfl⟩ (List.Sublist.refl _) (fun _ h => h)
    refine E.G.op (.string (W5.page n)) (fun w => by kernel_rfl) (by kernel_rfl) ?_
    refine E.G.op (.bool (!((W5.page n).toList == (⟨#[]⟩ : ByteArray).toList))) (fun w => by kernel_rfl) (by kernel_rfl) ?_
    refine E.G.val (.bool true) (by kernel_rfl) (fun w h => E.run_as (a := .bool (((decide (n ≥ 0)) && (decide (n < 3))) == (!((W5.page n).toList == (⟨#[]⟩ : ByteArray).toList)))) (by kernel_rfl) (congrArg Value.bool (M.page_any hd6 n))) ?_
    refine E.G.op (.bool true) (fun w => by kernel_rfl) (by kernel_rfl) ?_
    refine E.G.op (.bool true) (fun w => by kernel_rfl) (by kernel_rfl) ?_
    refine E.To.code ?_
    refine E.C.ret (E.To.body (fn := Try.f5) [.bool true] ?_ ?_)
    · exact ⟨⟨by kernel_rfl, by kernel_rfl⟩, trivial⟩
    · intro w h
      exact ⟨rfl, h.ch.bel (fun x hx => (A.no1 hh x hx).elim)⟩
end Go.Proofs.Ytdjjjikokfadiaa
