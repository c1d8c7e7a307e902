/- Walks: MemCoherent, printed by wip/eng. No condition but what is named. -/
import Derived.Test.YtdjjjikokfadiaaProg
import Derived.Test.YtdjjjikokfadiaaZNn
namespace Go.Proofs.Ytdjjjikokfadiaa
set_option linter.unusedVariables false
set_option linter.unusedSimpArgs false
open Go.RowKit
theorem M.trE {P : Program} {f : FuncId} {args : Array Value} {p : List A.It} {v u : Value} {m : Nat} {V W : M.V} {xs : List Value} (h : A.Tr P f args p (I := Unit) (fun _ => True) (fun _ => v) (fun _ => [M.It m V xs])) (e : V = W) (k : v = u) : A.Tr P f args p (I := Unit) (fun _ => True) (fun _ => u) (fun _ => [M.It m W xs]) := k ▸ e ▸ h
theorem M.setc_co {V : M.V} {n : Nat} (h : M.Is V n true) (k : Int) (s : ByteArray) : V.setc k s = V := if_neg fun e => by rw [h.2.1] at e; cases e.2.2
theorem M.sync_co {V : M.V} {n : Nat} (h : M.Is V n true) (k : Nat) : V.sync k = V := if_neg fun e => by rw [h.2.1] at e; cases e.2
theorem M.code_co {V : M.V} {n : Nat} (h : M.Is V n true) (a : Nat) : V.code a = V.peek a := by
  unfold M.V.code M.V.peek
  split
  · rename_i k; exact (h.2.2.co h.2.1 _ k _ (Nat.mod_lt _ (by decide))).1
  · rfl
theorem M.in3 {V : M.V} {c : Bool} (h : M.Is V 3 c) (a : Nat) : decide (a / 256 < V.n) = decide (((a : Nat) : Int) < 768) := by
  rw [h.1]; exact decide_eq_decide.2 (by omega)
theorem M.u32_s {k : Nat} (h : k + 1 < 4294967296) : IntKind.wrap .u32 (((k : Nat) : Int) + 1) = ((k + 1 : Nat) : Int) := by
  show (((k : Nat) : Int) + 1) % 4294967296 = _
  omega
theorem MemCoherent_rd (a : Nat) (ha : a < 4294967296) {ao0 : Option Addr} {ad0 : Addr} {n0 cap0 : Nat} {q0 : Nat → M.Op} (hao0 : 0 < n0 → ao0 = some ad0) : A.Rd Try.prog 11 #[.slice ao0 n0 cap0, .int .u32 ((a : Nat) : Int)] [A.facts (M.opF ad0 n0 q0)] (.bool true) := by
  intro w oo aa hh
  refine E.enter (n := 61) (S := oo) Try.func11 rfl rfl (by kernel_rfl) (A.start (L := []) hh) ?_
  refine E.C.seq ?_
  refine E.C.region ?_
  refine E.G.op (.bool false) (fun w => by kernel_rfl) (by kernel_rfl) ?_
  refine E.To.code ?_
  refine E.C.seq ?_
  refine E.C.region ?_
  refine E.G.call (.bool true) (fun w h => A.call_rd [A.facts (M.opF ad0 n0 q0)] (San) h (by kernel_rfl) (A.pm [0] (by kernel_rfl) (by kernel_rfl))) (fun w _ => by kernel_rfl) (by kernel_rfl) ?_
  refine E.G.op (.bool true) (fun w => by kernel_rfl) (by kernel_rfl) ?_
  refine E.To.code ?_
  refine E.C.seq ?_
  refine E.C.region ?_
  refine E.G.buildSlice [.int .u8 7, .int .u8 7, .int .u8 7] (by kernel_rfl) (by kernel_rfl) (fun g1 => ?_)
  refine A.G.call (I := (Nat × Nat) × M.V) (D := fun i2 => M.Is i2.2 3 true) (V := fun i2 => .tuple #[.agg #[.pointer (some ⟨i2.1.1, 0, none⟩), .pointer (some ⟨i2.1.2, 0, none⟩)], .bool true]) (q := fun i2 => [A.blk g1 ([.int .u8 7, .int .u8 7, .int .u8 7]), M.It i2.1.1 i2.2 ([]), R.It i2.1.2 i2.2]) [A.facts (M.opF ad0 n0 q0)] (fun i2 => [(g1, [.int .u8 7, .int .u8 7, .int .u8 7])]) (fun i2 => [M.It i2.1.1 i2.2 ([]), R.It i2.1.2 i2.2, A.facts (M.opF ad0 n0 q0)]) (Begin2 (it := (A.blk g1 ([.int .u8 7, .int .u8 7, .int .u8 7]))) (ao := (some ⟨g1, 0, none⟩)) (ad := ⟨g1, 0, none⟩) (n := 3) (cap := 3) (q := (fun i => [7, 7, 7].getD i 0)) 3 true 3 rfl (.inr (by decide)) (fun _ => rfl) (M.blk_hit fun i hi => by have : i = 0 ∨ i = 1 ∨ i = 2 := (by omega); rcases this with rfl | rfl | rfl <;> rfl)) (by kernel_rfl) (A.pm [0, 1] (by kernel_rfl) (by kernel_rfl)) (fun i2 => A.pm [0, 1, 2, 3] (by kernel_rfl) (by kernel_rfl)) (fun w _ => by kernel_rfl) (by kernel_rfl) (fun i2 hd3 => ?_)
  refine E.G.op (.tuple #[.agg #[.pointer (some ⟨i2.1.1, 0, none⟩), .pointer (some ⟨i2.1.2, 0, none⟩)], .bool true]) (fun w => by kernel_rfl) (by kernel_rfl) ?_
  refine E.G.op (.agg #[.pointer (some ⟨i2.1.1, 0, none⟩), .pointer (some ⟨i2.1.2, 0, none⟩)]) (fun w => by kernel_rfl) (by kernel_rfl) ?_
  refine E.G.op (.bool true) (fun w => by kernel_rfl) (by kernel_rfl) ?_
  refine E.G.new (fun g => .pointer (some ⟨g, 0, none⟩)) [.pointer none, .pointer none] 44 (fun w => by kernel_rfl) (by kernel_rfl) (fun g4 => ?_)
  refine E.G.store 0 [.pointer (some ⟨i2.1.1, 0, none⟩), .pointer (some ⟨i2.1.2, 0, none⟩)] rfl rfl (by kernel_rfl) (by kernel_rfl) ?_
  refine E.G.op (.bool true) (fun w => by kernel_rfl) (by kernel_rfl) ?_
  refine E.To.code ?_
  refine E.C.seq ?_
  refine E.C.seq ?_
  refine E.C.region ?_
  refine E.G.op (.bool true) (fun w => by kernel_rfl) (by kernel_rfl) ?_
  refine E.G.op (.bool false) (fun w => by kernel_rfl) (by kernel_rfl) ?_
  refine E.G.op (.bool false) (fun w => by kernel_rfl) (by kernel_rfl) ?_
  refine E.G.val (.agg #[.pointer (some ⟨i2.1.1, 0, none⟩), .pointer (some ⟨i2.1.2, 0, none⟩)]) (by kernel_rfl) (fun w h => E.run_load h 0 rfl rfl (by kernel_rfl)) ?_
  refine E.G.op (.slice ao0 n0 cap0) (fun w => by kernel_rfl) (by kernel_rfl) ?_
  refine A.G.call (I := M.V) (D := fun W5 => M.Is W5 3 true) (V := fun W5 => .bool true) (q := fun W5 => [A.facts (M.opF ad0 n0 q0), M.It i2.1.1 W5 ([]), R.It i2.1.2 W5]) [A.blk g4 ([.pointer (some ⟨i2.1.1, 0, none⟩), .pointer (some ⟨i2.1.2, 0, none⟩)]), A.blk g1 ([.int .u8 7, .int .u8 7, .int .u8 7])] (fun W5 => [(g4, [.pointer (some ⟨i2.1.1, 0, none⟩), .pointer (some ⟨i2.1.2, 0, none⟩)]), (g1, [.int .u8 7, .int .u8 7, .int .u8 7])]) (fun W5 => [M.It i2.1.1 W5 ([]), R.It i2.1.2 W5, A.facts (M.opF ad0 n0 q0)]) (Play2 (m := i2.1.1) (r := i2.1.2) (V := i2.2) (ao := ao0) (ad := ad0) (n := n0) (cap := cap0) (q := q0) hao0 hd3) (by kernel_rfl) (A.pm [4, 2, 3, 0, 1] (by kernel_rfl) (by kernel_rfl)) (fun W5 => A.pm [3, 4, 1, 2, 0] (by kernel_rfl) (by kernel_rfl)) (fun w _ => by kernel_rfl) (by kernel_rfl) (fun W5 hd6 => ?_)
  refine E.G.op (.bool false) (fun w => by kernel_rfl) (by kernel_rfl) ?_
  refine E.G.op (.bool false) (fun w => by kernel_rfl) (by kernel_rfl) ?_
  refine E.To.code ?_
  refine E.C.weak [(1, .int .u32 ((a : Nat) : Int)), (4, .bool false), (5, .bool true), (6, .pointer (some ⟨g4, 0, none⟩)), (24, .bool false)] [(g4, [.pointer (some ⟨i2.1.1, 0, none⟩), .pointer (some ⟨i2.1.2, 0, none⟩)])] ⟨by kernel_rfl, by kernel_rfl⟩ (List.Sublist.cons_cons _ (List.nil_sublist _)) ?_
  refine E.C.condF (by kernel_rfl) (by kernel_rfl) ?_
  refine E.C.skip (E.To.code ?_)
  refine E.C.seq ?_
  refine E.C.region ?_
  refine E.G.op (.pointer (some ⟨g4, 0, none⟩)) (fun w => by kernel_rfl) (by kernel_rfl) ?_
  refine E.G.val (.pointer (some ⟨i2.1.1, 0, none⟩)) (by kernel_rfl) (fun w h => E.run_load h 0 rfl rfl (by kernel_rfl)) ?_
  refine A.G.call (I := Nat) (D := fun m7 => True) (V := fun m7 => .pointer (some ⟨m7, 0, none⟩)) (q := fun m7 => [M.It i2.1.1 W5 ([]), M.It m7 W5 ([])]) [A.blk g4 ([.pointer (some ⟨i2.1.1, 0, none⟩), .pointer (some ⟨i2.1.2, 0, none⟩)]), R.It i2.1.2 W5, A.facts (M.opF ad0 n0 q0)] (fun m7 => [(g4, [.pointer (some ⟨i2.1.1, 0, none⟩), .pointer (some ⟨i2.1.2, 0, none⟩)])]) (fun m7 => [M.It m7 W5 ([]), M.It i2.1.1 W5 ([]), R.It i2.1.2 W5, A.facts (M.opF ad0 n0 q0)]) (A_Snapshot (m := i2.1.1) (V := W5) (xs := [])) (by kernel_rfl) (A.pm [1, 0, 2, 3] (by kernel_rfl) (by kernel_rfl)) (fun m7 => A.pm [2, 1, 0, 3, 4] (by kernel_rfl) (by kernel_rfl)) (fun w _ => by kernel_rfl) (by kernel_rfl) (fun m7 hd8 => ?_)
  refine E.G.op (.pointer (some ⟨m7, 0, none⟩)) (fun w => by kernel_rfl) (by kernel_rfl) ?_
  refine E.To.code ?_
  refine E.C.seq ?_
  refine E.C.region ?_
  refine E.G.op (.pointer (some ⟨g4, 0, none⟩)) (fun w => by kernel_rfl) (by kernel_rfl) ?_
  refine E.G.val (.pointer (some ⟨i2.1.1, 0, none⟩)) (by kernel_rfl) (fun w h => E.run_load h 0 rfl rfl (by kernel_rfl)) ?_
  refine A.G.call (I := Unit) (D := fun _ => True) (V := fun _ => .tuple #[]) (q := fun _ => [M.It i2.1.1 W5 ([])]) [A.blk g4 ([.pointer (some ⟨i2.1.1, 0, none⟩), .pointer (some ⟨i2.1.2, 0, none⟩)]), M.It m7 W5 ([]), R.It i2.1.2 W5, A.facts (M.opF ad0 n0 q0)] (fun _ => [(g4, [.pointer (some ⟨i2.1.1, 0, none⟩), .pointer (some ⟨i2.1.2, 0, none⟩)])]) (fun _ => [M.It m7 W5 ([]), M.It i2.1.1 W5 ([]), R.It i2.1.2 W5, A.facts (M.opF ad0 n0 q0)]) (M.trE (A_SetCode (m := i2.1.1) (V := W5) (xs := []) 1 (⟨#[99, 104, 97, 110, 103, 101, 100]⟩ : ByteArray)) (M.setc_co hd6 _ _) rfl) (by kernel_rfl) (A.pm [2, 0, 1, 3, 4] (by kernel_rfl) (by kernel_rfl)) (fun _ => A.pm [1, 2, 0, 3, 4] (by kernel_rfl) (by kernel_rfl)) (fun w _ => by kernel_rfl) (by kernel_rfl) (fun _ hd9 => ?_)
  refine E.To.code ?_
  refine E.C.seq ?_
  refine E.C.region ?_
  refine E.G.op (.pointer (some ⟨g4, 0, none⟩)) (fun w => by kernel_rfl) (by kernel_rfl) ?_
  refine E.G.val (.pointer (some ⟨i2.1.1, 0, none⟩)) (by kernel_rfl) (fun w h => E.run_load h 0 rfl rfl (by kernel_rfl)) ?_
  refine E.G.op (.int .u32 ((a : Nat) : Int)) (fun w => by kernel_rfl) (by kernel_rfl) ?_
  refine A.G.call (I := Unit) (D := fun _ => True) (V := fun _ => .bool (decide (((a : Nat) : Int) < 768))) (q := fun _ => [M.It i2.1.1 W5 ([])]) [A.blk g4 ([.pointer (some ⟨i2.1.1, 0, none⟩), .pointer (some ⟨i2.1.2, 0, none⟩)]), M.It m7 W5 ([]), R.It i2.1.2 W5, A.facts (M.opF ad0 n0 q0)] (fun _ => [(g4, [.pointer (some ⟨i2.1.1, 0, none⟩), .pointer (some ⟨i2.1.2, 0, none⟩)])]) (fun _ => [M.It m7 W5 ([]), M.It i2.1.1 W5 ([]), R.It i2.1.2 W5, A.facts (M.opF ad0 n0 q0)]) (M.trE (u := .bool (decide (((a : Nat) : Int) < 768))) (A_Sync (m := i2.1.1) (V := W5) (xs := []) a (by first | exact M.near_lt _ | (first | assumption | ((try simp only [Bool.or_eq_false_iff, Bool.or_eq_true, Bool.and_eq_true, Bool.and_eq_false_iff, Bool.not_eq_eq_eq_not, Bool.not_true, Bool.not_false, decide_eq_true_eq, decide_eq_false_iff_not, ge_iff_le, gt_iff_lt] at *); omega)))) (M.sync_co hd6 _) (congrArg Value.bool (M.in3 hd6 _))) (by kernel_rfl) (A.pm [2, 0, 1, 3, 4] (by kernel_rfl) (by kernel_rfl)) (fun _ => A.pm [1, 2, 0, 3, 4] (by kernel_rfl) (by kernel_rfl)) (fun w _ => by kernel_rfl) (by kernel_rfl) (fun _ hd10 => ?_)
  refine E.G.op (.bool (decide (((a : Nat) : Int) < 768))) (fun w => by kernel_rfl) (by kernel_rfl) ?_
  refine E.To.code ?_
  refine E.C.weak [(1, .int .u32 ((a : Nat) : Int)), (4, .bool false), (5, .bool true), (6, .pointer (some ⟨g4, 0, none⟩)), (8, .pointer (some ⟨m7, 0, none⟩)), (9, .bool (decide (((a : Nat) : Int) < 768)))] [(g4, [.pointer (some ⟨i2.1.1, 0, none⟩), .pointer (some ⟨i2.1.2, 0, none⟩)])] ⟨by kernel_rfl, by kernel_rfl⟩ (List.Sublist.refl _) ?_
  refine E.C.seq ?_
  refine E.C.seq ?_
  refine E.C.region ?_
  refine E.G.op (.int .u32 0) (fun w => by kernel_rfl) (by kernel_rfl) ?_
  refine E.To.code ?_
  refine E.C.block ?_
  refine E.C.loop (I := Nat) (fun k => 768 - k) (fun k => k ≤ 768) (fun k => [(1, .int .u32 ((a : Nat) : Int)), (4, .bool false), (5, .bool true), (6, .pointer (some ⟨g4, 0, none⟩)), (8, .pointer (some ⟨m7, 0, none⟩)), (9, .bool (decide (((a : Nat) : Int) < 768))), (10, .int .u32 ((k : Nat) : Int))]) (fun k => A.X w oo aa [M.It m7 W5 ([]), M.It i2.1.1 W5 ([]), R.It i2.1.2 W5, A.facts (M.opF ad0 n0 q0)]) (fun k => [(g4, [.pointer (some ⟨i2.1.1, 0, none⟩), .pointer (some ⟨i2.1.2, 0, none⟩)])]) 0 (Nat.zero_le _) ⟨by kernel_rfl, by kernel_rfl⟩ (List.Sublist.refl _) (fun _ h => h) (fun k hk1 => ?_)
  refine E.C.seq ?_
  refine E.C.seq ?_
  refine E.C.region ?_
  refine E.G.op (.int .u32 ((k : Nat) : Int)) (fun w => by kernel_rfl) (by kernel_rfl) ?_
  refine E.G.op (.bool (decide (((k : Nat) : Int) < 768))) (fun w => by kernel_rfl) (by kernel_rfl) ?_
  refine E.To.code ?_
  refine E.C.cond (decide (((k : Nat) : Int) < 768)) (by kernel_rfl) (by kernel_rfl) (fun hc11 => ?_) (fun hc11 => ?_)
  · skip
    refine E.C.skip (E.To.code ?_)
    refine E.C.seq ?_
    refine E.C.block ?_
    refine E.C.seq ?_
    refine E.C.quiet (by kernel_rfl) (by kernel_rfl) ?_
    refine E.W.op (.pointer (some ⟨g4, 0, none⟩)) (fun w => by kernel_rfl) (by kernel_rfl) ?_
    refine E.W.val (.pointer (some ⟨i2.1.1, 0, none⟩)) (by kernel_rfl) (fun w h => E.run_load h 0 rfl rfl (by kernel_rfl)) ?_
    refine E.W.op (.int .u32 ((k : Nat) : Int)) (fun w => by kernel_rfl) (by kernel_rfl) ?_
    refine E.W.call (.int .u8 (W5.peek k)) (fun w h => A.call_rd [A.blk g4 ([.pointer (some ⟨i2.1.1, 0, none⟩), .pointer (some ⟨i2.1.2, 0, none⟩)]), M.It m7 W5 ([]), R.It i2.1.2 W5, A.facts (M.opF ad0 n0 q0)] (M.rdAs (A_Code k (by first | exact M.near_lt _ | (first | assumption | ((try simp only [Bool.or_eq_false_iff, Bool.or_eq_true, Bool.and_eq_true, Bool.and_eq_false_iff, Bool.not_eq_eq_eq_not, Bool.not_true, Bool.not_false, decide_eq_true_eq, decide_eq_false_iff_not, ge_iff_le, gt_iff_lt] at *); omega))) (m := i2.1.1) (V := W5) (xs := [])) (v' := .int .u8 (W5.peek k)) (congrArg (Value.int .u8) (M.code_co hd6 _))) h (by kernel_rfl) (A.pm [2, 0, 1, 3, 4] (by kernel_rfl) (by kernel_rfl))) (fun w _ => by kernel_rfl) (by kernel_rfl) ?_
    refine E.W.op (.pointer (some ⟨g4, 0, none⟩)) (fun w => by kernel_rfl) (by kernel_rfl) ?_
    refine E.W.val (.pointer (some ⟨i2.1.1, 0, none⟩)) (by kernel_rfl) (fun w h => E.run_load h 0 rfl rfl (by kernel_rfl)) ?_
    refine E.W.op (.int .u32 ((k : Nat) : Int)) (fun w => by kernel_rfl) (by kernel_rfl) ?_
    refine E.W.call (.int .u8 (W5.peek k)) (fun w h => A.call_rd [A.blk g4 ([.pointer (some ⟨i2.1.1, 0, none⟩), .pointer (some ⟨i2.1.2, 0, none⟩)]), M.It m7 W5 ([]), R.It i2.1.2 W5, A.facts (M.opF ad0 n0 q0)] (A_Peek k (by first | exact M.near_lt _ | (first | assumption | ((try simp only [Bool.or_eq_false_iff, Bool.or_eq_true, Bool.and_eq_true, Bool.and_eq_false_iff, Bool.not_eq_eq_eq_not, Bool.not_true, Bool.not_false, decide_eq_true_eq, decide_eq_false_iff_not, ge_iff_le, gt_iff_lt] at *); omega))) (m := i2.1.1) (V := W5) (xs := [])) h (by kernel_rfl) (A.pm [2, 0, 1, 3, 4] (by kernel_rfl) (by kernel_rfl))) (fun w _ => by kernel_rfl) (by kernel_rfl) ?_
    refine E.W.val (.bool false) (by kernel_rfl) (fun w h => E.run_as (a := .bool ((W5.peek k) != (W5.peek k))) (by kernel_rfl) (congrArg Value.bool (bne_self_eq_false _))) ?_
    refine E.W.done (E.To.code ?_)
    refine E.C.condF (by kernel_rfl) (by kernel_rfl) ?_
    refine E.C.skip (E.P.nb (E.To.code ?_))
    refine E.C.region ?_
    refine E.G.op (.int .u32 ((k : Nat) : Int)) (fun w => by kernel_rfl) (by kernel_rfl) ?_
    refine E.G.val (.int .u32 ((k + 1 : Nat) : Int)) (by kernel_rfl) (fun w h => E.run_as (a := .int .u32 (IntKind.wrap .u32 (((k : Nat) : Int) + 1))) (by kernel_rfl) (congrArg (Value.int .u32) (M.u32_s (by (first | assumption | ((try simp only [Bool.or_eq_false_iff, Bool.or_eq_true, Bool.and_eq_true, Bool.and_eq_false_iff, Bool.not_eq_eq_eq_not, Bool.not_true, Bool.not_false, decide_eq_true_eq, decide_eq_false_iff_not, ge_iff_le, gt_iff_lt] at *); omega)))))) ?_
    refine E.G.op (.int .u32 ((k + 1 : Nat) : Int)) (fun w => by kernel_rfl) (by kernel_rfl) ?_
    exact E.To.round (k + 1) (by (first | assumption | ((try simp only [Bool.or_eq_false_iff, Bool.or_eq_true, Bool.and_eq_true, Bool.and_eq_false_iff, Bool.not_eq_eq_eq_not, Bool.not_true, Bool.not_false, decide_eq_true_eq, decide_eq_false_iff_not, ge_iff_le, gt_iff_lt] at *); omega))) (by (first | assumption | ((try simp only [Bool.or_eq_false_iff, Bool.or_eq_true, Bool.and_eq_true, Bool.and_eq_false_iff, Bool.not_eq_eq_eq_not, Bool.not_true, Bool.not_false, decide_eq_true_eq, decide_eq_false_iff_not, ge_iff_le, gt_iff_lt] at *); omega))) ⟨by kernel_rfl, by kernel_rfl⟩ (List.Sublist.refl _) (fun _ h => h)
  · skip
    refine E.C.exit (E.P.et (E.P.et (E.P.eh (E.To.code ?_))))
    refine E.C.seq ?_
    refine E.C.region ?_
    refine E.G.op (.bool true) (fun w => by kernel_rfl) (by kernel_rfl) ?_
    refine E.G.op (.bool true) (fun w => by kernel_rfl) (by kernel_rfl) ?_
    refine E.G.op (.pointer (some ⟨g4, 0, none⟩)) (fun w => by kernel_rfl) (by kernel_rfl) ?_
    refine E.G.val (.pointer (some ⟨i2.1.1, 0, none⟩)) (by kernel_rfl) (fun w h => E.run_load h 0 rfl rfl (by kernel_rfl)) ?_
    refine E.G.op (.pointer (some ⟨m7, 0, none⟩)) (fun w => by kernel_rfl) (by kernel_rfl) ?_
    refine E.G.call (.bool true) (fun w h => A.call_rd [A.blk g4 ([.pointer (some ⟨i2.1.1, 0, none⟩), .pointer (some ⟨i2.1.2, 0, none⟩)]), R.It i2.1.2 W5, A.facts (M.opF ad0 n0 q0)] (M.rdAs (A_Equal (m := i2.1.1) (n := m7) (V := W5) (W := W5) (xs := []) (ys := [])) (v' := .bool true) (congrArg Value.bool (M.eq_refl _))) h (by kernel_rfl) (A.pm [2, 1, 0, 3, 4] (by kernel_rfl) (by kernel_rfl))) (fun w _ => by kernel_rfl) (by kernel_rfl) ?_
    refine E.G.op (.bool true) (fun w => by kernel_rfl) (by kernel_rfl) ?_
    refine E.G.op (.bool true) (fun w => by kernel_rfl) (by kernel_rfl) ?_
    refine E.G.op (.bool (decide (((a : Nat) : Int) < 768))) (fun w => by kernel_rfl) (by kernel_rfl) ?_
    refine E.G.op (.int .u32 ((a : Nat) : Int)) (fun w => by kernel_rfl) (by kernel_rfl) ?_
    refine E.G.op (.bool (decide (((a : Nat) : Int) < 768))) (fun w => by kernel_rfl) (by kernel_rfl) ?_
    refine E.G.val (.bool true) (by kernel_rfl) (fun w h => E.run_as (a := .bool ((decide (((a : Nat) : Int) < 768)) == (decide (((a : Nat) : Int) < 768)))) (by kernel_rfl) (congrArg Value.bool (beq_self_eq_true _))) ?_
    refine E.G.op (.bool true) (fun w => by kernel_rfl) (by kernel_rfl) ?_
    refine E.G.op (.bool true) (fun w => by kernel_rfl) (by kernel_rfl) ?_
    refine E.To.code ?_
    refine E.C.weak [(4, .bool true)] [] ⟨by kernel_rfl, by kernel_rfl⟩ (List.nil_sublist _) ?_
    refine E.C.ret (E.To.body (fn := Try.f11) [.bool true] ?_ ?_)
    · exact ⟨⟨by kernel_rfl, by kernel_rfl⟩, trivial⟩
    · intro w h
      exact ⟨rfl, h.ch.bel (fun x hx => (A.no1 hh x hx).elim)⟩
theorem MemCoherent_law (a : Int) {ao0 : Option Addr} {ad0 : Addr} {n0 cap0 : Nat} {q0 : Nat → M.Op} (hao0 : 0 < n0 → ao0 = some ad0) {w : World} (f0 : ∀ a v, M.opF ad0 n0 q0 a v → w.cell? a = some v) (ha : 0 ≤ a ∧ a < 4294967296) : Calls Try.prog 11 #[.slice ao0 n0 cap0, .int .u32 a] w fun e w' => e = .returned (.bool true) ∧ Bel w w' := by
  obtain ⟨b, rfl⟩ := Int.eq_ofNat_of_zero_le ha.1
  exact MemCoherent_rd b (by omega) hao0 w _ _ (A.facts_has f0)
end Go.Proofs.Ytdjjjikokfadiaa
