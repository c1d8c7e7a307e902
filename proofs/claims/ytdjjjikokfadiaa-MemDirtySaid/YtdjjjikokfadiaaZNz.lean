/- Walks: MemDirty, printed by wip/eng. No condition but what is named. -/
import Derived.Test.YtdjjjikokfadiaaProg
import Derived.Test.YtdjjjikokfadiaaZNy
namespace Go.Proofs.Ytdjjjikokfadiaa
set_option linter.unusedVariables false
set_option linter.unusedSimpArgs false
open Go.RowKit
theorem MemDirty_rd (coh : Bool) {ao0 : Option Addr} {ad0 : Addr} {n0 cap0 : Nat} {q0 : Nat → M.Op} (hao0 : 0 < n0 → ao0 = some ad0) {ao1 : Option Addr} {ad1 : Addr} {n1 cap1 : Nat} {q1 : Nat → M.Op} (hao1 : 0 < n1 → ao1 = some ad1) : A.Rd Try.prog 10 #[.slice ao0 n0 cap0, .slice ao1 n1 cap1, .bool coh] [A.facts (M.opF ad0 n0 q0), A.facts (M.opF ad1 n1 q1)] (.bool true) := by
  intro w oo aa hh
  refine E.enter (n := 96) (S := oo) Try.func10 rfl rfl (by kernel_rfl) (A.start (L := []) hh) ?_
  refine E.C.seq ?_
  refine E.C.region ?_
  refine E.G.op (.bool false) (fun w => by kernel_rfl) (by kernel_rfl) ?_
  refine E.To.code ?_
  refine E.C.seq ?_
  refine E.C.region ?_
  refine E.G.call (.bool true) (fun w h => A.call_rd [A.facts (M.opF ad0 n0 q0), A.facts (M.opF ad1 n1 q1)] (San) h (by kernel_rfl) (A.pm [0, 1] (by kernel_rfl) (by kernel_rfl))) (fun w _ => by kernel_rfl) (by kernel_rfl) ?_
  refine E.G.op (.bool true) (fun w => by kernel_rfl) (by kernel_rfl) ?_
  refine E.To.code ?_
  refine E.C.seq ?_
  refine E.C.region ?_
  refine E.G.op (.bool coh) (fun w => by kernel_rfl) (by kernel_rfl) ?_
  refine E.G.buildSlice [.int .u8 7, .int .u8 7, .int .u8 7] (by kernel_rfl) (by kernel_rfl) (fun g1 => ?_)
  refine A.G.call (I := (Nat × Nat) × M.V) (D := fun i2 => M.Is i2.2 3 coh) (V := fun i2 => .tuple #[.agg #[.pointer (some ⟨i2.1.1, 0, none⟩), .pointer (some ⟨i2.1.2, 0, none⟩)], .bool true]) (q := fun i2 => [A.blk g1 ([.int .u8 7, .int .u8 7, .int .u8 7]), M.It i2.1.1 i2.2 ([]), R.It i2.1.2 i2.2]) [A.facts (M.opF ad0 n0 q0), A.facts (M.opF ad1 n1 q1)] (fun i2 => [(g1, [.int .u8 7, .int .u8 7, .int .u8 7])]) (fun i2 => [M.It i2.1.1 i2.2 ([]), R.It i2.1.2 i2.2, A.facts (M.opF ad0 n0 q0), A.facts (M.opF ad1 n1 q1)]) (Begin2 (it := (A.blk g1 ([.int .u8 7, .int .u8 7, .int .u8 7]))) (ao := (some ⟨g1, 0, none⟩)) (ad := ⟨g1, 0, none⟩) (n := 3) (cap := 3) (q := (fun i => [7, 7, 7].getD i 0)) 3 coh 3 rfl (.inr (by decide)) (fun _ => rfl) (M.blk_hit fun i hi => by have : i = 0 ∨ i = 1 ∨ i = 2 := (by omega); rcases this with rfl | rfl | rfl <;> rfl)) (by kernel_rfl) (A.pm [0, 1, 2] (by kernel_rfl) (by kernel_rfl)) (fun i2 => A.pm [0, 1, 2, 3, 4] (by kernel_rfl) (by kernel_rfl)) (fun w _ => by kernel_rfl) (by kernel_rfl) (fun i2 hd3 => ?_)
  refine E.G.op (.tuple #[.agg #[.pointer (some ⟨i2.1.1, 0, none⟩), .pointer (some ⟨i2.1.2, 0, none⟩)], .bool true]) (fun w => by kernel_rfl) (by kernel_rfl) ?_
  refine E.G.op (.agg #[.pointer (some ⟨i2.1.1, 0, none⟩), .pointer (some ⟨i2.1.2, 0, none⟩)]) (fun w => by kernel_rfl) (by kernel_rfl) ?_
  refine E.G.op (.bool true) (fun w => by kernel_rfl) (by kernel_rfl) ?_
  refine E.G.new (fun g => .pointer (some ⟨g, 0, none⟩)) [.pointer none, .pointer none] 44 (fun w => by kernel_rfl) (by kernel_rfl) (fun g4 => ?_)
  refine E.G.store 0 [.pointer (some ⟨i2.1.1, 0, none⟩), .pointer (some ⟨i2.1.2, 0, none⟩)] rfl rfl (by kernel_rfl) (by kernel_rfl) ?_
  refine E.G.op (.bool true) (fun w => by kernel_rfl) (by kernel_rfl) ?_
  refine E.To.code ?_
  refine E.C.weak [(0, .slice ao0 n0 cap0), (1, .slice ao1 n1 cap1), (6, .bool false), (7, .bool true), (8, .pointer (some ⟨g4, 0, none⟩)), (9, .bool true)] [(g4, [.pointer (some ⟨i2.1.1, 0, none⟩), .pointer (some ⟨i2.1.2, 0, none⟩)])] ⟨by kernel_rfl, by kernel_rfl⟩ (List.Sublist.cons_cons _ (List.nil_sublist _)) ?_
  refine E.C.seq ?_
  refine E.C.seq ?_
  refine E.C.region ?_
  refine E.G.op (.bool true) (fun w => by kernel_rfl) (by kernel_rfl) ?_
  refine E.G.op (.bool false) (fun w => by kernel_rfl) (by kernel_rfl) ?_
  refine E.G.op (.bool false) (fun w => by kernel_rfl) (by kernel_rfl) ?_
  refine E.G.val (.agg #[.pointer (some ⟨i2.1.1, 0, none⟩), .pointer (some ⟨i2.1.2, 0, none⟩)]) (by kernel_rfl) (fun w h => E.run_load h 0 rfl rfl (by kernel_rfl)) ?_
  refine E.G.op (.slice ao0 n0 cap0) (fun w => by kernel_rfl) (by kernel_rfl) ?_
  refine A.G.call (I := M.V) (D := fun W5 => M.Is W5 3 coh) (V := fun W5 => .bool true) (q := fun W5 => [A.facts (M.opF ad0 n0 q0), M.It i2.1.1 W5 ([]), R.It i2.1.2 W5]) [A.blk g4 ([.pointer (some ⟨i2.1.1, 0, none⟩), .pointer (some ⟨i2.1.2, 0, none⟩)]), A.facts (M.opF ad1 n1 q1)] (fun W5 => [(g4, [.pointer (some ⟨i2.1.1, 0, none⟩), .pointer (some ⟨i2.1.2, 0, none⟩)])]) (fun W5 => [M.It i2.1.1 W5 ([]), R.It i2.1.2 W5, A.facts (M.opF ad0 n0 q0), A.facts (M.opF ad1 n1 q1)]) (Play2 (m := i2.1.1) (r := i2.1.2) (V := i2.2) (ao := ao0) (ad := ad0) (n := n0) (cap := cap0) (q := q0) hao0 hd3) (by kernel_rfl) (A.pm [3, 1, 2, 0, 4] (by kernel_rfl) (by kernel_rfl)) (fun W5 => A.pm [3, 1, 2, 0, 4] (by kernel_rfl) (by kernel_rfl)) (fun w _ => by kernel_rfl) (by kernel_rfl) (fun W5 hd6 => ?_)
  refine E.G.op (.bool false) (fun w => by kernel_rfl) (by kernel_rfl) ?_
  refine E.G.op (.bool false) (fun w => by kernel_rfl) (by kernel_rfl) ?_
  refine E.To.code ?_
  refine E.C.weak [(1, .slice ao1 n1 cap1), (6, .bool false), (7, .bool true), (8, .pointer (some ⟨g4, 0, none⟩)), (28, .bool false)] [(g4, [.pointer (some ⟨i2.1.1, 0, none⟩), .pointer (some ⟨i2.1.2, 0, none⟩)])] ⟨by kernel_rfl, by kernel_rfl⟩ (List.Sublist.refl _) ?_
  refine E.C.condF (by kernel_rfl) (by kernel_rfl) ?_
  refine E.C.skip (E.To.code ?_)
  refine E.C.seq ?_
  refine E.C.region ?_
  refine E.G.op (.pointer (some ⟨g4, 0, none⟩)) (fun w => by kernel_rfl) (by kernel_rfl) ?_
  refine E.G.val (.pointer (some ⟨i2.1.1, 0, none⟩)) (by kernel_rfl) (fun w h => E.run_load h 0 rfl rfl (by kernel_rfl)) ?_
  have hV1 : M.Is (W5.clean) 3 coh := M.Is.clean hd6
  refine A.G.call (I := Unit) (D := fun _ => True) (V := fun _ => .tuple #[]) (q := fun _ => [M.It i2.1.1 (W5.clean) ([])]) [A.blk g4 ([.pointer (some ⟨i2.1.1, 0, none⟩), .pointer (some ⟨i2.1.2, 0, none⟩)]), R.It i2.1.2 W5, A.facts (M.opF ad0 n0 q0), A.facts (M.opF ad1 n1 q1)] (fun _ => [(g4, [.pointer (some ⟨i2.1.1, 0, none⟩), .pointer (some ⟨i2.1.2, 0, none⟩)])]) (fun _ => [M.It i2.1.1 (W5.clean) ([]), R.It i2.1.2 W5, A.facts (M.opF ad0 n0 q0), A.facts (M.opF ad1 n1 q1)]) (A_Clean (m := i2.1.1) (V := W5) (xs := [])) (by kernel_rfl) (A.pm [1, 0, 2, 3, 4] (by kernel_rfl) (by kernel_rfl)) (fun _ => A.pm [1, 0, 2, 3, 4] (by kernel_rfl) (by kernel_rfl)) (fun w _ => by kernel_rfl) (by kernel_rfl) (fun _ hd7 => ?_)
  refine E.To.code ?_
  refine E.C.seq ?_
  refine E.C.region ?_
  refine E.G.op (.pointer (some ⟨g4, 1, none⟩)) (fun w => by kernel_rfl) (by kernel_rfl) ?_
  refine E.G.val (.pointer (some ⟨i2.1.2, 0, none⟩)) (by kernel_rfl) (fun w h => E.run_load h 0 rfl rfl (by kernel_rfl)) ?_
  refine A.G.call (I := Unit) (D := fun _ => True) (V := fun _ => .tuple #[]) (q := fun _ => [R.It i2.1.2 (W5.clean)]) [A.blk g4 ([.pointer (some ⟨i2.1.1, 0, none⟩), .pointer (some ⟨i2.1.2, 0, none⟩)]), M.It i2.1.1 (W5.clean) ([]), A.facts (M.opF ad0 n0 q0), A.facts (M.opF ad1 n1 q1)] (fun _ => [(g4, [.pointer (some ⟨i2.1.1, 0, none⟩), .pointer (some ⟨i2.1.2, 0, none⟩)])]) (fun _ => [M.It i2.1.1 (W5.clean) ([]), R.It i2.1.2 (W5.clean), A.facts (M.opF ad0 n0 q0), A.facts (M.opF ad1 n1 q1)]) (B_Clean (r := i2.1.2) (V := W5)) (by kernel_rfl) (A.pm [2, 0, 1, 3, 4] (by kernel_rfl) (by kernel_rfl)) (fun _ => A.pm [1, 2, 0, 3, 4] (by kernel_rfl) (by kernel_rfl)) (fun w _ => by kernel_rfl) (by kernel_rfl) (fun _ hd8 => ?_)
  refine E.To.code ?_
  refine E.C.seq ?_
  refine E.C.region ?_
  refine E.G.op (.pointer (some ⟨g4, 0, none⟩)) (fun w => by kernel_rfl) (by kernel_rfl) ?_
  refine E.G.val (.pointer (some ⟨i2.1.1, 0, none⟩)) (by kernel_rfl) (fun w h => E.run_load h 0 rfl rfl (by kernel_rfl)) ?_
  refine A.G.call (I := Nat) (D := fun m9 => True) (V := fun m9 => .pointer (some ⟨m9, 0, none⟩)) (q := fun m9 => [M.It i2.1.1 (W5.clean) ([]), M.It m9 (W5.clean) ([])]) [A.blk g4 ([.pointer (some ⟨i2.1.1, 0, none⟩), .pointer (some ⟨i2.1.2, 0, none⟩)]), R.It i2.1.2 (W5.clean), A.facts (M.opF ad0 n0 q0), A.facts (M.opF ad1 n1 q1)] (fun m9 => [(g4, [.pointer (some ⟨i2.1.1, 0, none⟩), .pointer (some ⟨i2.1.2, 0, none⟩)])]) (fun m9 => [M.It m9 (W5.clean) ([]), M.It i2.1.1 (W5.clean) ([]), R.It i2.1.2 (W5.clean), A.facts (M.opF ad0 n0 q0), A.facts (M.opF ad1 n1 q1)]) (A_Snapshot (m := i2.1.1) (V := (W5.clean)) (xs := [])) (by kernel_rfl) (A.pm [1, 0, 2, 3, 4] (by kernel_rfl) (by kernel_rfl)) (fun m9 => A.pm [2, 1, 0, 3, 4, 5] (by kernel_rfl) (by kernel_rfl)) (fun w _ => by kernel_rfl) (by kernel_rfl) (fun m9 hd10 => ?_)
  refine E.G.op (.pointer (some ⟨m9, 0, none⟩)) (fun w => by kernel_rfl) (by kernel_rfl) ?_
  refine E.To.code ?_
  refine E.C.weak [(1, .slice ao1 n1 cap1), (6, .bool false), (7, .bool true), (8, .pointer (some ⟨g4, 0, none⟩)), (10, .pointer (some ⟨m9, 0, none⟩))] [(g4, [.pointer (some ⟨i2.1.1, 0, none⟩), .pointer (some ⟨i2.1.2, 0, none⟩)])] ⟨by kernel_rfl, by kernel_rfl⟩ (List.Sublist.refl _) ?_
  refine E.C.seq ?_
  refine E.C.seq ?_
  refine E.C.region ?_
  refine E.G.op (.pointer (some ⟨g4, 0, none⟩)) (fun w => by kernel_rfl) (by kernel_rfl) ?_
  refine E.G.val (.pointer (some ⟨i2.1.1, 0, none⟩)) (by kernel_rfl) (fun w h => E.run_load h 0 rfl rfl (by kernel_rfl)) ?_
  refine A.G.call (I := Option Addr × Nat) (D := fun i11 => True) (V := fun i11 => .slice i11.1 ((W5.clean).dirty.length) i11.2) (q := fun i11 => [M.It i2.1.1 (W5.clean) ([]), A.vec .i64 i11.1 i11.2 ((W5.clean).dirty)]) [A.blk g4 ([.pointer (some ⟨i2.1.1, 0, none⟩), .pointer (some ⟨i2.1.2, 0, none⟩)]), M.It m9 (W5.clean) ([]), R.It i2.1.2 (W5.clean), A.facts (M.opF ad0 n0 q0), A.facts (M.opF ad1 n1 q1)] (fun i11 => [(g4, [.pointer (some ⟨i2.1.1, 0, none⟩), .pointer (some ⟨i2.1.2, 0, none⟩)])]) (fun i11 => [A.vec .i64 i11.1 i11.2 ((W5.clean).dirty), M.It m9 (W5.clean) ([]), M.It i2.1.1 (W5.clean) ([]), R.It i2.1.2 (W5.clean), A.facts (M.opF ad0 n0 q0), A.facts (M.opF ad1 n1 q1)]) (A_Dirty (m := i2.1.1) (V := (W5.clean)) (xs := [])) (by kernel_rfl) (A.pm [2, 0, 1, 3, 4, 5] (by kernel_rfl) (by kernel_rfl)) (fun i11 => A.pm [2, 1, 3, 0, 4, 5, 6] (by kernel_rfl) (by kernel_rfl)) (fun w _ => by kernel_rfl) (by kernel_rfl) (fun i11 hd12 => ?_)
  refine E.G.val (.int .i64 0) (by kernel_rfl) (fun w h => E.run_as (a := .int .i64 (((W5.clean).dirty.length : Nat) : Int)) (by kernel_rfl) (M.len0 (M.clean_dirty _))) ?_
  refine E.G.op (.bool false) (fun w => by kernel_rfl) (by kernel_rfl) ?_
  refine E.G.op (.bool false) (fun w => by kernel_rfl) (by kernel_rfl) ?_
  refine E.G.val (.agg #[.pointer (some ⟨i2.1.1, 0, none⟩), .pointer (some ⟨i2.1.2, 0, none⟩)]) (by kernel_rfl) (fun w h => E.run_load h 0 rfl rfl (by kernel_rfl)) ?_
  refine E.G.op (.slice ao1 n1 cap1) (fun w => by kernel_rfl) (by kernel_rfl) ?_
  have hV2 : M.Is ((W5.clean).plays q1 (Nat.min n1 40)) 3 coh := hV1.plays _ _
  refine A.G.call (I := Unit) (D := fun _ => True) (V := fun _ => .bool true) (q := fun _ => [A.facts (M.opF ad1 n1 q1), M.It i2.1.1 ((W5.clean).plays q1 (Nat.min n1 40)) ([]), R.It i2.1.2 ((W5.clean).plays q1 (Nat.min n1 40))]) [A.blk g4 ([.pointer (some ⟨i2.1.1, 0, none⟩), .pointer (some ⟨i2.1.2, 0, none⟩)]), A.vec .i64 i11.1 i11.2 ((W5.clean).dirty), M.It m9 (W5.clean) ([]), A.facts (M.opF ad0 n0 q0)] (fun _ => [(g4, [.pointer (some ⟨i2.1.1, 0, none⟩), .pointer (some ⟨i2.1.2, 0, none⟩)])]) (fun _ => [A.vec .i64 i11.1 i11.2 ((W5.clean).dirty), M.It m9 (W5.clean) ([]), M.It i2.1.1 ((W5.clean).plays q1 (Nat.min n1 40)) ([]), R.It i2.1.2 ((W5.clean).plays q1 (Nat.min n1 40)), A.facts (M.opF ad0 n0 q0), A.facts (M.opF ad1 n1 q1)]) (Play (m := i2.1.1) (r := i2.1.2) (V := (W5.clean)) (ao := ao1) (ad := ad1) (n := n1) (cap := cap1) (q := q1) hao1) (by kernel_rfl) (A.pm [6, 3, 4, 0, 1, 2, 5] (by kernel_rfl) (by kernel_rfl)) (fun _ => A.pm [3, 4, 5, 1, 2, 6, 0] (by kernel_rfl) (by kernel_rfl)) (fun w _ => by kernel_rfl) (by kernel_rfl) (fun _ hd13 => ?_)
  refine E.G.op (.bool false) (fun w => by kernel_rfl) (by kernel_rfl) ?_
  refine E.G.op (.bool false) (fun w => by kernel_rfl) (by kernel_rfl) ?_
  refine E.G.op (.bool false) (fun w => by kernel_rfl) (by kernel_rfl) ?_
  refine E.G.val (.agg #[.pointer (some ⟨i2.1.1, 0, none⟩), .pointer (some ⟨i2.1.2, 0, none⟩)]) (by kernel_rfl) (fun w h => E.run_load h 0 rfl rfl (by kernel_rfl)) ?_
  refine A.G.call (I := Unit) (D := fun _ => True) (V := fun _ => .bool true) (q := fun _ => [M.It i2.1.1 ((W5.clean).plays q1 (Nat.min n1 40)) ([]), R.It i2.1.2 ((W5.clean).plays q1 (Nat.min n1 40))]) [A.blk g4 ([.pointer (some ⟨i2.1.1, 0, none⟩), .pointer (some ⟨i2.1.2, 0, none⟩)]), A.vec .i64 i11.1 i11.2 ((W5.clean).dirty), M.It m9 (W5.clean) ([]), A.facts (M.opF ad0 n0 q0), A.facts (M.opF ad1 n1 q1)] (fun _ => [(g4, [.pointer (some ⟨i2.1.1, 0, none⟩), .pointer (some ⟨i2.1.2, 0, none⟩)])]) (fun _ => [A.vec .i64 i11.1 i11.2 ((W5.clean).dirty), M.It m9 (W5.clean) ([]), M.It i2.1.1 ((W5.clean).plays q1 (Nat.min n1 40)) ([]), R.It i2.1.2 ((W5.clean).plays q1 (Nat.min n1 40)), A.facts (M.opF ad0 n0 q0), A.facts (M.opF ad1 n1 q1)]) (Same (m := i2.1.1) (r := i2.1.2) (V := ((W5.clean).plays q1 (Nat.min n1 40)))) (by kernel_rfl) (A.pm [3, 4, 0, 1, 2, 5, 6] (by kernel_rfl) (by kernel_rfl)) (fun _ => A.pm [2, 3, 4, 0, 1, 5, 6] (by kernel_rfl) (by kernel_rfl)) (fun w _ => by kernel_rfl) (by kernel_rfl) (fun _ hd14 => ?_)
  refine E.G.op (.bool false) (fun w => by kernel_rfl) (by kernel_rfl) ?_
  refine E.G.op (.bool false) (fun w => by kernel_rfl) (by kernel_rfl) ?_
  refine E.To.code ?_
  refine E.C.weak [(6, .bool false), (7, .bool true), (8, .pointer (some ⟨g4, 0, none⟩)), (10, .pointer (some ⟨m9, 0, none⟩)), (53, .bool false)] [(g4, [.pointer (some ⟨i2.1.1, 0, none⟩), .pointer (some ⟨i2.1.2, 0, none⟩)])] ⟨by kernel_rfl, by kernel_rfl⟩ (List.Sublist.refl _) ?_
  refine E.C.condF (by kernel_rfl) (by kernel_rfl) ?_
  refine E.C.skip (E.To.code ?_)
  refine E.C.seq ?_
  refine E.C.seq ?_
  refine E.C.region ?_
  refine E.G.op (.int .i64 0) (fun w => by kernel_rfl) (by kernel_rfl) ?_
  refine E.To.code ?_
  refine E.C.block ?_
  refine E.C.loop (I := Nat) (fun p => 3 - p) (fun p => p ≤ 3) (fun p => [(6, .bool false), (7, .bool true), (8, .pointer (some ⟨g4, 0, none⟩)), (10, .pointer (some ⟨m9, 0, none⟩)), (11, .int .i64 ((p : Nat) : Int))]) (fun p => A.X w oo aa [A.vec .i64 i11.1 i11.2 ((W5.clean).dirty), M.It m9 (W5.clean) ([]), M.It i2.1.1 (M.rs (W5.clean) ((W5.clean).plays q1 (Nat.min n1 40)) p) ([]), R.It i2.1.2 ((W5.clean).plays q1 (Nat.min n1 40)), A.facts (M.opF ad0 n0 q0), A.facts (M.opF ad1 n1 q1)]) (fun p => [(g4, [.pointer (some ⟨i2.1.1, 0, none⟩), .pointer (some ⟨i2.1.2, 0, none⟩)])]) 0 (Nat.zero_le _) ⟨by kernel_rfl, by kernel_rfl⟩ (List.Sublist.refl _) (fun _ h => h) (fun p hk1 => ?_)
  refine E.C.seq ?_
  refine E.C.seq ?_
  refine E.C.region ?_
  refine E.G.op (.int .i64 ((p : Nat) : Int)) (fun w => by kernel_rfl) (by kernel_rfl) ?_
  refine E.G.op (.bool (decide (((p : Nat) : Int) < 3))) (fun w => by kernel_rfl) (by kernel_rfl) ?_
  refine E.To.code ?_
  refine E.C.cond (decide (((p : Nat) : Int) < 3)) (by kernel_rfl) (by kernel_rfl) (fun hc15 => ?_) (fun hc15 => ?_)
  · skip
    refine E.C.skip (E.To.code ?_)
    refine E.C.seq ?_
    refine E.C.block ?_
    refine E.C.seq ?_
    refine E.C.held (A.Y [A.blk g4 ([.pointer (some ⟨i2.1.1, 0, none⟩), .pointer (some ⟨i2.1.2, 0, none⟩)]), A.facts (M.opF ad0 n0 q0), A.facts (M.opF ad1 n1 q1)]) (by kernel_rfl) ?_
    refine E.H.take 0 (.pointer (some ⟨g4, 0, none⟩)) rfl (by kernel_rfl) (by kernel_rfl) (by kernel_rfl) (fun _ _ _ h => h) (fun w h => A.hpY (p := [A.blk g4 ([.pointer (some ⟨i2.1.1, 0, none⟩), .pointer (some ⟨i2.1.2, 0, none⟩)]), A.facts (M.opF ad0 n0 q0), A.facts (M.opF ad1 n1 q1)]) (r := [A.vec .i64 i11.1 i11.2 ((W5.clean).dirty), M.It m9 (W5.clean) ([]), M.It i2.1.1 (M.rs (W5.clean) ((W5.clean).plays q1 (Nat.min n1 40)) p) ([]), R.It i2.1.2 ((W5.clean).plays q1 (Nat.min n1 40))]) h (by kernel_rfl) (A.pm [0, 5, 6, 1, 2, 3, 4] (by kernel_rfl) (by kernel_rfl))) (.inl ⟨by kernel_rfl, by kernel_rfl, fun w h => by kernel_rfl⟩) (by kernel_rfl) ?_
    refine E.H.take 1 (.pointer (some ⟨i2.1.1, 0, none⟩)) rfl (by kernel_rfl) (by kernel_rfl) (by kernel_rfl) (fun _ _ _ h => h) (fun w h => A.hpY (p := [A.blk g4 ([.pointer (some ⟨i2.1.1, 0, none⟩), .pointer (some ⟨i2.1.2, 0, none⟩)]), A.facts (M.opF ad0 n0 q0), A.facts (M.opF ad1 n1 q1)]) (r := [A.vec .i64 i11.1 i11.2 ((W5.clean).dirty), M.It m9 (W5.clean) ([]), M.It i2.1.1 (M.rs (W5.clean) ((W5.clean).plays q1 (Nat.min n1 40)) p) ([]), R.It i2.1.2 ((W5.clean).plays q1 (Nat.min n1 40))]) h (by kernel_rfl) (A.pm [0, 5, 6, 1, 2, 3, 4] (by kernel_rfl) (by kernel_rfl))) (.inl ⟨by kernel_rfl, by kernel_rfl, fun w h => A.Y.bld h (k := 0) (j := 0) rfl (by kernel_rfl) (by kernel_rfl)⟩) (by kernel_rfl) ?_
    refine E.H.take 2 (.int .i64 ((p : Nat) : Int)) rfl (by kernel_rfl) (by kernel_rfl) (by kernel_rfl) (fun _ _ _ h => h) (fun w h => A.hpY (p := [A.blk g4 ([.pointer (some ⟨i2.1.1, 0, none⟩), .pointer (some ⟨i2.1.2, 0, none⟩)]), A.facts (M.opF ad0 n0 q0), A.facts (M.opF ad1 n1 q1)]) (r := [A.vec .i64 i11.1 i11.2 ((W5.clean).dirty), M.It m9 (W5.clean) ([]), M.It i2.1.1 (M.rs (W5.clean) ((W5.clean).plays q1 (Nat.min n1 40)) p) ([]), R.It i2.1.2 ((W5.clean).plays q1 (Nat.min n1 40))]) h (by kernel_rfl) (A.pm [0, 5, 6, 1, 2, 3, 4] (by kernel_rfl) (by kernel_rfl))) (.inl ⟨by kernel_rfl, by kernel_rfl, fun w h => by kernel_rfl⟩) (by kernel_rfl) ?_
    refine E.H.take 3 (.int .i64 ((256 * p : Nat) : Int)) rfl (by kernel_rfl) (by kernel_rfl) (by kernel_rfl) (fun _ _ _ h => h) (fun w h => A.hpY (p := [A.blk g4 ([.pointer (some ⟨i2.1.1, 0, none⟩), .pointer (some ⟨i2.1.2, 0, none⟩)]), A.facts (M.opF ad0 n0 q0), A.facts (M.opF ad1 n1 q1)]) (r := [A.vec .i64 i11.1 i11.2 ((W5.clean).dirty), M.It m9 (W5.clean) ([]), M.It i2.1.1 (M.rs (W5.clean) ((W5.clean).plays q1 (Nat.min n1 40)) p) ([]), R.It i2.1.2 ((W5.clean).plays q1 (Nat.min n1 40))]) h (by kernel_rfl) (A.pm [0, 5, 6, 1, 2, 3, 4] (by kernel_rfl) (by kernel_rfl))) (.inl ⟨by kernel_rfl, by kernel_rfl, fun w h => E.run_as (a := .int .i64 (IntKind.wrap .i64 (256 * ((p : Nat) : Int)))) (by kernel_rfl) (congrArg (Value.int .i64) (by exact Nz.mul64 (x := 256) (y := p) (by (first | assumption | ((try simp only [Bool.or_eq_false_iff, Bool.or_eq_true, Bool.and_eq_true, Bool.and_eq_false_iff, Bool.not_eq_eq_eq_not, Bool.not_true, Bool.not_false, decide_eq_true_eq, decide_eq_false_iff_not, ge_iff_le, gt_iff_lt] at *); omega)))))⟩) (by kernel_rfl) ?_
    refine E.H.take 4 (.int .u32 (((256 * p) : Nat) : Int)) rfl (by kernel_rfl) (by kernel_rfl) (by kernel_rfl) (fun _ _ _ h => h) (fun w h => A.hpY (p := [A.blk g4 ([.pointer (some ⟨i2.1.1, 0, none⟩), .pointer (some ⟨i2.1.2, 0, none⟩)]), A.facts (M.opF ad0 n0 q0), A.facts (M.opF ad1 n1 q1)]) (r := [A.vec .i64 i11.1 i11.2 ((W5.clean).dirty), M.It m9 (W5.clean) ([]), M.It i2.1.1 (M.rs (W5.clean) ((W5.clean).plays q1 (Nat.min n1 40)) p) ([]), R.It i2.1.2 ((W5.clean).plays q1 (Nat.min n1 40))]) h (by kernel_rfl) (A.pm [0, 5, 6, 1, 2, 3, 4] (by kernel_rfl) (by kernel_rfl))) (.inl ⟨by kernel_rfl, by kernel_rfl, fun w h => E.run_as (a := .int .u32 (IntKind.wrap .u32 ((256 * p : Nat) : Int))) (by kernel_rfl) (congrArg (Value.int .u32) (by exact Nz.w32 (x := (256 * p)) (by (first | assumption | ((try simp only [Bool.or_eq_false_iff, Bool.or_eq_true, Bool.and_eq_true, Bool.and_eq_false_iff, Bool.not_eq_eq_eq_not, Bool.not_true, Bool.not_false, decide_eq_true_eq, decide_eq_false_iff_not, ge_iff_le, gt_iff_lt] at *); omega)))))⟩) (by kernel_rfl) ?_
    refine E.H.take 5 (.pointer (some ⟨m9, 0, none⟩)) rfl (by kernel_rfl) (by kernel_rfl) (by kernel_rfl) (fun _ _ _ h => h) (fun w h => A.hpY (p := [A.blk g4 ([.pointer (some ⟨i2.1.1, 0, none⟩), .pointer (some ⟨i2.1.2, 0, none⟩)]), A.facts (M.opF ad0 n0 q0), A.facts (M.opF ad1 n1 q1)]) (r := [A.vec .i64 i11.1 i11.2 ((W5.clean).dirty), M.It m9 (W5.clean) ([]), M.It i2.1.1 (M.rs (W5.clean) ((W5.clean).plays q1 (Nat.min n1 40)) p) ([]), R.It i2.1.2 ((W5.clean).plays q1 (Nat.min n1 40))]) h (by kernel_rfl) (A.pm [0, 5, 6, 1, 2, 3, 4] (by kernel_rfl) (by kernel_rfl))) (.inl ⟨by kernel_rfl, by kernel_rfl, fun w h => by kernel_rfl⟩) (by kernel_rfl) ?_
    refine E.H.take 6 (.int .i64 ((p : Nat) : Int)) rfl (by kernel_rfl) (by kernel_rfl) (by kernel_rfl) (fun _ _ _ h => h) (fun w h => A.hpY (p := [A.blk g4 ([.pointer (some ⟨i2.1.1, 0, none⟩), .pointer (some ⟨i2.1.2, 0, none⟩)]), A.facts (M.opF ad0 n0 q0), A.facts (M.opF ad1 n1 q1)]) (r := [A.vec .i64 i11.1 i11.2 ((W5.clean).dirty), M.It m9 (W5.clean) ([]), M.It i2.1.1 (M.rs (W5.clean) ((W5.clean).plays q1 (Nat.min n1 40)) p) ([]), R.It i2.1.2 ((W5.clean).plays q1 (Nat.min n1 40))]) h (by kernel_rfl) (A.pm [0, 5, 6, 1, 2, 3, 4] (by kernel_rfl) (by kernel_rfl))) (.inl ⟨by kernel_rfl, by kernel_rfl, fun w h => by kernel_rfl⟩) (by kernel_rfl) ?_
    refine E.H.all [7] (by kernel_rfl) (by simp) (List.forall_mem_cons.2 ⟨⟨_, rfl, ?_⟩, fun _ h => (List.not_mem_nil h).elim⟩)
    · skip
      refine E.G.call (.string ((W5.clean).page ((p : Nat) : Int))) (fun w h => A.call_rd [A.blk g4 ([.pointer (some ⟨i2.1.1, 0, none⟩), .pointer (some ⟨i2.1.2, 0, none⟩)]), A.vec .i64 i11.1 i11.2 ((W5.clean).dirty), M.It i2.1.1 (M.rs (W5.clean) ((W5.clean).plays q1 (Nat.min n1 40)) p) ([]), R.It i2.1.2 ((W5.clean).plays q1 (Nat.min n1 40)), A.facts (M.opF ad0 n0 q0), A.facts (M.opF ad1 n1 q1)] (A_Page (m := m9) (V := (W5.clean)) (xs := []) ((p : Nat) : Int)) h (by kernel_rfl) (A.pm [2, 0, 1, 3, 4, 5, 6] (by kernel_rfl) (by kernel_rfl))) (fun w _ => by kernel_rfl) (by kernel_rfl) ?_
      refine E.H.back (fun w h => A.hpY (p := [A.blk g4 ([.pointer (some ⟨i2.1.1, 0, none⟩), .pointer (some ⟨i2.1.2, 0, none⟩)]), A.facts (M.opF ad0 n0 q0), A.facts (M.opF ad1 n1 q1)]) (r := [A.vec .i64 i11.1 i11.2 ((W5.clean).dirty), M.It m9 (W5.clean) ([]), M.It i2.1.1 (M.rs (W5.clean) ((W5.clean).plays q1 (Nat.min n1 40)) p) ([]), R.It i2.1.2 ((W5.clean).plays q1 (Nat.min n1 40))]) h (by kernel_rfl) (A.pm [0, 5, 6, 1, 2, 3, 4] (by kernel_rfl) (by kernel_rfl))) ?_
      refine E.H.all [8] (by kernel_rfl) (by simp) (List.forall_mem_cons.2 ⟨⟨_, rfl, ?_⟩, fun _ h => (List.not_mem_nil h).elim⟩)
      · skip
        refine A.G.call (I := Unit) (D := fun _ => True) (V := fun _ => .tuple #[]) (q := fun _ => [M.It i2.1.1 ((M.rs (W5.clean) ((W5.clean).plays q1 (Nat.min n1 40)) p).poke (256 * p) ((W5.clean).page ((p : Nat) : Int)) ((W5.clean).page ((p : Nat) : Int)).size) ([])]) [A.blk g4 ([.pointer (some ⟨i2.1.1, 0, none⟩), .pointer (some ⟨i2.1.2, 0, none⟩)]), A.vec .i64 i11.1 i11.2 ((W5.clean).dirty), M.It m9 (W5.clean) ([]), R.It i2.1.2 ((W5.clean).plays q1 (Nat.min n1 40)), A.facts (M.opF ad0 n0 q0), A.facts (M.opF ad1 n1 q1)] (fun _ => [(g4, [.pointer (some ⟨i2.1.1, 0, none⟩), .pointer (some ⟨i2.1.2, 0, none⟩)])]) (fun _ => [A.vec .i64 i11.1 i11.2 ((W5.clean).dirty), M.It m9 (W5.clean) ([]), M.It i2.1.1 ((M.rs (W5.clean) ((W5.clean).plays q1 (Nat.min n1 40)) p).poke (256 * p) ((W5.clean).page ((p : Nat) : Int)) ((W5.clean).page ((p : Nat) : Int)).size) ([]), R.It i2.1.2 ((W5.clean).plays q1 (Nat.min n1 40)), A.facts (M.opF ad0 n0 q0), A.facts (M.opF ad1 n1 q1)]) (A_Poke (m := i2.1.1) (V := (M.rs (W5.clean) ((W5.clean).plays q1 (Nat.min n1 40)) p)) (xs := []) (256 * p) ((W5.clean).page ((p : Nat) : Int)) (by (first | assumption | ((try simp only [Bool.or_eq_false_iff, Bool.or_eq_true, Bool.and_eq_true, Bool.and_eq_false_iff, Bool.not_eq_eq_eq_not, Bool.not_true, Bool.not_false, decide_eq_true_eq, decide_eq_false_iff_not, ge_iff_le, gt_iff_lt] at *); omega))) (by rw [M.page_size hV1 (by (first | assumption | ((try simp only [Bool.or_eq_false_iff, Bool.or_eq_true, Bool.and_eq_true, Bool.and_eq_false_iff, Bool.not_eq_eq_eq_not, Bool.not_true, Bool.not_false, decide_eq_true_eq, decide_eq_false_iff_not, ge_iff_le, gt_iff_lt] at *); omega)))]; decide)) (by kernel_rfl) (A.pm [3, 0, 1, 2, 4, 5, 6] (by kernel_rfl) (by kernel_rfl)) (fun _ => A.pm [1, 2, 3, 0, 4, 5, 6] (by kernel_rfl) (by kernel_rfl)) (fun w _ => by kernel_rfl) (by kernel_rfl) (fun _ hd16 => ?_)
        refine E.H.back (fun w h => A.hpY (p := [A.blk g4 ([.pointer (some ⟨i2.1.1, 0, none⟩), .pointer (some ⟨i2.1.2, 0, none⟩)]), A.facts (M.opF ad0 n0 q0), A.facts (M.opF ad1 n1 q1)]) (r := [A.vec .i64 i11.1 i11.2 ((W5.clean).dirty), M.It m9 (W5.clean) ([]), M.It i2.1.1 ((M.rs (W5.clean) ((W5.clean).plays q1 (Nat.min n1 40)) p).poke (256 * p) ((W5.clean).page ((p : Nat) : Int)) ((W5.clean).page ((p : Nat) : Int)).size) ([]), R.It i2.1.2 ((W5.clean).plays q1 (Nat.min n1 40))]) h (by kernel_rfl) (A.pm [0, 5, 6, 1, 2, 3, 4] (by kernel_rfl) (by kernel_rfl))) ?_
        refine E.H.done (by kernel_rfl) ?_
        refine E.To.code ?_
        refine E.C.seq ?_
        refine E.C.region ?_
        refine A.G.make (e := 5) (kd := .u8) (lk := .i64) 256 1 (by kernel_rfl) (by kernel_rfl) (by kernel_rfl) (by (first | assumption | ((try simp only [Bool.or_eq_false_iff, Bool.or_eq_true, Bool.and_eq_true, Bool.and_eq_false_iff, Bool.not_eq_eq_eq_not, Bool.not_true, Bool.not_false, decide_eq_true_eq, decide_eq_false_iff_not, ge_iff_le, gt_iff_lt] at *); omega))) (by (first | assumption | ((try simp only [Bool.or_eq_false_iff, Bool.or_eq_true, Bool.and_eq_true, Bool.and_eq_false_iff, Bool.not_eq_eq_eq_not, Bool.not_true, Bool.not_false, decide_eq_true_eq, decide_eq_false_iff_not, ge_iff_le, gt_iff_lt] at *); omega))) (by kernel_rfl) (fun ao17 => ?_)
        refine E.G.op (.slice ao17 256 256) (fun w => by kernel_rfl) (by kernel_rfl) ?_
        refine E.To.code ?_
        refine E.C.seq ?_
        refine E.C.seq ?_
        refine E.C.region ?_
        refine E.G.op (.int .i64 0) (fun w => by kernel_rfl) (by kernel_rfl) ?_
        refine E.To.code ?_
        refine E.C.block ?_
        refine E.C.loop (I := Nat) (fun k => 256 - k) (fun k => k ≤ 256) (fun k => [(6, .bool false), (7, .bool true), (8, .pointer (some ⟨g4, 0, none⟩)), (10, .pointer (some ⟨m9, 0, none⟩)), (11, .int .i64 ((p : Nat) : Int)), (12, .slice ao17 256 256), (13, .int .i64 ((k : Nat) : Int)), (54, .int .i64 ((p : Nat) : Int)), (55, .bool (decide (((p : Nat) : Int) < 3))), (58, .pointer (some ⟨g4, 0, none⟩)), (59, .pointer (some ⟨i2.1.1, 0, none⟩)), (60, .int .i64 ((p : Nat) : Int)), (61, .int .i64 ((256 * p : Nat) : Int)), (62, .int .u32 (((256 * p) : Nat) : Int)), (63, .pointer (some ⟨m9, 0, none⟩)), (64, .int .i64 ((p : Nat) : Int)), (65, .string ((W5.clean).page ((p : Nat) : Int))), (67, .slice ao17 256 256)]) (fun k => A.X w oo aa [A.vec .u8 ao17 256 (M.cl (W5.clean) p k), A.vec .i64 i11.1 i11.2 ((W5.clean).dirty), M.It m9 (W5.clean) ([]), M.It i2.1.1 ((M.rs (W5.clean) ((W5.clean).plays q1 (Nat.min n1 40)) p).poke (256 * p) ((W5.clean).page ((p : Nat) : Int)) ((W5.clean).page ((p : Nat) : Int)).size) ([]), R.It i2.1.2 ((W5.clean).plays q1 (Nat.min n1 40)), A.facts (M.opF ad0 n0 q0), A.facts (M.opF ad1 n1 q1)]) (fun k => [(g4, [.pointer (some ⟨i2.1.1, 0, none⟩), .pointer (some ⟨i2.1.2, 0, none⟩)])]) 0 (Nat.zero_le _) ⟨by kernel_rfl, by kernel_rfl⟩ (List.Sublist.refl _) (fun _ h => h) (fun k hk1 => ?_)
        refine E.C.seq ?_
        refine E.C.seq ?_
        refine E.C.region ?_
        refine E.G.op (.int .i64 ((k : Nat) : Int)) (fun w => by kernel_rfl) (by kernel_rfl) ?_
        refine E.G.op (.bool (decide (((k : Nat) : Int) < 256))) (fun w => by kernel_rfl) (by kernel_rfl) ?_
        refine E.To.code ?_
        refine E.C.cond (decide (((k : Nat) : Int) < 256)) (by kernel_rfl) (by kernel_rfl) (fun hc18 => ?_) (fun hc18 => ?_)
        · skip
          refine E.C.skip (E.To.code ?_)
          refine E.C.seq ?_
          refine E.C.block ?_
          refine E.C.region ?_
          refine E.G.op (.slice ao17 256 256) (fun w => by kernel_rfl) (by kernel_rfl) ?_
          refine E.G.op (.int .i64 ((k : Nat) : Int)) (fun w => by kernel_rfl) (by kernel_rfl) ?_
          refine E.G.op (.pointer (some ⟨m9, 0, none⟩)) (fun w => by kernel_rfl) (by kernel_rfl) ?_
          refine E.G.op (.int .i64 ((p : Nat) : Int)) (fun w => by kernel_rfl) (by kernel_rfl) ?_
          refine E.G.val (.int .i64 ((256 * p : Nat) : Int)) (by kernel_rfl) (fun w h => E.run_as (a := .int .i64 (IntKind.wrap .i64 (256 * ((p : Nat) : Int)))) (by kernel_rfl) (congrArg (Value.int .i64) (by exact Nz.mul64 (x := 256) (y := p) (by (first | assumption | ((try simp only [Bool.or_eq_false_iff, Bool.or_eq_true, Bool.and_eq_true, Bool.and_eq_false_iff, Bool.not_eq_eq_eq_not, Bool.not_true, Bool.not_false, decide_eq_true_eq, decide_eq_false_iff_not, ge_iff_le, gt_iff_lt] at *); omega)))))) ?_
          refine E.G.op (.int .i64 ((k : Nat) : Int)) (fun w => by kernel_rfl) (by kernel_rfl) ?_
          refine E.G.val (.int .i64 (((256 * p) + k : Nat) : Int)) (by kernel_rfl) (fun w h => E.run_as (a := .int .i64 (IntKind.wrap .i64 (((256 * p : Nat) : Int) + ((k : Nat) : Int)))) (by kernel_rfl) (congrArg (Value.int .i64) (by exact Nz.add64 (x := (256 * p)) (y := k) (by (first | assumption | ((try simp only [Bool.or_eq_false_iff, Bool.or_eq_true, Bool.and_eq_true, Bool.and_eq_false_iff, Bool.not_eq_eq_eq_not, Bool.not_true, Bool.not_false, decide_eq_true_eq, decide_eq_false_iff_not, ge_iff_le, gt_iff_lt] at *); omega)))))) ?_
          refine E.G.val (.int .u32 ((((256 * p) + k) : Nat) : Int)) (by kernel_rfl) (fun w h => E.run_as (a := .int .u32 (IntKind.wrap .u32 (((256 * p) + k : Nat) : Int))) (by kernel_rfl) (congrArg (Value.int .u32) (by exact Nz.w32 (x := ((256 * p) + k)) (by (first | assumption | ((try simp only [Bool.or_eq_false_iff, Bool.or_eq_true, Bool.and_eq_true, Bool.and_eq_false_iff, Bool.not_eq_eq_eq_not, Bool.not_true, Bool.not_false, decide_eq_true_eq, decide_eq_false_iff_not, ge_iff_le, gt_iff_lt] at *); omega)))))) ?_
          refine E.G.call (.int .u8 ((W5.clean).code ((256 * p) + k))) (fun w h => A.call_rd [A.blk g4 ([.pointer (some ⟨i2.1.1, 0, none⟩), .pointer (some ⟨i2.1.2, 0, none⟩)]), A.vec .u8 ao17 256 (M.cl (W5.clean) p k), A.vec .i64 i11.1 i11.2 ((W5.clean).dirty), M.It i2.1.1 ((M.rs (W5.clean) ((W5.clean).plays q1 (Nat.min n1 40)) p).poke (256 * p) ((W5.clean).page ((p : Nat) : Int)) ((W5.clean).page ((p : Nat) : Int)).size) ([]), R.It i2.1.2 ((W5.clean).plays q1 (Nat.min n1 40)), A.facts (M.opF ad0 n0 q0), A.facts (M.opF ad1 n1 q1)] (A_Code (m := m9) (V := (W5.clean)) (xs := []) ((256 * p) + k) (by (first | assumption | ((try simp only [Bool.or_eq_false_iff, Bool.or_eq_true, Bool.and_eq_true, Bool.and_eq_false_iff, Bool.not_eq_eq_eq_not, Bool.not_true, Bool.not_false, decide_eq_true_eq, decide_eq_false_iff_not, ge_iff_le, gt_iff_lt] at *); omega)))) h (by kernel_rfl) (A.pm [3, 0, 1, 2, 4, 5, 6, 7] (by kernel_rfl) (by kernel_rfl))) (fun w _ => by kernel_rfl) (by kernel_rfl) ?_
          refine E.G.val (.pointer (some ⟨(A.bk ao17), k, none⟩)) (by kernel_rfl) (fun w h => A.Y.idx (e := 5) (ik := .i64) (i := k) (len := 256) (c2 := 256) (A.X.y h.x) (k := 0) rfl (by kernel_rfl) (by kernel_rfl) (by kernel_rfl) (by kernel_rfl) (by (first | assumption | ((try simp only [Bool.or_eq_false_iff, Bool.or_eq_true, Bool.and_eq_true, Bool.and_eq_false_iff, Bool.not_eq_eq_eq_not, Bool.not_true, Bool.not_false, decide_eq_true_eq, decide_eq_false_iff_not, ge_iff_le, gt_iff_lt] at *); omega))) (by rw [M.cl_len]; (first | assumption | ((try simp only [Bool.or_eq_false_iff, Bool.or_eq_true, Bool.and_eq_true, Bool.and_eq_false_iff, Bool.not_eq_eq_eq_not, Bool.not_true, Bool.not_false, decide_eq_true_eq, decide_eq_false_iff_not, ge_iff_le, gt_iff_lt] at *); omega)))) ?_
          refine A.G.vst (kd := .u8) (ao := ao17) (cap := 256) (i := k) (xs := (M.cl (W5.clean) p k)) (v := ((W5.clean).code ((256 * p) + k))) 0 rfl (by kernel_rfl) (by kernel_rfl) (by kernel_rfl) (by rw [M.cl_len]; (first | assumption | ((try simp only [Bool.or_eq_false_iff, Bool.or_eq_true, Bool.and_eq_true, Bool.and_eq_false_iff, Bool.not_eq_eq_eq_not, Bool.not_true, Bool.not_false, decide_eq_true_eq, decide_eq_false_iff_not, ge_iff_le, gt_iff_lt] at *); omega))) (by kernel_rfl) (by kernel_rfl) ?_
          refine E.P.nb (E.To.code ?_)
          refine E.C.region ?_
          refine E.G.op (.int .i64 ((k : Nat) : Int)) (fun w => by kernel_rfl) (by kernel_rfl) ?_
          refine E.G.val (.int .i64 ((k + 1 : Nat) : Int)) (by kernel_rfl) (fun w h => E.run_as (a := .int .i64 (IntKind.wrap .i64 (((k : Nat) : Int) + 1))) (by kernel_rfl) (congrArg (Value.int .i64) (by exact Nz.add64 (x := k) (y := 1) (by (first | assumption | ((try simp only [Bool.or_eq_false_iff, Bool.or_eq_true, Bool.and_eq_true, Bool.and_eq_false_iff, Bool.not_eq_eq_eq_not, Bool.not_true, Bool.not_false, decide_eq_true_eq, decide_eq_false_iff_not, ge_iff_le, gt_iff_lt] at *); omega)))))) ?_
          refine E.G.op (.int .i64 ((k + 1 : Nat) : Int)) (fun w => by kernel_rfl) (by kernel_rfl) ?_
          exact E.To.round (k + 1) (by (first | assumption | ((try simp only [Bool.or_eq_false_iff, Bool.or_eq_true, Bool.and_eq_true, Bool.and_eq_false_iff, Bool.not_eq_eq_eq_not, Bool.not_true, Bool.not_false, decide_eq_true_eq, decide_eq_false_iff_not, ge_iff_le, gt_iff_lt] at *); omega))) (by (first | assumption | ((try simp only [Bool.or_eq_false_iff, Bool.or_eq_true, Bool.and_eq_true, Bool.and_eq_false_iff, Bool.not_eq_eq_eq_not, Bool.not_true, Bool.not_false, decide_eq_true_eq, decide_eq_false_iff_not, ge_iff_le, gt_iff_lt] at *); omega))) ⟨by kernel_rfl, by kernel_rfl⟩ (List.Sublist.refl _) (fun _ h => h)
        · skip
          refine E.C.exit (E.P.et (E.P.et (E.P.eh (E.To.code ?_))))
          refine E.C.region ?_
          refine E.G.op (.pointer (some ⟨g4, 0, none⟩)) (fun w => by kernel_rfl) (by kernel_rfl) ?_
          refine E.G.val (.pointer (some ⟨i2.1.1, 0, none⟩)) (by kernel_rfl) (fun w h => E.run_load h 0 rfl rfl (by kernel_rfl)) ?_
          refine E.G.op (.int .i64 ((p : Nat) : Int)) (fun w => by kernel_rfl) (by kernel_rfl) ?_
          refine E.G.op (.slice ao17 256 256) (fun w => by kernel_rfl) (by kernel_rfl) ?_
          refine E.G.val (.string (M.cs (W5.clean) p)) (by kernel_rfl) (fun w h => E.run_as (a := .string (strOfNums (M.cl (W5.clean) p k))) (A.Y.strN (e := 5) (n := 256) (c2 := 256) (A.X.y h.x) (k := 0) rfl (by kernel_rfl) (by kernel_rfl) (by kernel_rfl) (by kernel_rfl) (M.cl_len _ _ _) (by decide)) (congrArg Value.string (M.cs_eq hk1 (by assumption)))) ?_
          refine A.G.call (I := Unit) (D := fun _ => True) (V := fun _ => .tuple #[]) (q := fun _ => [M.It i2.1.1 (((M.rs (W5.clean) ((W5.clean).plays q1 (Nat.min n1 40)) p).poke (256 * p) ((W5.clean).page ((p : Nat) : Int)) ((W5.clean).page ((p : Nat) : Int)).size).setc ((p : Nat) : Int) (M.cs (W5.clean) p)) ([])]) [A.blk g4 ([.pointer (some ⟨i2.1.1, 0, none⟩), .pointer (some ⟨i2.1.2, 0, none⟩)]), A.vec .u8 ao17 256 (M.cl (W5.clean) p k), A.vec .i64 i11.1 i11.2 ((W5.clean).dirty), M.It m9 (W5.clean) ([]), R.It i2.1.2 ((W5.clean).plays q1 (Nat.min n1 40)), A.facts (M.opF ad0 n0 q0), A.facts (M.opF ad1 n1 q1)] (fun _ => [(g4, [.pointer (some ⟨i2.1.1, 0, none⟩), .pointer (some ⟨i2.1.2, 0, none⟩)])]) (fun _ => [A.vec .u8 ao17 256 (M.cl (W5.clean) p k), A.vec .i64 i11.1 i11.2 ((W5.clean).dirty), M.It m9 (W5.clean) ([]), M.It i2.1.1 (((M.rs (W5.clean) ((W5.clean).plays q1 (Nat.min n1 40)) p).poke (256 * p) ((W5.clean).page ((p : Nat) : Int)) ((W5.clean).page ((p : Nat) : Int)).size).setc ((p : Nat) : Int) (M.cs (W5.clean) p)) ([]), R.It i2.1.2 ((W5.clean).plays q1 (Nat.min n1 40)), A.facts (M.opF ad0 n0 q0), A.facts (M.opF ad1 n1 q1)]) (A_SetCode ((p : Nat) : Int) (M.cs (W5.clean) p) (m := i2.1.1) (V := ((M.rs (W5.clean) ((W5.clean).plays q1 (Nat.min n1 40)) p).poke (256 * p) ((W5.clean).page ((p : Nat) : Int)) ((W5.clean).page ((p : Nat) : Int)).size)) (xs := [])) (by kernel_rfl) (A.pm [4, 0, 1, 2, 3, 5, 6, 7] (by kernel_rfl) (by kernel_rfl)) (fun _ => A.pm [1, 2, 3, 4, 0, 5, 6, 7] (by kernel_rfl) (by kernel_rfl)) (fun w _ => by kernel_rfl) (by kernel_rfl) (fun _ hd19 => ?_)
          refine E.P.nb (E.To.code ?_)
          refine A.C.drop [A.vec .i64 i11.1 i11.2 ((W5.clean).dirty), M.It m9 (W5.clean) ([]), M.It i2.1.1 (((M.rs (W5.clean) ((W5.clean).plays q1 (Nat.min n1 40)) p).poke (256 * p) ((W5.clean).page ((p : Nat) : Int)) ((W5.clean).page ((p : Nat) : Int)).size).setc ((p : Nat) : Int) (M.cs (W5.clean) p)) ([]), R.It i2.1.2 ((W5.clean).plays q1 (Nat.min n1 40)), A.facts (M.opF ad0 n0 q0), A.facts (M.opF ad1 n1 q1)] [A.vec .u8 ao17 256 (M.cl (W5.clean) p k)] (A.pm [1, 2, 3, 4, 5, 6, 0] (by kernel_rfl) (by kernel_rfl)) ?_
          refine E.C.region ?_
          refine E.G.op (.int .i64 ((p : Nat) : Int)) (fun w => by kernel_rfl) (by kernel_rfl) ?_
          refine E.G.val (.int .i64 ((p + 1 : Nat) : Int)) (by kernel_rfl) (fun w h => E.run_as (a := .int .i64 (IntKind.wrap .i64 (((p : Nat) : Int) + 1))) (by kernel_rfl) (congrArg (Value.int .i64) (by exact Nz.add64 (x := p) (y := 1) (by (first | assumption | ((try simp only [Bool.or_eq_false_iff, Bool.or_eq_true, Bool.and_eq_true, Bool.and_eq_false_iff, Bool.not_eq_eq_eq_not, Bool.not_true, Bool.not_false, decide_eq_true_eq, decide_eq_false_iff_not, ge_iff_le, gt_iff_lt] at *); omega)))))) ?_
          refine E.G.op (.int .i64 ((p + 1 : Nat) : Int)) (fun w => by kernel_rfl) (by kernel_rfl) ?_
          exact E.To.round (p + 1) (by (first | assumption | ((try simp only [Bool.or_eq_false_iff, Bool.or_eq_true, Bool.and_eq_true, Bool.and_eq_false_iff, Bool.not_eq_eq_eq_not, Bool.not_true, Bool.not_false, decide_eq_true_eq, decide_eq_false_iff_not, ge_iff_le, gt_iff_lt] at *); omega))) (by (first | assumption | ((try simp only [Bool.or_eq_false_iff, Bool.or_eq_true, Bool.and_eq_true, Bool.and_eq_false_iff, Bool.not_eq_eq_eq_not, Bool.not_true, Bool.not_false, decide_eq_true_eq, decide_eq_false_iff_not, ge_iff_le, gt_iff_lt] at *); omega))) ⟨by kernel_rfl, by kernel_rfl⟩ (List.Sublist.refl _) (fun _ h => h)
  · skip
    refine E.C.exit (E.P.et (E.P.et (E.P.eh (E.To.code ?_))))
    refine E.C.seq ?_
    refine E.C.region ?_
    refine E.G.op (.bool true) (fun w => by kernel_rfl) (by kernel_rfl) ?_
    refine E.G.op (.bool true) (fun w => by kernel_rfl) (by kernel_rfl) ?_
    refine E.G.op (.pointer (some ⟨g4, 0, none⟩)) (fun w => by kernel_rfl) (by kernel_rfl) ?_
    refine E.G.val (.pointer (some ⟨i2.1.1, 0, none⟩)) (by kernel_rfl) (fun w h => E.run_load h 0 rfl rfl (by kernel_rfl)) ?_
    refine A.G.call (I := Option Addr × Nat) (D := fun i20 => True) (V := fun i20 => .slice i20.1 ((M.rs (W5.clean) ((W5.clean).plays q1 (Nat.min n1 40)) p).dirty.length) i20.2) (q := fun i20 => [M.It i2.1.1 (M.rs (W5.clean) ((W5.clean).plays q1 (Nat.min n1 40)) p) ([]), A.vec .i64 i20.1 i20.2 ((M.rs (W5.clean) ((W5.clean).plays q1 (Nat.min n1 40)) p).dirty)]) [A.blk g4 ([.pointer (some ⟨i2.1.1, 0, none⟩), .pointer (some ⟨i2.1.2, 0, none⟩)]), A.vec .i64 i11.1 i11.2 ((W5.clean).dirty), M.It m9 (W5.clean) ([]), R.It i2.1.2 ((W5.clean).plays q1 (Nat.min n1 40)), A.facts (M.opF ad0 n0 q0), A.facts (M.opF ad1 n1 q1)] (fun i20 => [(g4, [.pointer (some ⟨i2.1.1, 0, none⟩), .pointer (some ⟨i2.1.2, 0, none⟩)])]) (fun i20 => [A.vec .i64 i20.1 i20.2 ((M.rs (W5.clean) ((W5.clean).plays q1 (Nat.min n1 40)) p).dirty), A.vec .i64 i11.1 i11.2 ((W5.clean).dirty), M.It m9 (W5.clean) ([]), M.It i2.1.1 (M.rs (W5.clean) ((W5.clean).plays q1 (Nat.min n1 40)) p) ([]), R.It i2.1.2 ((W5.clean).plays q1 (Nat.min n1 40)), A.facts (M.opF ad0 n0 q0), A.facts (M.opF ad1 n1 q1)]) (A_Dirty (m := i2.1.1) (V := (M.rs (W5.clean) ((W5.clean).plays q1 (Nat.min n1 40)) p)) (xs := [])) (by kernel_rfl) (A.pm [3, 0, 1, 2, 4, 5, 6] (by kernel_rfl) (by kernel_rfl)) (fun i20 => A.pm [2, 1, 3, 4, 0, 5, 6, 7] (by kernel_rfl) (by kernel_rfl)) (fun w _ => by kernel_rfl) (by kernel_rfl) (fun i20 hd21 => ?_)
    refine E.G.val (.int .i64 0) (by kernel_rfl) (fun w h => E.run_as (a := .int .i64 (((M.rs (W5.clean) ((W5.clean).plays q1 (Nat.min n1 40)) p).dirty.length : Nat) : Int)) (by kernel_rfl) (M.len0 (M.rs_dirty hd6 q1 (M.end3 hk1 (by assumption))))) ?_
    refine E.G.op (.bool true) (fun w => by kernel_rfl) (by kernel_rfl) ?_
    refine E.G.op (.bool true) (fun w => by kernel_rfl) (by kernel_rfl) ?_
    refine E.G.op (.bool true) (fun w => by kernel_rfl) (by kernel_rfl) ?_
    refine E.To.code ?_
    refine E.C.weak [(6, .bool true)] [] ⟨by kernel_rfl, by kernel_rfl⟩ (List.nil_sublist _) ?_
    refine E.C.ret (E.To.body (fn := Try.f10) [.bool true] ?_ ?_)
    · exact ⟨⟨by kernel_rfl, by kernel_rfl⟩, trivial⟩
    · intro w h
      exact ⟨rfl, h.ch.bel (fun x hx => (A.no2 hh x hx).elim)⟩
theorem MemDirty_law (coh : Bool) {ao0 : Option Addr} {ad0 : Addr} {n0 cap0 : Nat} {q0 : Nat → M.Op} (hao0 : 0 < n0 → ao0 = some ad0) {w : World} (f0 : ∀ a v, M.opF ad0 n0 q0 a v → w.cell? a = some v) {ao1 : Option Addr} {ad1 : Addr} {n1 cap1 : Nat} {q1 : Nat → M.Op} (hao1 : 0 < n1 → ao1 = some ad1) (f1 : ∀ a v, M.opF ad1 n1 q1 a v → w.cell? a = some v) : Calls Try.prog 10 #[.slice ao0 n0 cap0, .slice ao1 n1 cap1, .bool coh] w fun e w' => e = .returned (.bool true) ∧ Bel w w' := MemDirty_rd coh hao0 hao1 w _ _ (A.facts2 f0 f1)
end Go.Proofs.Ytdjjjikokfadiaa
