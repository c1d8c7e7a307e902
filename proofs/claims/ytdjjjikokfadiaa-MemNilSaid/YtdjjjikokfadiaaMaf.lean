/- Walks: no memory, printed by wip/eng. No condition but what is named. -/
import Derived.Test.YtdjjjikokfadiaaProg
import Derived.Test.YtdjjjikokfadiaaMd
namespace Go.Proofs.Ytdjjjikokfadiaa
set_option linter.unusedVariables false
set_option linter.unusedSimpArgs false
open Go.RowKit
theorem M.w32i {n : Int} (h : 0 ≤ n ∧ n < 4294967296) : IntKind.wrap .u32 n = n := by
  show n % 4294967296 = n
  omega
theorem M.z32 {a : Nat} (ha : a < 4294967296) : IntKind.wrap .u32 (((a : Nat) : Int) + 0) = ((a : Nat) : Int) := by
  show ((a : Int) + 0) % 4294967296 = _
  omega
theorem Pages_nil  (w : World) : Calls Try.prog 20 #[.pointer none] w fun e w' => e = .returned (.int .i64 0) ∧ Bel w w' := by
  refine E.enter (n := 10) (S := fun _ => False) Try.func20 rfl rfl (by kernel_rfl) (E.Hp.start w) ?_
  refine E.C.seq ?_
  refine E.C.region ?_
  refine E.G.op (.int .i64 0) (fun w => by kernel_rfl) (by kernel_rfl) ?_
  refine E.To.code ?_
  refine E.C.seq ?_
  refine E.C.seq ?_
  refine E.C.region ?_
  refine E.G.op (.pointer none) (fun w => by kernel_rfl) (by kernel_rfl) ?_
  refine E.G.op (.bool true) (fun w => by kernel_rfl) (by kernel_rfl) ?_
  refine E.To.code ?_
  refine E.C.condT (by kernel_rfl) (by kernel_rfl) ?_
  refine E.C.seq ?_
  refine E.C.region ?_
  refine E.G.op (.int .i64 0) (fun w => by kernel_rfl) (by kernel_rfl) ?_
  refine E.To.code ?_
  refine E.C.ret (E.P.rt (E.To.body (fn := Try.f20) [.int .i64 0] ?_ ?_))
  · exact ⟨⟨by kernel_rfl, by kernel_rfl⟩, trivial⟩
  · intro w h
    exact ⟨rfl, h.ch.bel (fun _ h => h.elim)⟩
theorem at_nil (a : Nat) (ha : a < 4294967296) (w : World) : Calls Try.prog 40 #[.pointer none, .int .u32 ((a : Nat) : Int)] w fun e w' => e = .returned (.pointer none) ∧ Bel w w' := by
  refine E.enter (n := 19) (S := fun _ => False) Try.func40 rfl rfl (by kernel_rfl) (E.Hp.start w) ?_
  refine E.C.seq ?_
  refine E.C.region ?_
  refine E.G.op (.pointer none) (fun w => by kernel_rfl) (by kernel_rfl) ?_
  refine E.To.code ?_
  refine E.C.seq ?_
  refine E.C.region ?_
  refine E.G.op (.int .u32 ((a : Nat) : Int)) (fun w => by kernel_rfl) (by kernel_rfl) ?_
  refine E.G.val (.int .u32 ((a / 256 : Nat) : Int)) (by kernel_rfl) (fun w h => E.run_as (a := .int .u32 (IntKind.wrap .u32 (Int.tdiv ((a : Nat) : Int) 256))) (by kernel_rfl) (congrArg (Value.int .u32) (M.div a ha))) ?_
  refine E.G.val (.int .i64 ((a / 256 : Nat) : Int)) (by kernel_rfl) (fun w h => E.run_as (a := .int .i64 (IntKind.wrap .i64 ((a / 256 : Nat) : Int))) (by kernel_rfl) (congrArg (Value.int .i64) (M.w64 (by omega)))) ?_
  refine E.G.op (.int .i64 ((a / 256 : Nat) : Int)) (fun w => by kernel_rfl) (by kernel_rfl) ?_
  refine E.To.code ?_
  refine E.C.seq ?_
  refine E.C.seq ?_
  refine E.C.region ?_
  refine E.G.op (.int .i64 ((a / 256 : Nat) : Int)) (fun w => by kernel_rfl) (by kernel_rfl) ?_
  refine E.G.op (.pointer none) (fun w => by kernel_rfl) (by kernel_rfl) ?_
  refine E.G.call (.int .i64 0) (fun w h => Pages_nil w) (fun w _ => by kernel_rfl) (by kernel_rfl) ?_
  refine E.G.val (.bool true) (by kernel_rfl) (fun w h => E.run_as (a := .bool (decide (((a / 256 : Nat) : Int) ≥ 0))) (by kernel_rfl) (congrArg Value.bool (decide_eq_true (by omega)))) ?_
  refine E.To.code ?_
  refine E.C.condT (by kernel_rfl) (by kernel_rfl) ?_
  refine E.C.seq ?_
  refine E.C.region ?_
  refine E.G.op (.pointer none) (fun w => by kernel_rfl) (by kernel_rfl) ?_
  refine E.To.code ?_
  refine E.C.weak [(0, .pointer none), (4, .pointer none), (5, .int .i64 ((a / 256 : Nat) : Int))] [] ⟨by kernel_rfl, by kernel_rfl⟩ (List.Sublist.refl _) ?_
  refine E.C.ret (E.P.rt (E.To.body (fn := Try.f40) [.pointer none] ?_ ?_))
  · exact ⟨⟨by kernel_rfl, by kernel_rfl⟩, trivial⟩
  · intro w h
    exact ⟨rfl, h.ch.bel (fun _ h => h.elim)⟩
theorem Peek_nil (a : Nat) (ha : a < 4294967296) (w : World) : Calls Try.prog 21 #[.pointer none, .int .u32 ((a : Nat) : Int)] w fun e w' => e = .returned (.int .u8 0) ∧ Bel w w' := by
  refine E.enter (n := 20) (S := fun _ => False) Try.func21 rfl rfl (by kernel_rfl) (E.Hp.start w) ?_
  refine E.C.seq ?_
  refine E.C.region ?_
  refine E.G.op (.int .u8 0) (fun w => by kernel_rfl) (by kernel_rfl) ?_
  refine E.To.code ?_
  refine E.C.seq ?_
  refine E.C.region ?_
  refine E.G.op (.pointer none) (fun w => by kernel_rfl) (by kernel_rfl) ?_
  refine E.G.op (.int .u32 ((a : Nat) : Int)) (fun w => by kernel_rfl) (by kernel_rfl) ?_
  refine E.G.call (.pointer none) (fun w h => at_nil a (by omega) w) (fun w _ => by kernel_rfl) (by kernel_rfl) ?_
  refine E.G.op (.pointer none) (fun w => by kernel_rfl) (by kernel_rfl) ?_
  refine E.To.code ?_
  refine E.C.seq ?_
  refine E.C.seq ?_
  refine E.C.region ?_
  refine E.G.op (.pointer none) (fun w => by kernel_rfl) (by kernel_rfl) ?_
  refine E.G.op (.bool true) (fun w => by kernel_rfl) (by kernel_rfl) ?_
  refine E.To.code ?_
  refine E.C.condT (by kernel_rfl) (by kernel_rfl) ?_
  refine E.C.seq ?_
  refine E.C.region ?_
  refine E.G.op (.int .u8 0) (fun w => by kernel_rfl) (by kernel_rfl) ?_
  refine E.To.code ?_
  refine E.C.ret (E.P.rt (E.To.body (fn := Try.f21) [.int .u8 0] ?_ ?_))
  · exact ⟨⟨by kernel_rfl, by kernel_rfl⟩, trivial⟩
  · intro w h
    exact ⟨rfl, h.ch.bel (fun _ h => h.elim)⟩
theorem Code_nil (a : Nat) (ha : a < 4294967296) (w : World) : Calls Try.prog 22 #[.pointer none, .int .u32 ((a : Nat) : Int)] w fun e w' => e = .returned (.int .u8 0) ∧ Bel w w' := by
  refine E.enter (n := 18) (S := fun _ => False) Try.func22 rfl rfl (by kernel_rfl) (E.Hp.start w) ?_
  refine E.C.seq ?_
  refine E.C.region ?_
  refine E.G.op (.int .u8 0) (fun w => by kernel_rfl) (by kernel_rfl) ?_
  refine E.To.code ?_
  refine E.C.seq ?_
  refine E.C.region ?_
  refine E.G.op (.pointer none) (fun w => by kernel_rfl) (by kernel_rfl) ?_
  refine E.G.op (.int .u32 ((a : Nat) : Int)) (fun w => by kernel_rfl) (by kernel_rfl) ?_
  refine E.G.call (.pointer none) (fun w h => at_nil a (by omega) w) (fun w _ => by kernel_rfl) (by kernel_rfl) ?_
  refine E.G.op (.pointer none) (fun w => by kernel_rfl) (by kernel_rfl) ?_
  refine E.To.code ?_
  refine E.C.seq ?_
  refine E.C.seq ?_
  refine E.C.region ?_
  refine E.G.op (.pointer none) (fun w => by kernel_rfl) (by kernel_rfl) ?_
  refine E.G.op (.bool true) (fun w => by kernel_rfl) (by kernel_rfl) ?_
  refine E.To.code ?_
  refine E.C.condT (by kernel_rfl) (by kernel_rfl) ?_
  refine E.C.seq ?_
  refine E.C.region ?_
  refine E.G.op (.int .u8 0) (fun w => by kernel_rfl) (by kernel_rfl) ?_
  refine E.To.code ?_
  refine E.C.ret (E.P.rt (E.To.body (fn := Try.f22) [.int .u8 0] ?_ ?_))
  · exact ⟨⟨by kernel_rfl, by kernel_rfl⟩, trivial⟩
  · intro w h
    exact ⟨rfl, h.ch.bel (fun _ h => h.elim)⟩
theorem Fetch_nil (a : Nat) (ha : a < 4294967296) (w : World) : Calls Try.prog 19 #[.pointer none, .int .u32 ((a : Nat) : Int)] w fun e w' => e = .returned (.tuple #[.int .u8 0, .bool false]) ∧ Bel w w' := by
  refine E.enter (n := 27) (S := fun _ => False) Try.func19 rfl rfl (by kernel_rfl) (E.Hp.start w) ?_
  refine E.C.seq ?_
  refine E.C.region ?_
  refine E.G.op (.int .u8 0) (fun w => by kernel_rfl) (by kernel_rfl) ?_
  refine E.G.op (.bool false) (fun w => by kernel_rfl) (by kernel_rfl) ?_
  refine E.To.code ?_
  refine E.C.seq ?_
  refine E.C.region ?_
  refine E.G.op (.pointer none) (fun w => by kernel_rfl) (by kernel_rfl) ?_
  refine E.G.op (.int .u32 ((a : Nat) : Int)) (fun w => by kernel_rfl) (by kernel_rfl) ?_
  refine E.G.call (.pointer none) (fun w h => at_nil a (by omega) w) (fun w _ => by kernel_rfl) (by kernel_rfl) ?_
  refine E.G.op (.pointer none) (fun w => by kernel_rfl) (by kernel_rfl) ?_
  refine E.To.code ?_
  refine E.C.seq ?_
  refine E.C.seq ?_
  refine E.C.region ?_
  refine E.G.op (.pointer none) (fun w => by kernel_rfl) (by kernel_rfl) ?_
  refine E.G.op (.bool true) (fun w => by kernel_rfl) (by kernel_rfl) ?_
  refine E.G.op (.bool true) (fun w => by kernel_rfl) (by kernel_rfl) ?_
  refine E.G.skip (by kernel_rfl) (by kernel_rfl) ?_
  refine E.G.skip (by kernel_rfl) (by kernel_rfl) ?_
  refine E.G.skip (by kernel_rfl) (by kernel_rfl) ?_
  refine E.G.skip (by kernel_rfl) (by kernel_rfl) ?_
  refine E.G.skip (by kernel_rfl) (by kernel_rfl) ?_
  refine E.G.skip (by kernel_rfl) (by kernel_rfl) ?_
  refine E.G.op (.bool true) (fun w => by kernel_rfl) (by kernel_rfl) ?_
  refine E.To.code ?_
  refine E.C.weak [(1, .int .u32 ((a : Nat) : Int)), (4, .int .u8 0), (5, .bool false), (6, .pointer none), (19, .bool true)] [] ⟨by kernel_rfl, by kernel_rfl⟩ (List.Sublist.refl _) ?_
  refine E.C.condT (by kernel_rfl) (by kernel_rfl) ?_
  refine E.C.seq ?_
  refine E.C.region ?_
  refine E.G.op (.int .u8 0) (fun w => by kernel_rfl) (by kernel_rfl) ?_
  refine E.G.op (.bool false) (fun w => by kernel_rfl) (by kernel_rfl) ?_
  refine E.To.code ?_
  refine E.C.ret (E.P.rt (E.To.body (fn := Try.f19) [.int .u8 0, .bool false] ?_ ?_))
  · exact ⟨⟨by kernel_rfl, by kernel_rfl⟩, ⟨by kernel_rfl, by kernel_rfl⟩, trivial⟩
  · intro w h
    exact ⟨rfl, h.ch.bel (fun _ h => h.elim)⟩
theorem Sync_nil (a : Nat) (ha : a < 4294967296) (w : World) : Calls Try.prog 33 #[.pointer none, .int .u32 ((a : Nat) : Int)] w fun e w' => e = .returned (.bool false) ∧ Bel w w' := by
  refine E.enter (n := 29) (S := fun _ => False) Try.func33 rfl rfl (by kernel_rfl) (E.Hp.start w) ?_
  refine E.C.seq ?_
  refine E.C.region ?_
  refine E.G.op (.bool false) (fun w => by kernel_rfl) (by kernel_rfl) ?_
  refine E.To.code ?_
  refine E.C.seq ?_
  refine E.C.region ?_
  refine E.G.op (.pointer none) (fun w => by kernel_rfl) (by kernel_rfl) ?_
  refine E.G.op (.int .u32 ((a : Nat) : Int)) (fun w => by kernel_rfl) (by kernel_rfl) ?_
  refine E.G.call (.pointer none) (fun w h => at_nil a (by omega) w) (fun w _ => by kernel_rfl) (by kernel_rfl) ?_
  refine E.G.op (.pointer none) (fun w => by kernel_rfl) (by kernel_rfl) ?_
  refine E.To.code ?_
  refine E.C.seq ?_
  refine E.C.seq ?_
  refine E.C.region ?_
  refine E.G.op (.pointer none) (fun w => by kernel_rfl) (by kernel_rfl) ?_
  refine E.G.op (.bool true) (fun w => by kernel_rfl) (by kernel_rfl) ?_
  refine E.To.code ?_
  refine E.C.condT (by kernel_rfl) (by kernel_rfl) ?_
  refine E.C.seq ?_
  refine E.C.region ?_
  refine E.G.op (.bool false) (fun w => by kernel_rfl) (by kernel_rfl) ?_
  refine E.To.code ?_
  refine E.C.ret (E.P.rt (E.To.body (fn := Try.f33) [.bool false] ?_ ?_))
  · exact ⟨⟨by kernel_rfl, by kernel_rfl⟩, trivial⟩
  · intro w h
    exact ⟨rfl, h.ch.bel (fun _ h => h.elim)⟩
theorem set_nil (a : Nat) (ha : a < 4294967296) (v : Int) (w : World) : Calls Try.prog 39 #[.pointer none, .int .u32 ((a : Nat) : Int), .int .u8 v] w fun e w' => e = .returned (.tuple #[]) ∧ Bel w w' := by
  refine E.enter (n := 32) (S := fun _ => False) Try.func39 rfl rfl (by kernel_rfl) (E.Hp.start w) ?_
  refine E.C.seq ?_
  refine E.C.region ?_
  refine E.G.op (.pointer none) (fun w => by kernel_rfl) (by kernel_rfl) ?_
  refine E.G.op (.int .u32 ((a : Nat) : Int)) (fun w => by kernel_rfl) (by kernel_rfl) ?_
  refine E.G.call (.pointer none) (fun w h => at_nil a (by omega) w) (fun w _ => by kernel_rfl) (by kernel_rfl) ?_
  refine E.G.op (.pointer none) (fun w => by kernel_rfl) (by kernel_rfl) ?_
  refine E.To.code ?_
  refine E.C.seq ?_
  refine E.C.seq ?_
  refine E.C.region ?_
  refine E.G.op (.pointer none) (fun w => by kernel_rfl) (by kernel_rfl) ?_
  refine E.G.op (.bool true) (fun w => by kernel_rfl) (by kernel_rfl) ?_
  refine E.G.op (.bool true) (fun w => by kernel_rfl) (by kernel_rfl) ?_
  refine E.G.skip (by kernel_rfl) (by kernel_rfl) ?_
  refine E.G.skip (by kernel_rfl) (by kernel_rfl) ?_
  refine E.G.skip (by kernel_rfl) (by kernel_rfl) ?_
  refine E.G.skip (by kernel_rfl) (by kernel_rfl) ?_
  refine E.G.skip (by kernel_rfl) (by kernel_rfl) ?_
  refine E.G.skip (by kernel_rfl) (by kernel_rfl) ?_
  refine E.G.skip (by kernel_rfl) (by kernel_rfl) ?_
  refine E.G.skip (by kernel_rfl) (by kernel_rfl) ?_
  refine E.G.skip (by kernel_rfl) (by kernel_rfl) ?_
  refine E.G.skip (by kernel_rfl) (by kernel_rfl) ?_
  refine E.G.skip (by kernel_rfl) (by kernel_rfl) ?_
  refine E.G.op (.bool true) (fun w => by kernel_rfl) (by kernel_rfl) ?_
  refine E.To.code ?_
  refine E.C.weak [(1, .int .u32 ((a : Nat) : Int)), (2, .int .u8 v), (6, .pointer none), (24, .bool true)] [] ⟨by kernel_rfl, by kernel_rfl⟩ (List.Sublist.refl _) ?_
  refine E.C.condT (by kernel_rfl) (by kernel_rfl) ?_
  refine E.C.ret (E.P.rt (E.To.body (fn := Try.f39) [] ?_ ?_))
  · exact trivial
  · intro w h
    exact ⟨rfl, h.ch.bel (fun _ h => h.elim)⟩
theorem Rights_nil  (w : World) : Calls Try.prog 24 #[.pointer none, .int .i64 0] w fun e w' => e = .returned (.int .i64 0) ∧ Bel w w' := by
  refine E.enter (n := 21) (S := fun _ => False) Try.func24 rfl rfl (by kernel_rfl) (E.Hp.start w) ?_
  refine E.C.seq ?_
  refine E.C.region ?_
  refine E.G.op (.int .i64 0) (fun w => by kernel_rfl) (by kernel_rfl) ?_
  refine E.To.code ?_
  refine E.C.seq ?_
  refine E.C.seq ?_
  refine E.C.region ?_
  refine E.G.op (.int .i64 0) (fun w => by kernel_rfl) (by kernel_rfl) ?_
  refine E.G.op (.bool false) (fun w => by kernel_rfl) (by kernel_rfl) ?_
  refine E.G.op (.bool false) (fun w => by kernel_rfl) (by kernel_rfl) ?_
  refine E.G.op (.int .i64 0) (fun w => by kernel_rfl) (by kernel_rfl) ?_
  refine E.G.op (.pointer none) (fun w => by kernel_rfl) (by kernel_rfl) ?_
  refine E.G.call (.int .i64 0) (fun w h => Pages_nil w) (fun w _ => by kernel_rfl) (by kernel_rfl) ?_
  refine E.G.op (.bool true) (fun w => by kernel_rfl) (by kernel_rfl) ?_
  refine E.G.op (.bool true) (fun w => by kernel_rfl) (by kernel_rfl) ?_
  refine E.To.code ?_
  refine E.C.condT (by kernel_rfl) (by kernel_rfl) ?_
  refine E.C.seq ?_
  refine E.C.region ?_
  refine E.G.op (.int .i64 0) (fun w => by kernel_rfl) (by kernel_rfl) ?_
  refine E.To.code ?_
  refine E.C.weak [(0, .pointer none), (1, .int .i64 0), (4, .int .i64 0)] [] ⟨by kernel_rfl, by kernel_rfl⟩ (List.Sublist.refl _) ?_
  refine E.C.ret (E.P.rt (E.To.body (fn := Try.f24) [.int .i64 0] ?_ ?_))
  · exact ⟨⟨by kernel_rfl, by kernel_rfl⟩, trivial⟩
  · intro w h
    exact ⟨rfl, h.ch.bel (fun _ h => h.elim)⟩
theorem Protect_nil  (w : World) : Calls Try.prog 16 #[.pointer none, .int .i64 0, .int .i64 7] w fun e w' => e = .returned (.tuple #[]) ∧ Bel w w' := by
  refine E.enter (n := 23) (S := fun _ => False) Try.func16 rfl rfl (by kernel_rfl) (E.Hp.start w) ?_
  refine E.C.seq ?_
  refine E.C.region ?_
  refine E.G.op (.int .i64 0) (fun w => by kernel_rfl) (by kernel_rfl) ?_
  refine E.G.op (.bool true) (fun w => by kernel_rfl) (by kernel_rfl) ?_
  refine E.G.op (.bool true) (fun w => by kernel_rfl) (by kernel_rfl) ?_
  refine E.G.op (.int .i64 0) (fun w => by kernel_rfl) (by kernel_rfl) ?_
  refine E.G.op (.pointer none) (fun w => by kernel_rfl) (by kernel_rfl) ?_
  refine E.G.call (.int .i64 0) (fun w h => Pages_nil w) (fun w _ => by kernel_rfl) (by kernel_rfl) ?_
  refine E.G.op (.bool false) (fun w => by kernel_rfl) (by kernel_rfl) ?_
  refine E.G.op (.bool false) (fun w => by kernel_rfl) (by kernel_rfl) ?_
  refine E.To.code ?_
  refine E.C.condF (by kernel_rfl) (by kernel_rfl) ?_
  refine E.C.skip (E.To.bodyN (fn := Try.f16) [] ?_ ?_)
  · exact trivial
  · intro w h
    exact ⟨rfl, h.ch.bel (fun _ h => h.elim)⟩
theorem SetCode_nil (s : ByteArray) (w : World) : Calls Try.prog 36 #[.pointer none, .int .i64 0, .string s] w fun e w' => e = .returned (.tuple #[]) ∧ Bel w w' := by
  refine E.enter (n := 58) (S := fun _ => False) Try.func36 rfl rfl (by kernel_rfl) (E.Hp.start w) ?_
  refine E.C.seq ?_
  refine E.C.seq ?_
  refine E.C.region ?_
  refine E.G.op (.int .i64 0) (fun w => by kernel_rfl) (by kernel_rfl) ?_
  refine E.G.op (.bool false) (fun w => by kernel_rfl) (by kernel_rfl) ?_
  refine E.G.op (.bool false) (fun w => by kernel_rfl) (by kernel_rfl) ?_
  refine E.G.op (.int .i64 0) (fun w => by kernel_rfl) (by kernel_rfl) ?_
  refine E.G.op (.pointer none) (fun w => by kernel_rfl) (by kernel_rfl) ?_
  refine E.G.call (.int .i64 0) (fun w h => Pages_nil w) (fun w _ => by kernel_rfl) (by kernel_rfl) ?_
  refine E.G.op (.bool true) (fun w => by kernel_rfl) (by kernel_rfl) ?_
  refine E.G.op (.bool true) (fun w => by kernel_rfl) (by kernel_rfl) ?_
  refine E.G.op (.bool true) (fun w => by kernel_rfl) (by kernel_rfl) ?_
  refine E.G.skip (by kernel_rfl) (by kernel_rfl) ?_
  refine E.G.skip (by kernel_rfl) (by kernel_rfl) ?_
  refine E.G.skip (by kernel_rfl) (by kernel_rfl) ?_
  refine E.G.skip (by kernel_rfl) (by kernel_rfl) ?_
  refine E.G.op (.bool true) (fun w => by kernel_rfl) (by kernel_rfl) ?_
  refine E.To.code ?_
  refine E.C.weak [(0, .pointer none), (1, .int .i64 0), (2, .string s), (21, .bool true)] [] ⟨by kernel_rfl, by kernel_rfl⟩ (List.Sublist.refl _) ?_
  refine E.C.condT (by kernel_rfl) (by kernel_rfl) ?_
  refine E.C.ret (E.P.rt (E.To.body (fn := Try.f36) [] ?_ ?_))
  · exact trivial
  · intro w h
    exact ⟨rfl, h.ch.bel (fun _ h => h.elim)⟩
theorem Clean_nil  (w : World) : Calls Try.prog 34 #[.pointer none] w fun e w' => e = .returned (.tuple #[]) ∧ Bel w w' := by
  refine E.enter (n := 36) (S := fun _ => False) Try.func34 rfl rfl (by kernel_rfl) (E.Hp.start w) ?_
  refine E.C.seq ?_
  refine E.C.region ?_
  refine E.G.op (.pointer none) (fun w => by kernel_rfl) (by kernel_rfl) ?_
  refine E.G.call (.int .i64 0) (fun w h => Pages_nil w) (fun w _ => by kernel_rfl) (by kernel_rfl) ?_
  refine E.G.op (.int .i64 0) (fun w => by kernel_rfl) (by kernel_rfl) ?_
  refine E.To.code ?_
  refine E.C.block ?_
  refine E.C.rounds 1 ?_
  refine E.C.seq ?_
  refine E.C.region ?_
  refine E.G.op (.bool false) (fun w => by kernel_rfl) (by kernel_rfl) ?_
  refine E.To.code ?_
  refine E.C.seq ?_
  refine E.C.condF (by kernel_rfl) (by kernel_rfl) ?_
  refine E.C.exit (E.P.et (E.P.et (E.P.eh (E.To.bodyN (fn := Try.f34) [] ?_ ?_))))
  · exact trivial
  · intro w h
    exact ⟨rfl, h.ch.bel (fun _ h => h.elim)⟩
theorem Dirty_nil  (w : World) : Calls Try.prog 23 #[.pointer none] w fun e w' => e = .returned (.slice none 0 0) ∧ Bel w w' := by
  refine E.enter (n := 45) (S := fun _ => False) Try.func23 rfl rfl (by kernel_rfl) (E.Hp.start w) ?_
  refine E.C.seq ?_
  refine E.C.region ?_
  refine E.G.op (.slice none 0 0) (fun w => by kernel_rfl) (by kernel_rfl) ?_
  refine E.To.code ?_
  refine E.C.seq ?_
  refine E.C.region ?_
  refine E.G.op (.slice none 0 0) (fun w => by kernel_rfl) (by kernel_rfl) ?_
  refine E.To.code ?_
  refine E.C.seq ?_
  refine E.C.seq ?_
  refine E.C.region ?_
  refine E.G.op (.pointer none) (fun w => by kernel_rfl) (by kernel_rfl) ?_
  refine E.G.call (.int .i64 0) (fun w h => Pages_nil w) (fun w _ => by kernel_rfl) (by kernel_rfl) ?_
  refine E.G.op (.int .i64 0) (fun w => by kernel_rfl) (by kernel_rfl) ?_
  refine E.To.code ?_
  refine E.C.block ?_
  refine E.C.rounds 1 ?_
  refine E.C.seq ?_
  refine E.C.region ?_
  refine E.G.op (.bool false) (fun w => by kernel_rfl) (by kernel_rfl) ?_
  refine E.To.code ?_
  refine E.C.seq ?_
  refine E.C.condF (by kernel_rfl) (by kernel_rfl) ?_
  refine E.C.exit (E.P.et (E.P.et (E.P.eh (E.To.code ?_))))
  refine E.C.seq ?_
  refine E.C.region ?_
  refine E.G.op (.slice none 0 0) (fun w => by kernel_rfl) (by kernel_rfl) ?_
  refine E.G.op (.slice none 0 0) (fun w => by kernel_rfl) (by kernel_rfl) ?_
  refine E.To.code ?_
  refine E.C.ret (E.To.body (fn := Try.f23) [.slice none 0 0] ?_ ?_)
  · exact ⟨⟨by kernel_rfl, by kernel_rfl⟩, trivial⟩
  · intro w h
    exact ⟨rfl, h.ch.bel (fun _ h => h.elim)⟩
theorem check_nil (a : Nat) (ha : a < 4294967296) (n r : Int) (w : World) : Calls Try.prog 38 #[.pointer none, .int .u32 ((a : Nat) : Int), .int .i64 n, .int .i64 r] w fun e w' => e = .returned (.tuple #[.int .u32 ((a : Nat) : Int), .bool false]) ∧ Bel w w' := by
  refine E.enter (n := 44) (S := fun _ => False) Try.func38 rfl rfl (by kernel_rfl) (E.Hp.start w) ?_
  refine E.C.seq ?_
  refine E.C.region ?_
  refine E.G.op (.int .u32 0) (fun w => by kernel_rfl) (by kernel_rfl) ?_
  refine E.G.op (.bool false) (fun w => by kernel_rfl) (by kernel_rfl) ?_
  refine E.To.code ?_
  refine E.C.seq ?_
  refine E.C.seq ?_
  refine E.C.region ?_
  refine E.G.op (.int .i64 n) (fun w => by kernel_rfl) (by kernel_rfl) ?_
  refine E.G.op (.bool (decide (n < 1))) (fun w => by kernel_rfl) (by kernel_rfl) ?_
  refine E.G.op (.bool (decide (n < 1))) (fun w => by kernel_rfl) (by kernel_rfl) ?_
  refine E.G.cut 3 [(0, .pointer none), (1, .int .u32 ((a : Nat) : Int)), (2, .int .i64 n), (3, .int .i64 r), (8, .int .u32 0), (9, .bool false), (17, .bool ((decide (n < 1)) || (decide (n > 4))))] (fun _ => True) [] ?_ ?_
  · generalize hc1 : (decide (n < 1)) = b2
    cases b2
    · skip
      refine E.G.op (.int .i64 n) (fun w => by kernel_rfl) (by kernel_rfl) ?_
      refine E.G.op (.bool (decide (n > 4))) (fun w => by kernel_rfl) (by kernel_rfl) ?_
      refine E.G.op (.bool (decide (n > 4))) (fun w => by kernel_rfl) (by kernel_rfl) ?_
      exact E.G.end_pst ⟨by kernel_rfl, by kernel_rfl⟩ (List.Sublist.refl _) (fun _ h => h)
    · skip
      refine E.G.skip (by kernel_rfl) (by kernel_rfl) ?_
      refine E.G.skip (by kernel_rfl) (by kernel_rfl) ?_
      refine E.G.op (.bool true) (fun w => by kernel_rfl) (by kernel_rfl) ?_
      exact E.G.end_pst ⟨by kernel_rfl, by kernel_rfl⟩ (List.Sublist.refl _) (fun _ h => h)
  refine E.To.code ?_
  refine E.C.cond ((decide (n < 1)) || (decide (n > 4))) (by kernel_rfl) (by kernel_rfl) (fun hc3 => ?_) (fun hc3 => ?_)
  · skip
    refine E.C.seq ?_
    refine E.C.region ?_
    refine E.G.op (.int .u32 ((a : Nat) : Int)) (fun w => by kernel_rfl) (by kernel_rfl) ?_
    refine E.G.op (.int .u32 ((a : Nat) : Int)) (fun w => by kernel_rfl) (by kernel_rfl) ?_
    refine E.G.op (.bool false) (fun w => by kernel_rfl) (by kernel_rfl) ?_
    refine E.To.code ?_
    refine E.C.ret (E.P.rt (E.To.body (fn := Try.f38) [.int .u32 ((a : Nat) : Int), .bool false] ?_ ?_))
    · exact ⟨⟨by kernel_rfl, by kernel_rfl⟩, ⟨by kernel_rfl, by kernel_rfl⟩, trivial⟩
    · intro w h
      exact ⟨rfl, h.ch.bel (fun _ h => h.elim)⟩
  · skip
    refine E.C.skip (E.To.code ?_)
    refine E.C.seq ?_
    refine E.C.seq ?_
    refine E.C.region ?_
    refine E.G.op (.int .i64 n) (fun w => by kernel_rfl) (by kernel_rfl) ?_
    refine E.G.val (.int .u32 n) (by kernel_rfl) (fun w h => E.run_as (a := .int .u32 (IntKind.wrap .u32 n)) (by kernel_rfl) (congrArg (Value.int .u32) (M.w32i (by (first | assumption | ((try simp only [Bool.or_eq_false_iff, Bool.or_eq_true, Bool.and_eq_true, Bool.and_eq_false_iff, decide_eq_true_eq, decide_eq_false_iff_not, ge_iff_le, gt_iff_lt] at *); omega)))))) ?_
    refine E.G.op (.int .u32 0) (fun w => by kernel_rfl) (by kernel_rfl) ?_
    refine E.To.code ?_
    refine E.C.block ?_
    refine E.C.loop (I := Nat) (fun i => 1) (fun i => i = 0) (fun i => [(0, .pointer none), (1, .int .u32 ((a : Nat) : Int)), (3, .int .i64 r), (8, .int .u32 0), (9, .bool false), (20, .int .u32 n), (21, .int .u32 0)]) (fun i => fun _ => True) (fun i => []) 0 (rfl) ⟨by kernel_rfl, by kernel_rfl⟩ (List.Sublist.refl _) (fun _ h => h) (fun i hk1 => ?_)
    refine E.C.seq ?_
    refine E.C.region ?_
    refine E.G.op (.bool (decide (0 < n))) (fun w => by kernel_rfl) (by kernel_rfl) ?_
    refine E.To.code ?_
    refine E.C.seq ?_
    refine E.C.cond (decide (0 < n)) (by kernel_rfl) (by kernel_rfl) (fun hc4 => ?_) (fun hc4 => ?_)
    · skip
      refine E.C.skip (E.To.code ?_)
      refine E.C.seq ?_
      refine E.C.block ?_
      refine E.C.seq ?_
      refine E.C.region ?_
      refine E.G.op (.int .u32 0) (fun w => by kernel_rfl) (by kernel_rfl) ?_
      refine E.G.op (.int .u32 0) (fun w => by kernel_rfl) (by kernel_rfl) ?_
      refine E.To.code ?_
      refine E.C.seq ?_
      refine E.C.region ?_
      refine E.G.op (.pointer none) (fun w => by kernel_rfl) (by kernel_rfl) ?_
      refine E.G.op (.int .u32 ((a : Nat) : Int)) (fun w => by kernel_rfl) (by kernel_rfl) ?_
      refine E.G.op (.int .u32 0) (fun w => by kernel_rfl) (by kernel_rfl) ?_
      refine E.G.val (.int .u32 ((a : Nat) : Int)) (by kernel_rfl) (fun w h => E.run_as (a := .int .u32 (IntKind.wrap .u32 (((a : Nat) : Int) + 0))) (by kernel_rfl) (congrArg (Value.int .u32) (M.z32 ha))) ?_
      refine E.G.call (.pointer none) (fun w h => at_nil a (by omega) w) (fun w _ => by kernel_rfl) (by kernel_rfl) ?_
      refine E.G.op (.pointer none) (fun w => by kernel_rfl) (by kernel_rfl) ?_
      refine E.To.code ?_
      refine E.C.seq ?_
      refine E.C.region ?_
      refine E.G.op (.pointer none) (fun w => by kernel_rfl) (by kernel_rfl) ?_
      refine E.G.op (.bool true) (fun w => by kernel_rfl) (by kernel_rfl) ?_
      refine E.G.op (.bool true) (fun w => by kernel_rfl) (by kernel_rfl) ?_
      refine E.G.skip (by kernel_rfl) (by kernel_rfl) ?_
      refine E.G.skip (by kernel_rfl) (by kernel_rfl) ?_
      refine E.G.skip (by kernel_rfl) (by kernel_rfl) ?_
      refine E.G.skip (by kernel_rfl) (by kernel_rfl) ?_
      refine E.G.skip (by kernel_rfl) (by kernel_rfl) ?_
      refine E.G.skip (by kernel_rfl) (by kernel_rfl) ?_
      refine E.G.skip (by kernel_rfl) (by kernel_rfl) ?_
      refine E.G.op (.bool true) (fun w => by kernel_rfl) (by kernel_rfl) ?_
      refine E.To.code ?_
      refine E.C.condT (by kernel_rfl) (by kernel_rfl) ?_
      refine E.C.seq ?_
      refine E.C.region ?_
      refine E.G.op (.int .u32 ((a : Nat) : Int)) (fun w => by kernel_rfl) (by kernel_rfl) ?_
      refine E.G.op (.int .u32 0) (fun w => by kernel_rfl) (by kernel_rfl) ?_
      refine E.G.val (.int .u32 ((a : Nat) : Int)) (by kernel_rfl) (fun w h => E.run_as (a := .int .u32 (IntKind.wrap .u32 (((a : Nat) : Int) + 0))) (by kernel_rfl) (congrArg (Value.int .u32) (M.z32 ha))) ?_
      refine E.G.op (.int .u32 ((a : Nat) : Int)) (fun w => by kernel_rfl) (by kernel_rfl) ?_
      refine E.G.op (.bool false) (fun w => by kernel_rfl) (by kernel_rfl) ?_
      refine E.To.code ?_
      refine E.C.ret (E.P.rb (E.P.rt (E.P.rt (E.P.rb (E.P.rt (E.To.body (fn := Try.f38) [.int .u32 ((a : Nat) : Int), .bool false] ?_ ?_))))))
      · exact ⟨⟨by kernel_rfl, by kernel_rfl⟩, ⟨by kernel_rfl, by kernel_rfl⟩, trivial⟩
      · intro w h
        exact ⟨rfl, h.ch.bel (fun _ h => h.elim)⟩
    · skip
      refine E.C.exit (E.P.et (E.P.et (E.P.eh (E.To.code ?_))))
      refine E.C.seq ?_
      refine E.C.region ?_
      refine E.G.op (.int .u32 0) (fun w => by kernel_rfl) (by kernel_rfl) ?_
      refine E.G.op (.bool true) (fun w => by kernel_rfl) (by kernel_rfl) ?_
      refine E.To.code ?_
      refine E.C.ret (E.To.body (fn := Try.f38) [.int .u32 0, .bool true] ?_ ?_)
      · exact ⟨⟨by kernel_rfl, by kernel_rfl⟩, ⟨by kernel_rfl, by kernel_rfl⟩, trivial⟩
      · intro w h
        exfalso
        (first | assumption | ((try simp only [Bool.or_eq_false_iff, Bool.or_eq_true, Bool.and_eq_true, Bool.and_eq_false_iff, decide_eq_true_eq, decide_eq_false_iff_not, ge_iff_le, gt_iff_lt] at *); omega))
end Go.Proofs.Ytdjjjikokfadiaa
