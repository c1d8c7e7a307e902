/- Walks: no memory, second part, printed by wip/eng. No condition but what is named. -/
import Derived.Test.YtdjjjikokfadiaaProg
import Derived.Test.YtdjjjikokfadiaaMaf
namespace Go.Proofs.Ytdjjjikokfadiaa
set_option linter.unusedVariables false
set_option linter.unusedSimpArgs false
open Go.RowKit
theorem Load_nil (a : Nat) (ha : a < 4294967296) (n : Int) (w : World) : Calls Try.prog 17 #[.pointer none, .int .u32 ((a : Nat) : Int), .int .i64 n] w fun e w' => e = .returned (.tuple #[.int .u32 0, .int .u32 ((a : Nat) : Int), .bool false]) ∧ Bel w w' := by
  refine E.enter (n := 37) (S := fun _ => False) Try.func17 rfl rfl (by kernel_rfl) (E.Hp.start w) ?_
  refine E.C.seq ?_
  refine E.C.region ?_
  refine E.G.op (.int .u32 0) (fun w => by kernel_rfl) (by kernel_rfl) ?_
  refine E.G.op (.int .u32 0) (fun w => by kernel_rfl) (by kernel_rfl) ?_
  refine E.G.op (.bool false) (fun w => by kernel_rfl) (by kernel_rfl) ?_
  refine E.To.code ?_
  refine E.C.seq ?_
  refine E.C.seq ?_
  refine E.C.region ?_
  refine E.G.op (.pointer none) (fun w => by kernel_rfl) (by kernel_rfl) ?_
  refine E.G.op (.int .u32 ((a : Nat) : Int)) (fun w => by kernel_rfl) (by kernel_rfl) ?_
  refine E.G.op (.int .i64 n) (fun w => by kernel_rfl) (by kernel_rfl) ?_
  refine E.G.call (.tuple #[.int .u32 ((a : Nat) : Int), .bool false]) (fun w h => check_nil a (by omega) n 1 w) (fun w _ => by kernel_rfl) (by kernel_rfl) ?_
  refine E.G.op (.tuple #[.int .u32 ((a : Nat) : Int), .bool false]) (fun w => by kernel_rfl) (by kernel_rfl) ?_
  refine E.G.op (.int .u32 ((a : Nat) : Int)) (fun w => by kernel_rfl) (by kernel_rfl) ?_
  refine E.G.op (.bool false) (fun w => by kernel_rfl) (by kernel_rfl) ?_
  refine E.G.op (.int .u32 ((a : Nat) : Int)) (fun w => by kernel_rfl) (by kernel_rfl) ?_
  refine E.G.op (.bool false) (fun w => by kernel_rfl) (by kernel_rfl) ?_
  refine E.To.code ?_
  refine E.C.seq ?_
  refine E.C.region ?_
  refine E.G.op (.bool false) (fun w => by kernel_rfl) (by kernel_rfl) ?_
  refine E.G.op (.bool true) (fun w => by kernel_rfl) (by kernel_rfl) ?_
  refine E.To.code ?_
  refine E.C.weak [(0, .pointer none), (1, .int .u32 ((a : Nat) : Int)), (2, .int .i64 n), (6, .int .u32 0), (7, .int .u32 ((a : Nat) : Int)), (8, .bool false), (18, .bool true)] [] ⟨by kernel_rfl, by kernel_rfl⟩ (List.Sublist.refl _) ?_
  refine E.C.condT (by kernel_rfl) (by kernel_rfl) ?_
  refine E.C.seq ?_
  refine E.C.region ?_
  refine E.G.op (.int .u32 ((a : Nat) : Int)) (fun w => by kernel_rfl) (by kernel_rfl) ?_
  refine E.G.op (.int .u32 0) (fun w => by kernel_rfl) (by kernel_rfl) ?_
  refine E.G.op (.int .u32 ((a : Nat) : Int)) (fun w => by kernel_rfl) (by kernel_rfl) ?_
  refine E.G.op (.bool false) (fun w => by kernel_rfl) (by kernel_rfl) ?_
  refine E.To.code ?_
  refine E.C.ret (E.P.rt (E.To.body (fn := Try.f17) [.int .u32 0, .int .u32 ((a : Nat) : Int), .bool false] ?_ ?_))
  · exact ⟨⟨by kernel_rfl, by kernel_rfl⟩, ⟨by kernel_rfl, by kernel_rfl⟩, ⟨by kernel_rfl, by kernel_rfl⟩, trivial⟩
  · intro w h
    exact ⟨rfl, h.ch.bel (fun _ h => h.elim)⟩
theorem Store_nil (a : Nat) (ha : a < 4294967296) (n v : Int) (w : World) : Calls Try.prog 18 #[.pointer none, .int .u32 ((a : Nat) : Int), .int .i64 n, .int .u32 v] w fun e w' => e = .returned (.tuple #[.int .u32 ((a : Nat) : Int), .bool false]) ∧ Bel w w' := by
  refine E.enter (n := 37) (S := fun _ => False) Try.func18 rfl rfl (by kernel_rfl) (E.Hp.start w) ?_
  refine E.C.seq ?_
  refine E.C.region ?_
  refine E.G.op (.int .u32 0) (fun w => by kernel_rfl) (by kernel_rfl) ?_
  refine E.G.op (.bool false) (fun w => by kernel_rfl) (by kernel_rfl) ?_
  refine E.To.code ?_
  refine E.C.seq ?_
  refine E.C.seq ?_
  refine E.C.region ?_
  refine E.G.op (.pointer none) (fun w => by kernel_rfl) (by kernel_rfl) ?_
  refine E.G.op (.int .u32 ((a : Nat) : Int)) (fun w => by kernel_rfl) (by kernel_rfl) ?_
  refine E.G.op (.int .i64 n) (fun w => by kernel_rfl) (by kernel_rfl) ?_
  refine E.G.call (.tuple #[.int .u32 ((a : Nat) : Int), .bool false]) (fun w h => check_nil a (by omega) n 2 w) (fun w _ => by kernel_rfl) (by kernel_rfl) ?_
  refine E.G.op (.tuple #[.int .u32 ((a : Nat) : Int), .bool false]) (fun w => by kernel_rfl) (by kernel_rfl) ?_
  refine E.G.op (.int .u32 ((a : Nat) : Int)) (fun w => by kernel_rfl) (by kernel_rfl) ?_
  refine E.G.op (.bool false) (fun w => by kernel_rfl) (by kernel_rfl) ?_
  refine E.G.op (.int .u32 ((a : Nat) : Int)) (fun w => by kernel_rfl) (by kernel_rfl) ?_
  refine E.G.op (.bool false) (fun w => by kernel_rfl) (by kernel_rfl) ?_
  refine E.To.code ?_
  refine E.C.seq ?_
  refine E.C.region ?_
  refine E.G.op (.bool false) (fun w => by kernel_rfl) (by kernel_rfl) ?_
  refine E.G.op (.bool true) (fun w => by kernel_rfl) (by kernel_rfl) ?_
  refine E.To.code ?_
  refine E.C.weak [(0, .pointer none), (1, .int .u32 ((a : Nat) : Int)), (2, .int .i64 n), (3, .int .u32 v), (8, .int .u32 ((a : Nat) : Int)), (9, .bool false), (19, .bool true)] [] ⟨by kernel_rfl, by kernel_rfl⟩ (List.Sublist.refl _) ?_
  refine E.C.condT (by kernel_rfl) (by kernel_rfl) ?_
  refine E.C.seq ?_
  refine E.C.region ?_
  refine E.G.op (.int .u32 ((a : Nat) : Int)) (fun w => by kernel_rfl) (by kernel_rfl) ?_
  refine E.G.op (.int .u32 ((a : Nat) : Int)) (fun w => by kernel_rfl) (by kernel_rfl) ?_
  refine E.G.op (.bool false) (fun w => by kernel_rfl) (by kernel_rfl) ?_
  refine E.To.code ?_
  refine E.C.ret (E.P.rt (E.To.body (fn := Try.f18) [.int .u32 ((a : Nat) : Int), .bool false] ?_ ?_))
  · exact ⟨⟨by kernel_rfl, by kernel_rfl⟩, ⟨by kernel_rfl, by kernel_rfl⟩, trivial⟩
  · intro w h
    exact ⟨rfl, h.ch.bel (fun _ h => h.elim)⟩
theorem poke1_nil {S : Nat → Prop} {w0 : World} {X : World → Prop} (g1 g2 a : Nat) (ha : a < 4294967296) (v : Int) (w : World) (hh : E.Hp S w0 X [(g2, [.int .u32 ((a : Nat) : Int)]), (g1, [.pointer none])] w) : Calls Try.prog 48 #[.int .i64 0, .int .u8 v, .pointer (some ⟨g1, 0, none⟩), .pointer (some ⟨g2, 0, none⟩)] w fun e w' => e = .returned (.tuple #[]) ∧ E.Hp S w0 X [(g2, [.int .u32 ((a : Nat) : Int)]), (g1, [.pointer none])] w' := by
  refine E.enter (n := 13) (S := S) Try.func48 rfl rfl (by kernel_rfl) (hh) ?_
  refine E.C.region ?_
  refine E.G.val (.pointer none) (by kernel_rfl) (fun w h => E.run_load h 1 rfl rfl (by kernel_rfl)) ?_
  refine E.G.val (.int .u32 ((a : Nat) : Int)) (by kernel_rfl) (fun w h => E.run_load h 0 rfl rfl (by kernel_rfl)) ?_
  refine E.G.op (.int .i64 0) (fun w => by kernel_rfl) (by kernel_rfl) ?_
  refine E.G.op (.int .u32 0) (fun w => by kernel_rfl) (by kernel_rfl) ?_
  refine E.G.val (.int .u32 ((a : Nat) : Int)) (by kernel_rfl) (fun w h => E.run_as (a := .int .u32 (IntKind.wrap .u32 (((a : Nat) : Int) + 0))) (by kernel_rfl) (congrArg (Value.int .u32) (M.z32 ha))) ?_
  refine E.G.op (.int .u8 v) (fun w => by kernel_rfl) (by kernel_rfl) ?_
  refine E.G.call (.tuple #[]) (fun w h => set_nil a (by omega) v w) (fun w _ => by kernel_rfl) (by kernel_rfl) ?_
  refine E.To.bodyN (fn := Try.f48) [] ?_ ?_
  · exact trivial
  · intro w h
    exact ⟨rfl, h⟩
theorem each_nil {S : Nat → Prop} {w0 : World} {X : World → Prop} (g1 g2 a : Nat) (ha : a < 4294967296) (w : World) (hh : E.Hp S w0 X [(g2, [.int .u32 ((a : Nat) : Int)]), (g1, [.pointer none])] w) : Calls Try.prog 47 #[.string (⟨#[120]⟩ : ByteArray), .func (.func 48) #[] #[.pointer (some ⟨g1, 0, none⟩), .pointer (some ⟨g2, 0, none⟩)]] w fun e w' => e = .returned (.tuple #[]) ∧ E.Hp S w0 X [(g2, [.int .u32 ((a : Nat) : Int)]), (g1, [.pointer none])] w' := by
  refine E.enter (n := 17) (S := S) Try.func47 rfl rfl (by kernel_rfl) (hh) ?_
  refine E.C.seq ?_
  refine E.C.region ?_
  refine E.G.op (.string (⟨#[120]⟩ : ByteArray)) (fun w => by kernel_rfl) (by kernel_rfl) ?_
  refine E.G.val (.int .i64 1) (by kernel_rfl) (fun w h => E.run_as (a := .int .i64 (((⟨#[120]⟩ : ByteArray).size : Nat) : Int)) (by kernel_rfl) (rfl)) ?_
  refine E.G.op (.int .i64 0) (fun w => by kernel_rfl) (by kernel_rfl) ?_
  refine E.To.code ?_
  refine E.C.block ?_
  refine E.C.rounds 2 ?_
  refine E.C.seq ?_
  refine E.C.region ?_
  refine E.G.op (.bool true) (fun w => by kernel_rfl) (by kernel_rfl) ?_
  refine E.To.code ?_
  refine E.C.seq ?_
  refine E.C.condT (by kernel_rfl) (by kernel_rfl) ?_
  refine E.C.skip (E.To.code ?_)
  refine E.C.seq ?_
  refine E.C.block ?_
  refine E.C.seq ?_
  refine E.C.region ?_
  refine E.G.op (.int .i64 0) (fun w => by kernel_rfl) (by kernel_rfl) ?_
  refine E.G.op (.int .i64 0) (fun w => by kernel_rfl) (by kernel_rfl) ?_
  refine E.To.code ?_
  refine E.C.region ?_
  refine E.G.op (.func (.func 48) #[] #[.pointer (some ⟨g1, 0, none⟩), .pointer (some ⟨g2, 0, none⟩)]) (fun w => by kernel_rfl) (by kernel_rfl) ?_
  refine E.G.op (.int .i64 0) (fun w => by kernel_rfl) (by kernel_rfl) ?_
  refine E.G.op (.string (⟨#[120]⟩ : ByteArray)) (fun w => by kernel_rfl) (by kernel_rfl) ?_
  refine E.G.op (.int .i64 0) (fun w => by kernel_rfl) (by kernel_rfl) ?_
  refine E.G.val (.int .u8 (W.byt (⟨#[120]⟩ : ByteArray).data.toList 0)) (by kernel_rfl) (fun w h => E.sidx (⟨#[120]⟩ : ByteArray) .i64 0 (by kernel_rfl) (by kernel_rfl) (by kernel_rfl) (by decide) (by decide) w) ?_
  refine E.G.callX (I := Unit) (fun _ => True) (fun _ => .tuple #[]) (fun _ => X) (fun _ => [(g2, [.int .u32 ((a : Nat) : Int)]), (g1, [.pointer none])]) (fun u h => (poke1_nil g1 g2 a ha (W.byt (⟨#[120]⟩ : ByteArray).data.toList 0) u h).mono fun e w' ⟨he, hb⟩ => ⟨(), trivial, he, hb⟩) (fun u _ => by kernel_rfl) (by kernel_rfl) (fun _ _ => ?_)
  refine E.P.nb (E.To.code ?_)
  refine E.C.region ?_
  refine E.G.op (.int .i64 1) (fun w => by kernel_rfl) (by kernel_rfl) ?_
  refine E.G.op (.int .i64 1) (fun w => by kernel_rfl) (by kernel_rfl) ?_
  refine E.To.rounds 1 ?_
  refine E.C.weak [(0, .string (⟨#[120]⟩ : ByteArray)), (1, .func (.func 48) #[] #[.pointer (some ⟨g1, 0, none⟩), .pointer (some ⟨g2, 0, none⟩)]), (4, .int .i64 0), (6, .int .i64 1), (7, .int .i64 1), (8, .bool true), (9, .int .i64 0), (10, .func (.func 48) #[] #[.pointer (some ⟨g1, 0, none⟩), .pointer (some ⟨g2, 0, none⟩)]), (11, .int .i64 0), (12, .string (⟨#[120]⟩ : ByteArray)), (13, .int .i64 0), (14, .int .u8 (W.byt (⟨#[120]⟩ : ByteArray).data.toList 0)), (16, .int .i64 1)] [(g2, [.int .u32 ((a : Nat) : Int)]), (g1, [.pointer none])] ⟨by kernel_rfl, by kernel_rfl⟩ (List.Sublist.refl _) ?_
  refine E.C.seq ?_
  refine E.C.region ?_
  refine E.G.op (.bool false) (fun w => by kernel_rfl) (by kernel_rfl) ?_
  refine E.To.code ?_
  refine E.C.seq ?_
  refine E.C.condF (by kernel_rfl) (by kernel_rfl) ?_
  refine E.C.exit (E.P.et (E.P.et (E.P.eh (E.To.bodyN (fn := Try.f47) [] ?_ ?_))))
  · exact trivial
  · intro w h
    exact ⟨rfl, h⟩
theorem Poke_nil (a : Nat) (ha : a < 4294967296) (w : World) : Calls Try.prog 28 #[.pointer none, .int .u32 ((a : Nat) : Int), .string (⟨#[120]⟩ : ByteArray)] w fun e w' => e = .returned (.tuple #[]) ∧ Bel w w' := by
  refine E.enter (n := 9) (S := fun _ => False) Try.func28 rfl rfl (by kernel_rfl) (E.Hp.start w) ?_
  refine E.C.seq ?_
  refine E.C.region ?_
  refine E.G.new (fun g => .pointer (some ⟨g, 0, none⟩)) [.pointer none] 25 (fun w => by kernel_rfl) (by kernel_rfl) (fun g1 => ?_)
  refine E.G.new (fun g => .pointer (some ⟨g, 0, none⟩)) [.int .u32 ((a : Nat) : Int)] 23 (fun w => by kernel_rfl) (by kernel_rfl) (fun g2 => ?_)
  refine E.To.code ?_
  refine E.C.region ?_
  refine E.G.op (.string (⟨#[120]⟩ : ByteArray)) (fun w => by kernel_rfl) (by kernel_rfl) ?_
  refine E.G.op (.func (.func 48) #[] #[.pointer (some ⟨g1, 0, none⟩), .pointer (some ⟨g2, 0, none⟩)]) (fun w => by kernel_rfl) (by kernel_rfl) ?_
  refine E.G.callX (I := Unit) (fun _ => True) (fun _ => .tuple #[]) (fun _ => fun _ => True) (fun _ => [(g2, [.int .u32 ((a : Nat) : Int)]), (g1, [.pointer none])]) (fun u h => (each_nil g1 g2 a ha u h).mono fun e w' ⟨he, hb⟩ => ⟨(), trivial, he, hb⟩) (fun u _ => by kernel_rfl) (by kernel_rfl) (fun _ _ => ?_)
  refine E.To.bodyN (fn := Try.f28) [] ?_ ?_
  · exact trivial
  · intro w h
    exact ⟨rfl, h.ch.bel (fun _ h => h.elim)⟩
end Go.Proofs.Ytdjjjikokfadiaa
