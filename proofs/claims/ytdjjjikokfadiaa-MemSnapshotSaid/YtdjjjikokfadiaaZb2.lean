/- Texts 2 of the walk, merged: see the remark ahead of each. -/
import Derived.Test.YtdjjjikokfadiaaZb1
import Derived.Test.YtdjjjikokfadiaaProg
import Derived.ChangeKeysEq
import Derived.LaidEqlPtr
import Derived.Laws.MakeOwn
/- Walks: Store of mem, printed by wip/eng. No condition but what is named. -/
namespace Go.Proofs.Ytdjjjikokfadiaa
set_option linter.unusedVariables false
set_option linter.unusedSimpArgs false
open Go.RowKit
theorem M.byte_bd (x : Int) : 0 ≤ IntKind.wrap .u8 x ∧ IntKind.wrap .u8 x < 256 := by
  show 0 ≤ x % 256 ∧ x % 256 < 256
  omega
theorem M.set_call {o oc : M.Obj} {w0 w : World} (hd : M.Nxt w0 o oc) {a : Nat} {v : Int} (ha : a < 4294967296) (hv : 0 ≤ v ∧ v < 256) (h : E.Hp (fun x => M.ow o x) w0 (fun w => M.St oc w) [] w) :
    Calls Try.prog 39 #[.pointer (some ⟨o.m, 0, none⟩), .int .u32 ((a : Nat) : Int), .int .u8 v] w fun e w' => ∃ i : M.Obj, (M.Nxt w0 o i ∧ ∀ V, M.Sh oc V → M.Sh i (V.set a v)) ∧ e = .returned (.tuple #[]) ∧ E.Hp (fun x => M.ow o x) w0 (fun w => M.St i w) [] w' := by
  have hc := set_any oc a v ha hv w h.x
  rw [hd.m] at hc
  exact hc.mono fun e w' ⟨he, i, hs, hch, hn, hV⟩ => ⟨i, ⟨hd.trans hn h.ch.size, hV⟩, he, hs.hp (h.ch.trans' hch fun x hx hx2 => hd.ow x hx hx2)⟩
def M.V.put (V : M.V) (a : Nat) (v : Int) : Nat → M.V
  | 0 => V
  | c + 1 => (M.V.put V a v c).set ((a + c) % 4294967296) (IntKind.wrap .u8 (Int.fdiv v (2 ^ (8 * c))))
theorem Store_1 (o : M.Obj) (a : Nat) (v : Int) (ha : a < 4294967296) (w : World) (hst : M.St o w) : Calls Try.prog 18 #[.pointer (some ⟨o.m, 0, none⟩), .int .u32 ((a : Nat) : Int), .int .i64 1, .int .u32 v] w fun e w' => e = .returned (bif (M.chk o a 2 0 1).2 then .tuple #[.int .u32 0, .bool true] else .tuple #[.int .u32 (M.chk o a 2 0 1).1, .bool false]) ∧ ∃ o', M.St o' w' ∧ Ch (fun x => M.ow o x) w w' ∧ M.Nxt w o o' ∧ ∀ V, M.Sh o V → M.Sh o' (bif (M.chk o a 2 0 1).2 then V.put a v 1 else V) := by
  refine E.enter (n := 37) (S := fun x => M.ow o x) Try.func18 rfl rfl (by kernel_rfl) (hst.hp (Ch.refl _ _)) ?_
  refine E.C.seq ?_
  refine E.C.region ?_
  refine E.G.op (.int .u32 0) (fun w => by kernel_rfl) (by kernel_rfl) ?_
  refine E.G.op (.bool false) (fun w => by kernel_rfl) (by kernel_rfl) ?_
  refine E.To.code ?_
  refine E.C.seq ?_
  refine E.C.seq ?_
  refine E.C.region ?_
  refine E.G.op (.pointer (some ⟨o.m, 0, none⟩)) (fun w => by kernel_rfl) (by kernel_rfl) ?_
  refine E.G.op (.int .u32 ((a : Nat) : Int)) (fun w => by kernel_rfl) (by kernel_rfl) ?_
  refine E.G.op (.int .i64 1) (fun w => by kernel_rfl) (by kernel_rfl) ?_
  refine E.G.call (.tuple #[.int .u32 ((M.chk o a 2 0 1).1), .bool ((M.chk o a 2 0 1).2)]) (fun w h => check_any o a 1 2 (by omega) (by omega) w h.x.at_) (fun w _ => by kernel_rfl) (by kernel_rfl) ?_
  refine E.G.op (.tuple #[.int .u32 ((M.chk o a 2 0 1).1), .bool ((M.chk o a 2 0 1).2)]) (fun w => by kernel_rfl) (by kernel_rfl) ?_
  refine E.G.op (.int .u32 ((M.chk o a 2 0 1).1)) (fun w => by kernel_rfl) (by kernel_rfl) ?_
  refine E.G.op (.bool ((M.chk o a 2 0 1).2)) (fun w => by kernel_rfl) (by kernel_rfl) ?_
  refine E.G.op (.int .u32 ((M.chk o a 2 0 1).1)) (fun w => by kernel_rfl) (by kernel_rfl) ?_
  refine E.G.op (.bool ((M.chk o a 2 0 1).2)) (fun w => by kernel_rfl) (by kernel_rfl) ?_
  refine E.To.code ?_
  refine E.C.seq ?_
  refine E.C.region ?_
  refine E.G.op (.bool ((M.chk o a 2 0 1).2)) (fun w => by kernel_rfl) (by kernel_rfl) ?_
  refine E.G.op (.bool (!((M.chk o a 2 0 1).2))) (fun w => by kernel_rfl) (by kernel_rfl) ?_
  refine E.To.code ?_
  refine E.C.weak [(0, .pointer (some ⟨o.m, 0, none⟩)), (1, .int .u32 ((a : Nat) : Int)), (2, .int .i64 1), (3, .int .u32 v), (8, .int .u32 ((M.chk o a 2 0 1).1)), (9, .bool ((M.chk o a 2 0 1).2)), (19, .bool (!((M.chk o a 2 0 1).2)))] [] ⟨by kernel_rfl, by kernel_rfl⟩ (List.Sublist.refl _) ?_
  refine E.C.cond (!((M.chk o a 2 0 1).2)) (by kernel_rfl) (by kernel_rfl) (fun hc1 => ?_) (fun hc1 => ?_)
  · skip
    refine E.C.seq ?_
    refine E.C.region ?_
    refine E.G.op (.int .u32 ((M.chk o a 2 0 1).1)) (fun w => by kernel_rfl) (by kernel_rfl) ?_
    refine E.G.op (.int .u32 ((M.chk o a 2 0 1).1)) (fun w => by kernel_rfl) (by kernel_rfl) ?_
    refine E.G.op (.bool false) (fun w => by kernel_rfl) (by kernel_rfl) ?_
    refine E.To.code ?_
    refine E.C.ret (E.P.rt (E.To.body (fn := Try.f18) [.int .u32 ((M.chk o a 2 0 1).1), .bool false] ?_ ?_))
    · exact ⟨⟨by kernel_rfl, by kernel_rfl⟩, ⟨by kernel_rfl, by kernel_rfl⟩, trivial⟩
    · intro w h
      exact ⟨by rw [M.b0 hc1]; rfl, o, h.x, h.ch, M.Nxt.refl _ _, fun V hV => by rw [M.b0 hc1]; exact hV⟩
  · skip
    refine E.C.skip (E.To.code ?_)
    refine E.C.seq ?_
    refine E.C.seq ?_
    refine E.C.region ?_
    refine E.G.op (.int .i64 1) (fun w => by kernel_rfl) (by kernel_rfl) ?_
    refine E.G.op (.int .u32 1) (fun w => by kernel_rfl) (by kernel_rfl) ?_
    refine E.G.op (.int .u32 0) (fun w => by kernel_rfl) (by kernel_rfl) ?_
    refine E.To.code ?_
    refine E.C.block ?_
    refine E.C.rounds 5 ?_
    refine E.C.seq ?_
    refine E.C.region ?_
    refine E.G.op (.bool true) (fun w => by kernel_rfl) (by kernel_rfl) ?_
    refine E.To.code ?_
    refine E.C.seq ?_
    refine E.C.condT (by kernel_rfl) (by kernel_rfl) ?_
    refine E.C.skip (E.To.code ?_)
    refine E.C.seq ?_
    refine E.C.block ?_
    refine E.C.seq ?_
    refine E.C.region ?_
    refine E.G.op (.int .u32 0) (fun w => by kernel_rfl) (by kernel_rfl) ?_
    refine E.G.op (.int .u32 0) (fun w => by kernel_rfl) (by kernel_rfl) ?_
    refine E.To.code ?_
    refine E.C.region ?_
    refine E.G.op (.pointer (some ⟨o.m, 0, none⟩)) (fun w => by kernel_rfl) (by kernel_rfl) ?_
    refine E.G.op (.int .u32 ((a : Nat) : Int)) (fun w => by kernel_rfl) (by kernel_rfl) ?_
    refine E.G.op (.int .u32 0) (fun w => by kernel_rfl) (by kernel_rfl) ?_
    refine E.G.val (.int .u32 (((a + 0) % 4294967296 : Nat) : Int)) (by kernel_rfl) (fun w h => E.run_as (a := .int .u32 (IntKind.wrap .u32 (((a : Nat) : Int) + 0))) (by kernel_rfl) (congrArg (Value.int .u32) (by exact M.add32 a 0))) ?_
    refine E.G.op (.int .u32 v) (fun w => by kernel_rfl) (by kernel_rfl) ?_
    refine E.G.op (.int .u32 0) (fun w => by kernel_rfl) (by kernel_rfl) ?_
    refine E.G.op (.int .u32 0) (fun w => by kernel_rfl) (by kernel_rfl) ?_
    refine E.G.op (.int .u32 (Int.fdiv v (2 ^ 0))) (fun w => by kernel_rfl) (by kernel_rfl) ?_
    refine E.G.op (.int .u8 (IntKind.wrap .u8 (Int.fdiv v (2 ^ 0)))) (fun w => by kernel_rfl) (by kernel_rfl) ?_
    refine E.G.callX (I := M.Obj) (fun i => M.Nxt w o i ∧ ∀ V, M.Sh o V → M.Sh i (V.set ((a + 0) % 4294967296) (IntKind.wrap .u8 (Int.fdiv v (2 ^ 0))))) (fun _ => .tuple #[]) (fun i w => M.St i w) (fun _ => []) (fun u h => M.set_call (M.Nxt.refl w o) (by omega) (M.byte_bd _) h) (fun u _ => by kernel_rfl) (by kernel_rfl) (fun o1 hd1 => ?_)
    refine E.P.nb (E.To.code ?_)
    refine E.C.region ?_
    refine E.G.op (.int .u32 1) (fun w => by kernel_rfl) (by kernel_rfl) ?_
    refine E.G.op (.int .u32 1) (fun w => by kernel_rfl) (by kernel_rfl) ?_
    refine E.To.rounds 4 ?_
    refine E.C.weak [(0, .pointer (some ⟨o.m, 0, none⟩)), (1, .int .u32 ((a : Nat) : Int)), (3, .int .u32 v), (8, .int .u32 ((M.chk o a 2 0 1).1)), (9, .bool ((M.chk o a 2 0 1).2)), (10, .int .u32 0), (22, .int .u32 1), (23, .int .u32 1), (24, .bool true), (25, .int .u32 0), (26, .pointer (some ⟨o.m, 0, none⟩)), (27, .int .u32 ((a : Nat) : Int)), (28, .int .u32 0), (29, .int .u32 (((a + 0) % 4294967296 : Nat) : Int)), (30, .int .u32 v), (31, .int .u32 0), (32, .int .u32 0), (33, .int .u32 (Int.fdiv v (2 ^ 0))), (34, .int .u8 (IntKind.wrap .u8 (Int.fdiv v (2 ^ 0)))), (36, .int .u32 1)] [] ⟨by kernel_rfl, by kernel_rfl⟩ (List.Sublist.refl _) ?_
    refine E.C.seq ?_
    refine E.C.region ?_
    refine E.G.op (.bool false) (fun w => by kernel_rfl) (by kernel_rfl) ?_
    refine E.To.code ?_
    refine E.C.seq ?_
    refine E.C.condF (by kernel_rfl) (by kernel_rfl) ?_
    refine E.C.exit (E.P.et (E.P.et (E.P.eh (E.To.code ?_))))
    refine E.C.weak [(8, .int .u32 ((M.chk o a 2 0 1).1)), (9, .bool ((M.chk o a 2 0 1).2))] [] ⟨by kernel_rfl, by kernel_rfl⟩ (List.Sublist.refl _) ?_
    refine E.C.seq ?_
    refine E.C.region ?_
    refine E.G.op (.int .u32 0) (fun w => by kernel_rfl) (by kernel_rfl) ?_
    refine E.G.op (.bool true) (fun w => by kernel_rfl) (by kernel_rfl) ?_
    refine E.To.code ?_
    refine E.C.ret (E.To.body (fn := Try.f18) [.int .u32 0, .bool true] ?_ ?_)
    · exact ⟨⟨by kernel_rfl, by kernel_rfl⟩, ⟨by kernel_rfl, by kernel_rfl⟩, trivial⟩
    · intro w h
      exact ⟨by rw [M.b1 hc1]; rfl, o1, h.x, h.ch, hd1.1, fun V hV => by rw [M.b1 hc1]; exact (hd1.2 _ hV)⟩
theorem Store_2 (o : M.Obj) (a : Nat) (v : Int) (ha : a < 4294967296) (w : World) (hst : M.St o w) : Calls Try.prog 18 #[.pointer (some ⟨o.m, 0, none⟩), .int .u32 ((a : Nat) : Int), .int .i64 2, .int .u32 v] w fun e w' => e = .returned (bif (M.chk o a 2 0 2).2 then .tuple #[.int .u32 0, .bool true] else .tuple #[.int .u32 (M.chk o a 2 0 2).1, .bool false]) ∧ ∃ o', M.St o' w' ∧ Ch (fun x => M.ow o x) w w' ∧ M.Nxt w o o' ∧ ∀ V, M.Sh o V → M.Sh o' (bif (M.chk o a 2 0 2).2 then V.put a v 2 else V) := by
  refine E.enter (n := 37) (S := fun x => M.ow o x) Try.func18 rfl rfl (by kernel_rfl) (hst.hp (Ch.refl _ _)) ?_
  refine E.C.seq ?_
  refine E.C.region ?_
  refine E.G.op (.int .u32 0) (fun w => by kernel_rfl) (by kernel_rfl) ?_
  refine E.G.op (.bool false) (fun w => by kernel_rfl) (by kernel_rfl) ?_
  refine E.To.code ?_
  refine E.C.seq ?_
  refine E.C.seq ?_
  refine E.C.region ?_
  refine E.G.op (.pointer (some ⟨o.m, 0, none⟩)) (fun w => by kernel_rfl) (by kernel_rfl) ?_
  refine E.G.op (.int .u32 ((a : Nat) : Int)) (fun w => by kernel_rfl) (by kernel_rfl) ?_
  refine E.G.op (.int .i64 2) (fun w => by kernel_rfl) (by kernel_rfl) ?_
  refine E.G.call (.tuple #[.int .u32 ((M.chk o a 2 0 2).1), .bool ((M.chk o a 2 0 2).2)]) (fun w h => check_any o a 2 2 (by omega) (by omega) w h.x.at_) (fun w _ => by kernel_rfl) (by kernel_rfl) ?_
  refine E.G.op (.tuple #[.int .u32 ((M.chk o a 2 0 2).1), .bool ((M.chk o a 2 0 2).2)]) (fun w => by kernel_rfl) (by kernel_rfl) ?_
  refine E.G.op (.int .u32 ((M.chk o a 2 0 2).1)) (fun w => by kernel_rfl) (by kernel_rfl) ?_
  refine E.G.op (.bool ((M.chk o a 2 0 2).2)) (fun w => by kernel_rfl) (by kernel_rfl) ?_
  refine E.G.op (.int .u32 ((M.chk o a 2 0 2).1)) (fun w => by kernel_rfl) (by kernel_rfl) ?_
  refine E.G.op (.bool ((M.chk o a 2 0 2).2)) (fun w => by kernel_rfl) (by kernel_rfl) ?_
  refine E.To.code ?_
  refine E.C.seq ?_
  refine E.C.region ?_
  refine E.G.op (.bool ((M.chk o a 2 0 2).2)) (fun w => by kernel_rfl) (by kernel_rfl) ?_
  refine E.G.op (.bool (!((M.chk o a 2 0 2).2))) (fun w => by kernel_rfl) (by kernel_rfl) ?_
  refine E.To.code ?_
  refine E.C.weak [(0, .pointer (some ⟨o.m, 0, none⟩)), (1, .int .u32 ((a : Nat) : Int)), (2, .int .i64 2), (3, .int .u32 v), (8, .int .u32 ((M.chk o a 2 0 2).1)), (9, .bool ((M.chk o a 2 0 2).2)), (19, .bool (!((M.chk o a 2 0 2).2)))] [] ⟨by kernel_rfl, by kernel_rfl⟩ (List.Sublist.refl _) ?_
  refine E.C.cond (!((M.chk o a 2 0 2).2)) (by kernel_rfl) (by kernel_rfl) (fun hc1 => ?_) (fun hc1 => ?_)
  · skip
    refine E.C.seq ?_
    refine E.C.region ?_
    refine E.G.op (.int .u32 ((M.chk o a 2 0 2).1)) (fun w => by kernel_rfl) (by kernel_rfl) ?_
    refine E.G.op (.int .u32 ((M.chk o a 2 0 2).1)) (fun w => by kernel_rfl) (by kernel_rfl) ?_
    refine E.G.op (.bool false) (fun w => by kernel_rfl) (by kernel_rfl) ?_
    refine E.To.code ?_
    refine E.C.ret (E.P.rt (E.To.body (fn := Try.f18) [.int .u32 ((M.chk o a 2 0 2).1), .bool false] ?_ ?_))
    · exact ⟨⟨by kernel_rfl, by kernel_rfl⟩, ⟨by kernel_rfl, by kernel_rfl⟩, trivial⟩
    · intro w h
      exact ⟨by rw [M.b0 hc1]; rfl, o, h.x, h.ch, M.Nxt.refl _ _, fun V hV => by rw [M.b0 hc1]; exact hV⟩
  · skip
    refine E.C.skip (E.To.code ?_)
    refine E.C.seq ?_
    refine E.C.seq ?_
    refine E.C.region ?_
    refine E.G.op (.int .i64 2) (fun w => by kernel_rfl) (by kernel_rfl) ?_
    refine E.G.op (.int .u32 2) (fun w => by kernel_rfl) (by kernel_rfl) ?_
    refine E.G.op (.int .u32 0) (fun w => by kernel_rfl) (by kernel_rfl) ?_
    refine E.To.code ?_
    refine E.C.block ?_
    refine E.C.rounds 5 ?_
    refine E.C.seq ?_
    refine E.C.region ?_
    refine E.G.op (.bool true) (fun w => by kernel_rfl) (by kernel_rfl) ?_
    refine E.To.code ?_
    refine E.C.seq ?_
    refine E.C.condT (by kernel_rfl) (by kernel_rfl) ?_
    refine E.C.skip (E.To.code ?_)
    refine E.C.seq ?_
    refine E.C.block ?_
    refine E.C.seq ?_
    refine E.C.region ?_
    refine E.G.op (.int .u32 0) (fun w => by kernel_rfl) (by kernel_rfl) ?_
    refine E.G.op (.int .u32 0) (fun w => by kernel_rfl) (by kernel_rfl) ?_
    refine E.To.code ?_
    refine E.C.region ?_
    refine E.G.op (.pointer (some ⟨o.m, 0, none⟩)) (fun w => by kernel_rfl) (by kernel_rfl) ?_
    refine E.G.op (.int .u32 ((a : Nat) : Int)) (fun w => by kernel_rfl) (by kernel_rfl) ?_
    refine E.G.op (.int .u32 0) (fun w => by kernel_rfl) (by kernel_rfl) ?_
    refine E.G.val (.int .u32 (((a + 0) % 4294967296 : Nat) : Int)) (by kernel_rfl) (fun w h => E.run_as (a := .int .u32 (IntKind.wrap .u32 (((a : Nat) : Int) + 0))) (by kernel_rfl) (congrArg (Value.int .u32) (by exact M.add32 a 0))) ?_
    refine E.G.op (.int .u32 v) (fun w => by kernel_rfl) (by kernel_rfl) ?_
    refine E.G.op (.int .u32 0) (fun w => by kernel_rfl) (by kernel_rfl) ?_
    refine E.G.op (.int .u32 0) (fun w => by kernel_rfl) (by kernel_rfl) ?_
    refine E.G.op (.int .u32 (Int.fdiv v (2 ^ 0))) (fun w => by kernel_rfl) (by kernel_rfl) ?_
    refine E.G.op (.int .u8 (IntKind.wrap .u8 (Int.fdiv v (2 ^ 0)))) (fun w => by kernel_rfl) (by kernel_rfl) ?_
    refine E.G.callX (I := M.Obj) (fun i => M.Nxt w o i ∧ ∀ V, M.Sh o V → M.Sh i (V.set ((a + 0) % 4294967296) (IntKind.wrap .u8 (Int.fdiv v (2 ^ 0))))) (fun _ => .tuple #[]) (fun i w => M.St i w) (fun _ => []) (fun u h => M.set_call (M.Nxt.refl w o) (by omega) (M.byte_bd _) h) (fun u _ => by kernel_rfl) (by kernel_rfl) (fun o1 hd1 => ?_)
    refine E.P.nb (E.To.code ?_)
    refine E.C.region ?_
    refine E.G.op (.int .u32 1) (fun w => by kernel_rfl) (by kernel_rfl) ?_
    refine E.G.op (.int .u32 1) (fun w => by kernel_rfl) (by kernel_rfl) ?_
    refine E.To.rounds 4 ?_
    refine E.C.weak [(0, .pointer (some ⟨o.m, 0, none⟩)), (1, .int .u32 ((a : Nat) : Int)), (3, .int .u32 v), (8, .int .u32 ((M.chk o a 2 0 2).1)), (9, .bool ((M.chk o a 2 0 2).2)), (10, .int .u32 0), (22, .int .u32 2), (23, .int .u32 1), (24, .bool true), (25, .int .u32 0), (26, .pointer (some ⟨o.m, 0, none⟩)), (27, .int .u32 ((a : Nat) : Int)), (28, .int .u32 0), (29, .int .u32 (((a + 0) % 4294967296 : Nat) : Int)), (30, .int .u32 v), (31, .int .u32 0), (32, .int .u32 0), (33, .int .u32 (Int.fdiv v (2 ^ 0))), (34, .int .u8 (IntKind.wrap .u8 (Int.fdiv v (2 ^ 0)))), (36, .int .u32 1)] [] ⟨by kernel_rfl, by kernel_rfl⟩ (List.Sublist.refl _) ?_
    refine E.C.seq ?_
    refine E.C.region ?_
    refine E.G.op (.bool true) (fun w => by kernel_rfl) (by kernel_rfl) ?_
    refine E.To.code ?_
    refine E.C.seq ?_
    refine E.C.condT (by kernel_rfl) (by kernel_rfl) ?_
    refine E.C.skip (E.To.code ?_)
    refine E.C.seq ?_
    refine E.C.block ?_
    refine E.C.seq ?_
    refine E.C.region ?_
    refine E.G.op (.int .u32 1) (fun w => by kernel_rfl) (by kernel_rfl) ?_
    refine E.G.op (.int .u32 1) (fun w => by kernel_rfl) (by kernel_rfl) ?_
    refine E.To.code ?_
    refine E.C.region ?_
    refine E.G.op (.pointer (some ⟨o.m, 0, none⟩)) (fun w => by kernel_rfl) (by kernel_rfl) ?_
    refine E.G.op (.int .u32 ((a : Nat) : Int)) (fun w => by kernel_rfl) (by kernel_rfl) ?_
    refine E.G.op (.int .u32 1) (fun w => by kernel_rfl) (by kernel_rfl) ?_
    refine E.G.val (.int .u32 (((a + 1) % 4294967296 : Nat) : Int)) (by kernel_rfl) (fun w h => E.run_as (a := .int .u32 (IntKind.wrap .u32 (((a : Nat) : Int) + 1))) (by kernel_rfl) (congrArg (Value.int .u32) (by exact M.add32 a 1))) ?_
    refine E.G.op (.int .u32 v) (fun w => by kernel_rfl) (by kernel_rfl) ?_
    refine E.G.op (.int .u32 1) (fun w => by kernel_rfl) (by kernel_rfl) ?_
    refine E.G.op (.int .u32 8) (fun w => by kernel_rfl) (by kernel_rfl) ?_
    refine E.G.op (.int .u32 (Int.fdiv v (2 ^ 8))) (fun w => by kernel_rfl) (by kernel_rfl) ?_
    refine E.G.op (.int .u8 (IntKind.wrap .u8 (Int.fdiv v (2 ^ 8)))) (fun w => by kernel_rfl) (by kernel_rfl) ?_
    refine E.G.callX (I := M.Obj) (fun i => M.Nxt w o i ∧ ∀ V, M.Sh o1 V → M.Sh i (V.set ((a + 1) % 4294967296) (IntKind.wrap .u8 (Int.fdiv v (2 ^ 8))))) (fun _ => .tuple #[]) (fun i w => M.St i w) (fun _ => []) (fun u h => M.set_call hd1.1 (by omega) (M.byte_bd _) h) (fun u _ => by kernel_rfl) (by kernel_rfl) (fun o2 hd2 => ?_)
    refine E.P.nb (E.To.code ?_)
    refine E.C.region ?_
    refine E.G.op (.int .u32 2) (fun w => by kernel_rfl) (by kernel_rfl) ?_
    refine E.G.op (.int .u32 2) (fun w => by kernel_rfl) (by kernel_rfl) ?_
    refine E.To.rounds 3 ?_
    refine E.C.weak [(0, .pointer (some ⟨o.m, 0, none⟩)), (1, .int .u32 ((a : Nat) : Int)), (3, .int .u32 v), (8, .int .u32 ((M.chk o a 2 0 2).1)), (9, .bool ((M.chk o a 2 0 2).2)), (10, .int .u32 1), (22, .int .u32 2), (23, .int .u32 2), (24, .bool true), (25, .int .u32 1), (26, .pointer (some ⟨o.m, 0, none⟩)), (27, .int .u32 ((a : Nat) : Int)), (28, .int .u32 1), (29, .int .u32 (((a + 1) % 4294967296 : Nat) : Int)), (30, .int .u32 v), (31, .int .u32 1), (32, .int .u32 8), (33, .int .u32 (Int.fdiv v (2 ^ 8))), (34, .int .u8 (IntKind.wrap .u8 (Int.fdiv v (2 ^ 8)))), (36, .int .u32 2)] [] ⟨by kernel_rfl, by kernel_rfl⟩ (List.Sublist.refl _) ?_
    refine E.C.seq ?_
    refine E.C.region ?_
    refine E.G.op (.bool false) (fun w => by kernel_rfl) (by kernel_rfl) ?_
    refine E.To.code ?_
    refine E.C.seq ?_
    refine E.C.condF (by kernel_rfl) (by kernel_rfl) ?_
    refine E.C.exit (E.P.et (E.P.et (E.P.eh (E.To.code ?_))))
    refine E.C.weak [(8, .int .u32 ((M.chk o a 2 0 2).1)), (9, .bool ((M.chk o a 2 0 2).2))] [] ⟨by kernel_rfl, by kernel_rfl⟩ (List.Sublist.refl _) ?_
    refine E.C.seq ?_
    refine E.C.region ?_
    refine E.G.op (.int .u32 0) (fun w => by kernel_rfl) (by kernel_rfl) ?_
    refine E.G.op (.bool true) (fun w => by kernel_rfl) (by kernel_rfl) ?_
    refine E.To.code ?_
    refine E.C.ret (E.To.body (fn := Try.f18) [.int .u32 0, .bool true] ?_ ?_)
    · exact ⟨⟨by kernel_rfl, by kernel_rfl⟩, ⟨by kernel_rfl, by kernel_rfl⟩, trivial⟩
    · intro w h
      exact ⟨by rw [M.b1 hc1]; rfl, o2, h.x, h.ch, hd2.1, fun V hV => by rw [M.b1 hc1]; exact (hd2.2 _ (hd1.2 _ hV))⟩
theorem Store_3 (o : M.Obj) (a : Nat) (v : Int) (ha : a < 4294967296) (w : World) (hst : M.St o w) : Calls Try.prog 18 #[.pointer (some ⟨o.m, 0, none⟩), .int .u32 ((a : Nat) : Int), .int .i64 3, .int .u32 v] w fun e w' => e = .returned (bif (M.chk o a 2 0 3).2 then .tuple #[.int .u32 0, .bool true] else .tuple #[.int .u32 (M.chk o a 2 0 3).1, .bool false]) ∧ ∃ o', M.St o' w' ∧ Ch (fun x => M.ow o x) w w' ∧ M.Nxt w o o' ∧ ∀ V, M.Sh o V → M.Sh o' (bif (M.chk o a 2 0 3).2 then V.put a v 3 else V) := by
  refine E.enter (n := 37) (S := fun x => M.ow o x) Try.func18 rfl rfl (by kernel_rfl) (hst.hp (Ch.refl _ _)) ?_
  refine E.C.seq ?_
  refine E.C.region ?_
  refine E.G.op (.int .u32 0) (fun w => by kernel_rfl) (by kernel_rfl) ?_
  refine E.G.op (.bool false) (fun w => by kernel_rfl) (by kernel_rfl) ?_
  refine E.To.code ?_
  refine E.C.seq ?_
  refine E.C.seq ?_
  refine E.C.region ?_
  refine E.G.op (.pointer (some ⟨o.m, 0, none⟩)) (fun w => by kernel_rfl) (by kernel_rfl) ?_
  refine E.G.op (.int .u32 ((a : Nat) : Int)) (fun w => by kernel_rfl) (by kernel_rfl) ?_
  refine E.G.op (.int .i64 3) (fun w => by kernel_rfl) (by kernel_rfl) ?_
  refine E.G.call (.tuple #[.int .u32 ((M.chk o a 2 0 3).1), .bool ((M.chk o a 2 0 3).2)]) (fun w h => check_any o a 3 2 (by omega) (by omega) w h.x.at_) (fun w _ => by kernel_rfl) (by kernel_rfl) ?_
  refine E.G.op (.tuple #[.int .u32 ((M.chk o a 2 0 3).1), .bool ((M.chk o a 2 0 3).2)]) (fun w => by kernel_rfl) (by kernel_rfl) ?_
  refine E.G.op (.int .u32 ((M.chk o a 2 0 3).1)) (fun w => by kernel_rfl) (by kernel_rfl) ?_
  refine E.G.op (.bool ((M.chk o a 2 0 3).2)) (fun w => by kernel_rfl) (by kernel_rfl) ?_
  refine E.G.op (.int .u32 ((M.chk o a 2 0 3).1)) (fun w => by kernel_rfl) (by kernel_rfl) ?_
  refine E.G.op (.bool ((M.chk o a 2 0 3).2)) (fun w => by kernel_rfl) (by kernel_rfl) ?_
  refine E.To.code ?_
  refine E.C.seq ?_
  refine E.C.region ?_
  refine E.G.op (.bool ((M.chk o a 2 0 3).2)) (fun w => by kernel_rfl) (by kernel_rfl) ?_
  refine E.G.op (.bool (!((M.chk o a 2 0 3).2))) (fun w => by kernel_rfl) (by kernel_rfl) ?_
  refine E.To.code ?_
  refine E.C.weak [(0, .pointer (some ⟨o.m, 0, none⟩)), (1, .int .u32 ((a : Nat) : Int)), (2, .int .i64 3), (3, .int .u32 v), (8, .int .u32 ((M.chk o a 2 0 3).1)), (9, .bool ((M.chk o a 2 0 3).2)), (19, .bool (!((M.chk o a 2 0 3).2)))] [] ⟨by kernel_rfl, by kernel_rfl⟩ (List.Sublist.refl _) ?_
  refine E.C.cond (!((M.chk o a 2 0 3).2)) (by kernel_rfl) (by kernel_rfl) (fun hc1 => ?_) (fun hc1 => ?_)
  · skip
    refine E.C.seq ?_
    refine E.C.region ?_
    refine E.G.op (.int .u32 ((M.chk o a 2 0 3).1)) (fun w => by kernel_rfl) (by kernel_rfl) ?_
    refine E.G.op (.int .u32 ((M.chk o a 2 0 3).1)) (fun w => by kernel_rfl) (by kernel_rfl) ?_
    refine E.G.op (.bool false) (fun w => by kernel_rfl) (by kernel_rfl) ?_
    refine E.To.code ?_
    refine E.C.ret (E.P.rt (E.To.body (fn := Try.f18) [.int .u32 ((M.chk o a 2 0 3).1), .bool false] ?_ ?_))
    · exact ⟨⟨by kernel_rfl, by kernel_rfl⟩, ⟨by kernel_rfl, by kernel_rfl⟩, trivial⟩
    · intro w h
      exact ⟨by rw [M.b0 hc1]; rfl, o, h.x, h.ch, M.Nxt.refl _ _, fun V hV => by rw [M.b0 hc1]; exact hV⟩
  · skip
    refine E.C.skip (E.To.code ?_)
    refine E.C.seq ?_
    refine E.C.seq ?_
    refine E.C.region ?_
    refine E.G.op (.int .i64 3) (fun w => by kernel_rfl) (by kernel_rfl) ?_
    refine E.G.op (.int .u32 3) (fun w => by kernel_rfl) (by kernel_rfl) ?_
    refine E.G.op (.int .u32 0) (fun w => by kernel_rfl) (by kernel_rfl) ?_
    refine E.To.code ?_
    refine E.C.block ?_
    refine E.C.rounds 5 ?_
    refine E.C.seq ?_
    refine E.C.region ?_
    refine E.G.op (.bool true) (fun w => by kernel_rfl) (by kernel_rfl) ?_
    refine E.To.code ?_
    refine E.C.seq ?_
    refine E.C.condT (by kernel_rfl) (by kernel_rfl) ?_
    refine E.C.skip (E.To.code ?_)
    refine E.C.seq ?_
    refine E.C.block ?_
    refine E.C.seq ?_
    refine E.C.region ?_
    refine E.G.op (.int .u32 0) (fun w => by kernel_rfl) (by kernel_rfl) ?_
    refine E.G.op (.int .u32 0) (fun w => by kernel_rfl) (by kernel_rfl) ?_
    refine E.To.code ?_
    refine E.C.region ?_
    refine E.G.op (.pointer (some ⟨o.m, 0, none⟩)) (fun w => by kernel_rfl) (by kernel_rfl) ?_
    refine E.G.op (.int .u32 ((a : Nat) : Int)) (fun w => by kernel_rfl) (by kernel_rfl) ?_
    refine E.G.op (.int .u32 0) (fun w => by kernel_rfl) (by kernel_rfl) ?_
    refine E.G.val (.int .u32 (((a + 0) % 4294967296 : Nat) : Int)) (by kernel_rfl) (fun w h => E.run_as (a := .int .u32 (IntKind.wrap .u32 (((a : Nat) : Int) + 0))) (by kernel_rfl) (congrArg (Value.int .u32) (by exact M.add32 a 0))) ?_
    refine E.G.op (.int .u32 v) (fun w => by kernel_rfl) (by kernel_rfl) ?_
    refine E.G.op (.int .u32 0) (fun w => by kernel_rfl) (by kernel_rfl) ?_
    refine E.G.op (.int .u32 0) (fun w => by kernel_rfl) (by kernel_rfl) ?_
    refine E.G.op (.int .u32 (Int.fdiv v (2 ^ 0))) (fun w => by kernel_rfl) (by kernel_rfl) ?_
    refine E.G.op (.int .u8 (IntKind.wrap .u8 (Int.fdiv v (2 ^ 0)))) (fun w => by kernel_rfl) (by kernel_rfl) ?_
    refine E.G.callX (I := M.Obj) (fun i => M.Nxt w o i ∧ ∀ V, M.Sh o V → M.Sh i (V.set ((a + 0) % 4294967296) (IntKind.wrap .u8 (Int.fdiv v (2 ^ 0))))) (fun _ => .tuple #[]) (fun i w => M.St i w) (fun _ => []) (fun u h => M.set_call (M.Nxt.refl w o) (by omega) (M.byte_bd _) h) (fun u _ => by kernel_rfl) (by kernel_rfl) (fun o1 hd1 => ?_)
    refine E.P.nb (E.To.code ?_)
    refine E.C.region ?_
    refine E.G.op (.int .u32 1) (fun w => by kernel_rfl) (by kernel_rfl) ?_
    refine E.G.op (.int .u32 1) (fun w => by kernel_rfl) (by kernel_rfl) ?_
    refine E.To.rounds 4 ?_
    refine E.C.weak [(0, .pointer (some ⟨o.m, 0, none⟩)), (1, .int .u32 ((a : Nat) : Int)), (3, .int .u32 v), (8, .int .u32 ((M.chk o a 2 0 3).1)), (9, .bool ((M.chk o a 2 0 3).2)), (10, .int .u32 0), (22, .int .u32 3), (23, .int .u32 1), (24, .bool true), (25, .int .u32 0), (26, .pointer (some ⟨o.m, 0, none⟩)), (27, .int .u32 ((a : Nat) : Int)), (28, .int .u32 0), (29, .int .u32 (((a + 0) % 4294967296 : Nat) : Int)), (30, .int .u32 v), (31, .int .u32 0), (32, .int .u32 0), (33, .int .u32 (Int.fdiv v (2 ^ 0))), (34, .int .u8 (IntKind.wrap .u8 (Int.fdiv v (2 ^ 0)))), (36, .int .u32 1)] [] ⟨by kernel_rfl, by kernel_rfl⟩ (List.Sublist.refl _) ?_
    refine E.C.seq ?_
    refine E.C.region ?_
    refine E.G.op (.bool true) (fun w => by kernel_rfl) (by kernel_rfl) ?_
    refine E.To.code ?_
    refine E.C.seq ?_
    refine E.C.condT (by kernel_rfl) (by kernel_rfl) ?_
    refine E.C.skip (E.To.code ?_)
    refine E.C.seq ?_
    refine E.C.block ?_
    refine E.C.seq ?_
    refine E.C.region ?_
    refine E.G.op (.int .u32 1) (fun w => by kernel_rfl) (by kernel_rfl) ?_
    refine E.G.op (.int .u32 1) (fun w => by kernel_rfl) (by kernel_rfl) ?_
    refine E.To.code ?_
    refine E.C.region ?_
    refine E.G.op (.pointer (some ⟨o.m, 0, none⟩)) (fun w => by kernel_rfl) (by kernel_rfl) ?_
    refine E.G.op (.int .u32 ((a : Nat) : Int)) (fun w => by kernel_rfl) (by kernel_rfl) ?_
    refine E.G.op (.int .u32 1) (fun w => by kernel_rfl) (by kernel_rfl) ?_
    refine E.G.val (.int .u32 (((a + 1) % 4294967296 : Nat) : Int)) (by kernel_rfl) (fun w h => E.run_as (a := .int .u32 (IntKind.wrap .u32 (((a : Nat) : Int) + 1))) (by kernel_rfl) (congrArg (Value.int .u32) (by exact M.add32 a 1))) ?_
    refine E.G.op (.int .u32 v) (fun w => by kernel_rfl) (by kernel_rfl) ?_
    refine E.G.op (.int .u32 1) (fun w => by kernel_rfl) (by kernel_rfl) ?_
    refine E.G.op (.int .u32 8) (fun w => by kernel_rfl) (by kernel_rfl) ?_
    refine E.G.op (.int .u32 (Int.fdiv v (2 ^ 8))) (fun w => by kernel_rfl) (by kernel_rfl) ?_
    refine E.G.op (.int .u8 (IntKind.wrap .u8 (Int.fdiv v (2 ^ 8)))) (fun w => by kernel_rfl) (by kernel_rfl) ?_
    refine E.G.callX (I := M.Obj) (fun i => M.Nxt w o i ∧ ∀ V, M.Sh o1 V → M.Sh i (V.set ((a + 1) % 4294967296) (IntKind.wrap .u8 (Int.fdiv v (2 ^ 8))))) (fun _ => .tuple #[]) (fun i w => M.St i w) (fun _ => []) (fun u h => M.set_call hd1.1 (by omega) (M.byte_bd _) h) (fun u _ => by kernel_rfl) (by kernel_rfl) (fun o2 hd2 => ?_)
    refine E.P.nb (E.To.code ?_)
    refine E.C.region ?_
    refine E.G.op (.int .u32 2) (fun w => by kernel_rfl) (by kernel_rfl) ?_
    refine E.G.op (.int .u32 2) (fun w => by kernel_rfl) (by kernel_rfl) ?_
    refine E.To.rounds 3 ?_
    refine E.C.weak [(0, .pointer (some ⟨o.m, 0, none⟩)), (1, .int .u32 ((a : Nat) : Int)), (3, .int .u32 v), (8, .int .u32 ((M.chk o a 2 0 3).1)), (9, .bool ((M.chk o a 2 0 3).2)), (10, .int .u32 1), (22, .int .u32 3), (23, .int .u32 2), (24, .bool true), (25, .int .u32 1), (26, .pointer (some ⟨o.m, 0, none⟩)), (27, .int .u32 ((a : Nat) : Int)), (28, .int .u32 1), (29, .int .u32 (((a + 1) % 4294967296 : Nat) : Int)), (30, .int .u32 v), (31, .int .u32 1), (32, .int .u32 8), (33, .int .u32 (Int.fdiv v (2 ^ 8))), (34, .int .u8 (IntKind.wrap .u8 (Int.fdiv v (2 ^ 8)))), (36, .int .u32 2)] [] ⟨by kernel_rfl, by kernel_rfl⟩ (List.Sublist.refl _) ?_
    refine E.C.seq ?_
    refine E.C.region ?_
    refine E.G.op (.bool true) (fun w => by kernel_rfl) (by kernel_rfl) ?_
    refine E.To.code ?_
    refine E.C.seq ?_
    refine E.C.condT (by kernel_rfl) (by kernel_rfl) ?_
    refine E.C.skip (E.To.code ?_)
    refine E.C.seq ?_
    refine E.C.block ?_
    refine E.C.seq ?_
    refine E.C.region ?_
    refine E.G.op (.int .u32 2) (fun w => by kernel_rfl) (by kernel_rfl) ?_
    refine E.G.op (.int .u32 2) (fun w => by kernel_rfl) (by kernel_rfl) ?_
    refine E.To.code ?_
    refine E.C.region ?_
    refine E.G.op (.pointer (some ⟨o.m, 0, none⟩)) (fun w => by kernel_rfl) (by kernel_rfl) ?_
    refine E.G.op (.int .u32 ((a : Nat) : Int)) (fun w => by kernel_rfl) (by kernel_rfl) ?_
    refine E.G.op (.int .u32 2) (fun w => by kernel_rfl) (by kernel_rfl) ?_
    refine E.G.val (.int .u32 (((a + 2) % 4294967296 : Nat) : Int)) (by kernel_rfl) (fun w h => E.run_as (a := .int .u32 (IntKind.wrap .u32 (((a : Nat) : Int) + 2))) (by kernel_rfl) (congrArg (Value.int .u32) (by exact M.add32 a 2))) ?_
    refine E.G.op (.int .u32 v) (fun w => by kernel_rfl) (by kernel_rfl) ?_
    refine E.G.op (.int .u32 2) (fun w => by kernel_rfl) (by kernel_rfl) ?_
    refine E.G.op (.int .u32 16) (fun w => by kernel_rfl) (by kernel_rfl) ?_
    refine E.G.op (.int .u32 (Int.fdiv v (2 ^ 16))) (fun w => by kernel_rfl) (by kernel_rfl) ?_
    refine E.G.op (.int .u8 (IntKind.wrap .u8 (Int.fdiv v (2 ^ 16)))) (fun w => by kernel_rfl) (by kernel_rfl) ?_
    refine E.G.callX (I := M.Obj) (fun i => M.Nxt w o i ∧ ∀ V, M.Sh o2 V → M.Sh i (V.set ((a + 2) % 4294967296) (IntKind.wrap .u8 (Int.fdiv v (2 ^ 16))))) (fun _ => .tuple #[]) (fun i w => M.St i w) (fun _ => []) (fun u h => M.set_call hd2.1 (by omega) (M.byte_bd _) h) (fun u _ => by kernel_rfl) (by kernel_rfl) (fun o3 hd3 => ?_)
    refine E.P.nb (E.To.code ?_)
    refine E.C.region ?_
    refine E.G.op (.int .u32 3) (fun w => by kernel_rfl) (by kernel_rfl) ?_
    refine E.G.op (.int .u32 3) (fun w => by kernel_rfl) (by kernel_rfl) ?_
    refine E.To.rounds 2 ?_
    refine E.C.weak [(0, .pointer (some ⟨o.m, 0, none⟩)), (1, .int .u32 ((a : Nat) : Int)), (3, .int .u32 v), (8, .int .u32 ((M.chk o a 2 0 3).1)), (9, .bool ((M.chk o a 2 0 3).2)), (10, .int .u32 2), (22, .int .u32 3), (23, .int .u32 3), (24, .bool true), (25, .int .u32 2), (26, .pointer (some ⟨o.m, 0, none⟩)), (27, .int .u32 ((a : Nat) : Int)), (28, .int .u32 2), (29, .int .u32 (((a + 2) % 4294967296 : Nat) : Int)), (30, .int .u32 v), (31, .int .u32 2), (32, .int .u32 16), (33, .int .u32 (Int.fdiv v (2 ^ 16))), (34, .int .u8 (IntKind.wrap .u8 (Int.fdiv v (2 ^ 16)))), (36, .int .u32 3)] [] ⟨by kernel_rfl, by kernel_rfl⟩ (List.Sublist.refl _) ?_
    refine E.C.seq ?_
    refine E.C.region ?_
    refine E.G.op (.bool false) (fun w => by kernel_rfl) (by kernel_rfl) ?_
    refine E.To.code ?_
    refine E.C.seq ?_
    refine E.C.condF (by kernel_rfl) (by kernel_rfl) ?_
    refine E.C.exit (E.P.et (E.P.et (E.P.eh (E.To.code ?_))))
    refine E.C.weak [(8, .int .u32 ((M.chk o a 2 0 3).1)), (9, .bool ((M.chk o a 2 0 3).2))] [] ⟨by kernel_rfl, by kernel_rfl⟩ (List.Sublist.refl _) ?_
    refine E.C.seq ?_
    refine E.C.region ?_
    refine E.G.op (.int .u32 0) (fun w => by kernel_rfl) (by kernel_rfl) ?_
    refine E.G.op (.bool true) (fun w => by kernel_rfl) (by kernel_rfl) ?_
    refine E.To.code ?_
    refine E.C.ret (E.To.body (fn := Try.f18) [.int .u32 0, .bool true] ?_ ?_)
    · exact ⟨⟨by kernel_rfl, by kernel_rfl⟩, ⟨by kernel_rfl, by kernel_rfl⟩, trivial⟩
    · intro w h
      exact ⟨by rw [M.b1 hc1]; rfl, o3, h.x, h.ch, hd3.1, fun V hV => by rw [M.b1 hc1]; exact (hd3.2 _ (hd2.2 _ (hd1.2 _ hV)))⟩
theorem Store_4 (o : M.Obj) (a : Nat) (v : Int) (ha : a < 4294967296) (w : World) (hst : M.St o w) : Calls Try.prog 18 #[.pointer (some ⟨o.m, 0, none⟩), .int .u32 ((a : Nat) : Int), .int .i64 4, .int .u32 v] w fun e w' => e = .returned (bif (M.chk o a 2 0 4).2 then .tuple #[.int .u32 0, .bool true] else .tuple #[.int .u32 (M.chk o a 2 0 4).1, .bool false]) ∧ ∃ o', M.St o' w' ∧ Ch (fun x => M.ow o x) w w' ∧ M.Nxt w o o' ∧ ∀ V, M.Sh o V → M.Sh o' (bif (M.chk o a 2 0 4).2 then V.put a v 4 else V) := by
  refine E.enter (n := 37) (S := fun x => M.ow o x) Try.func18 rfl rfl (by kernel_rfl) (hst.hp (Ch.refl _ _)) ?_
  refine E.C.seq ?_
  refine E.C.region ?_
  refine E.G.op (.int .u32 0) (fun w => by kernel_rfl) (by kernel_rfl) ?_
  refine E.G.op (.bool false) (fun w => by kernel_rfl) (by kernel_rfl) ?_
  refine E.To.code ?_
  refine E.C.seq ?_
  refine E.C.seq ?_
  refine E.C.region ?_
  refine E.G.op (.pointer (some ⟨o.m, 0, none⟩)) (fun w => by kernel_rfl) (by kernel_rfl) ?_
  refine E.G.op (.int .u32 ((a : Nat) : Int)) (fun w => by kernel_rfl) (by kernel_rfl) ?_
  refine E.G.op (.int .i64 4) (fun w => by kernel_rfl) (by kernel_rfl) ?_
  refine E.G.call (.tuple #[.int .u32 ((M.chk o a 2 0 4).1), .bool ((M.chk o a 2 0 4).2)]) (fun w h => check_any o a 4 2 (by omega) (by omega) w h.x.at_) (fun w _ => by kernel_rfl) (by kernel_rfl) ?_
  refine E.G.op (.tuple #[.int .u32 ((M.chk o a 2 0 4).1), .bool ((M.chk o a 2 0 4).2)]) (fun w => by kernel_rfl) (by kernel_rfl) ?_
  refine E.G.op (.int .u32 ((M.chk o a 2 0 4).1)) (fun w => by kernel_rfl) (by kernel_rfl) ?_
  refine E.G.op (.bool ((M.chk o a 2 0 4).2)) (fun w => by kernel_rfl) (by kernel_rfl) ?_
  refine E.G.op (.int .u32 ((M.chk o a 2 0 4).1)) (fun w => by kernel_rfl) (by kernel_rfl) ?_
  refine E.G.op (.bool ((M.chk o a 2 0 4).2)) (fun w => by kernel_rfl) (by kernel_rfl) ?_
  refine E.To.code ?_
  refine E.C.seq ?_
  refine E.C.region ?_
  refine E.G.op (.bool ((M.chk o a 2 0 4).2)) (fun w => by kernel_rfl) (by kernel_rfl) ?_
  refine E.G.op (.bool (!((M.chk o a 2 0 4).2))) (fun w => by kernel_rfl) (by kernel_rfl) ?_
  refine E.To.code ?_
  refine E.C.weak [(0, .pointer (some ⟨o.m, 0, none⟩)), (1, .int .u32 ((a : Nat) : Int)), (2, .int .i64 4), (3, .int .u32 v), (8, .int .u32 ((M.chk o a 2 0 4).1)), (9, .bool ((M.chk o a 2 0 4).2)), (19, .bool (!((M.chk o a 2 0 4).2)))] [] ⟨by kernel_rfl, by kernel_rfl⟩ (List.Sublist.refl _) ?_
  refine E.C.cond (!((M.chk o a 2 0 4).2)) (by kernel_rfl) (by kernel_rfl) (fun hc1 => ?_) (fun hc1 => ?_)
  · skip
    refine E.C.seq ?_
    refine E.C.region ?_
    refine E.G.op (.int .u32 ((M.chk o a 2 0 4).1)) (fun w => by kernel_rfl) (by kernel_rfl) ?_
    refine E.G.op (.int .u32 ((M.chk o a 2 0 4).1)) (fun w => by kernel_rfl) (by kernel_rfl) ?_
    refine E.G.op (.bool false) (fun w => by kernel_rfl) (by kernel_rfl) ?_
    refine E.To.code ?_
    refine E.C.ret (E.P.rt (E.To.body (fn := Try.f18) [.int .u32 ((M.chk o a 2 0 4).1), .bool false] ?_ ?_))
    · exact ⟨⟨by kernel_rfl, by kernel_rfl⟩, ⟨by kernel_rfl, by kernel_rfl⟩, trivial⟩
    · intro w h
      exact ⟨by rw [M.b0 hc1]; rfl, o, h.x, h.ch, M.Nxt.refl _ _, fun V hV => by rw [M.b0 hc1]; exact hV⟩
  · skip
    refine E.C.skip (E.To.code ?_)
    refine E.C.seq ?_
    refine E.C.seq ?_
    refine E.C.region ?_
    refine E.G.op (.int .i64 4) (fun w => by kernel_rfl) (by kernel_rfl) ?_
    refine E.G.op (.int .u32 4) (fun w => by kernel_rfl) (by kernel_rfl) ?_
    refine E.G.op (.int .u32 0) (fun w => by kernel_rfl) (by kernel_rfl) ?_
    refine E.To.code ?_
    refine E.C.block ?_
    refine E.C.rounds 5 ?_
    refine E.C.seq ?_
    refine E.C.region ?_
    refine E.G.op (.bool true) (fun w => by kernel_rfl) (by kernel_rfl) ?_
    refine E.To.code ?_
    refine E.C.seq ?_
    refine E.C.condT (by kernel_rfl) (by kernel_rfl) ?_
    refine E.C.skip (E.To.code ?_)
    refine E.C.seq ?_
    refine E.C.block ?_
    refine E.C.seq ?_
    refine E.C.region ?_
    refine E.G.op (.int .u32 0) (fun w => by kernel_rfl) (by kernel_rfl) ?_
    refine E.G.op (.int .u32 0) (fun w => by kernel_rfl) (by kernel_rfl) ?_
    refine E.To.code ?_
    refine E.C.region ?_
    refine E.G.op (.pointer (some ⟨o.m, 0, none⟩)) (fun w => by kernel_rfl) (by kernel_rfl) ?_
    refine E.G.op (.int .u32 ((a : Nat) : Int)) (fun w => by kernel_rfl) (by kernel_rfl) ?_
    refine E.G.op (.int .u32 0) (fun w => by kernel_rfl) (by kernel_rfl) ?_
    refine E.G.val (.int .u32 (((a + 0) % 4294967296 : Nat) : Int)) (by kernel_rfl) (fun w h => E.run_as (a := .int .u32 (IntKind.wrap .u32 (((a : Nat) : Int) + 0))) (by kernel_rfl) (congrArg (Value.int .u32) (by exact M.add32 a 0))) ?_
    refine E.G.op (.int .u32 v) (fun w => by kernel_rfl) (by kernel_rfl) ?_
    refine E.G.op (.int .u32 0) (fun w => by kernel_rfl) (by kernel_rfl) ?_
    refine E.G.op (.int .u32 0) (fun w => by kernel_rfl) (by kernel_rfl) ?_
    refine E.G.op (.int .u32 (Int.fdiv v (2 ^ 0))) (fun w => by kernel_rfl) (by kernel_rfl) ?_
    refine E.G.op (.int .u8 (IntKind.wrap .u8 (Int.fdiv v (2 ^ 0)))) (fun w => by kernel_rfl) (by kernel_rfl) ?_
    refine E.G.callX (I := M.Obj) (fun i => M.Nxt w o i ∧ ∀ V, M.Sh o V → M.Sh i (V.set ((a + 0) % 4294967296) (IntKind.wrap .u8 (Int.fdiv v (2 ^ 0))))) (fun _ => .tuple #[]) (fun i w => M.St i w) (fun _ => []) (fun u h => M.set_call (M.Nxt.refl w o) (by omega) (M.byte_bd _) h) (fun u _ => by kernel_rfl) (by kernel_rfl) (fun o1 hd1 => ?_)
    refine E.P.nb (E.To.code ?_)
    refine E.C.region ?_
    refine E.G.op (.int .u32 1) (fun w => by kernel_rfl) (by kernel_rfl) ?_
    refine E.G.op (.int .u32 1) (fun w => by kernel_rfl) (by kernel_rfl) ?_
    refine E.To.rounds 4 ?_
    refine E.C.weak [(0, .pointer (some ⟨o.m, 0, none⟩)), (1, .int .u32 ((a : Nat) : Int)), (3, .int .u32 v), (8, .int .u32 ((M.chk o a 2 0 4).1)), (9, .bool ((M.chk o a 2 0 4).2)), (10, .int .u32 0), (22, .int .u32 4), (23, .int .u32 1), (24, .bool true), (25, .int .u32 0), (26, .pointer (some ⟨o.m, 0, none⟩)), (27, .int .u32 ((a : Nat) : Int)), (28, .int .u32 0), (29, .int .u32 (((a + 0) % 4294967296 : Nat) : Int)), (30, .int .u32 v), (31, .int .u32 0), (32, .int .u32 0), (33, .int .u32 (Int.fdiv v (2 ^ 0))), (34, .int .u8 (IntKind.wrap .u8 (Int.fdiv v (2 ^ 0)))), (36, .int .u32 1)] [] ⟨by kernel_rfl, by kernel_rfl⟩ (List.Sublist.refl _) ?_
    refine E.C.seq ?_
    refine E.C.region ?_
    refine E.G.op (.bool true) (fun w => by kernel_rfl) (by kernel_rfl) ?_
    refine E.To.code ?_
    refine E.C.seq ?_
    refine E.C.condT (by kernel_rfl) (by kernel_rfl) ?_
    refine E.C.skip (E.To.code ?_)
    refine E.C.seq ?_
    refine E.C.block ?_
    refine E.C.seq ?_
    refine E.C.region ?_
    refine E.G.op (.int .u32 1) (fun w => by kernel_rfl) (by kernel_rfl) ?_
    refine E.G.op (.int .u32 1) (fun w => by kernel_rfl) (by kernel_rfl) ?_
    refine E.To.code ?_
    refine E.C.region ?_
    refine E.G.op (.pointer (some ⟨o.m, 0, none⟩)) (fun w => by kernel_rfl) (by kernel_rfl) ?_
    refine E.G.op (.int .u32 ((a : Nat) : Int)) (fun w => by kernel_rfl) (by kernel_rfl) ?_
    refine E.G.op (.int .u32 1) (fun w => by kernel_rfl) (by kernel_rfl) ?_
    refine E.G.val (.int .u32 (((a + 1) % 4294967296 : Nat) : Int)) (by kernel_rfl) (fun w h => E.run_as (a := .int .u32 (IntKind.wrap .u32 (((a : Nat) : Int) + 1))) (by kernel_rfl) (congrArg (Value.int .u32) (by exact M.add32 a 1))) ?_
    refine E.G.op (.int .u32 v) (fun w => by kernel_rfl) (by kernel_rfl) ?_
    refine E.G.op (.int .u32 1) (fun w => by kernel_rfl) (by kernel_rfl) ?_
    refine E.G.op (.int .u32 8) (fun w => by kernel_rfl) (by kernel_rfl) ?_
    refine E.G.op (.int .u32 (Int.fdiv v (2 ^ 8))) (fun w => by kernel_rfl) (by kernel_rfl) ?_
    refine E.G.op (.int .u8 (IntKind.wrap .u8 (Int.fdiv v (2 ^ 8)))) (fun w => by kernel_rfl) (by kernel_rfl) ?_
    refine E.G.callX (I := M.Obj) (fun i => M.Nxt w o i ∧ ∀ V, M.Sh o1 V → M.Sh i (V.set ((a + 1) % 4294967296) (IntKind.wrap .u8 (Int.fdiv v (2 ^ 8))))) (fun _ => .tuple #[]) (fun i w => M.St i w) (fun _ => []) (fun u h => M.set_call hd1.1 (by omega) (M.byte_bd _) h) (fun u _ => by kernel_rfl) (by kernel_rfl) (fun o2 hd2 => ?_)
    refine E.P.nb (E.To.code ?_)
    refine E.C.region ?_
    refine E.G.op (.int .u32 2) (fun w => by kernel_rfl) (by kernel_rfl) ?_
    refine E.G.op (.int .u32 2) (fun w => by kernel_rfl) (by kernel_rfl) ?_
    refine E.To.rounds 3 ?_
    refine E.C.weak [(0, .pointer (some ⟨o.m, 0, none⟩)), (1, .int .u32 ((a : Nat) : Int)), (3, .int .u32 v), (8, .int .u32 ((M.chk o a 2 0 4).1)), (9, .bool ((M.chk o a 2 0 4).2)), (10, .int .u32 1), (22, .int .u32 4), (23, .int .u32 2), (24, .bool true), (25, .int .u32 1), (26, .pointer (some ⟨o.m, 0, none⟩)), (27, .int .u32 ((a : Nat) : Int)), (28, .int .u32 1), (29, .int .u32 (((a + 1) % 4294967296 : Nat) : Int)), (30, .int .u32 v), (31, .int .u32 1), (32, .int .u32 8), (33, .int .u32 (Int.fdiv v (2 ^ 8))), (34, .int .u8 (IntKind.wrap .u8 (Int.fdiv v (2 ^ 8)))), (36, .int .u32 2)] [] ⟨by kernel_rfl, by kernel_rfl⟩ (List.Sublist.refl _) ?_
    refine E.C.seq ?_
    refine E.C.region ?_
    refine E.G.op (.bool true) (fun w => by kernel_rfl) (by kernel_rfl) ?_
    refine E.To.code ?_
    refine E.C.seq ?_
    refine E.C.condT (by kernel_rfl) (by kernel_rfl) ?_
    refine E.C.skip (E.To.code ?_)
    refine E.C.seq ?_
    refine E.C.block ?_
    refine E.C.seq ?_
    refine E.C.region ?_
    refine E.G.op (.int .u32 2) (fun w => by kernel_rfl) (by kernel_rfl) ?_
    refine E.G.op (.int .u32 2) (fun w => by kernel_rfl) (by kernel_rfl) ?_
    refine E.To.code ?_
    refine E.C.region ?_
    refine E.G.op (.pointer (some ⟨o.m, 0, none⟩)) (fun w => by kernel_rfl) (by kernel_rfl) ?_
    refine E.G.op (.int .u32 ((a : Nat) : Int)) (fun w => by kernel_rfl) (by kernel_rfl) ?_
    refine E.G.op (.int .u32 2) (fun w => by kernel_rfl) (by kernel_rfl) ?_
    refine E.G.val (.int .u32 (((a + 2) % 4294967296 : Nat) : Int)) (by kernel_rfl) (fun w h => E.run_as (a := .int .u32 (IntKind.wrap .u32 (((a : Nat) : Int) + 2))) (by kernel_rfl) (congrArg (Value.int .u32) (by exact M.add32 a 2))) ?_
    refine E.G.op (.int .u32 v) (fun w => by kernel_rfl) (by kernel_rfl) ?_
    refine E.G.op (.int .u32 2) (fun w => by kernel_rfl) (by kernel_rfl) ?_
    refine E.G.op (.int .u32 16) (fun w => by kernel_rfl) (by kernel_rfl) ?_
    refine E.G.op (.int .u32 (Int.fdiv v (2 ^ 16))) (fun w => by kernel_rfl) (by kernel_rfl) ?_
    refine E.G.op (.int .u8 (IntKind.wrap .u8 (Int.fdiv v (2 ^ 16)))) (fun w => by kernel_rfl) (by kernel_rfl) ?_
    refine E.G.callX (I := M.Obj) (fun i => M.Nxt w o i ∧ ∀ V, M.Sh o2 V → M.Sh i (V.set ((a + 2) % 4294967296) (IntKind.wrap .u8 (Int.fdiv v (2 ^ 16))))) (fun _ => .tuple #[]) (fun i w => M.St i w) (fun _ => []) (fun u h => M.set_call hd2.1 (by omega) (M.byte_bd _) h) (fun u _ => by kernel_rfl) (by kernel_rfl) (fun o3 hd3 => ?_)
    refine E.P.nb (E.To.code ?_)
    refine E.C.region ?_
    refine E.G.op (.int .u32 3) (fun w => by kernel_rfl) (by kernel_rfl) ?_
    refine E.G.op (.int .u32 3) (fun w => by kernel_rfl) (by kernel_rfl) ?_
    refine E.To.rounds 2 ?_
    refine E.C.weak [(0, .pointer (some ⟨o.m, 0, none⟩)), (1, .int .u32 ((a : Nat) : Int)), (3, .int .u32 v), (8, .int .u32 ((M.chk o a 2 0 4).1)), (9, .bool ((M.chk o a 2 0 4).2)), (10, .int .u32 2), (22, .int .u32 4), (23, .int .u32 3), (24, .bool true), (25, .int .u32 2), (26, .pointer (some ⟨o.m, 0, none⟩)), (27, .int .u32 ((a : Nat) : Int)), (28, .int .u32 2), (29, .int .u32 (((a + 2) % 4294967296 : Nat) : Int)), (30, .int .u32 v), (31, .int .u32 2), (32, .int .u32 16), (33, .int .u32 (Int.fdiv v (2 ^ 16))), (34, .int .u8 (IntKind.wrap .u8 (Int.fdiv v (2 ^ 16)))), (36, .int .u32 3)] [] ⟨by kernel_rfl, by kernel_rfl⟩ (List.Sublist.refl _) ?_
    refine E.C.seq ?_
    refine E.C.region ?_
    refine E.G.op (.bool true) (fun w => by kernel_rfl) (by kernel_rfl) ?_
    refine E.To.code ?_
    refine E.C.seq ?_
    refine E.C.condT (by kernel_rfl) (by kernel_rfl) ?_
    refine E.C.skip (E.To.code ?_)
    refine E.C.seq ?_
    refine E.C.block ?_
    refine E.C.seq ?_
    refine E.C.region ?_
    refine E.G.op (.int .u32 3) (fun w => by kernel_rfl) (by kernel_rfl) ?_
    refine E.G.op (.int .u32 3) (fun w => by kernel_rfl) (by kernel_rfl) ?_
    refine E.To.code ?_
    refine E.C.region ?_
    refine E.G.op (.pointer (some ⟨o.m, 0, none⟩)) (fun w => by kernel_rfl) (by kernel_rfl) ?_
    refine E.G.op (.int .u32 ((a : Nat) : Int)) (fun w => by kernel_rfl) (by kernel_rfl) ?_
    refine E.G.op (.int .u32 3) (fun w => by kernel_rfl) (by kernel_rfl) ?_
    refine E.G.val (.int .u32 (((a + 3) % 4294967296 : Nat) : Int)) (by kernel_rfl) (fun w h => E.run_as (a := .int .u32 (IntKind.wrap .u32 (((a : Nat) : Int) + 3))) (by kernel_rfl) (congrArg (Value.int .u32) (by exact M.add32 a 3))) ?_
    refine E.G.op (.int .u32 v) (fun w => by kernel_rfl) (by kernel_rfl) ?_
    refine E.G.op (.int .u32 3) (fun w => by kernel_rfl) (by kernel_rfl) ?_
    refine E.G.op (.int .u32 24) (fun w => by kernel_rfl) (by kernel_rfl) ?_
    refine E.G.op (.int .u32 (Int.fdiv v (2 ^ 24))) (fun w => by kernel_rfl) (by kernel_rfl) ?_
    refine E.G.op (.int .u8 (IntKind.wrap .u8 (Int.fdiv v (2 ^ 24)))) (fun w => by kernel_rfl) (by kernel_rfl) ?_
    refine E.G.callX (I := M.Obj) (fun i => M.Nxt w o i ∧ ∀ V, M.Sh o3 V → M.Sh i (V.set ((a + 3) % 4294967296) (IntKind.wrap .u8 (Int.fdiv v (2 ^ 24))))) (fun _ => .tuple #[]) (fun i w => M.St i w) (fun _ => []) (fun u h => M.set_call hd3.1 (by omega) (M.byte_bd _) h) (fun u _ => by kernel_rfl) (by kernel_rfl) (fun o4 hd4 => ?_)
    refine E.P.nb (E.To.code ?_)
    refine E.C.region ?_
    refine E.G.op (.int .u32 4) (fun w => by kernel_rfl) (by kernel_rfl) ?_
    refine E.G.op (.int .u32 4) (fun w => by kernel_rfl) (by kernel_rfl) ?_
    refine E.To.rounds 1 ?_
    refine E.C.weak [(0, .pointer (some ⟨o.m, 0, none⟩)), (1, .int .u32 ((a : Nat) : Int)), (3, .int .u32 v), (8, .int .u32 ((M.chk o a 2 0 4).1)), (9, .bool ((M.chk o a 2 0 4).2)), (10, .int .u32 3), (22, .int .u32 4), (23, .int .u32 4), (24, .bool true), (25, .int .u32 3), (26, .pointer (some ⟨o.m, 0, none⟩)), (27, .int .u32 ((a : Nat) : Int)), (28, .int .u32 3), (29, .int .u32 (((a + 3) % 4294967296 : Nat) : Int)), (30, .int .u32 v), (31, .int .u32 3), (32, .int .u32 24), (33, .int .u32 (Int.fdiv v (2 ^ 24))), (34, .int .u8 (IntKind.wrap .u8 (Int.fdiv v (2 ^ 24)))), (36, .int .u32 4)] [] ⟨by kernel_rfl, by kernel_rfl⟩ (List.Sublist.refl _) ?_
    refine E.C.seq ?_
    refine E.C.region ?_
    refine E.G.op (.bool false) (fun w => by kernel_rfl) (by kernel_rfl) ?_
    refine E.To.code ?_
    refine E.C.seq ?_
    refine E.C.condF (by kernel_rfl) (by kernel_rfl) ?_
    refine E.C.exit (E.P.et (E.P.et (E.P.eh (E.To.code ?_))))
    refine E.C.weak [(8, .int .u32 ((M.chk o a 2 0 4).1)), (9, .bool ((M.chk o a 2 0 4).2))] [] ⟨by kernel_rfl, by kernel_rfl⟩ (List.Sublist.refl _) ?_
    refine E.C.seq ?_
    refine E.C.region ?_
    refine E.G.op (.int .u32 0) (fun w => by kernel_rfl) (by kernel_rfl) ?_
    refine E.G.op (.bool true) (fun w => by kernel_rfl) (by kernel_rfl) ?_
    refine E.To.code ?_
    refine E.C.ret (E.To.body (fn := Try.f18) [.int .u32 0, .bool true] ?_ ?_)
    · exact ⟨⟨by kernel_rfl, by kernel_rfl⟩, ⟨by kernel_rfl, by kernel_rfl⟩, trivial⟩
    · intro w h
      exact ⟨by rw [M.b1 hc1]; rfl, o4, h.x, h.ch, hd4.1, fun V hV => by rw [M.b1 hc1]; exact (hd4.2 _ (hd3.2 _ (hd2.2 _ (hd1.2 _ hV))))⟩
end Go.Proofs.Ytdjjjikokfadiaa

/- mem: a memory that is written to beside blocks that are known apart. No condition. -/
namespace Go.Proofs.Ytdjjjikokfadiaa
set_option linter.unusedVariables false
set_option linter.unusedSimpArgs false
open Go.RowKit
theorem M.St.keepL {o : M.Obj} {w w' : World} {L : List Nat} (h : M.St o w) (hL : ∀ x, M.all o x → x ∉ L) (hw : ∀ b, b < w.heap.size → b ∉ L → w'.heap[b]? = w.heap[b]?) : M.St o w' :=
  ⟨h.at_.keep (L := L) (hL _ (.inl rfl)) (fun hn => hL _ (M.all_b hn)) (fun p hp => hL _ (.inr (.inr hp))) hw, h.inv, fun x hx i => by
    have h1 := h.fz x hx i
    rw [World.frozen?] at h1 ⊢
    rw [hw x (h.at_.alive hx) (hL x hx)]; exact h1⟩
/-- After an operation on the memory, the blocks that are known apart are as before. -/
theorem M.hp_ch {S : Nat → Prop} {w0 w w' : World} {X : World → Prop} {L : List (Nat × List Value)} {oc o' : M.Obj} (h : E.Hp S w0 X L w) (hX : ∀ w, X w → M.St oc w) (hc : Ch (fun x => M.ow oc x) w w') (hs : M.St o' w') (hn : M.Nxt w oc o') (hS : ∀ x, x < w0.heap.size → M.ow oc x → S x) :
    E.Hp S w0 (fun w => M.St o' w) L w' := by
  have nb : ∀ p, p ∈ L → ¬ M.ow oc p.1 := fun p hp ho => by
    obtain ⟨k, hk, e⟩ := List.getElem_of_mem hp
    exact M.apart h hX (k := k) (g := p.1) (cs := p.2) (by rw [List.getElem?_eq_getElem hk, e]) (M.ow_all ho) rfl
  have na : ∀ x, M.all o' x → x ∉ L.map (·.1) := fun x hx hm => by
    obtain ⟨p, hp, rfl⟩ := List.mem_map.1 hm
    obtain ⟨k, hk, e⟩ := List.getElem_of_mem hp
    exact M.apart h hX (k := k) (g := p.1) (cs := p.2) (by rw [List.getElem?_eq_getElem hk, e]) (hn.al _ (h.lt p hp) hx) rfl
  exact ⟨h.ch.trans' hc hS, fun p hp i v hv => (hc.cell p.1 i (h.lt p hp) (nb p hp)).trans (h.mem p hp i v hv), fun p hp i => (hc.frozen p.1 i (h.lt p hp) (nb p hp)).trans (h.fz p hp i),
    fun p hp => Nat.lt_of_lt_of_le (h.lt p hp) hc.size, h.own, h.nodup, fun w2 h1 h2 => hs.keepL (L := L.map (·.1)) na h2⟩
theorem M.set_callL {S : Nat → Prop} {o oc : M.Obj} {w0 w : World} {X : World → Prop} {L : List (Nat × List Value)} (hX : ∀ w, X w → M.St oc w) (hd : M.Nxt w0 o oc) (hS : ∀ x, M.ow o x → S x) {a : Nat} {v : Int} (ha : a < 4294967296) (hv : 0 ≤ v ∧ v < 256) (h : E.Hp S w0 X L w) :
    Calls Try.prog 39 #[.pointer (some ⟨o.m, 0, none⟩), .int .u32 ((a : Nat) : Int), .int .u8 v] w fun e w' => ∃ i : M.Obj, (M.Nxt w0 o i ∧ ∀ V, M.Sh oc V → M.Sh i (V.set a v)) ∧ e = .returned (.tuple #[]) ∧ E.Hp S w0 (fun w => M.St i w) L w' := by
  have hc := set_any oc a v ha hv w (hX w h.x)
  rw [hd.m] at hc
  exact hc.mono fun e w' ⟨he, i, hs, hch, hn, hV⟩ => ⟨i, ⟨hd.trans hn h.ch.size, hV⟩, he, M.hp_ch h hX hch hs hn fun x hx hx2 => hS x (hd.ow x hx hx2)⟩
def M.V.poke (V : M.V) (a : Nat) (s : ByteArray) : Nat → M.V
  | 0 => V
  | c + 1 => (M.V.poke V a s c).set ((a + c) % 4294967296) (W.byt s.data.toList c)
end Go.Proofs.Ytdjjjikokfadiaa

/- Walks: each of mem, over Poke, printed by wip/eng. No condition but what is named. -/
namespace Go.Proofs.Ytdjjjikokfadiaa
set_option linter.unusedVariables false
set_option linter.unusedSimpArgs false
open Go.RowKit
theorem poke1_any {S : Nat → Prop} {w0 : World} (o oc : M.Obj) (hd : M.Nxt w0 o oc) (hS : ∀ x, M.ow o x → S x) (g1 g2 a : Nat) (i : Nat) (v : Int) (hi : i < 4294967296) (hv : 0 ≤ v ∧ v < 256) (w : World) (hh : E.Hp S w0 (fun w => M.St oc w) [(g2, [.int .u32 ((a : Nat) : Int)]), (g1, [.pointer (some ⟨o.m, 0, none⟩)])] w) : Calls Try.prog 48 #[.int .i64 ((i : Nat) : Int), .int .u8 v, .pointer (some ⟨g1, 0, none⟩), .pointer (some ⟨g2, 0, none⟩)] w fun e w' => ∃ i' : M.Obj, (M.Nxt w0 o i' ∧ ∀ V, M.Sh oc V → M.Sh i' (V.set ((a + i) % 4294967296) v)) ∧ e = .returned (.tuple #[]) ∧ E.Hp S w0 (fun w => M.St i' w) [(g2, [.int .u32 ((a : Nat) : Int)]), (g1, [.pointer (some ⟨o.m, 0, none⟩)])] w' := by
  refine E.enter (n := 13) (S := S) Try.func48 rfl rfl (by kernel_rfl) (hh) ?_
  refine E.C.region ?_
  refine E.G.val (.pointer (some ⟨o.m, 0, none⟩)) (by kernel_rfl) (fun w h => E.run_load h 1 rfl rfl (by kernel_rfl)) ?_
  refine E.G.val (.int .u32 ((a : Nat) : Int)) (by kernel_rfl) (fun w h => E.run_load h 0 rfl rfl (by kernel_rfl)) ?_
  refine E.G.op (.int .i64 ((i : Nat) : Int)) (fun w => by kernel_rfl) (by kernel_rfl) ?_
  refine E.G.val (.int .u32 ((i : Nat) : Int)) (by kernel_rfl) (fun w h => E.run_as (a := .int .u32 (IntKind.wrap .u32 ((i : Nat) : Int))) (by kernel_rfl) (congrArg (Value.int .u32) (M.w32 hi))) ?_
  refine E.G.val (.int .u32 (((a + i) % 4294967296 : Nat) : Int)) (by kernel_rfl) (fun w h => E.run_as (a := .int .u32 (IntKind.wrap .u32 (((a : Nat) : Int) + ((i : Nat) : Int)))) (by kernel_rfl) (congrArg (Value.int .u32) (M.add32 a i))) ?_
  refine E.G.op (.int .u8 v) (fun w => by kernel_rfl) (by kernel_rfl) ?_
  refine E.G.callX (I := M.Obj) (fun oo => M.Nxt w0 o oo ∧ ∀ V, M.Sh oc V → M.Sh oo (V.set ((a + i) % 4294967296) v)) (fun _ => .tuple #[]) (fun oo w => M.St oo w) (fun _ => [(g2, [.int .u32 ((a : Nat) : Int)]), (g1, [.pointer (some ⟨o.m, 0, none⟩)])]) (fun u h => M.set_callL (fun _ h => h) hd hS (by omega) hv h) (fun u _ => by kernel_rfl) (by kernel_rfl) (fun o1 hd1 => ?_)
  refine E.To.bodyN (fn := Try.f48) [] ?_ ?_
  · exact trivial
  · intro w h
    exact ⟨o1, hd1, rfl, h⟩
theorem each_any {S : Nat → Prop} {w0 : World} (o oc : M.Obj) (hd : M.Nxt w0 o oc) (hS : ∀ x, M.ow o x → S x) (g1 g2 a : Nat) (s : ByteArray) (hs : s.size < 4294967296) (w : World) (hh : E.Hp S w0 (fun w => M.St oc w) [(g2, [.int .u32 ((a : Nat) : Int)]), (g1, [.pointer (some ⟨o.m, 0, none⟩)])] w) : Calls Try.prog 47 #[.string s, .func (.func 48) #[] #[.pointer (some ⟨g1, 0, none⟩), .pointer (some ⟨g2, 0, none⟩)]] w fun e w' => ∃ i' : M.Obj, (M.Nxt w0 o i' ∧ ∀ V, M.Sh oc V → M.Sh i' (V.poke a s s.size)) ∧ e = .returned (.tuple #[]) ∧ E.Hp S w0 (fun w => M.St i' w) [(g2, [.int .u32 ((a : Nat) : Int)]), (g1, [.pointer (some ⟨o.m, 0, none⟩)])] w' := by
  refine E.enter (n := 17) (S := S) Try.func47 rfl rfl (by kernel_rfl) (hh) ?_
  refine E.C.seq ?_
  refine E.C.region ?_
  refine E.G.op (.string s) (fun w => by kernel_rfl) (by kernel_rfl) ?_
  refine E.G.op (.int .i64 ((s.size : Nat) : Int)) (fun w => by kernel_rfl) (by kernel_rfl) ?_
  refine E.G.op (.int .i64 0) (fun w => by kernel_rfl) (by kernel_rfl) ?_
  refine E.To.code ?_
  refine E.C.block ?_
  refine E.C.loop (I := Nat × M.Obj) (fun i => s.size - i.1) (fun i => i.1 ≤ s.size ∧ M.Nxt w0 o i.2 ∧ ∀ V, M.Sh oc V → M.Sh i.2 (V.poke a s i.1)) (fun i => [(0, .string s), (1, .func (.func 48) #[] #[.pointer (some ⟨g1, 0, none⟩), .pointer (some ⟨g2, 0, none⟩)]), (6, .int .i64 ((s.size : Nat) : Int)), (7, .int .i64 ((i.1 : Nat) : Int))]) (fun i => fun u => M.St i.2 u) (fun _ => [(g2, [.int .u32 ((a : Nat) : Int)]), (g1, [.pointer (some ⟨o.m, 0, none⟩)])]) (0, oc) (⟨Nat.zero_le _, hd, fun V hV => hV⟩) ⟨by kernel_rfl, by kernel_rfl⟩ (List.Sublist.refl _) (fun _ h => h) (fun i hk1 => ?_)
  refine E.C.seq ?_
  refine E.C.region ?_
  refine E.G.op (.bool (decide (((i.1 : Nat) : Int) < ((s.size : Nat) : Int)))) (fun w => by kernel_rfl) (by kernel_rfl) ?_
  refine E.To.code ?_
  refine E.C.seq ?_
  refine E.C.cond (decide (((i.1 : Nat) : Int) < ((s.size : Nat) : Int))) (by kernel_rfl) (by kernel_rfl) (fun hc1 => ?_) (fun hc1 => ?_)
  · skip
    refine E.C.skip (E.To.code ?_)
    refine E.C.seq ?_
    refine E.C.block ?_
    refine E.C.seq ?_
    refine E.C.region ?_
    refine E.G.op (.int .i64 ((i.1 : Nat) : Int)) (fun w => by kernel_rfl) (by kernel_rfl) ?_
    refine E.G.op (.int .i64 ((i.1 : Nat) : Int)) (fun w => by kernel_rfl) (by kernel_rfl) ?_
    refine E.To.code ?_
    refine E.C.region ?_
    refine E.G.op (.func (.func 48) #[] #[.pointer (some ⟨g1, 0, none⟩), .pointer (some ⟨g2, 0, none⟩)]) (fun w => by kernel_rfl) (by kernel_rfl) ?_
    refine E.G.op (.int .i64 ((i.1 : Nat) : Int)) (fun w => by kernel_rfl) (by kernel_rfl) ?_
    refine E.G.op (.string s) (fun w => by kernel_rfl) (by kernel_rfl) ?_
    refine E.G.op (.int .i64 ((i.1 : Nat) : Int)) (fun w => by kernel_rfl) (by kernel_rfl) ?_
    refine E.G.val (.int .u8 (W.byt s.data.toList i.1)) (by kernel_rfl) (fun w h => E.run_as (a := .int .u8 (W.byt s.data.toList (((i.1 : Nat) : Int)).toNat)) (E.sidx s .i64 ((i.1 : Nat) : Int) (by kernel_rfl) (by kernel_rfl) (by kernel_rfl) (by (first | assumption | ((try simp only [Bool.or_eq_false_iff, Bool.or_eq_true, Bool.and_eq_true, Bool.and_eq_false_iff, decide_eq_true_eq, decide_eq_false_iff_not, ge_iff_le, gt_iff_lt] at *); omega))) (by (first | assumption | ((try simp only [Bool.or_eq_false_iff, Bool.or_eq_true, Bool.and_eq_true, Bool.and_eq_false_iff, decide_eq_true_eq, decide_eq_false_iff_not, ge_iff_le, gt_iff_lt] at *); omega))) w) (rfl)) ?_
    refine E.G.callX (I := M.Obj) (fun i2 => M.Nxt w0 o i2 ∧ ∀ V, M.Sh i.2 V → M.Sh i2 (V.set ((a + i.1) % 4294967296) (W.byt s.data.toList i.1))) (fun _ => .tuple #[]) (fun i w => M.St i w) (fun _ => [(g2, [.int .u32 ((a : Nat) : Int)]), (g1, [.pointer (some ⟨o.m, 0, none⟩)])]) (fun u h => poke1_any o i.2 hk1.2.1 hS g1 g2 a i.1 _ (by (first | assumption | ((try simp only [Bool.or_eq_false_iff, Bool.or_eq_true, Bool.and_eq_true, Bool.and_eq_false_iff, decide_eq_true_eq, decide_eq_false_iff_not, ge_iff_le, gt_iff_lt] at *); omega))) (W.byt_bd _ _) u h) (fun u _ => by kernel_rfl) (by kernel_rfl) (fun o2 hd2 => ?_)
    refine E.P.nb (E.To.code ?_)
    refine E.C.region ?_
    refine E.G.val (.int .i64 ((i.1 + 1 : Nat) : Int)) (by kernel_rfl) (fun w h => E.run_as (a := .int .i64 (IntKind.wrap .i64 (((i.1 : Nat) : Int) + 1))) (by kernel_rfl) (congrArg (Value.int .i64) (M.inc64 (by (first | assumption | ((try simp only [Bool.or_eq_false_iff, Bool.or_eq_true, Bool.and_eq_true, Bool.and_eq_false_iff, decide_eq_true_eq, decide_eq_false_iff_not, ge_iff_le, gt_iff_lt] at *); omega)))))) ?_
    refine E.G.op (.int .i64 ((i.1 + 1 : Nat) : Int)) (fun w => by kernel_rfl) (by kernel_rfl) ?_
    exact E.To.round (i.1 + 1, o2) (by show s.size - (i.1 + 1) < s.size - i.1; (first | assumption | ((try simp only [Bool.or_eq_false_iff, Bool.or_eq_true, Bool.and_eq_true, Bool.and_eq_false_iff, decide_eq_true_eq, decide_eq_false_iff_not, ge_iff_le, gt_iff_lt] at *); omega))) (⟨by show i.1 + 1 ≤ s.size; (first | assumption | ((try simp only [Bool.or_eq_false_iff, Bool.or_eq_true, Bool.and_eq_true, Bool.and_eq_false_iff, decide_eq_true_eq, decide_eq_false_iff_not, ge_iff_le, gt_iff_lt] at *); omega)), hd2.1, fun V hV => hd2.2 _ (hk1.2.2 V hV)⟩) ⟨by kernel_rfl, by kernel_rfl⟩ (List.Sublist.refl _) (fun _ h => h)
  · skip
    refine E.C.exit (E.P.et (E.P.et (E.P.eh (E.To.bodyN (fn := Try.f47) [] ?_ ?_))))
    · exact trivial
    · intro w h
      have e : i.1 = s.size := by (first | assumption | ((try simp only [Bool.or_eq_false_iff, Bool.or_eq_true, Bool.and_eq_true, Bool.and_eq_false_iff, decide_eq_true_eq, decide_eq_false_iff_not, ge_iff_le, gt_iff_lt] at *); omega))
      exact ⟨i.2, ⟨hk1.2.1, fun V hV => by rw [← e]; exact hk1.2.2 V hV⟩, rfl, h⟩
end Go.Proofs.Ytdjjjikokfadiaa

/- Walks: Poke of mem, printed by wip/eng. No condition but what is named. -/
namespace Go.Proofs.Ytdjjjikokfadiaa
set_option linter.unusedVariables false
set_option linter.unusedSimpArgs false
open Go.RowKit
theorem Poke_any (o : M.Obj) (a : Nat) (s : ByteArray) (hs : s.size < 4294967296) (w : World) (hst : M.St o w) : Calls Try.prog 28 #[.pointer (some ⟨o.m, 0, none⟩), .int .u32 ((a : Nat) : Int), .string s] w fun e w' => e = .returned (.tuple #[]) ∧ ∃ o', M.St o' w' ∧ Ch (fun x => M.ow o x) w w' ∧ M.Nxt w o o' ∧ ∀ V, M.Sh o V → M.Sh o' (V.poke a s s.size) := by
  refine E.enter (n := 9) (S := fun x => M.ow o x) Try.func28 rfl rfl (by kernel_rfl) (hst.hp (Ch.refl _ _)) ?_
  refine E.C.seq ?_
  refine E.C.region ?_
  refine E.G.new (fun g => .pointer (some ⟨g, 0, none⟩)) [.pointer (some ⟨o.m, 0, none⟩)] 25 (fun w => by kernel_rfl) (by kernel_rfl) (fun g1 => ?_)
  refine E.G.new (fun g => .pointer (some ⟨g, 0, none⟩)) [.int .u32 ((a : Nat) : Int)] 23 (fun w => by kernel_rfl) (by kernel_rfl) (fun g2 => ?_)
  refine E.To.code ?_
  refine E.C.region ?_
  refine E.G.op (.string s) (fun w => by kernel_rfl) (by kernel_rfl) ?_
  refine E.G.op (.func (.func 48) #[] #[.pointer (some ⟨g1, 0, none⟩), .pointer (some ⟨g2, 0, none⟩)]) (fun w => by kernel_rfl) (by kernel_rfl) ?_
  refine E.G.callX (I := M.Obj) (fun oo => M.Nxt w o oo ∧ ∀ V, M.Sh o V → M.Sh oo (V.poke a s s.size)) (fun _ => .tuple #[]) (fun oo w => M.St oo w) (fun _ => [(g2, [.int .u32 ((a : Nat) : Int)]), (g1, [.pointer (some ⟨o.m, 0, none⟩)])]) (fun u h => each_any o o (M.Nxt.refl w o) (fun _ h => h) g1 g2 a s hs u h) (fun u _ => by kernel_rfl) (by kernel_rfl) (fun o1 hd1 => ?_)
  refine E.To.bodyN (fn := Try.f28) [] ?_ ?_
  · exact trivial
  · intro w h
    exact ⟨rfl, o1, h.x, h.ch, hd1.1, hd1.2⟩
end Go.Proofs.Ytdjjjikokfadiaa

/- mem: an own page for the image. No condition. -/
namespace Go.Proofs.Ytdjjjikokfadiaa
set_option linter.unusedVariables false
set_option linter.unusedSimpArgs false
open Go.RowKit
def M.code1 (o : M.Obj) (k g src : Nat) : M.Obj := { o.upd k { o.at k with c := some g } with C := fun q => if q = g then o.C src else o.C q }
def M.code2 (o : M.Obj) (k g src : Nat) : M.Obj := (M.code1 o k g src).upd k { (M.code1 o k g src).at k with oc := true }
theorem M.code1_len {o : M.Obj} {k g src : Nat} : (M.code1 o k g src).sl.length = o.sl.length := M.upd_len
theorem M.code1_at {o : M.Obj} {k g src : Nat} (hk : k < o.sl.length) (j : Nat) : (M.code1 o k g src).at j = if j = k then { o.at k with c := some g } else o.at j := M.upd_at hk j
theorem M.code2_len {o : M.Obj} {k g src : Nat} : (M.code2 o k g src).sl.length = o.sl.length := M.upd_len.trans M.code1_len
theorem M.code2_at {o : M.Obj} {k g src : Nat} (hk : k < o.sl.length) (j : Nat) : (M.code2 o k g src).at j = if j = k then { o.at k with c := some g, oc := true } else o.at j := by
  unfold M.code2
  rw [M.upd_at (by rw [M.code1_len]; exact hk), M.code1_at hk, M.code1_at hk]
  by_cases h : j = k
  · simp [h]
  · simp [h]
theorem M.code1_pg {o : M.Obj} {k g src p : Nat} (hk : k < o.sl.length) (h : M.Pg (M.code1 o k g src).sl p) : p = g ∨ M.Pg o.sl p := by
  obtain ⟨j, hj, hp⟩ := h
  rw [M.code1_len] at hj
  have hp : p = ((M.code1 o k g src).at j).d ∨ ((M.code1 o k g src).at j).c = some p ∨ p = ((M.code1 o k g src).at j).cd ∨ ((M.code1 o k g src).at j).cc = some p := hp
  rw [M.code1_at hk] at hp
  by_cases e : j = k
  · subst e
    rw [if_pos rfl] at hp
    rcases hp with hp | hp | hp | hp
    · exact .inr ⟨j, hj, .inl hp⟩
    · exact .inl (Option.some.inj hp).symm
    · exact .inr ⟨j, hj, .inr (.inr (.inl hp))⟩
    · exact .inr ⟨j, hj, .inr (.inr (.inr hp))⟩
  · rw [if_neg e] at hp; exact .inr ⟨j, hj, hp⟩
theorem M.code2_pg {o : M.Obj} {k g src p : Nat} (hk : k < o.sl.length) (h : M.Pg (M.code2 o k g src).sl p) : M.Pg (M.code1 o k g src).sl p := by
  obtain ⟨j, hj, hp⟩ := h
  rw [M.code2_len] at hj
  refine ⟨j, by rw [M.code1_len]; exact hj, ?_⟩
  show p = ((M.code1 o k g src).at j).d ∨ ((M.code1 o k g src).at j).c = some p ∨ p = ((M.code1 o k g src).at j).cd ∨ ((M.code1 o k g src).at j).cc = some p
  have hp : p = ((M.code2 o k g src).at j).d ∨ ((M.code2 o k g src).at j).c = some p ∨ p = ((M.code2 o k g src).at j).cd ∨ ((M.code2 o k g src).at j).cc = some p := hp
  rw [M.code2_at hk] at hp
  rw [M.code1_at hk]
  by_cases e : j = k
  · subst e; rw [if_pos rfl] at hp ⊢; exact hp
  · rw [if_neg e] at hp ⊢; exact hp
/-- Both objects have the same pages but for the image of page k, which is g. -/
structure M.Cod (o o' : M.Obj) (k g : Nat) : Prop where
  n : o'.sl.length = o.sl.length
  m : o'.m = o.m
  b : o'.b = o.b
  coh : o'.coh = o.coh
  d : ∀ j, (o'.at j).d = (o.at j).d
  od : ∀ j, (o'.at j).od = (o.at j).od
  cd : ∀ j, (o'.at j).cd = (o.at j).cd
  cc : ∀ j, (o'.at j).cc = (o.at j).cc
  r : ∀ j, (o'.at j).r = (o.at j).r
  ck : (o'.at k).c = some g
  c : ∀ j, j ≠ k → (o'.at j).c = (o.at j).c ∧ (o'.at j).oc = (o.at j).oc
theorem M.Cod.inv {o o' : M.Obj} {k g : Nat} (h : M.Cod o o' k g) (hi : M.Inv o) (hk : k < o.sl.length) (hcoh : o.coh = false) (hpg : ∀ p, M.Pg o.sl p → p ≠ g) (hgb : g ≠ o.m ∧ g ≠ o.b) (hp : ∀ p, M.Pg o'.sl p → p = g ∨ M.Pg o.sl p) (hC : ∀ p, M.Pg o'.sl p → ∀ i, i < 256 → 0 ≤ o'.C p i ∧ o'.C p i < 256) : M.Inv o' := by
  refine ⟨fun hn => by rw [h.m, h.b]; exact hi.mb (by omega), fun p hq => ?_, fun a b ha hb hod => ?_, fun a b p ha hb hoc hc => ?_, fun a ha => ?_, hC, fun a ha => ?_⟩
  · rw [h.m, h.b]
    rcases hp p hq with rfl | hq
    · exact hgb
    · exact hi.pm p hq
  · rw [h.n] at ha hb
    rw [h.od] at hod
    have hx := hi.od a b ha hb hod
    rw [h.d, h.d, h.cd, h.cc]
    refine ⟨hx.1, ?_, hx.2.2.1, hx.2.2.2⟩
    by_cases e : b = k
    · subst e; rw [h.ck]; exact fun e2 => hpg _ (M.pg_d ha) (Option.some.inj e2).symm
    · rw [(h.c b e).1]; exact hx.2.1
  · rw [h.n] at ha hb
    rw [h.d, h.cd, h.cc]
    by_cases ea : a = k
    · subst ea
      rw [h.ck] at hc
      obtain rfl := Option.some.inj hc
      refine ⟨fun e2 => ?_, hpg _ (M.pg_d hb), hpg _ (M.pg_cd hb), fun e2 => hpg _ (M.pg_cc hb e2) rfl⟩
      by_cases eb : b = a
      · exact eb
      · rw [(h.c b eb).1] at e2; exact absurd rfl (hpg _ (M.pg_c hb e2))
    · rw [(h.c a ea).1] at hc
      rw [(h.c a ea).2] at hoc
      have hx := hi.oc a b p ha hb hoc hc
      refine ⟨?_, hx.2⟩
      by_cases eb : b = k
      · subst eb; rw [h.ck]; exact fun e2 => absurd (Option.some.inj e2).symm (hpg _ (M.pg_c ha hc))
      · rw [(h.c b eb).1]; exact hx.1
  · rw [h.n] at ha
    have hx := hi.co a ha
    rw [h.cc, h.coh]
    refine ⟨?_, hx.2⟩
    by_cases e : a = k
    · subst e; rw [h.ck, hcoh]; rfl
    · rw [(h.c a e).1]; exact hx.1
  · rw [h.n] at ha
    rw [h.r]; exact hi.rb a ha
theorem M.code1_cod {o : M.Obj} {k g src : Nat} (hk : k < o.sl.length) : M.Cod o (M.code1 o k g src) k g := by
  have t : ∀ {α : Type} (f : M.Slot → α), f { o.at k with c := some g } = f (o.at k) → ∀ j, f ((M.code1 o k g src).at j) = f (o.at j) := fun f hf j => by
    rw [M.code1_at hk]
    by_cases e : j = k
    · subst e; rw [if_pos rfl]; exact hf
    · rw [if_neg e]
  exact ⟨M.code1_len, rfl, rfl, rfl, t (·.d) rfl, t (·.od) rfl, t (·.cd) rfl, t (·.cc) rfl, t (·.r) rfl, by rw [M.code1_at hk, if_pos rfl], fun j e => by rw [M.code1_at hk, if_neg e]; exact ⟨rfl, rfl⟩⟩
theorem M.code2_cod {o : M.Obj} {k g src : Nat} (hk : k < o.sl.length) : M.Cod o (M.code2 o k g src) k g := by
  have t : ∀ {α : Type} (f : M.Slot → α), f { o.at k with c := some g, oc := true } = f (o.at k) → ∀ j, f ((M.code2 o k g src).at j) = f (o.at j) := fun f hf j => by
    rw [M.code2_at hk]
    by_cases e : j = k
    · subst e; rw [if_pos rfl]; exact hf
    · rw [if_neg e]
  exact ⟨M.code2_len, rfl, rfl, rfl, t (·.d) rfl, t (·.od) rfl, t (·.cd) rfl, t (·.cc) rfl, t (·.r) rfl, by rw [M.code2_at hk, if_pos rfl], fun j e => by rw [M.code2_at hk, if_neg e]; exact ⟨rfl, rfl⟩⟩
theorem M.St.code1 {S : Nat → Prop} {o : M.Obj} {w0 w : World} {X : World → Prop} {L : List (Nat × List Value)} (h : E.Hp S w0 X L w) (hX : ∀ w, X w → M.St o w) {i k g src : Nat} (hk : k < o.sl.length) (hcoh : o.coh = false) (hsrc : M.Pg o.sl src) (hL : L[i]? = some (g, M.pgv (o.C src))) (j : Nat) (hj : j = k * 7 + 1) :
    M.St (M.code1 o k g src) (w.setCell ⟨o.b, j, none⟩ (.pointer (some ⟨g, 0, none⟩))) := by
  have hne : ∀ {x : Nat}, M.all o x → x ≠ g := fun hx => M.apart h hX hL hx
  have hs := hX w h.x
  have hpg : ∀ p, M.Pg o.sl p → p ≠ g := fun p hp => hne (.inr (.inr hp))
  have hb : o.b ≠ g := hne (M.all_b (by omega))
  have h0 : M.At { o with C := fun q => if q = g then o.C src else o.C q } w :=
    ⟨hs.at_.c0, hs.at_.c1, hs.at_.ha, hs.at_.cs, fun p hp x hx => by
      show _ = some (Value.int .u8 ((if p = g then o.C src else o.C p) x))
      rw [if_neg (hpg p hp)]; exact hs.at_.pg p hp x hx, hs.at_.lt⟩
  have hC : ∀ p, p ≠ g → (M.code1 o k g src).C p = o.C p := fun p hp => if_neg hp
  have hCg : (M.code1 o k g src).C g = o.C src := if_pos rfl
  refine ⟨h0.fset (s := { o.at k with c := some g }) (hs.inv.mb (by omega)) hk (by decide) rfl j hj fun p hp => ?_, ?_, fun x hx y => M.frozen_set.trans ?_⟩
  · rcases M.code1_pg hk hp with rfl | hp
    · refine ⟨Ne.symm hb, fun x hx => ?_⟩
      show _ = some (Value.int .u8 ((if p = p then o.C src else o.C p) x))
      rw [if_pos rfl]; exact h.cell i hL (M.pgv_at _ hx)
    · exact ⟨(hs.inv.pm p hp).2, fun x hx => h0.pg p hp x hx⟩
  · refine (M.code1_cod hk).inv hs.inv hk hcoh hpg ⟨Ne.symm (hne (.inl rfl)), Ne.symm hb⟩ (fun p hp => M.code1_pg hk hp) fun p hp x hx => ?_
    rcases M.code1_pg hk hp with rfl | hp
    · rw [hCg]; exact hs.inv.by_ _ hsrc x hx
    · rw [hC p (hpg p hp)]; exact hs.inv.by_ p hp x hx
  · rcases hx with rfl | ⟨hn, rfl⟩ | hx
    · exact hs.fz _ (.inl rfl) y
    · exact hs.fz _ (M.all_b (by omega)) y
    · rcases M.code1_pg hk hx with rfl | hx
      · exact h.fz _ (List.mem_of_getElem? hL) y
      · exact hs.fz _ (.inr (.inr hx)) y
theorem M.St.code2 {o : M.Obj} {w : World} {k g src : Nat} (h : M.St (M.code1 o k g src) w) (hi : M.Inv o) (hpg : ∀ p, M.Pg o.sl p → p ≠ g) (hgb : g ≠ o.m ∧ g ≠ o.b) (hk : k < o.sl.length) (hcoh : o.coh = false) (j : Nat) (hj : j = k * 7 + 3) :
    M.St (M.code2 o k g src) (w.setCell ⟨o.b, j, none⟩ (.bool true)) := by
  have hk1 : k < (M.code1 o k g src).sl.length := by rw [M.code1_len]; exact hk
  refine ⟨h.at_.fset (o := M.code1 o k g src) (s := { (M.code1 o k g src).at k with oc := true }) (h.inv.mb (by omega)) hk1 (by decide) rfl j hj fun p hp => ⟨(h.inv.pm p (M.code2_pg hk hp)).2, h.at_.pg p (M.code2_pg hk hp)⟩, ?_, fun x hx y => M.frozen_set.trans ?_⟩
  · exact (M.code2_cod hk).inv hi hk hcoh hpg hgb (fun p hp => M.code1_pg hk (M.code2_pg hk hp)) fun p hp x hx => h.inv.by_ p (M.code2_pg hk hp) x hx
  · rcases hx with rfl | ⟨hn, rfl⟩ | hx
    · exact h.fz _ (.inl rfl) y
    · exact h.fz _ (M.all_b (by omega)) y
    · exact h.fz _ (.inr (.inr (M.code2_pg hk hx))) y
end Go.Proofs.Ytdjjjikokfadiaa

/- Walks: Sync of mem, printed by wip/eng. No condition but what is named. -/
namespace Go.Proofs.Ytdjjjikokfadiaa
set_option linter.unusedVariables false
set_option linter.unusedSimpArgs false
open Go.RowKit
def M.V.sync (V : M.V) (k : Nat) : M.V := if k < V.n ∧ V.coh = false then { V with i := fun j x => if j = k then V.d j x else V.i j x } else V
theorem M.Sh.sync {o : M.Obj} {V : M.V} {k g : Nat} (h : M.Sh o V) (hk : k < o.sl.length) (hcoh : o.coh = false) (hpg : ∀ p, M.Pg o.sl p → p ≠ g) : M.Sh (M.code2 o k g (o.at k).d) (V.sync k) := by
  have hC : ∀ p, M.Pg o.sl p → (M.code2 o k g (o.at k).d).C p = o.C p := fun p hp => if_neg (hpg p hp)
  have hg : (M.code2 o k g (o.at k).d).C g = o.C (o.at k).d := if_pos rfl
  have hn : ∀ j, j < V.n → j < o.sl.length := fun j hj => h.n ▸ hj
  have hc := M.code2_cod (g := g) (src := (o.at k).d) hk
  unfold M.V.sync
  rw [if_pos ⟨by rw [← h.n]; exact hk, by rw [← h.coh]; exact hcoh⟩]
  refine ⟨hc.n.trans h.n, h.coh, fun j hj x hx => ?_, fun j hj x hx => ?_, fun j hj x hx => ?_, fun j hj x hx => ?_, fun j hj => ?_⟩
  · rw [hc.d, hC _ (M.pg_d (hn j hj))]; exact h.d j hj x hx
  · show _ = if j = k then V.d j x else V.i j x
    by_cases e : j = k
    · subst e; rw [if_pos rfl]; unfold M.img; rw [hc.ck]
      show (M.code2 o j g (o.at j).d).C g x = _
      rw [hg]; exact h.d j hj x hx
    · rw [if_neg e]
      have hi := h.i j hj x hx
      unfold M.img at hi ⊢
      rw [(hc.c j e).1, hc.d]
      cases hq : (o.at j).c with
      | none => rw [hq] at hi; show (M.code2 o k g (o.at k).d).C (o.at j).d x = _; rw [hC _ (M.pg_d (hn j hj))]; exact hi
      | some p => rw [hq] at hi; show (M.code2 o k g (o.at k).d).C p x = _; rw [hC _ (M.pg_c (hn j hj) hq)]; exact hi
  · rw [hc.cd, hC _ (M.pg_cd (hn j hj))]; exact h.cd j hj x hx
  · rw [hc.cc, hc.cd, hC _ (M.pg_ci (hn j hj))]; exact h.ci j hj x hx
  · rw [hc.r]; exact h.r j hj
theorem M.Sh.sync_no {o : M.Obj} {V : M.V} {k : Nat} (h : M.Sh o V) (hn : ¬ (k < o.sl.length ∧ o.coh = false)) : M.Sh o (V.sync k) := by
  unfold M.V.sync
  rw [if_neg (by rw [← h.n, ← h.coh]; exact hn)]; exact h
theorem M.Nxt.code2 {o : M.Obj} {w : World} {k g src : Nat} (hk : k < o.sl.length) (hg : g < w.heap.size → M.ow o g) : M.Nxt w o (M.code2 o k g src) := by
  refine ⟨rfl, M.code2_len, rfl, fun x hx h => ?_, fun x hx h => ?_⟩
  · rcases h with ⟨hn, h⟩ | ⟨i, hi, ho, h⟩ | ⟨i, hi, ho, h⟩
    · exact .inl ⟨by omega, h⟩
    · rw [M.code2_len] at hi
      rw [M.code2_at hk] at ho h
      by_cases e : i = k
      · subst e; rw [if_pos rfl] at ho h; exact .inr (.inl ⟨i, hi, ho, h⟩)
      · rw [if_neg e] at ho h; exact .inr (.inl ⟨i, hi, ho, h⟩)
    · rw [M.code2_len] at hi
      rw [M.code2_at hk] at ho h
      by_cases e : i = k
      · subst e; rw [if_pos rfl] at h; obtain rfl := Option.some.inj h; exact hg hx
      · rw [if_neg e] at ho h; exact .inr (.inr ⟨i, hi, ho, h⟩)
  · rcases h with h | ⟨hn, h⟩ | h
    · exact .inl h
    · exact .inr (.inl ⟨by omega, h⟩)
    · rcases M.code1_pg hk (M.code2_pg hk h) with rfl | h
      · exact M.ow_all (hg hx)
      · exact .inr (.inr h)
theorem M.ptr_ne {fr : E.Fr} {d : Option Nat} {T u : TypeId} {pos : String} {af : Array Edge} {gd : Option (Nat × Bool)} {x y : Operand} {p : Option Nat} {w : World} (hx : E.ev fr x = M.ptr p) (hy : E.ev fr y = .pointer none) :
    (execOp (E.ev fr) ⟨d, .binOp .neq 70 x y u, T, pos, af, gd⟩).run Try.prog w = .ok (.value (.bool (!p.isNone))) w := by
  show (do let r ← (do eqGuard .neq 70 x y (E.ev fr x) (E.ev fr y); binOp .neq 70 (E.ev fr x) (E.ev fr y)); pure (Next.value r) : Sem Next).run Try.prog w = _
  rw [hx, hy]
  cases p with
  | none => kernel_rfl
  | some b => kernel_rfl
theorem Sync_any (o : M.Obj) (a : Nat) (ha : a < 4294967296) (w : World) (hst : M.St o w) : Calls Try.prog 33 #[.pointer (some ⟨o.m, 0, none⟩), .int .u32 ((a : Nat) : Int)] w fun e w' => e = .returned (.bool (!o.out (a / 256))) ∧ ∃ o', M.St o' w' ∧ Ch (fun x => M.ow o x) w w' ∧ M.Nxt w o o' ∧ ∀ V, M.Sh o V → M.Sh o' (V.sync (a / 256)) := by
  refine E.enter (n := 29) (S := fun x => M.ow o x) Try.func33 rfl rfl (by kernel_rfl) (hst.hp (Ch.refl _ _)) ?_
  refine E.C.seq ?_
  refine E.C.region ?_
  refine E.G.op (.bool false) (fun w => by kernel_rfl) (by kernel_rfl) ?_
  refine E.To.code ?_
  refine E.C.seq ?_
  refine E.C.region ?_
  refine E.G.op (.pointer (some ⟨o.m, 0, none⟩)) (fun w => by kernel_rfl) (by kernel_rfl) ?_
  refine E.G.op (.int .u32 ((a : Nat) : Int)) (fun w => by kernel_rfl) (by kernel_rfl) ?_
  refine E.fork (o.out (a / 256)) (fun hc1 => ?_) (fun hc1 => ?_)
  · skip
    refine E.G.call (.pointer none) (fun w h => at_out o a (by omega) (M.out_of hc1) w h.x.at_) (fun w _ => by kernel_rfl) (by kernel_rfl) ?_
    refine E.G.op (.pointer none) (fun w => by kernel_rfl) (by kernel_rfl) ?_
    refine E.To.code ?_
    refine E.C.seq ?_
    refine E.C.seq ?_
    refine E.C.region ?_
    refine E.G.op (.pointer none) (fun w => by kernel_rfl) (by kernel_rfl) ?_
    refine E.G.op (.bool true) (fun w => by kernel_rfl) (by kernel_rfl) ?_
    refine E.To.code ?_
    refine E.C.condT (by kernel_rfl) (by kernel_rfl) ?_
    refine E.C.seq ?_
    refine E.C.region ?_
    refine E.G.op (.bool false) (fun w => by kernel_rfl) (by kernel_rfl) ?_
    refine E.To.code ?_
    refine E.C.ret (E.P.rt (E.To.body (fn := Try.f33) [.bool false] ?_ ?_))
    · exact ⟨⟨by kernel_rfl, by kernel_rfl⟩, trivial⟩
    · intro w h
      exact ⟨by rw [hc1]; rfl, o, h.x, h.ch, M.Nxt.refl _ _, fun V hV => hV.sync_no (fun k => absurd (M.out_of hc1) (by omega))⟩
  · skip
    have hi2 : (a / 256) < o.sl.length := M.in_of hc1
    refine E.G.call (.pointer (some ⟨o.b, (a / 256) * 7, none⟩)) (fun w h => at_in o a (by omega) hi2 w h.x.at_) (fun w _ => by kernel_rfl) (by kernel_rfl) ?_
    refine E.G.op (.pointer (some ⟨o.b, (a / 256) * 7, none⟩)) (fun w => by kernel_rfl) (by kernel_rfl) ?_
    refine E.To.code ?_
    refine E.C.seq ?_
    refine E.C.seq ?_
    refine E.C.region ?_
    refine E.G.op (.pointer (some ⟨o.b, (a / 256) * 7, none⟩)) (fun w => by kernel_rfl) (by kernel_rfl) ?_
    refine E.G.op (.bool false) (fun w => by kernel_rfl) (by kernel_rfl) ?_
    refine E.To.code ?_
    refine E.C.condF (by kernel_rfl) (by kernel_rfl) ?_
    refine E.C.skip (E.To.code ?_)
    refine E.C.seq ?_
    refine E.C.seq ?_
    refine E.C.region ?_
    refine E.G.op (.pointer (some ⟨o.b, (a / 256) * 7, none⟩)) (fun w => by kernel_rfl) (by kernel_rfl) ?_
    refine E.G.op (.pointer (some ⟨o.b, (a / 256) * 7, none⟩)) (fun w => by kernel_rfl) (by kernel_rfl) ?_
    refine E.G.op (.pointer (some ⟨o.b, ((a / 256) * 7) + 1, none⟩)) (fun w => by kernel_rfl) (by kernel_rfl) ?_
    refine E.G.val (M.ptr (o.at (a / 256)).c) (by kernel_rfl) (fun w h => M.load1 (by kernel_rfl) (M.one Try.underlying70 rfl) (h.x.at_.fld (i := (a / 256)) (k := 1) (by (first | assumption | ((try simp only [Bool.or_eq_false_iff, Bool.or_eq_true, Bool.and_eq_true, Bool.and_eq_false_iff, decide_eq_true_eq, decide_eq_false_iff_not, ge_iff_le, gt_iff_lt] at *); omega))) rfl (by decide) _ rfl)) ?_
    refine E.G.val (.bool (!(o.at (a / 256)).c.isNone)) (by kernel_rfl) (fun w h => M.ptr_ne (by kernel_rfl) (by kernel_rfl)) ?_
    refine E.To.code ?_
    refine E.C.weak [(4, .bool false), (5, .pointer (some ⟨o.b, (a / 256) * 7, none⟩)), (16, .bool (!(o.at (a / 256)).c.isNone))] [] ⟨by kernel_rfl, by kernel_rfl⟩ (List.Sublist.refl _) ?_
    refine E.C.cond (!(o.at (a / 256)).c.isNone) (by kernel_rfl) (by kernel_rfl) (fun hc3 => ?_) (fun hc3 => ?_)
    · skip
      refine E.C.seq ?_
      refine E.C.region ?_
      refine E.G.op (.pointer (some ⟨o.b, (a / 256) * 7, none⟩)) (fun w => by kernel_rfl) (by kernel_rfl) ?_
      refine E.G.op (.pointer (some ⟨o.b, (a / 256) * 7, none⟩)) (fun w => by kernel_rfl) (by kernel_rfl) ?_
      refine E.G.op (.pointer (some ⟨o.b, (a / 256) * 7, none⟩)) (fun w => by kernel_rfl) (by kernel_rfl) ?_
      refine E.G.val (.pointer (some ⟨(o.at (a / 256)).d, 0, none⟩)) (by kernel_rfl) (fun w h => M.load1 (by kernel_rfl) (M.one Try.underlying70 rfl) (h.x.at_.fld (i := (a / 256)) (k := 0) (by (first | assumption | ((try simp only [Bool.or_eq_false_iff, Bool.or_eq_true, Bool.and_eq_true, Bool.and_eq_false_iff, decide_eq_true_eq, decide_eq_false_iff_not, ge_iff_le, gt_iff_lt] at *); omega))) rfl (by decide) _ rfl)) ?_
      refine E.G.op (.pointer (some ⟨(o.at (a / 256)).d, 0, none⟩)) (fun w => by kernel_rfl) (by kernel_rfl) ?_
      refine E.G.val (.agg (M.pgv (o.C (o.at (a / 256)).d)).toArray) (by kernel_rfl) (fun w h => M.loadPage h.x.at_ (M.pg_d (by assumption)) (by kernel_rfl)) ?_
      refine E.G.new (fun g => .pointer (some ⟨g, 0, none⟩)) (List.replicate 256 (.int .u8 0)) 72 (fun w => by kernel_rfl) (by kernel_rfl) (fun g4 => ?_)
      refine E.G.store 0 (M.pgv (o.C (o.at (a / 256)).d)) rfl rfl (by kernel_rfl) (by kernel_rfl) ?_
      refine E.To.code ?_
      refine E.C.region ?_
      refine E.G.op (.pointer (some ⟨o.b, (a / 256) * 7, none⟩)) (fun w => by kernel_rfl) (by kernel_rfl) ?_
      refine E.G.op (.pointer (some ⟨o.b, (a / 256) * 7, none⟩)) (fun w => by kernel_rfl) (by kernel_rfl) ?_
      refine E.G.op (.pointer (some ⟨o.b, (a / 256) * 7, none⟩)) (fun w => by kernel_rfl) (by kernel_rfl) ?_
      refine E.G.op (.pointer (some ⟨o.b, ((a / 256) * 7) + 1, none⟩)) (fun w => by kernel_rfl) (by kernel_rfl) ?_
      refine M.G.sto (.pointer (some ⟨g4, 0, none⟩)) (fun u => M.St (M.code1 o (a / 256) g4 (o.at (a / 256)).d) u ∧ (M.Inv o ∧ (∀ p, M.Pg o.sl p → p ≠ g4) ∧ (g4 ≠ o.m ∧ g4 ≠ o.b) ∧ (g4 < w.heap.size → M.ow o g4) ∧ o.coh = false)) [] (by kernel_rfl) (by kernel_rfl) rfl rfl (by kernel_rfl) (fun u h => ⟨h.x.fz _ (M.all_b (by omega)) _, ⟨_, h.x.at_.fld (i := (a / 256)) (k := 1) (by assumption) rfl (by decide) _ rfl⟩, (M.St.code1 h (fun _ h => h) (by assumption) ((h.x.inv.co _ (by assumption)).1.symm.trans (M.b0 hc3)) (M.pg_d (by assumption)) (i := 0) rfl _ rfl).hp2 ⟨h.x.inv, fun p hp => M.apart h (fun _ h => h) (k := 0) rfl (.inr (.inr hp)), ⟨Ne.symm (M.apart h (fun _ h => h) (k := 0) rfl (.inl rfl)), Ne.symm (M.apart h (fun _ h => h) (k := 0) rfl (M.all_b (by omega)))⟩, h.own _ (List.mem_cons_self ..), (h.x.inv.co _ (by assumption)).1.symm.trans (M.b0 hc3)⟩ (h.ch.setCell (fun _ => M.ow_b (by omega)) _)⟩) (by kernel_rfl) ?_
      refine E.G.op (.pointer (some ⟨o.b, (a / 256) * 7, none⟩)) (fun w => by kernel_rfl) (by kernel_rfl) ?_
      refine E.G.op (.pointer (some ⟨o.b, ((a / 256) * 7) + 3, none⟩)) (fun w => by kernel_rfl) (by kernel_rfl) ?_
      refine M.G.sto (.bool true) (fun u => M.St (M.code2 o (a / 256) g4 (o.at (a / 256)).d) u ∧ (M.Inv o ∧ (∀ p, M.Pg o.sl p → p ≠ g4) ∧ (g4 ≠ o.m ∧ g4 ≠ o.b) ∧ (g4 < w.heap.size → M.ow o g4) ∧ o.coh = false)) [] (by kernel_rfl) (by kernel_rfl) rfl rfl (by kernel_rfl) (fun u h => ⟨h.x.1.fz _ (M.all_b (by rw [M.code1_len]; omega)) _, ⟨_, h.x.1.at_.fld (i := (a / 256)) (k := 3) (by rw [M.code1_len]; assumption) rfl (by decide) _ rfl⟩, (M.St.code2 h.x.1 h.x.2.1 h.x.2.2.1 h.x.2.2.2.1 (by assumption) h.x.2.2.2.2.2 _ rfl).hp2 h.x.2 (h.ch.setCell (fun _ => M.ow_b (by omega)) _)⟩) (by kernel_rfl) ?_
      refine E.To.code ?_
      refine E.C.weak [(4, .bool false)] [] ⟨by kernel_rfl, by kernel_rfl⟩ (List.Sublist.refl _) ?_
      refine E.C.seq ?_
      refine E.C.region ?_
      refine E.G.op (.bool true) (fun w => by kernel_rfl) (by kernel_rfl) ?_
      refine E.To.code ?_
      refine E.C.ret (E.To.body (fn := Try.f33) [.bool true] ?_ ?_)
      · exact ⟨⟨by kernel_rfl, by kernel_rfl⟩, trivial⟩
      · intro w h
        exact ⟨by rw [hc1]; rfl, _, h.x.1, h.ch, M.Nxt.code2 (by assumption) h.x.2.2.2.2.1, fun V hV => hV.sync (by assumption) h.x.2.2.2.2.2 h.x.2.2.1⟩
    · skip
      refine E.C.skip (E.To.code ?_)
      refine E.C.seq ?_
      refine E.C.region ?_
      refine E.G.op (.bool true) (fun w => by kernel_rfl) (by kernel_rfl) ?_
      refine E.To.code ?_
      refine E.C.ret (E.To.body (fn := Try.f33) [.bool true] ?_ ?_)
      · exact ⟨⟨by kernel_rfl, by kernel_rfl⟩, trivial⟩
      · intro w h
        exact ⟨by rw [hc1]; rfl, o, h.x, h.ch, M.Nxt.refl _ _, fun V hV => hV.sync_no (fun k => absurd ((h.x.inv.co _ k.1).1.trans k.2) (by rw [M.b1 hc3]; decide))⟩
end Go.Proofs.Ytdjjjikokfadiaa

/- mem: two pages compared. No condition. -/
namespace Go.Proofs.Ytdjjjikokfadiaa
set_option linter.unusedVariables false
set_option linter.unusedSimpArgs false
open Go.RowKit
def M.eqv (f g : Nat → Int) (l : List Nat) : Bool := l.all fun i => f i == g i
theorem M.run_items (w : World) (d : Nat) (f g : Nat → Int) : ∀ (is : List Nat), (∀ i ∈ is, i < 256) → (Op.eqItems (d + 1) 5 1 (M.pgv f).toArray (M.pgv g).toArray is).run Try.prog w = .ok (M.eqv f g is) w
  | [], _ => by simp [Op.eqItems, M.eqv]
  | i :: is, h => by
    have hi : i < 256 := h i (by simp)
    have ih := M.run_items w d f g is fun j hj => h j (by simp [hj])
    have ha : (isAgg 5).run Try.prog w = .ok false w := M.one Try.underlying5 rfl
    have p : ∀ f : Nat → Int, (part 5 (M.pgv f).toArray (i * 1)).run Try.prog w = .ok (.int .u8 (f i)) w := fun f => by
      have hg : (M.pgv f)[i]? = some (.int .u8 (f i)) := M.pgv_at f hi
      simp [part, ha, hg]
    have e := run_equalIn_int (P := Try.prog) w d 5 .u8 .u8 (f i) (g i) Try.underlying5
    simp only [Op.eqItems, Sem.run_bind, p, e, Result.andThen_ok]
    unfold M.eqv at ih ⊢
    rw [List.all_cons]
    cases hq : (f i == g i) with
    | true => simpa using ih
    | false => simp
theorem M.run_pages (w : World) (f g : Nat → Int) : (Op.equal 72 (.agg (M.pgv f).toArray) (.agg (M.pgv g).toArray)).run Try.prog w = .ok (M.eqv f g (List.range 256)) w := by
  have hi : ∃ i, Try.prog.info? 5 = some i := by
    cases h : Try.prog.info? 5 with
    | some i => exact ⟨i, rfl⟩
    | none => have : (Try.prog.info? 5).isSome = true := by kernel_rfl
              rw [h] at this; cases this
  obtain ⟨i, hi⟩ := hi
  have h := run_equalIn_array (P := Try.prog) w 9999 (M.pgv f).toArray (M.pgv g).toArray Try.underlying72 hi
  have hc : Try.prog.cellsOf 5 = 1 := by kernel_rfl
  rw [hc, M.run_items w 9998 f g (List.range 256) (by simp)] at h
  exact h
end Go.Proofs.Ytdjjjikokfadiaa

/- mem: two page pointers compared. No condition. -/
namespace Go.Proofs.Ytdjjjikokfadiaa
set_option linter.unusedVariables false
set_option linter.unusedSimpArgs false
open Go.RowKit
theorem M.cells_of {w : World} {p : Nat} {v : Value} (h : w.cell? ⟨p, 0, none⟩ = some v) : ∃ c t z, w.heap[p]? = some (.cells c t z) := by
  rw [World.cell?] at h
  cases hq : w.heap[p]? with
  | none => simp only [hq] at h; cases h
  | some o =>
    simp only [hq] at h
    cases o with
    | cells c t z => exact ⟨c, t, z, rfl⟩
    | _ => simp at h
theorem M.run_same_ne {P : Program} {w : World} {p q : Nat} {u v : Value} (hne : p ≠ q) (hp : w.cell? ⟨p, 0, none⟩ = some u) (hq : w.cell? ⟨q, 0, none⟩ = some v) (fp : ∀ i, w.frozen? ⟨p, i, none⟩ = false) (fq : ∀ i, w.frozen? ⟨q, i, none⟩ = false) :
    (sameAddr ⟨p, 0, none⟩ ⟨q, 0, none⟩).run P w = .ok false w := by
  obtain ⟨c1, t1, z1, e1⟩ := M.cells_of hp
  obtain ⟨c2, t2, z2, e2⟩ := M.cells_of hq
  have h1 := fp 0
  have h2 := fp c1.size
  have h3 := fq 0
  have h4 := fq c2.size
  simp [sameAddr, hne, h1, h3, noView, viewAt, World.shape?, e1, e2, mayBeOne, stringish, h2, h4]
theorem M.ptr_eq {w : World} {p q : Nat} {u v : Value} {fr : E.Fr} {d : Option Nat} {T U : TypeId} {pos : String} {af : Array Edge} {gd : Option (Nat × Bool)} {x y : Operand} (hx : E.ev fr x = .pointer (some ⟨p, 0, none⟩)) (hy : E.ev fr y = .pointer (some ⟨q, 0, none⟩)) (hp : w.cell? ⟨p, 0, none⟩ = some u) (hq : w.cell? ⟨q, 0, none⟩ = some v) (fp : ∀ i, w.frozen? ⟨p, i, none⟩ = false) (fq : ∀ i, w.frozen? ⟨q, i, none⟩ = false) :
    (execOp (E.ev fr) ⟨d, .binOp .eql 70 x y U, T, pos, af, gd⟩).run Try.prog w = .ok (.value (.bool (p == q))) w := by
  have hi : ∃ i, Try.prog.info? 72 = some i ∧ i.size ≠ 0 := by
    have hz : (Try.prog.info? 72).map (·.size) = some 256 := by kernel_rfl
    cases h : Try.prog.info? 72 with
    | some i => rw [h] at hz; exact ⟨i, rfl, by have : i.size = 256 := Option.some.inj hz; omega⟩
    | none => rw [h] at hz; cases hz
  obtain ⟨i, hi, hz⟩ := hi
  have hu : Try.prog.underlying 70 = some (.pointer 72) := Try.underlying70
  have he : (Op.equal 70 (.pointer (some ⟨p, 0, none⟩)) (.pointer (some ⟨q, 0, none⟩))).run Try.prog w = .ok (p == q) w := by
    have h : ∀ d : Nat, (Op.equalIn (d + 1) 70 (.pointer (some ⟨p, 0, none⟩)) (.pointer (some ⟨q, 0, none⟩))).run Try.prog w = .ok (p == q) w := fun d => by
      by_cases e : p = q
      · subst e
        simp [Op.equalIn, run_underlying hu, sizeOf, typeInfo, hi, hz, run_sameAddr_same]
      · simp [Op.equalIn, run_underlying hu, sizeOf, typeInfo, hi, hz, M.run_same_ne e hp hq fp fq, e]
    simp [Op.equal, Op.maxDepth, h 9999]
  show (do let r ← (do eqGuard .eql 70 x y (E.ev fr x) (E.ev fr y); binOp .eql 70 (E.ev fr x) (E.ev fr y)); pure (Next.value r) : Sem Next).run Try.prog w = _
  rw [hx, hy]
  simp [eqGuard, binOp, he]
theorem M.pg_eql {w : World} {f g : Nat → Int} {fr : E.Fr} {d : Option Nat} {T U : TypeId} {pos : String} {af : Array Edge} {gd : Option (Nat × Bool)} {x y : Operand} (hx : E.ev fr x = .agg (M.pgv f).toArray) (hy : E.ev fr y = .agg (M.pgv g).toArray) :
    (execOp (E.ev fr) ⟨d, .binOp .eql 72 x y U, T, pos, af, gd⟩).run Try.prog w = .ok (.value (.bool (M.eqv f g (List.range 256)))) w := by
  have hg : Try.prog.eqGuardType Try.prog.depth 72 = false := by kernel_rfl
  show (do let r ← (do eqGuard .eql 72 x y (E.ev fr x) (E.ev fr y); binOp .eql 72 (E.ev fr x) (E.ev fr y)); pure (Next.value r) : Sem Next).run Try.prog w = _
  rw [hx, hy]
  simp [eqGuard, hg, binOp, M.run_pages]
end Go.Proofs.Ytdjjjikokfadiaa

/- Walks: same of mem, printed by wip/eng. No condition but what is named. -/
namespace Go.Proofs.Ytdjjjikokfadiaa
set_option linter.unusedVariables false
set_option linter.unusedSimpArgs false
open Go.RowKit
theorem same_some (o : M.Obj) (p q : Nat) (hp : M.Pg o.sl p) (hq : M.Pg o.sl q) (w : World) (hst : M.St o w) : Calls Try.prog 42 #[.pointer (some ⟨p, 0, none⟩), .pointer (some ⟨q, 0, none⟩)] w fun e w' => e = .returned (.bool ((p == q) || (M.eqv (o.C p) (o.C q) (List.range 256)))) ∧ Bel w w' := by
  refine E.enter (n := 25) (S := fun _ => False) Try.func42 rfl rfl (by kernel_rfl) (hst.hp (Ch.refl _ _)) ?_
  refine E.C.seq ?_
  refine E.C.region ?_
  refine E.G.op (.bool false) (fun w => by kernel_rfl) (by kernel_rfl) ?_
  refine E.To.code ?_
  refine E.C.seq ?_
  refine E.C.quiet (by kernel_rfl) (by kernel_rfl) ?_
  refine E.W.op (.pointer (some ⟨p, 0, none⟩)) (fun w => by kernel_rfl) (by kernel_rfl) ?_
  refine E.W.op (.pointer (some ⟨q, 0, none⟩)) (fun w => by kernel_rfl) (by kernel_rfl) ?_
  refine E.W.val (.bool (p == q)) (by kernel_rfl) (fun w h => M.ptr_eq (by kernel_rfl) (by kernel_rfl) (h.x.at_.pg p hp 0 (by decide)) (h.x.at_.pg q hq 0 (by decide)) (h.x.fz p (.inr (.inr hp))) (h.x.fz q (.inr (.inr hq)))) ?_
  refine E.W.op (.bool (p == q)) (fun w => by kernel_rfl) (by kernel_rfl) ?_
  refine E.W.cut 16 [(4, .bool false), (24, .bool ((p == q) || (M.eqv (o.C p) (o.C q) (List.range 256))))] ?_ ?_
  · generalize hc1 : (p == q) = b2
    cases b2
    · skip
      refine E.W.op (.pointer (some ⟨p, 0, none⟩)) (fun w => by kernel_rfl) (by kernel_rfl) ?_
      refine E.W.op (.bool true) (fun w => by kernel_rfl) (by kernel_rfl) ?_
      refine E.W.op (.bool true) (fun w => by kernel_rfl) (by kernel_rfl) ?_
      refine E.W.op (.pointer (some ⟨q, 0, none⟩)) (fun w => by kernel_rfl) (by kernel_rfl) ?_
      refine E.W.op (.bool true) (fun w => by kernel_rfl) (by kernel_rfl) ?_
      refine E.W.op (.bool true) (fun w => by kernel_rfl) (by kernel_rfl) ?_
      refine E.W.op (.bool true) (fun w => by kernel_rfl) (by kernel_rfl) ?_
      refine E.W.op (.pointer (some ⟨p, 0, none⟩)) (fun w => by kernel_rfl) (by kernel_rfl) ?_
      refine E.W.op (.pointer (some ⟨p, 0, none⟩)) (fun w => by kernel_rfl) (by kernel_rfl) ?_
      refine E.W.val (.agg (M.pgv (o.C p)).toArray) (by kernel_rfl) (fun w h => M.loadPage h.x.at_ hp (by kernel_rfl)) ?_
      refine E.W.op (.pointer (some ⟨q, 0, none⟩)) (fun w => by kernel_rfl) (by kernel_rfl) ?_
      refine E.W.op (.pointer (some ⟨q, 0, none⟩)) (fun w => by kernel_rfl) (by kernel_rfl) ?_
      refine E.W.val (.agg (M.pgv (o.C q)).toArray) (by kernel_rfl) (fun w h => M.loadPage h.x.at_ hq (by kernel_rfl)) ?_
      refine E.W.val (.bool (M.eqv (o.C p) (o.C q) (List.range 256))) (by kernel_rfl) (fun w h => M.pg_eql (by kernel_rfl) (by kernel_rfl)) ?_
      refine E.W.op (.bool (M.eqv (o.C p) (o.C q) (List.range 256))) (fun w => by kernel_rfl) (by kernel_rfl) ?_
      refine E.W.op (.bool (M.eqv (o.C p) (o.C q) (List.range 256))) (fun w => by kernel_rfl) (by kernel_rfl) ?_
      exact E.W.end_cut ⟨by kernel_rfl, by kernel_rfl⟩
    · skip
      refine E.W.skip (by kernel_rfl) (by kernel_rfl) ?_
      refine E.W.skip (by kernel_rfl) (by kernel_rfl) ?_
      refine E.W.skip (by kernel_rfl) (by kernel_rfl) ?_
      refine E.W.skip (by kernel_rfl) (by kernel_rfl) ?_
      refine E.W.skip (by kernel_rfl) (by kernel_rfl) ?_
      refine E.W.skip (by kernel_rfl) (by kernel_rfl) ?_
      refine E.W.skip (by kernel_rfl) (by kernel_rfl) ?_
      refine E.W.skip (by kernel_rfl) (by kernel_rfl) ?_
      refine E.W.skip (by kernel_rfl) (by kernel_rfl) ?_
      refine E.W.skip (by kernel_rfl) (by kernel_rfl) ?_
      refine E.W.skip (by kernel_rfl) (by kernel_rfl) ?_
      refine E.W.skip (by kernel_rfl) (by kernel_rfl) ?_
      refine E.W.skip (by kernel_rfl) (by kernel_rfl) ?_
      refine E.W.skip (by kernel_rfl) (by kernel_rfl) ?_
      refine E.W.skip (by kernel_rfl) (by kernel_rfl) ?_
      refine E.W.op (.bool true) (fun w => by kernel_rfl) (by kernel_rfl) ?_
      exact E.W.end_cut ⟨by kernel_rfl, by kernel_rfl⟩
  refine E.W.op (.bool ((p == q) || (M.eqv (o.C p) (o.C q) (List.range 256)))) (fun w => by kernel_rfl) (by kernel_rfl) ?_
  refine E.W.done (E.To.code ?_)
  refine E.C.ret (E.To.body (fn := Try.f42) [.bool ((p == q) || (M.eqv (o.C p) (o.C q) (List.range 256)))] ?_ ?_)
  · exact ⟨⟨by kernel_rfl, by kernel_rfl⟩, trivial⟩
  · intro w h
    exact ⟨rfl, h.ch.bel (fun _ h => h.elim)⟩
end Go.Proofs.Ytdjjjikokfadiaa

/- Walks: same of mem, where there may be no page, printed by wip/eng. No condition but what is named. -/
namespace Go.Proofs.Ytdjjjikokfadiaa
set_option linter.unusedVariables false
set_option linter.unusedSimpArgs false
open Go.RowKit
theorem same_nil  (w : World) : Calls Try.prog 42 #[.pointer none, .pointer none] w fun e w' => e = .returned (.bool true) ∧ Bel w w' := by
  refine E.enter (n := 25) (S := fun _ => False) Try.func42 rfl rfl (by kernel_rfl) (E.Hp.start w) ?_
  refine E.C.seq ?_
  refine E.C.region ?_
  refine E.G.op (.bool false) (fun w => by kernel_rfl) (by kernel_rfl) ?_
  refine E.To.code ?_
  refine E.C.seq ?_
  refine E.C.quiet (by kernel_rfl) (by kernel_rfl) ?_
  refine E.W.op (.pointer none) (fun w => by kernel_rfl) (by kernel_rfl) ?_
  refine E.W.op (.pointer none) (fun w => by kernel_rfl) (by kernel_rfl) ?_
  refine E.W.op (.bool true) (fun w => by kernel_rfl) (by kernel_rfl) ?_
  refine E.W.op (.bool true) (fun w => by kernel_rfl) (by kernel_rfl) ?_
  refine E.W.skip (by kernel_rfl) (by kernel_rfl) ?_
  refine E.W.skip (by kernel_rfl) (by kernel_rfl) ?_
  refine E.W.skip (by kernel_rfl) (by kernel_rfl) ?_
  refine E.W.skip (by kernel_rfl) (by kernel_rfl) ?_
  refine E.W.skip (by kernel_rfl) (by kernel_rfl) ?_
  refine E.W.skip (by kernel_rfl) (by kernel_rfl) ?_
  refine E.W.skip (by kernel_rfl) (by kernel_rfl) ?_
  refine E.W.skip (by kernel_rfl) (by kernel_rfl) ?_
  refine E.W.skip (by kernel_rfl) (by kernel_rfl) ?_
  refine E.W.skip (by kernel_rfl) (by kernel_rfl) ?_
  refine E.W.skip (by kernel_rfl) (by kernel_rfl) ?_
  refine E.W.skip (by kernel_rfl) (by kernel_rfl) ?_
  refine E.W.skip (by kernel_rfl) (by kernel_rfl) ?_
  refine E.W.skip (by kernel_rfl) (by kernel_rfl) ?_
  refine E.W.skip (by kernel_rfl) (by kernel_rfl) ?_
  refine E.W.op (.bool true) (fun w => by kernel_rfl) (by kernel_rfl) ?_
  refine E.W.op (.bool true) (fun w => by kernel_rfl) (by kernel_rfl) ?_
  refine E.W.done (E.To.code ?_)
  refine E.C.weak [(4, .bool true)] [] ⟨by kernel_rfl, by kernel_rfl⟩ (List.Sublist.refl _) ?_
  refine E.C.ret (E.To.body (fn := Try.f42) [.bool true] ?_ ?_)
  · exact ⟨⟨by kernel_rfl, by kernel_rfl⟩, trivial⟩
  · intro w h
    exact ⟨rfl, h.ch.bel (fun _ h => h.elim)⟩
/-- The comparison of two images, which are there or not. -/
theorem same_opt (o : M.Obj) (p q : Option Nat) (hn : p.isNone = q.isNone) (hp : ∀ x, p = some x → M.Pg o.sl x) (hq : ∀ x, q = some x → M.Pg o.sl x) (w : World) (hst : M.St o w) : Calls Try.prog 42 #[M.ptr p, M.ptr q] w fun e w' => e = .returned (.bool (match p, q with | some p, some q => ((p == q) || (M.eqv (o.C p) (o.C q) (List.range 256))) | _, _ => true)) ∧ Bel w w' := by
  cases p with
  | none =>
    cases q with
    | none => exact same_nil w
    | some q => cases hn
  | some p =>
    cases q with
    | none => cases hn
    | some q => exact same_some o p q (hp p rfl) (hq q rfl) w hst
end Go.Proofs.Ytdjjjikokfadiaa

/- Walks: Page of mem, printed by wip/eng. No condition but what is named. -/
namespace Go.Proofs.Ytdjjjikokfadiaa
set_option linter.unusedVariables false
set_option linter.unusedSimpArgs false
open Go.RowKit
theorem M.page2s {w : World} {o : M.Obj} {p : Nat} {fr : E.Fr} {d : Option Nat} {T : TypeId} {pos : String} {af : Array Edge} {gd : Option (Nat × Bool)} {x : Operand} (h : M.At o w) (hp : M.Pg o.sl p) (hx : E.ev fr x = .slice (some ⟨p, 0, none⟩) 256 256) :
    (execOp (E.ev fr) ⟨d, .convert 47 9 x, T, pos, af, gd⟩).run Try.prog w = .ok (.value (.string (strOfNums ((List.range 256).map (o.C p))))) w := by
  show (do let r ← convert 47 9 (E.ev fr x); pure (Next.value r) : Sem Next).run Try.prog w = _
  rw [hx]
  have hl : ((List.range 256).map (o.C p)).length = 256 := by simp
  have := run_convert_bytes_arg (P := Try.prog) w 47 5 Try.underlying47 Try.underlying5 p 0 256 256 ((List.range 256).map (o.C p)) hl (fun k hk => by
    have e : ((List.range 256).map (o.C p)).getD k 0 = o.C p k := by simp [hk]
    rw [e, Nat.zero_add]; exact h.pg p hp k hk) 9 Try.underlying9
  simp [this]
def M.pageS (o : M.Obj) (n : Int) : ByteArray := (bif ((decide (n < 0)) || (decide (n ≥ ((o.sl.length : Nat) : Int)))) then (⟨#[]⟩ : ByteArray) else (strOfNums ((List.range 256).map (o.C (o.at n.toNat).d))))
theorem Page_any (o : M.Obj) (n : Int) (w : World) (hat : M.At o w) : Calls Try.prog 27 #[.pointer (some ⟨o.m, 0, none⟩), .int .i64 n] w fun e w' => e = .returned (.string (M.pageS o n)) ∧ Bel w w' := by
  refine E.enter (n := 24) (S := fun _ => False) Try.func27 rfl rfl (by kernel_rfl) (hat.hp) ?_
  refine E.C.seq ?_
  refine E.C.region ?_
  refine E.G.op (.string (⟨#[]⟩ : ByteArray)) (fun w => by kernel_rfl) (by kernel_rfl) ?_
  refine E.To.code ?_
  refine E.C.seq ?_
  refine E.C.seq ?_
  refine E.C.region ?_
  refine E.G.op (.int .i64 n) (fun w => by kernel_rfl) (by kernel_rfl) ?_
  refine E.G.op (.bool (decide (n < 0))) (fun w => by kernel_rfl) (by kernel_rfl) ?_
  refine E.G.op (.bool (decide (n < 0))) (fun w => by kernel_rfl) (by kernel_rfl) ?_
  refine E.G.cut 5 [(0, .pointer (some ⟨o.m, 0, none⟩)), (1, .int .i64 n), (4, .string (⟨#[]⟩ : ByteArray)), (12, .bool ((decide (n < 0)) || (decide (n ≥ ((o.sl.length : Nat) : Int)))))] (fun w => M.At o w) [] ?_ ?_
  · generalize hc1 : (decide (n < 0)) = b2
    cases b2
    · skip
      refine E.G.op (.int .i64 n) (fun w => by kernel_rfl) (by kernel_rfl) ?_
      refine E.G.op (.pointer (some ⟨o.m, 0, none⟩)) (fun w => by kernel_rfl) (by kernel_rfl) ?_
      refine E.G.call (.int .i64 ((o.sl.length : Nat) : Int)) (fun w h => Pages_any o w h.x) (fun w _ => by kernel_rfl) (by kernel_rfl) ?_
      refine E.G.op (.bool (decide (n ≥ ((o.sl.length : Nat) : Int)))) (fun w => by kernel_rfl) (by kernel_rfl) ?_
      refine E.G.op (.bool (decide (n ≥ ((o.sl.length : Nat) : Int)))) (fun w => by kernel_rfl) (by kernel_rfl) ?_
      exact E.G.end_pst ⟨by kernel_rfl, by kernel_rfl⟩ (List.Sublist.refl _) (fun _ h => h)
    · skip
      refine E.G.skip (by kernel_rfl) (by kernel_rfl) ?_
      refine E.G.skip (by kernel_rfl) (by kernel_rfl) ?_
      refine E.G.skip (by kernel_rfl) (by kernel_rfl) ?_
      refine E.G.skip (by kernel_rfl) (by kernel_rfl) ?_
      refine E.G.op (.bool true) (fun w => by kernel_rfl) (by kernel_rfl) ?_
      exact E.G.end_pst ⟨by kernel_rfl, by kernel_rfl⟩ (List.Sublist.refl _) (fun _ h => h)
  refine E.To.code ?_
  refine E.C.cond ((decide (n < 0)) || (decide (n ≥ ((o.sl.length : Nat) : Int)))) (by kernel_rfl) (by kernel_rfl) (fun hc3 => ?_) (fun hc3 => ?_)
  · skip
    refine E.C.seq ?_
    refine E.C.region ?_
    refine E.G.op (.string (⟨#[]⟩ : ByteArray)) (fun w => by kernel_rfl) (by kernel_rfl) ?_
    refine E.To.code ?_
    refine E.C.ret (E.P.rt (E.To.body (fn := Try.f27) [.string (⟨#[]⟩ : ByteArray)] ?_ ?_))
    · exact ⟨⟨by kernel_rfl, by kernel_rfl⟩, trivial⟩
    · intro w h
      exact ⟨by show Ending.returned (.string (⟨#[]⟩ : ByteArray)) = _; unfold M.pageS; rw [hc3, cond_true], h.ch.bel (fun _ h => h.elim)⟩
  · skip
    refine E.C.skip (E.To.code ?_)
    refine E.C.seq ?_
    refine E.C.region ?_
    refine E.G.op (.pointer (some ⟨o.m, 0, none⟩)) (fun w => by kernel_rfl) (by kernel_rfl) ?_
    refine E.G.op (.pointer (some ⟨o.m, 0, none⟩)) (fun w => by kernel_rfl) (by kernel_rfl) ?_
    refine E.G.op (.pointer (some ⟨o.m, 0, none⟩)) (fun w => by kernel_rfl) (by kernel_rfl) ?_
    refine E.G.val (.slice o.ao o.sl.length o.cap) (by kernel_rfl) (fun w h => M.load1 (by kernel_rfl) (M.one Try.underlying64 rfl) h.x.c0) ?_
    refine E.G.op (.int .i64 n) (fun w => by kernel_rfl) (by kernel_rfl) ?_
    refine E.G.val (.pointer (some ⟨o.b, n.toNat * 7, none⟩)) (by kernel_rfl) (fun w h => M.idxI (e := 74) (i := n) (k := .i64) (ao := o.ao) (b := o.b) (len := o.sl.length) (cap := o.cap) (esz := 7) (by kernel_rfl) (by kernel_rfl) (by kernel_rfl) (by kernel_rfl) (by (first | assumption | ((try simp only [Bool.or_eq_false_iff, Bool.or_eq_true, Bool.and_eq_true, Bool.and_eq_false_iff, decide_eq_true_eq, decide_eq_false_iff_not, ge_iff_le, gt_iff_lt] at *); omega))) (by (first | assumption | ((try simp only [Bool.or_eq_false_iff, Bool.or_eq_true, Bool.and_eq_true, Bool.and_eq_false_iff, decide_eq_true_eq, decide_eq_false_iff_not, ge_iff_le, gt_iff_lt] at *); omega))) h.x.ha w) ?_
    refine E.G.op (.pointer (some ⟨o.b, n.toNat * 7, none⟩)) (fun w => by kernel_rfl) (by kernel_rfl) ?_
    refine E.G.val (.pointer (some ⟨(o.at n.toNat).d, 0, none⟩)) (by kernel_rfl) (fun w h => M.load1 (by kernel_rfl) (M.one Try.underlying70 rfl) (h.x.fld (i := n.toNat) (k := 0) (by (first | assumption | ((try simp only [Bool.or_eq_false_iff, Bool.or_eq_true, Bool.and_eq_true, Bool.and_eq_false_iff, decide_eq_true_eq, decide_eq_false_iff_not, ge_iff_le, gt_iff_lt] at *); omega))) rfl (by decide) _ rfl)) ?_
    refine E.G.op (.pointer (some ⟨(o.at n.toNat).d, 0, none⟩)) (fun w => by kernel_rfl) (by kernel_rfl) ?_
    refine E.G.op (.slice (some ⟨(o.at n.toNat).d, 0, none⟩) 256 256) (fun w => by kernel_rfl) (by kernel_rfl) ?_
    refine E.G.val (.string (strOfNums ((List.range 256).map (o.C (o.at n.toNat).d)))) (by kernel_rfl) (fun w h => M.page2s h.x (M.pg_d (by (first | assumption | ((try simp only [Bool.or_eq_false_iff, Bool.or_eq_true, Bool.and_eq_true, Bool.and_eq_false_iff, decide_eq_true_eq, decide_eq_false_iff_not, ge_iff_le, gt_iff_lt] at *); omega)))) (by kernel_rfl)) ?_
    refine E.G.op (.string (strOfNums ((List.range 256).map (o.C (o.at n.toNat).d)))) (fun w => by kernel_rfl) (by kernel_rfl) ?_
    refine E.To.code ?_
    refine E.C.weak [(4, .string (strOfNums ((List.range 256).map (o.C (o.at n.toNat).d))))] [] ⟨by kernel_rfl, by kernel_rfl⟩ (List.Sublist.refl _) ?_
    refine E.C.ret (E.To.body (fn := Try.f27) [.string (strOfNums ((List.range 256).map (o.C (o.at n.toNat).d)))] ?_ ?_)
    · exact ⟨⟨by kernel_rfl, by kernel_rfl⟩, trivial⟩
    · intro w h
      exact ⟨by show Ending.returned (.string (strOfNums ((List.range 256).map (o.C (o.at n.toNat).d)))) = _; unfold M.pageS; rw [hc3, cond_false], h.ch.bel (fun _ h => h.elim)⟩
end Go.Proofs.Ytdjjjikokfadiaa

/- Items: what a world holds beside the blocks that are known, each with the blocks that it may change and the blocks that it speaks of; calls over items. No condition. -/
namespace Go.Proofs.Ytdjjjikokfadiaa
set_option linter.unusedVariables false
set_option linter.unusedSimpArgs false
open Go.RowKit
structure A.It where
  t : World → (Nat → Prop) → (Nat → Prop) → Prop
  sub : ∀ {w o a}, t w o a → ∀ x, o x → a x
  lt : ∀ {w o a}, t w o a → ∀ x, a x → x < w.heap.size
  keep : ∀ {w w' o a}, t w o a → (∀ x, a x → w'.heap[x]? = w.heap[x]?) → t w' o a
  apart : ∀ {w w2 o a o2 a2 x}, t w o a → t w2 o2 a2 → (∀ b, b ≠ x → w2.heap[b]? = w.heap[b]?) → (∀ i, w2.cell? ⟨x, i, none⟩ = none) → ¬ a x
def A.Has : List A.It → World → (Nat → Prop) → (Nat → Prop) → Prop
  | [], _, o, a => (∀ x, ¬ o x) ∧ ∀ x, ¬ a x
  | i :: l, w, o, a => ∃ o1 a1 o2 a2, i.t w o1 a1 ∧ A.Has l w o2 a2 ∧ (∀ x, o1 x → ¬ a2 x) ∧ (∀ x, o2 x → ¬ a1 x) ∧ (∀ x, o x ↔ o1 x ∨ o2 x) ∧ ∀ x, a x ↔ a1 x ∨ a2 x
theorem A.Has.sub : ∀ {l : List A.It} {w : World} {o a : Nat → Prop}, A.Has l w o a → ∀ x, o x → a x
  | [], _, _, _, h, x, hx => (h.1 x hx).elim
  | i :: l, w, o, a, ⟨o1, a1, o2, a2, h1, h2, _, _, ho, ha⟩, x, hx => by
    rcases (ho x).1 hx with k | k
    · exact (ha x).2 (.inl (i.sub h1 x k))
    · exact (ha x).2 (.inr (A.Has.sub h2 x k))
theorem A.Has.lt : ∀ {l : List A.It} {w : World} {o a : Nat → Prop}, A.Has l w o a → ∀ x, a x → x < w.heap.size
  | [], _, _, _, h, x, hx => (h.2 x hx).elim
  | i :: l, w, o, a, ⟨o1, a1, o2, a2, h1, h2, _, _, ho, ha⟩, x, hx => by
    rcases (ha x).1 hx with k | k
    · exact i.lt h1 x k
    · exact A.Has.lt h2 x k
theorem A.Has.keep : ∀ {l : List A.It} {w w' : World} {o a : Nat → Prop}, A.Has l w o a → (∀ x, a x → w'.heap[x]? = w.heap[x]?) → A.Has l w' o a
  | [], _, _, _, _, h, _ => h
  | i :: l, w, w', o, a, ⟨o1, a1, o2, a2, h1, h2, d1, d2, ho, ha⟩, hk =>
    ⟨o1, a1, o2, a2, i.keep h1 (fun x hx => hk x ((ha x).2 (.inl hx))), A.Has.keep h2 (fun x hx => hk x ((ha x).2 (.inr hx))), d1, d2, ho, ha⟩
theorem A.Has.apart : ∀ {l : List A.It} {w w2 : World} {o a o2 a2 : Nat → Prop} {x : Nat}, A.Has l w o a → A.Has l w2 o2 a2 → (∀ b, b ≠ x → w2.heap[b]? = w.heap[b]?) → (∀ i, w2.cell? ⟨x, i, none⟩ = none) → ¬ a x
  | [], _, _, _, _, _, _, x, h, _, _, _ => h.2 x
  | i :: l, w, w2, o, a, o2, a2, x, ⟨p1, q1, p2, q2, h1, h2, _, _, _, ha⟩, ⟨p3, q3, p4, q4, h3, h4, _, _, _, _⟩, hb, hz => fun hx => by
    rcases (ha x).1 hx with k | k
    · exact i.apart h1 h3 hb hz k
    · exact A.Has.apart h2 h4 hb hz k
theorem A.Has.iff : ∀ {l : List A.It} {w : World} {o a o' a' : Nat → Prop}, A.Has l w o a → (∀ x, o' x ↔ o x) → (∀ x, a' x ↔ a x) → A.Has l w o' a'
  | [], _, _, _, _, _, h, ho, ha => ⟨fun x k => h.1 x ((ho x).1 k), fun x k => h.2 x ((ha x).1 k)⟩
  | i :: l, w, o, a, o', a', ⟨o1, a1, o2, a2, h1, h2, d1, d2, go, ga⟩, ho, ha => ⟨o1, a1, o2, a2, h1, h2, d1, d2, fun x => (ho x).trans (go x), fun x => (ha x).trans (ga x)⟩
theorem A.Has.append : ∀ {l m : List A.It} {w : World} {o a : Nat → Prop}, A.Has (l ++ m) w o a → ∃ o1 a1 o2 a2, A.Has l w o1 a1 ∧ A.Has m w o2 a2 ∧ (∀ x, o1 x → ¬ a2 x) ∧ (∀ x, o2 x → ¬ a1 x) ∧ (∀ x, o x ↔ o1 x ∨ o2 x) ∧ ∀ x, a x ↔ a1 x ∨ a2 x
  | [], m, w, o, a, h => ⟨fun _ => False, fun _ => False, o, a, ⟨fun _ h => h, fun _ h => h⟩, h, fun _ h => h.elim, fun _ _ h => h, fun x => by simp, fun x => by simp⟩
  | i :: l, m, w, o, a, ⟨o1, a1, o2, a2, h1, h2, d1, d2, ho, ha⟩ => by
    obtain ⟨p1, q1, p2, q2, k1, k2, e1, e2, ko, ka⟩ := A.Has.append h2
    refine ⟨fun x => o1 x ∨ p1 x, fun x => a1 x ∨ q1 x, p2, q2, ⟨o1, a1, p1, q1, h1, k1, fun x hx hq => d1 x hx ((ka x).2 (.inl hq)), fun x hx => d2 x ((ko x).2 (.inl hx)), fun _ => Iff.rfl, fun _ => Iff.rfl⟩, k2, fun x hx hq => ?_, fun x hx hq => ?_, fun x => ?_, fun x => ?_⟩
    · rcases hx with hx | hx
      · exact d1 x hx ((ka x).2 (.inr hq))
      · exact e1 x hx hq
    · rcases hq with hq | hq
      · exact d2 x ((ko x).2 (.inr hx)) hq
      · exact e2 x hx hq
    · rw [ho, ko, or_assoc]
    · rw [ha, ka, or_assoc]
theorem A.Has.join : ∀ {l m : List A.It} {w : World} {o1 a1 o2 a2 : Nat → Prop}, A.Has l w o1 a1 → A.Has m w o2 a2 → (∀ x, o1 x → ¬ a2 x) → (∀ x, o2 x → ¬ a1 x) → A.Has (l ++ m) w (fun x => o1 x ∨ o2 x) (fun x => a1 x ∨ a2 x)
  | [], m, w, o1, a1, o2, a2, h, k, _, _ => k.iff (fun x => ⟨fun hx => hx.elim (fun e => (h.1 x e).elim) id, .inr⟩) (fun x => ⟨fun hx => hx.elim (fun e => (h.2 x e).elim) id, .inr⟩)
  | i :: l, m, w, o1, a1, o2, a2, ⟨p1, q1, p2, q2, h1, h2, d1, d2, ho, ha⟩, k, e1, e2 => by
    refine ⟨p1, q1, fun x => p2 x ∨ o2 x, fun x => q2 x ∨ a2 x, h1, A.Has.join h2 k (fun x hx => e1 x ((ho x).2 (.inr hx))) (fun x hx hq => e2 x hx ((ha x).2 (.inr hq))), fun x hx hq => ?_, fun x hx hq => ?_, fun x => ?_, fun x => ?_⟩
    · rcases hq with hq | hq
      · exact d1 x hx hq
      · exact e1 x ((ho x).2 (.inl hx)) hq
    · rcases hx with hx | hx
      · exact d2 x hx hq
      · exact e2 x hx ((ha x).2 (.inl hq))
    · show (o1 x ∨ o2 x) ↔ p1 x ∨ p2 x ∨ o2 x
      rw [ho, or_assoc]
    · show (a1 x ∨ a2 x) ↔ q1 x ∨ q2 x ∨ a2 x
      rw [ha, or_assoc]
theorem A.Has.perm {l m : List A.It} (hp : l.Perm m) : ∀ {w : World} {o a : Nat → Prop}, A.Has l w o a → A.Has m w o a := by
  induction hp with
  | nil => exact fun h => h
  | cons i _ ih => exact fun ⟨o1, a1, o2, a2, h1, h2, r⟩ => ⟨o1, a1, o2, a2, h1, ih h2, r⟩
  | swap i j l =>
    rintro w o a ⟨o1, a1, o2, a2, h1, ⟨o3, a3, o4, a4, h3, h4, d3, d4, e3, e4⟩, d1, d2, e1, e2⟩
    refine ⟨o3, a3, fun x => o1 x ∨ o4 x, fun x => a1 x ∨ a4 x, h3, ⟨o1, a1, o4, a4, h1, h4, fun x hx hq => d1 x hx ((e4 x).2 (.inr hq)), fun x hx => d2 x ((e3 x).2 (.inr hx)), fun _ => Iff.rfl, fun _ => Iff.rfl⟩, fun x hx hq => ?_, fun x hx hq => ?_, fun x => ?_, fun x => ?_⟩
    · rcases hq with hq | hq
      · exact d2 x ((e3 x).2 (.inl hx)) hq
      · exact d3 x hx hq
    · rcases hx with hx | hx
      · exact d1 x hx ((e4 x).2 (.inl hq))
      · exact d4 x hx hq
    · rw [e1, e3]; exact or_left_comm
    · rw [e2, e4]; exact or_left_comm
  | trans _ _ ih1 ih2 => exact fun h => ih2 (ih1 h)
/-- A rearrangement by places. -/
def A.pick {α : Type} (l : List α) (s : List Nat) : List α := s.filterMap fun i => l[i]?
theorem A.pick_range {α : Type} : ∀ (l : List α), A.pick l (List.range l.length) = l
  | [] => rfl
  | a :: l => by
    have ih := A.pick_range l
    unfold A.pick at ih ⊢
    rw [List.length_cons, List.range_succ_eq_map, List.filterMap_cons]
    simp only [List.getElem?_cons_zero, List.filterMap_map]
    exact congrArg (a :: ·) ih
theorem A.pm {α : Type} {l m : List α} (s : List Nat) (hs : s.isPerm (List.range l.length) = true) (hm : m = A.pick l s) : l.Perm m := by
  subst hm
  have h := (List.isPerm_iff.1 hs).filterMap (fun i => l[i]?)
  have e : (List.range l.length).filterMap (fun i => l[i]?) = l := A.pick_range l
  rw [e] at h
  exact h.symm
/-- What may be changed and what is spoken of grow by new blocks only. -/
def A.Gr (w : World) (o a o' a' : Nat → Prop) : Prop := (∀ x, x < w.heap.size → o' x → o x) ∧ ∀ x, x < w.heap.size → a' x → a x
theorem A.Gr.refl (w : World) (o a : Nat → Prop) : A.Gr w o a o a := ⟨fun _ _ h => h, fun _ _ h => h⟩
theorem A.Gr.trans {w w' : World} {o a o' a' o2 a2 : Nat → Prop} (h : A.Gr w o a o' a') (hs : w.heap.size ≤ w'.heap.size) (k : A.Gr w' o' a' o2 a2) : A.Gr w o a o2 a2 :=
  ⟨fun x hx hk => h.1 x hx (k.1 x (Nat.lt_of_lt_of_le hx hs) hk), fun x hx hk => h.2 x hx (k.2 x (Nat.lt_of_lt_of_le hx hs) hk)⟩
/-- A call over the items p. -/
def A.Tr (P : Program) (f : FuncId) (args : Array Value) (p : List A.It) {I : Type} (D : I → Prop) (V : I → Value) (q : I → List A.It) : Prop :=
  ∀ w o a, A.Has p w o a → Calls P f args w fun e w' => ∃ i, D i ∧ e = .returned (V i) ∧ ∃ o' a', A.Has (q i) w' o' a' ∧ Ch o w w' ∧ A.Gr w o a o' a'
/-- A call that reads the items p. -/
def A.Rd (P : Program) (f : FuncId) (args : Array Value) (p : List A.It) (v : Value) : Prop :=
  ∀ w o a, A.Has p w o a → Calls P f args w fun e w' => e = .returned v ∧ Bel w w'
theorem A.Tr.frame {P : Program} {f : FuncId} {args : Array Value} {p : List A.It} {I : Type} {D : I → Prop} {V : I → Value} {q : I → List A.It} (h : A.Tr P f args p D V q) (fr : List A.It) : A.Tr P f args (p ++ fr) D V fun i => q i ++ fr := by
  intro w o a hh
  obtain ⟨o1, a1, o2, a2, h1, h2, d1, d2, ho, ha⟩ := hh.append
  refine (h w o1 a1 h1).mono fun e w' ⟨i, hd, he, o', a', hq, hc, hg⟩ => ⟨i, hd, he, fun x => o' x ∨ o2 x, fun x => a' x ∨ a2 x, hq.join (h2.keep fun x hx => hc.block x (h2.lt x hx) fun hx1 => d1 x hx1 hx) (fun x hx hx2 => d1 x (hg.1 x (h2.lt x hx2) hx) hx2) (fun x hx hx2 => d2 x hx (hg.2 x (h2.lt x (h2.sub x hx)) hx2)), hc.mono fun x _ hx => (ho x).2 (.inl hx), ?_, ?_⟩
  · rintro x hx (k | k)
    · exact (ho x).2 (.inl (hg.1 x hx k))
    · exact (ho x).2 (.inr k)
  · rintro x hx (k | k)
    · exact (ha x).2 (.inl (hg.2 x hx k))
    · exact (ha x).2 (.inr k)
theorem A.Rd.frame {P : Program} {f : FuncId} {args : Array Value} {p : List A.It} {v : Value} (h : A.Rd P f args p v) (fr : List A.It) : A.Rd P f args (p ++ fr) v := by
  intro w o a hh
  obtain ⟨o1, a1, o2, a2, h1, h2, d1, d2, ho, ha⟩ := hh.append
  exact h w o1 a1 h1
/-- A block whose cells are known. -/
def A.blk (g : Nat) (cs : List Value) : A.It where
  t w o a := (∀ i v, cs[i]? = some v → w.cell? ⟨g, i, none⟩ = some v) ∧ (∀ i, w.frozen? ⟨g, i, none⟩ = false) ∧ g < w.heap.size ∧ (∀ x, o x ↔ x = g) ∧ (∀ x, a x ↔ x = g) ∧ cs ≠ []
  sub := fun h x hx => (h.2.2.2.2.1 x).2 ((h.2.2.2.1 x).1 hx)
  lt := fun h x hx => by rw [(h.2.2.2.2.1 x).1 hx]; exact h.2.2.1
  keep := fun {w w' o a} h hk => by
    have e := hk g ((h.2.2.2.2.1 g).2 rfl)
    refine ⟨fun i v hv => ?_, fun i => ?_, ?_, h.2.2.2⟩
    · have := h.1 i v hv; rw [World.cell?] at this ⊢; rw [e]; exact this
    · have := h.2.1 i; rw [World.frozen?] at this ⊢; rw [e]; exact this
    · have h1 := Array.getElem?_eq_getElem h.2.2.1
      rw [h1] at e
      exact (Array.getElem?_eq_some_iff.1 e).1
  apart := fun {w w2 o a o2 a2 x} h h2 _ hz hx => by
    obtain rfl := (h.2.2.2.2.1 x).1 hx
    cases cs with
    | nil => exact h.2.2.2.2.2 rfl
    | cons v l => have := h2.1 0 v rfl; rw [hz] at this; cases this
def A.bl (L : List (Nat × List Value)) : List A.It := L.map fun p => A.blk p.1 p.2
/-- The blocks o0 may have changed since w0; the items l hold. -/
def A.X (w0 : World) (o0 a0 : Nat → Prop) (l : List A.It) (w : World) : Prop := (∀ x, o0 x → a0 x) ∧ ∃ o a, A.Has l w o a ∧ A.Gr w0 o0 a0 o a
def A.ne (L : List (Nat × List Value)) : Bool := L.all fun p => !p.2.isEmpty
/-- A world with one block emptied. -/
theorem A.emptied (w : World) (x : Nat) : ∃ w2 : World, w2.heap.size = w.heap.size ∧ (∀ b, b ≠ x → w2.heap[b]? = w.heap[b]?) ∧ ∀ i, w2.cell? ⟨x, i, none⟩ = none := by
  refine ⟨{ w with heap := w.heap.setIfInBounds x (.cells #[] 0 (0, 0)) }, by simp, fun b hb => ?_, fun i => ?_⟩
  · show (w.heap.setIfInBounds x _)[b]? = _
    rw [Array.getElem?_setIfInBounds_ne]
    exact fun e => hb e.symm
  · rw [World.cell?]
    show (match (w.heap.setIfInBounds x (.cells #[] 0 (0, 0)))[x]? with | some (.cells c _ _) => _ | _ => none) = none
    rw [Array.getElem?_setIfInBounds_self]
    split
    · rename_i he; split at he
      · obtain rfl := Option.some.inj he |> fun e => (Obj.cells.inj e).1; simp
      · cases he
    · rfl
/-- The items speak of none of the known blocks. -/
theorem A.X.off {w0 w : World} {o0 a0 : Nat → Prop} {l : List A.It} {L : List (Nat × List Value)} (h : E.Hp o0 w0 (A.X w0 o0 a0 l) L w) {x : Nat} (hm : x ∈ L.map (·.1)) {o a : Nat → Prop} (hh : A.Has l w o a) : ¬ a x := fun hx => by
  obtain ⟨w2, hs, hw2, hz⟩ := A.emptied w x
  obtain ⟨_, o3, a3, h3, _⟩ := h.ext w2 (Nat.le_of_eq hs.symm) fun b hb hn => hw2 b fun e => hn (e ▸ hm)
  exact hh.apart h3 hw2 hz hx
theorem A.hp_has {w0 w : World} {o0 a0 : Nat → Prop} {l : List A.It} {L : List (Nat × List Value)} (hne : A.ne L = true) (h : E.Hp o0 w0 (A.X w0 o0 a0 l) L w) : ∃ o a, A.Has (A.bl L ++ l) w o a ∧ A.Gr w0 o0 a0 o a := by
  obtain ⟨hs, o2, a2, h2, hg2⟩ := h.x
  have na : ∀ x, x ∈ L.map (·.1) → ∀ o a, A.Has l w o a → ¬ a x := fun x hm o a hh hx => A.X.off h hm hh hx
  have hmem : ∀ p ∈ L, A.Has [A.blk p.1 p.2] w (fun x => x = p.1) (fun x => x = p.1) := fun p hp => by
    refine ⟨fun x => x = p.1, fun x => x = p.1, fun _ => False, fun _ => False, ⟨h.mem p hp, h.fz p hp, h.lt p hp, fun _ => Iff.rfl, fun _ => Iff.rfl, ?_⟩, ⟨fun _ h => h, fun _ h => h⟩, fun _ _ h => h, fun _ h => h.elim, fun x => by simp, fun x => by simp⟩
    intro e
    have := List.all_eq_true.1 hne p hp
    rw [e] at this; cases this
  have key : ∀ M : List (Nat × List Value), (∀ p ∈ M, p ∈ L) → (M.map (·.1)).Nodup → A.Has (A.bl M) w (fun x => x ∈ M.map (·.1)) (fun x => x ∈ M.map (·.1)) := by
    intro M
    induction M with
    | nil => exact fun _ _ => ⟨fun x hx => by simp at hx, fun x hx => by simp at hx⟩
    | cons p M ih =>
      intro hM hd
      rw [List.map_cons, List.nodup_cons] at hd
      have hj := (hmem p (hM p (List.mem_cons_self ..))).join (ih (fun q hq => hM q (List.mem_cons_of_mem _ hq)) hd.2) (fun x hx hx2 => hd.1 (hx ▸ hx2)) (fun x hx hx2 => hd.1 (hx2 ▸ hx))
      refine A.Has.iff (l := A.bl (p :: M)) hj (fun x => ?_) (fun x => ?_)
      · rw [List.map_cons, List.mem_cons]
      · rw [List.map_cons, List.mem_cons]
  refine ⟨_, _, (key L (fun _ h => h) h.nodup).join h2 (fun x hx hx2 => na x hx o2 a2 h2 hx2) (fun x hx hx2 => na x hx2 o2 a2 h2 (h2.sub x hx)), ⟨?_, ?_⟩⟩
  · rintro x hx (k | k)
    · obtain ⟨p, hp, rfl⟩ := List.mem_map.1 k
      exact h.own p hp hx
    · exact hg2.1 x hx k
  · rintro x hx (k | k)
    · obtain ⟨p, hp, rfl⟩ := List.mem_map.1 k
      exact hs _ (h.own p hp hx)
    · exact hg2.2 x hx k
theorem A.bl_has : ∀ {L : List (Nat × List Value)} {w : World} {o a : Nat → Prop}, A.Has (A.bl L) w o a → (∀ p ∈ L, (∀ i v, p.2[i]? = some v → w.cell? ⟨p.1, i, none⟩ = some v) ∧ (∀ i, w.frozen? ⟨p.1, i, none⟩ = false) ∧ p.1 < w.heap.size) ∧ (∀ x, o x ↔ x ∈ L.map (·.1)) ∧ (∀ x, a x ↔ x ∈ L.map (·.1)) ∧ (L.map (·.1)).Nodup
  | [], _, _, _, h => ⟨fun _ h => by simp at h, fun x => by simpa using h.1 x, fun x => by simpa using h.2 x, by simp⟩
  | p :: L, w, o, a, ⟨o1, a1, o2, a2, h1, h2, d1, d2, ho, ha⟩ => by
    obtain ⟨k1, k2, k3, k4⟩ := A.bl_has h2
    refine ⟨fun q hq => ?_, fun x => ?_, fun x => ?_, ?_⟩
    · rcases List.mem_cons.1 hq with rfl | hq
      · exact ⟨h1.1, h1.2.1, h1.2.2.1⟩
      · exact k1 q hq
    · rw [ho, k2, h1.2.2.2.1, List.map_cons, List.mem_cons]
    · rw [ha, k3, h1.2.2.2.2.1, List.map_cons, List.mem_cons]
    · rw [List.map_cons, List.nodup_cons]
      exact ⟨fun hm => d1 p.1 ((h1.2.2.2.1 _).2 rfl) ((k3 _).2 hm), k4⟩
theorem A.has_hp {w0 w : World} {o0 a0 o a : Nat → Prop} {l : List A.It} {L : List (Nat × List Value)} (hs : ∀ x, o0 x → a0 x) (h : A.Has (A.bl L ++ l) w o a) (hg : A.Gr w0 o0 a0 o a) (hc : Ch o0 w0 w) : E.Hp o0 w0 (A.X w0 o0 a0 l) L w := by
  obtain ⟨o1, a1, o2, a2, h1, h2, d1, d2, ho, ha⟩ := h.append
  obtain ⟨k1, k2, k3, k4⟩ := A.bl_has h1
  refine ⟨hc, fun p hp => (k1 p hp).1, fun p hp => (k1 p hp).2.1, fun p hp => (k1 p hp).2.2, fun p hp hlt => hg.1 _ hlt ((ho _).2 (.inl ((k2 _).2 (List.mem_map.2 ⟨p, hp, rfl⟩)))), k4, fun w' hsz hw => ⟨hs, o2, a2, h2.keep fun x hx => hw x (h2.lt x hx) fun hm => d1 x ((k2 x).2 hm) hx, fun x hx hk => hg.1 x hx ((ho x).2 (.inr hk)), fun x hx hk => hg.2 x hx ((ha x).2 (.inr hk))⟩⟩
/-- The state at the start of a call over items. -/
theorem A.start {w : World} {o a : Nat → Prop} {l : List A.It} {L : List (Nat × List Value)} (h : A.Has (A.bl L ++ l) w o a) : E.Hp o w (A.X w o a l) L w :=
  A.has_hp h.sub h (A.Gr.refl _ _ _) (Ch.refl _ _)
/-- The end of a call over items. -/
theorem A.done {w0 w : World} {o0 a0 : Nat → Prop} {l q r : List A.It} {L : List (Nat × List Value)} (h : E.Hp o0 w0 (A.X w0 o0 a0 l) L w) (hne : A.ne L = true) (hp : (A.bl L ++ l).Perm (q ++ r)) : ∃ o' a', A.Has q w o' a' ∧ Ch o0 w0 w ∧ A.Gr w0 o0 a0 o' a' := by
  obtain ⟨o, a, hh, hg⟩ := A.hp_has hne h
  obtain ⟨o1, a1, o2, a2, h1, h2, d1, d2, ho, ha⟩ := (hh.perm hp).append
  exact ⟨o1, a1, h1, h.ch, fun x hx hk => hg.1 x hx ((ho x).2 (.inl hk)), fun x hx hk => hg.2 x hx ((ha x).2 (.inl hk))⟩
section rules
variable {P : Program} {n : Nat} {ops : Array Oper} {Q : Exit → Act → World → Prop} {w0 : World} {o0 a0 : Nat → Prop} {its : List A.It} {L : List (Nat × List Value)} {l : List Oper} {o : Oper} {fr : E.Fr}
theorem A.call_tr {f : FuncId} {args : Array Value} {I : Type} {D : I → Prop} {V : I → Value} {p : List A.It} {q : I → List A.It} {w : World} (fm : List A.It) (L' : I → List (Nat × List Value)) (its' : I → List A.It) (hc : A.Tr P f args p D V q) (h : E.Hp o0 w0 (A.X w0 o0 a0 its) L w) (hne : A.ne L = true) (h1 : (A.bl L ++ its).Perm (p ++ fm)) (h2 : ∀ i, (q i ++ fm).Perm (A.bl (L' i) ++ its' i)) :
    Calls P f args w fun e w' => ∃ i, D i ∧ e = .returned (V i) ∧ E.Hp o0 w0 (A.X w0 o0 a0 (its' i)) (L' i) w' := by
  obtain ⟨o, a, hh, hg⟩ := A.hp_has hne h
  refine (hc.frame fm w o a (hh.perm h1)).mono fun e w' ⟨i, hd, he, o', a', hq, hc, hg'⟩ => ⟨i, hd, he, ?_⟩
  exact A.has_hp h.x.1 (hq.perm (h2 i)) (hg.trans h.ch.size hg') (h.ch.trans' hc fun x hx hk => hg.1 x hx hk)
/-- A call that turns items. -/
theorem A.G.call {f : FuncId} {args : Array Value} {I : Type} {D : I → Prop} {V : I → Value} {p : List A.It} {q : I → List A.It} (fm : List A.It) (L' : I → List (Nat × List Value)) (its' : I → List A.It) (hc : A.Tr P f args p D V q) (hne : A.ne L = true) (h1 : (A.bl L ++ its).Perm (p ++ fm)) (h2 : ∀ i, (q i ++ fm).Perm (A.bl (L' i) ++ its' i))
    (hr : ∀ w, E.Hp o0 w0 (A.X w0 o0 a0 its) L w → (execOp (E.ev fr) o).run P w = .ok (.enter f args) w) (hck : E.ck n ops fr o = true)
    (k : ∀ i, D i → E.G P n ops Q l (E.upd fr o.dst (V i)) o0 w0 (A.X w0 o0 a0 (its' i)) (L' i)) : E.G P n ops Q (o :: l) fr o0 w0 (A.X w0 o0 a0 its) L :=
  E.G.callX D V (fun i => A.X w0 o0 a0 (its' i)) L' (fun w h => A.call_tr fm L' its' hc h hne h1 h2) hr hck k
/-- A call that reads items, in any region. -/
theorem A.call_rd {f : FuncId} {args : Array Value} {v : Value} {p : List A.It} {w : World} (fm : List A.It) (hc : A.Rd P f args p v) (h : E.Hp o0 w0 (A.X w0 o0 a0 its) L w) (hne : A.ne L = true) (h1 : (A.bl L ++ its).Perm (p ++ fm)) :
    Calls P f args w fun e w' => e = .returned v ∧ Bel w w' := by
  obtain ⟨o, a, hh, hg⟩ := A.hp_has hne h
  exact hc.frame fm w o a (hh.perm h1)
/-- The items in another order, or some blocks as items. -/
theorem A.G.shift (L' : List (Nat × List Value)) (its' : List A.It) (hne : A.ne L = true) (h1 : (A.bl L ++ its).Perm (A.bl L' ++ its')) (k : E.G P n ops Q l fr o0 w0 (A.X w0 o0 a0 its') L') : E.G P n ops Q l fr o0 w0 (A.X w0 o0 a0 its) L := by
  intro a w hs h
  obtain ⟨o, a', hh, hg⟩ := A.hp_has hne h
  exact k a w hs (A.has_hp h.x.1 (hh.perm h1) hg h.ch)
theorem A.C.shift {c : Code} (L' : List (Nat × List Value)) (its' : List A.It) (hne : A.ne L = true) (h1 : (A.bl L ++ its).Perm (A.bl L' ++ its')) (k : E.C P n Q c fr o0 w0 (A.X w0 o0 a0 its') L') : E.C P n Q c fr o0 w0 (A.X w0 o0 a0 its) L := by
  intro a w hs h
  obtain ⟨o, a', hh, hg⟩ := A.hp_has hne h
  exact k a w hs (A.has_hp h.x.1 (hh.perm h1) hg h.ch)
/-- Items forgotten or restated. -/
theorem A.X.imp {w : World} {l' : List A.It} (h : E.Hp o0 w0 (A.X w0 o0 a0 its) L w) (hi : ∀ w o a, A.Has its w o a → A.Has l' w o a) : E.Hp o0 w0 (A.X w0 o0 a0 l') L w :=
  h.monoX fun w ⟨hs, o, a, hh, hg⟩ => ⟨hs, o, a, hi w o a hh, hg⟩
end rules
end Go.Proofs.Ytdjjjikokfadiaa

/- Items: one item is turned; slices of integers as items. No condition. -/
namespace Go.Proofs.Ytdjjjikokfadiaa
set_option linter.unusedVariables false
set_option linter.unusedSimpArgs false
open Go.RowKit
theorem A.Has.get : ∀ {l : List A.It} {w : World} {o a : Nat → Prop} {k : Nat} {it : A.It}, A.Has l w o a → l[k]? = some it → ∃ o1 a1, it.t w o1 a1
  | [], _, _, _, k, _, _, hk => by simp at hk
  | i :: l, w, o, a, 0, it, ⟨o1, a1, o2, a2, h1, _⟩, hk => by
    simp at hk; subst hk; exact ⟨o1, a1, h1⟩
  | i :: l, w, o, a, k + 1, it, ⟨o1, a1, o2, a2, _, h2, _⟩, hk => A.Has.get h2 (by simpa using hk)
theorem A.set_perm {α : Type} : ∀ (l : List α) (k : Nat) (x y : α), l[k]? = some x → ∃ r, l.Perm (x :: r) ∧ (l.set k y).Perm (y :: r)
  | [], k, _, _, h => by simp at h
  | a :: l, 0, x, y, h => by simp at h; subst h; exact ⟨l, .refl _, .refl _⟩
  | a :: l, k + 1, x, y, h => by
    obtain ⟨r, h1, h2⟩ := A.set_perm l k x y (by simpa using h)
    exact ⟨a :: r, (h1.cons a).trans (.swap x a r), (h2.cons a).trans (.swap y a r)⟩
theorem A.Has.upd {l : List A.It} {w w' : World} {o a : Nat → Prop} {k : Nat} {it it' : A.It} (h : A.Has l w o a) (hk : l[k]? = some it) (hu : ∀ o1 a1, it.t w o1 a1 → Ch o1 w w' ∧ ∃ o1' a1', it'.t w' o1' a1' ∧ A.Gr w o1 a1 o1' a1') :
    ∃ o' a', A.Has (l.set k it') w' o' a' ∧ Ch o w w' ∧ A.Gr w o a o' a' := by
  obtain ⟨r, p1, p2⟩ := A.set_perm l k it it' hk
  obtain ⟨o1, a1, o2, a2, h1, h2, d1, d2, ho, ha⟩ := h.perm p1
  obtain ⟨hc, o3, a3, h3, hg⟩ := hu o1 a1 h1
  refine ⟨fun x => o3 x ∨ o2 x, fun x => a3 x ∨ a2 x, A.Has.perm p2.symm ⟨o3, a3, o2, a2, h3, h2.keep fun x hx => hc.block x (h2.lt x hx) fun hx1 => d1 x hx1 hx, fun x hx hx2 => d1 x (hg.1 x (h2.lt x hx2) hx) hx2, fun x hx hx2 => d2 x hx (hg.2 x (h2.lt x (h2.sub x hx)) hx2), fun _ => Iff.rfl, fun _ => Iff.rfl⟩, hc.mono fun x _ hx => (ho x).2 (.inl hx), ?_, ?_⟩
  · rintro x hx (k | k)
    · exact (ho x).2 (.inl (hg.1 x hx k))
    · exact (ho x).2 (.inr k)
  · rintro x hx (k | k)
    · exact (ha x).2 (.inl (hg.2 x hx k))
    · exact (ha x).2 (.inr k)
section
variable {w0 w : World} {o0 a0 : Nat → Prop} {its : List A.It} {L : List (Nat × List Value)} {it it' : A.It} {k : Nat}
theorem A.X.get (h : E.Hp o0 w0 (A.X w0 o0 a0 its) L w) (hk : its[k]? = some it) : ∃ o1 a1, it.t w o1 a1 := by
  obtain ⟨_, o, a, hh, _⟩ := h.x
  exact hh.get hk
theorem A.X.upd {w' : World} (h : E.Hp o0 w0 (A.X w0 o0 a0 its) L w) (hne : A.ne L = true) (hk : its[k]? = some it) (hu : ∀ o1 a1, it.t w o1 a1 → Ch o1 w w' ∧ ∃ o1' a1', it'.t w' o1' a1' ∧ A.Gr w o1 a1 o1' a1') :
    E.Hp o0 w0 (A.X w0 o0 a0 (its.set k it')) L w' := by
  obtain ⟨o, a, hh, hg⟩ := A.hp_has hne h
  have hk' : (A.bl L ++ its)[(A.bl L).length + k]? = some it := by rw [List.getElem?_append_right (by omega)]; simpa using hk
  obtain ⟨o', a', h', hc, hg'⟩ := hh.upd (it' := it') hk' hu
  rw [List.set_append_right _ _ (by omega), Nat.add_sub_cancel_left] at h'
  exact A.has_hp h.x.1 h' (hg.trans h.ch.size hg') (h.ch.trans' hc fun x hx hk => hg.1 x hx hk)
/-- A new item. -/
theorem A.X.add {w' : World} (h : E.Hp o0 w0 (A.X w0 o0 a0 its) L w) (hb : Bel w w') (it : A.It) {o1 a1 : Nat → Prop} (hi : it.t w' o1 a1) (ha : ∀ x, a1 x → w.heap.size ≤ x) : E.Hp o0 w0 (A.X w0 o0 a0 (it :: its)) L w' := by
  have h' := h.bel hb
  refine ⟨h'.ch, h'.mem, h'.fz, h'.lt, h'.own, h'.nodup, fun w2 hs hw => ?_⟩
  obtain ⟨hs0, o, a, hh, hg⟩ := h.x
  have hlo : ∀ p ∈ L, p.1 < w.heap.size := h.lt
  have hw2 : ∀ x, a1 x → w2.heap[x]? = w'.heap[x]? := fun x hx => hw x (it.lt hi x hx) fun hm => by
    obtain ⟨p, hp, rfl⟩ := List.mem_map.1 hm
    have := hlo p hp; have := ha _ hx; omega
  have hh3 : A.Has its w2 o a := hh.keep fun x hx => by
    have hlt := hh.lt x hx
    rw [hw x (Nat.lt_of_lt_of_le hlt hb.size) (fun hm => A.X.off h hm hh hx), hb.heap x hlt]
  refine ⟨hs0, ?_⟩
  refine ⟨fun x => o1 x ∨ o x, fun x => a1 x ∨ a x, ⟨o1, a1, o, a, it.keep hi hw2, hh3, fun x hx hx2 => ?_, fun x hx hx2 => ?_, fun _ => Iff.rfl, fun _ => Iff.rfl⟩, fun x hx hk => ?_, fun x hx hk => ?_⟩
  · have := ha x (it.sub hi x hx); have := hh.lt x hx2; omega
  · have := ha x hx2; have := hh.lt x (hh.sub x hx); omega
  · rcases hk with hk | hk
    · have := ha x (it.sub hi x hk); have := h.ch.size; omega
    · exact hg.1 x hx hk
  · rcases hk with hk | hk
    · have := ha x hk; have := h.ch.size; omega
    · exact hg.2 x hx hk
end
/-- A slice of integers of one's own, with its capacity. -/
def A.vec (k : IntKind) (ao : Option Addr) (cap : Nat) (l : List Int) : A.It where
  t w o a := l.length ≤ cap ∧ ((cap = 0 ∧ (∀ x, ¬ o x) ∧ ∀ x, ¬ a x) ∨ (0 < cap ∧ ∃ b, ao = some ⟨b, 0, none⟩ ∧ b < w.heap.size ∧ (∀ i v, l[i]? = some v → w.cell? ⟨b, i, none⟩ = some (.int k v)) ∧ (∀ i, i < cap → ∃ u, w.cell? ⟨b, i, none⟩ = some u) ∧ (∀ i, w.frozen? ⟨b, i, none⟩ = false) ∧ (∀ x, o x ↔ x = b) ∧ ∀ x, a x ↔ x = b))
  sub := fun h x hx => by
    rcases h.2 with h | ⟨_, b, _, _, _, _, _, ho, ha⟩
    · exact (h.2.1 x hx).elim
    · exact (ha x).2 ((ho x).1 hx)
  lt := fun h x hx => by
    rcases h.2 with h | ⟨_, b, _, hb, _, _, _, _, ha⟩
    · exact (h.2.2 x hx).elim
    · rw [(ha x).1 hx]; exact hb
  keep := fun {w w' o a} h hk => by
    refine ⟨h.1, ?_⟩
    rcases h.2 with h | ⟨hc, b, hao, hb, h1, h2, h3, ho, ha⟩
    · exact .inl h
    · have e := hk b ((ha b).2 rfl)
      refine .inr ⟨hc, b, hao, ?_, fun i v hv => ?_, fun i hi => ?_, fun i => ?_, ho, ha⟩
      · rw [Array.getElem?_eq_getElem hb] at e; exact (Array.getElem?_eq_some_iff.1 e).1
      · have := h1 i v hv; rw [World.cell?] at this ⊢; rw [e]; exact this
      · obtain ⟨u, hu⟩ := h2 i hi; refine ⟨u, ?_⟩; rw [World.cell?] at hu ⊢; rw [e]; exact hu
      · have := h3 i; rw [World.frozen?] at this ⊢; rw [e]; exact this
  apart := fun {w w2 o a o2 a2 x} h h2 _ hz hx => by
    rcases h.2 with h | ⟨hc, b, hao, hb, h1, _, _, ho, ha⟩
    · exact h.2.2 x hx
    · obtain rfl := (ha x).1 hx
      rcases h2.2 with h2 | ⟨_, b2, hao2, _, _, h4, _, _, _⟩
      · omega
      · rw [hao] at hao2
        obtain rfl : x = b2 := by injection hao2 with e; injection e
        obtain ⟨u, hu⟩ := h4 0 hc
        rw [hz] at hu; cases hu
/-- The block of a slice. -/
def A.bk (ao : Option Addr) : Nat := match ao with
  | some a => a.block
  | none => 0
theorem A.vec_at {k : IntKind} {ao : Option Addr} {cap : Nat} {l : List Int} {w : World} {o a : Nat → Prop} (h : (A.vec k ao cap l).t w o a) {i : Nat} (hi : i < l.length) : w.cell? ⟨A.bk ao, i, none⟩ = some (.int k (l.getD i 0)) := by
  have h1 := h.1
  rcases h.2 with h | ⟨hc, b, rfl, hb, h1, _⟩
  · omega
  · exact h1 i _ (by simp [List.getD, hi])
theorem A.vec_ao {k : IntKind} {ao : Option Addr} {cap : Nat} {l : List Int} {w : World} {o a : Nat → Prop} (h : (A.vec k ao cap l).t w o a) (hc : 0 < cap) : ao = some ⟨A.bk ao, 0, none⟩ := by
  rcases h.2 with h | ⟨hc, b, rfl, hb, h1, _⟩
  · omega
  · rfl
theorem A.vec_set {k : IntKind} {ao : Option Addr} {cap : Nat} {l : List Int} {w : World} {o a : Nat → Prop} (h : (A.vec k ao cap l).t w o a) {i : Nat} (hi : i < l.length) (v : Int) :
    w.frozen? ⟨A.bk ao, i, none⟩ = false ∧ (∃ u, w.cell? ⟨A.bk ao, i, none⟩ = some u) ∧ o (A.bk ao) ∧ (A.vec k ao cap (l.set i v)).t (w.setCell ⟨A.bk ao, i, none⟩ (.int k v)) o a := by
  have h0 := h.1
  rcases h.2 with h | ⟨hc, b, rfl, hb, h1, h2, h3, ho, ha⟩
  · omega
  · refine ⟨h3 i, h2 i (by omega), (ho _).2 rfl, by rw [List.length_set]; exact h0, .inr ⟨hc, b, rfl, by simpa [World.setCell] using hb, fun j u hu => ?_, fun j hj => ?_, fun j => (frozen_set _ _ _ _).trans (h3 j), ho, ha⟩⟩
    · show (w.setCell ⟨b, i, none⟩ _).cell? _ = _
      by_cases e : i = j
      · subst e
        rw [List.getElem?_set_self hi] at hu
        obtain rfl := Option.some.inj hu
        obtain ⟨u0, hu0⟩ := h2 i (by omega)
        exact cell_set hu0
      · rw [List.getElem?_set_ne e] at hu
        rw [World.cell?_setCell_other _ _ _ _ (by intro q; injection q with _ h2 _; exact e h2)]
        exact h1 j u hu
    · show ∃ u, (w.setCell ⟨b, i, none⟩ _).cell? _ = _
      by_cases e : i = j
      · subst e
        obtain ⟨u0, hu0⟩ := h2 i hj
        exact ⟨_, cell_set hu0⟩
      · rw [World.cell?_setCell_other _ _ _ _ (by intro q; injection q with _ h2 _; exact e h2)]
        exact h2 j hj
section rules
variable {P : Program} {n : Nat} {ops : Array Oper} {Q : Exit → Act → World → Prop} {w0 w : World} {o0 a0 : Nat → Prop} {its : List A.It} {L : List (Nat × List Value)} {l : List Oper} {fr : E.Fr} {d : Option Nat} {T : TypeId} {pos : String} {af : Array Edge} {gd : Option (Nat × Bool)} {x ix : Operand}
theorem A.load {t : TypeId} {g j : Nat} {v : Value} {D : TypeDesc} (hx : E.ev fr x = .pointer (some ⟨g, j, none⟩)) (hu : P.underlying t = some D) (hD : (match D with | .struct _ => true | .array _ _ => true | _ => false) = false) (h : w.cell? ⟨g, j, none⟩ = some v) :
    (execOp (E.ev fr) ⟨d, .load t x, T, pos, af, gd⟩).run P w = .ok (.value v) w := by
  have ht : (isAgg t).run P w = .ok false w := by
    cases D <;> first | (simp [isAgg, underlying, hu]; done) | cases hD
  show (do let r ← Instr.loadAt t (E.ev fr x); pure (Next.value r) : Sem Next).run P w = _
  rw [hx]
  simp [Instr.loadAt, Instr.sureAddr, loadVar, ht, load, Sem.run, h]
/-- An element of a slice: its address. -/
theorem A.idx {t e : TypeId} {kd ik : IntKind} {ao : Option Addr} {len cap c2 : Nat} {l : List Int} {i : Nat} {k : Nat} (h : E.Hp o0 w0 (A.X w0 o0 a0 its) L w) (hk : its[k]? = some (A.vec kd ao cap l)) (hu : P.underlying t = some (.slice e)) (hs : (P.info? e).map (·.size) = some 1) (hx : E.ev fr x = .slice ao len c2) (hi : E.ev fr ix = .int ik ((i : Nat) : Int)) (h1 : i < len) (h2 : i < l.length) :
    (execOp (E.ev fr) ⟨d, .indexAddr t x ix, T, pos, af, gd⟩).run P w = .ok (.value (.pointer (some ⟨A.bk ao, i, none⟩))) w := by
  obtain ⟨o1, a1, hv⟩ := A.X.get h hk
  have hao := A.vec_ao hv (by have := hv.1; omega)
  have hx2 : E.ev fr x = .slice (some ⟨A.bk ao, 0, none⟩) len c2 := hao ▸ hx
  have := E.idxS (e := e) (d := d) (T := T) (pos := pos) (af := af) (gd := gd) (A.bk ao) 0 len c2 1 ik ((i : Nat) : Int) hu hs hx2 hi (by omega) (by omega) w
  rw [this, Int.toNat_natCast]
  congr 5; omega
/-- An element of a slice is read. -/
theorem A.vld {t : TypeId} {kd : IntKind} {ao : Option Addr} {cap : Nat} {l : List Int} {i : Nat} {k : Nat} (h : E.Hp o0 w0 (A.X w0 o0 a0 its) L w) (hk : its[k]? = some (A.vec kd ao cap l)) (hu : P.underlying t = some (.int kd)) (hx : E.ev fr x = .pointer (some ⟨A.bk ao, i, none⟩)) (h2 : i < l.length) :
    (execOp (E.ev fr) ⟨d, .load t x, T, pos, af, gd⟩).run P w = .ok (.value (.int kd (l.getD i 0))) w := by
  obtain ⟨o1, a1, hv⟩ := A.X.get h hk
  exact A.load hx hu rfl (A.vec_at hv h2)
end rules
end Go.Proofs.Ytdjjjikokfadiaa

/- mem: a memory as an item: what it shows, and what lies behind its header. No condition. -/
namespace Go.Proofs.Ytdjjjikokfadiaa
set_option linter.unusedVariables false
set_option linter.unusedSimpArgs false
open Go.RowKit
theorem M.ptr_inj {p q : Option Nat} (h : M.ptr p = M.ptr q) : p = q := by
  unfold M.ptr at h
  cases p with
  | none => cases q with
    | none => rfl
    | some b => simp at h
  | some a => cases q with
    | none => simp at h
    | some b => simp at h; rw [h]
theorem M.apart_pg {o o2 : M.Obj} {w w2 : World} {x : Nat} (h : M.At o w) (h2 : M.At o2 w2) (hm : o2.m = o.m) (hw : ∀ b, b ≠ x → w2.heap[b]? = w.heap[b]?) (hz : ∀ i, w2.cell? ⟨x, i, none⟩ = none) : ¬ M.all o x := by
  intro hx
  by_cases e0 : x = o.m
  · subst e0
    have := h2.c0; rw [hm, hz] at this; cases this
  · have hcm : w2.cell? ⟨o.m, 0, none⟩ = w.cell? ⟨o.m, 0, none⟩ := by rw [World.cell?, World.cell?, hw _ (Ne.symm e0)]
    have c0 := h2.c0
    rw [hm, hcm, h.c0] at c0
    simp only [Option.some.injEq, Value.slice.injEq] at c0
    obtain ⟨ha, hl, _⟩ := c0
    have hb : 0 < o.sl.length → o2.b = o.b := fun hn => by
      have e1 := h.ha hn
      have e2 := h2.ha (hl ▸ hn)
      rw [← ha, e1] at e2
      simp only [Option.some.injEq, Addr.mk.injEq] at e2
      exact e2.1.symm
    rcases hx with hx | ⟨hn, hx⟩ | hx
    · exact e0 hx
    · have := h2.fld (i := 0) (k := 6) (hl ▸ hn) rfl (by decide) 6 rfl
      rw [hb hn, ← hx, hz] at this; cases this
    · obtain ⟨i, hi, hp⟩ := hx
      have hn : 0 < o.sl.length := by omega
      by_cases e1 : x = o.b
      · have := h2.fld (i := 0) (k := 6) (hl ▸ hn) rfl (by decide) 6 rfl
        rw [hb hn, ← e1, hz] at this; cases this
      · have hi2 : i < o2.sl.length := hl ▸ hi
        have hf : ∀ k, k < 7 → (o2.at i).cells[k]? = (o.at i).cells[k]? := fun k hk => by
          have hk1 : (o.at i).cells[k]? = some (o.at i).cells[k] := List.getElem?_eq_getElem hk
          have hk2 : (o2.at i).cells[k]? = some (o2.at i).cells[k] := List.getElem?_eq_getElem hk
          have f1 := h.fld hi hk1 hk _ rfl
          have f2 := h2.fld hi2 hk2 hk _ rfl
          have e : w2.cell? ⟨o.b, i * 7 + k, none⟩ = w.cell? ⟨o.b, i * 7 + k, none⟩ := by rw [World.cell?, World.cell?, hw _ (Ne.symm e1)]
          rw [hb hn, e, f1] at f2
          rw [hk1, hk2]; exact f2.symm
        have g0 := hf 0 (by decide)
        have g1 := hf 1 (by decide)
        have g4 := hf 4 (by decide)
        have g5 := hf 5 (by decide)
        have g0 : (o2.at i).d = (o.at i).d := by
          have : some (Value.pointer (some ⟨(o2.at i).d, 0, none⟩)) = some (Value.pointer (some ⟨(o.at i).d, 0, none⟩)) := g0
          simpa using this
        have g4 : (o2.at i).cd = (o.at i).cd := by
          have : some (Value.pointer (some ⟨(o2.at i).cd, 0, none⟩)) = some (Value.pointer (some ⟨(o.at i).cd, 0, none⟩)) := g4
          simpa using this
        have g1 : (o2.at i).c = (o.at i).c := M.ptr_inj (Option.some.inj g1)
        have g5 : (o2.at i).cc = (o.at i).cc := M.ptr_inj (Option.some.inj g5)
        have hp2 : M.Pg o2.sl x := ⟨i, hi2, by
          show x = (o2.at i).d ∨ (o2.at i).c = some x ∨ x = (o2.at i).cd ∨ (o2.at i).cc = some x
          rw [g0, g1, g4, g5]; exact hp⟩
        have := h2.pg x hp2 0 (by decide)
        rw [hz] at this; cases this
/-- A memory at the block m that shows V; behind its header the block holds xs. -/
def M.It (m : Nat) (V : M.V) (xs : List Value) : A.It where
  t w o a := ∃ b : M.Obj, b.m = m ∧ M.St b w ∧ M.Sh b V ∧ (∀ i v, xs[i]? = some v → w.cell? ⟨m, 2 + i, none⟩ = some v) ∧ (∀ x, o x ↔ x = m ∨ M.ow b x) ∧ ∀ x, a x ↔ M.all b x
  sub := fun ⟨b, hm, hs, _, _, ho, ha⟩ x hx => by
    rcases (ho x).1 hx with e | e
    · exact (ha x).2 (.inl (e.trans hm.symm))
    · exact (ha x).2 (M.ow_all e)
  lt := fun ⟨b, hm, hs, _, _, ho, ha⟩ x hx => hs.at_.alive ((ha x).1 hx)
  keep := fun {w w' o a} ⟨b, hm, hs, hV, hx, ho, ha⟩ hk => by
    have key : ∀ {p : Addr} {v : Value}, a p.block → w.cell? p = some v → w'.cell? p = some v := fun {p v} hp hv => by
      rw [World.cell?] at hv ⊢; rw [hk _ hp]; exact hv
    have hmm : a m := (ha m).2 (.inl hm.symm)
    refine ⟨b, hm, ⟨⟨key ((ha _).2 (.inl rfl)) hs.at_.c0, key ((ha _).2 (.inl rfl)) hs.at_.c1, hs.at_.ha, fun i v hv => key ((ha _).2 (M.all_b ?_)) (hs.at_.cs i v hv), fun p hp i hi => key ((ha _).2 (.inr (.inr hp))) (hs.at_.pg p hp i hi), hs.at_.lt⟩, hs.inv, fun x hx i => ?_⟩, hV, fun i v hv => key hmm (hx i v hv), ho, ha⟩
    · cases hsl : b.sl with
      | nil => rw [hsl] at hv; simp [M.cells] at hv
      | cons => simp
    · have := hs.fz x hx i
      rw [World.frozen?] at this ⊢; rw [hk x ((ha x).2 hx)]; exact this
  apart := fun ⟨b, hm, hs, _, _, _, ha⟩ ⟨b2, hm2, hs2, _, _, _, _⟩ hw hz hx => M.apart_pg hs.at_ hs2.at_ (hm2.trans hm.symm) hw hz ((ha _).1 hx)
theorem M.It.open1 {m : Nat} {V : M.V} {xs : List Value} {w : World} {o a : Nat → Prop} (h : A.Has [M.It m V xs] w o a) : (M.It m V xs).t w o a := by
  obtain ⟨o1, a1, o2, a2, h1, h2, _, _, ho, ha⟩ := h
  obtain ⟨b, hm, hs, hV, hx, ho1, ha1⟩ := h1
  exact ⟨b, hm, hs, hV, hx, fun x => by rw [ho, ho1]; exact ⟨fun h => h.elim id fun h => (h2.1 x h).elim, .inl⟩, fun x => by rw [ha, ha1]; exact ⟨fun h => h.elim id fun h => (h2.2 x h).elim, .inl⟩⟩
theorem A.Has.one {it : A.It} {w : World} {o a : Nat → Prop} (h : it.t w o a) : A.Has [it] w o a :=
  ⟨o, a, fun _ => False, fun _ => False, h, ⟨fun _ h => h, fun _ h => h⟩, fun _ _ h => h, fun _ h => h.elim, fun x => by simp, fun x => by simp⟩
/-- A reader of a memory, as a call over items. -/
theorem M.rd {f : FuncId} {args : Array Value} {m : Nat} {V : M.V} {xs : List Value} {v : Value} (h : ∀ (b : M.Obj) (w : World), b.m = m → M.St b w → M.Sh b V → Calls Try.prog f args w fun e w' => e = .returned v ∧ Bel w w') : A.Rd Try.prog f args [M.It m V xs] v := by
  intro w o a hh
  obtain ⟨b, hm, hs, hV, _⟩ := M.It.open1 hh
  exact h b w hm hs hV
/-- A writer of a memory, as a call over items. -/
theorem M.wr {f : FuncId} {args : Array Value} {m : Nat} {V V' : M.V} {xs : List Value} {v : Value} (h : ∀ (b : M.Obj) (w : World), b.m = m → M.St b w → M.Sh b V → Calls Try.prog f args w fun e w' => e = .returned v ∧ ∃ b', M.St b' w' ∧ Ch (fun x => M.ow b x) w w' ∧ M.Nxt w b b' ∧ M.Sh b' V') :
    A.Tr Try.prog f args [M.It m V xs] (I := Unit) (fun _ => True) (fun _ => v) (fun _ => [M.It m V' xs]) := by
  intro w o a hh
  obtain ⟨b, hm, hs, hV, hx, ho, ha⟩ := M.It.open1 hh
  refine (h b w hm hs hV).mono fun e w' ⟨he, b', hs', hc, hn, hV'⟩ => ⟨(), trivial, he, fun x => x = m ∨ M.ow b' x, fun x => M.all b' x, A.Has.one ⟨b', hn.m.trans hm, hs', hV', fun i u hu => ?_, fun _ => Iff.rfl, fun _ => Iff.rfl⟩, hc.mono fun x _ hx => (ho x).2 (.inr hx), fun x hx hk => ?_, fun x hx hk => (ha x).2 (hn.al x hx hk)⟩
  · have hcu := hx i u hu
    have hno : ¬ M.ow b m := fun hw => by
      rcases hw with ⟨hn0, e⟩ | ⟨i, hi, _, e⟩ | ⟨i, hi, _, e⟩
      · exact hs.inv.mb hn0 (hm.trans e)
      · exact (hs.inv.pm _ (M.pg_d hi)).1 (e.symm.trans hm.symm)
      · exact (hs.inv.pm _ (M.pg_c hi e)).1 hm.symm
    exact (hc.cell m _ (by rw [← hm]; exact hs.at_.alive (.inl rfl)) hno).trans hcu
  · rcases hk with hk | hk
    · exact (ho x).2 (.inl hk)
    · exact (ho x).2 (.inr (hn.ow x hx hk))
end Go.Proofs.Ytdjjjikokfadiaa

/- mem: a field of a page's state is set so that what is owned and spoken of grows not. No condition. -/
namespace Go.Proofs.Ytdjjjikokfadiaa
set_option linter.unusedVariables false
set_option linter.unusedSimpArgs false
open Go.RowKit
structure M.Fd (a s : M.Slot) : Prop where
  d : s.d = a.d
  c : s.c = a.c
  od : s.od = true → a.od = true
  oc : s.oc = true → a.oc = true
  cd : s.cd = a.cd ∨ s.cd = a.d ∧ a.od = false
  cc : s.cc = a.cc ∨ s.cc = a.c ∧ a.oc = false
  r : s.r = a.r
theorem M.fd_pg {o : M.Obj} {k : Nat} {s : M.Slot} (hk : k < o.sl.length) (hf : M.Fd (o.at k) s) {p : Nat} (h : M.Pg (o.upd k s).sl p) : M.Pg o.sl p := by
  obtain ⟨i, hi, hp⟩ := h
  rw [M.upd_len] at hi
  have hp : p = ((o.upd k s).at i).d ∨ ((o.upd k s).at i).c = some p ∨ p = ((o.upd k s).at i).cd ∨ ((o.upd k s).at i).cc = some p := hp
  rw [M.upd_at hk] at hp
  by_cases e : i = k
  · subst e
    rw [if_pos rfl] at hp
    rcases hp with hp | hp | hp | hp
    · exact ⟨i, hi, .inl (hp.trans hf.d)⟩
    · exact ⟨i, hi, .inr (.inl (hf.c.symm.trans hp))⟩
    · rcases hf.cd with e | ⟨e, _⟩
      · exact ⟨i, hi, .inr (.inr (.inl (hp.trans e)))⟩
      · exact ⟨i, hi, .inl (hp.trans e)⟩
    · rcases hf.cc with e | ⟨e, _⟩
      · exact ⟨i, hi, .inr (.inr (.inr (e.symm.trans hp)))⟩
      · exact ⟨i, hi, .inr (.inl (e.symm.trans hp))⟩
  · rw [if_neg e] at hp; exact ⟨i, hi, hp⟩
theorem M.Inv.fd {o : M.Obj} (h : M.Inv o) {k : Nat} {s : M.Slot} (hk : k < o.sl.length) (hf : M.Fd (o.at k) s) : M.Inv (o.upd k s) := by
  have hd : ∀ j, ((o.upd k s).at j).d = (o.at j).d := fun j => by
    rw [M.upd_at hk]; by_cases e : j = k
    · subst e; rw [if_pos rfl]; exact hf.d
    · rw [if_neg e]
  have hc : ∀ j, ((o.upd k s).at j).c = (o.at j).c := fun j => by
    rw [M.upd_at hk]; by_cases e : j = k
    · subst e; rw [if_pos rfl]; exact hf.c
    · rw [if_neg e]
  have hod : ∀ j, ((o.upd k s).at j).od = true → (o.at j).od = true := fun j => by
    rw [M.upd_at hk]; by_cases e : j = k
    · subst e; rw [if_pos rfl]; exact hf.od
    · rw [if_neg e]; exact id
  have hoc : ∀ j, ((o.upd k s).at j).oc = true → (o.at j).oc = true := fun j => by
    rw [M.upd_at hk]; by_cases e : j = k
    · subst e; rw [if_pos rfl]; exact hf.oc
    · rw [if_neg e]; exact id
  have hcd : ∀ j, ((o.upd k s).at j).cd = (o.at j).cd ∨ j = k ∧ ((o.upd k s).at j).cd = (o.at j).d ∧ (o.at j).od = false := fun j => by
    rw [M.upd_at hk]; by_cases e : j = k
    · subst e; rw [if_pos rfl]; exact hf.cd.imp id fun h => ⟨rfl, h⟩
    · rw [if_neg e]; exact .inl rfl
  have hcc : ∀ j, ((o.upd k s).at j).cc = (o.at j).cc ∨ j = k ∧ ((o.upd k s).at j).cc = (o.at j).c ∧ (o.at j).oc = false := fun j => by
    rw [M.upd_at hk]; by_cases e : j = k
    · subst e; rw [if_pos rfl]; exact hf.cc.imp id fun h => ⟨rfl, h⟩
    · rw [if_neg e]; exact .inl rfl
  have hr : ∀ j, ((o.upd k s).at j).r = (o.at j).r := fun j => by
    rw [M.upd_at hk]; by_cases e : j = k
    · subst e; rw [if_pos rfl]; exact hf.r
    · rw [if_neg e]
  refine ⟨fun hn => h.mb (by rw [M.upd_len] at hn; exact hn), fun p hp => h.pm p (M.fd_pg hk hf hp), fun i j hi hj ho => ?_, fun i j p hi hj ho hp => ?_, fun i hi => ?_, fun p hp => h.by_ p (M.fd_pg hk hf hp), fun i hi => ?_⟩
  · rw [M.upd_len] at hi hj
    have ho' := hod i ho
    have q := h.od i j hi hj ho'
    rw [hd i, hd j, hc j]
    refine ⟨q.1, q.2.1, ?_, ?_⟩
    · rcases hcd j with e | ⟨e0, e, e2⟩
      · rw [e]; exact q.2.2.1
      · rw [e]; intro e3
        have := q.1 e3
        subst this; rw [e2] at ho'; cases ho'
    · rcases hcc j with e | ⟨e0, e, e2⟩
      · rw [e]; exact q.2.2.2
      · rw [e]; exact q.2.1
  · rw [M.upd_len] at hi hj
    have ho' := hoc i ho
    rw [hc i] at hp
    have q := h.oc i j p hi hj ho' hp
    rw [hd j, hc j]
    refine ⟨q.1, q.2.1, ?_, ?_⟩
    · rcases hcd j with e | ⟨e0, e, e2⟩
      · rw [e]; exact q.2.2.1
      · rw [e]; exact q.2.1
    · rcases hcc j with e | ⟨e0, e, e2⟩
      · rw [e]; exact q.2.2.2
      · rw [e]; intro e3
        have := q.1 e3
        subst this; rw [e2] at ho'; cases ho'
  · rw [M.upd_len] at hi
    rw [hc i]
    refine ⟨(h.co i hi).1, ?_⟩
    rcases hcc i with e | ⟨_, e, _⟩
    · rw [e]; exact (h.co i hi).2
    · rw [e]; exact (h.co i hi).1
  · rw [M.upd_len] at hi
    rw [hr]; exact h.rb i hi
theorem M.St.fd {o : M.Obj} {w : World} (h : M.St o w) {k f : Nat} (hk : k < o.sl.length) (hf7 : f < 7) {v : Value} {s : M.Slot} (he : s.cells = (o.at k).cells.set f v) (hf : M.Fd (o.at k) s) (j : Nat) (hj : j = k * 7 + f) : M.St (o.upd k s) (w.setCell ⟨o.b, j, none⟩ v) := by
  refine ⟨h.at_.fset (h.inv.mb (by omega)) hk hf7 he j hj fun p hp => ⟨(h.inv.pm p (M.fd_pg hk hf hp)).2, h.at_.pg p (M.fd_pg hk hf hp)⟩, h.inv.fd hk hf, fun x hx y => M.frozen_set.trans (h.fz x ?_ y)⟩
  rcases hx with hx | ⟨hn, hx⟩ | hx
  · exact .inl hx
  · exact .inr (.inl ⟨by rw [M.upd_len] at hn; exact hn, hx⟩)
  · exact .inr (.inr (M.fd_pg hk hf hx))
theorem M.Nxt.fd (w : World) {o : M.Obj} {k : Nat} {s : M.Slot} (hk : k < o.sl.length) (hf : M.Fd (o.at k) s) : M.Nxt w o (o.upd k s) := by
  refine ⟨rfl, M.upd_len, rfl, fun x _ h => ?_, fun x _ h => ?_⟩
  · rcases h with ⟨hn, h⟩ | ⟨i, hi, ho, h⟩ | ⟨i, hi, ho, h⟩
    · exact .inl ⟨by rw [M.upd_len] at hn; exact hn, h⟩
    · rw [M.upd_len] at hi
      rw [M.upd_at hk] at ho h
      by_cases e : i = k
      · subst e; rw [if_pos rfl] at ho h; exact .inr (.inl ⟨i, hi, hf.od ho, h.trans hf.d⟩)
      · rw [if_neg e] at ho h; exact .inr (.inl ⟨i, hi, ho, h⟩)
    · rw [M.upd_len] at hi
      rw [M.upd_at hk] at ho h
      by_cases e : i = k
      · subst e; rw [if_pos rfl] at ho h; exact .inr (.inr ⟨i, hi, hf.oc ho, hf.c.symm.trans h⟩)
      · rw [if_neg e] at ho h; exact .inr (.inr ⟨i, hi, ho, h⟩)
  · rcases h with h | ⟨hn, h⟩ | h
    · exact .inl h
    · exact .inr (.inl ⟨by rw [M.upd_len] at hn; exact hn, h⟩)
    · exact .inr (.inr (M.fd_pg hk hf h))
theorem M.upd_upd {o : M.Obj} {k : Nat} {s t : M.Slot} : (o.upd k s).upd k t = o.upd k t := by
  unfold M.Obj.upd; simp
theorem M.upd_self {o : M.Obj} {k : Nat} (hk : k < o.sl.length) : o.upd k (o.at k) = o := by
  unfold M.Obj.upd M.Obj.at
  have : o.sl.set k (o.sl.getD k M.z) = o.sl := by
    refine List.ext_getElem? fun i => ?_
    rw [List.getElem?_set]
    by_cases e : k = i
    · subst e; simp [hk]
    · rw [if_neg e]
  rw [this]
/-- A store of one field, from one state of the page to the next. -/
theorem M.fd_sto {S : Nat → Prop} {w0 w : World} {o : M.Obj} {k : Nat} {s t : M.Slot} (f : Nat) {v : Value} (hk : k < o.sl.length) (h : E.Hp S w0 (fun w => M.St (o.upd k s) w) [] w) (hS : o.b < w0.heap.size → S o.b) (hf7 : f < 7) (he : t.cells = s.cells.set f v) (hf : M.Fd s t) (j : Nat) (hj : j = k * 7 + f) :
    w.frozen? ⟨o.b, j, none⟩ = false ∧ (∃ u, w.cell? ⟨o.b, j, none⟩ = some u) ∧ E.Hp S w0 (fun w => M.St (o.upd k t) w) [] (w.setCell ⟨o.b, j, none⟩ v) := by
  have hx := h.x
  have hk' : k < (o.upd k s).sl.length := by rw [M.upd_len]; exact hk
  have ha : (o.upd k s).at k = s := by rw [M.upd_at hk, if_pos rfl]
  have h1 := hx.fd hk' hf7 (v := v) (s := t) (by rw [ha]; exact he) (by rw [ha]; exact hf) j hj
  rw [M.upd_upd] at h1
  have hl : s.cells.length = 7 := rfl
  have hg : ((o.upd k s).at k).cells[f]? = some (s.cells[f]'(by rw [hl]; exact hf7)) := by rw [ha]; exact List.getElem?_eq_getElem _
  refine ⟨hx.fz _ (M.all_b (by rw [M.upd_len]; omega)) _, ⟨_, hx.at_.fld hk' hg hf7 j hj⟩, h1.hp (h.ch.setCell hS _)⟩
/-- The first c pages made clean. -/
def M.V.cln (V : M.V) (c : Nat) : M.V := { V with cd := fun j => if j < c then V.d j else V.cd j, ci := fun j => if j < c then V.i j else V.ci j }
def M.V.clean (V : M.V) : M.V := V.cln V.n
def M.clnS (s : M.Slot) : M.Slot := ⟨s.d, s.c, false, false, s.d, s.c, s.r⟩
theorem M.Sh.cln {o : M.Obj} {V : M.V} {k : Nat} (h : M.Sh o (V.cln k)) (hk : k < o.sl.length) : M.Sh (o.upd k (M.clnS (o.at k))) (V.cln (k + 1)) := by
  have hn : o.sl.length = V.n := h.n
  refine ⟨M.upd_len.trans h.n, h.coh, fun j hj x hx => ?_, fun j hj x hx => ?_, fun j hj x hx => ?_, fun j hj x hx => ?_, fun j hj => ?_⟩
  · rw [M.upd_at hk]; by_cases e : j = k
    · subst e; rw [if_pos rfl]; exact h.d j hj x hx
    · rw [if_neg e]; exact h.d j hj x hx
  · rw [M.upd_at hk]; by_cases e : j = k
    · subst e; rw [if_pos rfl]; exact h.i j hj x hx
    · rw [if_neg e]; exact h.i j hj x hx
  · rw [M.upd_at hk]; by_cases e : j = k
    · subst e; rw [if_pos rfl]
      show o.C (o.at j).d x = (if j < j + 1 then V.d j else V.cd j) x
      rw [if_pos (by omega)]; exact h.d j hj x hx
    · rw [if_neg e]
      have q : o.C (o.at j).cd x = (if j < k then V.d j else V.cd j) x := h.cd j hj x hx
      show o.C (o.at j).cd x = (if j < k + 1 then V.d j else V.cd j) x
      rw [q]
      by_cases e2 : j < k
      · rw [if_pos e2, if_pos (by omega)]
      · rw [if_neg e2, if_neg (by omega)]
  · rw [M.upd_at hk]; by_cases e : j = k
    · subst e; rw [if_pos rfl]
      show o.C ((o.at j).c.getD (o.at j).d) x = (if j < j + 1 then V.i j else V.ci j) x
      rw [if_pos (by omega)]; exact h.i j hj x hx
    · rw [if_neg e]
      have q : o.C ((o.at j).cc.getD (o.at j).cd) x = (if j < k then V.i j else V.ci j) x := h.ci j hj x hx
      show o.C ((o.at j).cc.getD (o.at j).cd) x = (if j < k + 1 then V.i j else V.ci j) x
      rw [q]
      by_cases e2 : j < k
      · rw [if_pos e2, if_pos (by omega)]
      · rw [if_neg e2, if_neg (by omega)]
  · rw [M.upd_at hk]; by_cases e : j = k
    · subst e; rw [if_pos rfl]; exact h.r j hj
    · rw [if_neg e]; exact h.r j hj
theorem M.V.cln0 (V : M.V) : V.cln 0 = V := by
  unfold M.V.cln; simp
end Go.Proofs.Ytdjjjikokfadiaa

/- Walks: Clean of mem, printed by wip/eng. No condition but what is named. -/
namespace Go.Proofs.Ytdjjjikokfadiaa
set_option linter.unusedVariables false
set_option linter.unusedSimpArgs false
open Go.RowKit
/-- A clean page's state speaks of no new block. -/
theorem M.Nxt.cln (w : World) {o : M.Obj} {k : Nat} (hk : k < o.sl.length) : M.Nxt w o (o.upd k (M.clnS (o.at k))) := by
  have h1 : M.Fd (o.at k) ⟨(o.at k).d, (o.at k).c, false, false, (o.at k).cd, (o.at k).cc, (o.at k).r⟩ := ⟨rfl, rfl, by simp, by simp, by simp, by simp, rfl⟩
  have a := M.Nxt.fd w hk h1
  have hk' : k < (o.upd k ⟨(o.at k).d, (o.at k).c, false, false, (o.at k).cd, (o.at k).cc, (o.at k).r⟩).sl.length := by rw [M.upd_len]; exact hk
  have h2 : M.Fd ((o.upd k ⟨(o.at k).d, (o.at k).c, false, false, (o.at k).cd, (o.at k).cc, (o.at k).r⟩).at k) (M.clnS (o.at k)) := by
    rw [M.upd_at hk, if_pos rfl]; exact ⟨rfl, rfl, by simp [M.clnS], by simp [M.clnS], by simp [M.clnS], by simp [M.clnS], rfl⟩
  have b := M.Nxt.fd w hk' h2
  rw [M.upd_upd] at b
  exact a.trans b (Nat.le_refl _)
theorem Clean_any (o : M.Obj) (w : World) (hst : M.St o w) : Calls Try.prog 34 #[.pointer (some ⟨o.m, 0, none⟩)] w fun e w' => e = .returned (.tuple #[]) ∧ ∃ o', M.St o' w' ∧ Ch (fun x => M.ow o x) w w' ∧ M.Nxt w o o' ∧ ∀ V, M.Sh o V → M.Sh o' V.clean := by
  refine E.enter (n := 36) (S := fun x => M.ow o x) Try.func34 rfl rfl (by kernel_rfl) (hst.hp (Ch.refl _ _)) ?_
  refine E.C.seq ?_
  refine E.C.region ?_
  refine E.G.op (.pointer (some ⟨o.m, 0, none⟩)) (fun w => by kernel_rfl) (by kernel_rfl) ?_
  refine E.G.call (.int .i64 ((o.sl.length : Nat) : Int)) (fun w h => Pages_any o w h.x.at_) (fun w _ => by kernel_rfl) (by kernel_rfl) ?_
  refine E.G.op (.int .i64 0) (fun w => by kernel_rfl) (by kernel_rfl) ?_
  refine E.To.code ?_
  refine E.C.block ?_
  refine E.C.loop (I := Nat × M.Obj) (fun i => o.sl.length - i.1) (fun i => i.1 ≤ o.sl.length ∧ M.Nxt w o i.2 ∧ ∀ V, M.Sh o V → M.Sh i.2 (V.cln i.1)) (fun i => [(0, .pointer (some ⟨o.m, 0, none⟩)), (5, .int .i64 ((o.sl.length : Nat) : Int)), (6, .int .i64 ((i.1 : Nat) : Int))]) (fun i => fun u => M.St i.2 u) (fun _ => []) (0, o) (⟨Nat.zero_le _, M.Nxt.refl _ _, fun V hV => by rw [M.V.cln0]; exact hV⟩) ⟨by kernel_rfl, by kernel_rfl⟩ (List.Sublist.refl _) (fun _ h => h) (fun i hk1 => ?_)
  refine E.C.seq ?_
  refine E.C.region ?_
  refine E.G.op (.bool (decide (((i.1 : Nat) : Int) < ((o.sl.length : Nat) : Int)))) (fun w => by kernel_rfl) (by kernel_rfl) ?_
  refine E.To.code ?_
  refine E.C.seq ?_
  refine E.C.cond (decide (((i.1 : Nat) : Int) < ((o.sl.length : Nat) : Int))) (by kernel_rfl) (by kernel_rfl) (fun hc1 => ?_) (fun hc1 => ?_)
  · skip
    refine E.C.skip (E.To.code ?_)
    refine E.C.seq ?_
    refine E.C.block ?_
    refine E.C.seq ?_
    refine E.C.region ?_
    refine E.G.op (.int .i64 ((i.1 : Nat) : Int)) (fun w => by kernel_rfl) (by kernel_rfl) ?_
    refine E.G.op (.int .i64 ((i.1 : Nat) : Int)) (fun w => by kernel_rfl) (by kernel_rfl) ?_
    refine E.To.code ?_
    refine E.C.seq ?_
    refine E.C.region ?_
    refine E.G.op (.pointer (some ⟨o.m, 0, none⟩)) (fun w => by kernel_rfl) (by kernel_rfl) ?_
    refine E.G.op (.pointer (some ⟨o.m, 0, none⟩)) (fun w => by kernel_rfl) (by kernel_rfl) ?_
    refine E.G.op (.pointer (some ⟨o.m, 0, none⟩)) (fun w => by kernel_rfl) (by kernel_rfl) ?_
    have hl : i.1 < i.2.sl.length := by rw [hk1.2.1.n]; (first | assumption | ((try simp only [Bool.or_eq_false_iff, Bool.or_eq_true, Bool.and_eq_true, Bool.and_eq_false_iff, decide_eq_true_eq, decide_eq_false_iff_not, ge_iff_le, gt_iff_lt] at *); omega))
    refine E.G.val (.slice i.2.ao i.2.sl.length i.2.cap) (by kernel_rfl) (fun w h => M.load1 (a := ⟨o.m, 0, none⟩) (by kernel_rfl) (M.one Try.underlying64 rfl) (by rw [← hk1.2.1.m]; exact h.x.at_.c0)) ?_
    refine E.G.op (.int .i64 ((i.1 : Nat) : Int)) (fun w => by kernel_rfl) (by kernel_rfl) ?_
    refine E.G.val (.pointer (some ⟨i.2.b, (i.1) * 7, none⟩)) (by kernel_rfl) (fun w h => M.idxO (e := 74) (i := (i.1)) (k := .i64) (ao := i.2.ao) (b := i.2.b) (len := i.2.sl.length) (cap := i.2.cap) (esz := 7) (by kernel_rfl) (by kernel_rfl) (by kernel_rfl) (by kernel_rfl) hl h.x.at_.ha w) ?_
    refine E.G.op (.pointer (some ⟨i.2.b, (i.1) * 7, none⟩)) (fun w => by kernel_rfl) (by kernel_rfl) ?_
    refine E.To.code ?_
    refine E.C.seq ?_
    refine E.C.region ?_
    refine E.G.op (.pointer (some ⟨i.2.b, (i.1) * 7, none⟩)) (fun w => by kernel_rfl) (by kernel_rfl) ?_
    refine E.G.op (.pointer (some ⟨i.2.b, (i.1) * 7, none⟩)) (fun w => by kernel_rfl) (by kernel_rfl) ?_
    refine E.G.op (.pointer (some ⟨i.2.b, (i.1) * 7, none⟩)) (fun w => by kernel_rfl) (by kernel_rfl) ?_
    refine E.G.op (.pointer (some ⟨i.2.b, ((i.1) * 7) + 2, none⟩)) (fun w => by kernel_rfl) (by kernel_rfl) ?_
    refine M.G.sto (.bool false) (fun w => M.St (i.2.upd i.1 ⟨(i.2.at i.1).d, (i.2.at i.1).c, false, (i.2.at i.1).oc, (i.2.at i.1).cd, (i.2.at i.1).cc, (i.2.at i.1).r⟩) w) [] (by kernel_rfl) (by kernel_rfl) rfl rfl (by kernel_rfl) (fun w h => M.fd_sto (s := i.2.at i.1) (t := ⟨(i.2.at i.1).d, (i.2.at i.1).c, false, (i.2.at i.1).oc, (i.2.at i.1).cd, (i.2.at i.1).cc, (i.2.at i.1).r⟩) 2 hl (by rw [M.upd_self hl]; exact h) (fun hlt => hk1.2.1.ow _ hlt (M.ow_b (by omega))) (by decide) rfl ⟨rfl, rfl, by simp, by simp, by simp, by simp, rfl⟩ (((i.1) * 7) + 2) (by omega)) (by kernel_rfl) ?_
    refine E.G.op (.pointer (some ⟨i.2.b, (i.1) * 7, none⟩)) (fun w => by kernel_rfl) (by kernel_rfl) ?_
    refine E.G.op (.pointer (some ⟨i.2.b, ((i.1) * 7) + 3, none⟩)) (fun w => by kernel_rfl) (by kernel_rfl) ?_
    refine M.G.sto (.bool false) (fun w => M.St (i.2.upd i.1 ⟨(i.2.at i.1).d, (i.2.at i.1).c, false, false, (i.2.at i.1).cd, (i.2.at i.1).cc, (i.2.at i.1).r⟩) w) [] (by kernel_rfl) (by kernel_rfl) rfl rfl (by kernel_rfl) (fun w h => M.fd_sto (s := ⟨(i.2.at i.1).d, (i.2.at i.1).c, false, (i.2.at i.1).oc, (i.2.at i.1).cd, (i.2.at i.1).cc, (i.2.at i.1).r⟩) (t := ⟨(i.2.at i.1).d, (i.2.at i.1).c, false, false, (i.2.at i.1).cd, (i.2.at i.1).cc, (i.2.at i.1).r⟩) 3 hl h (fun hlt => hk1.2.1.ow _ hlt (M.ow_b (by omega))) (by decide) rfl ⟨rfl, rfl, by simp, by simp, by simp, by simp, rfl⟩ (((i.1) * 7) + 3) (by omega)) (by kernel_rfl) ?_
    refine E.To.code ?_
    refine E.C.held (fun u => u.cell? ⟨i.2.b, i.1 * 7 + 0, none⟩ = some (.pointer (some ⟨(i.2.at i.1).d, 0, none⟩)) ∧ u.cell? ⟨i.2.b, i.1 * 7 + 1, none⟩ = some (M.ptr (i.2.at i.1).c)) (by kernel_rfl) ?_
    refine E.H.take 0 (.pointer (some ⟨i.2.b, (i.1) * 7, none⟩)) rfl (by kernel_rfl) (by kernel_rfl) (by kernel_rfl) (fun _ _ _ h => h) (fun w h => ⟨(h.x.at_.fld (o := i.2.upd i.1 ⟨(i.2.at i.1).d, (i.2.at i.1).c, false, false, (i.2.at i.1).cd, (i.2.at i.1).cc, (i.2.at i.1).r⟩) (i := i.1) (k := 0) (by rw [M.upd_len]; exact hl) (by rw [M.upd_at hl, if_pos rfl]; rfl) (by decide) _ rfl), (h.x.at_.fld (o := i.2.upd i.1 ⟨(i.2.at i.1).d, (i.2.at i.1).c, false, false, (i.2.at i.1).cd, (i.2.at i.1).cc, (i.2.at i.1).r⟩) (i := i.1) (k := 1) (by rw [M.upd_len]; exact hl) (by rw [M.upd_at hl, if_pos rfl]; rfl) (by decide) _ rfl)⟩) (.inl ⟨by kernel_rfl, by kernel_rfl, fun w h => by kernel_rfl⟩) (by kernel_rfl) ?_
    refine E.H.take 1 (.pointer (some ⟨i.2.b, (i.1) * 7, none⟩)) rfl (by kernel_rfl) (by kernel_rfl) (by kernel_rfl) (fun _ _ _ h => h) (fun w h => ⟨(h.x.at_.fld (o := i.2.upd i.1 ⟨(i.2.at i.1).d, (i.2.at i.1).c, false, false, (i.2.at i.1).cd, (i.2.at i.1).cc, (i.2.at i.1).r⟩) (i := i.1) (k := 0) (by rw [M.upd_len]; exact hl) (by rw [M.upd_at hl, if_pos rfl]; rfl) (by decide) _ rfl), (h.x.at_.fld (o := i.2.upd i.1 ⟨(i.2.at i.1).d, (i.2.at i.1).c, false, false, (i.2.at i.1).cd, (i.2.at i.1).cc, (i.2.at i.1).r⟩) (i := i.1) (k := 1) (by rw [M.upd_len]; exact hl) (by rw [M.upd_at hl, if_pos rfl]; rfl) (by decide) _ rfl)⟩) (.inl ⟨by kernel_rfl, by kernel_rfl, fun w h => by kernel_rfl⟩) (by kernel_rfl) ?_
    refine E.H.take 2 (.pointer (some ⟨i.2.b, (i.1) * 7, none⟩)) rfl (by kernel_rfl) (by kernel_rfl) (by kernel_rfl) (fun _ _ _ h => h) (fun w h => ⟨(h.x.at_.fld (o := i.2.upd i.1 ⟨(i.2.at i.1).d, (i.2.at i.1).c, false, false, (i.2.at i.1).cd, (i.2.at i.1).cc, (i.2.at i.1).r⟩) (i := i.1) (k := 0) (by rw [M.upd_len]; exact hl) (by rw [M.upd_at hl, if_pos rfl]; rfl) (by decide) _ rfl), (h.x.at_.fld (o := i.2.upd i.1 ⟨(i.2.at i.1).d, (i.2.at i.1).c, false, false, (i.2.at i.1).cd, (i.2.at i.1).cc, (i.2.at i.1).r⟩) (i := i.1) (k := 1) (by rw [M.upd_len]; exact hl) (by rw [M.upd_at hl, if_pos rfl]; rfl) (by decide) _ rfl)⟩) (.inl ⟨by kernel_rfl, by kernel_rfl, fun w h => by kernel_rfl⟩) (by kernel_rfl) ?_
    refine E.H.take 3 (.pointer (some ⟨i.2.b, (i.1) * 7, none⟩)) rfl (by kernel_rfl) (by kernel_rfl) (by kernel_rfl) (fun _ _ _ h => h) (fun w h => ⟨(h.x.at_.fld (o := i.2.upd i.1 ⟨(i.2.at i.1).d, (i.2.at i.1).c, false, false, (i.2.at i.1).cd, (i.2.at i.1).cc, (i.2.at i.1).r⟩) (i := i.1) (k := 0) (by rw [M.upd_len]; exact hl) (by rw [M.upd_at hl, if_pos rfl]; rfl) (by decide) _ rfl), (h.x.at_.fld (o := i.2.upd i.1 ⟨(i.2.at i.1).d, (i.2.at i.1).c, false, false, (i.2.at i.1).cd, (i.2.at i.1).cc, (i.2.at i.1).r⟩) (i := i.1) (k := 1) (by rw [M.upd_len]; exact hl) (by rw [M.upd_at hl, if_pos rfl]; rfl) (by decide) _ rfl)⟩) (.inl ⟨by kernel_rfl, by kernel_rfl, fun w h => by kernel_rfl⟩) (by kernel_rfl) ?_
    refine E.H.take 4 (.pointer (some ⟨i.2.b, (i.1) * 7, none⟩)) rfl (by kernel_rfl) (by kernel_rfl) (by kernel_rfl) (fun _ _ _ h => h) (fun w h => ⟨(h.x.at_.fld (o := i.2.upd i.1 ⟨(i.2.at i.1).d, (i.2.at i.1).c, false, false, (i.2.at i.1).cd, (i.2.at i.1).cc, (i.2.at i.1).r⟩) (i := i.1) (k := 0) (by rw [M.upd_len]; exact hl) (by rw [M.upd_at hl, if_pos rfl]; rfl) (by decide) _ rfl), (h.x.at_.fld (o := i.2.upd i.1 ⟨(i.2.at i.1).d, (i.2.at i.1).c, false, false, (i.2.at i.1).cd, (i.2.at i.1).cc, (i.2.at i.1).r⟩) (i := i.1) (k := 1) (by rw [M.upd_len]; exact hl) (by rw [M.upd_at hl, if_pos rfl]; rfl) (by decide) _ rfl)⟩) (.inl ⟨by kernel_rfl, by kernel_rfl, fun w h => by kernel_rfl⟩) (by kernel_rfl) ?_
    refine E.H.take 5 (.pointer (some ⟨(i.2.at i.1).d, 0, none⟩)) rfl (by kernel_rfl) (by kernel_rfl) (by kernel_rfl) (fun _ _ _ h => h) (fun w h => ⟨(h.x.at_.fld (o := i.2.upd i.1 ⟨(i.2.at i.1).d, (i.2.at i.1).c, false, false, (i.2.at i.1).cd, (i.2.at i.1).cc, (i.2.at i.1).r⟩) (i := i.1) (k := 0) (by rw [M.upd_len]; exact hl) (by rw [M.upd_at hl, if_pos rfl]; rfl) (by decide) _ rfl), (h.x.at_.fld (o := i.2.upd i.1 ⟨(i.2.at i.1).d, (i.2.at i.1).c, false, false, (i.2.at i.1).cd, (i.2.at i.1).cc, (i.2.at i.1).r⟩) (i := i.1) (k := 1) (by rw [M.upd_len]; exact hl) (by rw [M.upd_at hl, if_pos rfl]; rfl) (by decide) _ rfl)⟩) (.inl ⟨by kernel_rfl, by kernel_rfl, fun w h => M.load1 (by kernel_rfl) (M.one Try.underlying70 rfl) h.1⟩) (by kernel_rfl) ?_
    refine E.H.take 6 (.pointer (some ⟨i.2.b, (i.1) * 7, none⟩)) rfl (by kernel_rfl) (by kernel_rfl) (by kernel_rfl) (fun _ _ _ h => h) (fun w h => ⟨(h.x.at_.fld (o := i.2.upd i.1 ⟨(i.2.at i.1).d, (i.2.at i.1).c, false, false, (i.2.at i.1).cd, (i.2.at i.1).cc, (i.2.at i.1).r⟩) (i := i.1) (k := 0) (by rw [M.upd_len]; exact hl) (by rw [M.upd_at hl, if_pos rfl]; rfl) (by decide) _ rfl), (h.x.at_.fld (o := i.2.upd i.1 ⟨(i.2.at i.1).d, (i.2.at i.1).c, false, false, (i.2.at i.1).cd, (i.2.at i.1).cc, (i.2.at i.1).r⟩) (i := i.1) (k := 1) (by rw [M.upd_len]; exact hl) (by rw [M.upd_at hl, if_pos rfl]; rfl) (by decide) _ rfl)⟩) (.inl ⟨by kernel_rfl, by kernel_rfl, fun w h => by kernel_rfl⟩) (by kernel_rfl) ?_
    refine E.H.take 7 (.pointer (some ⟨i.2.b, (i.1) * 7, none⟩)) rfl (by kernel_rfl) (by kernel_rfl) (by kernel_rfl) (fun _ _ _ h => h) (fun w h => ⟨(h.x.at_.fld (o := i.2.upd i.1 ⟨(i.2.at i.1).d, (i.2.at i.1).c, false, false, (i.2.at i.1).cd, (i.2.at i.1).cc, (i.2.at i.1).r⟩) (i := i.1) (k := 0) (by rw [M.upd_len]; exact hl) (by rw [M.upd_at hl, if_pos rfl]; rfl) (by decide) _ rfl), (h.x.at_.fld (o := i.2.upd i.1 ⟨(i.2.at i.1).d, (i.2.at i.1).c, false, false, (i.2.at i.1).cd, (i.2.at i.1).cc, (i.2.at i.1).r⟩) (i := i.1) (k := 1) (by rw [M.upd_len]; exact hl) (by rw [M.upd_at hl, if_pos rfl]; rfl) (by decide) _ rfl)⟩) (.inl ⟨by kernel_rfl, by kernel_rfl, fun w h => by kernel_rfl⟩) (by kernel_rfl) ?_
    refine E.H.take 8 (.pointer (some ⟨i.2.b, ((i.1) * 7) + 1, none⟩)) rfl (by kernel_rfl) (by kernel_rfl) (by kernel_rfl) (fun _ _ _ h => h) (fun w h => ⟨(h.x.at_.fld (o := i.2.upd i.1 ⟨(i.2.at i.1).d, (i.2.at i.1).c, false, false, (i.2.at i.1).cd, (i.2.at i.1).cc, (i.2.at i.1).r⟩) (i := i.1) (k := 0) (by rw [M.upd_len]; exact hl) (by rw [M.upd_at hl, if_pos rfl]; rfl) (by decide) _ rfl), (h.x.at_.fld (o := i.2.upd i.1 ⟨(i.2.at i.1).d, (i.2.at i.1).c, false, false, (i.2.at i.1).cd, (i.2.at i.1).cc, (i.2.at i.1).r⟩) (i := i.1) (k := 1) (by rw [M.upd_len]; exact hl) (by rw [M.upd_at hl, if_pos rfl]; rfl) (by decide) _ rfl)⟩) (.inl ⟨by kernel_rfl, by kernel_rfl, fun w h => by kernel_rfl⟩) (by kernel_rfl) ?_
    refine E.H.take 9 (M.ptr (i.2.at i.1).c) rfl (by kernel_rfl) (by kernel_rfl) (by kernel_rfl) (fun _ _ _ h => h) (fun w h => ⟨(h.x.at_.fld (o := i.2.upd i.1 ⟨(i.2.at i.1).d, (i.2.at i.1).c, false, false, (i.2.at i.1).cd, (i.2.at i.1).cc, (i.2.at i.1).r⟩) (i := i.1) (k := 0) (by rw [M.upd_len]; exact hl) (by rw [M.upd_at hl, if_pos rfl]; rfl) (by decide) _ rfl), (h.x.at_.fld (o := i.2.upd i.1 ⟨(i.2.at i.1).d, (i.2.at i.1).c, false, false, (i.2.at i.1).cd, (i.2.at i.1).cc, (i.2.at i.1).r⟩) (i := i.1) (k := 1) (by rw [M.upd_len]; exact hl) (by rw [M.upd_at hl, if_pos rfl]; rfl) (by decide) _ rfl)⟩) (.inl ⟨by kernel_rfl, by kernel_rfl, fun w h => M.load1 (by kernel_rfl) (M.one Try.underlying70 rfl) h.2⟩) (by kernel_rfl) ?_
    refine E.H.take 10 (.pointer (some ⟨i.2.b, (i.1) * 7, none⟩)) rfl (by kernel_rfl) (by kernel_rfl) (by kernel_rfl) (fun _ _ _ h => h) (fun w h => ⟨(h.x.at_.fld (o := i.2.upd i.1 ⟨(i.2.at i.1).d, (i.2.at i.1).c, false, false, (i.2.at i.1).cd, (i.2.at i.1).cc, (i.2.at i.1).r⟩) (i := i.1) (k := 0) (by rw [M.upd_len]; exact hl) (by rw [M.upd_at hl, if_pos rfl]; rfl) (by decide) _ rfl), (h.x.at_.fld (o := i.2.upd i.1 ⟨(i.2.at i.1).d, (i.2.at i.1).c, false, false, (i.2.at i.1).cd, (i.2.at i.1).cc, (i.2.at i.1).r⟩) (i := i.1) (k := 1) (by rw [M.upd_len]; exact hl) (by rw [M.upd_at hl, if_pos rfl]; rfl) (by decide) _ rfl)⟩) (.inl ⟨by kernel_rfl, by kernel_rfl, fun w h => by kernel_rfl⟩) (by kernel_rfl) ?_
    refine E.H.take 11 (.pointer (some ⟨i.2.b, ((i.1) * 7) + 4, none⟩)) rfl (by kernel_rfl) (by kernel_rfl) (by kernel_rfl) (fun _ _ _ h => h) (fun w h => ⟨(h.x.at_.fld (o := i.2.upd i.1 ⟨(i.2.at i.1).d, (i.2.at i.1).c, false, false, (i.2.at i.1).cd, (i.2.at i.1).cc, (i.2.at i.1).r⟩) (i := i.1) (k := 0) (by rw [M.upd_len]; exact hl) (by rw [M.upd_at hl, if_pos rfl]; rfl) (by decide) _ rfl), (h.x.at_.fld (o := i.2.upd i.1 ⟨(i.2.at i.1).d, (i.2.at i.1).c, false, false, (i.2.at i.1).cd, (i.2.at i.1).cc, (i.2.at i.1).r⟩) (i := i.1) (k := 1) (by rw [M.upd_len]; exact hl) (by rw [M.upd_at hl, if_pos rfl]; rfl) (by decide) _ rfl)⟩) (.inl ⟨by kernel_rfl, by kernel_rfl, fun w h => by kernel_rfl⟩) (by kernel_rfl) ?_
    refine E.H.all [12] (by kernel_rfl) (by simp) (List.forall_mem_cons.2 ⟨⟨_, rfl, ?_⟩, fun _ h => (List.not_mem_nil h).elim⟩)
    · skip
      refine M.G.sto (.pointer (some ⟨(i.2.at i.1).d, 0, none⟩)) (fun w => M.St (i.2.upd i.1 ⟨(i.2.at i.1).d, (i.2.at i.1).c, false, false, (i.2.at i.1).d, (i.2.at i.1).cc, (i.2.at i.1).r⟩) w) [] (by kernel_rfl) (by kernel_rfl) rfl rfl (by kernel_rfl) (fun w h => M.fd_sto (s := ⟨(i.2.at i.1).d, (i.2.at i.1).c, false, false, (i.2.at i.1).cd, (i.2.at i.1).cc, (i.2.at i.1).r⟩) (t := ⟨(i.2.at i.1).d, (i.2.at i.1).c, false, false, (i.2.at i.1).d, (i.2.at i.1).cc, (i.2.at i.1).r⟩) 4 hl h (fun hlt => hk1.2.1.ow _ hlt (M.ow_b (by omega))) (by decide) rfl ⟨rfl, rfl, by simp, by simp, by simp, by simp, rfl⟩ (((i.1) * 7) + 4) (by omega)) (by kernel_rfl) ?_
      refine E.H.back (fun w h => ⟨(h.x.at_.fld (o := i.2.upd i.1 ⟨(i.2.at i.1).d, (i.2.at i.1).c, false, false, (i.2.at i.1).d, (i.2.at i.1).cc, (i.2.at i.1).r⟩) (i := i.1) (k := 0) (by rw [M.upd_len]; exact hl) (by rw [M.upd_at hl, if_pos rfl]; rfl) (by decide) _ rfl), (h.x.at_.fld (o := i.2.upd i.1 ⟨(i.2.at i.1).d, (i.2.at i.1).c, false, false, (i.2.at i.1).d, (i.2.at i.1).cc, (i.2.at i.1).r⟩) (i := i.1) (k := 1) (by rw [M.upd_len]; exact hl) (by rw [M.upd_at hl, if_pos rfl]; rfl) (by decide) _ rfl)⟩) ?_
      refine E.H.take 13 (.pointer (some ⟨i.2.b, (i.1) * 7, none⟩)) rfl (by kernel_rfl) (by kernel_rfl) (by kernel_rfl) (fun _ _ _ h => h) (fun w h => ⟨(h.x.at_.fld (o := i.2.upd i.1 ⟨(i.2.at i.1).d, (i.2.at i.1).c, false, false, (i.2.at i.1).d, (i.2.at i.1).cc, (i.2.at i.1).r⟩) (i := i.1) (k := 0) (by rw [M.upd_len]; exact hl) (by rw [M.upd_at hl, if_pos rfl]; rfl) (by decide) _ rfl), (h.x.at_.fld (o := i.2.upd i.1 ⟨(i.2.at i.1).d, (i.2.at i.1).c, false, false, (i.2.at i.1).d, (i.2.at i.1).cc, (i.2.at i.1).r⟩) (i := i.1) (k := 1) (by rw [M.upd_len]; exact hl) (by rw [M.upd_at hl, if_pos rfl]; rfl) (by decide) _ rfl)⟩) (.inl ⟨by kernel_rfl, by kernel_rfl, fun w h => by kernel_rfl⟩) (by kernel_rfl) ?_
      refine E.H.take 14 (.pointer (some ⟨i.2.b, ((i.1) * 7) + 5, none⟩)) rfl (by kernel_rfl) (by kernel_rfl) (by kernel_rfl) (fun _ _ _ h => h) (fun w h => ⟨(h.x.at_.fld (o := i.2.upd i.1 ⟨(i.2.at i.1).d, (i.2.at i.1).c, false, false, (i.2.at i.1).d, (i.2.at i.1).cc, (i.2.at i.1).r⟩) (i := i.1) (k := 0) (by rw [M.upd_len]; exact hl) (by rw [M.upd_at hl, if_pos rfl]; rfl) (by decide) _ rfl), (h.x.at_.fld (o := i.2.upd i.1 ⟨(i.2.at i.1).d, (i.2.at i.1).c, false, false, (i.2.at i.1).d, (i.2.at i.1).cc, (i.2.at i.1).r⟩) (i := i.1) (k := 1) (by rw [M.upd_len]; exact hl) (by rw [M.upd_at hl, if_pos rfl]; rfl) (by decide) _ rfl)⟩) (.inl ⟨by kernel_rfl, by kernel_rfl, fun w h => by kernel_rfl⟩) (by kernel_rfl) ?_
      refine E.H.all [15] (by kernel_rfl) (by simp) (List.forall_mem_cons.2 ⟨⟨_, rfl, ?_⟩, fun _ h => (List.not_mem_nil h).elim⟩)
      · skip
        refine M.G.sto (M.ptr (i.2.at i.1).c) (fun w => M.St (i.2.upd i.1 ⟨(i.2.at i.1).d, (i.2.at i.1).c, false, false, (i.2.at i.1).d, (i.2.at i.1).c, (i.2.at i.1).r⟩) w) [] (by kernel_rfl) (by kernel_rfl) rfl rfl (by kernel_rfl) (fun w h => M.fd_sto (s := ⟨(i.2.at i.1).d, (i.2.at i.1).c, false, false, (i.2.at i.1).d, (i.2.at i.1).cc, (i.2.at i.1).r⟩) (t := ⟨(i.2.at i.1).d, (i.2.at i.1).c, false, false, (i.2.at i.1).d, (i.2.at i.1).c, (i.2.at i.1).r⟩) 5 hl h (fun hlt => hk1.2.1.ow _ hlt (M.ow_b (by omega))) (by decide) rfl ⟨rfl, rfl, by simp, by simp, by simp, by simp, rfl⟩ (((i.1) * 7) + 5) (by omega)) (by kernel_rfl) ?_
        refine E.H.back (fun w h => ⟨(h.x.at_.fld (o := i.2.upd i.1 ⟨(i.2.at i.1).d, (i.2.at i.1).c, false, false, (i.2.at i.1).d, (i.2.at i.1).c, (i.2.at i.1).r⟩) (i := i.1) (k := 0) (by rw [M.upd_len]; exact hl) (by rw [M.upd_at hl, if_pos rfl]; rfl) (by decide) _ rfl), (h.x.at_.fld (o := i.2.upd i.1 ⟨(i.2.at i.1).d, (i.2.at i.1).c, false, false, (i.2.at i.1).d, (i.2.at i.1).c, (i.2.at i.1).r⟩) (i := i.1) (k := 1) (by rw [M.upd_len]; exact hl) (by rw [M.upd_at hl, if_pos rfl]; rfl) (by decide) _ rfl)⟩) ?_
        refine E.H.done (by kernel_rfl) ?_
        refine E.P.nb (E.To.code ?_)
        refine E.C.region ?_
        refine E.G.val (.int .i64 ((i.1 + 1 : Nat) : Int)) (by kernel_rfl) (fun w h => E.run_as (a := .int .i64 (IntKind.wrap .i64 (((i.1 : Nat) : Int) + 1))) (by kernel_rfl) (congrArg (Value.int .i64) (M.inc64 (by have := hst.at_.lt; (first | assumption | ((try simp only [Bool.or_eq_false_iff, Bool.or_eq_true, Bool.and_eq_true, Bool.and_eq_false_iff, decide_eq_true_eq, decide_eq_false_iff_not, ge_iff_le, gt_iff_lt] at *); omega)))))) ?_
        refine E.G.op (.int .i64 ((i.1 + 1 : Nat) : Int)) (fun w => by kernel_rfl) (by kernel_rfl) ?_
        exact E.To.round (i.1 + 1, i.2.upd i.1 (M.clnS (i.2.at i.1))) (by show o.sl.length - (i.1 + 1) < o.sl.length - i.1; (first | assumption | ((try simp only [Bool.or_eq_false_iff, Bool.or_eq_true, Bool.and_eq_true, Bool.and_eq_false_iff, decide_eq_true_eq, decide_eq_false_iff_not, ge_iff_le, gt_iff_lt] at *); omega))) (⟨by show i.1 + 1 ≤ o.sl.length; (first | assumption | ((try simp only [Bool.or_eq_false_iff, Bool.or_eq_true, Bool.and_eq_true, Bool.and_eq_false_iff, decide_eq_true_eq, decide_eq_false_iff_not, ge_iff_le, gt_iff_lt] at *); omega)), hk1.2.1.trans (M.Nxt.cln w hl) (Nat.le_refl _), fun V hV => (hk1.2.2 V hV).cln hl⟩) ⟨by kernel_rfl, by kernel_rfl⟩ (List.Sublist.refl _) (fun _ h => h)
  · skip
    refine E.C.exit (E.P.et (E.P.et (E.P.eh (E.To.bodyN (fn := Try.f34) [] ?_ ?_))))
    · exact trivial
    · intro w h
      have e : i.1 = o.sl.length := by (first | assumption | ((try simp only [Bool.or_eq_false_iff, Bool.or_eq_true, Bool.and_eq_true, Bool.and_eq_false_iff, decide_eq_true_eq, decide_eq_false_iff_not, ge_iff_le, gt_iff_lt] at *); omega))
      exact ⟨rfl, i.2, h.x, h.ch, hk1.2.1, fun V hV => by have hq := hk1.2.2 V hV; rw [e, hV.n] at hq; exact hq⟩
end Go.Proofs.Ytdjjjikokfadiaa

/- Walks: append to what is empty, printed by wip/eng. No condition but what is named. -/
namespace Go.Proofs.Ytdjjjikokfadiaa
set_option linter.unusedVariables false
set_option linter.unusedSimpArgs false
open Go.RowKit
section
variable {P : Program} {n : Nat} {ops : Array Oper} {Q : Exit → Act → World → Prop} {S : Nat → Prop} {w0 : World} {X : World → Prop} {L : List (Nat × List Value)} {l : List Oper} {fr : E.Fr} {d : Option Nat} {T : TypeId} {pos : String} {af : Array Edge} {gd : Option (Nat × Bool)}
/-- A slice without elements. -/
theorem M.G.empty {t e : TypeId} {sz : Nat} (ht : P.underlying t = some (.slice e)) (hi : (P.info? e).map (·.size) = some sz) (hck : E.ck n ops fr ⟨d, .buildSlice t 0 #[], T, pos, af, gd⟩ = true)
    (k : ∀ g, E.G P n ops Q l (E.upd fr d (.slice (some ⟨g, 0, none⟩) 0 0)) S w0 X L) : E.G P n ops Q (⟨d, .buildSlice t 0 #[], T, pos, af, gd⟩ :: l) fr S w0 X L := by
  refine E.G.any (I := Nat) (fun _ => True) (fun g => .slice (some ⟨g, 0, none⟩) 0 0) (fun _ => X) (fun _ => L) (fun w h => ?_) hck (fun g _ => k g)
  refine ⟨w.heap.size, w.alloc (.cells #[] e), trivial, ?_, h.bel (Bel.alloc (Bel.refl w) _)⟩
  cases hie : P.info? e with
  | none => rw [hie] at hi; cases hi
  | some ie =>
    show (do let r ← Instr.buildSlice t 0 ((#[] : Array (Nat × Operand)).map fun (i, x) => (i, E.ev fr x)); pure (Next.value r) : Sem Next).run P w = _
    have e0 : Array.map (fun x : Nat => (default : Value)) (Array.range 0) = #[] := by simp [Array.range_zero']
    simp [Instr.buildSlice, run_underlying ht, sizeOf, typeInfo, hie, Instr.fill, newRow, e0]
/-- Cells are appended to a slice that has none: a new block. -/
theorem M.G.appendE {t e : TypeId} {s x : Operand} (a0 b : Addr) (m cx sz by_ : Nat) (news : List Value) (ht : P.underlying t = some (.slice e)) (hi : E.tinfo P e = some (sz, by_, sz))
    (hs : E.ev fr s = .slice (some a0) 0 0) (hx : E.ev fr x = .slice (some b) m cx) (hl : news.length = m * sz) (hm : 0 < m) (hsrc : ∀ w, E.Hp S w0 X L w → ∀ j v, news[j]? = some v → w.cell? (b.add j) = some v) (hb : m * by_ ≤ 140737488355328) (h63 : m ≤ 9223372036854775807)
    (hck : E.ck n ops fr ⟨d, .call { callee := .builtin .append, args := #[s, x], argTypes := #[t, t] }, T, pos, af, gd⟩ = true)
    (k : ∀ g c rest, m ≤ c → rest.length = (c - m) * sz → E.G P n ops Q l (E.upd fr d (.slice (some ⟨g, 0, none⟩) m c)) S w0 X ((g, news ++ rest) :: L)) :
    E.G P n ops Q (⟨d, .call { callee := .builtin .append, args := #[s, x], argTypes := #[t, t] }, T, pos, af, gd⟩ :: l) fr S w0 X L := by
  refine E.G.any (I := Nat × Nat × List Value) (fun a => m ≤ a.2.1 ∧ a.2.2.length = (a.2.1 - m) * sz) (fun a => .slice (some ⟨a.1, 0, none⟩) m a.2.1) (fun _ => X) (fun a => (a.1, news ++ a.2.2) :: L) (fun w hh => ?_) hck (fun a ha => k a.1 a.2.1 a.2.2 ha.1 ha.2)
  have hop : (execOp (E.ev fr) ⟨d, .call { callee := .builtin .append, args := #[s, x], argTypes := #[t, t] }, T, pos, af, gd⟩).run P w = ((Builtin.append_ #[t, t] T #[E.ev fr s, E.ev fr x]).run P w).andThen fun v w' => .ok (.value v) w' := by
    simp [execOp, resolve, invoke, builtin]
  rw [hop, hs, hx]
  unfold E.tinfo at hi
  cases hie : P.info? e with
  | none => rw [hie] at hi; cases hi
  | some ie =>
    rw [hie] at hi
    simp only [Option.bind_some] at hi
    cases hz : ie.zero with
    | none => rw [hz] at hi; cases hi
    | some z =>
      rw [hz] at hi
      simp only [Option.map_some, Option.some.injEq, Prod.mk.injEq] at hi
      obtain ⟨h1, h2, h3⟩ := hi
      subst h1; subst h2
      have hr := run_append_grow (P := P) w t T e ie z ht hie hz a0 0 0 [] (by simp) (by simp) b m cx news hl (hsrc w hh) (by omega) (by omega) (growslice_fits (by omega) (by simpa using hb))
      rw [Nat.zero_add] at hr
      have hge := grownCap_ge w m 0 e
      refine ⟨(w.heap.size, grownCap w m 0 e, (Builtin.zeroCells z.cells (grownCap w m 0 e - m)).toList), _, ⟨hge, ?_⟩, by rw [hr]; rfl, ?_⟩
      · rw [Array.length_toList, size_zeroCells, h3]
      · have hb1 : Bel w w.drew := Bel.drew (Bel.refl w)
        have hn := (hh.bel hb1).new (news ++ (Builtin.zeroCells z.cells (grownCap w m 0 e - m)).toList) e
        have ea : (news ++ (Builtin.zeroCells z.cells (grownCap w m 0 e - m)).toList).toArray = ([] : List Value).toArray ++ news.toArray ++ Builtin.zeroCells z.cells (grownCap w m 0 e - m) := by simp
        rw [ea] at hn
        exact hn
/-- Nothing is appended to a slice that has no elements. -/
theorem M.G.append0 {t e : TypeId} {s x : Operand} (a0 : Addr) (ao : Option Addr) (cx sz : Nat) (ht : P.underlying t = some (.slice e)) (hi : (P.info? e).map (·.size) = some sz)
    (hs : E.ev fr s = .slice (some a0) 0 0) (hx : E.ev fr x = .slice ao 0 cx)
    (hck : E.ck n ops fr ⟨d, .call { callee := .builtin .append, args := #[s, x], argTypes := #[t, t] }, T, pos, af, gd⟩ = true)
    (k : E.G P n ops Q l (E.upd fr d (.slice (some a0) 0 0)) S w0 X L) :
    E.G P n ops Q (⟨d, .call { callee := .builtin .append, args := #[s, x], argTypes := #[t, t] }, T, pos, af, gd⟩ :: l) fr S w0 X L := by
  refine E.G.val _ hck (fun w hh => ?_) k
  have hop : (execOp (E.ev fr) ⟨d, .call { callee := .builtin .append, args := #[s, x], argTypes := #[t, t] }, T, pos, af, gd⟩).run P w = ((Builtin.append_ #[t, t] T #[E.ev fr s, E.ev fr x]).run P w).andThen fun v w' => .ok (.value v) w' := by
    simp [execOp, resolve, invoke, builtin]
  rw [hop, hs, hx]
  cases hie : P.info? e with
  | none => rw [hie] at hi; cases hi
  | some ie =>
    have hlc : ∀ a, (loadCells a 0).run P w = .ok #[] w := fun a => by simp [loadCells, loadCellsFrom]
    cases ao with
    | none => simp [Builtin.append_, run_underlying ht, sizeOf, typeInfo, hie, Builtin.lenOf, Builtin.firstCells, storeCells]
    | some a => simp [Builtin.append_, run_underlying ht, sizeOf, typeInfo, hie, Builtin.lenOf, Builtin.firstCells, storeCells, hlc]
end
end Go.Proofs.Ytdjjjikokfadiaa

/- Walks: Snapshot of mem, printed by wip/eng. No condition but what is named. -/
namespace Go.Proofs.Ytdjjjikokfadiaa
set_option linter.unusedVariables false
set_option linter.unusedSimpArgs false
open Go.RowKit
theorem M.Nxt.fd2 {w : World} {o q : M.Obj} {k : Nat} {s : M.Slot} (h : M.Nxt w o q) (hk : k < q.sl.length) (hf : M.Fd (q.at k) s) : M.Nxt w o (q.upd k s) := h.trans (M.Nxt.fd w hk hf) (Nat.le_refl _)
def M.shS (s : M.Slot) : M.Slot := ⟨s.d, s.c, false, false, s.cd, s.cc, s.r⟩
theorem M.fd_sh (s : M.Slot) : M.Fd s (M.shS s) := ⟨rfl, rfl, by simp [M.shS], by simp [M.shS], .inl rfl, .inl rfl, rfl⟩
theorem M.Sh.sh {o : M.Obj} {V : M.V} {k : Nat} (h : M.Sh o V) (hk : k < o.sl.length) : M.Sh (o.upd k (M.shS (o.at k))) V := by
  have key : ∀ j, ((o.upd k (M.shS (o.at k))).at j).d = (o.at j).d ∧ ((o.upd k (M.shS (o.at k))).at j).c = (o.at j).c ∧ ((o.upd k (M.shS (o.at k))).at j).cd = (o.at j).cd ∧ ((o.upd k (M.shS (o.at k))).at j).cc = (o.at j).cc ∧ ((o.upd k (M.shS (o.at k))).at j).r = (o.at j).r := fun j => by
    rw [M.upd_at hk]; by_cases e : j = k
    · subst e; rw [if_pos rfl]; exact ⟨rfl, rfl, rfl, rfl, rfl⟩
    · rw [if_neg e]; exact ⟨rfl, rfl, rfl, rfl, rfl⟩
  refine ⟨M.upd_len.trans h.n, h.coh, fun j hj x hx => ?_, fun j hj x hx => ?_, fun j hj x hx => ?_, fun j hj x hx => ?_, fun j hj => ?_⟩
  · rw [(key j).1]; exact h.d j hj x hx
  · unfold M.img; rw [(key j).1, (key j).2.1]; exact h.i j hj x hx
  · rw [(key j).2.2.1]; exact h.cd j hj x hx
  · rw [(key j).2.2.1, (key j).2.2.2.1]; exact h.ci j hj x hx
  · rw [(key j).2.2.2.2]; exact h.r j hj
/-- No page is owned: all are shared. -/
def M.shr (o : M.Obj) (c : Nat) : Prop := ∀ j, j < c → (o.at j).od = false ∧ (o.at j).oc = false
theorem M.shr_next {o : M.Obj} {k : Nat} (hk : k < o.sl.length) (h : M.shr o k) : M.shr (o.upd k (M.shS (o.at k))) (k + 1) := fun j hj => by
  rw [M.upd_at hk]; by_cases e : j = k
  · rw [if_pos e]; exact ⟨rfl, rfl⟩
  · rw [if_neg e]; exact h j (by omega)
/-- The copy: a header and page states of one's own, the pages shared. -/
def M.cpy (o : M.Obj) (m b c : Nat) (ao : Option Addr) : M.Obj := ⟨m, b, c, ao, o.sl, o.coh, o.C⟩
structure M.Cpy (w w' : World) (o o' o2 : M.Obj) (g : Nat) : Prop where
  m : o2.m = g
  new : w.heap.size ≤ g
  ow : ∀ x, M.ow o2 x → w.heap.size ≤ x
  al : ∀ x, M.all o2 x → w.heap.size ≤ x ∨ M.all o' x
  d1 : ∀ x, M.ow o' x → ¬ M.all o2 x
  d2 : ∀ x, x = g ∨ M.ow o2 x → ¬ M.all o' x
  dm : ¬ M.all o2 o'.m
  sh : ∀ V, M.Sh o V → M.Sh o2 V
theorem M.cpy_ok {S : Nat → Prop} {w0 w : World} {o q : M.Obj} {L : List (Nat × List Value)} {gm gb c : Nat} {rest : List Value} (ao : Option Addr) (h : E.Hp S w0 (fun w => M.St q w) ((gm, [.slice ao q.sl.length c, .bool q.coh]) :: L) w) (hn : M.Nxt w0 o q) (hs : M.shr q q.sl.length) (hV : ∀ V, M.Sh o V → M.Sh q V) (hf0 : w0.heap.size ≤ gm)
    (hL : 0 < q.sl.length → ao = some ⟨gb, 0, none⟩ ∧ (gb, M.cells q.sl ++ rest) ∈ L ∧ w0.heap.size ≤ gb) : M.St (M.cpy q gm gb c ao) w ∧ M.Cpy w0 w o q (M.cpy q gm gb c ao) gm := by
  have hq := h.x
  have am : ∀ {x}, M.all q x → x ≠ gm := fun hx => M.apart h (fun _ h => h) (k := 0) rfl hx
  have ab : 0 < q.sl.length → ∀ {x}, M.all q x → x ≠ gb := fun hp {x} hx => by
    obtain ⟨k, hk, e⟩ := List.getElem_of_mem (hL hp).2.1
    exact M.apart h (fun _ h => h) (k := k + 1) (g := gb) (cs := M.cells q.sl ++ rest) (by rw [List.getElem?_cons_succ, List.getElem?_eq_getElem hk, e]) hx
  have hmb : 0 < q.sl.length → gm ≠ gb := fun hp e => by
    have hd := h.nodup
    rw [List.map_cons, List.nodup_cons] at hd
    exact hd.1 (List.mem_map.2 ⟨_, (hL hp).2.1, e.symm⟩)
  have hpos : ∀ {p}, M.Pg q.sl p → 0 < q.sl.length := fun hp => by obtain ⟨i, hi, _⟩ := hp; omega
  have howb : ∀ x, M.ow (M.cpy q gm gb c ao) x → 0 < q.sl.length ∧ x = gb := fun x hx => by
    rcases hx with hx | ⟨i, hi, ho, _⟩ | ⟨i, hi, ho, _⟩
    · exact hx
    · have h1 := (hs i hi).1
      have ho : (q.at i).od = true := ho
      rw [h1] at ho; cases ho
    · have h1 := (hs i hi).2
      have ho : (q.at i).oc = true := ho
      rw [h1] at ho; cases ho
  have hal : ∀ x, M.all (M.cpy q gm gb c ao) x → x = gm ∨ (0 < q.sl.length ∧ x = gb) ∨ M.Pg q.sl x := fun x hx => hx
  refine ⟨⟨⟨h.cell 0 rfl rfl, h.cell 0 rfl rfl, fun hp => (hL hp).1, fun i v hv => ?_, fun p hp i hi => hq.at_.pg p hp i hi, hq.at_.lt⟩, ⟨hmb, fun p hp => ⟨am (.inr (.inr hp)), ab (hpos hp) (.inr (.inr hp))⟩, fun i j hi hj ho => ?_, fun i j p hi hj ho => ?_, hq.inv.co, hq.inv.by_, hq.inv.rb⟩, fun x hx i => ?_⟩, rfl, hf0, fun x hx => ?_, fun x hx => ?_, fun x hx hx2 => ?_, fun x hx hx2 => ?_, fun hx => ?_, fun V h => ?_⟩
  · have hp : 0 < q.sl.length := by
      cases hsl : q.sl with
      | nil => have hv : (M.cells q.sl)[i]? = some v := hv
               rw [hsl] at hv; simp [M.cells] at hv
      | cons => simp
    have hlt : i < (M.cells q.sl).length := (List.getElem?_eq_some_iff.1 hv).1
    exact h.mem _ (List.mem_cons_of_mem _ (hL hp).2.1) i v (by rw [List.getElem?_append_left hlt]; exact hv)
  · have h1 := (hs i hi).1
    have ho : (q.at i).od = true := ho
    rw [h1] at ho; cases ho
  · have h1 := (hs i hi).2
    have ho : (q.at i).oc = true := ho
    rw [h1] at ho; cases ho
  · rcases hal x hx with rfl | ⟨hp, rfl⟩ | hx
    · exact h.fz _ (List.mem_cons_self ..) i
    · exact h.fz _ (List.mem_cons_of_mem _ (hL hp).2.1) i
    · exact hq.fz x (.inr (.inr hx)) i
  · obtain ⟨hp, rfl⟩ := howb x hx
    exact (hL hp).2.2
  · rcases hal x hx with rfl | ⟨hp, rfl⟩ | hx
    · exact .inl hf0
    · exact .inl (hL hp).2.2
    · exact .inr (.inr (.inr hx))
  · rcases hal x hx2 with rfl | ⟨hp, rfl⟩ | hp
    · exact am (M.ow_all hx) rfl
    · exact ab hp (M.ow_all hx) rfl
    · rcases hx with ⟨hp0, rfl⟩ | ⟨i, hi, ho, _⟩ | ⟨i, hi, ho, _⟩
      · exact (hq.inv.pm _ hp).2 rfl
      · rw [(hs i hi).1] at ho; cases ho
      · rw [(hs i hi).2] at ho; cases ho
  · rcases hx with rfl | hx
    · exact am hx2 rfl
    · obtain ⟨hp, rfl⟩ := howb x hx
      exact ab hp hx2 rfl
  · rcases hal _ hx with e | ⟨hp, e⟩ | hp
    · exact am (.inl rfl) e
    · exact ab hp (.inl rfl) e
    · exact (hq.inv.pm _ hp).1 rfl
  · have := hV V h
    exact ⟨this.n, this.coh, this.d, this.i, this.cd, this.ci, this.r⟩
theorem Snapshot_any (o : M.Obj) (w : World) (hst : M.St o w) : Calls Try.prog 29 #[.pointer (some ⟨o.m, 0, none⟩)] w fun e w' => ∃ g o' o2, e = .returned (.pointer (some ⟨g, 0, none⟩)) ∧ M.St o' w' ∧ M.St o2 w' ∧ Ch (fun x => M.ow o x) w w' ∧ M.Nxt w o o' ∧ (∀ V, M.Sh o V → M.Sh o' V) ∧ M.Cpy w w' o o' o2 g := by
  let w_0 := w
  refine E.enter (n := 43) (S := fun x => 0 < o.sl.length ∧ x = o.b) Try.func29 rfl rfl (by kernel_rfl) (hst.hp (Ch.refl _ _)) ?_
  refine E.C.seq ?_
  refine E.C.region ?_
  refine E.G.op (.pointer none) (fun w => by kernel_rfl) (by kernel_rfl) ?_
  refine E.To.code ?_
  refine E.C.seq ?_
  refine E.C.seq ?_
  refine E.C.region ?_
  refine E.G.op (.pointer (some ⟨o.m, 0, none⟩)) (fun w => by kernel_rfl) (by kernel_rfl) ?_
  refine E.G.val (.bool false) (by kernel_rfl) (fun w h => E.run_as (a := .bool false) (by kernel_rfl) (rfl)) ?_
  refine E.To.code ?_
  refine E.C.condF (by kernel_rfl) (by kernel_rfl) ?_
  refine E.C.skip (E.To.code ?_)
  refine E.C.seq ?_
  refine E.C.seq ?_
  refine E.C.region ?_
  refine E.G.op (.pointer (some ⟨o.m, 0, none⟩)) (fun w => by kernel_rfl) (by kernel_rfl) ?_
  refine E.G.op (.pointer (some ⟨o.m, 0, none⟩)) (fun w => by kernel_rfl) (by kernel_rfl) ?_
  refine E.G.op (.pointer (some ⟨o.m, 0, none⟩)) (fun w => by kernel_rfl) (by kernel_rfl) ?_
  refine E.G.val (.slice o.ao o.sl.length o.cap) (by kernel_rfl) (fun w h => M.load1 (a := ⟨o.m, 0, none⟩) (by kernel_rfl) (M.one Try.underlying64 rfl) h.x.at_.c0) ?_
  refine E.G.op (.int .i64 ((o.sl.length : Nat) : Int)) (fun w => by kernel_rfl) (by kernel_rfl) ?_
  refine E.G.op (.int .i64 0) (fun w => by kernel_rfl) (by kernel_rfl) ?_
  refine E.To.code ?_
  refine E.C.block ?_
  refine E.C.loop (I := Nat × M.Obj) (fun i => o.sl.length - i.1) (fun i => i.1 ≤ o.sl.length ∧ M.Nxt w o i.2 ∧ (∀ V, M.Sh o V → M.Sh i.2 V) ∧ M.shr i.2 i.1 ∧ (0 < i.2.sl.length → i.2.ao = some ⟨i.2.b, 0, none⟩) ∧ i.2.b = o.b) (fun i => [(0, .pointer (some ⟨o.m, 0, none⟩)), (2, .pointer none), (12, .int .i64 ((o.sl.length : Nat) : Int)), (13, .int .i64 ((i.1 : Nat) : Int))]) (fun i => fun u => M.St i.2 u) (fun _ => []) (0, o) (⟨Nat.zero_le _, M.Nxt.refl _ _, fun _ h => h, fun _ h => absurd h (by omega), hst.at_.ha, rfl⟩) ⟨by kernel_rfl, by kernel_rfl⟩ (List.Sublist.refl _) (fun _ h => h) (fun i hk1 => ?_)
  refine E.C.seq ?_
  refine E.C.region ?_
  refine E.G.op (.bool (decide (((i.1 : Nat) : Int) < ((o.sl.length : Nat) : Int)))) (fun w => by kernel_rfl) (by kernel_rfl) ?_
  refine E.To.code ?_
  refine E.C.seq ?_
  refine E.C.cond (decide (((i.1 : Nat) : Int) < ((o.sl.length : Nat) : Int))) (by kernel_rfl) (by kernel_rfl) (fun hc1 => ?_) (fun hc1 => ?_)
  · skip
    refine E.C.skip (E.To.code ?_)
    refine E.C.seq ?_
    refine E.C.block ?_
    refine E.C.seq ?_
    refine E.C.region ?_
    refine E.G.op (.int .i64 ((i.1 : Nat) : Int)) (fun w => by kernel_rfl) (by kernel_rfl) ?_
    refine E.G.op (.int .i64 ((i.1 : Nat) : Int)) (fun w => by kernel_rfl) (by kernel_rfl) ?_
    refine E.To.code ?_
    have hl : i.1 < i.2.sl.length := by rw [hk1.2.1.n]; (first | assumption | ((try simp only [Bool.or_eq_false_iff, Bool.or_eq_true, Bool.and_eq_true, Bool.and_eq_false_iff, decide_eq_true_eq, decide_eq_false_iff_not, ge_iff_le, gt_iff_lt] at *); omega))
    have ha : 0 < i.2.sl.length → i.2.ao = some ⟨i.2.b, 0, none⟩ := hk1.2.2.2.2.1
    refine E.C.held (fun u => u.cell? ⟨o.m, 0, none⟩ = some (.slice i.2.ao i.2.sl.length i.2.cap) ∧ u.cell? ⟨o.m, 1, none⟩ = some (.bool i.2.coh)) (by kernel_rfl) ?_
    refine E.H.take 0 (.pointer (some ⟨o.m, 0, none⟩)) rfl (by kernel_rfl) (by kernel_rfl) (by kernel_rfl) (fun _ _ _ h => h) (fun w h => ⟨by rw [← hk1.2.1.m]; exact h.x.at_.c0, by rw [← hk1.2.1.m]; exact h.x.at_.c1⟩) (.inl ⟨by kernel_rfl, by kernel_rfl, fun w h => by kernel_rfl⟩) (by kernel_rfl) ?_
    refine E.H.take 1 (.pointer (some ⟨o.m, 0, none⟩)) rfl (by kernel_rfl) (by kernel_rfl) (by kernel_rfl) (fun _ _ _ h => h) (fun w h => ⟨by rw [← hk1.2.1.m]; exact h.x.at_.c0, by rw [← hk1.2.1.m]; exact h.x.at_.c1⟩) (.inl ⟨by kernel_rfl, by kernel_rfl, fun w h => by kernel_rfl⟩) (by kernel_rfl) ?_
    refine E.H.take 2 (.pointer (some ⟨o.m, 0, none⟩)) rfl (by kernel_rfl) (by kernel_rfl) (by kernel_rfl) (fun _ _ _ h => h) (fun w h => ⟨by rw [← hk1.2.1.m]; exact h.x.at_.c0, by rw [← hk1.2.1.m]; exact h.x.at_.c1⟩) (.inl ⟨by kernel_rfl, by kernel_rfl, fun w h => by kernel_rfl⟩) (by kernel_rfl) ?_
    refine E.H.take 3 (.slice i.2.ao i.2.sl.length i.2.cap) rfl (by kernel_rfl) (by kernel_rfl) (by kernel_rfl) (fun _ _ _ h => h) (fun w h => ⟨by rw [← hk1.2.1.m]; exact h.x.at_.c0, by rw [← hk1.2.1.m]; exact h.x.at_.c1⟩) (.inl ⟨by kernel_rfl, by kernel_rfl, fun w h => M.load1 (a := ⟨o.m, 0, none⟩) (by kernel_rfl) (M.one Try.underlying64 rfl) h.1⟩) (by kernel_rfl) ?_
    refine E.H.take 4 (.int .i64 ((i.1 : Nat) : Int)) rfl (by kernel_rfl) (by kernel_rfl) (by kernel_rfl) (fun _ _ _ h => h) (fun w h => ⟨by rw [← hk1.2.1.m]; exact h.x.at_.c0, by rw [← hk1.2.1.m]; exact h.x.at_.c1⟩) (.inl ⟨by kernel_rfl, by kernel_rfl, fun w h => by kernel_rfl⟩) (by kernel_rfl) ?_
    refine E.H.take 5 (.pointer (some ⟨o.m, 0, none⟩)) rfl (by kernel_rfl) (by kernel_rfl) (by kernel_rfl) (fun _ _ _ h => h) (fun w h => ⟨by rw [← hk1.2.1.m]; exact h.x.at_.c0, by rw [← hk1.2.1.m]; exact h.x.at_.c1⟩) (.inl ⟨by kernel_rfl, by kernel_rfl, fun w h => by kernel_rfl⟩) (by kernel_rfl) ?_
    refine E.H.take 6 (.pointer (some ⟨o.m, 0, none⟩)) rfl (by kernel_rfl) (by kernel_rfl) (by kernel_rfl) (fun _ _ _ h => h) (fun w h => ⟨by rw [← hk1.2.1.m]; exact h.x.at_.c0, by rw [← hk1.2.1.m]; exact h.x.at_.c1⟩) (.inl ⟨by kernel_rfl, by kernel_rfl, fun w h => by kernel_rfl⟩) (by kernel_rfl) ?_
    refine E.H.take 7 (.pointer (some ⟨o.m, 0, none⟩)) rfl (by kernel_rfl) (by kernel_rfl) (by kernel_rfl) (fun _ _ _ h => h) (fun w h => ⟨by rw [← hk1.2.1.m]; exact h.x.at_.c0, by rw [← hk1.2.1.m]; exact h.x.at_.c1⟩) (.inl ⟨by kernel_rfl, by kernel_rfl, fun w h => by kernel_rfl⟩) (by kernel_rfl) ?_
    refine E.H.take 8 (.slice i.2.ao i.2.sl.length i.2.cap) rfl (by kernel_rfl) (by kernel_rfl) (by kernel_rfl) (fun _ _ _ h => h) (fun w h => ⟨by rw [← hk1.2.1.m]; exact h.x.at_.c0, by rw [← hk1.2.1.m]; exact h.x.at_.c1⟩) (.inl ⟨by kernel_rfl, by kernel_rfl, fun w h => M.load1 (a := ⟨o.m, 0, none⟩) (by kernel_rfl) (M.one Try.underlying64 rfl) h.1⟩) (by kernel_rfl) ?_
    refine E.H.take 9 (.int .i64 ((i.1 : Nat) : Int)) rfl (by kernel_rfl) (by kernel_rfl) (by kernel_rfl) (fun _ _ _ h => h) (fun w h => ⟨by rw [← hk1.2.1.m]; exact h.x.at_.c0, by rw [← hk1.2.1.m]; exact h.x.at_.c1⟩) (.inl ⟨by kernel_rfl, by kernel_rfl, fun w h => by kernel_rfl⟩) (by kernel_rfl) ?_
    refine E.H.take 10 (.pointer (some ⟨i.2.b, (i.1) * 7, none⟩)) rfl (by kernel_rfl) (by kernel_rfl) (by kernel_rfl) (fun _ _ _ h => h) (fun w h => ⟨by rw [← hk1.2.1.m]; exact h.x.at_.c0, by rw [← hk1.2.1.m]; exact h.x.at_.c1⟩) (.inl ⟨by kernel_rfl, by kernel_rfl, fun w h => M.idxO (e := 74) (i := (i.1)) (k := .i64) (ao := i.2.ao) (b := i.2.b) (len := i.2.sl.length) (cap := i.2.cap) (esz := 7) (by kernel_rfl) (by kernel_rfl) (by kernel_rfl) (by kernel_rfl) hl ha w⟩) (by kernel_rfl) ?_
    refine E.H.take 11 (.pointer (some ⟨i.2.b, ((i.1) * 7) + 2, none⟩)) rfl (by kernel_rfl) (by kernel_rfl) (by kernel_rfl) (fun _ _ _ h => h) (fun w h => ⟨by rw [← hk1.2.1.m]; exact h.x.at_.c0, by rw [← hk1.2.1.m]; exact h.x.at_.c1⟩) (.inl ⟨by kernel_rfl, by kernel_rfl, fun w h => by kernel_rfl⟩) (by kernel_rfl) ?_
    refine E.H.all [12] (by kernel_rfl) (by simp) (List.forall_mem_cons.2 ⟨⟨_, rfl, ?_⟩, fun _ h => (List.not_mem_nil h).elim⟩)
    · skip
      refine M.G.sto (.bool false) (fun w => M.St (i.2.upd i.1 ⟨(i.2.at i.1).d, (i.2.at i.1).c, false, (i.2.at i.1).oc, (i.2.at i.1).cd, (i.2.at i.1).cc, (i.2.at i.1).r⟩) w) [] (by kernel_rfl) (by kernel_rfl) rfl rfl (by kernel_rfl) (fun w h => M.fd_sto (s := i.2.at i.1) (t := ⟨(i.2.at i.1).d, (i.2.at i.1).c, false, (i.2.at i.1).oc, (i.2.at i.1).cd, (i.2.at i.1).cc, (i.2.at i.1).r⟩) 2 hl (by rw [M.upd_self hl]; exact h) (fun hlt => ⟨by have := hk1.2.1.n; omega, hk1.2.2.2.2.2⟩) (by decide) rfl ⟨rfl, rfl, by simp, by simp, by simp, by simp, rfl⟩ (((i.1) * 7) + 2) (by omega)) (by kernel_rfl) ?_
      refine E.H.back (fun w h => ⟨by rw [← hk1.2.1.m]; have := h.x.at_.c0; rw [M.upd_len] at this; exact this, by rw [← hk1.2.1.m]; exact h.x.at_.c1⟩) ?_
      refine E.H.take 13 (.pointer (some ⟨i.2.b, (i.1) * 7, none⟩)) rfl (by kernel_rfl) (by kernel_rfl) (by kernel_rfl) (fun _ _ _ h => h) (fun w h => ⟨by rw [← hk1.2.1.m]; have := h.x.at_.c0; rw [M.upd_len] at this; exact this, by rw [← hk1.2.1.m]; exact h.x.at_.c1⟩) (.inl ⟨by kernel_rfl, by kernel_rfl, fun w h => M.idxO (e := 74) (i := (i.1)) (k := .i64) (ao := i.2.ao) (b := i.2.b) (len := i.2.sl.length) (cap := i.2.cap) (esz := 7) (by kernel_rfl) (by kernel_rfl) (by kernel_rfl) (by kernel_rfl) hl ha w⟩) (by kernel_rfl) ?_
      refine E.H.take 14 (.pointer (some ⟨i.2.b, ((i.1) * 7) + 3, none⟩)) rfl (by kernel_rfl) (by kernel_rfl) (by kernel_rfl) (fun _ _ _ h => h) (fun w h => ⟨by rw [← hk1.2.1.m]; have := h.x.at_.c0; rw [M.upd_len] at this; exact this, by rw [← hk1.2.1.m]; exact h.x.at_.c1⟩) (.inl ⟨by kernel_rfl, by kernel_rfl, fun w h => by kernel_rfl⟩) (by kernel_rfl) ?_
      refine E.H.all [15] (by kernel_rfl) (by simp) (List.forall_mem_cons.2 ⟨⟨_, rfl, ?_⟩, fun _ h => (List.not_mem_nil h).elim⟩)
      · skip
        refine M.G.sto (.bool false) (fun w => M.St (i.2.upd i.1 ⟨(i.2.at i.1).d, (i.2.at i.1).c, false, false, (i.2.at i.1).cd, (i.2.at i.1).cc, (i.2.at i.1).r⟩) w) [] (by kernel_rfl) (by kernel_rfl) rfl rfl (by kernel_rfl) (fun w h => M.fd_sto (s := ⟨(i.2.at i.1).d, (i.2.at i.1).c, false, (i.2.at i.1).oc, (i.2.at i.1).cd, (i.2.at i.1).cc, (i.2.at i.1).r⟩) (t := ⟨(i.2.at i.1).d, (i.2.at i.1).c, false, false, (i.2.at i.1).cd, (i.2.at i.1).cc, (i.2.at i.1).r⟩) 3 hl h (fun hlt => ⟨by have := hk1.2.1.n; omega, hk1.2.2.2.2.2⟩) (by decide) rfl ⟨rfl, rfl, by simp, by simp, by simp, by simp, rfl⟩ (((i.1) * 7) + 3) (by omega)) (by kernel_rfl) ?_
        refine E.H.back (fun w h => ⟨by rw [← hk1.2.1.m]; have := h.x.at_.c0; rw [M.upd_len] at this; exact this, by rw [← hk1.2.1.m]; exact h.x.at_.c1⟩) ?_
        refine E.H.done (by kernel_rfl) ?_
        refine E.P.nb (E.To.code ?_)
        refine E.C.region ?_
        refine E.G.val (.int .i64 ((i.1 + 1 : Nat) : Int)) (by kernel_rfl) (fun w h => E.run_as (a := .int .i64 (IntKind.wrap .i64 (((i.1 : Nat) : Int) + 1))) (by kernel_rfl) (congrArg (Value.int .i64) (M.inc64 (by have := hst.at_.lt; (first | assumption | ((try simp only [Bool.or_eq_false_iff, Bool.or_eq_true, Bool.and_eq_true, Bool.and_eq_false_iff, decide_eq_true_eq, decide_eq_false_iff_not, ge_iff_le, gt_iff_lt] at *); omega)))))) ?_
        refine E.G.op (.int .i64 ((i.1 + 1 : Nat) : Int)) (fun w => by kernel_rfl) (by kernel_rfl) ?_
        exact E.To.round (i.1 + 1, i.2.upd i.1 (M.shS (i.2.at i.1))) (by show o.sl.length - (i.1 + 1) < o.sl.length - i.1; (first | assumption | ((try simp only [Bool.or_eq_false_iff, Bool.or_eq_true, Bool.and_eq_true, Bool.and_eq_false_iff, decide_eq_true_eq, decide_eq_false_iff_not, ge_iff_le, gt_iff_lt] at *); omega))) (⟨by show i.1 + 1 ≤ o.sl.length; (first | assumption | ((try simp only [Bool.or_eq_false_iff, Bool.or_eq_true, Bool.and_eq_true, Bool.and_eq_false_iff, decide_eq_true_eq, decide_eq_false_iff_not, ge_iff_le, gt_iff_lt] at *); omega)), hk1.2.1.fd2 hl (M.fd_sh _), fun V hV => (hk1.2.2.1 V hV).sh hl, M.shr_next hl hk1.2.2.2.1, fun _ => ha (by omega), hk1.2.2.2.2.2⟩) ⟨by kernel_rfl, by kernel_rfl⟩ (List.Sublist.refl _) (fun _ h => h)
  · skip
    refine E.C.exit (E.P.et (E.P.et (E.P.eh (E.To.code ?_))))
    refine E.C.seq ?_
    have e : i.1 = i.2.sl.length := by rw [hk1.2.1.n]; (first | assumption | ((try simp only [Bool.or_eq_false_iff, Bool.or_eq_true, Bool.and_eq_true, Bool.and_eq_false_iff, decide_eq_true_eq, decide_eq_false_iff_not, ge_iff_le, gt_iff_lt] at *); omega))
    refine E.C.relist _ rfl ?_
    rcases Nat.eq_zero_or_pos i.2.sl.length with hz2 | hz2
    · skip
      refine E.C.held (fun u => u.cell? ⟨o.m, 0, none⟩ = some (.slice i.2.ao i.2.sl.length i.2.cap) ∧ u.cell? ⟨o.m, 1, none⟩ = some (.bool i.2.coh)) (by kernel_rfl) ?_
      refine E.H.take 1 (.pointer (some ⟨o.m, 0, none⟩)) rfl (by kernel_rfl) (by kernel_rfl) (by kernel_rfl) (fun _ _ _ h => h) (fun w h => ⟨by rw [← hk1.2.1.m]; exact h.x.at_.c0, by rw [← hk1.2.1.m]; exact h.x.at_.c1⟩) (.inl ⟨by kernel_rfl, by kernel_rfl, fun w h => by kernel_rfl⟩) (by kernel_rfl) ?_
      refine E.H.take 2 (.pointer (some ⟨o.m, 0, none⟩)) rfl (by kernel_rfl) (by kernel_rfl) (by kernel_rfl) (fun _ _ _ h => h) (fun w h => ⟨by rw [← hk1.2.1.m]; exact h.x.at_.c0, by rw [← hk1.2.1.m]; exact h.x.at_.c1⟩) (.inl ⟨by kernel_rfl, by kernel_rfl, fun w h => by kernel_rfl⟩) (by kernel_rfl) ?_
      refine E.H.take 3 (.pointer (some ⟨o.m, 0, none⟩)) rfl (by kernel_rfl) (by kernel_rfl) (by kernel_rfl) (fun _ _ _ h => h) (fun w h => ⟨by rw [← hk1.2.1.m]; exact h.x.at_.c0, by rw [← hk1.2.1.m]; exact h.x.at_.c1⟩) (.inl ⟨by kernel_rfl, by kernel_rfl, fun w h => by kernel_rfl⟩) (by kernel_rfl) ?_
      refine E.H.take 4 (.slice i.2.ao i.2.sl.length i.2.cap) rfl (by kernel_rfl) (by kernel_rfl) (by kernel_rfl) (fun _ _ _ h => h) (fun w h => ⟨by rw [← hk1.2.1.m]; exact h.x.at_.c0, by rw [← hk1.2.1.m]; exact h.x.at_.c1⟩) (.inl ⟨by kernel_rfl, by kernel_rfl, fun w h => M.load1 (a := ⟨o.m, 0, none⟩) (by kernel_rfl) (M.one Try.underlying64 rfl) h.1⟩) (by kernel_rfl) ?_
      refine E.H.take 6 (.pointer (some ⟨o.m, 0, none⟩)) rfl (by kernel_rfl) (by kernel_rfl) (by kernel_rfl) (fun _ _ _ h => h) (fun w h => ⟨by rw [← hk1.2.1.m]; exact h.x.at_.c0, by rw [← hk1.2.1.m]; exact h.x.at_.c1⟩) (.inl ⟨by kernel_rfl, by kernel_rfl, fun w h => by kernel_rfl⟩) (by kernel_rfl) ?_
      refine E.H.take 7 (.pointer (some ⟨o.m, 0, none⟩)) rfl (by kernel_rfl) (by kernel_rfl) (by kernel_rfl) (fun _ _ _ h => h) (fun w h => ⟨by rw [← hk1.2.1.m]; exact h.x.at_.c0, by rw [← hk1.2.1.m]; exact h.x.at_.c1⟩) (.inl ⟨by kernel_rfl, by kernel_rfl, fun w h => by kernel_rfl⟩) (by kernel_rfl) ?_
      refine E.H.take 8 (.pointer (some ⟨o.m, 1, none⟩)) rfl (by kernel_rfl) (by kernel_rfl) (by kernel_rfl) (fun _ _ _ h => h) (fun w h => ⟨by rw [← hk1.2.1.m]; exact h.x.at_.c0, by rw [← hk1.2.1.m]; exact h.x.at_.c1⟩) (.inl ⟨by kernel_rfl, by kernel_rfl, fun w h => by kernel_rfl⟩) (by kernel_rfl) ?_
      refine E.H.take 9 (.bool i.2.coh) rfl (by kernel_rfl) (by kernel_rfl) (by kernel_rfl) (fun _ _ _ h => h) (fun w h => ⟨by rw [← hk1.2.1.m]; exact h.x.at_.c0, by rw [← hk1.2.1.m]; exact h.x.at_.c1⟩) (.inl ⟨by kernel_rfl, by kernel_rfl, fun w h => M.load1 (a := ⟨o.m, 1, none⟩) (by kernel_rfl) (M.one Try.underlying4 rfl) h.2⟩) (by kernel_rfl) ?_
      refine E.H.all [0] (by kernel_rfl) (by simp) (List.forall_mem_cons.2 ⟨⟨_, rfl, ?_⟩, fun _ h => (List.not_mem_nil h).elim⟩)
      · skip
        refine M.G.empty (e := 74) (sz := 7) (by kernel_rfl) (by kernel_rfl) (by kernel_rfl) (fun g3 => ?_)
        refine E.H.back (fun w h => ⟨by rw [← hk1.2.1.m]; exact h.x.at_.c0, by rw [← hk1.2.1.m]; exact h.x.at_.c1⟩) ?_
        refine E.H.all [5] (by kernel_rfl) (by simp) (List.forall_mem_cons.2 ⟨⟨_, rfl, ?_⟩, fun _ h => (List.not_mem_nil h).elim⟩)
        · skip
          refine M.G.append0 (e := 74) ⟨g3, 0, none⟩ i.2.ao i.2.cap 7 (by kernel_rfl) (by kernel_rfl) (by kernel_rfl) (by rw [← hz2]; kernel_rfl) (by kernel_rfl) ?_
          refine E.H.back (fun w h => ⟨by rw [← hk1.2.1.m]; exact h.x.at_.c0, by rw [← hk1.2.1.m]; exact h.x.at_.c1⟩) ?_
          refine E.H.take 10 (.agg #[.slice (some ⟨g3, 0, none⟩) 0 0, .bool i.2.coh]) rfl (by kernel_rfl) (by kernel_rfl) (by kernel_rfl) (fun _ _ _ h => h) (fun w h => ⟨by rw [← hk1.2.1.m]; exact h.x.at_.c0, by rw [← hk1.2.1.m]; exact h.x.at_.c1⟩) (.inl ⟨by kernel_rfl, by kernel_rfl, fun w h => E.run_build #[.slice (some ⟨g3, 0, none⟩) 0 0, .bool i.2.coh] (by kernel_rfl) w⟩) (by kernel_rfl) ?_
          refine E.H.all [11] (by kernel_rfl) (by simp) (List.forall_mem_cons.2 ⟨⟨_, rfl, ?_⟩, fun _ h => (List.not_mem_nil h).elim⟩)
          · skip
            refine E.G.new (fun g => .pointer (some ⟨g, 0, none⟩)) [.slice (some ⟨g3, 0, none⟩) 0 0, .bool i.2.coh] 66 (fun w => by kernel_rfl) (by kernel_rfl) (fun g4 => ?_)
            refine E.H.back (fun w h => ⟨by rw [← hk1.2.1.m]; exact h.x.at_.c0, by rw [← hk1.2.1.m]; exact h.x.at_.c1⟩) ?_
            refine E.H.take 12 (.pointer (some ⟨g4, 0, none⟩)) rfl (by kernel_rfl) (by kernel_rfl) (by kernel_rfl) (fun _ _ _ h => h) (fun w h => ⟨by rw [← hk1.2.1.m]; exact h.x.at_.c0, by rw [← hk1.2.1.m]; exact h.x.at_.c1⟩) (.inl ⟨by kernel_rfl, by kernel_rfl, fun w h => by kernel_rfl⟩) (by kernel_rfl) ?_
            refine E.H.done (by kernel_rfl) ?_
            refine E.To.code ?_
            refine E.C.weak [(2, .pointer (some ⟨g4, 0, none⟩))] [(g4, [.slice (some ⟨g3, 0, none⟩) 0 0, .bool i.2.coh])] ⟨by kernel_rfl, by kernel_rfl⟩ (List.Sublist.refl _) ?_
            refine E.C.ret (E.To.body (fn := Try.f29) [.pointer (some ⟨g4, 0, none⟩)] ?_ ?_)
            · exact ⟨⟨by kernel_rfl, by kernel_rfl⟩, trivial⟩
            · intro w h
              have nb : ∀ (g : Nat) (cs : List Value), (g, cs) ∈ ([(g4, [.slice (some ⟨g3, 0, none⟩) 0 0, .bool i.2.coh])] : List (Nat × List Value)) → w_0.heap.size ≤ g := fun g cs hm => Nat.le_of_not_lt fun hlt => by
                obtain ⟨hp, e1⟩ := h.own (g, cs) hm hlt
                obtain ⟨k, hk, e2⟩ := List.getElem_of_mem hm
                exact M.apart h (fun _ h => h) (k := k) (g := g) (cs := cs) (by rw [List.getElem?_eq_getElem hk, e2]) (M.all_b (by rw [hk1.2.1.n]; exact hp)) (hk1.2.2.2.2.2.trans e1.symm)
              have hc := M.cpy_ok (gm := g4) (gb := g3) (c := 0) (rest := []) (some ⟨g3, 0, none⟩) (by rw [hz2]; exact h) hk1.2.1 (by rw [← e]; exact hk1.2.2.2.1) hk1.2.2.1 (nb _ _ (List.mem_cons_self ..)) (fun hp => absurd hp (by omega))
              exact ⟨g4, i.2, _, rfl, h.x, hc.1, h.ch.mono (fun x _ hx => .inl hx), hk1.2.1, hk1.2.2.1, hc.2⟩
    · skip
      refine E.C.held (fun u => u.cell? ⟨o.m, 0, none⟩ = some (.slice i.2.ao i.2.sl.length i.2.cap) ∧ u.cell? ⟨o.m, 1, none⟩ = some (.bool i.2.coh)) (by kernel_rfl) ?_
      refine E.H.take 1 (.pointer (some ⟨o.m, 0, none⟩)) rfl (by kernel_rfl) (by kernel_rfl) (by kernel_rfl) (fun _ _ _ h => h) (fun w h => ⟨by rw [← hk1.2.1.m]; exact h.x.at_.c0, by rw [← hk1.2.1.m]; exact h.x.at_.c1⟩) (.inl ⟨by kernel_rfl, by kernel_rfl, fun w h => by kernel_rfl⟩) (by kernel_rfl) ?_
      refine E.H.take 2 (.pointer (some ⟨o.m, 0, none⟩)) rfl (by kernel_rfl) (by kernel_rfl) (by kernel_rfl) (fun _ _ _ h => h) (fun w h => ⟨by rw [← hk1.2.1.m]; exact h.x.at_.c0, by rw [← hk1.2.1.m]; exact h.x.at_.c1⟩) (.inl ⟨by kernel_rfl, by kernel_rfl, fun w h => by kernel_rfl⟩) (by kernel_rfl) ?_
      refine E.H.take 3 (.pointer (some ⟨o.m, 0, none⟩)) rfl (by kernel_rfl) (by kernel_rfl) (by kernel_rfl) (fun _ _ _ h => h) (fun w h => ⟨by rw [← hk1.2.1.m]; exact h.x.at_.c0, by rw [← hk1.2.1.m]; exact h.x.at_.c1⟩) (.inl ⟨by kernel_rfl, by kernel_rfl, fun w h => by kernel_rfl⟩) (by kernel_rfl) ?_
      refine E.H.take 4 (.slice i.2.ao i.2.sl.length i.2.cap) rfl (by kernel_rfl) (by kernel_rfl) (by kernel_rfl) (fun _ _ _ h => h) (fun w h => ⟨by rw [← hk1.2.1.m]; exact h.x.at_.c0, by rw [← hk1.2.1.m]; exact h.x.at_.c1⟩) (.inl ⟨by kernel_rfl, by kernel_rfl, fun w h => M.load1 (a := ⟨o.m, 0, none⟩) (by kernel_rfl) (M.one Try.underlying64 rfl) h.1⟩) (by kernel_rfl) ?_
      refine E.H.take 6 (.pointer (some ⟨o.m, 0, none⟩)) rfl (by kernel_rfl) (by kernel_rfl) (by kernel_rfl) (fun _ _ _ h => h) (fun w h => ⟨by rw [← hk1.2.1.m]; exact h.x.at_.c0, by rw [← hk1.2.1.m]; exact h.x.at_.c1⟩) (.inl ⟨by kernel_rfl, by kernel_rfl, fun w h => by kernel_rfl⟩) (by kernel_rfl) ?_
      refine E.H.take 7 (.pointer (some ⟨o.m, 0, none⟩)) rfl (by kernel_rfl) (by kernel_rfl) (by kernel_rfl) (fun _ _ _ h => h) (fun w h => ⟨by rw [← hk1.2.1.m]; exact h.x.at_.c0, by rw [← hk1.2.1.m]; exact h.x.at_.c1⟩) (.inl ⟨by kernel_rfl, by kernel_rfl, fun w h => by kernel_rfl⟩) (by kernel_rfl) ?_
      refine E.H.take 8 (.pointer (some ⟨o.m, 1, none⟩)) rfl (by kernel_rfl) (by kernel_rfl) (by kernel_rfl) (fun _ _ _ h => h) (fun w h => ⟨by rw [← hk1.2.1.m]; exact h.x.at_.c0, by rw [← hk1.2.1.m]; exact h.x.at_.c1⟩) (.inl ⟨by kernel_rfl, by kernel_rfl, fun w h => by kernel_rfl⟩) (by kernel_rfl) ?_
      refine E.H.take 9 (.bool i.2.coh) rfl (by kernel_rfl) (by kernel_rfl) (by kernel_rfl) (fun _ _ _ h => h) (fun w h => ⟨by rw [← hk1.2.1.m]; exact h.x.at_.c0, by rw [← hk1.2.1.m]; exact h.x.at_.c1⟩) (.inl ⟨by kernel_rfl, by kernel_rfl, fun w h => M.load1 (a := ⟨o.m, 1, none⟩) (by kernel_rfl) (M.one Try.underlying4 rfl) h.2⟩) (by kernel_rfl) ?_
      refine E.H.all [0] (by kernel_rfl) (by simp) (List.forall_mem_cons.2 ⟨⟨_, rfl, ?_⟩, fun _ h => (List.not_mem_nil h).elim⟩)
      · skip
        refine M.G.empty (e := 74) (sz := 7) (by kernel_rfl) (by kernel_rfl) (by kernel_rfl) (fun g5 => ?_)
        refine E.H.back (fun w h => ⟨by rw [← hk1.2.1.m]; exact h.x.at_.c0, by rw [← hk1.2.1.m]; exact h.x.at_.c1⟩) ?_
        refine E.H.all [5] (by kernel_rfl) (by simp) (List.forall_mem_cons.2 ⟨⟨_, rfl, ?_⟩, fun _ h => (List.not_mem_nil h).elim⟩)
        · skip
          refine M.G.appendE (e := 74) ⟨g5, 0, none⟩ ⟨i.2.b, 0, none⟩ i.2.sl.length i.2.cap 7 48 (M.cells i.2.sl) (by kernel_rfl) (by kernel_rfl) (by kernel_rfl) (by rw [← hk1.2.2.2.2.1 hz2]; kernel_rfl) ((M.cells_len _).trans (by omega)) hz2 (fun w h j v hv => by rw [E.add_off, Nat.zero_add]; exact h.x.at_.cs j v hv) (by have := hst.at_.lt; rw [hk1.2.1.n]; omega) (by have := hst.at_.lt; rw [hk1.2.1.n]; omega) (by kernel_rfl) (fun g6 c7 r8 hc hr => ?_)
          refine E.H.back (fun w h => ⟨by rw [← hk1.2.1.m]; exact h.x.at_.c0, by rw [← hk1.2.1.m]; exact h.x.at_.c1⟩) ?_
          refine E.H.take 10 (.agg #[.slice (some ⟨g6, 0, none⟩) i.2.sl.length c7, .bool i.2.coh]) rfl (by kernel_rfl) (by kernel_rfl) (by kernel_rfl) (fun _ _ _ h => h) (fun w h => ⟨by rw [← hk1.2.1.m]; exact h.x.at_.c0, by rw [← hk1.2.1.m]; exact h.x.at_.c1⟩) (.inl ⟨by kernel_rfl, by kernel_rfl, fun w h => E.run_build #[.slice (some ⟨g6, 0, none⟩) i.2.sl.length c7, .bool i.2.coh] (by kernel_rfl) w⟩) (by kernel_rfl) ?_
          refine E.H.all [11] (by kernel_rfl) (by simp) (List.forall_mem_cons.2 ⟨⟨_, rfl, ?_⟩, fun _ h => (List.not_mem_nil h).elim⟩)
          · skip
            refine E.G.new (fun g => .pointer (some ⟨g, 0, none⟩)) [.slice (some ⟨g6, 0, none⟩) i.2.sl.length c7, .bool i.2.coh] 66 (fun w => by kernel_rfl) (by kernel_rfl) (fun g9 => ?_)
            refine E.H.back (fun w h => ⟨by rw [← hk1.2.1.m]; exact h.x.at_.c0, by rw [← hk1.2.1.m]; exact h.x.at_.c1⟩) ?_
            refine E.H.take 12 (.pointer (some ⟨g9, 0, none⟩)) rfl (by kernel_rfl) (by kernel_rfl) (by kernel_rfl) (fun _ _ _ h => h) (fun w h => ⟨by rw [← hk1.2.1.m]; exact h.x.at_.c0, by rw [← hk1.2.1.m]; exact h.x.at_.c1⟩) (.inl ⟨by kernel_rfl, by kernel_rfl, fun w h => by kernel_rfl⟩) (by kernel_rfl) ?_
            refine E.H.done (by kernel_rfl) ?_
            refine E.To.code ?_
            refine E.C.weak [(2, .pointer (some ⟨g9, 0, none⟩))] [(g9, [.slice (some ⟨g6, 0, none⟩) i.2.sl.length c7, .bool i.2.coh]), (g6, (M.cells i.2.sl ++ r8))] ⟨by kernel_rfl, by kernel_rfl⟩ (List.Sublist.refl _) ?_
            refine E.C.ret (E.To.body (fn := Try.f29) [.pointer (some ⟨g9, 0, none⟩)] ?_ ?_)
            · exact ⟨⟨by kernel_rfl, by kernel_rfl⟩, trivial⟩
            · intro w h
              have nb : ∀ (g : Nat) (cs : List Value), (g, cs) ∈ ([(g9, [.slice (some ⟨g6, 0, none⟩) i.2.sl.length c7, .bool i.2.coh]), (g6, (M.cells i.2.sl ++ r8))] : List (Nat × List Value)) → w_0.heap.size ≤ g := fun g cs hm => Nat.le_of_not_lt fun hlt => by
                obtain ⟨hp, e1⟩ := h.own (g, cs) hm hlt
                obtain ⟨k, hk, e2⟩ := List.getElem_of_mem hm
                exact M.apart h (fun _ h => h) (k := k) (g := g) (cs := cs) (by rw [List.getElem?_eq_getElem hk, e2]) (M.all_b (by rw [hk1.2.1.n]; exact hp)) (hk1.2.2.2.2.2.trans e1.symm)
              have hc := M.cpy_ok (gm := g9) (gb := g6) (c := c7) (rest := r8) (some ⟨g6, 0, none⟩) (h) hk1.2.1 (by rw [← e]; exact hk1.2.2.2.1) hk1.2.2.1 (nb _ _ (List.mem_cons_self ..)) (fun _ => ⟨rfl, List.mem_cons_self .., nb _ _ (List.mem_cons_of_mem _ (List.mem_cons_self ..))⟩)
              exact ⟨g9, i.2, _, rfl, h.x, hc.1, h.ch.mono (fun x _ hx => .inl hx), hk1.2.1, hk1.2.2.1, hc.2⟩
end Go.Proofs.Ytdjjjikokfadiaa

/- Walks: New of mem, printed by wip/eng. No condition but what is named. -/
namespace Go.Proofs.Ytdjjjikokfadiaa
set_option linter.unusedVariables false
set_option linter.unusedSimpArgs false
open Go.RowKit
/-- The number of pages that is made. -/
def M.np (n : Int) : Nat := (if 4096 < (if 0 > n then 0 else n) then (4096 : Int) else (if 0 > n then 0 else n)).toNat
theorem M.np_le (n : Int) : M.np n ≤ 4096 := by unfold M.np; split <;> split <;> omega
theorem M.np_eq (n : Int) : (if 4096 < (if 0 > n then 0 else n) then (4096 : Int) else (if 0 > n then 0 else n)) = ((M.np n : Nat) : Int) := by unfold M.np; split <;> split <;> omega
def M.V.new (n : Nat) (coh : Bool) : M.V := ⟨n, coh, fun _ _ => 0, fun _ _ => 0, fun _ _ => 0, fun _ _ => 0, fun _ => 0⟩
/-- The cells of page states that are not yet set. -/
def M.z7 : List Value := [.pointer none, .pointer none, .bool false, .bool false, .pointer none, .pointer none, .int .i64 0]
def M.zs : Nat → List Value
  | 0 => []
  | n + 1 => M.z7 ++ M.zs n
theorem M.zs_len : ∀ n, (M.zs n).length = n * 7
  | 0 => rfl
  | n + 1 => by
    show (M.z7 ++ M.zs n).length = _
    rw [List.length_append, M.zs_len n]; show 7 + n * 7 = _; omega
theorem M.zs_at : ∀ (n i : Nat), i < n * 7 → (M.zs n)[i]? = M.z7[i % 7]?
  | 0, i, h => by omega
  | n + 1, i, h => by
    show (M.z7 ++ M.zs n)[i]? = _
    by_cases h7 : i < 7
    · rw [List.getElem?_append_left (by exact h7), Nat.mod_eq_of_lt h7]
    · have hl : M.z7.length = 7 := rfl
      rw [List.getElem?_append_right (by rw [hl]; omega), hl, M.zs_at n (i - 7) (by omega)]
      congr 1; omega
theorem M.made_zs (n : Nat) : madeCells M.z7.toArray (n * 7) = (M.zs n).toArray := by
  have key : ∀ r, r < 7 → some (M.z7.toArray[r]!) = M.z7[r]? := fun r hr => by
    match r, hr with
    | 0, _ => rfl
    | 1, _ => rfl
    | 2, _ => rfl
    | 3, _ => rfl
    | 4, _ => rfl
    | 5, _ => rfl
    | 6, _ => rfl
  refine Array.toList_inj.1 (List.ext_getElem? fun i => ?_)
  rw [List.toList_toArray]
  by_cases h : i < n * 7
  · rw [M.zs_at n i h, ← key _ (by omega)]
    simp only [madeCells, Array.toList_map, Array.toList_range, List.getElem?_map]
    rw [List.getElem?_range h]
    rfl
  · rw [List.getElem?_eq_none (l := M.zs n) (by rw [M.zs_len]; omega), List.getElem?_eq_none (by rw [Array.length_toList, size_madeCells]; omega)]
/-- The state of a new page. -/
def M.nw (g : Nat) (coh : Bool) : M.Slot := ⟨g, if coh then none else some g, false, false, g, if coh then none else some g, 0⟩
def M.nr (g k : Nat) (coh : Bool) : List M.Slot := List.replicate k (M.nw g coh)
theorem M.cells_app : ∀ (a b : List M.Slot), M.cells (a ++ b) = M.cells a ++ M.cells b
  | [], b => rfl
  | s :: a, b => by show s.cells ++ M.cells (a ++ b) = (s.cells ++ M.cells a) ++ M.cells b; rw [M.cells_app a b, List.append_assoc]
theorem M.nw_sto {l : List M.Slot} {a b : M.Slot} {rest : List Value} {f j : Nat} {v : Value} (hf : f < 7) (he : b.cells = a.cells.set f v) (hj : j = l.length * 7 + f) : (M.cells (l ++ [a]) ++ rest).set j v = M.cells (l ++ [b]) ++ rest := by
  subst hj
  have h1 : (l ++ [a]).getD l.length M.z = a := by simp
  have h2 := M.cells_set (l ++ [a]) l.length f v b (by simp) hf (by rw [h1]; exact he)
  rw [List.set_append_left _ _ (by rw [M.cells_len]; simp; omega), h2]
  congr 2; simp
theorem M.nw_lay {l : List M.Slot} {s : M.Slot} {n j : Nat} (hn : 0 < n) (hj : j = l.length * 7) : E.lay (M.cells l ++ M.zs n) j s.cells = M.cells (l ++ [s]) ++ M.zs (n - 1) := by
  subst hj
  obtain ⟨m, rfl⟩ : ∃ m, n = m + 1 := ⟨n - 1, by omega⟩
  have hl : l.length * 7 = (M.cells l).length := by rw [M.cells_len]; omega
  rw [hl, E.lay_at _ _ _ (by rw [M.zs_len]; show 7 ≤ _; omega), M.cells_app]
  show M.cells l ++ s.cells ++ (M.z7 ++ M.zs m).drop 7 = M.cells l ++ (s.cells ++ []) ++ M.zs (m + 1 - 1)
  rw [List.append_nil]
  congr 1
theorem M.nw_next (g k : Nat) (coh : Bool) : M.nr g k coh ++ [M.nw g coh] = M.nr g (k + 1) coh := by
  unfold M.nr; rw [← List.replicate_succ']
theorem E.sto' {P : Program} {t : TypeId} {cs : List Value} {j sz : Nat} {v : Value} {us : List Value} (hi : (P.info? t).map (·.size) = some sz) (hv : v.cells.toList = us) (hl : us.length = sz) (hb : us.all E.cellB = true) (hj : j + sz ≤ cs.length) : E.sto P t cs j v = some (E.lay cs j us) := by
  unfold E.sto
  cases hie : P.info? t with
  | none => rw [hie] at hi; cases hi
  | some i =>
    rw [hie] at hi
    simp only [Option.map_some, Option.some.injEq] at hi
    subst hi
    have h1 : Nat.beq v.cells.size i.size = true := by rw [← Array.length_toList, hv, hl]; exact Nat.beq_refl _
    have h2 : Nat.ble (j + i.size) cs.length = true := Nat.ble_eq_true_of_le hj
    simp only [hv, h1, h2, hb, Bool.and_self, cond_true]
theorem M.new_ok {w0 w : World} {gm gb gp N : Nat} {coh : Bool} {L : List (Nat × List Value)} (h : E.Hp (fun _ => False) w0 (fun _ => True) L w) (hN : N ≤ 4096)
    (h1 : (gm, [.slice (some ⟨gb, 0, none⟩) N N, .bool coh]) ∈ L) (h2 : (gb, M.cells (M.nr gp N coh) ++ M.zs (N - N)) ∈ L) (h3 : (gp, List.replicate 256 (.int .u8 0)) ∈ L) (d1 : gm ≠ gb) (d2 : gp ≠ gm) (d3 : gp ≠ gb) :
    ∃ o : M.Obj, o.m = gm ∧ M.St o w ∧ M.Sh o (M.V.new N coh) ∧ ∀ x, M.all o x → w0.heap.size ≤ x := by
  have new : ∀ {g cs}, (g, cs) ∈ L → w0.heap.size ≤ g := fun hm => Nat.le_of_not_lt fun hlt => h.own _ hm hlt
  let o : M.Obj := ⟨gm, gb, N, some ⟨gb, 0, none⟩, M.nr gp N coh, coh, fun _ _ => 0⟩
  have hlen : o.sl.length = N := by show (List.replicate N _).length = N; simp
  have hat : ∀ i, i < N → o.at i = M.nw gp coh := fun i hi => by
    show (List.replicate N _).getD i M.z = _
    simp [hi]
  have hpg : ∀ p, M.Pg o.sl p → p = gp := fun p ⟨i, hi, hp⟩ => by
    rw [hlen] at hi
    have hp : p = (o.at i).d ∨ (o.at i).c = some p ∨ p = (o.at i).cd ∨ (o.at i).cc = some p := hp
    rw [hat i hi] at hp
    unfold M.nw at hp
    rcases hp with hp | hp | hp | hp
    · exact hp
    · cases coh <;> simp at hp; exact hp.symm
    · exact hp
    · cases coh <;> simp at hp; exact hp.symm
  have hw0 : ∀ x, M.all o x → w0.heap.size ≤ x := fun x hx => by
    rcases hx with rfl | ⟨_, rfl⟩ | hx
    · exact new h1
    · exact new h2
    · rw [hpg x hx]; exact new h3
  refine ⟨o, rfl, ⟨⟨?_, h.mem _ h1 1 _ rfl, fun _ => rfl, fun i v hv => ?_, fun p hp i hi => ?_, by rw [hlen]; exact hN⟩, ⟨fun _ => d1, fun p hp => by rw [hpg p hp]; exact ⟨d2, d3⟩, fun i j hi hj ho => ?_, fun i j p hi hj ho => ?_, fun i hi => ?_, fun p hp i hi => ⟨Int.le_refl _, by show (0 : Int) < 256; decide⟩, fun i hi => ?_⟩, fun x hx i => ?_⟩, ⟨hlen, rfl, fun _ _ _ _ => rfl, fun _ _ _ _ => rfl, fun _ _ _ _ => rfl, fun _ _ _ _ => rfl, fun j hj => ?_⟩, hw0⟩
  · rw [hlen]; exact h.mem _ h1 0 _ rfl
  · have hlt := (List.getElem?_eq_some_iff.1 hv).1
    exact h.mem _ h2 i v (by rw [List.getElem?_append_left hlt]; exact hv)
  · rw [hpg p hp]; exact h.mem _ h3 i _ (by rw [List.getElem?_replicate, if_pos hi])
  · rw [hlen] at hi; rw [hat i hi] at ho; cases ho
  · rw [hlen] at hi; rw [hat i hi] at ho; cases ho
  · rw [hlen] at hi; rw [hat i hi]; show (if coh then none else some gp).isNone = coh ∧ (if coh then none else some gp).isNone = coh; cases coh <;> exact ⟨rfl, rfl⟩
  · rw [hlen] at hi; rw [hat i hi]; exact ⟨Int.le_refl _, by show (0 : Int) < 8; decide⟩
  · rcases hx with rfl | ⟨_, rfl⟩ | hx
    · exact h.fz _ h1 i
    · exact h.fz _ h2 i
    · rw [hpg x hx]; exact h.fz _ h3 i
  · rw [hat j hj]; rfl
theorem M.run_mk {fr : E.Fr} {d : Option Nat} {T : TypeId} {pos : String} {af : Array Edge} {gd : Option (Nat × Bool)} {x y : Operand} {n : Int} (hx : E.ev fr x = .int .i64 ((M.np n : Nat) : Int)) (hy : E.ev fr y = .int .i64 ((M.np n : Nat) : Int)) (w : World) :
    (execOp (E.ev fr) ⟨d, .makeSlice 64 x y, T, pos, af, gd⟩).run Try.prog w = .ok (.value (.slice (some ⟨w.heap.size, 0, none⟩) (M.np n) (M.np n))) (w.alloc (.cells (M.zs (M.np n)).toArray 74)) := by
  show (do let r ← Instr.makeSlice 64 (E.ev fr x) (E.ev fr y); pure (Next.value r) : Sem Next).run Try.prog w = _
  rw [hx, hy]
  have hle := M.np_le n
  have hi : (Try.prog.info? 74).map (fun i => (i.size, i.bytes, i.zero.map (·.cells))) = some (7, 48, some M.z7.toArray) := by kernel_rfl
  cases hie : Try.prog.info? 74 with
  | none => rw [hie] at hi; cases hi
  | some i =>
    rw [hie] at hi
    simp only [Option.map_some, Option.some.injEq, Prod.mk.injEq] at hi
    obtain ⟨h1, h2, h3⟩ := hi
    cases hz : i.zero with
    | none => rw [hz] at h3; cases h3
    | some z =>
      rw [hz] at h3
      simp only [Option.map_some, Option.some.injEq] at h3
      have hu : Try.prog.underlying 64 = some (.slice 74) := Try.underlying64
      have := run_make (P := Try.prog) w 64 74 i z hu hie hz .i64 .i64 ((M.np n : Nat) : Int) ((M.np n : Nat) : Int) (by omega) (Int.le_refl _) (by rw [h2]; omega) (by omega)
      simp only [Int.toNat_natCast, h1, h3, M.made_zs] at this
      simp only [Sem.run_bind, this, Result.andThen_ok]; rfl
theorem New_any (n : Int) (coh : Bool) (w : World) : Calls Try.prog 15 #[.int .i64 n, .bool coh] w fun e w' => ∃ o, e = .returned (.pointer (some ⟨o.m, 0, none⟩)) ∧ M.St o w' ∧ M.Sh o (M.V.new (M.np n) coh) ∧ Bel w w' ∧ ∀ x, M.all o x → w.heap.size ≤ x := by
  refine E.enter (n := 54) (S := fun _ => False) Try.func15 rfl rfl (by kernel_rfl) (E.Hp.start w) ?_
  refine E.C.seq ?_
  refine E.C.region ?_
  refine E.G.op (.pointer none) (fun w => by kernel_rfl) (by kernel_rfl) ?_
  refine E.To.code ?_
  refine E.C.seq ?_
  refine E.C.region ?_
  refine E.G.op (.int .i64 n) (fun w => by kernel_rfl) (by kernel_rfl) ?_
  refine E.G.op (.int .i64 (if 0 > n then 0 else n)) (fun w => by kernel_rfl) (by kernel_rfl) ?_
  refine E.G.val (.int .i64 ((M.np n : Nat) : Int)) (by kernel_rfl) (fun w h => E.run_as (a := .int .i64 (if 4096 < (if 0 > n then 0 else n) then 4096 else (if 0 > n then 0 else n))) (by kernel_rfl) (congrArg (Value.int .i64) (M.np_eq n))) ?_
  refine E.G.new (fun g => .slice (some ⟨g, 0, none⟩) (M.np n) (M.np n)) (M.zs (M.np n)) 74 (fun w => M.run_mk (by kernel_rfl) (by kernel_rfl) w) (by kernel_rfl) (fun g1 => ?_)
  refine E.G.op (.bool coh) (fun w => by kernel_rfl) (by kernel_rfl) ?_
  refine E.G.val (.agg #[.slice (some ⟨g1, 0, none⟩) (M.np n) (M.np n), .bool coh]) (by kernel_rfl) (fun w h => E.run_build #[.slice (some ⟨g1, 0, none⟩) (M.np n) (M.np n), .bool coh] (by kernel_rfl) w) ?_
  refine E.G.new (fun g => .pointer (some ⟨g, 0, none⟩)) [.slice (some ⟨g1, 0, none⟩) (M.np n) (M.np n), .bool coh] 66 (fun w => by kernel_rfl) (by kernel_rfl) (fun g2 => ?_)
  refine E.G.op (.pointer (some ⟨g2, 0, none⟩)) (fun w => by kernel_rfl) (by kernel_rfl) ?_
  refine E.To.code ?_
  refine E.C.weak [(1, .bool coh), (4, .pointer none), (5, .pointer (some ⟨g2, 0, none⟩))] [(g2, [.slice (some ⟨g1, 0, none⟩) (M.np n) (M.np n), .bool coh]), (g1, (M.zs (M.np n)))] ⟨by kernel_rfl, by kernel_rfl⟩ (List.Sublist.refl _) ?_
  refine E.C.seq ?_
  refine E.C.region ?_
  refine E.G.op (.agg (List.replicate 256 (.int .u8 0)).toArray) (fun w => by kernel_rfl) (by kernel_rfl) ?_
  refine E.G.new (fun g => .pointer (some ⟨g, 0, none⟩)) (List.replicate 256 (.int .u8 0)) 72 (fun w => by kernel_rfl) (by kernel_rfl) (fun g3 => ?_)
  refine E.G.op (.pointer (some ⟨g3, 0, none⟩)) (fun w => by kernel_rfl) (by kernel_rfl) ?_
  refine E.To.code ?_
  refine E.C.seq ?_
  refine E.C.seq ?_
  refine E.C.region ?_
  refine E.G.op (.pointer (some ⟨g2, 0, none⟩)) (fun w => by kernel_rfl) (by kernel_rfl) ?_
  refine E.G.op (.pointer (some ⟨g2, 0, none⟩)) (fun w => by kernel_rfl) (by kernel_rfl) ?_
  refine E.G.op (.pointer (some ⟨g2, 0, none⟩)) (fun w => by kernel_rfl) (by kernel_rfl) ?_
  refine E.G.val (.slice (some ⟨g1, 0, none⟩) (M.np n) (M.np n)) (by kernel_rfl) (fun w h => E.run_load h 1 rfl rfl (by kernel_rfl)) ?_
  refine E.G.op (.int .i64 (((M.np n) : Nat) : Int)) (fun w => by kernel_rfl) (by kernel_rfl) ?_
  refine E.G.op (.int .i64 0) (fun w => by kernel_rfl) (by kernel_rfl) ?_
  refine E.To.code ?_
  refine E.C.block ?_
  refine E.C.relist [(g3, (List.replicate 256 (.int .u8 0))), (g2, [.slice (some ⟨g1, 0, none⟩) (M.np n) (M.np n), .bool coh]), (g1, (M.cells (M.nr g3 0 coh) ++ M.zs (M.np n - 0)))] rfl ?_
  refine E.C.loop (I := Nat) (fun k => M.np n - k) (fun k => k ≤ M.np n) (fun k => [(1, .bool coh), (4, .pointer none), (5, .pointer (some ⟨g2, 0, none⟩)), (6, .pointer (some ⟨g3, 0, none⟩)), (21, .int .i64 (((M.np n) : Nat) : Int)), (22, .int .i64 ((k : Nat) : Int))]) (fun k => fun _ => True) (fun k => [(g3, (List.replicate 256 (.int .u8 0))), (g2, [.slice (some ⟨g1, 0, none⟩) (M.np n) (M.np n), .bool coh]), (g1, (M.cells (M.nr g3 k coh) ++ M.zs (M.np n - k)))]) 0 (Nat.zero_le _) ⟨by kernel_rfl, by kernel_rfl⟩ (List.Sublist.refl _) (fun _ h => h) (fun k hk1 => ?_)
  refine E.C.seq ?_
  refine E.C.region ?_
  refine E.G.op (.bool (decide (((k : Nat) : Int) < (((M.np n) : Nat) : Int)))) (fun w => by kernel_rfl) (by kernel_rfl) ?_
  refine E.To.code ?_
  refine E.C.seq ?_
  refine E.C.cond (decide (((k : Nat) : Int) < (((M.np n) : Nat) : Int))) (by kernel_rfl) (by kernel_rfl) (fun hc4 => ?_) (fun hc4 => ?_)
  · skip
    refine E.C.skip (E.To.code ?_)
    refine E.C.seq ?_
    refine E.C.block ?_
    refine E.C.seq ?_
    refine E.C.region ?_
    refine E.G.op (.int .i64 ((k : Nat) : Int)) (fun w => by kernel_rfl) (by kernel_rfl) ?_
    refine E.G.op (.int .i64 ((k : Nat) : Int)) (fun w => by kernel_rfl) (by kernel_rfl) ?_
    refine E.To.code ?_
    refine E.C.seq ?_
    have hl : k < M.np n := by (first | assumption | ((try simp only [Bool.or_eq_false_iff, Bool.or_eq_true, Bool.and_eq_true, Bool.and_eq_false_iff, decide_eq_true_eq, decide_eq_false_iff_not, ge_iff_le, gt_iff_lt] at *); omega))
    refine E.C.region ?_
    refine E.G.op (.pointer (some ⟨g2, 0, none⟩)) (fun w => by kernel_rfl) (by kernel_rfl) ?_
    refine E.G.op (.pointer (some ⟨g2, 0, none⟩)) (fun w => by kernel_rfl) (by kernel_rfl) ?_
    refine E.G.op (.pointer (some ⟨g2, 0, none⟩)) (fun w => by kernel_rfl) (by kernel_rfl) ?_
    refine E.G.val (.slice (some ⟨g1, 0, none⟩) (M.np n) (M.np n)) (by kernel_rfl) (fun w h => E.run_load h 1 rfl rfl (by kernel_rfl)) ?_
    refine E.G.op (.int .i64 ((k : Nat) : Int)) (fun w => by kernel_rfl) (by kernel_rfl) ?_
    refine E.G.op (.pointer (some ⟨g3, 0, none⟩)) (fun w => by kernel_rfl) (by kernel_rfl) ?_
    refine E.G.op (.pointer (some ⟨g3, 0, none⟩)) (fun w => by kernel_rfl) (by kernel_rfl) ?_
    refine E.G.val (.agg #[.pointer (some ⟨g3, 0, none⟩), .pointer none, .bool false, .bool false, .pointer (some ⟨g3, 0, none⟩), .pointer none, .int .i64 0]) (by kernel_rfl) (fun w h => E.run_build #[.pointer (some ⟨g3, 0, none⟩), .pointer none, .bool false, .bool false, .pointer (some ⟨g3, 0, none⟩), .pointer none, .int .i64 0] (by kernel_rfl) w) ?_
    refine E.G.val (.pointer (some ⟨g1, k * 7, none⟩)) (by kernel_rfl) (fun w h => M.idxO (e := 74) (i := k) (k := .i64) (ao := some ⟨g1, 0, none⟩) (b := g1) (len := M.np n) (cap := M.np n) (esz := 7) (by kernel_rfl) (by kernel_rfl) (by kernel_rfl) (by kernel_rfl) hl (fun _ => rfl) w) ?_
    refine E.G.store 2 _ rfl rfl (E.sto' (us := M.Slot.cells ⟨g3, none, false, false, g3, none, 0⟩) (by kernel_rfl) rfl rfl rfl (by rw [List.length_append, M.cells_len, M.zs_len]; show k * 7 + 7 ≤ 7 * (List.replicate k _).length + (M.np n - k) * 7; rw [List.length_replicate]; omega)) (by kernel_rfl) ?_
    refine E.G.relist [(g3, (List.replicate 256 (.int .u8 0))), (g2, [.slice (some ⟨g1, 0, none⟩) (M.np n) (M.np n), .bool coh]), (g1, (M.cells (M.nr g3 k coh ++ [⟨g3, none, false, false, g3, none, 0⟩]) ++ M.zs (M.np n - k - 1)))] (by rw [M.nw_lay (by omega) (by show k * 7 = (List.replicate k _).length * 7; rw [List.length_replicate])]; rfl) ?_
    refine E.To.code ?_
    refine E.C.seq ?_
    refine E.C.region ?_
    refine E.G.op (.bool coh) (fun w => by kernel_rfl) (by kernel_rfl) ?_
    refine E.G.op (.bool (!coh)) (fun w => by kernel_rfl) (by kernel_rfl) ?_
    refine E.To.code ?_
    refine E.C.cond (!coh) (by kernel_rfl) (by kernel_rfl) (fun hc5 => ?_) (fun hc5 => ?_)
    · skip
      refine E.C.held (E.Hp (fun _ => False) w (fun _ => True) [(g3, (List.replicate 256 (.int .u8 0))), (g2, [.slice (some ⟨g1, 0, none⟩) (M.np n) (M.np n), .bool coh])]) (by kernel_rfl) ?_
      refine E.H.take 0 (.pointer (some ⟨g2, 0, none⟩)) rfl (by kernel_rfl) (by kernel_rfl) (by kernel_rfl) (fun _ _ _ h => h) (fun w h => h.less (List.Sublist.cons_cons _ (List.Sublist.cons_cons _ (List.nil_sublist _)))) (.inl ⟨by kernel_rfl, by kernel_rfl, fun w h => by kernel_rfl⟩) (by kernel_rfl) ?_
      refine E.H.take 1 (.pointer (some ⟨g2, 0, none⟩)) rfl (by kernel_rfl) (by kernel_rfl) (by kernel_rfl) (fun _ _ _ h => h) (fun w h => h.less (List.Sublist.cons_cons _ (List.Sublist.cons_cons _ (List.nil_sublist _)))) (.inl ⟨by kernel_rfl, by kernel_rfl, fun w h => by kernel_rfl⟩) (by kernel_rfl) ?_
      refine E.H.take 2 (.pointer (some ⟨g2, 0, none⟩)) rfl (by kernel_rfl) (by kernel_rfl) (by kernel_rfl) (fun _ _ _ h => h) (fun w h => h.less (List.Sublist.cons_cons _ (List.Sublist.cons_cons _ (List.nil_sublist _)))) (.inl ⟨by kernel_rfl, by kernel_rfl, fun w h => by kernel_rfl⟩) (by kernel_rfl) ?_
      refine E.H.take 3 (.slice (some ⟨g1, 0, none⟩) (M.np n) (M.np n)) rfl (by kernel_rfl) (by kernel_rfl) (by kernel_rfl) (fun _ _ _ h => h) (fun w h => h.less (List.Sublist.cons_cons _ (List.Sublist.cons_cons _ (List.nil_sublist _)))) (.inl ⟨by kernel_rfl, by kernel_rfl, fun w h => E.run_load h 1 rfl rfl (by kernel_rfl)⟩) (by kernel_rfl) ?_
      refine E.H.take 4 (.int .i64 ((k : Nat) : Int)) rfl (by kernel_rfl) (by kernel_rfl) (by kernel_rfl) (fun _ _ _ h => h) (fun w h => h.less (List.Sublist.cons_cons _ (List.Sublist.cons_cons _ (List.nil_sublist _)))) (.inl ⟨by kernel_rfl, by kernel_rfl, fun w h => by kernel_rfl⟩) (by kernel_rfl) ?_
      refine E.H.take 5 (.pointer (some ⟨g2, 0, none⟩)) rfl (by kernel_rfl) (by kernel_rfl) (by kernel_rfl) (fun _ _ _ h => h) (fun w h => h.less (List.Sublist.cons_cons _ (List.Sublist.cons_cons _ (List.nil_sublist _)))) (.inl ⟨by kernel_rfl, by kernel_rfl, fun w h => by kernel_rfl⟩) (by kernel_rfl) ?_
      refine E.H.take 6 (.pointer (some ⟨g2, 0, none⟩)) rfl (by kernel_rfl) (by kernel_rfl) (by kernel_rfl) (fun _ _ _ h => h) (fun w h => h.less (List.Sublist.cons_cons _ (List.Sublist.cons_cons _ (List.nil_sublist _)))) (.inl ⟨by kernel_rfl, by kernel_rfl, fun w h => by kernel_rfl⟩) (by kernel_rfl) ?_
      refine E.H.take 7 (.pointer (some ⟨g2, 0, none⟩)) rfl (by kernel_rfl) (by kernel_rfl) (by kernel_rfl) (fun _ _ _ h => h) (fun w h => h.less (List.Sublist.cons_cons _ (List.Sublist.cons_cons _ (List.nil_sublist _)))) (.inl ⟨by kernel_rfl, by kernel_rfl, fun w h => by kernel_rfl⟩) (by kernel_rfl) ?_
      refine E.H.take 8 (.slice (some ⟨g1, 0, none⟩) (M.np n) (M.np n)) rfl (by kernel_rfl) (by kernel_rfl) (by kernel_rfl) (fun _ _ _ h => h) (fun w h => h.less (List.Sublist.cons_cons _ (List.Sublist.cons_cons _ (List.nil_sublist _)))) (.inl ⟨by kernel_rfl, by kernel_rfl, fun w h => E.run_load h 1 rfl rfl (by kernel_rfl)⟩) (by kernel_rfl) ?_
      refine E.H.take 9 (.int .i64 ((k : Nat) : Int)) rfl (by kernel_rfl) (by kernel_rfl) (by kernel_rfl) (fun _ _ _ h => h) (fun w h => h.less (List.Sublist.cons_cons _ (List.Sublist.cons_cons _ (List.nil_sublist _)))) (.inl ⟨by kernel_rfl, by kernel_rfl, fun w h => by kernel_rfl⟩) (by kernel_rfl) ?_
      refine E.H.take 10 (.pointer (some ⟨g3, 0, none⟩)) rfl (by kernel_rfl) (by kernel_rfl) (by kernel_rfl) (fun _ _ _ h => h) (fun w h => h.less (List.Sublist.cons_cons _ (List.Sublist.cons_cons _ (List.nil_sublist _)))) (.inl ⟨by kernel_rfl, by kernel_rfl, fun w h => by kernel_rfl⟩) (by kernel_rfl) ?_
      refine E.H.take 11 (.pointer (some ⟨g3, 0, none⟩)) rfl (by kernel_rfl) (by kernel_rfl) (by kernel_rfl) (fun _ _ _ h => h) (fun w h => h.less (List.Sublist.cons_cons _ (List.Sublist.cons_cons _ (List.nil_sublist _)))) (.inl ⟨by kernel_rfl, by kernel_rfl, fun w h => by kernel_rfl⟩) (by kernel_rfl) ?_
      refine E.H.take 12 (.pointer (some ⟨g1, k * 7, none⟩)) rfl (by kernel_rfl) (by kernel_rfl) (by kernel_rfl) (fun _ _ _ h => h) (fun w h => h.less (List.Sublist.cons_cons _ (List.Sublist.cons_cons _ (List.nil_sublist _)))) (.inl ⟨by kernel_rfl, by kernel_rfl, fun w h => M.idxO (e := 74) (i := k) (k := .i64) (ao := some ⟨g1, 0, none⟩) (b := g1) (len := M.np n) (cap := M.np n) (esz := 7) (by kernel_rfl) (by kernel_rfl) (by kernel_rfl) (by kernel_rfl) hl (fun _ => rfl) w⟩) (by kernel_rfl) ?_
      refine E.H.take 13 (.pointer (some ⟨g1, (k * 7) + 1, none⟩)) rfl (by kernel_rfl) (by kernel_rfl) (by kernel_rfl) (fun _ _ _ h => h) (fun w h => h.less (List.Sublist.cons_cons _ (List.Sublist.cons_cons _ (List.nil_sublist _)))) (.inl ⟨by kernel_rfl, by kernel_rfl, fun w h => by kernel_rfl⟩) (by kernel_rfl) ?_
      refine E.H.all [14] (by kernel_rfl) (by simp) (List.forall_mem_cons.2 ⟨⟨_, rfl, ?_⟩, fun _ h => (List.not_mem_nil h).elim⟩)
      · skip
        refine E.G.store 2 _ rfl rfl (E.sto' (us := [.pointer (some ⟨g3, 0, none⟩)]) (by kernel_rfl) rfl rfl rfl (by rw [List.length_append, M.cells_len, M.zs_len]; show k * 7 + 1 + 1 ≤ 7 * (List.replicate k _ ++ [_]).length + _; rw [List.length_append, List.length_replicate]; simp only [List.length_cons, List.length_nil]; omega)) (by kernel_rfl) ?_
        refine E.G.relist [(g3, (List.replicate 256 (.int .u8 0))), (g2, [.slice (some ⟨g1, 0, none⟩) (M.np n) (M.np n), .bool coh]), (g1, (M.cells (M.nr g3 k coh ++ [⟨g3, some g3, false, false, g3, none, 0⟩]) ++ M.zs (M.np n - k - 1)))] (by rw [show ∀ cs j v, E.lay cs j [v] = cs.set j v from fun _ _ _ => rfl, M.nw_sto (l := M.nr g3 k coh) (a := ⟨g3, none, false, false, g3, none, 0⟩) (b := ⟨g3, some g3, false, false, g3, none, 0⟩) (v := .pointer (some ⟨g3, 0, none⟩)) (f := 1) (by decide) rfl (by show k * 7 + 1 = (List.replicate k _).length * 7 + 1; rw [List.length_replicate])]; rfl) ?_
        refine E.H.back (fun w h => h.less (List.Sublist.cons_cons _ (List.Sublist.cons_cons _ (List.nil_sublist _)))) ?_
        refine E.H.take 15 (.pointer (some ⟨g1, k * 7, none⟩)) rfl (by kernel_rfl) (by kernel_rfl) (by kernel_rfl) (fun _ _ _ h => h) (fun w h => h.less (List.Sublist.cons_cons _ (List.Sublist.cons_cons _ (List.nil_sublist _)))) (.inl ⟨by kernel_rfl, by kernel_rfl, fun w h => M.idxO (e := 74) (i := k) (k := .i64) (ao := some ⟨g1, 0, none⟩) (b := g1) (len := M.np n) (cap := M.np n) (esz := 7) (by kernel_rfl) (by kernel_rfl) (by kernel_rfl) (by kernel_rfl) hl (fun _ => rfl) w⟩) (by kernel_rfl) ?_
        refine E.H.take 16 (.pointer (some ⟨g1, (k * 7) + 5, none⟩)) rfl (by kernel_rfl) (by kernel_rfl) (by kernel_rfl) (fun _ _ _ h => h) (fun w h => h.less (List.Sublist.cons_cons _ (List.Sublist.cons_cons _ (List.nil_sublist _)))) (.inl ⟨by kernel_rfl, by kernel_rfl, fun w h => by kernel_rfl⟩) (by kernel_rfl) ?_
        refine E.H.all [17] (by kernel_rfl) (by simp) (List.forall_mem_cons.2 ⟨⟨_, rfl, ?_⟩, fun _ h => (List.not_mem_nil h).elim⟩)
        · skip
          refine E.G.store 2 _ rfl rfl (E.sto' (us := [.pointer (some ⟨g3, 0, none⟩)]) (by kernel_rfl) rfl rfl rfl (by rw [List.length_append, M.cells_len, M.zs_len]; show k * 7 + 5 + 1 ≤ 7 * (List.replicate k _ ++ [_]).length + _; rw [List.length_append, List.length_replicate]; simp only [List.length_cons, List.length_nil]; omega)) (by kernel_rfl) ?_
          refine E.G.relist [(g3, (List.replicate 256 (.int .u8 0))), (g2, [.slice (some ⟨g1, 0, none⟩) (M.np n) (M.np n), .bool coh]), (g1, (M.cells (M.nr g3 k coh ++ [⟨g3, some g3, false, false, g3, some g3, 0⟩]) ++ M.zs (M.np n - k - 1)))] (by rw [show ∀ cs j v, E.lay cs j [v] = cs.set j v from fun _ _ _ => rfl, M.nw_sto (l := M.nr g3 k coh) (a := ⟨g3, some g3, false, false, g3, none, 0⟩) (b := ⟨g3, some g3, false, false, g3, some g3, 0⟩) (v := .pointer (some ⟨g3, 0, none⟩)) (f := 5) (by decide) rfl (by show k * 7 + 5 = (List.replicate k _).length * 7 + 5; rw [List.length_replicate])]; rfl) ?_
          refine E.H.back (fun w h => h.less (List.Sublist.cons_cons _ (List.Sublist.cons_cons _ (List.nil_sublist _)))) ?_
          refine E.H.done (by kernel_rfl) ?_
          refine E.P.nb (E.To.code ?_)
          refine E.C.relist [(g3, (List.replicate 256 (.int .u8 0))), (g2, [.slice (some ⟨g1, 0, none⟩) (M.np n) (M.np n), .bool coh]), (g1, (M.cells (M.nr g3 (k + 1) coh) ++ M.zs (M.np n - (k + 1))))] (by rw [← M.nw_next, Nat.sub_sub]; rw [show coh = false from by simpa using hc5]; rfl) ?_
          refine E.C.region ?_
          refine E.G.val (.int .i64 ((k + 1 : Nat) : Int)) (by kernel_rfl) (fun w h => E.run_as (a := .int .i64 (IntKind.wrap .i64 (((k : Nat) : Int) + 1))) (by kernel_rfl) (congrArg (Value.int .i64) (M.inc64 (by have := M.np_le n; (first | assumption | ((try simp only [Bool.or_eq_false_iff, Bool.or_eq_true, Bool.and_eq_true, Bool.and_eq_false_iff, decide_eq_true_eq, decide_eq_false_iff_not, ge_iff_le, gt_iff_lt] at *); omega)))))) ?_
          refine E.G.op (.int .i64 ((k + 1 : Nat) : Int)) (fun w => by kernel_rfl) (by kernel_rfl) ?_
          exact E.To.round (k + 1) (by show M.np n - (k + 1) < M.np n - k; (first | assumption | ((try simp only [Bool.or_eq_false_iff, Bool.or_eq_true, Bool.and_eq_true, Bool.and_eq_false_iff, decide_eq_true_eq, decide_eq_false_iff_not, ge_iff_le, gt_iff_lt] at *); omega))) (by show k + 1 ≤ M.np n; (first | assumption | ((try simp only [Bool.or_eq_false_iff, Bool.or_eq_true, Bool.and_eq_true, Bool.and_eq_false_iff, decide_eq_true_eq, decide_eq_false_iff_not, ge_iff_le, gt_iff_lt] at *); omega))) ⟨by kernel_rfl, by kernel_rfl⟩ (List.Sublist.refl _) (fun _ h => h)
    · skip
      refine E.C.skip (E.P.nb (E.To.code ?_))
      refine E.C.relist [(g3, (List.replicate 256 (.int .u8 0))), (g2, [.slice (some ⟨g1, 0, none⟩) (M.np n) (M.np n), .bool coh]), (g1, (M.cells (M.nr g3 (k + 1) coh) ++ M.zs (M.np n - (k + 1))))] (by rw [← M.nw_next, Nat.sub_sub]; rw [show coh = true from by simpa using hc5]; rfl) ?_
      refine E.C.region ?_
      refine E.G.val (.int .i64 ((k + 1 : Nat) : Int)) (by kernel_rfl) (fun w h => E.run_as (a := .int .i64 (IntKind.wrap .i64 (((k : Nat) : Int) + 1))) (by kernel_rfl) (congrArg (Value.int .i64) (M.inc64 (by have := M.np_le n; (first | assumption | ((try simp only [Bool.or_eq_false_iff, Bool.or_eq_true, Bool.and_eq_true, Bool.and_eq_false_iff, decide_eq_true_eq, decide_eq_false_iff_not, ge_iff_le, gt_iff_lt] at *); omega)))))) ?_
      refine E.G.op (.int .i64 ((k + 1 : Nat) : Int)) (fun w => by kernel_rfl) (by kernel_rfl) ?_
      exact E.To.round (k + 1) (by show M.np n - (k + 1) < M.np n - k; (first | assumption | ((try simp only [Bool.or_eq_false_iff, Bool.or_eq_true, Bool.and_eq_true, Bool.and_eq_false_iff, decide_eq_true_eq, decide_eq_false_iff_not, ge_iff_le, gt_iff_lt] at *); omega))) (by show k + 1 ≤ M.np n; (first | assumption | ((try simp only [Bool.or_eq_false_iff, Bool.or_eq_true, Bool.and_eq_true, Bool.and_eq_false_iff, decide_eq_true_eq, decide_eq_false_iff_not, ge_iff_le, gt_iff_lt] at *); omega))) ⟨by kernel_rfl, by kernel_rfl⟩ (List.Sublist.refl _) (fun _ h => h)
  · skip
    refine E.C.exit (E.P.et (E.P.et (E.P.eh (E.To.code ?_))))
    refine E.C.seq ?_
    refine E.C.region ?_
    refine E.G.op (.pointer (some ⟨g2, 0, none⟩)) (fun w => by kernel_rfl) (by kernel_rfl) ?_
    refine E.G.op (.pointer (some ⟨g2, 0, none⟩)) (fun w => by kernel_rfl) (by kernel_rfl) ?_
    refine E.To.code ?_
    refine E.C.ret (E.To.body (fn := Try.f15) [.pointer (some ⟨g2, 0, none⟩)] ?_ ?_)
    · exact ⟨⟨by kernel_rfl, by kernel_rfl⟩, trivial⟩
    · intro w h
      have e : k = M.np n := by (first | assumption | ((try simp only [Bool.or_eq_false_iff, Bool.or_eq_true, Bool.and_eq_true, Bool.and_eq_false_iff, decide_eq_true_eq, decide_eq_false_iff_not, ge_iff_le, gt_iff_lt] at *); omega))
      subst e
      have hn := h.nodup
      simp only [List.map_cons, List.map_nil, List.nodup_cons, List.mem_cons, List.not_mem_nil, or_false, not_or] at hn
      obtain ⟨o, hm, ho⟩ := M.new_ok (gm := g2) (gb := g1) (gp := g3) (coh := coh) h (M.np_le n) (List.mem_cons_of_mem _ (List.mem_cons_self ..)) (List.mem_cons_of_mem _ (List.mem_cons_of_mem _ (List.mem_cons_self ..))) (List.mem_cons_self ..) (by omega) (by omega) (by omega)
      exact ⟨o, by rw [hm]; rfl, ho.1, ho.2.1, h.ch.bel (fun _ h => h.elim), ho.2.2⟩
end Go.Proofs.Ytdjjjikokfadiaa

/- Items: operations on slices of integers that are items. No condition. -/
namespace Go.Proofs.Ytdjjjikokfadiaa
set_option linter.unusedVariables false
set_option linter.unusedSimpArgs false
open Go.RowKit
section
variable {P : Program} {n : Nat} {ops : Array Oper} {Q : Exit → Act → World → Prop} {S : Nat → Prop} {w0 : World} {X : World → Prop} {L : List (Nat × List Value)} {l : List Oper} {o : Oper} {fr : E.Fr}
/-- A store of one cell, with any account of the worlds before and behind. -/
theorem A.G.sto1 {t T : TypeId} {x y : Operand} {pos : String} {af : Array Edge} {gd : Option (Nat × Bool)} {g j : Nat} (v : Value) (X' : World → Prop) (L' : List (Nat × List Value)) (hx : E.ev fr x = .pointer (some ⟨g, j, none⟩)) (hy : E.ev fr y = v) (hv : v.cells.toList = [v]) (hb : E.cellB v = true)
    (ht : (P.info? t).map (·.size) = some 1) (hr : ∀ w, E.Hp S w0 X L w → w.frozen? ⟨g, j, none⟩ = false ∧ (∃ u, w.cell? ⟨g, j, none⟩ = some u) ∧ E.Hp S w0 X' L' (w.setCell ⟨g, j, none⟩ v))
    (hck : E.ck n ops fr ⟨none, .store t x y, T, pos, af, gd⟩ = true) (k : E.G P n ops Q l fr S w0 X' L') : E.G P n ops Q (⟨none, .store t x y, T, pos, af, gd⟩ :: l) fr S w0 X L := by
  intro a w hs hh
  refine E.step (hs.want (E.ck_w hck)) ?_
  unfold Oper.wp
  rw [hs.exec (E.ck_k hck)]
  obtain ⟨hf, ⟨u, hc⟩, hh'⟩ := hr w hh
  have hst : (store ⟨g, j, none⟩ v).run P w = .ok () (w.setCell ⟨g, j, none⟩ v) := by
    simp only [store]
    cases v <;> first
      | (simp only [Sem.run, hc, hf]; rfl)
      | exact absurd hb (by simp [E.cellB])
  have hs1 : (sizeOf t).run P w = .ok 1 w := by
    cases hi : P.info? t with
    | none => rw [hi] at ht; cases ht
    | some i => rw [hi] at ht; simp [sizeOf, typeInfo, hi]; simpa using ht
  have hsz : v.cells.size = 1 := by
    have := congrArg List.length hv
    simpa using this
  have hrun : (Instr.storeAt t (.pointer (some ⟨g, j, none⟩)) v).run P w = .ok () (w.setCell ⟨g, j, none⟩ v) := by
    simp [Instr.storeAt, Instr.sureAddr, storeVar, hs1, hsz, hv, storeCells, Addr.add, hst]
  have : (execOp (E.ev fr) ⟨none, .store t x y, T, pos, af, gd⟩).run P w = .ok .skip (w.setCell ⟨g, j, none⟩ v) := by
    show (do Instr.storeAt t (E.ev fr x) (E.ev fr y); pure Next.skip).run P w = _
    rw [hx, hy]; simp [hrun]
  rw [this]
  exact k _ _ hs hh'
end
section
variable {P : Program} {n : Nat} {ops : Array Oper} {Q : Exit → Act → World → Prop} {w0 : World} {o0 a0 : Nat → Prop} {its : List A.It} {L : List (Nat × List Value)} {l : List Oper} {fr : E.Fr} {d : Option Nat} {T : TypeId} {pos : String} {af : Array Edge} {gd : Option (Nat × Bool)}
theorem A.vec_upd {k : IntKind} {ao : Option Addr} {cap : Nat} {l : List Int} {w : World} {o a : Nat → Prop} (h : (A.vec k ao cap l).t w o a) {i : Nat} (hi : i < l.length) (v : Int) :
    Ch o w (w.setCell ⟨A.bk ao, i, none⟩ (.int k v)) ∧ ∃ o' a', (A.vec k ao cap (l.set i v)).t (w.setCell ⟨A.bk ao, i, none⟩ (.int k v)) o' a' ∧ A.Gr w o a o' a' := by
  obtain ⟨h1, h2, h3, h4⟩ := A.vec_set h hi v
  exact ⟨(Ch.refl o w).setCell (p := ⟨A.bk ao, i, none⟩) (fun _ => h3) _, o, a, h4, A.Gr.refl _ _ _⟩
/-- An element of a slice is set. -/
theorem A.G.vst {t : TypeId} {x y : Operand} {kd : IntKind} {ao : Option Addr} {cap i : Nat} {xs : List Int} {v : Int} (k : Nat) (hk : its[k]? = some (A.vec kd ao cap xs)) (hne : A.ne L = true) (hx : E.ev fr x = .pointer (some ⟨A.bk ao, i, none⟩)) (hy : E.ev fr y = .int kd v) (hi : i < xs.length) (ht : (P.info? t).map (·.size) = some 1)
    (hck : E.ck n ops fr ⟨none, .store t x y, T, pos, af, gd⟩ = true) (kk : E.G P n ops Q l fr o0 w0 (A.X w0 o0 a0 (its.set k (A.vec kd ao cap (xs.set i v)))) L) : E.G P n ops Q (⟨none, .store t x y, T, pos, af, gd⟩ :: l) fr o0 w0 (A.X w0 o0 a0 its) L := by
  refine A.G.sto1 (.int kd v) _ L hx hy rfl rfl ht (fun w h => ?_) hck kk
  obtain ⟨o1, a1, hv⟩ := A.X.get h hk
  obtain ⟨h1, h2, h3, h4⟩ := A.vec_set hv hi v
  exact ⟨h1, h2, A.X.upd h hne hk fun o1 a1 hv => A.vec_upd hv hi v⟩
theorem A.vec_new {k : IntKind} {w : World} {g c : Nat} {cs : List Value} {T : TypeId} {xs : List Int} {rest : List Value} (hg : g = w.heap.size) (hcs : cs = xs.map (Value.int k) ++ rest) (hc : c = cs.length) (h0 : 0 < c) : (A.vec k (some ⟨g, 0, none⟩) c xs).t (w.alloc (.cells cs.toArray T)) (fun x => x = g) (fun x => x = g) := by
  subst hg; subst hcs
  refine ⟨by rw [hc]; simp, .inr ⟨h0, _, rfl, by show w.heap.size < (w.heap.push _).size; simp, fun i v hv => ?_, fun i hi => ?_, fun i => by unfold World.frozen? World.alloc; simp, fun _ => Iff.rfl, fun _ => Iff.rfl⟩⟩
  · have hlt := (List.getElem?_eq_some_iff.1 hv).1
    rw [World.cell?_alloc_mark]
    have : (xs.map (Value.int k) ++ rest)[i]? = some (.int k v) := by rw [List.getElem?_append_left (by simpa using hlt), List.getElem?_map, hv]; rfl
    simpa using this
  · rw [World.cell?_alloc_mark]
    rw [hc] at hi
    exact ⟨(xs.map (Value.int k) ++ rest)[i], by simp⟩
theorem A.vec_push {k : IntKind} {ao : Option Addr} {cap : Nat} {xs : List Int} {w : World} {o a : Nat → Prop} (h : (A.vec k ao cap xs).t w o a) (hi : xs.length + 1 ≤ cap) (v : Int) :
    w.frozen? ⟨A.bk ao, xs.length, none⟩ = false ∧ (∃ u, w.cell? ⟨A.bk ao, xs.length, none⟩ = some u) ∧ o (A.bk ao) ∧ (A.vec k ao cap (xs ++ [v])).t (w.setCell ⟨A.bk ao, xs.length, none⟩ (.int k v)) o a := by
  rcases h.2 with h | ⟨hc, b, rfl, hb, h1, h2, h3, ho, ha⟩
  · omega
  · refine ⟨h3 _, h2 _ (by omega), (ho _).2 rfl, by simpa using hi, .inr ⟨hc, b, rfl, by simpa [World.setCell] using hb, fun j u hu => ?_, fun j hj => ?_, fun j => (frozen_set _ _ _ _).trans (h3 j), ho, ha⟩⟩
    · show (w.setCell ⟨b, xs.length, none⟩ _).cell? _ = _
      by_cases e : xs.length = j
      · subst e
        rw [List.getElem?_append_right (Nat.le_refl _), Nat.sub_self] at hu
        obtain rfl := Option.some.inj hu
        obtain ⟨u0, hu0⟩ := h2 xs.length (by omega)
        exact cell_set hu0
      · rw [World.cell?_setCell_other _ _ _ _ (by intro q; injection q with _ h2 _; exact e h2)]
        have hj : j < xs.length := by
          have := (List.getElem?_eq_some_iff.1 hu).1
          simp at this; omega
        rw [List.getElem?_append_left hj] at hu
        exact h1 j u hu
    · show ∃ u, (w.setCell ⟨b, xs.length, none⟩ _).cell? _ = _
      by_cases e : xs.length = j
      · subst e
        obtain ⟨u0, hu0⟩ := h2 _ hj
        exact ⟨_, cell_set hu0⟩
      · rw [World.cell?_setCell_other _ _ _ _ (by intro q; injection q with _ h2 _; exact e h2)]
        exact h2 j hj
/-- One element is appended to a slice. -/
theorem A.run_append1 {t e : TypeId} {kd : IntKind} {ao : Option Addr} {cap by_ k : Nat} {xs : List Int} {v : Int} {a1 : Addr} {cx : Nat} {w : World} (ht : P.underlying t = some (.slice e)) (hi : E.tinfo P e = some (1, by_, 1)) (hb : (xs.length + 1) * by_ ≤ 140737488355328) (h63 : xs.length + 1 ≤ 9223372036854775807) (h0 : by_ ≠ 0)
    (h : E.Hp o0 w0 (A.X w0 o0 a0 its) L w) (hne : A.ne L = true) (hk : its[k]? = some (A.vec kd ao cap xs)) (hx : w.cell? (a1.add 0) = some (.int kd v)) :
    ∃ ao' c' w', (Builtin.append_ #[t, t] T #[.slice ao xs.length cap, .slice (some a1) 1 cx]).run P w = .ok (.slice ao' (xs ++ [v]).length c') w' ∧ E.Hp o0 w0 (A.X w0 o0 a0 (its.set k (A.vec kd ao' c' (xs ++ [v])))) L w' := by
  unfold E.tinfo at hi
  cases hie : P.info? e with
  | none => rw [hie] at hi; cases hi
  | some ie =>
    rw [hie] at hi
    simp only [Option.bind_some] at hi
    cases hz : ie.zero with
    | none => rw [hz] at hi; cases hi
    | some z =>
      rw [hz] at hi
      simp only [Option.map_some, Option.some.injEq, Prod.mk.injEq] at hi
      obtain ⟨h1, h2, h3⟩ := hi
      obtain ⟨o1, f1, hv⟩ := A.X.get h hk
      have hnews : ∀ j u, [Value.int kd v][j]? = some u → w.cell? (a1.add j) = some u := fun j u hj => by
        match j with
        | 0 => simp at hj; subst hj; exact hx
        | j + 1 => simp at hj
      have hlen : (xs ++ [v]).length = xs.length + 1 := by simp
      have hnew : ∀ (ol : List Value) (c' : Nat), ol = xs.map (Value.int kd) → xs.length + 1 ≤ c' → E.Hp o0 w0 (A.X w0 o0 a0 (its.set k (A.vec kd (some ⟨w.heap.size, 0, none⟩) c' (xs ++ [v])))) L (w.drew.alloc (.cells (ol.toArray ++ [Value.int kd v].toArray ++ Builtin.zeroCells z.cells (c' - (xs.length + 1))) e)) := fun ol c' hol hc' => by
        have hb1 : Bel w (w.drew.alloc (.cells (ol.toArray ++ [Value.int kd v].toArray ++ Builtin.zeroCells z.cells (c' - (xs.length + 1))) e)) := Bel.alloc (Bel.drew (Bel.refl w)) _
        refine A.X.upd h hne hk fun o1 a1 hv => ⟨hb1.ch _, (fun x => x = w.heap.size), (fun x => x = w.heap.size), ?_, fun x hx hk => ?_, fun x hx hk => ?_⟩
        · have ea : ol.toArray ++ [Value.int kd v].toArray ++ Builtin.zeroCells z.cells (c' - (xs.length + 1)) = ((xs ++ [v]).map (Value.int kd) ++ (Builtin.zeroCells z.cells (c' - (xs.length + 1))).toList).toArray := by
            subst hol; simp
          have hzl : (Builtin.zeroCells z.cells (c' - (xs.length + 1))).toList.length = c' - (xs.length + 1) := by rw [Array.length_toList, size_zeroCells, h3, Nat.mul_one]
          rw [ea]
          exact A.vec_new (w := w.drew) (rest := (Builtin.zeroCells z.cells (c' - (xs.length + 1))).toList) rfl rfl (by rw [List.length_append, List.length_map, hlen, hzl]; omega) (by omega)
        · simp only at hk; omega
        · simp only at hk; omega
      by_cases hroom : xs.length + 1 ≤ cap
      · -- in place
        obtain ⟨b, rfl⟩ : ∃ b, ao = some ⟨b, 0, none⟩ := ⟨_, A.vec_ao hv (by omega)⟩
        obtain ⟨q1, q2, q3, q4⟩ := A.vec_push hv hroom v
        have hbk : A.bk (some ⟨b, 0, none⟩) = b := rfl
        rw [hbk] at q1 q2
        refine ⟨some ⟨b, 0, none⟩, cap, w.setCell ⟨b, xs.length, none⟩ (.int kd v), ?_, A.X.upd h hne hk fun o1 a1 hv => ?_⟩
        · have hfirst := run_firstCells_some (P := P) w ie.size 1 a1 1 cx [.int kd v] (by rw [h1]; rfl) hnews
          obtain ⟨u, hu⟩ := q2
          have hst : (store ⟨b, xs.length, none⟩ (.int kd v)).run P w = .ok () (w.setCell ⟨b, xs.length, none⟩ (.int kd v)) := by
            simp only [store, Sem.run, hu, q1]; rfl
          rw [h1] at hfirst
          rw [hlen]
          simp [Builtin.append_, run_underlying ht, sizeOf, typeInfo, hie, Builtin.lenOf, hroom, hfirst, E.add_off, storeCells, h1, hst]
        · obtain ⟨q1, q2, q3, q4⟩ := A.vec_push hv hroom v
          exact ⟨(Ch.refl o1 w).setCell (p := ⟨b, xs.length, none⟩) (fun _ => q3) _, _, _, q4, A.Gr.refl _ _ _⟩
      · -- a new block
        have hx0 := hv.1
        have hcl : cap = xs.length := by omega
        have hge := grownCap_ge w (xs.length + 1) cap e
        refine ⟨some ⟨w.heap.size, 0, none⟩, grownCap w (xs.length + 1) cap e, _, ?_, hnew (xs.map (Value.int kd)) _ rfl hge⟩
        rw [hlen]
        cases hao : ao with
        | none =>
          have hc0 : cap = 0 := by
            rcases hv.2 with h | ⟨_, b, hb, _⟩
            · exact h.1
            · rw [hao] at hb; cases hb
          have hx1 : xs = [] := List.eq_nil_of_length_eq_zero (by omega)
          subst hx1; subst hc0
          have := run_append_nil (P := P) w t T e ie z ht hie hz a1 1 cx [.int kd v] (by rw [h1]; rfl) hnews (by decide) (by decide) (by rw [h2]; simp at hb; omega)
          simpa using this
        | some ab =>
          have hba : xs.length = 0 ∨ ab = ⟨A.bk ao, 0, none⟩ := by
            rcases Nat.eq_zero_or_pos xs.length with h | h
            · exact .inl h
            · have := A.vec_ao hv (by omega)
              rw [hao] at this
              exact .inr (by rw [hao]; exact Option.some.inj this)
          have hold : ∀ j u, (xs.map (Value.int kd))[j]? = some u → w.cell? (ab.add j) = some u := fun j u hj => by
            have hlt : j < xs.length := by have := (List.getElem?_eq_some_iff.1 hj).1; simpa using this
            rcases hba with h | h
            · omega
            · rw [h, E.add_off, Nat.zero_add, A.vec_at hv hlt, ← hj]
              simp [List.getD, hlt]
          exact run_append_grow (P := P) w t T e ie z ht hie hz ab xs.length cap (xs.map (Value.int kd)) (by rw [List.length_map, h1, Nat.mul_one]) hold a1 1 cx [.int kd v] (by rw [h1]; rfl) hnews (by omega) (by omega) (growslice_fits (by omega) (by rw [h2]; exact hb))
theorem A.G.append1 {t e : TypeId} {s x : Operand} {kd : IntKind} {ao : Option Addr} {cap : Nat} (k ix gx jx cx by_ : Nat) (xs : List Int) (v : Int) (csx : List Value) (hk : its[k]? = some (A.vec kd ao cap xs)) (hne : A.ne L = true) (ht : P.underlying t = some (.slice e)) (hi : E.tinfo P e = some (1, by_, 1))
    (hs : E.ev fr s = .slice ao xs.length cap) (hx : E.ev fr x = .slice (some ⟨gx, jx, none⟩) 1 cx) (hLx : L[ix]? = some (gx, csx)) (hv : csx[jx]? = some (.int kd v)) (hb : (xs.length + 1) * by_ ≤ 140737488355328) (h63 : xs.length + 1 ≤ 9223372036854775807) (h0 : by_ ≠ 0)
    (hck : E.ck n ops fr ⟨d, .call { callee := .builtin .append, args := #[s, x], argTypes := #[t, t] }, T, pos, af, gd⟩ = true)
    (kk : ∀ ao' c', E.G P n ops Q l (E.upd fr d (.slice ao' (xs ++ [v]).length c')) o0 w0 (A.X w0 o0 a0 (its.set k (A.vec kd ao' c' (xs ++ [v])))) L) :
    E.G P n ops Q (⟨d, .call { callee := .builtin .append, args := #[s, x], argTypes := #[t, t] }, T, pos, af, gd⟩ :: l) fr o0 w0 (A.X w0 o0 a0 its) L := by
  refine E.G.any (I := Option Addr × Nat) (fun _ => True) (fun a => .slice a.1 (xs ++ [v]).length a.2) (fun a => A.X w0 o0 a0 (its.set k (A.vec kd a.1 a.2 (xs ++ [v])))) (fun _ => L) (fun w hh => ?_) hck (fun a _ => kk a.1 a.2)
  have hop : (execOp (E.ev fr) ⟨d, .call { callee := .builtin .append, args := #[s, x], argTypes := #[t, t] }, T, pos, af, gd⟩).run P w = ((Builtin.append_ #[t, t] T #[E.ev fr s, E.ev fr x]).run P w).andThen fun v w' => .ok (.value v) w' := by
    simp [execOp, resolve, invoke, builtin]
  obtain ⟨ao', c', w', hr, hw⟩ := A.run_append1 (T := T) (a1 := ⟨gx, jx, none⟩) (cx := cx) (v := v) ht hi hb h63 h0 hh hne hk (by rw [E.add_off]; exact hh.mem _ (List.mem_of_getElem? hLx) _ _ hv)
  exact ⟨(ao', c'), w', trivial, by rw [hop, hs, hx, hr]; rfl, hw⟩
/-- A slice of zeros is made. -/
theorem A.G.make {t e : TypeId} {kd lk : IntKind} {x : Operand} (m by_ : Nat) (ht : P.underlying t = some (.slice e)) (hi : (P.info? e).map (fun i => (i.size, i.bytes, i.zero.map (·.cells))) = some (1, by_, some #[.int kd 0])) (hx : E.ev fr x = .int lk ((m : Nat) : Int)) (hb : by_ * m ≤ 281474976710656) (h63 : m ≤ 9223372036854775807)
    (hck : E.ck n ops fr ⟨d, .makeSlice t x x, T, pos, af, gd⟩ = true)
    (kk : ∀ ao, E.G P n ops Q l (E.upd fr d (.slice ao m m)) o0 w0 (A.X w0 o0 a0 (A.vec kd ao m (List.replicate m 0) :: its)) L) : E.G P n ops Q (⟨d, .makeSlice t x x, T, pos, af, gd⟩ :: l) fr o0 w0 (A.X w0 o0 a0 its) L := by
  refine E.G.any (I := Option Addr) (fun _ => True) (fun ao => .slice ao m m) (fun ao => A.X w0 o0 a0 (A.vec kd ao m (List.replicate m 0) :: its)) (fun _ => L) (fun w hh => ?_) hck (fun a _ => kk a)
  cases hie : P.info? e with
  | none => rw [hie] at hi; cases hi
  | some i =>
    rw [hie] at hi
    simp only [Option.map_some, Option.some.injEq, Prod.mk.injEq] at hi
    obtain ⟨h1, h2, h3⟩ := hi
    cases hz : i.zero with
    | none => rw [hz] at h3; cases h3
    | some z =>
      rw [hz] at h3
      simp only [Option.map_some, Option.some.injEq] at h3
      have hr := run_make (P := P) w t e i z ht hie hz lk lk ((m : Nat) : Int) ((m : Nat) : Int) (by omega) (Int.le_refl _) (by rw [h2, ← Int.natCast_mul]; omega) (by omega)
      simp only [Int.toNat_natCast, h1, Nat.mul_one] at hr
      have hcs : madeCells z.cells m = ((List.replicate m (0 : Int)).map (Value.int kd) ++ []).toArray := by
        refine Array.toList_inj.1 (List.ext_getElem? fun j => ?_)
        rw [List.toList_toArray, List.append_nil, h3]
        by_cases hj : j < m
        · simp only [madeCells, Array.toList_map, Array.toList_range, List.getElem?_map]
          rw [List.getElem?_range hj, List.getElem?_replicate, if_pos hj]
          have : j % (#[Value.int kd 0] : Array Value).size = 0 := Nat.mod_one j
          simp only [Option.map_some, this]; rfl
        · rw [List.getElem?_eq_none (by rw [Array.length_toList, size_madeCells]; omega), List.getElem?_eq_none (by rw [List.length_map, List.length_replicate]; omega)]
      refine ⟨some ⟨w.heap.size, 0, none⟩, w.alloc (.cells (madeCells z.cells m) e), trivial, ?_, ?_⟩
      · show (do let r ← Instr.makeSlice t (E.ev fr x) (E.ev fr x); pure (Next.value r) : Sem Next).run P w = _
        rw [hx]; simp only [Sem.run_bind, hr, Result.andThen_ok]; rfl
      · rw [hcs]
        by_cases h0 : 0 < m
        · exact A.X.add hh (Bel.alloc (Bel.refl w) _) _ (A.vec_new (rest := []) rfl rfl (by rw [List.append_nil, List.length_map, List.length_replicate]) h0) (fun x hx => Nat.le_of_eq hx.symm)
        · obtain rfl : m = 0 := by omega
          exact A.X.add hh (Bel.alloc (Bel.refl w) _) (A.vec kd (some ⟨w.heap.size, 0, none⟩) 0 []) (o1 := fun _ => False) (a1 := fun _ => False) ⟨Nat.le_refl _, .inl ⟨rfl, fun _ h => h, fun _ h => h⟩⟩ (fun _ h => h.elim)
end
end Go.Proofs.Ytdjjjikokfadiaa
