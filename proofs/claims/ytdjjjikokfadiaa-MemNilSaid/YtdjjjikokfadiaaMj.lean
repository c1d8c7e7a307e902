/- Walks: Store of mem, printed by wip/eng. No condition but what is named. -/
import Derived.Test.YtdjjjikokfadiaaProg
import Derived.Test.YtdjjjikokfadiaaMi
namespace Go.Proofs.Ytdjjjikokfadiaa
set_option linter.unusedVariables false
set_option linter.unusedSimpArgs false
open Go.RowKit
theorem M.byte_bd (x : Int) : 0 ≤ IntKind.wrap .u8 x ∧ IntKind.wrap .u8 x < 256 := by
  show 0 ≤ x % 256 ∧ x % 256 < 256
  omega
theorem M.set_call {o oc : M.Obj} {w0 w : World} (hd : M.Nxt w0 o oc) {a : Nat} {v : Int} (ha : a < 4294967296) (hv : 0 ≤ v ∧ v < 256) (h : E.Hp (fun x => M.ow o x) w0 (fun w => M.St oc w) [] w) :
    Calls Try.prog 39 #[.pointer (some ⟨o.m, 0, none⟩), .int .u32 ((a : Nat) : Int), .int .u8 v] w fun e w' => ∃ i : M.Obj, (M.Nxt w0 o i ∧ ∀ V, M.Sh oc V → M.Sh i (V.set a v)) ∧ e = .returned (.tuple #[]) ∧ E.Hp (fun x => M.ow o x) w0 (fun w => M.St i w) [] w' := by
  have hc := set_any oc a v ha hv w h.x
  rw [hd.m] at hc
  exact hc.mono fun e w' ⟨he, i, hs, hch, hn, hV⟩ => ⟨i, ⟨hd.trans hn h.ch.size, hV⟩, he, hs.hp (h.ch.trans' hch fun x hx hx2 => hd.ow x hx hx2)⟩
def M.V.put (V : M.V) (a : Nat) (v : Int) : Nat → M.V
  | 0 => V
  | c + 1 => (M.V.put V a v c).set ((a + c) % 4294967296) (IntKind.wrap .u8 (Int.fdiv v (2 ^ (8 * c))))
theorem Store_1 (o : M.Obj) (a : Nat) (v : Int) (ha : a < 4294967296) (w : World) (hst : M.St o w) : Calls Try.prog 18 #[.pointer (some ⟨o.m, 0, none⟩), .int .u32 ((a : Nat) : Int), .int .i64 1, .int .u32 v] w fun e w' => e = .returned (bif (M.chk o a 2 0 1).2 then .tuple #[.int .u32 0, .bool true] else .tuple #[.int .u32 (M.chk o a 2 0 1).1, .bool false]) ∧ ∃ o', M.St o' w' ∧ Ch (fun x => M.ow o x) w w' ∧ M.Nxt w o o' ∧ ∀ V, M.Sh o V → M.Sh o' (bif (M.chk o a 2 0 1).2 then V.put a v 1 else V) := by
  refine E.enter (n := 37) (S := fun x => M.ow o x) Try.func18 rfl rfl (by kernel_rfl) (hst.hp (Ch.refl _ _)) ?_
  refine E.C.seq ?_
  refine E.C.region ?_
  refine E.G.op (.int .u32 0) (fun w => by kernel_rfl) (by kernel_rfl) ?_
  refine E.G.op (.bool false) (fun w => by kernel_rfl) (by kernel_rfl) ?_
  refine E.To.code ?_
  refine E.C.seq ?_
  refine E.C.seq ?_
  refine E.C.region ?_
  refine E.G.op (.pointer (some ⟨o.m, 0, none⟩)) (fun w => by kernel_rfl) (by kernel_rfl) ?_
  refine E.G.op (.int .u32 ((a : Nat) : Int)) (fun w => by kernel_rfl) (by kernel_rfl) ?_
  refine E.G.op (.int .i64 1) (fun w => by kernel_rfl) (by kernel_rfl) ?_
  refine E.G.call (.tuple #[.int .u32 ((M.chk o a 2 0 1).1), .bool ((M.chk o a 2 0 1).2)]) (fun w h => check_any o a 1 2 (by omega) (by omega) w h.x.at_) (fun w _ => by kernel_rfl) (by kernel_rfl) ?_
  refine E.G.op (.tuple #[.int .u32 ((M.chk o a 2 0 1).1), .bool ((M.chk o a 2 0 1).2)]) (fun w => by kernel_rfl) (by kernel_rfl) ?_
  refine E.G.op (.int .u32 ((M.chk o a 2 0 1).1)) (fun w => by kernel_rfl) (by kernel_rfl) ?_
  refine E.G.op (.bool ((M.chk o a 2 0 1).2)) (fun w => by kernel_rfl) (by kernel_rfl) ?_
  refine E.G.op (.int .u32 ((M.chk o a 2 0 1).1)) (fun w => by kernel_rfl) (by kernel_rfl) ?_
  refine E.G.op (.bool ((M.chk o a 2 0 1).2)) (fun w => by kernel_rfl) (by kernel_rfl) ?_
  refine E.To.code ?_
  refine E.C.seq ?_
  refine E.C.region ?_
  refine E.G.op (.bool ((M.chk o a 2 0 1).2)) (fun w => by kernel_rfl) (by kernel_rfl) ?_
  refine E.G.op (.bool (!((M.chk o a 2 0 1).2))) (fun w => by kernel_rfl) (by kernel_rfl) ?_
  refine E.To.code ?_
  refine E.C.weak [(0, .pointer (some ⟨o.m, 0, none⟩)), (1, .int .u32 ((a : Nat) : Int)), (2, .int .i64 1), (3, .int .u32 v), (8, .int .u32 ((M.chk o a 2 0 1).1)), (9, .bool ((M.chk o a 2 0 1).2)), (19, .bool (!((M.chk o a 2 0 1).2)))] [] ⟨by kernel_rfl, by kernel_rfl⟩ (List.Sublist.refl _) ?_
  refine E.C.cond (!((M.chk o a 2 0 1).2)) (by kernel_rfl) (by kernel_rfl) (fun hc1 => ?_) (fun hc1 => ?_)
  · skip
    refine E.C.seq ?_
    refine E.C.region ?_
    refine E.G.op (.int .u32 ((M.chk o a 2 0 1).1)) (fun w => by kernel_rfl) (by kernel_rfl) ?_
    refine E.G.op (.int .u32 ((M.chk o a 2 0 1).1)) (fun w => by kernel_rfl) (by kernel_rfl) ?_
    refine E.G.op (.bool false) (fun w => by kernel_rfl) (by kernel_rfl) ?_
    refine E.To.code ?_
    refine E.C.ret (E.P.rt (E.To.body (fn := Try.f18) [.int .u32 ((M.chk o a 2 0 1).1), .bool false] ?_ ?_))
    · exact ⟨⟨by kernel_rfl, by kernel_rfl⟩, ⟨by kernel_rfl, by kernel_rfl⟩, trivial⟩
    · intro w h
      exact ⟨by rw [M.b0 hc1]; rfl, o, h.x, h.ch, M.Nxt.refl _ _, fun V hV => by rw [M.b0 hc1]; exact hV⟩
  · skip
    refine E.C.skip (E.To.code ?_)
    refine E.C.seq ?_
    refine E.C.seq ?_
    refine E.C.region ?_
    refine E.G.op (.int .i64 1) (fun w => by kernel_rfl) (by kernel_rfl) ?_
    refine E.G.op (.int .u32 1) (fun w => by kernel_rfl) (by kernel_rfl) ?_
    refine E.G.op (.int .u32 0) (fun w => by kernel_rfl) (by kernel_rfl) ?_
    refine E.To.code ?_
    refine E.C.block ?_
    refine E.C.rounds 5 ?_
    refine E.C.seq ?_
    refine E.C.region ?_
    refine E.G.op (.bool true) (fun w => by kernel_rfl) (by kernel_rfl) ?_
    refine E.To.code ?_
    refine E.C.seq ?_
    refine E.C.condT (by kernel_rfl) (by kernel_rfl) ?_
    refine E.C.skip (E.To.code ?_)
    refine E.C.seq ?_
    refine E.C.block ?_
    refine E.C.seq ?_
    refine E.C.region ?_
    refine E.G.op (.int .u32 0) (fun w => by kernel_rfl) (by kernel_rfl) ?_
    refine E.G.op (.int .u32 0) (fun w => by kernel_rfl) (by kernel_rfl) ?_
    refine E.To.code ?_
    refine E.C.region ?_
    refine E.G.op (.pointer (some ⟨o.m, 0, none⟩)) (fun w => by kernel_rfl) (by kernel_rfl) ?_
    refine E.G.op (.int .u32 ((a : Nat) : Int)) (fun w => by kernel_rfl) (by kernel_rfl) ?_
    refine E.G.op (.int .u32 0) (fun w => by kernel_rfl) (by kernel_rfl) ?_
    refine E.G.val (.int .u32 (((a + 0) % 4294967296 : Nat) : Int)) (by kernel_rfl) (fun w h => E.run_as (a := .int .u32 (IntKind.wrap .u32 (((a : Nat) : Int) + 0))) (by kernel_rfl) (congrArg (Value.int .u32) (by exact M.add32 a 0))) ?_
    refine E.G.op (.int .u32 v) (fun w => by kernel_rfl) (by kernel_rfl) ?_
    refine E.G.op (.int .u32 0) (fun w => by kernel_rfl) (by kernel_rfl) ?_
    refine E.G.op (.int .u32 0) (fun w => by kernel_rfl) (by kernel_rfl) ?_
    refine E.G.op (.int .u32 (Int.fdiv v (2 ^ 0))) (fun w => by kernel_rfl) (by kernel_rfl) ?_
    refine E.G.op (.int .u8 (IntKind.wrap .u8 (Int.fdiv v (2 ^ 0)))) (fun w => by kernel_rfl) (by kernel_rfl) ?_
    refine E.G.callX (I := M.Obj) (fun i => M.Nxt w o i ∧ ∀ V, M.Sh o V → M.Sh i (V.set ((a + 0) % 4294967296) (IntKind.wrap .u8 (Int.fdiv v (2 ^ 0))))) (fun _ => .tuple #[]) (fun i w => M.St i w) (fun _ => []) (fun u h => M.set_call (M.Nxt.refl w o) (by omega) (M.byte_bd _) h) (fun u _ => by kernel_rfl) (by kernel_rfl) (fun o1 hd1 => ?_)
    refine E.P.nb (E.To.code ?_)
    refine E.C.region ?_
    refine E.G.op (.int .u32 1) (fun w => by kernel_rfl) (by kernel_rfl) ?_
    refine E.G.op (.int .u32 1) (fun w => by kernel_rfl) (by kernel_rfl) ?_
    refine E.To.rounds 4 ?_
    refine E.C.weak [(0, .pointer (some ⟨o.m, 0, none⟩)), (1, .int .u32 ((a : Nat) : Int)), (3, .int .u32 v), (8, .int .u32 ((M.chk o a 2 0 1).1)), (9, .bool ((M.chk o a 2 0 1).2)), (10, .int .u32 0), (22, .int .u32 1), (23, .int .u32 1), (24, .bool true), (25, .int .u32 0), (26, .pointer (some ⟨o.m, 0, none⟩)), (27, .int .u32 ((a : Nat) : Int)), (28, .int .u32 0), (29, .int .u32 (((a + 0) % 4294967296 : Nat) : Int)), (30, .int .u32 v), (31, .int .u32 0), (32, .int .u32 0), (33, .int .u32 (Int.fdiv v (2 ^ 0))), (34, .int .u8 (IntKind.wrap .u8 (Int.fdiv v (2 ^ 0)))), (36, .int .u32 1)] [] ⟨by kernel_rfl, by kernel_rfl⟩ (List.Sublist.refl _) ?_
    refine E.C.seq ?_
    refine E.C.region ?_
    refine E.G.op (.bool false) (fun w => by kernel_rfl) (by kernel_rfl) ?_
    refine E.To.code ?_
    refine E.C.seq ?_
    refine E.C.condF (by kernel_rfl) (by kernel_rfl) ?_
    refine E.C.exit (E.P.et (E.P.et (E.P.eh (E.To.code ?_))))
    refine E.C.weak [(8, .int .u32 ((M.chk o a 2 0 1).1)), (9, .bool ((M.chk o a 2 0 1).2))] [] ⟨by kernel_rfl, by kernel_rfl⟩ (List.Sublist.refl _) ?_
    refine E.C.seq ?_
    refine E.C.region ?_
    refine E.G.op (.int .u32 0) (fun w => by kernel_rfl) (by kernel_rfl) ?_
    refine E.G.op (.bool true) (fun w => by kernel_rfl) (by kernel_rfl) ?_
    refine E.To.code ?_
    refine E.C.ret (E.To.body (fn := Try.f18) [.int .u32 0, .bool true] ?_ ?_)
    · exact ⟨⟨by kernel_rfl, by kernel_rfl⟩, ⟨by kernel_rfl, by kernel_rfl⟩, trivial⟩
    · intro w h
      exact ⟨by rw [M.b1 hc1]; rfl, o1, h.x, h.ch, hd1.1, fun V hV => by rw [M.b1 hc1]; exact (hd1.2 _ hV)⟩
theorem Store_2 (o : M.Obj) (a : Nat) (v : Int) (ha : a < 4294967296) (w : World) (hst : M.St o w) : Calls Try.prog 18 #[.pointer (some ⟨o.m, 0, none⟩), .int .u32 ((a : Nat) : Int), .int .i64 2, .int .u32 v] w fun e w' => e = .returned (bif (M.chk o a 2 0 2).2 then .tuple #[.int .u32 0, .bool true] else .tuple #[.int .u32 (M.chk o a 2 0 2).1, .bool false]) ∧ ∃ o', M.St o' w' ∧ Ch (fun x => M.ow o x) w w' ∧ M.Nxt w o o' ∧ ∀ V, M.Sh o V → M.Sh o' (bif (M.chk o a 2 0 2).2 then V.put a v 2 else V) := by
  refine E.enter (n := 37) (S := fun x => M.ow o x) Try.func18 rfl rfl (by kernel_rfl) (hst.hp (Ch.refl _ _)) ?_
  refine E.C.seq ?_
  refine E.C.region ?_
  refine E.G.op (.int .u32 0) (fun w => by kernel_rfl) (by kernel_rfl) ?_
  refine E.G.op (.bool false) (fun w => by kernel_rfl) (by kernel_rfl) ?_
  refine E.To.code ?_
  refine E.C.seq ?_
  refine E.C.seq ?_
  refine E.C.region ?_
  refine E.G.op (.pointer (some ⟨o.m, 0, none⟩)) (fun w => by kernel_rfl) (by kernel_rfl) ?_
  refine E.G.op (.int .u32 ((a : Nat) : Int)) (fun w => by kernel_rfl) (by kernel_rfl) ?_
  refine E.G.op (.int .i64 2) (fun w => by kernel_rfl) (by kernel_rfl) ?_
  refine E.G.call (.tuple #[.int .u32 ((M.chk o a 2 0 2).1), .bool ((M.chk o a 2 0 2).2)]) (fun w h => check_any o a 2 2 (by omega) (by omega) w h.x.at_) (fun w _ => by kernel_rfl) (by kernel_rfl) ?_
  refine E.G.op (.tuple #[.int .u32 ((M.chk o a 2 0 2).1), .bool ((M.chk o a 2 0 2).2)]) (fun w => by kernel_rfl) (by kernel_rfl) ?_
  refine E.G.op (.int .u32 ((M.chk o a 2 0 2).1)) (fun w => by kernel_rfl) (by kernel_rfl) ?_
  refine E.G.op (.bool ((M.chk o a 2 0 2).2)) (fun w => by kernel_rfl) (by kernel_rfl) ?_
  refine E.G.op (.int .u32 ((M.chk o a 2 0 2).1)) (fun w => by kernel_rfl) (by kernel_rfl) ?_
  refine E.G.op (.bool ((M.chk o a 2 0 2).2)) (fun w => by kernel_rfl) (by kernel_rfl) ?_
  refine E.To.code ?_
  refine E.C.seq ?_
  refine E.C.region ?_
  refine E.G.op (.bool ((M.chk o a 2 0 2).2)) (fun w => by kernel_rfl) (by kernel_rfl) ?_
  refine E.G.op (.bool (!((M.chk o a 2 0 2).2))) (fun w => by kernel_rfl) (by kernel_rfl) ?_
  refine E.To.code ?_
  refine E.C.weak [(0, .pointer (some ⟨o.m, 0, none⟩)), (1, .int .u32 ((a : Nat) : Int)), (2, .int .i64 2), (3, .int .u32 v), (8, .int .u32 ((M.chk o a 2 0 2).1)), (9, .bool ((M.chk o a 2 0 2).2)), (19, .bool (!((M.chk o a 2 0 2).2)))] [] ⟨by kernel_rfl, by kernel_rfl⟩ (List.Sublist.refl _) ?_
  refine E.C.cond (!((M.chk o a 2 0 2).2)) (by kernel_rfl) (by kernel_rfl) (fun hc1 => ?_) (fun hc1 => ?_)
  · skip
    refine E.C.seq ?_
    refine E.C.region ?_
    refine E.G.op (.int .u32 ((M.chk o a 2 0 2).1)) (fun w => by kernel_rfl) (by kernel_rfl) ?_
    refine E.G.op (.int .u32 ((M.chk o a 2 0 2).1)) (fun w => by kernel_rfl) (by kernel_rfl) ?_
    refine E.G.op (.bool false) (fun w => by kernel_rfl) (by kernel_rfl) ?_
    refine E.To.code ?_
    refine E.C.ret (E.P.rt (E.To.body (fn := Try.f18) [.int .u32 ((M.chk o a 2 0 2).1), .bool false] ?_ ?_))
    · exact ⟨⟨by kernel_rfl, by kernel_rfl⟩, ⟨by kernel_rfl, by kernel_rfl⟩, trivial⟩
    · intro w h
      exact ⟨by rw [M.b0 hc1]; rfl, o, h.x, h.ch, M.Nxt.refl _ _, fun V hV => by rw [M.b0 hc1]; exact hV⟩
  · skip
    refine E.C.skip (E.To.code ?_)
    refine E.C.seq ?_
    refine E.C.seq ?_
    refine E.C.region ?_
    refine E.G.op (.int .i64 2) (fun w => by kernel_rfl) (by kernel_rfl) ?_
    refine E.G.op (.int .u32 2) (fun w => by kernel_rfl) (by kernel_rfl) ?_
    refine E.G.op (.int .u32 0) (fun w => by kernel_rfl) (by kernel_rfl) ?_
    refine E.To.code ?_
    refine E.C.block ?_
    refine E.C.rounds 5 ?_
    refine E.C.seq ?_
    refine E.C.region ?_
    refine E.G.op (.bool true) (fun w => by kernel_rfl) (by kernel_rfl) ?_
    refine E.To.code ?_
    refine E.C.seq ?_
    refine E.C.condT (by kernel_rfl) (by kernel_rfl) ?_
    refine E.C.skip (E.To.code ?_)
    refine E.C.seq ?_
    refine E.C.block ?_
    refine E.C.seq ?_
    refine E.C.region ?_
    refine E.G.op (.int .u32 0) (fun w => by kernel_rfl) (by kernel_rfl) ?_
    refine E.G.op (.int .u32 0) (fun w => by kernel_rfl) (by kernel_rfl) ?_
    refine E.To.code ?_
    refine E.C.region ?_
    refine E.G.op (.pointer (some ⟨o.m, 0, none⟩)) (fun w => by kernel_rfl) (by kernel_rfl) ?_
    refine E.G.op (.int .u32 ((a : Nat) : Int)) (fun w => by kernel_rfl) (by kernel_rfl) ?_
    refine E.G.op (.int .u32 0) (fun w => by kernel_rfl) (by kernel_rfl) ?_
    refine E.G.val (.int .u32 (((a + 0) % 4294967296 : Nat) : Int)) (by kernel_rfl) (fun w h => E.run_as (a := .int .u32 (IntKind.wrap .u32 (((a : Nat) : Int) + 0))) (by kernel_rfl) (congrArg (Value.int .u32) (by exact M.add32 a 0))) ?_
    refine E.G.op (.int .u32 v) (fun w => by kernel_rfl) (by kernel_rfl) ?_
    refine E.G.op (.int .u32 0) (fun w => by kernel_rfl) (by kernel_rfl) ?_
    refine E.G.op (.int .u32 0) (fun w => by kernel_rfl) (by kernel_rfl) ?_
    refine E.G.op (.int .u32 (Int.fdiv v (2 ^ 0))) (fun w => by kernel_rfl) (by kernel_rfl) ?_
    refine E.G.op (.int .u8 (IntKind.wrap .u8 (Int.fdiv v (2 ^ 0)))) (fun w => by kernel_rfl) (by kernel_rfl) ?_
    refine E.G.callX (I := M.Obj) (fun i => M.Nxt w o i ∧ ∀ V, M.Sh o V → M.Sh i (V.set ((a + 0) % 4294967296) (IntKind.wrap .u8 (Int.fdiv v (2 ^ 0))))) (fun _ => .tuple #[]) (fun i w => M.St i w) (fun _ => []) (fun u h => M.set_call (M.Nxt.refl w o) (by omega) (M.byte_bd _) h) (fun u _ => by kernel_rfl) (by kernel_rfl) (fun o1 hd1 => ?_)
    refine E.P.nb (E.To.code ?_)
    refine E.C.region ?_
    refine E.G.op (.int .u32 1) (fun w => by kernel_rfl) (by kernel_rfl) ?_
    refine E.G.op (.int .u32 1) (fun w => by kernel_rfl) (by kernel_rfl) ?_
    refine E.To.rounds 4 ?_
    refine E.C.weak [(0, .pointer (some ⟨o.m, 0, none⟩)), (1, .int .u32 ((a : Nat) : Int)), (3, .int .u32 v), (8, .int .u32 ((M.chk o a 2 0 2).1)), (9, .bool ((M.chk o a 2 0 2).2)), (10, .int .u32 0), (22, .int .u32 2), (23, .int .u32 1), (24, .bool true), (25, .int .u32 0), (26, .pointer (some ⟨o.m, 0, none⟩)), (27, .int .u32 ((a : Nat) : Int)), (28, .int .u32 0), (29, .int .u32 (((a + 0) % 4294967296 : Nat) : Int)), (30, .int .u32 v), (31, .int .u32 0), (32, .int .u32 0), (33, .int .u32 (Int.fdiv v (2 ^ 0))), (34, .int .u8 (IntKind.wrap .u8 (Int.fdiv v (2 ^ 0)))), (36, .int .u32 1)] [] ⟨by kernel_rfl, by kernel_rfl⟩ (List.Sublist.refl _) ?_
    refine E.C.seq ?_
    refine E.C.region ?_
    refine E.G.op (.bool true) (fun w => by kernel_rfl) (by kernel_rfl) ?_
    refine E.To.code ?_
    refine E.C.seq ?_
    refine E.C.condT (by kernel_rfl) (by kernel_rfl) ?_
    refine E.C.skip (E.To.code ?_)
    refine E.C.seq ?_
    refine E.C.block ?_
    refine E.C.seq ?_
    refine E.C.region ?_
    refine E.G.op (.int .u32 1) (fun w => by kernel_rfl) (by kernel_rfl) ?_
    refine E.G.op (.int .u32 1) (fun w => by kernel_rfl) (by kernel_rfl) ?_
    refine E.To.code ?_
    refine E.C.region ?_
    refine E.G.op (.pointer (some ⟨o.m, 0, none⟩)) (fun w => by kernel_rfl) (by kernel_rfl) ?_
    refine E.G.op (.int .u32 ((a : Nat) : Int)) (fun w => by kernel_rfl) (by kernel_rfl) ?_
    refine E.G.op (.int .u32 1) (fun w => by kernel_rfl) (by kernel_rfl) ?_
    refine E.G.val (.int .u32 (((a + 1) % 4294967296 : Nat) : Int)) (by kernel_rfl) (fun w h => E.run_as (a := .int .u32 (IntKind.wrap .u32 (((a : Nat) : Int) + 1))) (by kernel_rfl) (congrArg (Value.int .u32) (by exact M.add32 a 1))) ?_
    refine E.G.op (.int .u32 v) (fun w => by kernel_rfl) (by kernel_rfl) ?_
    refine E.G.op (.int .u32 1) (fun w => by kernel_rfl) (by kernel_rfl) ?_
    refine E.G.op (.int .u32 8) (fun w => by kernel_rfl) (by kernel_rfl) ?_
    refine E.G.op (.int .u32 (Int.fdiv v (2 ^ 8))) (fun w => by kernel_rfl) (by kernel_rfl) ?_
    refine E.G.op (.int .u8 (IntKind.wrap .u8 (Int.fdiv v (2 ^ 8)))) (fun w => by kernel_rfl) (by kernel_rfl) ?_
    refine E.G.callX (I := M.Obj) (fun i => M.Nxt w o i ∧ ∀ V, M.Sh o1 V → M.Sh i (V.set ((a + 1) % 4294967296) (IntKind.wrap .u8 (Int.fdiv v (2 ^ 8))))) (fun _ => .tuple #[]) (fun i w => M.St i w) (fun _ => []) (fun u h => M.set_call hd1.1 (by omega) (M.byte_bd _) h) (fun u _ => by kernel_rfl) (by kernel_rfl) (fun o2 hd2 => ?_)
    refine E.P.nb (E.To.code ?_)
    refine E.C.region ?_
    refine E.G.op (.int .u32 2) (fun w => by kernel_rfl) (by kernel_rfl) ?_
    refine E.G.op (.int .u32 2) (fun w => by kernel_rfl) (by kernel_rfl) ?_
    refine E.To.rounds 3 ?_
    refine E.C.weak [(0, .pointer (some ⟨o.m, 0, none⟩)), (1, .int .u32 ((a : Nat) : Int)), (3, .int .u32 v), (8, .int .u32 ((M.chk o a 2 0 2).1)), (9, .bool ((M.chk o a 2 0 2).2)), (10, .int .u32 1), (22, .int .u32 2), (23, .int .u32 2), (24, .bool true), (25, .int .u32 1), (26, .pointer (some ⟨o.m, 0, none⟩)), (27, .int .u32 ((a : Nat) : Int)), (28, .int .u32 1), (29, .int .u32 (((a + 1) % 4294967296 : Nat) : Int)), (30, .int .u32 v), (31, .int .u32 1), (32, .int .u32 8), (33, .int .u32 (Int.fdiv v (2 ^ 8))), (34, .int .u8 (IntKind.wrap .u8 (Int.fdiv v (2 ^ 8)))), (36, .int .u32 2)] [] ⟨by kernel_rfl, by kernel_rfl⟩ (List.Sublist.refl _) ?_
    refine E.C.seq ?_
    refine E.C.region ?_
    refine E.G.op (.bool false) (fun w => by kernel_rfl) (by kernel_rfl) ?_
    refine E.To.code ?_
    refine E.C.seq ?_
    refine E.C.condF (by kernel_rfl) (by kernel_rfl) ?_
    refine E.C.exit (E.P.et (E.P.et (E.P.eh (E.To.code ?_))))
    refine E.C.weak [(8, .int .u32 ((M.chk o a 2 0 2).1)), (9, .bool ((M.chk o a 2 0 2).2))] [] ⟨by kernel_rfl, by kernel_rfl⟩ (List.Sublist.refl _) ?_
    refine E.C.seq ?_
    refine E.C.region ?_
    refine E.G.op (.int .u32 0) (fun w => by kernel_rfl) (by kernel_rfl) ?_
    refine E.G.op (.bool true) (fun w => by kernel_rfl) (by kernel_rfl) ?_
    refine E.To.code ?_
    refine E.C.ret (E.To.body (fn := Try.f18) [.int .u32 0, .bool true] ?_ ?_)
    · exact ⟨⟨by kernel_rfl, by kernel_rfl⟩, ⟨by kernel_rfl, by kernel_rfl⟩, trivial⟩
    · intro w h
      exact ⟨by rw [M.b1 hc1]; rfl, o2, h.x, h.ch, hd2.1, fun V hV => by rw [M.b1 hc1]; exact (hd2.2 _ (hd1.2 _ hV))⟩
theorem Store_3 (o : M.Obj) (a : Nat) (v : Int) (ha : a < 4294967296) (w : World) (hst : M.St o w) : Calls Try.prog 18 #[.pointer (some ⟨o.m, 0, none⟩), .int .u32 ((a : Nat) : Int), .int .i64 3, .int .u32 v] w fun e w' => e = .returned (bif (M.chk o a 2 0 3).2 then .tuple #[.int .u32 0, .bool true] else .tuple #[.int .u32 (M.chk o a 2 0 3).1, .bool false]) ∧ ∃ o', M.St o' w' ∧ Ch (fun x => M.ow o x) w w' ∧ M.Nxt w o o' ∧ ∀ V, M.Sh o V → M.Sh o' (bif (M.chk o a 2 0 3).2 then V.put a v 3 else V) := by
  refine E.enter (n := 37) (S := fun x => M.ow o x) Try.func18 rfl rfl (by kernel_rfl) (hst.hp (Ch.refl _ _)) ?_
  refine E.C.seq ?_
  refine E.C.region ?_
  refine E.G.op (.int .u32 0) (fun w => by kernel_rfl) (by kernel_rfl) ?_
  refine E.G.op (.bool false) (fun w => by kernel_rfl) (by kernel_rfl) ?_
  refine E.To.code ?_
  refine E.C.seq ?_
  refine E.C.seq ?_
  refine E.C.region ?_
  refine E.G.op (.pointer (some ⟨o.m, 0, none⟩)) (fun w => by kernel_rfl) (by kernel_rfl) ?_
  refine E.G.op (.int .u32 ((a : Nat) : Int)) (fun w => by kernel_rfl) (by kernel_rfl) ?_
  refine E.G.op (.int .i64 3) (fun w => by kernel_rfl) (by kernel_rfl) ?_
  refine E.G.call (.tuple #[.int .u32 ((M.chk o a 2 0 3).1), .bool ((M.chk o a 2 0 3).2)]) (fun w h => check_any o a 3 2 (by omega) (by omega) w h.x.at_) (fun w _ => by kernel_rfl) (by kernel_rfl) ?_
  refine E.G.op (.tuple #[.int .u32 ((M.chk o a 2 0 3).1), .bool ((M.chk o a 2 0 3).2)]) (fun w => by kernel_rfl) (by kernel_rfl) ?_
  refine E.G.op (.int .u32 ((M.chk o a 2 0 3).1)) (fun w => by kernel_rfl) (by kernel_rfl) ?_
  refine E.G.op (.bool ((M.chk o a 2 0 3).2)) (fun w => by kernel_rfl) (by kernel_rfl) ?_
  refine E.G.op (.int .u32 ((M.chk o a 2 0 3).1)) (fun w => by kernel_rfl) (by kernel_rfl) ?_
  refine E.G.op (.bool ((M.chk o a 2 0 3).2)) (fun w => by kernel_rfl) (by kernel_rfl) ?_
  refine E.To.code ?_
  refine E.C.seq ?_
  refine E.C.region ?_
  refine E.G.op (.bool ((M.chk o a 2 0 3).2)) (fun w => by kernel_rfl) (by kernel_rfl) ?_
  refine E.G.op (.bool (!((M.chk o a 2 0 3).2))) (fun w => by kernel_rfl) (by kernel_rfl) ?_
  refine E.To.code ?_
  refine E.C.weak [(0, .pointer (some ⟨o.m, 0, none⟩)), (1, .int .u32 ((a : Nat) : Int)), (2, .int .i64 3), (3, .int .u32 v), (8, .int .u32 ((M.chk o a 2 0 3).1)), (9, .bool ((M.chk o a 2 0 3).2)), (19, .bool (!((M.chk o a 2 0 3).2)))] [] ⟨by kernel_rfl, by kernel_rfl⟩ (List.Sublist.refl _) ?_
  refine E.C.cond (!((M.chk o a 2 0 3).2)) (by kernel_rfl) (by kernel_rfl) (fun hc1 => ?_) (fun hc1 => ?_)
  · skip
    refine E.C.seq ?_
    refine E.C.region ?_
    refine E.G.op (.int .u32 ((M.chk o a 2 0 3).1)) (fun w => by kernel_rfl) (by kernel_rfl) ?_
    refine E.G.op (.int .u32 ((M.chk o a 2 0 3).1)) (fun w => by kernel_rfl) (by kernel_rfl) ?_
    refine E.G.op (.bool false) (fun w => by kernel_rfl) (by kernel_rfl) ?_
    refine E.To.code ?_
    refine E.C.ret (E.P.rt (E.To.body (fn := Try.f18) [.int .u32 ((M.chk o a 2 0 3).1), .bool false] ?_ ?_))
    · exact ⟨⟨by kernel_rfl, by kernel_rfl⟩, ⟨by kernel_rfl, by kernel_rfl⟩, trivial⟩
    · intro w h
      exact ⟨by rw [M.b0 hc1]; rfl, o, h.x, h.ch, M.Nxt.refl _ _, fun V hV => by rw [M.b0 hc1]; exact hV⟩
  · skip
    refine E.C.skip (E.To.code ?_)
    refine E.C.seq ?_
    refine E.C.seq ?_
    refine E.C.region ?_
    refine E.G.op (.int .i64 3) (fun w => by kernel_rfl) (by kernel_rfl) ?_
    refine E.G.op (.int .u32 3) (fun w => by kernel_rfl) (by kernel_rfl) ?_
    refine E.G.op (.int .u32 0) (fun w => by kernel_rfl) (by kernel_rfl) ?_
    refine E.To.code ?_
    refine E.C.block ?_
    refine E.C.rounds 5 ?_
    refine E.C.seq ?_
    refine E.C.region ?_
    refine E.G.op (.bool true) (fun w => by kernel_rfl) (by kernel_rfl) ?_
    refine E.To.code ?_
    refine E.C.seq ?_
    refine E.C.condT (by kernel_rfl) (by kernel_rfl) ?_
    refine E.C.skip (E.To.code ?_)
    refine E.C.seq ?_
    refine E.C.block ?_
    refine E.C.seq ?_
    refine E.C.region ?_
    refine E.G.op (.int .u32 0) (fun w => by kernel_rfl) (by kernel_rfl) ?_
    refine E.G.op (.int .u32 0) (fun w => by kernel_rfl) (by kernel_rfl) ?_
    refine E.To.code ?_
    refine E.C.region ?_
    refine E.G.op (.pointer (some ⟨o.m, 0, none⟩)) (fun w => by kernel_rfl) (by kernel_rfl) ?_
    refine E.G.op (.int .u32 ((a : Nat) : Int)) (fun w => by kernel_rfl) (by kernel_rfl) ?_
    refine E.G.op (.int .u32 0) (fun w => by kernel_rfl) (by kernel_rfl) ?_
    refine E.G.val (.int .u32 (((a + 0) % 4294967296 : Nat) : Int)) (by kernel_rfl) (fun w h => E.run_as (a := .int .u32 (IntKind.wrap .u32 (((a : Nat) : Int) + 0))) (by kernel_rfl) (congrArg (Value.int .u32) (by exact M.add32 a 0))) ?_
    refine E.G.op (.int .u32 v) (fun w => by kernel_rfl) (by kernel_rfl) ?_
    refine E.G.op (.int .u32 0) (fun w => by kernel_rfl) (by kernel_rfl) ?_
    refine E.G.op (.int .u32 0) (fun w => by kernel_rfl) (by kernel_rfl) ?_
    refine E.G.op (.int .u32 (Int.fdiv v (2 ^ 0))) (fun w => by kernel_rfl) (by kernel_rfl) ?_
    refine E.G.op (.int .u8 (IntKind.wrap .u8 (Int.fdiv v (2 ^ 0)))) (fun w => by kernel_rfl) (by kernel_rfl) ?_
    refine E.G.callX (I := M.Obj) (fun i => M.Nxt w o i ∧ ∀ V, M.Sh o V → M.Sh i (V.set ((a + 0) % 4294967296) (IntKind.wrap .u8 (Int.fdiv v (2 ^ 0))))) (fun _ => .tuple #[]) (fun i w => M.St i w) (fun _ => []) (fun u h => M.set_call (M.Nxt.refl w o) (by omega) (M.byte_bd _) h) (fun u _ => by kernel_rfl) (by kernel_rfl) (fun o1 hd1 => ?_)
    refine E.P.nb (E.To.code ?_)
    refine E.C.region ?_
    refine E.G.op (.int .u32 1) (fun w => by kernel_rfl) (by kernel_rfl) ?_
    refine E.G.op (.int .u32 1) (fun w => by kernel_rfl) (by kernel_rfl) ?_
    refine E.To.rounds 4 ?_
    refine E.C.weak [(0, .pointer (some ⟨o.m, 0, none⟩)), (1, .int .u32 ((a : Nat) : Int)), (3, .int .u32 v), (8, .int .u32 ((M.chk o a 2 0 3).1)), (9, .bool ((M.chk o a 2 0 3).2)), (10, .int .u32 0), (22, .int .u32 3), (23, .int .u32 1), (24, .bool true), (25, .int .u32 0), (26, .pointer (some ⟨o.m, 0, none⟩)), (27, .int .u32 ((a : Nat) : Int)), (28, .int .u32 0), (29, .int .u32 (((a + 0) % 4294967296 : Nat) : Int)), (30, .int .u32 v), (31, .int .u32 0), (32, .int .u32 0), (33, .int .u32 (Int.fdiv v (2 ^ 0))), (34, .int .u8 (IntKind.wrap .u8 (Int.fdiv v (2 ^ 0)))), (36, .int .u32 1)] [] ⟨by kernel_rfl, by kernel_rfl⟩ (List.Sublist.refl _) ?_
    refine E.C.seq ?_
    refine E.C.region ?_
    refine E.G.op (.bool true) (fun w => by kernel_rfl) (by kernel_rfl) ?_
    refine E.To.code ?_
    refine E.C.seq ?_
    refine E.C.condT (by kernel_rfl) (by kernel_rfl) ?_
    refine E.C.skip (E.To.code ?_)
    refine E.C.seq ?_
    refine E.C.block ?_
    refine E.C.seq ?_
    refine E.C.region ?_
    refine E.G.op (.int .u32 1) (fun w => by kernel_rfl) (by kernel_rfl) ?_
    refine E.G.op (.int .u32 1) (fun w => by kernel_rfl) (by kernel_rfl) ?_
    refine E.To.code ?_
    refine E.C.region ?_
    refine E.G.op (.pointer (some ⟨o.m, 0, none⟩)) (fun w => by kernel_rfl) (by kernel_rfl) ?_
    refine E.G.op (.int .u32 ((a : Nat) : Int)) (fun w => by kernel_rfl) (by kernel_rfl) ?_
    refine E.G.op (.int .u32 1) (fun w => by kernel_rfl) (by kernel_rfl) ?_
    refine E.G.val (.int .u32 (((a + 1) % 4294967296 : Nat) : Int)) (by kernel_rfl) (fun w h => E.run_as (a := .int .u32 (IntKind.wrap .u32 (((a : Nat) : Int) + 1))) (by kernel_rfl) (congrArg (Value.int .u32) (by exact M.add32 a 1))) ?_
    refine E.G.op (.int .u32 v) (fun w => by kernel_rfl) (by kernel_rfl) ?_
    refine E.G.op (.int .u32 1) (fun w => by kernel_rfl) (by kernel_rfl) ?_
    refine E.G.op (.int .u32 8) (fun w => by kernel_rfl) (by kernel_rfl) ?_
    refine E.G.op (.int .u32 (Int.fdiv v (2 ^ 8))) (fun w => by kernel_rfl) (by kernel_rfl) ?_
    refine E.G.op (.int .u8 (IntKind.wrap .u8 (Int.fdiv v (2 ^ 8)))) (fun w => by kernel_rfl) (by kernel_rfl) ?_
    refine E.G.callX (I := M.Obj) (fun i => M.Nxt w o i ∧ ∀ V, M.Sh o1 V → M.Sh i (V.set ((a + 1) % 4294967296) (IntKind.wrap .u8 (Int.fdiv v (2 ^ 8))))) (fun _ => .tuple #[]) (fun i w => M.St i w) (fun _ => []) (fun u h => M.set_call hd1.1 (by omega) (M.byte_bd _) h) (fun u _ => by kernel_rfl) (by kernel_rfl) (fun o2 hd2 => ?_)
    refine E.P.nb (E.To.code ?_)
    refine E.C.region ?_
    refine E.G.op (.int .u32 2) (fun w => by kernel_rfl) (by kernel_rfl) ?_
    refine E.G.op (.int .u32 2) (fun w => by kernel_rfl) (by kernel_rfl) ?_
    refine E.To.rounds 3 ?_
    refine E.C.weak [(0, .pointer (some ⟨o.m, 0, none⟩)), (1, .int .u32 ((a : Nat) : Int)), (3, .int .u32 v), (8, .int .u32 ((M.chk o a 2 0 3).1)), (9, .bool ((M.chk o a 2 0 3).2)), (10, .int .u32 1), (22, .int .u32 3), (23, .int .u32 2), (24, .bool true), (25, .int .u32 1), (26, .pointer (some ⟨o.m, 0, none⟩)), (27, .int .u32 ((a : Nat) : Int)), (28, .int .u32 1), (29, .int .u32 (((a + 1) % 4294967296 : Nat) : Int)), (30, .int .u32 v), (31, .int .u32 1), (32, .int .u32 8), (33, .int .u32 (Int.fdiv v (2 ^ 8))), (34, .int .u8 (IntKind.wrap .u8 (Int.fdiv v (2 ^ 8)))), (36, .int .u32 2)] [] ⟨by kernel_rfl, by kernel_rfl⟩ (List.Sublist.refl _) ?_
    refine E.C.seq ?_
    refine E.C.region ?_
    refine E.G.op (.bool true) (fun w => by kernel_rfl) (by kernel_rfl) ?_
    refine E.To.code ?_
    refine E.C.seq ?_
    refine E.C.condT (by kernel_rfl) (by kernel_rfl) ?_
    refine E.C.skip (E.To.code ?_)
    refine E.C.seq ?_
    refine E.C.block ?_
    refine E.C.seq ?_
    refine E.C.region ?_
    refine E.G.op (.int .u32 2) (fun w => by kernel_rfl) (by kernel_rfl) ?_
    refine E.G.op (.int .u32 2) (fun w => by kernel_rfl) (by kernel_rfl) ?_
    refine E.To.code ?_
    refine E.C.region ?_
    refine E.G.op (.pointer (some ⟨o.m, 0, none⟩)) (fun w => by kernel_rfl) (by kernel_rfl) ?_
    refine E.G.op (.int .u32 ((a : Nat) : Int)) (fun w => by kernel_rfl) (by kernel_rfl) ?_
    refine E.G.op (.int .u32 2) (fun w => by kernel_rfl) (by kernel_rfl) ?_
    refine E.G.val (.int .u32 (((a + 2) % 4294967296 : Nat) : Int)) (by kernel_rfl) (fun w h => E.run_as (a := .int .u32 (IntKind.wrap .u32 (((a : Nat) : Int) + 2))) (by kernel_rfl) (congrArg (Value.int .u32) (by exact M.add32 a 2))) ?_
    refine E.G.op (.int .u32 v) (fun w => by kernel_rfl) (by kernel_rfl) ?_
    refine E.G.op (.int .u32 2) (fun w => by kernel_rfl) (by kernel_rfl) ?_
    refine E.G.op (.int .u32 16) (fun w => by kernel_rfl) (by kernel_rfl) ?_
    refine E.G.op (.int .u32 (Int.fdiv v (2 ^ 16))) (fun w => by kernel_rfl) (by kernel_rfl) ?_
    refine E.G.op (.int .u8 (IntKind.wrap .u8 (Int.fdiv v (2 ^ 16)))) (fun w => by kernel_rfl) (by kernel_rfl) ?_
    refine E.G.callX (I := M.Obj) (fun i => M.Nxt w o i ∧ ∀ V, M.Sh o2 V → M.Sh i (V.set ((a + 2) % 4294967296) (IntKind.wrap .u8 (Int.fdiv v (2 ^ 16))))) (fun _ => .tuple #[]) (fun i w => M.St i w) (fun _ => []) (fun u h => M.set_call hd2.1 (by omega) (M.byte_bd _) h) (fun u _ => by kernel_rfl) (by kernel_rfl) (fun o3 hd3 => ?_)
    refine E.P.nb (E.To.code ?_)
    refine E.C.region ?_
    refine E.G.op (.int .u32 3) (fun w => by kernel_rfl) (by kernel_rfl) ?_
    refine E.G.op (.int .u32 3) (fun w => by kernel_rfl) (by kernel_rfl) ?_
    refine E.To.rounds 2 ?_
    refine E.C.weak [(0, .pointer (some ⟨o.m, 0, none⟩)), (1, .int .u32 ((a : Nat) : Int)), (3, .int .u32 v), (8, .int .u32 ((M.chk o a 2 0 3).1)), (9, .bool ((M.chk o a 2 0 3).2)), (10, .int .u32 2), (22, .int .u32 3), (23, .int .u32 3), (24, .bool true), (25, .int .u32 2), (26, .pointer (some ⟨o.m, 0, none⟩)), (27, .int .u32 ((a : Nat) : Int)), (28, .int .u32 2), (29, .int .u32 (((a + 2) % 4294967296 : Nat) : Int)), (30, .int .u32 v), (31, .int .u32 2), (32, .int .u32 16), (33, .int .u32 (Int.fdiv v (2 ^ 16))), (34, .int .u8 (IntKind.wrap .u8 (Int.fdiv v (2 ^ 16)))), (36, .int .u32 3)] [] ⟨by kernel_rfl, by kernel_rfl⟩ (List.Sublist.refl _) ?_
    refine E.C.seq ?_
    refine E.C.region ?_
    refine E.G.op (.bool false) (fun w => by kernel_rfl) (by kernel_rfl) ?_
    refine E.To.code ?_
    refine E.C.seq ?_
    refine E.C.condF (by kernel_rfl) (by kernel_rfl) ?_
    refine E.C.exit (E.P.et (E.P.et (E.P.eh (E.To.code ?_))))
    refine E.C.weak [(8, .int .u32 ((M.chk o a 2 0 3).1)), (9, .bool ((M.chk o a 2 0 3).2))] [] ⟨by kernel_rfl, by kernel_rfl⟩ (List.Sublist.refl _) ?_
    refine E.C.seq ?_
    refine E.C.region ?_
    refine E.G.op (.int .u32 0) (fun w => by kernel_rfl) (by kernel_rfl) ?_
    refine E.G.op (.bool true) (fun w => by kernel_rfl) (by kernel_rfl) ?_
    refine E.To.code ?_
    refine E.C.ret (E.To.body (fn := Try.f18) [.int .u32 0, .bool true] ?_ ?_)
    · exact ⟨⟨by kernel_rfl, by kernel_rfl⟩, ⟨by kernel_rfl, by kernel_rfl⟩, trivial⟩
    · intro w h
      exact ⟨by rw [M.b1 hc1]; rfl, o3, h.x, h.ch, hd3.1, fun V hV => by rw [M.b1 hc1]; exact (hd3.2 _ (hd2.2 _ (hd1.2 _ hV)))⟩
theorem Store_4 (o : M.Obj) (a : Nat) (v : Int) (ha : a < 4294967296) (w : World) (hst : M.St o w) : Calls Try.prog 18 #[.pointer (some ⟨o.m, 0, none⟩), .int .u32 ((a : Nat) : Int), .int .i64 4, .int .u32 v] w fun e w' => e = .returned (bif (M.chk o a 2 0 4).2 then .tuple #[.int .u32 0, .bool true] else .tuple #[.int .u32 (M.chk o a 2 0 4).1, .bool false]) ∧ ∃ o', M.St o' w' ∧ Ch (fun x => M.ow o x) w w' ∧ M.Nxt w o o' ∧ ∀ V, M.Sh o V → M.Sh o' (bif (M.chk o a 2 0 4).2 then V.put a v 4 else V) := by
  refine E.enter (n := 37) (S := fun x => M.ow o x) Try.func18 rfl rfl (by kernel_rfl) (hst.hp (Ch.refl _ _)) ?_
  refine E.C.seq ?_
  refine E.C.region ?_
  refine E.G.op (.int .u32 0) (fun w => by kernel_rfl) (by kernel_rfl) ?_
  refine E.G.op (.bool false) (fun w => by kernel_rfl) (by kernel_rfl) ?_
  refine E.To.code ?_
  refine E.C.seq ?_
  refine E.C.seq ?_
  refine E.C.region ?_
  refine E.G.op (.pointer (some ⟨o.m, 0, none⟩)) (fun w => by kernel_rfl) (by kernel_rfl) ?_
  refine E.G.op (.int .u32 ((a : Nat) : Int)) (fun w => by kernel_rfl) (by kernel_rfl) ?_
  refine E.G.op (.int .i64 4) (fun w => by kernel_rfl) (by kernel_rfl) ?_
  refine E.G.call (.tuple #[.int .u32 ((M.chk o a 2 0 4).1), .bool ((M.chk o a 2 0 4).2)]) (fun w h => check_any o a 4 2 (by omega) (by omega) w h.x.at_) (fun w _ => by kernel_rfl) (by kernel_rfl) ?_
  refine E.G.op (.tuple #[.int .u32 ((M.chk o a 2 0 4).1), .bool ((M.chk o a 2 0 4).2)]) (fun w => by kernel_rfl) (by kernel_rfl) ?_
  refine E.G.op (.int .u32 ((M.chk o a 2 0 4).1)) (fun w => by kernel_rfl) (by kernel_rfl) ?_
  refine E.G.op (.bool ((M.chk o a 2 0 4).2)) (fun w => by kernel_rfl) (by kernel_rfl) ?_
  refine E.G.op (.int .u32 ((M.chk o a 2 0 4).1)) (fun w => by kernel_rfl) (by kernel_rfl) ?_
  refine E.G.op (.bool ((M.chk o a 2 0 4).2)) (fun w => by kernel_rfl) (by kernel_rfl) ?_
  refine E.To.code ?_
  refine E.C.seq ?_
  refine E.C.region ?_
  refine E.G.op (.bool ((M.chk o a 2 0 4).2)) (fun w => by kernel_rfl) (by kernel_rfl) ?_
  refine E.G.op (.bool (!((M.chk o a 2 0 4).2))) (fun w => by kernel_rfl) (by kernel_rfl) ?_
  refine E.To.code ?_
  refine E.C.weak [(0, .pointer (some ⟨o.m, 0, none⟩)), (1, .int .u32 ((a : Nat) : Int)), (2, .int .i64 4), (3, .int .u32 v), (8, .int .u32 ((M.chk o a 2 0 4).1)), (9, .bool ((M.chk o a 2 0 4).2)), (19, .bool (!((M.chk o a 2 0 4).2)))] [] ⟨by kernel_rfl, by kernel_rfl⟩ (List.Sublist.refl _) ?_
  refine E.C.cond (!((M.chk o a 2 0 4).2)) (by kernel_rfl) (by kernel_rfl) (fun hc1 => ?_) (fun hc1 => ?_)
  · skip
    refine E.C.seq ?_
    refine E.C.region ?_
    refine E.G.op (.int .u32 ((M.chk o a 2 0 4).1)) (fun w => by kernel_rfl) (by kernel_rfl) ?_
    refine E.G.op (.int .u32 ((M.chk o a 2 0 4).1)) (fun w => by kernel_rfl) (by kernel_rfl) ?_
    refine E.G.op (.bool false) (fun w => by kernel_rfl) (by kernel_rfl) ?_
    refine E.To.code ?_
    refine E.C.ret (E.P.rt (E.To.body (fn := Try.f18) [.int .u32 ((M.chk o a 2 0 4).1), .bool false] ?_ ?_))
    · exact ⟨⟨by kernel_rfl, by kernel_rfl⟩, ⟨by kernel_rfl, by kernel_rfl⟩, trivial⟩
    · intro w h
      exact ⟨by rw [M.b0 hc1]; rfl, o, h.x, h.ch, M.Nxt.refl _ _, fun V hV => by rw [M.b0 hc1]; exact hV⟩
  · skip
    refine E.C.skip (E.To.code ?_)
    refine E.C.seq ?_
    refine E.C.seq ?_
    refine E.C.region ?_
    refine E.G.op (.int .i64 4) (fun w => by kernel_rfl) (by kernel_rfl) ?_
    refine E.G.op (.int .u32 4) (fun w => by kernel_rfl) (by kernel_rfl) ?_
    refine E.G.op (.int .u32 0) (fun w => by kernel_rfl) (by kernel_rfl) ?_
    refine E.To.code ?_
    refine E.C.block ?_
    refine E.C.rounds 5 ?_
    refine E.C.seq ?_
    refine E.C.region ?_
    refine E.G.op (.bool true) (fun w => by kernel_rfl) (by kernel_rfl) ?_
    refine E.To.code ?_
    refine E.C.seq ?_
    refine E.C.condT (by kernel_rfl) (by kernel_rfl) ?_
    refine E.C.skip (E.To.code ?_)
    refine E.C.seq ?_
    refine E.C.block ?_
    refine E.C.seq ?_
    refine E.C.region ?_
    refine E.G.op (.int .u32 0) (fun w => by kernel_rfl) (by kernel_rfl) ?_
    refine E.G.op (.int .u32 0) (fun w => by kernel_rfl) (by kernel_rfl) ?_
    refine E.To.code ?_
    refine E.C.region ?_
    refine E.G.op (.pointer (some ⟨o.m, 0, none⟩)) (fun w => by kernel_rfl) (by kernel_rfl) ?_
    refine E.G.op (.int .u32 ((a : Nat) : Int)) (fun w => by kernel_rfl) (by kernel_rfl) ?_
    refine E.G.op (.int .u32 0) (fun w => by kernel_rfl) (by kernel_rfl) ?_
    refine E.G.val (.int .u32 (((a + 0) % 4294967296 : Nat) : Int)) (by kernel_rfl) (fun w h => E.run_as (a := .int .u32 (IntKind.wrap .u32 (((a : Nat) : Int) + 0))) (by kernel_rfl) (congrArg (Value.int .u32) (by exact M.add32 a 0))) ?_
    refine E.G.op (.int .u32 v) (fun w => by kernel_rfl) (by kernel_rfl) ?_
    refine E.G.op (.int .u32 0) (fun w => by kernel_rfl) (by kernel_rfl) ?_
    refine E.G.op (.int .u32 0) (fun w => by kernel_rfl) (by kernel_rfl) ?_
    refine E.G.op (.int .u32 (Int.fdiv v (2 ^ 0))) (fun w => by kernel_rfl) (by kernel_rfl) ?_
    refine E.G.op (.int .u8 (IntKind.wrap .u8 (Int.fdiv v (2 ^ 0)))) (fun w => by kernel_rfl) (by kernel_rfl) ?_
    refine E.G.callX (I := M.Obj) (fun i => M.Nxt w o i ∧ ∀ V, M.Sh o V → M.Sh i (V.set ((a + 0) % 4294967296) (IntKind.wrap .u8 (Int.fdiv v (2 ^ 0))))) (fun _ => .tuple #[]) (fun i w => M.St i w) (fun _ => []) (fun u h => M.set_call (M.Nxt.refl w o) (by omega) (M.byte_bd _) h) (fun u _ => by kernel_rfl) (by kernel_rfl) (fun o1 hd1 => ?_)
    refine E.P.nb (E.To.code ?_)
    refine E.C.region ?_
    refine E.G.op (.int .u32 1) (fun w => by kernel_rfl) (by kernel_rfl) ?_
    refine E.G.op (.int .u32 1) (fun w => by kernel_rfl) (by kernel_rfl) ?_
    refine E.To.rounds 4 ?_
    refine E.C.weak [(0, .pointer (some ⟨o.m, 0, none⟩)), (1, .int .u32 ((a : Nat) : Int)), (3, .int .u32 v), (8, .int .u32 ((M.chk o a 2 0 4).1)), (9, .bool ((M.chk o a 2 0 4).2)), (10, .int .u32 0), (22, .int .u32 4), (23, .int .u32 1), (24, .bool true), (25, .int .u32 0), (26, .pointer (some ⟨o.m, 0, none⟩)), (27, .int .u32 ((a : Nat) : Int)), (28, .int .u32 0), (29, .int .u32 (((a + 0) % 4294967296 : Nat) : Int)), (30, .int .u32 v), (31, .int .u32 0), (32, .int .u32 0), (33, .int .u32 (Int.fdiv v (2 ^ 0))), (34, .int .u8 (IntKind.wrap .u8 (Int.fdiv v (2 ^ 0)))), (36, .int .u32 1)] [] ⟨by kernel_rfl, by kernel_rfl⟩ (List.Sublist.refl _) ?_
    refine E.C.seq ?_
    refine E.C.region ?_
    refine E.G.op (.bool true) (fun w => by kernel_rfl) (by kernel_rfl) ?_
    refine E.To.code ?_
    refine E.C.seq ?_
    refine E.C.condT (by kernel_rfl) (by kernel_rfl) ?_
    refine E.C.skip (E.To.code ?_)
    refine E.C.seq ?_
    refine E.C.block ?_
    refine E.C.seq ?_
    refine E.C.region ?_
    refine E.G.op (.int .u32 1) (fun w => by kernel_rfl) (by kernel_rfl) ?_
    refine E.G.op (.int .u32 1) (fun w => by kernel_rfl) (by kernel_rfl) ?_
    refine E.To.code ?_
    refine E.C.region ?_
    refine E.G.op (.pointer (some ⟨o.m, 0, none⟩)) (fun w => by kernel_rfl) (by kernel_rfl) ?_
    refine E.G.op (.int .u32 ((a : Nat) : Int)) (fun w => by kernel_rfl) (by kernel_rfl) ?_
    refine E.G.op (.int .u32 1) (fun w => by kernel_rfl) (by kernel_rfl) ?_
    refine E.G.val (.int .u32 (((a + 1) % 4294967296 : Nat) : Int)) (by kernel_rfl) (fun w h => E.run_as (a := .int .u32 (IntKind.wrap .u32 (((a : Nat) : Int) + 1))) (by kernel_rfl) (congrArg (Value.int .u32) (by exact M.add32 a 1))) ?_
    refine E.G.op (.int .u32 v) (fun w => by kernel_rfl) (by kernel_rfl) ?_
    refine E.G.op (.int .u32 1) (fun w => by kernel_rfl) (by kernel_rfl) ?_
    refine E.G.op (.int .u32 8) (fun w => by kernel_rfl) (by kernel_rfl) ?_
    refine E.G.op (.int .u32 (Int.fdiv v (2 ^ 8))) (fun w => by kernel_rfl) (by kernel_rfl) ?_
    refine E.G.op (.int .u8 (IntKind.wrap .u8 (Int.fdiv v (2 ^ 8)))) (fun w => by kernel_rfl) (by kernel_rfl) ?_
    refine E.G.callX (I := M.Obj) (fun i => M.Nxt w o i ∧ ∀ V, M.Sh o1 V → M.Sh i (V.set ((a + 1) % 4294967296) (IntKind.wrap .u8 (Int.fdiv v (2 ^ 8))))) (fun _ => .tuple #[]) (fun i w => M.St i w) (fun _ => []) (fun u h => M.set_call hd1.1 (by omega) (M.byte_bd _) h) (fun u _ => by kernel_rfl) (by kernel_rfl) (fun o2 hd2 => ?_)
    refine E.P.nb (E.To.code ?_)
    refine E.C.region ?_
    refine E.G.op (.int .u32 2) (fun w => by kernel_rfl) (by kernel_rfl) ?_
    refine E.G.op (.int .u32 2) (fun w => by kernel_rfl) (by kernel_rfl) ?_
    refine E.To.rounds 3 ?_
    refine E.C.weak [(0, .pointer (some ⟨o.m, 0, none⟩)), (1, .int .u32 ((a : Nat) : Int)), (3, .int .u32 v), (8, .int .u32 ((M.chk o a 2 0 4).1)), (9, .bool ((M.chk o a 2 0 4).2)), (10, .int .u32 1), (22, .int .u32 4), (23, .int .u32 2), (24, .bool true), (25, .int .u32 1), (26, .pointer (some ⟨o.m, 0, none⟩)), (27, .int .u32 ((a : Nat) : Int)), (28, .int .u32 1), (29, .int .u32 (((a + 1) % 4294967296 : Nat) : Int)), (30, .int .u32 v), (31, .int .u32 1), (32, .int .u32 8), (33, .int .u32 (Int.fdiv v (2 ^ 8))), (34, .int .u8 (IntKind.wrap .u8 (Int.fdiv v (2 ^ 8)))), (36, .int .u32 2)] [] ⟨by kernel_rfl, by kernel_rfl⟩ (List.Sublist.refl _) ?_
    refine E.C.seq ?_
    refine E.C.region ?_
    refine E.G.op (.bool true) (fun w => by kernel_rfl) (by kernel_rfl) ?_
    refine E.To.code ?_
    refine E.C.seq ?_
    refine E.C.condT (by kernel_rfl) (by kernel_rfl) ?_
    refine E.C.skip (E.To.code ?_)
    refine E.C.seq ?_
    refine E.C.block ?_
    refine E.C.seq ?_
    refine E.C.region ?_
    refine E.G.op (.int .u32 2) (fun w => by kernel_rfl) (by kernel_rfl) ?_
    refine E.G.op (.int .u32 2) (fun w => by kernel_rfl) (by kernel_rfl) ?_
    refine E.To.code ?_
    refine E.C.region ?_
    refine E.G.op (.pointer (some ⟨o.m, 0, none⟩)) (fun w => by kernel_rfl) (by kernel_rfl) ?_
    refine E.G.op (.int .u32 ((a : Nat) : Int)) (fun w => by kernel_rfl) (by kernel_rfl) ?_
    refine E.G.op (.int .u32 2) (fun w => by kernel_rfl) (by kernel_rfl) ?_
    refine E.G.val (.int .u32 (((a + 2) % 4294967296 : Nat) : Int)) (by kernel_rfl) (fun w h => E.run_as (a := .int .u32 (IntKind.wrap .u32 (((a : Nat) : Int) + 2))) (by kernel_rfl) (congrArg (Value.int .u32) (by exact M.add32 a 2))) ?_
    refine E.G.op (.int .u32 v) (fun w => by kernel_rfl) (by kernel_rfl) ?_
    refine E.G.op (.int .u32 2) (fun w => by kernel_rfl) (by kernel_rfl) ?_
    refine E.G.op (.int .u32 16) (fun w => by kernel_rfl) (by kernel_rfl) ?_
    refine E.G.op (.int .u32 (Int.fdiv v (2 ^ 16))) (fun w => by kernel_rfl) (by kernel_rfl) ?_
    refine E.G.op (.int .u8 (IntKind.wrap .u8 (Int.fdiv v (2 ^ 16)))) (fun w => by kernel_rfl) (by kernel_rfl) ?_
    refine E.G.callX (I := M.Obj) (fun i => M.Nxt w o i ∧ ∀ V, M.Sh o2 V → M.Sh i (V.set ((a + 2) % 4294967296) (IntKind.wrap .u8 (Int.fdiv v (2 ^ 16))))) (fun _ => .tuple #[]) (fun i w => M.St i w) (fun _ => []) (fun u h => M.set_call hd2.1 (by omega) (M.byte_bd _) h) (fun u _ => by kernel_rfl) (by kernel_rfl) (fun o3 hd3 => ?_)
    refine E.P.nb (E.To.code ?_)
    refine E.C.region ?_
    refine E.G.op (.int .u32 3) (fun w => by kernel_rfl) (by kernel_rfl) ?_
    refine E.G.op (.int .u32 3) (fun w => by kernel_rfl) (by kernel_rfl) ?_
    refine E.To.rounds 2 ?_
    refine E.C.weak [(0, .pointer (some ⟨o.m, 0, none⟩)), (1, .int .u32 ((a : Nat) : Int)), (3, .int .u32 v), (8, .int .u32 ((M.chk o a 2 0 4).1)), (9, .bool ((M.chk o a 2 0 4).2)), (10, .int .u32 2), (22, .int .u32 4), (23, .int .u32 3), (24, .bool true), (25, .int .u32 2), (26, .pointer (some ⟨o.m, 0, none⟩)), (27, .int .u32 ((a : Nat) : Int)), (28, .int .u32 2), (29, .int .u32 (((a + 2) % 4294967296 : Nat) : Int)), (30, .int .u32 v), (31, .int .u32 2), (32, .int .u32 16), (33, .int .u32 (Int.fdiv v (2 ^ 16))), (34, .int .u8 (IntKind.wrap .u8 (Int.fdiv v (2 ^ 16)))), (36, .int .u32 3)] [] ⟨by kernel_rfl, by kernel_rfl⟩ (List.Sublist.refl _) ?_
    refine E.C.seq ?_
    refine E.C.region ?_
    refine E.G.op (.bool true) (fun w => by kernel_rfl) (by kernel_rfl) ?_
    refine E.To.code ?_
    refine E.C.seq ?_
    refine E.C.condT (by kernel_rfl) (by kernel_rfl) ?_
    refine E.C.skip (E.To.code ?_)
    refine E.C.seq ?_
    refine E.C.block ?_
    refine E.C.seq ?_
    refine E.C.region ?_
    refine E.G.op (.int .u32 3) (fun w => by kernel_rfl) (by kernel_rfl) ?_
    refine E.G.op (.int .u32 3) (fun w => by kernel_rfl) (by kernel_rfl) ?_
    refine E.To.code ?_
    refine E.C.region ?_
    refine E.G.op (.pointer (some ⟨o.m, 0, none⟩)) (fun w => by kernel_rfl) (by kernel_rfl) ?_
    refine E.G.op (.int .u32 ((a : Nat) : Int)) (fun w => by kernel_rfl) (by kernel_rfl) ?_
    refine E.G.op (.int .u32 3) (fun w => by kernel_rfl) (by kernel_rfl) ?_
    refine E.G.val (.int .u32 (((a + 3) % 4294967296 : Nat) : Int)) (by kernel_rfl) (fun w h => E.run_as (a := .int .u32 (IntKind.wrap .u32 (((a : Nat) : Int) + 3))) (by kernel_rfl) (congrArg (Value.int .u32) (by exact M.add32 a 3))) ?_
    refine E.G.op (.int .u32 v) (fun w => by kernel_rfl) (by kernel_rfl) ?_
    refine E.G.op (.int .u32 3) (fun w => by kernel_rfl) (by kernel_rfl) ?_
    refine E.G.op (.int .u32 24) (fun w => by kernel_rfl) (by kernel_rfl) ?_
    refine E.G.op (.int .u32 (Int.fdiv v (2 ^ 24))) (fun w => by kernel_rfl) (by kernel_rfl) ?_
    refine E.G.op (.int .u8 (IntKind.wrap .u8 (Int.fdiv v (2 ^ 24)))) (fun w => by kernel_rfl) (by kernel_rfl) ?_
    refine E.G.callX (I := M.Obj) (fun i => M.Nxt w o i ∧ ∀ V, M.Sh o3 V → M.Sh i (V.set ((a + 3) % 4294967296) (IntKind.wrap .u8 (Int.fdiv v (2 ^ 24))))) (fun _ => .tuple #[]) (fun i w => M.St i w) (fun _ => []) (fun u h => M.set_call hd3.1 (by omega) (M.byte_bd _) h) (fun u _ => by kernel_rfl) (by kernel_rfl) (fun o4 hd4 => ?_)
    refine E.P.nb (E.To.code ?_)
    refine E.C.region ?_
    refine E.G.op (.int .u32 4) (fun w => by kernel_rfl) (by kernel_rfl) ?_
    refine E.G.op (.int .u32 4) (fun w => by kernel_rfl) (by kernel_rfl) ?_
    refine E.To.rounds 1 ?_
    refine E.C.weak [(0, .pointer (some ⟨o.m, 0, none⟩)), (1, .int .u32 ((a : Nat) : Int)), (3, .int .u32 v), (8, .int .u32 ((M.chk o a 2 0 4).1)), (9, .bool ((M.chk o a 2 0 4).2)), (10, .int .u32 3), (22, .int .u32 4), (23, .int .u32 4), (24, .bool true), (25, .int .u32 3), (26, .pointer (some ⟨o.m, 0, none⟩)), (27, .int .u32 ((a : Nat) : Int)), (28, .int .u32 3), (29, .int .u32 (((a + 3) % 4294967296 : Nat) : Int)), (30, .int .u32 v), (31, .int .u32 3), (32, .int .u32 24), (33, .int .u32 (Int.fdiv v (2 ^ 24))), (34, .int .u8 (IntKind.wrap .u8 (Int.fdiv v (2 ^ 24)))), (36, .int .u32 4)] [] ⟨by kernel_rfl, by kernel_rfl⟩ (List.Sublist.refl _) ?_
    refine E.C.seq ?_
    refine E.C.region ?_
    refine E.G.op (.bool false) (fun w => by kernel_rfl) (by kernel_rfl) ?_
    refine E.To.code ?_
    refine E.C.seq ?_
    refine E.C.condF (by kernel_rfl) (by kernel_rfl) ?_
    refine E.C.exit (E.P.et (E.P.et (E.P.eh (E.To.code ?_))))
    refine E.C.weak [(8, .int .u32 ((M.chk o a 2 0 4).1)), (9, .bool ((M.chk o a 2 0 4).2))] [] ⟨by kernel_rfl, by kernel_rfl⟩ (List.Sublist.refl _) ?_
    refine E.C.seq ?_
    refine E.C.region ?_
    refine E.G.op (.int .u32 0) (fun w => by kernel_rfl) (by kernel_rfl) ?_
    refine E.G.op (.bool true) (fun w => by kernel_rfl) (by kernel_rfl) ?_
    refine E.To.code ?_
    refine E.C.ret (E.To.body (fn := Try.f18) [.int .u32 0, .bool true] ?_ ?_)
    · exact ⟨⟨by kernel_rfl, by kernel_rfl⟩, ⟨by kernel_rfl, by kernel_rfl⟩, trivial⟩
    · intro w h
      exact ⟨by rw [M.b1 hc1]; rfl, o4, h.x, h.ch, hd4.1, fun V hV => by rw [M.b1 hc1]; exact (hd4.2 _ (hd3.2 _ (hd2.2 _ (hd1.2 _ hV))))⟩
end Go.Proofs.Ytdjjjikokfadiaa
