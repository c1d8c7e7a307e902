/- Walks: each of mem, over Poke, printed by wip/eng. No condition but what is named. -/
import Derived.Test.YtdjjjikokfadiaaProg
import Derived.Test.YtdjjjikokfadiaaMk
namespace Go.Proofs.Ytdjjjikokfadiaa
set_option linter.unusedVariables false
set_option linter.unusedSimpArgs false
open Go.RowKit
theorem poke1_any {S : Nat → Prop} {w0 : World} (o oc : M.Obj) (hd : M.Nxt w0 o oc) (hS : ∀ x, M.ow o x → S x) (g1 g2 a : Nat) (i : Nat) (v : Int) (hi : i < 4294967296) (hv : 0 ≤ v ∧ v < 256) (w : World) (hh : E.Hp S w0 (fun w => M.St oc w) [(g2, [.int .u32 ((a : Nat) : Int)]), (g1, [.pointer (some ⟨o.m, 0, none⟩)])] w) : Calls Try.prog 48 #[.int .i64 ((i : Nat) : Int), .int .u8 v, .pointer (some ⟨g1, 0, none⟩), .pointer (some ⟨g2, 0, none⟩)] w fun e w' => ∃ i' : M.Obj, (M.Nxt w0 o i' ∧ ∀ V, M.Sh oc V → M.Sh i' (V.set ((a + i) % 4294967296) v)) ∧ e = .returned (.tuple #[]) ∧ E.Hp S w0 (fun w => M.St i' w) [(g2, [.int .u32 ((a : Nat) : Int)]), (g1, [.pointer (some ⟨o.m, 0, none⟩)])] w' := by
  refine E.enter (n := 13) (S := S) Try.func48 rfl rfl (by kernel_rfl) (hh) ?_
  refine E.C.region ?_
  refine E.G.val (.pointer (some ⟨o.m, 0, none⟩)) (by kernel_rfl) (fun w h => E.run_load h 1 rfl rfl (by kernel_rfl)) ?_
  refine E.G.val (.int .u32 ((a : Nat) : Int)) (by kernel_rfl) (fun w h => E.run_load h 0 rfl rfl (by kernel_rfl)) ?_
  refine E.G.op (.int .i64 ((i : Nat) : Int)) (fun w => by kernel_rfl) (by kernel_rfl) ?_
  refine E.G.val (.int .u32 ((i : Nat) : Int)) (by kernel_rfl) (fun w h => E.run_as (a := .int .u32 (IntKind.wrap .u32 ((i : Nat) : Int))) (by kernel_rfl) (congrArg (Value.int .u32) (M.w32 hi))) ?_
  refine E.G.val (.int .u32 (((a + i) % 4294967296 : Nat) : Int)) (by kernel_rfl) (fun w h => E.run_as (a := .int .u32 (IntKind.wrap .u32 (((a : Nat) : Int) + ((i : Nat) : Int)))) (by kernel_rfl) (congrArg (Value.int .u32) (M.add32 a i))) ?_
  refine E.G.op (.int .u8 v) (fun w => by kernel_rfl) (by kernel_rfl) ?_
  refine E.G.callX (I := M.Obj) (fun oo => M.Nxt w0 o oo ∧ ∀ V, M.Sh oc V → M.Sh oo (V.set ((a + i) % 4294967296) v)) (fun _ => .tuple #[]) (fun oo w => M.St oo w) (fun _ => [(g2, [.int .u32 ((a : Nat) : Int)]), (g1, [.pointer (some ⟨o.m, 0, none⟩)])]) (fun u h => M.set_callL (fun _ h => h) hd hS (by omega) hv h) (fun u _ => by kernel_rfl) (by kernel_rfl) (fun o1 hd1 => ?_)
  refine E.To.bodyN (fn := Try.f48) [] ?_ ?_
  · exact trivial
  · intro w h
    exact ⟨o1, hd1, rfl, h⟩
theorem each_any {S : Nat → Prop} {w0 : World} (o oc : M.Obj) (hd : M.Nxt w0 o oc) (hS : ∀ x, M.ow o x → S x) (g1 g2 a : Nat) (s : ByteArray) (hs : s.size < 4294967296) (w : World) (hh : E.Hp S w0 (fun w => M.St oc w) [(g2, [.int .u32 ((a : Nat) : Int)]), (g1, [.pointer (some ⟨o.m, 0, none⟩)])] w) : Calls Try.prog 47 #[.string s, .func (.func 48) #[] #[.pointer (some ⟨g1, 0, none⟩), .pointer (some ⟨g2, 0, none⟩)]] w fun e w' => ∃ i' : M.Obj, (M.Nxt w0 o i' ∧ ∀ V, M.Sh oc V → M.Sh i' (V.poke a s s.size)) ∧ e = .returned (.tuple #[]) ∧ E.Hp S w0 (fun w => M.St i' w) [(g2, [.int .u32 ((a : Nat) : Int)]), (g1, [.pointer (some ⟨o.m, 0, none⟩)])] w' := by
  refine E.enter (n := 17) (S := S) Try.func47 rfl rfl (by kernel_rfl) (hh) ?_
  refine E.C.seq ?_
  refine E.C.region ?_
  refine E.G.op (.string s) (fun w => by kernel_rfl) (by kernel_rfl) ?_
  refine E.G.op (.int .i64 ((s.size : Nat) : Int)) (fun w => by kernel_rfl) (by kernel_rfl) ?_
  refine E.G.op (.int .i64 0) (fun w => by kernel_rfl) (by kernel_rfl) ?_
  refine E.To.code ?_
  refine E.C.block ?_
  refine E.C.loop (I := Nat × M.Obj) (fun i => s.size - i.1) (fun i => i.1 ≤ s.size ∧ M.Nxt w0 o i.2 ∧ ∀ V, M.Sh oc V → M.Sh i.2 (V.poke a s i.1)) (fun i => [(0, .string s), (1, .func (.func 48) #[] #[.pointer (some ⟨g1, 0, none⟩), .pointer (some ⟨g2, 0, none⟩)]), (6, .int .i64 ((s.size : Nat) : Int)), (7, .int .i64 ((i.1 : Nat) : Int))]) (fun i => fun u => M.St i.2 u) (fun _ => [(g2, [.int .u32 ((a : Nat) : Int)]), (g1, [.pointer (some ⟨o.m, 0, none⟩)])]) (0, oc) (⟨Nat.zero_le _, hd, fun V hV => hV⟩) ⟨by kernel_rfl, by kernel_rfl⟩ (List.Sublist.refl _) (fun _ h => h) (fun i hk1 => ?_)
  refine E.C.seq ?_
  refine E.C.region ?_
  refine E.G.op (.bool (decide (((i.1 : Nat) : Int) < ((s.size : Nat) : Int)))) (fun w => by kernel_rfl) (by kernel_rfl) ?_
  refine E.To.code ?_
  refine E.C.seq ?_
  refine E.C.cond (decide (((i.1 : Nat) : Int) < ((s.size : Nat) : Int))) (by kernel_rfl) (by kernel_rfl) (fun hc1 => ?_) (fun hc1 => ?_)
  · skip
    refine E.C.skip (E.To.code ?_)
    refine E.C.seq ?_
    refine E.C.block ?_
    refine E.C.seq ?_
    refine E.C.region ?_
    refine E.G.op (.int .i64 ((i.1 : Nat) : Int)) (fun w => by kernel_rfl) (by kernel_rfl) ?_
    refine E.G.op (.int .i64 ((i.1 : Nat) : Int)) (fun w => by kernel_rfl) (by kernel_rfl) ?_
    refine E.To.code ?_
    refine E.C.region ?_
    refine E.G.op (.func (.func 48) #[] #[.pointer (some ⟨g1, 0, none⟩), .pointer (some ⟨g2, 0, none⟩)]) (fun w => by kernel_rfl) (by kernel_rfl) ?_
    refine E.G.op (.int .i64 ((i.1 : Nat) : Int)) (fun w => by kernel_rfl) (by kernel_rfl) ?_
    refine E.G.op (.string s) (fun w => by kernel_rfl) (by kernel_rfl) ?_
    refine E.G.op (.int .i64 ((i.1 : Nat) : Int)) (fun w => by kernel_rfl) (by kernel_rfl) ?_
    refine E.G.val (.int .u8 (W.byt s.data.toList i.1)) (by kernel_rfl) (fun w h => E.run_as (a := .int .u8 (W.byt s.data.toList (((i.1 : Nat) : Int)).toNat)) (E.sidx s .i64 ((i.1 : Nat) : Int) (by kernel_rfl) (by kernel_rfl) (by kernel_rfl) (by (first | assumption | ((try simp only [Bool.or_eq_false_iff, Bool.or_eq_true, Bool.and_eq_true, Bool.and_eq_false_iff, decide_eq_true_eq, decide_eq_false_iff_not, ge_iff_le, gt_iff_lt] at *); omega))) (by (first | assumption | ((try simp only [Bool.or_eq_false_iff, Bool.or_eq_true, Bool.and_eq_true, Bool.and_eq_false_iff, decide_eq_true_eq, decide_eq_false_iff_not, ge_iff_le, gt_iff_lt] at *); omega))) w) (rfl)) ?_
    refine E.G.callX (I := M.Obj) (fun i2 => M.Nxt w0 o i2 ∧ ∀ V, M.Sh i.2 V → M.Sh i2 (V.set ((a + i.1) % 4294967296) (W.byt s.data.toList i.1))) (fun _ => .tuple #[]) (fun i w => M.St i w) (fun _ => [(g2, [.int .u32 ((a : Nat) : Int)]), (g1, [.pointer (some ⟨o.m, 0, none⟩)])]) (fun u h => poke1_any o i.2 hk1.2.1 hS g1 g2 a i.1 _ (by (first | assumption | ((try simp only [Bool.or_eq_false_iff, Bool.or_eq_true, Bool.and_eq_true, Bool.and_eq_false_iff, decide_eq_true_eq, decide_eq_false_iff_not, ge_iff_le, gt_iff_lt] at *); omega))) (W.byt_bd _ _) u h) (fun u _ => by kernel_rfl) (by kernel_rfl) (fun o2 hd2 => ?_)
    refine E.P.nb (E.To.code ?_)
    refine E.C.region ?_
    refine E.G.val (.int .i64 ((i.1 + 1 : Nat) : Int)) (by kernel_rfl) (fun w h => E.run_as (a := .int .i64 (IntKind.wrap .i64 (((i.1 : Nat) : Int) + 1))) (by kernel_rfl) (congrArg (Value.int .i64) (M.inc64 (by (first | assumption | ((try simp only [Bool.or_eq_false_iff, Bool.or_eq_true, Bool.and_eq_true, Bool.and_eq_false_iff, decide_eq_true_eq, decide_eq_false_iff_not, ge_iff_le, gt_iff_lt] at *); omega)))))) ?_
    refine E.G.op (.int .i64 ((i.1 + 1 : Nat) : Int)) (fun w => by kernel_rfl) (by kernel_rfl) ?_
    exact E.To.round (i.1 + 1, o2) (by show s.size - (i.1 + 1) < s.size - i.1; (first | assumption | ((try simp only [Bool.or_eq_false_iff, Bool.or_eq_true, Bool.and_eq_true, Bool.and_eq_false_iff, decide_eq_true_eq, decide_eq_false_iff_not, ge_iff_le, gt_iff_lt] at *); omega))) (⟨by show i.1 + 1 ≤ s.size; (first | assumption | ((try simp only [Bool.or_eq_false_iff, Bool.or_eq_true, Bool.and_eq_true, Bool.and_eq_false_iff, decide_eq_true_eq, decide_eq_false_iff_not, ge_iff_le, gt_iff_lt] at *); omega)), hd2.1, fun V hV => hd2.2 _ (hk1.2.2 V hV)⟩) ⟨by kernel_rfl, by kernel_rfl⟩ (List.Sublist.refl _) (fun _ h => h)
  · skip
    refine E.C.exit (E.P.et (E.P.et (E.P.eh (E.To.bodyN (fn := Try.f47) [] ?_ ?_))))
    · exact trivial
    · intro w h
      have e : i.1 = s.size := by (first | assumption | ((try simp only [Bool.or_eq_false_iff, Bool.or_eq_true, Bool.and_eq_true, Bool.and_eq_false_iff, decide_eq_true_eq, decide_eq_false_iff_not, ge_iff_le, gt_iff_lt] at *); omega))
      exact ⟨i.2, ⟨hk1.2.1, fun V hV => by rw [← e]; exact hk1.2.2 V hV⟩, rfl, h⟩
end Go.Proofs.Ytdjjjikokfadiaa
