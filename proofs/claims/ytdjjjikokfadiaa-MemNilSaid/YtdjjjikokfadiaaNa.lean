/- Walks: sanity of the laws of mem, printed by wip/eng. No condition but what is named. -/
import Derived.Test.YtdjjjikokfadiaaProg
import Derived.Test.YtdjjjikokfadiaaMba
import Derived.Test.YtdjjjikokfadiaaAy
namespace Go.Proofs.Ytdjjjikokfadiaa
set_option linter.unusedVariables false
set_option linter.unusedSimpArgs false
open Go.RowKit
def M.s0 : M.V := M.V.new (M.np 2) false
def M.s1 : M.V := M.s0.prot 0 3
def M.s2 : M.V := M.s1.prot 1 1
def M.s3 : M.V := M.s2.sto 254 4 67305985
def M.s4 : M.V := M.s3.sto 252 4 67305985
def M.s5 : M.V := M.s4.clean
def M.s6 : M.V := M.s5.poke 255 (⟨#[97, 98]⟩ : ByteArray) (⟨#[97, 98]⟩ : ByteArray).size
theorem M.san1 : M.s2.chk 254 2 4 = (256, false) := by kernel_rfl
theorem M.san2 : M.s3.chk 252 2 4 = (0, true) := by kernel_rfl
theorem M.san3 : M.s4.load 253 2 = (770, 0, true) := by kernel_rfl
theorem M.san4 : M.s6.dirty = [0, 1] := by kernel_rfl
theorem M.san5 : M.s6.n = 2 := by kernel_rfl
theorem M.san6 : M.s6.peek 256 = 98 := by kernel_rfl
theorem M.rdAs {P : Program} {f : FuncId} {args : Array Value} {p : List A.It} {v v' : Value} (h : A.Rd P f args p v) (e : v = v') : A.Rd P f args p v' := e ▸ h
theorem San  : A.Rd Try.prog 14 #[] [] (.bool true) := by
  intro w oo aa hh
  refine E.enter (n := 82) (S := oo) Try.func14 rfl rfl (by kernel_rfl) (A.start (L := []) hh) ?_
  refine E.C.seq ?_
  refine E.C.region ?_
  refine E.G.op (.bool false) (fun w => by kernel_rfl) (by kernel_rfl) ?_
  refine E.To.code ?_
  refine E.C.seq ?_
  refine E.C.region ?_
  refine A.G.call (I := Nat) (D := fun m1 => True) (V := fun m1 => .pointer (some ⟨m1, 0, none⟩)) (q := fun m1 => [M.It m1 M.s0 ([])]) [] (fun m1 => []) (fun m1 => [M.It m1 M.s0 ([])]) (A_New 2 false) (by kernel_rfl) (A.pm [] (by kernel_rfl) (by kernel_rfl)) (fun m1 => A.pm [0] (by kernel_rfl) (by kernel_rfl)) (fun w _ => by kernel_rfl) (by kernel_rfl) (fun m1 hd2 => ?_)
  refine E.G.op (.pointer (some ⟨m1, 0, none⟩)) (fun w => by kernel_rfl) (by kernel_rfl) ?_
  refine E.To.code ?_
  refine E.C.seq ?_
  refine E.C.seq ?_
  refine E.C.region ?_
  refine E.G.op (.pointer (some ⟨m1, 0, none⟩)) (fun w => by kernel_rfl) (by kernel_rfl) ?_
  refine E.G.op (.bool false) (fun w => by kernel_rfl) (by kernel_rfl) ?_
  refine E.To.code ?_
  refine E.C.condF (by kernel_rfl) (by kernel_rfl) ?_
  refine E.C.skip (E.To.code ?_)
  refine E.C.seq ?_
  refine E.C.region ?_
  refine E.G.op (.pointer (some ⟨m1, 0, none⟩)) (fun w => by kernel_rfl) (by kernel_rfl) ?_
  refine A.G.call (I := Unit) (D := fun _ => True) (V := fun _ => .tuple #[]) (q := fun _ => [M.It m1 M.s1 ([])]) [] (fun _ => []) (fun _ => [M.It m1 M.s1 ([])]) (A_Protect 0 3 (m := m1) (V := M.s0) (xs := [])) (by kernel_rfl) (A.pm [0] (by kernel_rfl) (by kernel_rfl)) (fun _ => A.pm [0] (by kernel_rfl) (by kernel_rfl)) (fun w _ => by kernel_rfl) (by kernel_rfl) (fun _ hd3 => ?_)
  refine E.To.code ?_
  refine E.C.seq ?_
  refine E.C.region ?_
  refine E.G.op (.pointer (some ⟨m1, 0, none⟩)) (fun w => by kernel_rfl) (by kernel_rfl) ?_
  refine A.G.call (I := Unit) (D := fun _ => True) (V := fun _ => .tuple #[]) (q := fun _ => [M.It m1 M.s2 ([])]) [] (fun _ => []) (fun _ => [M.It m1 M.s2 ([])]) (A_Protect 1 1 (m := m1) (V := M.s1) (xs := [])) (by kernel_rfl) (A.pm [0] (by kernel_rfl) (by kernel_rfl)) (fun _ => A.pm [0] (by kernel_rfl) (by kernel_rfl)) (fun w _ => by kernel_rfl) (by kernel_rfl) (fun _ hd4 => ?_)
  refine E.To.code ?_
  refine E.C.seq ?_
  refine E.C.region ?_
  refine E.G.op (.pointer (some ⟨m1, 0, none⟩)) (fun w => by kernel_rfl) (by kernel_rfl) ?_
  refine A.G.call (I := Unit) (D := fun _ => True) (V := fun _ => .tuple #[.int .u32 ((M.s2.chk 254 2 4).1), .bool ((M.s2.chk 254 2 4).2)]) (q := fun _ => [M.It m1 M.s3 ([])]) [] (fun _ => []) (fun _ => [M.It m1 M.s3 ([])]) (A_Store 254 4 67305985 (by (first | assumption | ((try simp only [Bool.or_eq_false_iff, Bool.or_eq_true, Bool.and_eq_true, Bool.and_eq_false_iff, Bool.not_eq_eq_eq_not, Bool.not_true, Bool.not_false, decide_eq_true_eq, decide_eq_false_iff_not, ge_iff_le, gt_iff_lt] at *); omega))) (m := m1) (V := M.s2) (xs := [])) (by kernel_rfl) (A.pm [0] (by kernel_rfl) (by kernel_rfl)) (fun _ => A.pm [0] (by kernel_rfl) (by kernel_rfl)) (fun w _ => by kernel_rfl) (by kernel_rfl) (fun _ hd5 => ?_)
  refine E.G.op (.tuple #[.int .u32 ((M.s2.chk 254 2 4).1), .bool ((M.s2.chk 254 2 4).2)]) (fun w => by kernel_rfl) (by kernel_rfl) ?_
  refine E.G.val (.int .u32 256) (by kernel_rfl) (fun w h => E.run_as (a := .int .u32 ((M.s2.chk 254 2 4).1)) (by kernel_rfl) (congrArg (Value.int .u32) (by rw [M.san1]))) ?_
  refine E.G.val (.bool false) (by kernel_rfl) (fun w h => E.run_as (a := .bool ((M.s2.chk 254 2 4).2)) (by kernel_rfl) (congrArg Value.bool (by rw [M.san1]))) ?_
  refine E.G.op (.int .u32 256) (fun w => by kernel_rfl) (by kernel_rfl) ?_
  refine E.G.op (.bool false) (fun w => by kernel_rfl) (by kernel_rfl) ?_
  refine E.To.code ?_
  refine E.C.weak [(0, .bool false), (1, .pointer (some ⟨m1, 0, none⟩)), (2, .int .u32 256), (3, .bool false)] [] ⟨by kernel_rfl, by kernel_rfl⟩ (List.Sublist.refl _) ?_
  refine E.C.seq ?_
  refine E.C.region ?_
  refine E.G.op (.pointer (some ⟨m1, 0, none⟩)) (fun w => by kernel_rfl) (by kernel_rfl) ?_
  refine A.G.call (I := Unit) (D := fun _ => True) (V := fun _ => .tuple #[.int .u32 ((M.s3.chk 252 2 4).1), .bool ((M.s3.chk 252 2 4).2)]) (q := fun _ => [M.It m1 M.s4 ([])]) [] (fun _ => []) (fun _ => [M.It m1 M.s4 ([])]) (A_Store 252 4 67305985 (by (first | assumption | ((try simp only [Bool.or_eq_false_iff, Bool.or_eq_true, Bool.and_eq_true, Bool.and_eq_false_iff, Bool.not_eq_eq_eq_not, Bool.not_true, Bool.not_false, decide_eq_true_eq, decide_eq_false_iff_not, ge_iff_le, gt_iff_lt] at *); omega))) (m := m1) (V := M.s3) (xs := [])) (by kernel_rfl) (A.pm [0] (by kernel_rfl) (by kernel_rfl)) (fun _ => A.pm [0] (by kernel_rfl) (by kernel_rfl)) (fun w _ => by kernel_rfl) (by kernel_rfl) (fun _ hd6 => ?_)
  refine E.G.op (.tuple #[.int .u32 ((M.s3.chk 252 2 4).1), .bool ((M.s3.chk 252 2 4).2)]) (fun w => by kernel_rfl) (by kernel_rfl) ?_
  refine E.G.val (.int .u32 0) (by kernel_rfl) (fun w h => E.run_as (a := .int .u32 ((M.s3.chk 252 2 4).1)) (by kernel_rfl) (congrArg (Value.int .u32) (by rw [M.san2]))) ?_
  refine E.G.val (.bool true) (by kernel_rfl) (fun w h => E.run_as (a := .bool ((M.s3.chk 252 2 4).2)) (by kernel_rfl) (congrArg Value.bool (by rw [M.san2]))) ?_
  refine E.G.op (.int .u32 0) (fun w => by kernel_rfl) (by kernel_rfl) ?_
  refine E.G.op (.bool true) (fun w => by kernel_rfl) (by kernel_rfl) ?_
  refine E.To.code ?_
  refine E.C.seq ?_
  refine E.C.region ?_
  refine E.G.op (.pointer (some ⟨m1, 0, none⟩)) (fun w => by kernel_rfl) (by kernel_rfl) ?_
  refine E.G.call (.tuple #[.int .u32 ((M.s4.load 253 2).1), .int .u32 ((M.s4.load 253 2).2.1), .bool ((M.s4.load 253 2).2.2)]) (fun w h => A.call_rd [] (A_Load 253 2 (by (first | assumption | ((try simp only [Bool.or_eq_false_iff, Bool.or_eq_true, Bool.and_eq_true, Bool.and_eq_false_iff, Bool.not_eq_eq_eq_not, Bool.not_true, Bool.not_false, decide_eq_true_eq, decide_eq_false_iff_not, ge_iff_le, gt_iff_lt] at *); omega))) (m := m1) (V := M.s4) (xs := [])) h (by kernel_rfl) (A.pm [0] (by kernel_rfl) (by kernel_rfl))) (fun w _ => by kernel_rfl) (by kernel_rfl) ?_
  refine E.G.op (.tuple #[.int .u32 ((M.s4.load 253 2).1), .int .u32 ((M.s4.load 253 2).2.1), .bool ((M.s4.load 253 2).2.2)]) (fun w => by kernel_rfl) (by kernel_rfl) ?_
  refine E.G.val (.int .u32 770) (by kernel_rfl) (fun w h => E.run_as (a := .int .u32 ((M.s4.load 253 2).1)) (by kernel_rfl) (congrArg (Value.int .u32) (by rw [M.san3]))) ?_
  refine E.G.val (.int .u32 0) (by kernel_rfl) (fun w h => E.run_as (a := .int .u32 ((M.s4.load 253 2).2.1)) (by kernel_rfl) (congrArg (Value.int .u32) (by rw [M.san3]))) ?_
  refine E.G.val (.bool true) (by kernel_rfl) (fun w h => E.run_as (a := .bool ((M.s4.load 253 2).2.2)) (by kernel_rfl) (congrArg Value.bool (by rw [M.san3]))) ?_
  refine E.G.op (.int .u32 770) (fun w => by kernel_rfl) (by kernel_rfl) ?_
  refine E.G.op (.int .u32 0) (fun w => by kernel_rfl) (by kernel_rfl) ?_
  refine E.G.op (.bool true) (fun w => by kernel_rfl) (by kernel_rfl) ?_
  refine E.To.code ?_
  refine E.C.weak [(0, .bool false), (1, .pointer (some ⟨m1, 0, none⟩)), (2, .int .u32 256), (3, .bool false), (5, .bool true), (6, .int .u32 770), (8, .bool true)] [] ⟨by kernel_rfl, by kernel_rfl⟩ (List.Sublist.refl _) ?_
  refine E.C.seq ?_
  refine E.C.region ?_
  refine E.G.op (.pointer (some ⟨m1, 0, none⟩)) (fun w => by kernel_rfl) (by kernel_rfl) ?_
  refine A.G.call (I := Unit) (D := fun _ => True) (V := fun _ => .tuple #[]) (q := fun _ => [M.It m1 M.s5 ([])]) [] (fun _ => []) (fun _ => [M.It m1 M.s5 ([])]) (A_Clean (m := m1) (V := M.s4) (xs := [])) (by kernel_rfl) (A.pm [0] (by kernel_rfl) (by kernel_rfl)) (fun _ => A.pm [0] (by kernel_rfl) (by kernel_rfl)) (fun w _ => by kernel_rfl) (by kernel_rfl) (fun _ hd7 => ?_)
  refine E.To.code ?_
  refine E.C.seq ?_
  refine E.C.region ?_
  refine E.G.op (.pointer (some ⟨m1, 0, none⟩)) (fun w => by kernel_rfl) (by kernel_rfl) ?_
  refine A.G.call (I := Unit) (D := fun _ => True) (V := fun _ => .tuple #[]) (q := fun _ => [M.It m1 M.s6 ([])]) [] (fun _ => []) (fun _ => [M.It m1 M.s6 ([])]) (A_Poke 255 (⟨#[97, 98]⟩ : ByteArray) (by (first | assumption | ((try simp only [Bool.or_eq_false_iff, Bool.or_eq_true, Bool.and_eq_true, Bool.and_eq_false_iff, Bool.not_eq_eq_eq_not, Bool.not_true, Bool.not_false, decide_eq_true_eq, decide_eq_false_iff_not, ge_iff_le, gt_iff_lt] at *); omega))) (by first | decide | (first | assumption | ((try simp only [Bool.or_eq_false_iff, Bool.or_eq_true, Bool.and_eq_true, Bool.and_eq_false_iff, Bool.not_eq_eq_eq_not, Bool.not_true, Bool.not_false, decide_eq_true_eq, decide_eq_false_iff_not, ge_iff_le, gt_iff_lt] at *); omega))) (m := m1) (V := M.s5) (xs := [])) (by kernel_rfl) (A.pm [0] (by kernel_rfl) (by kernel_rfl)) (fun _ => A.pm [0] (by kernel_rfl) (by kernel_rfl)) (fun w _ => by kernel_rfl) (by kernel_rfl) (fun _ hd8 => ?_)
  refine E.To.code ?_
  refine E.C.seq ?_
  refine E.C.region ?_
  refine E.G.op (.pointer (some ⟨m1, 0, none⟩)) (fun w => by kernel_rfl) (by kernel_rfl) ?_
  refine A.G.call (I := Option Addr × Nat) (D := fun i9 => True) (V := fun i9 => .slice i9.1 M.s6.dirty.length i9.2) (q := fun i9 => [M.It m1 M.s6 ([]), A.vec .i64 i9.1 i9.2 M.s6.dirty]) [] (fun i9 => []) (fun i9 => [M.It m1 M.s6 ([]), A.vec .i64 i9.1 i9.2 M.s6.dirty]) (A_Dirty (m := m1) (V := M.s6) (xs := [])) (by kernel_rfl) (A.pm [0] (by kernel_rfl) (by kernel_rfl)) (fun i9 => A.pm [0, 1] (by kernel_rfl) (by kernel_rfl)) (fun w _ => by kernel_rfl) (by kernel_rfl) (fun i9 hd10 => ?_)
  refine E.G.op (.slice i9.1 M.s6.dirty.length i9.2) (fun w => by kernel_rfl) (by kernel_rfl) ?_
  refine E.To.code ?_
  refine E.C.seq ?_
  refine E.C.region ?_
  refine E.G.op (.int .u32 256) (fun w => by kernel_rfl) (by kernel_rfl) ?_
  refine E.G.op (.bool true) (fun w => by kernel_rfl) (by kernel_rfl) ?_
  refine E.G.op (.bool true) (fun w => by kernel_rfl) (by kernel_rfl) ?_
  refine E.G.op (.bool false) (fun w => by kernel_rfl) (by kernel_rfl) ?_
  refine E.G.op (.bool true) (fun w => by kernel_rfl) (by kernel_rfl) ?_
  refine E.G.op (.bool true) (fun w => by kernel_rfl) (by kernel_rfl) ?_
  refine E.G.op (.bool true) (fun w => by kernel_rfl) (by kernel_rfl) ?_
  refine E.G.op (.bool true) (fun w => by kernel_rfl) (by kernel_rfl) ?_
  refine E.G.op (.bool true) (fun w => by kernel_rfl) (by kernel_rfl) ?_
  refine E.G.op (.bool true) (fun w => by kernel_rfl) (by kernel_rfl) ?_
  refine E.G.op (.int .u32 770) (fun w => by kernel_rfl) (by kernel_rfl) ?_
  refine E.G.op (.bool true) (fun w => by kernel_rfl) (by kernel_rfl) ?_
  refine E.G.op (.bool true) (fun w => by kernel_rfl) (by kernel_rfl) ?_
  refine E.G.op (.bool true) (fun w => by kernel_rfl) (by kernel_rfl) ?_
  refine E.G.op (.bool true) (fun w => by kernel_rfl) (by kernel_rfl) ?_
  refine E.G.op (.bool true) (fun w => by kernel_rfl) (by kernel_rfl) ?_
  refine E.G.op (.bool true) (fun w => by kernel_rfl) (by kernel_rfl) ?_
  refine E.G.op (.slice i9.1 M.s6.dirty.length i9.2) (fun w => by kernel_rfl) (by kernel_rfl) ?_
  refine E.G.val (.int .i64 2) (by kernel_rfl) (fun w h => E.run_as (a := .int .i64 ((M.s6.dirty.length : Nat) : Int)) (by kernel_rfl) (congrArg (fun l : List Int => Value.int .i64 ((l.length : Nat) : Int)) M.san4)) ?_
  refine E.G.op (.bool true) (fun w => by kernel_rfl) (by kernel_rfl) ?_
  refine E.G.op (.bool true) (fun w => by kernel_rfl) (by kernel_rfl) ?_
  refine E.G.op (.bool true) (fun w => by kernel_rfl) (by kernel_rfl) ?_
  refine E.G.op (.slice i9.1 M.s6.dirty.length i9.2) (fun w => by kernel_rfl) (by kernel_rfl) ?_
  refine E.G.val (.pointer (some ⟨(A.bk i9.1), 0, none⟩)) (by kernel_rfl) (fun w h => A.Y.idx (e := 3) (ik := .i64) (i := 0) (len := M.s6.dirty.length) (c2 := i9.2) (A.X.y h.x) (k := 1) rfl (by kernel_rfl) (by kernel_rfl) (by kernel_rfl) (by kernel_rfl) (by rw [M.san4]; decide) (by rw [M.san4]; decide)) ?_
  refine E.G.val (.int .i64 0) (by kernel_rfl) (fun w h => E.run_as (a := .int .i64 (M.s6.dirty.getD 0 0)) (A.Y.vld (A.X.y h.x) (k := 1) (i := 0) rfl (by kernel_rfl) (by kernel_rfl) (by rw [M.san4]; decide)) (congrArg (Value.int .i64) (by rw [M.san4]; rfl))) ?_
  refine E.G.op (.bool true) (fun w => by kernel_rfl) (by kernel_rfl) ?_
  refine E.G.op (.bool true) (fun w => by kernel_rfl) (by kernel_rfl) ?_
  refine E.G.op (.bool true) (fun w => by kernel_rfl) (by kernel_rfl) ?_
  refine E.G.op (.slice i9.1 M.s6.dirty.length i9.2) (fun w => by kernel_rfl) (by kernel_rfl) ?_
  refine E.G.val (.pointer (some ⟨(A.bk i9.1), 1, none⟩)) (by kernel_rfl) (fun w h => A.Y.idx (e := 3) (ik := .i64) (i := 1) (len := M.s6.dirty.length) (c2 := i9.2) (A.X.y h.x) (k := 1) rfl (by kernel_rfl) (by kernel_rfl) (by kernel_rfl) (by kernel_rfl) (by rw [M.san4]; decide) (by rw [M.san4]; decide)) ?_
  refine E.G.val (.int .i64 1) (by kernel_rfl) (fun w h => E.run_as (a := .int .i64 (M.s6.dirty.getD 1 0)) (A.Y.vld (A.X.y h.x) (k := 1) (i := 1) rfl (by kernel_rfl) (by kernel_rfl) (by rw [M.san4]; decide)) (congrArg (Value.int .i64) (by rw [M.san4]; rfl))) ?_
  refine E.G.op (.bool true) (fun w => by kernel_rfl) (by kernel_rfl) ?_
  refine E.G.op (.bool true) (fun w => by kernel_rfl) (by kernel_rfl) ?_
  refine E.G.op (.bool true) (fun w => by kernel_rfl) (by kernel_rfl) ?_
  refine E.G.op (.pointer (some ⟨m1, 0, none⟩)) (fun w => by kernel_rfl) (by kernel_rfl) ?_
  refine E.G.call (.int .i64 2) (fun w h => A.call_rd [A.vec .i64 i9.1 i9.2 M.s6.dirty] (M.rdAs (A_Pages (m := m1) (V := M.s6) (xs := [])) (v' := .int .i64 2) (by rw [M.san5]; rfl)) h (by kernel_rfl) (A.pm [0, 1] (by kernel_rfl) (by kernel_rfl))) (fun w _ => by kernel_rfl) (by kernel_rfl) ?_
  refine E.G.op (.bool true) (fun w => by kernel_rfl) (by kernel_rfl) ?_
  refine E.G.op (.bool true) (fun w => by kernel_rfl) (by kernel_rfl) ?_
  refine E.G.op (.bool true) (fun w => by kernel_rfl) (by kernel_rfl) ?_
  refine E.G.op (.pointer (some ⟨m1, 0, none⟩)) (fun w => by kernel_rfl) (by kernel_rfl) ?_
  refine E.G.call (.int .u8 98) (fun w h => A.call_rd [A.vec .i64 i9.1 i9.2 M.s6.dirty] (M.rdAs (A_Peek (m := m1) (V := M.s6) (xs := []) 256 (by omega)) (v' := .int .u8 98) (by rw [M.san6])) h (by kernel_rfl) (A.pm [0, 1] (by kernel_rfl) (by kernel_rfl))) (fun w _ => by kernel_rfl) (by kernel_rfl) ?_
  refine E.G.op (.bool true) (fun w => by kernel_rfl) (by kernel_rfl) ?_
  refine E.G.op (.bool true) (fun w => by kernel_rfl) (by kernel_rfl) ?_
  refine E.G.op (.bool true) (fun w => by kernel_rfl) (by kernel_rfl) ?_
  refine E.To.code ?_
  refine E.C.weak [(0, .bool true)] [] ⟨by kernel_rfl, by kernel_rfl⟩ (List.Sublist.refl _) ?_
  refine E.C.ret (E.To.body (fn := Try.f14) [.bool true] ?_ ?_)
  · exact ⟨⟨by kernel_rfl, by kernel_rfl⟩, trivial⟩
  · intro w h
    exact ⟨rfl, h.ch.bel (fun x hx => (hh.1 x hx).elim)⟩
end Go.Proofs.Ytdjjjikokfadiaa
