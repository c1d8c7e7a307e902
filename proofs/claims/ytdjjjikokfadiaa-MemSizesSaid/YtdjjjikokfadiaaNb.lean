/- Walks: MemSizes, printed by wip/eng. No condition but what is named. -/
import Derived.Test.YtdjjjikokfadiaaProg
import Derived.Test.YtdjjjikokfadiaaNa
namespace Go.Proofs.Ytdjjjikokfadiaa
set_option linter.unusedVariables false
set_option linter.unusedSimpArgs false
open Go.RowKit
def M.szn (n : Int) : Int := (bif (decide (n > 50)) then (IntKind.wrap .i64 (4090 + (bits .and .i64 n 15))) else n)
theorem M.np_eq2 (n : Int) : (if (if 4096 < n then 4096 else n) > 0 then (if 4096 < n then 4096 else n) else 0) = ((M.np n : Nat) : Int) := by unfold M.np; split <;> split <;> (try split) <;> omega
theorem M.new_ok0 (k : Nat) (c : Bool) (a : Nat) (r : Int) (hr : bits .and .i64 0 r = 0) : (M.V.new k c).ok a r = false := by
  unfold M.V.ok
  show (decide (a / 256 < k) && !(bits .and .i64 0 r == 0)) = false
  rw [hr]; simp
theorem M.new_fetch (k : Nat) (c : Bool) (a : Nat) : (M.V.new k c).fetch a = (0, false) := if_neg (by rw [M.new_ok0 k c a 4 (by kernel_rfl)]; decide)
theorem M.new_chk (k : Nat) (c : Bool) (a : Nat) (ha : a < 4294967296) : (M.V.new k c).chk a 1 4 = (((a : Nat) : Int), false) := by
  unfold M.V.chk
  rw [if_pos (by decide)]
  show (M.V.new k c).chkN a 1 0 (3 + 1) = _
  have e : (a + 0) % 4294967296 = a := by omega
  rw [M.chkN_s, M.new_ok0 k c _ 1 (by kernel_rfl), e]; rfl
theorem M.new_load (k : Nat) (c : Bool) (a : Nat) (ha : a < 4294967296) : (M.V.new k c).load a 4 = (0, ((a : Nat) : Int), false) := by
  unfold M.V.load; rw [M.new_chk k c a ha]; rfl
theorem M.new_peek (k : Nat) (c : Bool) (a : Nat) : (M.V.new k c).peek a = 0 := by unfold M.V.peek; split <;> rfl
theorem M.new_code (k : Nat) (c : Bool) (a : Nat) : (M.V.new k c).code a = 0 := by unfold M.V.code; split <;> rfl
theorem M.new_rt (k : Nat) (c : Bool) (n : Int) : (M.V.new k c).rt n = 0 := by unfold M.V.rt; split <;> rfl
theorem M.new_dirty (k : Nat) (c : Bool) : (M.V.new k c).dirty = [] := by
  have : ∀ j, (M.V.new k c).dl j = [] := fun j => by
    induction j with
    | zero => rfl
    | succ j ih =>
      show (bif (M.V.new k c).dty j then _ else (M.V.new k c).dl j) = _
      have hd : (M.V.new k c).dty j = false := by
        unfold M.V.dty
        show (!(M.eqv (fun _ => 0) (fun _ => 0) (List.range 256)) || !(M.eqv (fun _ => 0) (fun _ => 0) (List.range 256))) = false
        rw [M.eqv_refl]; rfl
      rw [hd]; exact ih
  exact this _
theorem MemSizes_rd (n : Int) (a : Nat) (ha : a < 4294967296) : A.Rd Try.prog 4 #[.int .i64 n, .int .u32 ((a : Nat) : Int)] [] (.bool true) := by
  intro w oo aa hh
  refine E.enter (n := 93) (S := oo) Try.func4 rfl rfl (by kernel_rfl) (A.start (L := []) hh) ?_
  refine E.C.seq ?_
  refine E.C.region ?_
  refine E.G.op (.bool false) (fun w => by kernel_rfl) (by kernel_rfl) ?_
  refine E.To.code ?_
  refine E.C.seq ?_
  refine E.C.region ?_
  refine E.G.call (.bool true) (fun w h => A.call_rd [] (San) h (by kernel_rfl) (A.pm [] (by kernel_rfl) (by kernel_rfl))) (fun w _ => by kernel_rfl) (by kernel_rfl) ?_
  refine E.G.op (.bool true) (fun w => by kernel_rfl) (by kernel_rfl) ?_
  refine E.To.code ?_
  refine E.C.seq ?_
  refine E.C.region ?_
  refine E.G.op (.int .i64 n) (fun w => by kernel_rfl) (by kernel_rfl) ?_
  refine E.G.op (.int .i64 n) (fun w => by kernel_rfl) (by kernel_rfl) ?_
  refine E.To.code ?_
  refine E.C.seq ?_
  refine E.C.seq ?_
  refine E.C.region ?_
  refine E.G.op (.int .i64 n) (fun w => by kernel_rfl) (by kernel_rfl) ?_
  refine E.G.op (.bool (decide (n > 50))) (fun w => by kernel_rfl) (by kernel_rfl) ?_
  refine E.To.code ?_
  refine E.C.thencut [(1, .int .u32 ((a : Nat) : Int)), (4, .bool false), (5, .bool true), (6, .int .i64 (bif (decide (n > 50)) then (IntKind.wrap .i64 (4090 + (bits .and .i64 n 15))) else n))] (A.X w oo aa []) [] ?_ ?_
  · skip
    generalize hc1 : (decide (n > 50)) = b2
    cases b2
    · skip
      refine E.C.condF (by kernel_rfl) (by kernel_rfl) ?_
      exact E.C.skip (E.To.pst ⟨by kernel_rfl, by kernel_rfl⟩ (List.Sublist.refl _) (fun _ h => h))
    · skip
      refine E.C.condT (by kernel_rfl) (by kernel_rfl) ?_
      refine E.C.region ?_
      refine E.G.op (.int .i64 n) (fun w => by kernel_rfl) (by kernel_rfl) ?_
      refine E.G.op (.int .i64 (bits .and .i64 n 15)) (fun w => by kernel_rfl) (by kernel_rfl) ?_
      refine E.G.op (.int .i64 (IntKind.wrap .i64 (4090 + (bits .and .i64 n 15)))) (fun w => by kernel_rfl) (by kernel_rfl) ?_
      refine E.G.op (.int .i64 (IntKind.wrap .i64 (4090 + (bits .and .i64 n 15)))) (fun w => by kernel_rfl) (by kernel_rfl) ?_
      exact E.To.pst ⟨by kernel_rfl, by kernel_rfl⟩ (List.Sublist.refl _) (fun _ h => h)
  refine E.C.seq ?_
  refine E.C.region ?_
  refine E.G.op (.int .i64 (M.szn n)) (fun w => by kernel_rfl) (by kernel_rfl) ?_
  refine E.G.op (.int .u32 ((a : Nat) : Int)) (fun w => by kernel_rfl) (by kernel_rfl) ?_
  refine E.G.op (.int .u32 (bits .and .u32 ((a : Nat) : Int) 1)) (fun w => by kernel_rfl) (by kernel_rfl) ?_
  refine E.G.op (.bool ((bits .and .u32 ((a : Nat) : Int) 1) == 1)) (fun w => by kernel_rfl) (by kernel_rfl) ?_
  refine A.G.call (I := Nat) (D := fun m3 => True) (V := fun m3 => .pointer (some ⟨m3, 0, none⟩)) (q := fun m3 => [M.It m3 (M.V.new (M.np (M.szn n)) ((bits .and .u32 ((a : Nat) : Int) 1) == 1)) ([])]) [] (fun m3 => []) (fun m3 => [M.It m3 (M.V.new (M.np (M.szn n)) ((bits .and .u32 ((a : Nat) : Int) 1) == 1)) ([])]) (A_New (M.szn n) ((bits .and .u32 ((a : Nat) : Int) 1) == 1)) (by kernel_rfl) (A.pm [] (by kernel_rfl) (by kernel_rfl)) (fun m3 => A.pm [0] (by kernel_rfl) (by kernel_rfl)) (fun w _ => by kernel_rfl) (by kernel_rfl) (fun m3 hd4 => ?_)
  refine E.G.op (.pointer (some ⟨m3, 0, none⟩)) (fun w => by kernel_rfl) (by kernel_rfl) ?_
  refine E.To.code ?_
  refine E.C.seq ?_
  refine E.C.region ?_
  refine E.G.op (.int .i64 (M.szn n)) (fun w => by kernel_rfl) (by kernel_rfl) ?_
  refine E.G.op (.int .i64 (if 4096 < (M.szn n) then 4096 else (M.szn n))) (fun w => by kernel_rfl) (by kernel_rfl) ?_
  refine E.G.val (.int .i64 ((M.np (M.szn n) : Nat) : Int)) (by kernel_rfl) (fun w h => E.run_as (a := .int .i64 (if (if 4096 < (M.szn n) then 4096 else (M.szn n)) > 0 then (if 4096 < (M.szn n) then 4096 else (M.szn n)) else 0)) (by kernel_rfl) (congrArg (Value.int .i64) (M.np_eq2 _))) ?_
  refine E.G.op (.int .i64 ((M.np (M.szn n) : Nat) : Int)) (fun w => by kernel_rfl) (by kernel_rfl) ?_
  refine E.To.code ?_
  refine E.C.weak [(1, .int .u32 ((a : Nat) : Int)), (4, .bool false), (5, .bool true), (7, .pointer (some ⟨m3, 0, none⟩)), (8, .int .i64 ((M.np (M.szn n) : Nat) : Int))] [] ⟨by kernel_rfl, by kernel_rfl⟩ (List.Sublist.refl _) ?_
  refine E.C.seq ?_
  refine E.C.region ?_
  refine E.G.op (.pointer (some ⟨m3, 0, none⟩)) (fun w => by kernel_rfl) (by kernel_rfl) ?_
  refine E.G.op (.int .u32 ((a : Nat) : Int)) (fun w => by kernel_rfl) (by kernel_rfl) ?_
  refine E.G.call (.tuple #[.int .u8 0, .bool false]) (fun w h => A.call_rd [] (M.rdAs (A_Fetch a (by (first | assumption | ((try simp only [Bool.or_eq_false_iff, Bool.or_eq_true, Bool.and_eq_true, Bool.and_eq_false_iff, Bool.not_eq_eq_eq_not, Bool.not_true, Bool.not_false, decide_eq_true_eq, decide_eq_false_iff_not, ge_iff_le, gt_iff_lt] at *); omega))) (m := m3) (V := (M.V.new (M.np (M.szn n)) ((bits .and .u32 ((a : Nat) : Int) 1) == 1))) (xs := [])) (v' := .tuple #[.int .u8 0, .bool false]) (by rw [M.new_fetch])) h (by kernel_rfl) (A.pm [0] (by kernel_rfl) (by kernel_rfl))) (fun w _ => by kernel_rfl) (by kernel_rfl) ?_
  refine E.G.op (.tuple #[.int .u8 0, .bool false]) (fun w => by kernel_rfl) (by kernel_rfl) ?_
  refine E.G.op (.int .u8 0) (fun w => by kernel_rfl) (by kernel_rfl) ?_
  refine E.G.op (.bool false) (fun w => by kernel_rfl) (by kernel_rfl) ?_
  refine E.G.op (.int .u8 0) (fun w => by kernel_rfl) (by kernel_rfl) ?_
  refine E.G.op (.bool false) (fun w => by kernel_rfl) (by kernel_rfl) ?_
  refine E.To.code ?_
  refine E.C.seq ?_
  refine E.C.region ?_
  refine E.G.op (.pointer (some ⟨m3, 0, none⟩)) (fun w => by kernel_rfl) (by kernel_rfl) ?_
  refine E.G.op (.int .u32 ((a : Nat) : Int)) (fun w => by kernel_rfl) (by kernel_rfl) ?_
  refine E.G.call (.tuple #[.int .u32 0, .int .u32 ((a : Nat) : Int), .bool false]) (fun w h => A.call_rd [] (M.rdAs (A_Load a 4 (by (first | assumption | ((try simp only [Bool.or_eq_false_iff, Bool.or_eq_true, Bool.and_eq_true, Bool.and_eq_false_iff, Bool.not_eq_eq_eq_not, Bool.not_true, Bool.not_false, decide_eq_true_eq, decide_eq_false_iff_not, ge_iff_le, gt_iff_lt] at *); omega))) (m := m3) (V := (M.V.new (M.np (M.szn n)) ((bits .and .u32 ((a : Nat) : Int) 1) == 1))) (xs := [])) (v' := .tuple #[.int .u32 0, .int .u32 ((a : Nat) : Int), .bool false]) (by rw [M.new_load _ _ _ ha])) h (by kernel_rfl) (A.pm [0] (by kernel_rfl) (by kernel_rfl))) (fun w _ => by kernel_rfl) (by kernel_rfl) ?_
  refine E.G.op (.tuple #[.int .u32 0, .int .u32 ((a : Nat) : Int), .bool false]) (fun w => by kernel_rfl) (by kernel_rfl) ?_
  refine E.G.op (.int .u32 0) (fun w => by kernel_rfl) (by kernel_rfl) ?_
  refine E.G.op (.int .u32 ((a : Nat) : Int)) (fun w => by kernel_rfl) (by kernel_rfl) ?_
  refine E.G.op (.bool false) (fun w => by kernel_rfl) (by kernel_rfl) ?_
  refine E.G.op (.int .u32 0) (fun w => by kernel_rfl) (by kernel_rfl) ?_
  refine E.G.op (.int .u32 ((a : Nat) : Int)) (fun w => by kernel_rfl) (by kernel_rfl) ?_
  refine E.G.op (.bool false) (fun w => by kernel_rfl) (by kernel_rfl) ?_
  refine E.To.code ?_
  refine E.C.weak [(1, .int .u32 ((a : Nat) : Int)), (4, .bool false), (5, .bool true), (7, .pointer (some ⟨m3, 0, none⟩)), (8, .int .i64 ((M.np (M.szn n) : Nat) : Int)), (10, .bool false), (12, .int .u32 ((a : Nat) : Int)), (13, .bool false)] [] ⟨by kernel_rfl, by kernel_rfl⟩ (List.Sublist.refl _) ?_
  refine E.C.seq ?_
  refine E.C.region ?_
  refine E.G.op (.bool true) (fun w => by kernel_rfl) (by kernel_rfl) ?_
  refine E.G.op (.bool true) (fun w => by kernel_rfl) (by kernel_rfl) ?_
  refine E.G.op (.pointer (some ⟨m3, 0, none⟩)) (fun w => by kernel_rfl) (by kernel_rfl) ?_
  refine E.G.call (.int .i64 ((M.np (M.szn n) : Nat) : Int)) (fun w h => A.call_rd [] (M.rdAs (A_Pages (m := m3) (V := (M.V.new (M.np (M.szn n)) ((bits .and .u32 ((a : Nat) : Int) 1) == 1))) (xs := [])) (v' := .int .i64 ((M.np (M.szn n) : Nat) : Int)) (rfl)) h (by kernel_rfl) (A.pm [0] (by kernel_rfl) (by kernel_rfl))) (fun w _ => by kernel_rfl) (by kernel_rfl) ?_
  refine E.G.op (.int .i64 ((M.np (M.szn n) : Nat) : Int)) (fun w => by kernel_rfl) (by kernel_rfl) ?_
  refine E.G.val (.bool true) (by kernel_rfl) (fun w h => E.run_as (a := .bool (((M.np (M.szn n) : Nat) : Int) == ((M.np (M.szn n) : Nat) : Int))) (by kernel_rfl) (congrArg Value.bool (beq_self_eq_true _))) ?_
  refine E.G.op (.bool true) (fun w => by kernel_rfl) (by kernel_rfl) ?_
  refine E.G.op (.bool true) (fun w => by kernel_rfl) (by kernel_rfl) ?_
  refine E.G.op (.pointer (some ⟨m3, 0, none⟩)) (fun w => by kernel_rfl) (by kernel_rfl) ?_
  refine E.G.op (.int .u32 ((a : Nat) : Int)) (fun w => by kernel_rfl) (by kernel_rfl) ?_
  refine E.G.call (.int .u8 0) (fun w h => A.call_rd [] (M.rdAs (A_Peek a (by (first | assumption | ((try simp only [Bool.or_eq_false_iff, Bool.or_eq_true, Bool.and_eq_true, Bool.and_eq_false_iff, Bool.not_eq_eq_eq_not, Bool.not_true, Bool.not_false, decide_eq_true_eq, decide_eq_false_iff_not, ge_iff_le, gt_iff_lt] at *); omega))) (m := m3) (V := (M.V.new (M.np (M.szn n)) ((bits .and .u32 ((a : Nat) : Int) 1) == 1))) (xs := [])) (v' := .int .u8 0) (by rw [M.new_peek])) h (by kernel_rfl) (A.pm [0] (by kernel_rfl) (by kernel_rfl))) (fun w _ => by kernel_rfl) (by kernel_rfl) ?_
  refine E.G.op (.bool true) (fun w => by kernel_rfl) (by kernel_rfl) ?_
  refine E.G.op (.bool true) (fun w => by kernel_rfl) (by kernel_rfl) ?_
  refine E.G.op (.bool true) (fun w => by kernel_rfl) (by kernel_rfl) ?_
  refine E.G.op (.pointer (some ⟨m3, 0, none⟩)) (fun w => by kernel_rfl) (by kernel_rfl) ?_
  refine E.G.op (.int .u32 ((a : Nat) : Int)) (fun w => by kernel_rfl) (by kernel_rfl) ?_
  refine E.G.call (.int .u8 0) (fun w h => A.call_rd [] (M.rdAs (A_Code a (by (first | assumption | ((try simp only [Bool.or_eq_false_iff, Bool.or_eq_true, Bool.and_eq_true, Bool.and_eq_false_iff, Bool.not_eq_eq_eq_not, Bool.not_true, Bool.not_false, decide_eq_true_eq, decide_eq_false_iff_not, ge_iff_le, gt_iff_lt] at *); omega))) (m := m3) (V := (M.V.new (M.np (M.szn n)) ((bits .and .u32 ((a : Nat) : Int) 1) == 1))) (xs := [])) (v' := .int .u8 0) (by rw [M.new_code])) h (by kernel_rfl) (A.pm [0] (by kernel_rfl) (by kernel_rfl))) (fun w _ => by kernel_rfl) (by kernel_rfl) ?_
  refine E.G.op (.bool true) (fun w => by kernel_rfl) (by kernel_rfl) ?_
  refine E.G.op (.bool true) (fun w => by kernel_rfl) (by kernel_rfl) ?_
  refine E.G.op (.bool true) (fun w => by kernel_rfl) (by kernel_rfl) ?_
  refine E.G.op (.bool false) (fun w => by kernel_rfl) (by kernel_rfl) ?_
  refine E.G.op (.bool true) (fun w => by kernel_rfl) (by kernel_rfl) ?_
  refine E.G.op (.bool true) (fun w => by kernel_rfl) (by kernel_rfl) ?_
  refine E.G.op (.bool true) (fun w => by kernel_rfl) (by kernel_rfl) ?_
  refine E.G.op (.bool false) (fun w => by kernel_rfl) (by kernel_rfl) ?_
  refine E.G.op (.bool true) (fun w => by kernel_rfl) (by kernel_rfl) ?_
  refine E.G.op (.bool true) (fun w => by kernel_rfl) (by kernel_rfl) ?_
  refine E.G.op (.bool true) (fun w => by kernel_rfl) (by kernel_rfl) ?_
  refine E.G.op (.int .u32 ((a : Nat) : Int)) (fun w => by kernel_rfl) (by kernel_rfl) ?_
  refine E.G.op (.int .u32 ((a : Nat) : Int)) (fun w => by kernel_rfl) (by kernel_rfl) ?_
  refine E.G.val (.bool true) (by kernel_rfl) (fun w h => E.run_as (a := .bool (((a : Nat) : Int) == ((a : Nat) : Int))) (by kernel_rfl) (congrArg Value.bool (beq_self_eq_true _))) ?_
  refine E.G.op (.bool true) (fun w => by kernel_rfl) (by kernel_rfl) ?_
  refine E.G.op (.bool true) (fun w => by kernel_rfl) (by kernel_rfl) ?_
  refine E.G.op (.pointer (some ⟨m3, 0, none⟩)) (fun w => by kernel_rfl) (by kernel_rfl) ?_
  refine A.G.call (I := Option Addr × Nat) (D := fun i5 => True) (V := fun i5 => .slice i5.1 ((M.V.new (M.np (M.szn n)) ((bits .and .u32 ((a : Nat) : Int) 1) == 1)).dirty.length) i5.2) (q := fun i5 => [M.It m3 (M.V.new (M.np (M.szn n)) ((bits .and .u32 ((a : Nat) : Int) 1) == 1)) ([]), A.vec .i64 i5.1 i5.2 ((M.V.new (M.np (M.szn n)) ((bits .and .u32 ((a : Nat) : Int) 1) == 1)).dirty)]) [] (fun i5 => []) (fun i5 => [M.It m3 (M.V.new (M.np (M.szn n)) ((bits .and .u32 ((a : Nat) : Int) 1) == 1)) ([]), A.vec .i64 i5.1 i5.2 ((M.V.new (M.np (M.szn n)) ((bits .and .u32 ((a : Nat) : Int) 1) == 1)).dirty)]) (A_Dirty (m := m3) (V := (M.V.new (M.np (M.szn n)) ((bits .and .u32 ((a : Nat) : Int) 1) == 1))) (xs := [])) (by kernel_rfl) (A.pm [0] (by kernel_rfl) (by kernel_rfl)) (fun i5 => A.pm [0, 1] (by kernel_rfl) (by kernel_rfl)) (fun w _ => by kernel_rfl) (by kernel_rfl) (fun i5 hd6 => ?_)
  refine E.G.val (.int .i64 0) (by kernel_rfl) (fun w h => E.run_as (a := .int .i64 (((M.V.new (M.np (M.szn n)) ((bits .and .u32 ((a : Nat) : Int) 1) == 1)).dirty.length : Nat) : Int)) (by kernel_rfl) (congrArg (fun l : List Int => Value.int .i64 ((l.length : Nat) : Int)) (M.new_dirty _ _))) ?_
  refine E.G.op (.bool true) (fun w => by kernel_rfl) (by kernel_rfl) ?_
  refine E.G.op (.bool true) (fun w => by kernel_rfl) (by kernel_rfl) ?_
  refine E.G.op (.bool true) (fun w => by kernel_rfl) (by kernel_rfl) ?_
  refine E.G.op (.pointer (some ⟨m3, 0, none⟩)) (fun w => by kernel_rfl) (by kernel_rfl) ?_
  refine E.G.op (.int .i64 ((M.np (M.szn n) : Nat) : Int)) (fun w => by kernel_rfl) (by kernel_rfl) ?_
  refine E.G.op (.int .i64 (IntKind.wrap .i64 (((M.np (M.szn n) : Nat) : Int) - 1))) (fun w => by kernel_rfl) (by kernel_rfl) ?_
  refine E.G.call (.int .i64 0) (fun w h => A.call_rd [A.vec .i64 i5.1 i5.2 ((M.V.new (M.np (M.szn n)) ((bits .and .u32 ((a : Nat) : Int) 1) == 1)).dirty)] (M.rdAs (A_Rights (IntKind.wrap .i64 (((M.np (M.szn n) : Nat) : Int) - 1)) (m := m3) (V := (M.V.new (M.np (M.szn n)) ((bits .and .u32 ((a : Nat) : Int) 1) == 1))) (xs := [])) (v' := .int .i64 0) (by rw [M.new_rt])) h (by kernel_rfl) (A.pm [0, 1] (by kernel_rfl) (by kernel_rfl))) (fun w _ => by kernel_rfl) (by kernel_rfl) ?_
  refine E.G.op (.bool true) (fun w => by kernel_rfl) (by kernel_rfl) ?_
  refine E.G.op (.bool true) (fun w => by kernel_rfl) (by kernel_rfl) ?_
  refine E.G.op (.bool true) (fun w => by kernel_rfl) (by kernel_rfl) ?_
  refine E.G.op (.pointer (some ⟨m3, 0, none⟩)) (fun w => by kernel_rfl) (by kernel_rfl) ?_
  refine E.G.op (.int .i64 ((M.np (M.szn n) : Nat) : Int)) (fun w => by kernel_rfl) (by kernel_rfl) ?_
  refine E.G.call (.int .i64 0) (fun w h => A.call_rd [A.vec .i64 i5.1 i5.2 ((M.V.new (M.np (M.szn n)) ((bits .and .u32 ((a : Nat) : Int) 1) == 1)).dirty)] (M.rdAs (A_Rights ((M.np (M.szn n) : Nat) : Int) (m := m3) (V := (M.V.new (M.np (M.szn n)) ((bits .and .u32 ((a : Nat) : Int) 1) == 1))) (xs := [])) (v' := .int .i64 0) (by rw [M.new_rt])) h (by kernel_rfl) (A.pm [0, 1] (by kernel_rfl) (by kernel_rfl))) (fun w _ => by kernel_rfl) (by kernel_rfl) ?_
  refine E.G.op (.bool true) (fun w => by kernel_rfl) (by kernel_rfl) ?_
  refine E.G.op (.bool true) (fun w => by kernel_rfl) (by kernel_rfl) ?_
  refine E.G.op (.bool true) (fun w => by kernel_rfl) (by kernel_rfl) ?_
  refine E.To.code ?_
  refine E.C.weak [(4, .bool true)] [] ⟨by kernel_rfl, by kernel_rfl⟩ (List.Sublist.refl _) ?_
  refine E.C.ret (E.To.body (fn := Try.f4) [.bool true] ?_ ?_)
  · exact ⟨⟨by kernel_rfl, by kernel_rfl⟩, trivial⟩
  · intro w h
    exact ⟨rfl, h.ch.bel (fun x hx => (hh.1 x hx).elim)⟩
theorem A.Has.nil (w : World) : A.Has [] w (fun _ => False) (fun _ => False) := ⟨fun _ h => h, fun _ h => h⟩
theorem MemSizes_law (n a : Int) (hn : -9223372036854775808 ≤ n ∧ n < 9223372036854775808) (ha : 0 ≤ a ∧ a < 4294967296) (w : World) : Calls Try.prog 4 #[.int .i64 n, .int .u32 a] w fun e w' => e = .returned (.bool true) ∧ Bel w w' := by
  obtain ⟨b, rfl⟩ := Int.eq_ofNat_of_zero_le ha.1
  exact MemSizes_rd n b (by omega) w _ _ (A.Has.nil w)
end Go.Proofs.Ytdjjjikokfadiaa
