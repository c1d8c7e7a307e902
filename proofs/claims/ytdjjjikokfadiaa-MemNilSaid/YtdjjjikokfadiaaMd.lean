/- Walks: check and Load of mem, printed by wip/eng. No condition but what is named. -/
import Derived.Test.YtdjjjikokfadiaaProg
import Derived.Test.YtdjjjikokfadiaaMc
namespace Go.Proofs.Ytdjjjikokfadiaa
set_option linter.unusedVariables false
set_option linter.unusedSimpArgs false
open Go.RowKit
theorem M.w32 {n : Nat} (h : n < 4294967296) : IntKind.wrap .u32 ((n : Nat) : Int) = ((n : Nat) : Int) := by
  show (n : Int) % 4294967296 = _
  omega
theorem M.add32 (a i : Nat) : IntKind.wrap .u32 (((a : Nat) : Int) + ((i : Nat) : Int)) = (((a + i) % 4294967296 : Nat) : Int) := by
  show ((a : Int) + i) % 4294967296 = _
  omega
theorem M.inc32 {i : Nat} (h : i < 4294967295) : IntKind.wrap .u32 (((i : Nat) : Int) + 1) = ((i + 1 : Nat) : Int) := by
  show ((i : Int) + 1) % 4294967296 = _
  omega
theorem M.inc64 {i : Nat} (h : i < 4294967295) : IntKind.wrap .i64 (((i : Nat) : Int) + 1) = ((i + 1 : Nat) : Int) := by
  rw [IntWalk.i64_in _ (by omega)]; rfl
/-- Whether a byte's page has a right. -/
def M.ok (o : M.Obj) (x : Nat) (r : Int) : Bool := !(o.out (x / 256)) && !(bits .and .i64 (o.at (x / 256)).r r == 0)
def M.chk (o : M.Obj) (a : Nat) (r : Int) : Nat → Nat → Int × Bool
  | _, 0 => (0, true)
  | i, c + 1 => bif M.ok o ((a + i) % 4294967296) r then M.chk o a r (i + 1) c else ((((a + i) % 4294967296 : Nat) : Int), false)
theorem M.chk_step {o : M.Obj} {a n i : Nat} {r : Int} (h : i < n) : M.chk o a r i (n - i) = bif M.ok o ((a + i) % 4294967296) r then M.chk o a r (i + 1) (n - (i + 1)) else ((((a + i) % 4294967296 : Nat) : Int), false) := by
  rw [show n - i = (n - (i + 1)) + 1 by omega]; rfl
theorem M.chk_go {o : M.Obj} {a n i : Nat} {r : Int} (hk : M.chk o a r 0 n = M.chk o a r i (n - i)) (h : i < n) (h1 : o.out ((a + i) % 4294967296 / 256) = false) (h2 : (bits .and .i64 (o.at ((a + i) % 4294967296 / 256)).r r == 0) = false) : M.chk o a r 0 n = M.chk o a r (i + 1) (n - (i + 1)) := by
  rw [hk, M.chk_step h]; unfold M.ok; rw [h1, h2]; rfl
theorem M.chk_out {o : M.Obj} {a n i : Nat} {r : Int} (hk : M.chk o a r 0 n = M.chk o a r i (n - i)) (h : i < n) (h1 : o.out ((a + i) % 4294967296 / 256) = true) : M.chk o a r 0 n = ((((a + i) % 4294967296 : Nat) : Int), false) := by
  rw [hk, M.chk_step h]; unfold M.ok; rw [h1]; rfl
theorem M.chk_no {o : M.Obj} {a n i : Nat} {r : Int} (hk : M.chk o a r 0 n = M.chk o a r i (n - i)) (h : i < n) (h2 : (bits .and .i64 (o.at ((a + i) % 4294967296 / 256)).r r == 0) = true) : M.chk o a r 0 n = ((((a + i) % 4294967296 : Nat) : Int), false) := by
  rw [hk, M.chk_step h]; unfold M.ok; rw [h2]; simp
theorem M.chk_end {o : M.Obj} {a n i : Nat} {r : Int} (hk : M.chk o a r 0 n = M.chk o a r i (n - i)) (h : n ≤ i) : M.chk o a r 0 n = (0, true) := by
  rw [hk, show n - i = 0 by omega]; rfl
theorem check_any (o : M.Obj) (a n : Nat) (r : Int) (ha : a < 4294967296) (hn : 1 ≤ n ∧ n ≤ 4) (w : World) (hat : M.At o w) : Calls Try.prog 38 #[.pointer (some ⟨o.m, 0, none⟩), .int .u32 ((a : Nat) : Int), .int .i64 ((n : Nat) : Int), .int .i64 r] w fun e w' => e = .returned (.tuple #[.int .u32 (M.chk o a r 0 n).1, .bool (M.chk o a r 0 n).2]) ∧ Bel w w' := by
  refine E.enter (n := 44) (S := fun _ => False) Try.func38 rfl rfl (by kernel_rfl) (hat.hp) ?_
  refine E.C.seq ?_
  refine E.C.region ?_
  refine E.G.op (.int .u32 0) (fun w => by kernel_rfl) (by kernel_rfl) ?_
  refine E.G.op (.bool false) (fun w => by kernel_rfl) (by kernel_rfl) ?_
  refine E.To.code ?_
  refine E.C.seq ?_
  refine E.C.seq ?_
  refine E.C.region ?_
  refine E.G.op (.int .i64 ((n : Nat) : Int)) (fun w => by kernel_rfl) (by kernel_rfl) ?_
  refine E.G.val (.bool false) (by kernel_rfl) (fun w h => E.run_as (a := .bool (decide (((n : Nat) : Int) < 1))) (by kernel_rfl) (congrArg Value.bool (decide_eq_false (by omega)))) ?_
  refine E.G.op (.bool false) (fun w => by kernel_rfl) (by kernel_rfl) ?_
  refine E.G.op (.int .i64 ((n : Nat) : Int)) (fun w => by kernel_rfl) (by kernel_rfl) ?_
  refine E.G.val (.bool false) (by kernel_rfl) (fun w h => E.run_as (a := .bool (decide (((n : Nat) : Int) > 4))) (by kernel_rfl) (congrArg Value.bool (decide_eq_false (by omega)))) ?_
  refine E.G.op (.bool false) (fun w => by kernel_rfl) (by kernel_rfl) ?_
  refine E.To.code ?_
  refine E.C.condF (by kernel_rfl) (by kernel_rfl) ?_
  refine E.C.skip (E.To.code ?_)
  refine E.C.seq ?_
  refine E.C.seq ?_
  refine E.C.region ?_
  refine E.G.op (.int .i64 ((n : Nat) : Int)) (fun w => by kernel_rfl) (by kernel_rfl) ?_
  refine E.G.val (.int .u32 ((n : Nat) : Int)) (by kernel_rfl) (fun w h => E.run_as (a := .int .u32 (IntKind.wrap .u32 ((n : Nat) : Int))) (by kernel_rfl) (congrArg (Value.int .u32) (M.w32 (by omega)))) ?_
  refine E.G.op (.int .u32 0) (fun w => by kernel_rfl) (by kernel_rfl) ?_
  refine E.To.code ?_
  refine E.C.weak [(0, .pointer (some ⟨o.m, 0, none⟩)), (1, .int .u32 ((a : Nat) : Int)), (3, .int .i64 r), (8, .int .u32 0), (9, .bool false), (20, .int .u32 ((n : Nat) : Int)), (21, .int .u32 0)] [] ⟨by kernel_rfl, by kernel_rfl⟩ (List.Sublist.refl _) ?_
  refine E.C.block ?_
  refine E.C.loop (I := Nat) (fun i => n - i) (fun i => i ≤ n ∧ M.chk o a r 0 n = M.chk o a r i (n - i)) (fun i => [(0, .pointer (some ⟨o.m, 0, none⟩)), (1, .int .u32 ((a : Nat) : Int)), (3, .int .i64 r), (8, .int .u32 0), (9, .bool false), (20, .int .u32 ((n : Nat) : Int)), (21, .int .u32 ((i : Nat) : Int))]) (fun i => fun w => M.At o w) (fun _ => []) 0 (⟨Nat.zero_le _, rfl⟩) ⟨by kernel_rfl, by kernel_rfl⟩ (List.Sublist.refl _) (fun _ h => h) (fun i hk1 => ?_)
  refine E.C.seq ?_
  refine E.C.region ?_
  refine E.G.op (.bool (decide (((i : Nat) : Int) < ((n : Nat) : Int)))) (fun w => by kernel_rfl) (by kernel_rfl) ?_
  refine E.To.code ?_
  refine E.C.seq ?_
  refine E.C.cond (decide (((i : Nat) : Int) < ((n : Nat) : Int))) (by kernel_rfl) (by kernel_rfl) (fun hc1 => ?_) (fun hc1 => ?_)
  · skip
    refine E.C.skip (E.To.code ?_)
    refine E.C.seq ?_
    refine E.C.block ?_
    refine E.C.seq ?_
    refine E.C.region ?_
    refine E.G.op (.int .u32 ((i : Nat) : Int)) (fun w => by kernel_rfl) (by kernel_rfl) ?_
    refine E.G.op (.int .u32 ((i : Nat) : Int)) (fun w => by kernel_rfl) (by kernel_rfl) ?_
    refine E.To.code ?_
    refine E.C.seq ?_
    refine E.C.region ?_
    refine E.G.op (.pointer (some ⟨o.m, 0, none⟩)) (fun w => by kernel_rfl) (by kernel_rfl) ?_
    refine E.G.op (.int .u32 ((a : Nat) : Int)) (fun w => by kernel_rfl) (by kernel_rfl) ?_
    refine E.G.op (.int .u32 ((i : Nat) : Int)) (fun w => by kernel_rfl) (by kernel_rfl) ?_
    refine E.G.val (.int .u32 (((a + i) % 4294967296 : Nat) : Int)) (by kernel_rfl) (fun w h => E.run_as (a := .int .u32 (IntKind.wrap .u32 (((a : Nat) : Int) + ((i : Nat) : Int)))) (by kernel_rfl) (congrArg (Value.int .u32) (M.add32 a i))) ?_
    refine E.fork (o.out (((a + i) % 4294967296) / 256)) (fun hc2 => ?_) (fun hc2 => ?_)
    · skip
      refine E.G.call (.pointer none) (fun w h => at_out o ((a + i) % 4294967296) (by omega) (M.out_of hc2) w h.x) (fun w _ => by kernel_rfl) (by kernel_rfl) ?_
      refine E.G.op (.pointer none) (fun w => by kernel_rfl) (by kernel_rfl) ?_
      refine E.To.code ?_
      refine E.C.seq ?_
      refine E.C.region ?_
      refine E.G.op (.pointer none) (fun w => by kernel_rfl) (by kernel_rfl) ?_
      refine E.G.op (.bool true) (fun w => by kernel_rfl) (by kernel_rfl) ?_
      refine E.G.op (.bool true) (fun w => by kernel_rfl) (by kernel_rfl) ?_
      refine E.G.skip (by kernel_rfl) (by kernel_rfl) ?_
      refine E.G.skip (by kernel_rfl) (by kernel_rfl) ?_
      refine E.G.skip (by kernel_rfl) (by kernel_rfl) ?_
      refine E.G.skip (by kernel_rfl) (by kernel_rfl) ?_
      refine E.G.skip (by kernel_rfl) (by kernel_rfl) ?_
      refine E.G.skip (by kernel_rfl) (by kernel_rfl) ?_
      refine E.G.skip (by kernel_rfl) (by kernel_rfl) ?_
      refine E.G.op (.bool true) (fun w => by kernel_rfl) (by kernel_rfl) ?_
      refine E.To.code ?_
      refine E.C.condT (by kernel_rfl) (by kernel_rfl) ?_
      refine E.C.seq ?_
      refine E.C.region ?_
      refine E.G.op (.int .u32 ((a : Nat) : Int)) (fun w => by kernel_rfl) (by kernel_rfl) ?_
      refine E.G.op (.int .u32 ((i : Nat) : Int)) (fun w => by kernel_rfl) (by kernel_rfl) ?_
      refine E.G.val (.int .u32 (((a + i) % 4294967296 : Nat) : Int)) (by kernel_rfl) (fun w h => E.run_as (a := .int .u32 (IntKind.wrap .u32 (((a : Nat) : Int) + ((i : Nat) : Int)))) (by kernel_rfl) (congrArg (Value.int .u32) (M.add32 a i))) ?_
      refine E.G.op (.int .u32 (((a + i) % 4294967296 : Nat) : Int)) (fun w => by kernel_rfl) (by kernel_rfl) ?_
      refine E.G.op (.bool false) (fun w => by kernel_rfl) (by kernel_rfl) ?_
      refine E.To.code ?_
      refine E.C.ret (E.P.rb (E.P.rt (E.P.rt (E.P.rb (E.P.rt (E.To.body (fn := Try.f38) [.int .u32 (((a + i) % 4294967296 : Nat) : Int), .bool false] ?_ ?_))))))
      · exact ⟨⟨by kernel_rfl, by kernel_rfl⟩, ⟨by kernel_rfl, by kernel_rfl⟩, trivial⟩
      · intro w h
        exact ⟨by rw [M.chk_out hk1.2 (by (first | assumption | ((try simp only [Bool.or_eq_false_iff, Bool.or_eq_true, Bool.and_eq_true, Bool.and_eq_false_iff, decide_eq_true_eq, decide_eq_false_iff_not, ge_iff_le, gt_iff_lt] at *); omega))) hc2]; rfl, h.ch.bel (fun _ h => h.elim)⟩
    · skip
      have hi3 : (((a + i) % 4294967296) / 256) < o.sl.length := M.in_of hc2
      refine E.G.call (.pointer (some ⟨o.b, (((a + i) % 4294967296) / 256) * 7, none⟩)) (fun w h => at_in o ((a + i) % 4294967296) (by omega) hi3 w h.x) (fun w _ => by kernel_rfl) (by kernel_rfl) ?_
      refine E.G.op (.pointer (some ⟨o.b, (((a + i) % 4294967296) / 256) * 7, none⟩)) (fun w => by kernel_rfl) (by kernel_rfl) ?_
      refine E.To.code ?_
      refine E.C.seq ?_
      refine E.C.region ?_
      refine E.G.op (.pointer (some ⟨o.b, (((a + i) % 4294967296) / 256) * 7, none⟩)) (fun w => by kernel_rfl) (by kernel_rfl) ?_
      refine E.G.op (.bool false) (fun w => by kernel_rfl) (by kernel_rfl) ?_
      refine E.G.op (.bool false) (fun w => by kernel_rfl) (by kernel_rfl) ?_
      refine E.G.op (.pointer (some ⟨o.b, (((a + i) % 4294967296) / 256) * 7, none⟩)) (fun w => by kernel_rfl) (by kernel_rfl) ?_
      refine E.G.op (.pointer (some ⟨o.b, (((a + i) % 4294967296) / 256) * 7, none⟩)) (fun w => by kernel_rfl) (by kernel_rfl) ?_
      refine E.G.op (.pointer (some ⟨o.b, ((((a + i) % 4294967296) / 256) * 7) + 6, none⟩)) (fun w => by kernel_rfl) (by kernel_rfl) ?_
      refine E.G.val (.int .i64 ((o.at (((a + i) % 4294967296) / 256)).r)) (by kernel_rfl) (fun w h => M.load1 (by kernel_rfl) (M.one Try.underlying3 rfl) (h.x.fld (i := (((a + i) % 4294967296) / 256)) (k := 6) (by (first | assumption | ((try simp only [Bool.or_eq_false_iff, Bool.or_eq_true, Bool.and_eq_true, Bool.and_eq_false_iff, decide_eq_true_eq, decide_eq_false_iff_not, ge_iff_le, gt_iff_lt] at *); omega))) rfl (by decide) _ rfl)) ?_
      refine E.G.op (.int .i64 r) (fun w => by kernel_rfl) (by kernel_rfl) ?_
      refine E.G.op (.int .i64 (bits .and .i64 ((o.at (((a + i) % 4294967296) / 256)).r) r)) (fun w => by kernel_rfl) (by kernel_rfl) ?_
      refine E.G.op (.bool ((bits .and .i64 ((o.at (((a + i) % 4294967296) / 256)).r) r) == 0)) (fun w => by kernel_rfl) (by kernel_rfl) ?_
      refine E.G.op (.bool ((bits .and .i64 ((o.at (((a + i) % 4294967296) / 256)).r) r) == 0)) (fun w => by kernel_rfl) (by kernel_rfl) ?_
      refine E.To.code ?_
      refine E.C.cond ((bits .and .i64 ((o.at (((a + i) % 4294967296) / 256)).r) r) == 0) (by kernel_rfl) (by kernel_rfl) (fun hc4 => ?_) (fun hc4 => ?_)
      · skip
        refine E.C.seq ?_
        refine E.C.region ?_
        refine E.G.op (.int .u32 ((a : Nat) : Int)) (fun w => by kernel_rfl) (by kernel_rfl) ?_
        refine E.G.op (.int .u32 ((i : Nat) : Int)) (fun w => by kernel_rfl) (by kernel_rfl) ?_
        refine E.G.val (.int .u32 (((a + i) % 4294967296 : Nat) : Int)) (by kernel_rfl) (fun w h => E.run_as (a := .int .u32 (IntKind.wrap .u32 (((a : Nat) : Int) + ((i : Nat) : Int)))) (by kernel_rfl) (congrArg (Value.int .u32) (M.add32 a i))) ?_
        refine E.G.op (.int .u32 (((a + i) % 4294967296 : Nat) : Int)) (fun w => by kernel_rfl) (by kernel_rfl) ?_
        refine E.G.op (.bool false) (fun w => by kernel_rfl) (by kernel_rfl) ?_
        refine E.To.code ?_
        refine E.C.ret (E.P.rb (E.P.rt (E.P.rt (E.P.rb (E.P.rt (E.To.body (fn := Try.f38) [.int .u32 (((a + i) % 4294967296 : Nat) : Int), .bool false] ?_ ?_))))))
        · exact ⟨⟨by kernel_rfl, by kernel_rfl⟩, ⟨by kernel_rfl, by kernel_rfl⟩, trivial⟩
        · intro w h
          exact ⟨by rw [M.chk_no hk1.2 (by (first | assumption | ((try simp only [Bool.or_eq_false_iff, Bool.or_eq_true, Bool.and_eq_true, Bool.and_eq_false_iff, decide_eq_true_eq, decide_eq_false_iff_not, ge_iff_le, gt_iff_lt] at *); omega))) hc4]; rfl, h.ch.bel (fun _ h => h.elim)⟩
      · skip
        refine E.C.skip (E.P.nb (E.To.code ?_))
        refine E.C.region ?_
        refine E.G.val (.int .u32 ((i + 1 : Nat) : Int)) (by kernel_rfl) (fun w h => E.run_as (a := .int .u32 (IntKind.wrap .u32 (((i : Nat) : Int) + 1))) (by kernel_rfl) (congrArg (Value.int .u32) (M.inc32 (by (first | assumption | ((try simp only [Bool.or_eq_false_iff, Bool.or_eq_true, Bool.and_eq_true, Bool.and_eq_false_iff, decide_eq_true_eq, decide_eq_false_iff_not, ge_iff_le, gt_iff_lt] at *); omega)))))) ?_
        refine E.G.op (.int .u32 ((i + 1 : Nat) : Int)) (fun w => by kernel_rfl) (by kernel_rfl) ?_
        exact E.To.round (i + 1) (by (first | assumption | ((try simp only [Bool.or_eq_false_iff, Bool.or_eq_true, Bool.and_eq_true, Bool.and_eq_false_iff, decide_eq_true_eq, decide_eq_false_iff_not, ge_iff_le, gt_iff_lt] at *); omega))) (⟨by (first | assumption | ((try simp only [Bool.or_eq_false_iff, Bool.or_eq_true, Bool.and_eq_true, Bool.and_eq_false_iff, decide_eq_true_eq, decide_eq_false_iff_not, ge_iff_le, gt_iff_lt] at *); omega)), M.chk_go hk1.2 (by (first | assumption | ((try simp only [Bool.or_eq_false_iff, Bool.or_eq_true, Bool.and_eq_true, Bool.and_eq_false_iff, decide_eq_true_eq, decide_eq_false_iff_not, ge_iff_le, gt_iff_lt] at *); omega))) (by assumption) (by assumption)⟩) ⟨by kernel_rfl, by kernel_rfl⟩ (List.Sublist.refl _) (fun _ h => h)
  · skip
    refine E.C.exit (E.P.et (E.P.et (E.P.eh (E.To.code ?_))))
    refine E.C.seq ?_
    refine E.C.region ?_
    refine E.G.op (.int .u32 0) (fun w => by kernel_rfl) (by kernel_rfl) ?_
    refine E.G.op (.bool true) (fun w => by kernel_rfl) (by kernel_rfl) ?_
    refine E.To.code ?_
    refine E.C.ret (E.To.body (fn := Try.f38) [.int .u32 0, .bool true] ?_ ?_)
    · exact ⟨⟨by kernel_rfl, by kernel_rfl⟩, ⟨by kernel_rfl, by kernel_rfl⟩, trivial⟩
    · intro w h
      exact ⟨by rw [M.chk_end hk1.2 (by (first | assumption | ((try simp only [Bool.or_eq_false_iff, Bool.or_eq_true, Bool.and_eq_true, Bool.and_eq_false_iff, decide_eq_true_eq, decide_eq_false_iff_not, ge_iff_le, gt_iff_lt] at *); omega)))]; rfl, h.ch.bel (fun _ h => h.elim)⟩
def M.ldv (o : M.Obj) (a n : Nat) : Nat → Int
  | 0 => 0
  | c + 1 => bits .or .u32 (IntKind.wrap .u32 (M.ldv o a n c * 2 ^ 8)) (IntKind.wrap .u32 (M.peek o ((a + (n - 1 - c)) % 4294967296)))
def M.load (o : M.Obj) (a n : Nat) : Int × Int × Bool := bif (M.chk o a 1 0 n).2 then (M.ldv o a n n, 0, true) else (0, (M.chk o a 1 0 n).1, false)
theorem M.add32n {a n c : Nat} (h : c < n) (hn : n ≤ 4) : IntKind.wrap .u32 (((a : Nat) : Int) + IntKind.wrap .u32 (((n : Nat) : Int) - 1 - ((c : Nat) : Int))) = (((a + (n - 1 - c)) % 4294967296 : Nat) : Int) := by
  show ((a : Int) + ((n : Int) - 1 - c) % 4294967296) % 4294967296 = _
  omega
theorem M.dec0 {n : Nat} (hn : n ≤ 4) : IntKind.wrap .i64 (((n : Nat) : Int) - 1) = ((n : Nat) : Int) - 1 - ((0 : Nat) : Int) := by
  rw [IntWalk.i64_in _ (by omega)]; omega
theorem M.dec1 {n c : Nat} (hn : n ≤ 4) (hc : c ≤ 4) : IntKind.wrap .i64 (((n : Nat) : Int) - 1 - ((c : Nat) : Int) - 1) = ((n : Nat) : Int) - 1 - ((c + 1 : Nat) : Int) := by
  rw [IntWalk.i64_in _ (by omega)]; omega
theorem M.b1 {b : Bool} (h : (!b) = false) : b = true := by simpa using h
theorem M.b0 {b : Bool} (h : (!b) = true) : b = false := by simpa using h
theorem Load_any (o : M.Obj) (a n : Nat) (ha : a < 4294967296) (hn : 1 ≤ n ∧ n ≤ 4) (w : World) (hat : M.At o w) : Calls Try.prog 17 #[.pointer (some ⟨o.m, 0, none⟩), .int .u32 ((a : Nat) : Int), .int .i64 ((n : Nat) : Int)] w fun e w' => e = .returned (.tuple #[.int .u32 (M.load o a n).1, .int .u32 (M.load o a n).2.1, .bool (M.load o a n).2.2]) ∧ Bel w w' := by
  refine E.enter (n := 37) (S := fun _ => False) Try.func17 rfl rfl (by kernel_rfl) (hat.hp) ?_
  refine E.C.seq ?_
  refine E.C.region ?_
  refine E.G.op (.int .u32 0) (fun w => by kernel_rfl) (by kernel_rfl) ?_
  refine E.G.op (.int .u32 0) (fun w => by kernel_rfl) (by kernel_rfl) ?_
  refine E.G.op (.bool false) (fun w => by kernel_rfl) (by kernel_rfl) ?_
  refine E.To.code ?_
  refine E.C.seq ?_
  refine E.C.seq ?_
  refine E.C.region ?_
  refine E.G.op (.pointer (some ⟨o.m, 0, none⟩)) (fun w => by kernel_rfl) (by kernel_rfl) ?_
  refine E.G.op (.int .u32 ((a : Nat) : Int)) (fun w => by kernel_rfl) (by kernel_rfl) ?_
  refine E.G.op (.int .i64 ((n : Nat) : Int)) (fun w => by kernel_rfl) (by kernel_rfl) ?_
  refine E.G.call (.tuple #[.int .u32 ((M.chk o a 1 0 n).1), .bool ((M.chk o a 1 0 n).2)]) (fun w h => check_any o a n 1 (by omega) (by omega) w h.x) (fun w _ => by kernel_rfl) (by kernel_rfl) ?_
  refine E.G.op (.tuple #[.int .u32 ((M.chk o a 1 0 n).1), .bool ((M.chk o a 1 0 n).2)]) (fun w => by kernel_rfl) (by kernel_rfl) ?_
  refine E.G.op (.int .u32 ((M.chk o a 1 0 n).1)) (fun w => by kernel_rfl) (by kernel_rfl) ?_
  refine E.G.op (.bool ((M.chk o a 1 0 n).2)) (fun w => by kernel_rfl) (by kernel_rfl) ?_
  refine E.G.op (.int .u32 ((M.chk o a 1 0 n).1)) (fun w => by kernel_rfl) (by kernel_rfl) ?_
  refine E.G.op (.bool ((M.chk o a 1 0 n).2)) (fun w => by kernel_rfl) (by kernel_rfl) ?_
  refine E.To.code ?_
  refine E.C.seq ?_
  refine E.C.region ?_
  refine E.G.op (.bool ((M.chk o a 1 0 n).2)) (fun w => by kernel_rfl) (by kernel_rfl) ?_
  refine E.G.op (.bool (!((M.chk o a 1 0 n).2))) (fun w => by kernel_rfl) (by kernel_rfl) ?_
  refine E.To.code ?_
  refine E.C.weak [(0, .pointer (some ⟨o.m, 0, none⟩)), (1, .int .u32 ((a : Nat) : Int)), (2, .int .i64 ((n : Nat) : Int)), (6, .int .u32 0), (7, .int .u32 ((M.chk o a 1 0 n).1)), (8, .bool ((M.chk o a 1 0 n).2)), (18, .bool (!((M.chk o a 1 0 n).2)))] [] ⟨by kernel_rfl, by kernel_rfl⟩ (List.Sublist.refl _) ?_
  refine E.C.cond (!((M.chk o a 1 0 n).2)) (by kernel_rfl) (by kernel_rfl) (fun hc1 => ?_) (fun hc1 => ?_)
  · skip
    refine E.C.seq ?_
    refine E.C.region ?_
    refine E.G.op (.int .u32 ((M.chk o a 1 0 n).1)) (fun w => by kernel_rfl) (by kernel_rfl) ?_
    refine E.G.op (.int .u32 0) (fun w => by kernel_rfl) (by kernel_rfl) ?_
    refine E.G.op (.int .u32 ((M.chk o a 1 0 n).1)) (fun w => by kernel_rfl) (by kernel_rfl) ?_
    refine E.G.op (.bool false) (fun w => by kernel_rfl) (by kernel_rfl) ?_
    refine E.To.code ?_
    refine E.C.ret (E.P.rt (E.To.body (fn := Try.f17) [.int .u32 0, .int .u32 ((M.chk o a 1 0 n).1), .bool false] ?_ ?_))
    · exact ⟨⟨by kernel_rfl, by kernel_rfl⟩, ⟨by kernel_rfl, by kernel_rfl⟩, ⟨by kernel_rfl, by kernel_rfl⟩, trivial⟩
    · intro w h
      exact ⟨by unfold M.load; rw [M.b0 hc1]; rfl, h.ch.bel (fun _ h => h.elim)⟩
  · skip
    refine E.C.skip (E.To.code ?_)
    refine E.C.seq ?_
    refine E.C.seq ?_
    refine E.C.region ?_
    refine E.G.op (.int .i64 ((n : Nat) : Int)) (fun w => by kernel_rfl) (by kernel_rfl) ?_
    refine E.G.val (.int .i64 (((n : Nat) : Int) - 1 - ((0 : Nat) : Int))) (by kernel_rfl) (fun w h => E.run_as (a := .int .i64 (IntKind.wrap .i64 (((n : Nat) : Int) - 1))) (by kernel_rfl) (congrArg (Value.int .i64) (M.dec0 hn.2))) ?_
    refine E.G.op (.int .i64 (((n : Nat) : Int) - 1 - ((0 : Nat) : Int))) (fun w => by kernel_rfl) (by kernel_rfl) ?_
    refine E.To.code ?_
    refine E.C.block ?_
    refine E.C.loop (I := Nat) (fun c => n - c) (fun c => c ≤ n) (fun c => [(0, .pointer (some ⟨o.m, 0, none⟩)), (1, .int .u32 ((a : Nat) : Int)), (6, .int .u32 (M.ldv o a n c)), (7, .int .u32 ((M.chk o a 1 0 n).1)), (8, .bool ((M.chk o a 1 0 n).2)), (9, .int .i64 (((n : Nat) : Int) - 1 - ((c : Nat) : Int)))]) (fun c => fun w => M.At o w) (fun _ => []) 0 (Nat.zero_le _) ⟨by kernel_rfl, by kernel_rfl⟩ (List.Sublist.refl _) (fun _ h => h) (fun c hk1 => ?_)
    refine E.C.seq ?_
    refine E.C.seq ?_
    refine E.C.region ?_
    refine E.G.op (.int .i64 (((n : Nat) : Int) - 1 - ((c : Nat) : Int))) (fun w => by kernel_rfl) (by kernel_rfl) ?_
    refine E.G.op (.bool (decide ((((n : Nat) : Int) - 1 - ((c : Nat) : Int)) ≥ 0))) (fun w => by kernel_rfl) (by kernel_rfl) ?_
    refine E.To.code ?_
    refine E.C.cond (decide ((((n : Nat) : Int) - 1 - ((c : Nat) : Int)) ≥ 0)) (by kernel_rfl) (by kernel_rfl) (fun hc2 => ?_) (fun hc2 => ?_)
    · skip
      refine E.C.skip (E.To.code ?_)
      refine E.C.seq ?_
      refine E.C.block ?_
      refine E.C.region ?_
      refine E.G.op (.int .u32 (M.ldv o a n c)) (fun w => by kernel_rfl) (by kernel_rfl) ?_
      refine E.G.op (.int .u32 (IntKind.wrap .u32 ((M.ldv o a n c) * 2 ^ 8))) (fun w => by kernel_rfl) (by kernel_rfl) ?_
      refine E.G.op (.pointer (some ⟨o.m, 0, none⟩)) (fun w => by kernel_rfl) (by kernel_rfl) ?_
      refine E.G.op (.int .u32 ((a : Nat) : Int)) (fun w => by kernel_rfl) (by kernel_rfl) ?_
      refine E.G.op (.int .i64 (((n : Nat) : Int) - 1 - ((c : Nat) : Int))) (fun w => by kernel_rfl) (by kernel_rfl) ?_
      refine E.G.op (.int .u32 (IntKind.wrap .u32 (((n : Nat) : Int) - 1 - ((c : Nat) : Int)))) (fun w => by kernel_rfl) (by kernel_rfl) ?_
      refine E.G.val (.int .u32 (((a + (n - 1 - c)) % 4294967296 : Nat) : Int)) (by kernel_rfl) (fun w h => E.run_as (a := .int .u32 (IntKind.wrap .u32 (((a : Nat) : Int) + (IntKind.wrap .u32 (((n : Nat) : Int) - 1 - ((c : Nat) : Int)))))) (by kernel_rfl) (congrArg (Value.int .u32) (M.add32n (by (first | assumption | ((try simp only [Bool.or_eq_false_iff, Bool.or_eq_true, Bool.and_eq_true, Bool.and_eq_false_iff, decide_eq_true_eq, decide_eq_false_iff_not, ge_iff_le, gt_iff_lt] at *); omega))) hn.2))) ?_
      refine E.G.call (.int .u8 (M.peek o ((a + (n - 1 - c)) % 4294967296))) (fun w h => Peek_any o ((a + (n - 1 - c)) % 4294967296) (by omega) w h.x) (fun w _ => by kernel_rfl) (by kernel_rfl) ?_
      refine E.G.op (.int .u32 (IntKind.wrap .u32 (M.peek o ((a + (n - 1 - c)) % 4294967296)))) (fun w => by kernel_rfl) (by kernel_rfl) ?_
      refine E.G.op (.int .u32 (bits .or .u32 (IntKind.wrap .u32 ((M.ldv o a n c) * 2 ^ 8)) (IntKind.wrap .u32 (M.peek o ((a + (n - 1 - c)) % 4294967296))))) (fun w => by kernel_rfl) (by kernel_rfl) ?_
      refine E.G.op (.int .u32 (bits .or .u32 (IntKind.wrap .u32 ((M.ldv o a n c) * 2 ^ 8)) (IntKind.wrap .u32 (M.peek o ((a + (n - 1 - c)) % 4294967296))))) (fun w => by kernel_rfl) (by kernel_rfl) ?_
      refine E.P.nb (E.To.code ?_)
      refine E.C.region ?_
      refine E.G.op (.int .i64 (((n : Nat) : Int) - 1 - ((c : Nat) : Int))) (fun w => by kernel_rfl) (by kernel_rfl) ?_
      refine E.G.val (.int .i64 (((n : Nat) : Int) - 1 - ((c + 1 : Nat) : Int))) (by kernel_rfl) (fun w h => E.run_as (a := .int .i64 (IntKind.wrap .i64 ((((n : Nat) : Int) - 1 - ((c : Nat) : Int)) - 1))) (by kernel_rfl) (congrArg (Value.int .i64) (M.dec1 hn.2 (by omega)))) ?_
      refine E.G.op (.int .i64 (((n : Nat) : Int) - 1 - ((c + 1 : Nat) : Int))) (fun w => by kernel_rfl) (by kernel_rfl) ?_
      exact E.To.round (c + 1) (by (first | assumption | ((try simp only [Bool.or_eq_false_iff, Bool.or_eq_true, Bool.and_eq_true, Bool.and_eq_false_iff, decide_eq_true_eq, decide_eq_false_iff_not, ge_iff_le, gt_iff_lt] at *); omega))) (by (first | assumption | ((try simp only [Bool.or_eq_false_iff, Bool.or_eq_true, Bool.and_eq_true, Bool.and_eq_false_iff, decide_eq_true_eq, decide_eq_false_iff_not, ge_iff_le, gt_iff_lt] at *); omega))) ⟨by kernel_rfl, by kernel_rfl⟩ (List.Sublist.refl _) (fun _ h => h)
    · skip
      refine E.C.exit (E.P.et (E.P.et (E.P.eh (E.To.code ?_))))
      refine E.C.seq ?_
      refine E.C.region ?_
      refine E.G.op (.int .u32 (M.ldv o a n c)) (fun w => by kernel_rfl) (by kernel_rfl) ?_
      refine E.G.op (.int .u32 (M.ldv o a n c)) (fun w => by kernel_rfl) (by kernel_rfl) ?_
      refine E.G.op (.int .u32 0) (fun w => by kernel_rfl) (by kernel_rfl) ?_
      refine E.G.op (.bool true) (fun w => by kernel_rfl) (by kernel_rfl) ?_
      refine E.To.code ?_
      refine E.C.ret (E.To.body (fn := Try.f17) [.int .u32 (M.ldv o a n c), .int .u32 0, .bool true] ?_ ?_)
      · exact ⟨⟨by kernel_rfl, by kernel_rfl⟩, ⟨by kernel_rfl, by kernel_rfl⟩, ⟨by kernel_rfl, by kernel_rfl⟩, trivial⟩
      · intro w h
        obtain rfl : c = n := by (first | assumption | ((try simp only [Bool.or_eq_false_iff, Bool.or_eq_true, Bool.and_eq_true, Bool.and_eq_false_iff, decide_eq_true_eq, decide_eq_false_iff_not, ge_iff_le, gt_iff_lt] at *); omega))
        exact ⟨by unfold M.load; rw [M.b1 hc1]; rfl, h.ch.bel (fun _ h => h.elim)⟩
end Go.Proofs.Ytdjjjikokfadiaa
