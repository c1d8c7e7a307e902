/- Walks: the readers of mem, first part, printed by wip/eng. No condition but what is named. -/
import Derived.Test.YtdjjjikokfadiaaProg
import Derived.Test.YtdjjjikokfadiaaMa
namespace Go.Proofs.Ytdjjjikokfadiaa
set_option linter.unusedVariables false
set_option linter.unusedSimpArgs false
open Go.RowKit
theorem M.w64 {n : Nat} (h : n < 4294967296) : IntKind.wrap .i64 ((n : Nat) : Int) = ((n : Nat) : Int) := IntWalk.i64_in _ (by omega)
theorem M.div (a : Nat) (ha : a < 4294967296) : IntKind.wrap .u32 (Int.tdiv ((a : Nat) : Int) 256) = ((a / 256 : Nat) : Int) := by
  rw [Int.tdiv_eq_ediv_of_nonneg (by omega)]
  show (a : Int) / 256 % 4294967296 = _
  omega
theorem M.mod (a : Nat) : Int.tmod ((a : Nat) : Int) 256 = ((a % 256 : Nat) : Int) := by
  rw [Int.tmod_eq_emod_of_nonneg (by omega)]
  omega
theorem M.At.byte {o : M.Obj} {w : World} (h : M.At o w) {p : Nat} (hp : M.Pg o.sl p) (J : Nat) (hJ : J < 256) (j : Nat) (hj : j = J) : w.cell? ⟨p, j, none⟩ = some (.int .u8 (o.C p J)) := by
  subst hj; exact h.pg p hp j hJ
def M.pages (o : M.Obj) : Int := ((o.sl.length : Nat) : Int)
theorem Pages_any (o : M.Obj) (w : World) (hat : M.At o w) : Calls Try.prog 20 #[.pointer (some ⟨o.m, 0, none⟩)] w fun e w' => e = .returned (.int .i64 ((o.sl.length : Nat) : Int)) ∧ Bel w w' := by
  refine E.enter (n := 10) (S := fun _ => False) Try.func20 rfl rfl (by kernel_rfl) (hat.hp) ?_
  refine E.C.seq ?_
  refine E.C.region ?_
  refine E.G.op (.int .i64 0) (fun w => by kernel_rfl) (by kernel_rfl) ?_
  refine E.To.code ?_
  refine E.C.seq ?_
  refine E.C.seq ?_
  refine E.C.region ?_
  refine E.G.op (.pointer (some ⟨o.m, 0, none⟩)) (fun w => by kernel_rfl) (by kernel_rfl) ?_
  refine E.G.op (.bool false) (fun w => by kernel_rfl) (by kernel_rfl) ?_
  refine E.To.code ?_
  refine E.C.condF (by kernel_rfl) (by kernel_rfl) ?_
  refine E.C.skip (E.To.code ?_)
  refine E.C.seq ?_
  refine E.C.region ?_
  refine E.G.op (.pointer (some ⟨o.m, 0, none⟩)) (fun w => by kernel_rfl) (by kernel_rfl) ?_
  refine E.G.op (.pointer (some ⟨o.m, 0, none⟩)) (fun w => by kernel_rfl) (by kernel_rfl) ?_
  refine E.G.op (.pointer (some ⟨o.m, 0, none⟩)) (fun w => by kernel_rfl) (by kernel_rfl) ?_
  refine E.G.val (.slice o.ao o.sl.length o.cap) (by kernel_rfl) (fun w h => M.load1 (by kernel_rfl) (M.one Try.underlying64 rfl) h.x.c0) ?_
  refine E.G.op (.int .i64 ((o.sl.length : Nat) : Int)) (fun w => by kernel_rfl) (by kernel_rfl) ?_
  refine E.G.op (.int .i64 ((o.sl.length : Nat) : Int)) (fun w => by kernel_rfl) (by kernel_rfl) ?_
  refine E.To.code ?_
  refine E.C.weak [(2, .int .i64 ((o.sl.length : Nat) : Int))] [] ⟨by kernel_rfl, by kernel_rfl⟩ (List.Sublist.refl _) ?_
  refine E.C.ret (E.To.body (fn := Try.f20) [.int .i64 ((o.sl.length : Nat) : Int)] ?_ ?_)
  · exact ⟨⟨by kernel_rfl, by kernel_rfl⟩, trivial⟩
  · intro w h
    exact ⟨rfl, h.ch.bel (fun _ h => h.elim)⟩
def M.atOut (o : M.Obj) (a : Nat) : Value := undef
theorem at_out (o : M.Obj) (a : Nat) (ha : a < 4294967296) (hb : o.sl.length ≤ a / 256) (w : World) (hat : M.At o w) : Calls Try.prog 40 #[.pointer (some ⟨o.m, 0, none⟩), .int .u32 ((a : Nat) : Int)] w fun e w' => e = .returned (.pointer none) ∧ Bel w w' := by
  refine E.enter (n := 19) (S := fun _ => False) Try.func40 rfl rfl (by kernel_rfl) (hat.hp) ?_
  refine E.C.seq ?_
  refine E.C.region ?_
  refine E.G.op (.pointer none) (fun w => by kernel_rfl) (by kernel_rfl) ?_
  refine E.To.code ?_
  refine E.C.seq ?_
  refine E.C.region ?_
  refine E.G.op (.int .u32 ((a : Nat) : Int)) (fun w => by kernel_rfl) (by kernel_rfl) ?_
  refine E.G.val (.int .u32 ((a / 256 : Nat) : Int)) (by kernel_rfl) (fun w h => E.run_as (a := .int .u32 (IntKind.wrap .u32 (Int.tdiv ((a : Nat) : Int) 256))) (by kernel_rfl) (congrArg (Value.int .u32) (M.div a ha))) ?_
  refine E.G.val (.int .i64 ((a / 256 : Nat) : Int)) (by kernel_rfl) (fun w h => E.run_as (a := .int .i64 (IntKind.wrap .i64 ((a / 256 : Nat) : Int))) (by kernel_rfl) (congrArg (Value.int .i64) (M.w64 (by omega)))) ?_
  refine E.G.op (.int .i64 ((a / 256 : Nat) : Int)) (fun w => by kernel_rfl) (by kernel_rfl) ?_
  refine E.To.code ?_
  refine E.C.seq ?_
  refine E.C.seq ?_
  refine E.C.region ?_
  refine E.G.op (.int .i64 ((a / 256 : Nat) : Int)) (fun w => by kernel_rfl) (by kernel_rfl) ?_
  refine E.G.op (.pointer (some ⟨o.m, 0, none⟩)) (fun w => by kernel_rfl) (by kernel_rfl) ?_
  refine E.G.call (.int .i64 ((o.sl.length : Nat) : Int)) (fun w h => Pages_any o w h.x) (fun w _ => by kernel_rfl) (by kernel_rfl) ?_
  refine E.G.val (.bool true) (by kernel_rfl) (fun w h => E.run_as (a := .bool (decide (((a / 256 : Nat) : Int) ≥ ((o.sl.length : Nat) : Int)))) (by kernel_rfl) (congrArg Value.bool (decide_eq_true (by omega)))) ?_
  refine E.To.code ?_
  refine E.C.condT (by kernel_rfl) (by kernel_rfl) ?_
  refine E.C.seq ?_
  refine E.C.region ?_
  refine E.G.op (.pointer none) (fun w => by kernel_rfl) (by kernel_rfl) ?_
  refine E.To.code ?_
  refine E.C.weak [(0, .pointer (some ⟨o.m, 0, none⟩)), (4, .pointer none), (5, .int .i64 ((a / 256 : Nat) : Int))] [] ⟨by kernel_rfl, by kernel_rfl⟩ (List.Sublist.refl _) ?_
  refine E.C.ret (E.P.rt (E.To.body (fn := Try.f40) [.pointer none] ?_ ?_))
  · exact ⟨⟨by kernel_rfl, by kernel_rfl⟩, trivial⟩
  · intro w h
    exact ⟨rfl, h.ch.bel (fun _ h => h.elim)⟩
def M.atIn (o : M.Obj) (a : Nat) : Value := undef
theorem at_in (o : M.Obj) (a : Nat) (ha : a < 4294967296) (hb : a / 256 < o.sl.length) (w : World) (hat : M.At o w) : Calls Try.prog 40 #[.pointer (some ⟨o.m, 0, none⟩), .int .u32 ((a : Nat) : Int)] w fun e w' => e = .returned (.pointer (some ⟨o.b, (a / 256) * 7, none⟩)) ∧ Bel w w' := by
  refine E.enter (n := 19) (S := fun _ => False) Try.func40 rfl rfl (by kernel_rfl) (hat.hp) ?_
  refine E.C.seq ?_
  refine E.C.region ?_
  refine E.G.op (.pointer none) (fun w => by kernel_rfl) (by kernel_rfl) ?_
  refine E.To.code ?_
  refine E.C.seq ?_
  refine E.C.region ?_
  refine E.G.op (.int .u32 ((a : Nat) : Int)) (fun w => by kernel_rfl) (by kernel_rfl) ?_
  refine E.G.val (.int .u32 ((a / 256 : Nat) : Int)) (by kernel_rfl) (fun w h => E.run_as (a := .int .u32 (IntKind.wrap .u32 (Int.tdiv ((a : Nat) : Int) 256))) (by kernel_rfl) (congrArg (Value.int .u32) (M.div a ha))) ?_
  refine E.G.val (.int .i64 ((a / 256 : Nat) : Int)) (by kernel_rfl) (fun w h => E.run_as (a := .int .i64 (IntKind.wrap .i64 ((a / 256 : Nat) : Int))) (by kernel_rfl) (congrArg (Value.int .i64) (M.w64 (by omega)))) ?_
  refine E.G.op (.int .i64 ((a / 256 : Nat) : Int)) (fun w => by kernel_rfl) (by kernel_rfl) ?_
  refine E.To.code ?_
  refine E.C.seq ?_
  refine E.C.seq ?_
  refine E.C.region ?_
  refine E.G.op (.int .i64 ((a / 256 : Nat) : Int)) (fun w => by kernel_rfl) (by kernel_rfl) ?_
  refine E.G.op (.pointer (some ⟨o.m, 0, none⟩)) (fun w => by kernel_rfl) (by kernel_rfl) ?_
  refine E.G.call (.int .i64 ((o.sl.length : Nat) : Int)) (fun w h => Pages_any o w h.x) (fun w _ => by kernel_rfl) (by kernel_rfl) ?_
  refine E.G.val (.bool false) (by kernel_rfl) (fun w h => E.run_as (a := .bool (decide (((a / 256 : Nat) : Int) ≥ ((o.sl.length : Nat) : Int)))) (by kernel_rfl) (congrArg Value.bool (decide_eq_false (by omega)))) ?_
  refine E.To.code ?_
  refine E.C.condF (by kernel_rfl) (by kernel_rfl) ?_
  refine E.C.skip (E.To.code ?_)
  refine E.C.weak [(0, .pointer (some ⟨o.m, 0, none⟩)), (4, .pointer none), (5, .int .i64 ((a / 256 : Nat) : Int))] [] ⟨by kernel_rfl, by kernel_rfl⟩ (List.Sublist.refl _) ?_
  refine E.C.seq ?_
  refine E.C.region ?_
  refine E.G.op (.pointer (some ⟨o.m, 0, none⟩)) (fun w => by kernel_rfl) (by kernel_rfl) ?_
  refine E.G.op (.pointer (some ⟨o.m, 0, none⟩)) (fun w => by kernel_rfl) (by kernel_rfl) ?_
  refine E.G.op (.pointer (some ⟨o.m, 0, none⟩)) (fun w => by kernel_rfl) (by kernel_rfl) ?_
  refine E.G.val (.slice o.ao o.sl.length o.cap) (by kernel_rfl) (fun w h => M.load1 (by kernel_rfl) (M.one Try.underlying64 rfl) h.x.c0) ?_
  refine E.G.op (.int .i64 ((a / 256 : Nat) : Int)) (fun w => by kernel_rfl) (by kernel_rfl) ?_
  refine E.G.val (.pointer (some ⟨o.b, (a / 256) * 7, none⟩)) (by kernel_rfl) (fun w h => M.idxO (e := 74) (i := (a / 256)) (k := .i64) (ao := o.ao) (b := o.b) (len := o.sl.length) (cap := o.cap) (esz := 7) (by kernel_rfl) (by kernel_rfl) (by kernel_rfl) (by kernel_rfl) (by (first | assumption | ((try simp only [Bool.or_eq_false_iff, Bool.or_eq_true, Bool.and_eq_true, Bool.and_eq_false_iff, decide_eq_true_eq, decide_eq_false_iff_not, ge_iff_le, gt_iff_lt] at *); omega))) h.x.ha w) ?_
  refine E.G.op (.pointer (some ⟨o.b, (a / 256) * 7, none⟩)) (fun w => by kernel_rfl) (by kernel_rfl) ?_
  refine E.To.code ?_
  refine E.C.weak [(4, .pointer (some ⟨o.b, (a / 256) * 7, none⟩))] [] ⟨by kernel_rfl, by kernel_rfl⟩ (List.Sublist.refl _) ?_
  refine E.C.ret (E.To.body (fn := Try.f40) [.pointer (some ⟨o.b, (a / 256) * 7, none⟩)] ?_ ?_)
  · exact ⟨⟨by kernel_rfl, by kernel_rfl⟩, trivial⟩
  · intro w h
    exact ⟨rfl, h.ch.bel (fun _ h => h.elim)⟩
def M.peek (o : M.Obj) (a : Nat) : Int := (bif o.out (a / 256) then 0 else (o.C (o.at (a / 256)).d (a % 256)))
theorem Peek_any (o : M.Obj) (a : Nat) (ha : a < 4294967296) (w : World) (hat : M.At o w) : Calls Try.prog 21 #[.pointer (some ⟨o.m, 0, none⟩), .int .u32 ((a : Nat) : Int)] w fun e w' => e = .returned (.int .u8 (M.peek o a)) ∧ Bel w w' := by
  refine E.enter (n := 20) (S := fun _ => False) Try.func21 rfl rfl (by kernel_rfl) (hat.hp) ?_
  refine E.C.seq ?_
  refine E.C.region ?_
  refine E.G.op (.int .u8 0) (fun w => by kernel_rfl) (by kernel_rfl) ?_
  refine E.To.code ?_
  refine E.C.seq ?_
  refine E.C.region ?_
  refine E.G.op (.pointer (some ⟨o.m, 0, none⟩)) (fun w => by kernel_rfl) (by kernel_rfl) ?_
  refine E.G.op (.int .u32 ((a : Nat) : Int)) (fun w => by kernel_rfl) (by kernel_rfl) ?_
  refine E.fork (o.out (a / 256)) (fun hc1 => ?_) (fun hc1 => ?_)
  · skip
    refine E.G.call (.pointer none) (fun w h => at_out o a (by omega) (M.out_of hc1) w h.x) (fun w _ => by kernel_rfl) (by kernel_rfl) ?_
    refine E.G.op (.pointer none) (fun w => by kernel_rfl) (by kernel_rfl) ?_
    refine E.To.code ?_
    refine E.C.seq ?_
    refine E.C.seq ?_
    refine E.C.region ?_
    refine E.G.op (.pointer none) (fun w => by kernel_rfl) (by kernel_rfl) ?_
    refine E.G.op (.bool true) (fun w => by kernel_rfl) (by kernel_rfl) ?_
    refine E.To.code ?_
    refine E.C.condT (by kernel_rfl) (by kernel_rfl) ?_
    refine E.C.seq ?_
    refine E.C.region ?_
    refine E.G.op (.int .u8 0) (fun w => by kernel_rfl) (by kernel_rfl) ?_
    refine E.To.code ?_
    refine E.C.ret (E.P.rt (E.To.body (fn := Try.f21) [.int .u8 0] ?_ ?_))
    · exact ⟨⟨by kernel_rfl, by kernel_rfl⟩, trivial⟩
    · intro w h
      exact ⟨by show Ending.returned (.int .u8 0) = _; unfold M.peek; rw [hc1, cond_true], h.ch.bel (fun _ h => h.elim)⟩
  · skip
    have hi2 : (a / 256) < o.sl.length := M.in_of hc1
    refine E.G.call (.pointer (some ⟨o.b, (a / 256) * 7, none⟩)) (fun w h => at_in o a (by omega) hi2 w h.x) (fun w _ => by kernel_rfl) (by kernel_rfl) ?_
    refine E.G.op (.pointer (some ⟨o.b, (a / 256) * 7, none⟩)) (fun w => by kernel_rfl) (by kernel_rfl) ?_
    refine E.To.code ?_
    refine E.C.seq ?_
    refine E.C.seq ?_
    refine E.C.region ?_
    refine E.G.op (.pointer (some ⟨o.b, (a / 256) * 7, none⟩)) (fun w => by kernel_rfl) (by kernel_rfl) ?_
    refine E.G.op (.bool false) (fun w => by kernel_rfl) (by kernel_rfl) ?_
    refine E.To.code ?_
    refine E.C.condF (by kernel_rfl) (by kernel_rfl) ?_
    refine E.C.skip (E.To.code ?_)
    refine E.C.seq ?_
    refine E.C.region ?_
    refine E.G.op (.pointer (some ⟨o.b, (a / 256) * 7, none⟩)) (fun w => by kernel_rfl) (by kernel_rfl) ?_
    refine E.G.op (.pointer (some ⟨o.b, (a / 256) * 7, none⟩)) (fun w => by kernel_rfl) (by kernel_rfl) ?_
    refine E.G.op (.pointer (some ⟨o.b, (a / 256) * 7, none⟩)) (fun w => by kernel_rfl) (by kernel_rfl) ?_
    refine E.G.val (.pointer (some ⟨(o.at (a / 256)).d, 0, none⟩)) (by kernel_rfl) (fun w h => M.load1 (by kernel_rfl) (M.one Try.underlying70 rfl) (h.x.fld (i := (a / 256)) (k := 0) (by (first | assumption | ((try simp only [Bool.or_eq_false_iff, Bool.or_eq_true, Bool.and_eq_true, Bool.and_eq_false_iff, decide_eq_true_eq, decide_eq_false_iff_not, ge_iff_le, gt_iff_lt] at *); omega))) rfl (by decide) _ rfl)) ?_
    refine E.G.op (.int .u32 ((a : Nat) : Int)) (fun w => by kernel_rfl) (by kernel_rfl) ?_
    refine E.G.val (.int .u32 ((a % 256 : Nat) : Int)) (by kernel_rfl) (fun w h => E.run_as (a := .int .u32 (Int.tmod ((a : Nat) : Int) 256)) (by kernel_rfl) (congrArg (Value.int .u32) (M.mod a))) ?_
    refine E.G.op (.pointer (some ⟨(o.at (a / 256)).d, 0, none⟩)) (fun w => by kernel_rfl) (by kernel_rfl) ?_
    refine E.G.val (.pointer (some ⟨(o.at (a / 256)).d, 0 + (((a % 256 : Nat) : Int)).toNat * 1, none⟩)) (by kernel_rfl) (fun w h => E.idxA (e := 5) (o.at (a / 256)).d 0 256 1 .u32 (((a % 256 : Nat) : Int)) (by kernel_rfl) (by kernel_rfl) (by kernel_rfl) (by kernel_rfl) (by omega) (by omega) w) ?_
    refine E.G.val (.int .u8 (o.C (o.at (a / 256)).d (a % 256))) (by kernel_rfl) (fun w h => M.load1 (by kernel_rfl) (M.one Try.underlying5 rfl) (h.x.byte (M.pg_d (i := (a / 256)) (by (first | assumption | ((try simp only [Bool.or_eq_false_iff, Bool.or_eq_true, Bool.and_eq_true, Bool.and_eq_false_iff, decide_eq_true_eq, decide_eq_false_iff_not, ge_iff_le, gt_iff_lt] at *); omega)))) (a % 256) (by omega) (0 + (((a % 256 : Nat) : Int)).toNat * 1) (by omega))) ?_
    refine E.G.op (.int .u8 (o.C (o.at (a / 256)).d (a % 256))) (fun w => by kernel_rfl) (by kernel_rfl) ?_
    refine E.To.code ?_
    refine E.C.weak [(4, .int .u8 (o.C (o.at (a / 256)).d (a % 256)))] [] ⟨by kernel_rfl, by kernel_rfl⟩ (List.Sublist.refl _) ?_
    refine E.C.ret (E.To.body (fn := Try.f21) [.int .u8 (o.C (o.at (a / 256)).d (a % 256))] ?_ ?_)
    · exact ⟨⟨by kernel_rfl, by kernel_rfl⟩, trivial⟩
    · intro w h
      exact ⟨by show Ending.returned (.int .u8 (o.C (o.at (a / 256)).d (a % 256))) = _; unfold M.peek; rw [hc1, cond_false], h.ch.bel (fun _ h => h.elim)⟩
end Go.Proofs.Ytdjjjikokfadiaa
