/- Walks: the readers of mem, second part, printed by wip/eng. No condition but what is named. -/
import Derived.Test.YtdjjjikokfadiaaProg
import Derived.Test.YtdjjjikokfadiaaMb
namespace Go.Proofs.Ytdjjjikokfadiaa
set_option linter.unusedVariables false
set_option linter.unusedSimpArgs false
open Go.RowKit
theorem M.idxI {P : Program} {fr : E.Fr} {d : Option Nat} {T : TypeId} {pos : String} {af : Array Edge} {gd : Option (Nat × Bool)} {t e : TypeId} {x ix : Operand} {ao : Option Addr} {b len cap esz : Nat} {k : IntKind} {i : Int} (hu : P.underlying t = some (.slice e)) (hs : (P.info? e).map (·.size) = some esz) (hx : E.ev fr x = .slice ao len cap) (hi : E.ev fr ix = .int k i)
    (h0 : 0 ≤ i) (h1 : i < len) (ha : 0 < len → ao = some ⟨b, 0, none⟩) (w : World) : (execOp (E.ev fr) ⟨d, .indexAddr t x ix, T, pos, af, gd⟩).run P w = .ok (.value (.pointer (some ⟨b, i.toNat * esz, none⟩))) w := by
  obtain ⟨j, rfl⟩ := Int.eq_ofNat_of_zero_le h0
  exact M.idxO hu hs hx hi (by omega) ha w
/-- The page that is fetched from. -/
def M.img (s : M.Slot) : Nat := s.c.getD s.d
theorem M.pg_img {o : M.Obj} {i : Nat} (h : i < o.sl.length) : M.Pg o.sl (M.img (o.at i)) := by
  unfold M.img
  cases hc : (o.at i).c with
  | none => exact M.pg_d h
  | some p => exact M.pg_c h hc
theorem M.img_t {s : M.Slot} (h : s.c.isNone = true) : Ending.returned (.pointer (some ⟨s.d, 0, none⟩)) = .returned (.pointer (some ⟨M.img s, 0, none⟩)) := by
  unfold M.img; cases hc : s.c with
  | none => rfl
  | some p => rw [hc] at h; cases h
theorem M.img_f {s : M.Slot} (h : s.c.isNone = false) : Ending.returned (M.ptr s.c) = .returned (.pointer (some ⟨M.img s, 0, none⟩)) := by
  unfold M.img M.ptr; cases hc : s.c with
  | none => rw [hc] at h; cases h
  | some p => rfl
theorem M.ptr_nil {fr : E.Fr} {d : Option Nat} {T u : TypeId} {pos : String} {af : Array Edge} {gd : Option (Nat × Bool)} {x y : Operand} {p : Option Nat} {w : World} (hx : E.ev fr x = M.ptr p) (hy : E.ev fr y = .pointer none) :
    (execOp (E.ev fr) ⟨d, .binOp .eql 70 x y u, T, pos, af, gd⟩).run Try.prog w = .ok (.value (.bool p.isNone)) w := by
  show (do let r ← (do eqGuard .eql 70 x y (E.ev fr x) (E.ev fr y); binOp .eql 70 (E.ev fr x) (E.ev fr y)); pure (Next.value r) : Sem Next).run Try.prog w = _
  rw [hx, hy]
  cases p with
  | none => kernel_rfl
  | some b => kernel_rfl
theorem image_any (o : M.Obj) (k : Nat) (hk : k < o.sl.length) (w : World) (hat : M.At o w) : Calls Try.prog 41 #[.pointer (some ⟨o.b, k * 7, none⟩)] w fun e w' => e = .returned (.pointer (some ⟨M.img (o.at k), 0, none⟩)) ∧ Bel w w' := by
  refine E.enter (n := 16) (S := fun _ => False) Try.func41 rfl rfl (by kernel_rfl) (hat.hp) ?_
  refine E.C.seq ?_
  refine E.C.region ?_
  refine E.G.op (.pointer none) (fun w => by kernel_rfl) (by kernel_rfl) ?_
  refine E.To.code ?_
  refine E.C.seq ?_
  refine E.C.seq ?_
  refine E.C.region ?_
  refine E.G.op (.pointer (some ⟨o.b, k * 7, none⟩)) (fun w => by kernel_rfl) (by kernel_rfl) ?_
  refine E.G.op (.pointer (some ⟨o.b, k * 7, none⟩)) (fun w => by kernel_rfl) (by kernel_rfl) ?_
  refine E.G.op (.pointer (some ⟨o.b, (k * 7) + 1, none⟩)) (fun w => by kernel_rfl) (by kernel_rfl) ?_
  refine E.G.val (M.ptr (o.at k).c) (by kernel_rfl) (fun w h => M.load1 (by kernel_rfl) (M.one Try.underlying70 rfl) (h.x.fld (i := k) (k := 1) (by (first | assumption | ((try simp only [Bool.or_eq_false_iff, Bool.or_eq_true, Bool.and_eq_true, Bool.and_eq_false_iff, decide_eq_true_eq, decide_eq_false_iff_not, ge_iff_le, gt_iff_lt] at *); omega))) rfl (by decide) _ rfl)) ?_
  refine E.G.val (.bool (((o.at k).c).isNone)) (by kernel_rfl) (fun w h => M.ptr_nil (by kernel_rfl) (by kernel_rfl)) ?_
  refine E.To.code ?_
  refine E.C.cond (((o.at k).c).isNone) (by kernel_rfl) (by kernel_rfl) (fun hc1 => ?_) (fun hc1 => ?_)
  · skip
    refine E.C.seq ?_
    refine E.C.region ?_
    refine E.G.op (.pointer (some ⟨o.b, k * 7, none⟩)) (fun w => by kernel_rfl) (by kernel_rfl) ?_
    refine E.G.op (.pointer (some ⟨o.b, k * 7, none⟩)) (fun w => by kernel_rfl) (by kernel_rfl) ?_
    refine E.G.op (.pointer (some ⟨o.b, k * 7, none⟩)) (fun w => by kernel_rfl) (by kernel_rfl) ?_
    refine E.G.val (.pointer (some ⟨(o.at k).d, 0, none⟩)) (by kernel_rfl) (fun w h => M.load1 (by kernel_rfl) (M.one Try.underlying70 rfl) (h.x.fld (i := k) (k := 0) (by (first | assumption | ((try simp only [Bool.or_eq_false_iff, Bool.or_eq_true, Bool.and_eq_true, Bool.and_eq_false_iff, decide_eq_true_eq, decide_eq_false_iff_not, ge_iff_le, gt_iff_lt] at *); omega))) rfl (by decide) _ rfl)) ?_
    refine E.G.op (.pointer (some ⟨(o.at k).d, 0, none⟩)) (fun w => by kernel_rfl) (by kernel_rfl) ?_
    refine E.To.code ?_
    refine E.C.weak [(0, .pointer (some ⟨o.b, k * 7, none⟩)), (2, .pointer (some ⟨(o.at k).d, 0, none⟩))] [] ⟨by kernel_rfl, by kernel_rfl⟩ (List.Sublist.refl _) ?_
    refine E.C.ret (E.P.rt (E.To.body (fn := Try.f41) [.pointer (some ⟨(o.at k).d, 0, none⟩)] ?_ ?_))
    · exact ⟨⟨by kernel_rfl, by kernel_rfl⟩, trivial⟩
    · intro w h
      exact ⟨M.img_t hc1, h.ch.bel (fun _ h => h.elim)⟩
  · skip
    refine E.C.skip (E.To.code ?_)
    refine E.C.seq ?_
    refine E.C.region ?_
    refine E.G.op (.pointer (some ⟨o.b, k * 7, none⟩)) (fun w => by kernel_rfl) (by kernel_rfl) ?_
    refine E.G.op (.pointer (some ⟨o.b, k * 7, none⟩)) (fun w => by kernel_rfl) (by kernel_rfl) ?_
    refine E.G.op (.pointer (some ⟨o.b, (k * 7) + 1, none⟩)) (fun w => by kernel_rfl) (by kernel_rfl) ?_
    refine E.G.val (M.ptr (o.at k).c) (by kernel_rfl) (fun w h => M.load1 (by kernel_rfl) (M.one Try.underlying70 rfl) (h.x.fld (i := k) (k := 1) (by (first | assumption | ((try simp only [Bool.or_eq_false_iff, Bool.or_eq_true, Bool.and_eq_true, Bool.and_eq_false_iff, decide_eq_true_eq, decide_eq_false_iff_not, ge_iff_le, gt_iff_lt] at *); omega))) rfl (by decide) _ rfl)) ?_
    refine E.G.op (M.ptr (o.at k).c) (fun w => by kernel_rfl) (by kernel_rfl) ?_
    refine E.To.code ?_
    refine E.C.weak [(2, M.ptr (o.at k).c)] [] ⟨by kernel_rfl, by kernel_rfl⟩ (List.Sublist.refl _) ?_
    refine E.C.ret (E.To.body (fn := Try.f41) [M.ptr (o.at k).c] ?_ ?_)
    · exact ⟨⟨by kernel_rfl, by kernel_rfl⟩, trivial⟩
    · intro w h
      exact ⟨M.img_f hc1, h.ch.bel (fun _ h => h.elim)⟩
def M.rights (o : M.Obj) (n : Int) : Int := (bif ((decide (n < 0)) || (decide (n ≥ ((o.sl.length : Nat) : Int)))) then 0 else (o.at n.toNat).r)
theorem Rights_any (o : M.Obj) (n : Int) (w : World) (hat : M.At o w) : Calls Try.prog 24 #[.pointer (some ⟨o.m, 0, none⟩), .int .i64 n] w fun e w' => e = .returned (.int .i64 (M.rights o n)) ∧ Bel w w' := by
  refine E.enter (n := 21) (S := fun _ => False) Try.func24 rfl rfl (by kernel_rfl) (hat.hp) ?_
  refine E.C.seq ?_
  refine E.C.region ?_
  refine E.G.op (.int .i64 0) (fun w => by kernel_rfl) (by kernel_rfl) ?_
  refine E.To.code ?_
  refine E.C.seq ?_
  refine E.C.seq ?_
  refine E.C.region ?_
  refine E.G.op (.int .i64 n) (fun w => by kernel_rfl) (by kernel_rfl) ?_
  refine E.G.op (.bool (decide (n < 0))) (fun w => by kernel_rfl) (by kernel_rfl) ?_
  refine E.G.op (.bool (decide (n < 0))) (fun w => by kernel_rfl) (by kernel_rfl) ?_
  refine E.G.cut 5 [(0, .pointer (some ⟨o.m, 0, none⟩)), (1, .int .i64 n), (4, .int .i64 0), (12, .bool ((decide (n < 0)) || (decide (n ≥ ((o.sl.length : Nat) : Int)))))] (fun w => M.At o w) [] ?_ ?_
  · generalize hc1 : (decide (n < 0)) = b2
    cases b2
    · skip
      refine E.G.op (.int .i64 n) (fun w => by kernel_rfl) (by kernel_rfl) ?_
      refine E.G.op (.pointer (some ⟨o.m, 0, none⟩)) (fun w => by kernel_rfl) (by kernel_rfl) ?_
      refine E.G.call (.int .i64 ((o.sl.length : Nat) : Int)) (fun w h => Pages_any o w h.x) (fun w _ => by kernel_rfl) (by kernel_rfl) ?_
      refine E.G.op (.bool (decide (n ≥ ((o.sl.length : Nat) : Int)))) (fun w => by kernel_rfl) (by kernel_rfl) ?_
      refine E.G.op (.bool (decide (n ≥ ((o.sl.length : Nat) : Int)))) (fun w => by kernel_rfl) (by kernel_rfl) ?_
      exact E.G.end_pst ⟨by kernel_rfl, by kernel_rfl⟩ (List.Sublist.refl _) (fun _ h => h)
    · skip
      refine E.G.skip (by kernel_rfl) (by kernel_rfl) ?_
      refine E.G.skip (by kernel_rfl) (by kernel_rfl) ?_
      refine E.G.skip (by kernel_rfl) (by kernel_rfl) ?_
      refine E.G.skip (by kernel_rfl) (by kernel_rfl) ?_
      refine E.G.op (.bool true) (fun w => by kernel_rfl) (by kernel_rfl) ?_
      exact E.G.end_pst ⟨by kernel_rfl, by kernel_rfl⟩ (List.Sublist.refl _) (fun _ h => h)
  refine E.To.code ?_
  refine E.C.cond ((decide (n < 0)) || (decide (n ≥ ((o.sl.length : Nat) : Int)))) (by kernel_rfl) (by kernel_rfl) (fun hc3 => ?_) (fun hc3 => ?_)
  · skip
    refine E.C.seq ?_
    refine E.C.region ?_
    refine E.G.op (.int .i64 0) (fun w => by kernel_rfl) (by kernel_rfl) ?_
    refine E.To.code ?_
    refine E.C.ret (E.P.rt (E.To.body (fn := Try.f24) [.int .i64 0] ?_ ?_))
    · exact ⟨⟨by kernel_rfl, by kernel_rfl⟩, trivial⟩
    · intro w h
      exact ⟨by show Ending.returned (.int .i64 0) = _; unfold M.rights; rw [hc3, cond_true], h.ch.bel (fun _ h => h.elim)⟩
  · skip
    refine E.C.skip (E.To.code ?_)
    refine E.C.seq ?_
    refine E.C.region ?_
    refine E.G.op (.pointer (some ⟨o.m, 0, none⟩)) (fun w => by kernel_rfl) (by kernel_rfl) ?_
    refine E.G.op (.pointer (some ⟨o.m, 0, none⟩)) (fun w => by kernel_rfl) (by kernel_rfl) ?_
    refine E.G.op (.pointer (some ⟨o.m, 0, none⟩)) (fun w => by kernel_rfl) (by kernel_rfl) ?_
    refine E.G.val (.slice o.ao o.sl.length o.cap) (by kernel_rfl) (fun w h => M.load1 (by kernel_rfl) (M.one Try.underlying64 rfl) h.x.c0) ?_
    refine E.G.op (.int .i64 n) (fun w => by kernel_rfl) (by kernel_rfl) ?_
    refine E.G.val (.pointer (some ⟨o.b, n.toNat * 7, none⟩)) (by kernel_rfl) (fun w h => M.idxI (e := 74) (i := n) (k := .i64) (ao := o.ao) (b := o.b) (len := o.sl.length) (cap := o.cap) (esz := 7) (by kernel_rfl) (by kernel_rfl) (by kernel_rfl) (by kernel_rfl) (by (first | assumption | ((try simp only [Bool.or_eq_false_iff, Bool.or_eq_true, Bool.and_eq_true, Bool.and_eq_false_iff, decide_eq_true_eq, decide_eq_false_iff_not, ge_iff_le, gt_iff_lt] at *); omega))) (by (first | assumption | ((try simp only [Bool.or_eq_false_iff, Bool.or_eq_true, Bool.and_eq_true, Bool.and_eq_false_iff, decide_eq_true_eq, decide_eq_false_iff_not, ge_iff_le, gt_iff_lt] at *); omega))) h.x.ha w) ?_
    refine E.G.op (.pointer (some ⟨o.b, (n.toNat * 7) + 6, none⟩)) (fun w => by kernel_rfl) (by kernel_rfl) ?_
    refine E.G.val (.int .i64 ((o.at n.toNat).r)) (by kernel_rfl) (fun w h => M.load1 (by kernel_rfl) (M.one Try.underlying3 rfl) (h.x.fld (i := n.toNat) (k := 6) (by (first | assumption | ((try simp only [Bool.or_eq_false_iff, Bool.or_eq_true, Bool.and_eq_true, Bool.and_eq_false_iff, decide_eq_true_eq, decide_eq_false_iff_not, ge_iff_le, gt_iff_lt] at *); omega))) rfl (by decide) _ rfl)) ?_
    refine E.G.op (.int .i64 ((o.at n.toNat).r)) (fun w => by kernel_rfl) (by kernel_rfl) ?_
    refine E.To.code ?_
    refine E.C.weak [(4, .int .i64 ((o.at n.toNat).r))] [] ⟨by kernel_rfl, by kernel_rfl⟩ (List.Sublist.refl _) ?_
    refine E.C.ret (E.To.body (fn := Try.f24) [.int .i64 ((o.at n.toNat).r)] ?_ ?_)
    · exact ⟨⟨by kernel_rfl, by kernel_rfl⟩, trivial⟩
    · intro w h
      exact ⟨by show Ending.returned (.int .i64 ((o.at n.toNat).r)) = _; unfold M.rights; rw [hc3, cond_false], h.ch.bel (fun _ h => h.elim)⟩
def M.code (o : M.Obj) (a : Nat) : Int := (bif o.out (a / 256) then 0 else (o.C (M.img (o.at (a / 256))) (a % 256)))
theorem Code_any (o : M.Obj) (a : Nat) (ha : a < 4294967296) (w : World) (hat : M.At o w) : Calls Try.prog 22 #[.pointer (some ⟨o.m, 0, none⟩), .int .u32 ((a : Nat) : Int)] w fun e w' => e = .returned (.int .u8 (M.code o a)) ∧ Bel w w' := by
  refine E.enter (n := 18) (S := fun _ => False) Try.func22 rfl rfl (by kernel_rfl) (hat.hp) ?_
  refine E.C.seq ?_
  refine E.C.region ?_
  refine E.G.op (.int .u8 0) (fun w => by kernel_rfl) (by kernel_rfl) ?_
  refine E.To.code ?_
  refine E.C.seq ?_
  refine E.C.region ?_
  refine E.G.op (.pointer (some ⟨o.m, 0, none⟩)) (fun w => by kernel_rfl) (by kernel_rfl) ?_
  refine E.G.op (.int .u32 ((a : Nat) : Int)) (fun w => by kernel_rfl) (by kernel_rfl) ?_
  refine E.fork (o.out (a / 256)) (fun hc1 => ?_) (fun hc1 => ?_)
  · skip
    refine E.G.call (.pointer none) (fun w h => at_out o a (by omega) (M.out_of hc1) w h.x) (fun w _ => by kernel_rfl) (by kernel_rfl) ?_
    refine E.G.op (.pointer none) (fun w => by kernel_rfl) (by kernel_rfl) ?_
    refine E.To.code ?_
    refine E.C.seq ?_
    refine E.C.seq ?_
    refine E.C.region ?_
    refine E.G.op (.pointer none) (fun w => by kernel_rfl) (by kernel_rfl) ?_
    refine E.G.op (.bool true) (fun w => by kernel_rfl) (by kernel_rfl) ?_
    refine E.To.code ?_
    refine E.C.condT (by kernel_rfl) (by kernel_rfl) ?_
    refine E.C.seq ?_
    refine E.C.region ?_
    refine E.G.op (.int .u8 0) (fun w => by kernel_rfl) (by kernel_rfl) ?_
    refine E.To.code ?_
    refine E.C.ret (E.P.rt (E.To.body (fn := Try.f22) [.int .u8 0] ?_ ?_))
    · exact ⟨⟨by kernel_rfl, by kernel_rfl⟩, trivial⟩
    · intro w h
      exact ⟨by show Ending.returned (.int .u8 0) = _; unfold M.code; rw [hc1, cond_true], h.ch.bel (fun _ h => h.elim)⟩
  · skip
    have hi2 : (a / 256) < o.sl.length := M.in_of hc1
    refine E.G.call (.pointer (some ⟨o.b, (a / 256) * 7, none⟩)) (fun w h => at_in o a (by omega) hi2 w h.x) (fun w _ => by kernel_rfl) (by kernel_rfl) ?_
    refine E.G.op (.pointer (some ⟨o.b, (a / 256) * 7, none⟩)) (fun w => by kernel_rfl) (by kernel_rfl) ?_
    refine E.To.code ?_
    refine E.C.seq ?_
    refine E.C.seq ?_
    refine E.C.region ?_
    refine E.G.op (.pointer (some ⟨o.b, (a / 256) * 7, none⟩)) (fun w => by kernel_rfl) (by kernel_rfl) ?_
    refine E.G.op (.bool false) (fun w => by kernel_rfl) (by kernel_rfl) ?_
    refine E.To.code ?_
    refine E.C.condF (by kernel_rfl) (by kernel_rfl) ?_
    refine E.C.skip (E.To.code ?_)
    refine E.C.seq ?_
    refine E.C.region ?_
    refine E.G.op (.pointer (some ⟨o.b, (a / 256) * 7, none⟩)) (fun w => by kernel_rfl) (by kernel_rfl) ?_
    refine E.G.call (.pointer (some ⟨(M.img (o.at (a / 256))), 0, none⟩)) (fun w h => image_any o (a / 256) (by (first | assumption | ((try simp only [Bool.or_eq_false_iff, Bool.or_eq_true, Bool.and_eq_true, Bool.and_eq_false_iff, decide_eq_true_eq, decide_eq_false_iff_not, ge_iff_le, gt_iff_lt] at *); omega))) w h.x) (fun w _ => by kernel_rfl) (by kernel_rfl) ?_
    refine E.G.op (.int .u32 ((a : Nat) : Int)) (fun w => by kernel_rfl) (by kernel_rfl) ?_
    refine E.G.val (.int .u32 ((a % 256 : Nat) : Int)) (by kernel_rfl) (fun w h => E.run_as (a := .int .u32 (Int.tmod ((a : Nat) : Int) 256)) (by kernel_rfl) (congrArg (Value.int .u32) (M.mod a))) ?_
    refine E.G.op (.pointer (some ⟨(M.img (o.at (a / 256))), 0, none⟩)) (fun w => by kernel_rfl) (by kernel_rfl) ?_
    refine E.G.val (.pointer (some ⟨(M.img (o.at (a / 256))), 0 + (((a % 256 : Nat) : Int)).toNat * 1, none⟩)) (by kernel_rfl) (fun w h => E.idxA (e := 5) (M.img (o.at (a / 256))) 0 256 1 .u32 (((a % 256 : Nat) : Int)) (by kernel_rfl) (by kernel_rfl) (by kernel_rfl) (by kernel_rfl) (by omega) (by omega) w) ?_
    refine E.G.val (.int .u8 (o.C (M.img (o.at (a / 256))) (a % 256))) (by kernel_rfl) (fun w h => M.load1 (by kernel_rfl) (M.one Try.underlying5 rfl) (h.x.byte (M.pg_img (i := (a / 256)) (by (first | assumption | ((try simp only [Bool.or_eq_false_iff, Bool.or_eq_true, Bool.and_eq_true, Bool.and_eq_false_iff, decide_eq_true_eq, decide_eq_false_iff_not, ge_iff_le, gt_iff_lt] at *); omega)))) (a % 256) (by omega) (0 + (((a % 256 : Nat) : Int)).toNat * 1) (by omega))) ?_
    refine E.G.op (.int .u8 (o.C (M.img (o.at (a / 256))) (a % 256))) (fun w => by kernel_rfl) (by kernel_rfl) ?_
    refine E.To.code ?_
    refine E.C.weak [(4, .int .u8 (o.C (M.img (o.at (a / 256))) (a % 256)))] [] ⟨by kernel_rfl, by kernel_rfl⟩ (List.Sublist.refl _) ?_
    refine E.C.ret (E.To.body (fn := Try.f22) [.int .u8 (o.C (M.img (o.at (a / 256))) (a % 256))] ?_ ?_)
    · exact ⟨⟨by kernel_rfl, by kernel_rfl⟩, trivial⟩
    · intro w h
      exact ⟨by show Ending.returned (.int .u8 (o.C (M.img (o.at (a / 256))) (a % 256))) = _; unfold M.code; rw [hc1, cond_false], h.ch.bel (fun _ h => h.elim)⟩
def M.fetch (o : M.Obj) (a : Nat) : Int × Bool := (bif o.out (a / 256) then (0, false) else (bif ((bits .and .i64 ((o.at (a / 256)).r) 4) == 0) then (0, false) else ((o.C (M.img (o.at (a / 256))) (a % 256)), true)))
theorem Fetch_any (o : M.Obj) (a : Nat) (ha : a < 4294967296) (w : World) (hat : M.At o w) : Calls Try.prog 19 #[.pointer (some ⟨o.m, 0, none⟩), .int .u32 ((a : Nat) : Int)] w fun e w' => e = .returned (.tuple #[.int .u8 (((M.fetch o a)).1), .bool (((M.fetch o a)).2)]) ∧ Bel w w' := by
  refine E.enter (n := 27) (S := fun _ => False) Try.func19 rfl rfl (by kernel_rfl) (hat.hp) ?_
  refine E.C.seq ?_
  refine E.C.region ?_
  refine E.G.op (.int .u8 0) (fun w => by kernel_rfl) (by kernel_rfl) ?_
  refine E.G.op (.bool false) (fun w => by kernel_rfl) (by kernel_rfl) ?_
  refine E.To.code ?_
  refine E.C.seq ?_
  refine E.C.region ?_
  refine E.G.op (.pointer (some ⟨o.m, 0, none⟩)) (fun w => by kernel_rfl) (by kernel_rfl) ?_
  refine E.G.op (.int .u32 ((a : Nat) : Int)) (fun w => by kernel_rfl) (by kernel_rfl) ?_
  refine E.fork (o.out (a / 256)) (fun hc1 => ?_) (fun hc1 => ?_)
  · skip
    refine E.G.call (.pointer none) (fun w h => at_out o a (by omega) (M.out_of hc1) w h.x) (fun w _ => by kernel_rfl) (by kernel_rfl) ?_
    refine E.G.op (.pointer none) (fun w => by kernel_rfl) (by kernel_rfl) ?_
    refine E.To.code ?_
    refine E.C.seq ?_
    refine E.C.seq ?_
    refine E.C.region ?_
    refine E.G.op (.pointer none) (fun w => by kernel_rfl) (by kernel_rfl) ?_
    refine E.G.op (.bool true) (fun w => by kernel_rfl) (by kernel_rfl) ?_
    refine E.G.op (.bool true) (fun w => by kernel_rfl) (by kernel_rfl) ?_
    refine E.G.skip (by kernel_rfl) (by kernel_rfl) ?_
    refine E.G.skip (by kernel_rfl) (by kernel_rfl) ?_
    refine E.G.skip (by kernel_rfl) (by kernel_rfl) ?_
    refine E.G.skip (by kernel_rfl) (by kernel_rfl) ?_
    refine E.G.skip (by kernel_rfl) (by kernel_rfl) ?_
    refine E.G.skip (by kernel_rfl) (by kernel_rfl) ?_
    refine E.G.op (.bool true) (fun w => by kernel_rfl) (by kernel_rfl) ?_
    refine E.To.code ?_
    refine E.C.weak [(1, .int .u32 ((a : Nat) : Int)), (4, .int .u8 0), (5, .bool false), (6, .pointer none), (19, .bool true)] [] ⟨by kernel_rfl, by kernel_rfl⟩ (List.Sublist.refl _) ?_
    refine E.C.condT (by kernel_rfl) (by kernel_rfl) ?_
    refine E.C.seq ?_
    refine E.C.region ?_
    refine E.G.op (.int .u8 0) (fun w => by kernel_rfl) (by kernel_rfl) ?_
    refine E.G.op (.bool false) (fun w => by kernel_rfl) (by kernel_rfl) ?_
    refine E.To.code ?_
    refine E.C.ret (E.P.rt (E.To.body (fn := Try.f19) [.int .u8 0, .bool false] ?_ ?_))
    · exact ⟨⟨by kernel_rfl, by kernel_rfl⟩, ⟨by kernel_rfl, by kernel_rfl⟩, trivial⟩
    · intro w h
      exact ⟨by show Ending.returned (.tuple #[.int .u8 0, .bool false]) = _; unfold M.fetch; rw [hc1, cond_true], h.ch.bel (fun _ h => h.elim)⟩
  · skip
    have hi2 : (a / 256) < o.sl.length := M.in_of hc1
    refine E.G.call (.pointer (some ⟨o.b, (a / 256) * 7, none⟩)) (fun w h => at_in o a (by omega) hi2 w h.x) (fun w _ => by kernel_rfl) (by kernel_rfl) ?_
    refine E.G.op (.pointer (some ⟨o.b, (a / 256) * 7, none⟩)) (fun w => by kernel_rfl) (by kernel_rfl) ?_
    refine E.To.code ?_
    refine E.C.seq ?_
    refine E.C.seq ?_
    refine E.C.region ?_
    refine E.G.op (.pointer (some ⟨o.b, (a / 256) * 7, none⟩)) (fun w => by kernel_rfl) (by kernel_rfl) ?_
    refine E.G.op (.bool false) (fun w => by kernel_rfl) (by kernel_rfl) ?_
    refine E.G.op (.bool false) (fun w => by kernel_rfl) (by kernel_rfl) ?_
    refine E.G.op (.pointer (some ⟨o.b, (a / 256) * 7, none⟩)) (fun w => by kernel_rfl) (by kernel_rfl) ?_
    refine E.G.op (.pointer (some ⟨o.b, (a / 256) * 7, none⟩)) (fun w => by kernel_rfl) (by kernel_rfl) ?_
    refine E.G.op (.pointer (some ⟨o.b, ((a / 256) * 7) + 6, none⟩)) (fun w => by kernel_rfl) (by kernel_rfl) ?_
    refine E.G.val (.int .i64 ((o.at (a / 256)).r)) (by kernel_rfl) (fun w h => M.load1 (by kernel_rfl) (M.one Try.underlying3 rfl) (h.x.fld (i := (a / 256)) (k := 6) (by (first | assumption | ((try simp only [Bool.or_eq_false_iff, Bool.or_eq_true, Bool.and_eq_true, Bool.and_eq_false_iff, decide_eq_true_eq, decide_eq_false_iff_not, ge_iff_le, gt_iff_lt] at *); omega))) rfl (by decide) _ rfl)) ?_
    refine E.G.op (.int .i64 (bits .and .i64 ((o.at (a / 256)).r) 4)) (fun w => by kernel_rfl) (by kernel_rfl) ?_
    refine E.G.op (.bool ((bits .and .i64 ((o.at (a / 256)).r) 4) == 0)) (fun w => by kernel_rfl) (by kernel_rfl) ?_
    refine E.G.op (.bool ((bits .and .i64 ((o.at (a / 256)).r) 4) == 0)) (fun w => by kernel_rfl) (by kernel_rfl) ?_
    refine E.To.code ?_
    refine E.C.weak [(1, .int .u32 ((a : Nat) : Int)), (4, .int .u8 0), (5, .bool false), (6, .pointer (some ⟨o.b, (a / 256) * 7, none⟩)), (19, .bool ((bits .and .i64 ((o.at (a / 256)).r) 4) == 0))] [] ⟨by kernel_rfl, by kernel_rfl⟩ (List.Sublist.refl _) ?_
    refine E.C.cond ((bits .and .i64 ((o.at (a / 256)).r) 4) == 0) (by kernel_rfl) (by kernel_rfl) (fun hc3 => ?_) (fun hc3 => ?_)
    · skip
      refine E.C.seq ?_
      refine E.C.region ?_
      refine E.G.op (.int .u8 0) (fun w => by kernel_rfl) (by kernel_rfl) ?_
      refine E.G.op (.bool false) (fun w => by kernel_rfl) (by kernel_rfl) ?_
      refine E.To.code ?_
      refine E.C.ret (E.P.rt (E.To.body (fn := Try.f19) [.int .u8 0, .bool false] ?_ ?_))
      · exact ⟨⟨by kernel_rfl, by kernel_rfl⟩, ⟨by kernel_rfl, by kernel_rfl⟩, trivial⟩
      · intro w h
        exact ⟨by show Ending.returned (.tuple #[.int .u8 0, .bool false]) = _; unfold M.fetch; rw [hc1, cond_false, hc3, cond_true], h.ch.bel (fun _ h => h.elim)⟩
    · skip
      refine E.C.skip (E.To.code ?_)
      refine E.C.seq ?_
      refine E.C.region ?_
      refine E.G.op (.pointer (some ⟨o.b, (a / 256) * 7, none⟩)) (fun w => by kernel_rfl) (by kernel_rfl) ?_
      refine E.G.call (.pointer (some ⟨(M.img (o.at (a / 256))), 0, none⟩)) (fun w h => image_any o (a / 256) (by (first | assumption | ((try simp only [Bool.or_eq_false_iff, Bool.or_eq_true, Bool.and_eq_true, Bool.and_eq_false_iff, decide_eq_true_eq, decide_eq_false_iff_not, ge_iff_le, gt_iff_lt] at *); omega))) w h.x) (fun w _ => by kernel_rfl) (by kernel_rfl) ?_
      refine E.G.op (.int .u32 ((a : Nat) : Int)) (fun w => by kernel_rfl) (by kernel_rfl) ?_
      refine E.G.val (.int .u32 ((a % 256 : Nat) : Int)) (by kernel_rfl) (fun w h => E.run_as (a := .int .u32 (Int.tmod ((a : Nat) : Int) 256)) (by kernel_rfl) (congrArg (Value.int .u32) (M.mod a))) ?_
      refine E.G.op (.pointer (some ⟨(M.img (o.at (a / 256))), 0, none⟩)) (fun w => by kernel_rfl) (by kernel_rfl) ?_
      refine E.G.val (.pointer (some ⟨(M.img (o.at (a / 256))), 0 + (((a % 256 : Nat) : Int)).toNat * 1, none⟩)) (by kernel_rfl) (fun w h => E.idxA (e := 5) (M.img (o.at (a / 256))) 0 256 1 .u32 (((a % 256 : Nat) : Int)) (by kernel_rfl) (by kernel_rfl) (by kernel_rfl) (by kernel_rfl) (by omega) (by omega) w) ?_
      refine E.G.val (.int .u8 (o.C (M.img (o.at (a / 256))) (a % 256))) (by kernel_rfl) (fun w h => M.load1 (by kernel_rfl) (M.one Try.underlying5 rfl) (h.x.byte (M.pg_img (i := (a / 256)) (by (first | assumption | ((try simp only [Bool.or_eq_false_iff, Bool.or_eq_true, Bool.and_eq_true, Bool.and_eq_false_iff, decide_eq_true_eq, decide_eq_false_iff_not, ge_iff_le, gt_iff_lt] at *); omega)))) (a % 256) (by omega) (0 + (((a % 256 : Nat) : Int)).toNat * 1) (by omega))) ?_
      refine E.G.op (.int .u8 (o.C (M.img (o.at (a / 256))) (a % 256))) (fun w => by kernel_rfl) (by kernel_rfl) ?_
      refine E.G.op (.bool true) (fun w => by kernel_rfl) (by kernel_rfl) ?_
      refine E.To.code ?_
      refine E.C.weak [(4, .int .u8 (o.C (M.img (o.at (a / 256))) (a % 256))), (5, .bool true)] [] ⟨by kernel_rfl, by kernel_rfl⟩ (List.Sublist.refl _) ?_
      refine E.C.ret (E.To.body (fn := Try.f19) [.int .u8 (o.C (M.img (o.at (a / 256))) (a % 256)), .bool true] ?_ ?_)
      · exact ⟨⟨by kernel_rfl, by kernel_rfl⟩, ⟨by kernel_rfl, by kernel_rfl⟩, trivial⟩
      · intro w h
        exact ⟨by show Ending.returned (.tuple #[.int .u8 (o.C (M.img (o.at (a / 256))) (a % 256)), .bool true]) = _; unfold M.fetch; rw [hc1, cond_false, hc3, cond_false], h.ch.bel (fun _ h => h.elim)⟩
end Go.Proofs.Ytdjjjikokfadiaa
