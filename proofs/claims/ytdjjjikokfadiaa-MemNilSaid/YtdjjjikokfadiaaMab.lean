/- Walks: Equal of mem, printed by wip/eng. No condition but what is named. -/
import Derived.Test.YtdjjjikokfadiaaProg
import Derived.Test.YtdjjjikokfadiaaMq
import Derived.Test.YtdjjjikokfadiaaMr
namespace Go.Proofs.Ytdjjjikokfadiaa
set_option linter.unusedVariables false
set_option linter.unusedSimpArgs false
open Go.RowKit
theorem M.St.two {a b : M.Obj} {w : World} (ha : M.St a w) (hb : M.St b w) : E.Hp (fun _ => False) w (fun w => M.St a w ∧ M.St b w) [] w :=
  ⟨Ch.refl _ _, by simp, by simp, by simp, by simp, by simp, fun w' _ hw => ⟨ha.keep fun x hx => hw x hx (by simp), hb.keep fun x hx => hw x hx (by simp)⟩⟩
theorem same_two (a b : M.Obj) (p q : Nat) (hp : M.Pg a.sl p) (hq : M.Pg b.sl q) (w : World) (ha : M.St a w) (hb : M.St b w) : Calls Try.prog 42 #[.pointer (some ⟨p, 0, none⟩), .pointer (some ⟨q, 0, none⟩)] w fun e w' => e = .returned (.bool ((p == q) || (M.eqv (a.C p) (b.C q) (List.range 256)))) ∧ Bel w w' := by
  refine E.enter (n := 25) (S := fun _ => False) Try.func42 rfl rfl (by kernel_rfl) (ha.two hb) ?_
  refine E.C.seq ?_
  refine E.C.region ?_
  refine E.G.op (.bool false) (fun w => by kernel_rfl) (by kernel_rfl) ?_
  refine E.To.code ?_
  refine E.C.seq ?_
  refine E.C.quiet (by kernel_rfl) (by kernel_rfl) ?_
  refine E.W.op (.pointer (some ⟨p, 0, none⟩)) (fun w => by kernel_rfl) (by kernel_rfl) ?_
  refine E.W.op (.pointer (some ⟨q, 0, none⟩)) (fun w => by kernel_rfl) (by kernel_rfl) ?_
  refine E.W.val (.bool (p == q)) (by kernel_rfl) (fun w h => M.ptr_eq (by kernel_rfl) (by kernel_rfl) (h.x.1.at_.pg p hp 0 (by decide)) (h.x.2.at_.pg q hq 0 (by decide)) (h.x.1.fz p (.inr (.inr hp))) (h.x.2.fz q (.inr (.inr hq)))) ?_
  refine E.W.op (.bool (p == q)) (fun w => by kernel_rfl) (by kernel_rfl) ?_
  refine E.W.cut 16 [(4, .bool false), (24, .bool ((p == q) || (M.eqv (a.C p) (b.C q) (List.range 256))))] ?_ ?_
  · generalize hc1 : (p == q) = b2
    cases b2
    · skip
      refine E.W.op (.pointer (some ⟨p, 0, none⟩)) (fun w => by kernel_rfl) (by kernel_rfl) ?_
      refine E.W.op (.bool true) (fun w => by kernel_rfl) (by kernel_rfl) ?_
      refine E.W.op (.bool true) (fun w => by kernel_rfl) (by kernel_rfl) ?_
      refine E.W.op (.pointer (some ⟨q, 0, none⟩)) (fun w => by kernel_rfl) (by kernel_rfl) ?_
      refine E.W.op (.bool true) (fun w => by kernel_rfl) (by kernel_rfl) ?_
      refine E.W.op (.bool true) (fun w => by kernel_rfl) (by kernel_rfl) ?_
      refine E.W.op (.bool true) (fun w => by kernel_rfl) (by kernel_rfl) ?_
      refine E.W.op (.pointer (some ⟨p, 0, none⟩)) (fun w => by kernel_rfl) (by kernel_rfl) ?_
      refine E.W.op (.pointer (some ⟨p, 0, none⟩)) (fun w => by kernel_rfl) (by kernel_rfl) ?_
      refine E.W.val (.agg (M.pgv (a.C p)).toArray) (by kernel_rfl) (fun w h => M.loadPage h.x.1.at_ hp (by kernel_rfl)) ?_
      refine E.W.op (.pointer (some ⟨q, 0, none⟩)) (fun w => by kernel_rfl) (by kernel_rfl) ?_
      refine E.W.op (.pointer (some ⟨q, 0, none⟩)) (fun w => by kernel_rfl) (by kernel_rfl) ?_
      refine E.W.val (.agg (M.pgv (b.C q)).toArray) (by kernel_rfl) (fun w h => M.loadPage h.x.2.at_ hq (by kernel_rfl)) ?_
      refine E.W.val (.bool (M.eqv (a.C p) (b.C q) (List.range 256))) (by kernel_rfl) (fun w h => M.pg_eql (by kernel_rfl) (by kernel_rfl)) ?_
      refine E.W.op (.bool (M.eqv (a.C p) (b.C q) (List.range 256))) (fun w => by kernel_rfl) (by kernel_rfl) ?_
      refine E.W.op (.bool (M.eqv (a.C p) (b.C q) (List.range 256))) (fun w => by kernel_rfl) (by kernel_rfl) ?_
      exact E.W.end_cut ⟨by kernel_rfl, by kernel_rfl⟩
    · skip
      refine E.W.skip (by kernel_rfl) (by kernel_rfl) ?_
      refine E.W.skip (by kernel_rfl) (by kernel_rfl) ?_
      refine E.W.skip (by kernel_rfl) (by kernel_rfl) ?_
      refine E.W.skip (by kernel_rfl) (by kernel_rfl) ?_
      refine E.W.skip (by kernel_rfl) (by kernel_rfl) ?_
      refine E.W.skip (by kernel_rfl) (by kernel_rfl) ?_
      refine E.W.skip (by kernel_rfl) (by kernel_rfl) ?_
      refine E.W.skip (by kernel_rfl) (by kernel_rfl) ?_
      refine E.W.skip (by kernel_rfl) (by kernel_rfl) ?_
      refine E.W.skip (by kernel_rfl) (by kernel_rfl) ?_
      refine E.W.skip (by kernel_rfl) (by kernel_rfl) ?_
      refine E.W.skip (by kernel_rfl) (by kernel_rfl) ?_
      refine E.W.skip (by kernel_rfl) (by kernel_rfl) ?_
      refine E.W.skip (by kernel_rfl) (by kernel_rfl) ?_
      refine E.W.skip (by kernel_rfl) (by kernel_rfl) ?_
      refine E.W.op (.bool true) (fun w => by kernel_rfl) (by kernel_rfl) ?_
      exact E.W.end_cut ⟨by kernel_rfl, by kernel_rfl⟩
  refine E.W.op (.bool ((p == q) || (M.eqv (a.C p) (b.C q) (List.range 256)))) (fun w => by kernel_rfl) (by kernel_rfl) ?_
  refine E.W.done (E.To.code ?_)
  refine E.C.ret (E.To.body (fn := Try.f42) [.bool ((p == q) || (M.eqv (a.C p) (b.C q) (List.range 256)))] ?_ ?_)
  · exact ⟨⟨by kernel_rfl, by kernel_rfl⟩, trivial⟩
  · intro w h
    exact ⟨rfl, h.ch.bel (fun _ h => h.elim)⟩
def M.sm (a b : M.Obj) (p q : Nat) : Bool := (p == q) || (M.eqv (a.C p) (b.C q) (List.range 256))
/-- Whether two pages differ. -/
def M.nep (a b : M.Obj) (k : Nat) : Bool := (((a.at k).r != (b.at k).r) || (!(M.sm a b (a.at k).d (b.at k).d))) || (!(M.sm a b (M.img (a.at k)) (M.img (b.at k))))
def M.eqs (a b : M.Obj) : Nat → Bool
  | 0 => true
  | k + 1 => M.eqs a b k && !(M.nep a b k)
def M.eql (a b : M.Obj) : Bool := (a.sl.length == b.sl.length) && M.eqs a b a.sl.length
theorem M.eqs_no {a b : M.Obj} {k : Nat} (h : M.nep a b k = true) : ∀ n, k < n → M.eqs a b n = false
  | 0, hk => by omega
  | n + 1, hk => by
    show (M.eqs a b n && !(M.nep a b n)) = false
    by_cases e : k = n
    · subst e; rw [h]; simp
    · rw [M.eqs_no h n (by omega)]; rfl
theorem M.eql_len {a b : M.Obj} (h : (((a.sl.length : Nat) : Int) != ((b.sl.length : Nat) : Int)) = true) : M.eql a b = false := by
  unfold M.eql
  have : (a.sl.length == b.sl.length) = false := by
    simp at h ⊢; intro e; exact h (by rw [e])
  rw [this]; rfl
theorem M.eql_go {a b : M.Obj} (h : (((a.sl.length : Nat) : Int) != ((b.sl.length : Nat) : Int)) = false) : a.sl.length = b.sl.length := by
  have h' : ((a.sl.length : Nat) : Int) = ((b.sl.length : Nat) : Int) := by simpa using h
  omega
theorem Equal_any (a b : M.Obj) (w : World) (ha : M.St a w) (hb : M.St b w) : Calls Try.prog 30 #[.pointer (some ⟨a.m, 0, none⟩), .pointer (some ⟨b.m, 0, none⟩)] w fun e w' => e = .returned (.bool (M.eql a b)) ∧ Bel w w' := by
  refine E.enter (n := 60) (S := fun _ => False) Try.func30 rfl rfl (by kernel_rfl) (ha.two hb) ?_
  refine E.C.seq ?_
  refine E.C.region ?_
  refine E.G.op (.bool false) (fun w => by kernel_rfl) (by kernel_rfl) ?_
  refine E.To.code ?_
  refine E.C.seq ?_
  refine E.C.seq ?_
  refine E.C.region ?_
  refine E.G.op (.pointer (some ⟨a.m, 0, none⟩)) (fun w => by kernel_rfl) (by kernel_rfl) ?_
  refine E.G.call (.int .i64 ((a.sl.length : Nat) : Int)) (fun w h => Pages_any a w h.x.1.at_) (fun w _ => by kernel_rfl) (by kernel_rfl) ?_
  refine E.G.op (.pointer (some ⟨b.m, 0, none⟩)) (fun w => by kernel_rfl) (by kernel_rfl) ?_
  refine E.G.call (.int .i64 ((b.sl.length : Nat) : Int)) (fun w h => Pages_any b w h.x.2.at_) (fun w _ => by kernel_rfl) (by kernel_rfl) ?_
  refine E.G.op (.bool (((a.sl.length : Nat) : Int) != ((b.sl.length : Nat) : Int))) (fun w => by kernel_rfl) (by kernel_rfl) ?_
  refine E.To.code ?_
  refine E.C.cond (((a.sl.length : Nat) : Int) != ((b.sl.length : Nat) : Int)) (by kernel_rfl) (by kernel_rfl) (fun hc1 => ?_) (fun hc1 => ?_)
  · skip
    refine E.C.seq ?_
    refine E.C.region ?_
    refine E.G.op (.bool false) (fun w => by kernel_rfl) (by kernel_rfl) ?_
    refine E.To.code ?_
    refine E.C.ret (E.P.rt (E.To.body (fn := Try.f30) [.bool false] ?_ ?_))
    · exact ⟨⟨by kernel_rfl, by kernel_rfl⟩, trivial⟩
    · intro w h
      exact ⟨by rw [M.eql_len hc1]; rfl, h.ch.bel (fun _ h => h.elim)⟩
  · skip
    refine E.C.skip (E.To.code ?_)
    refine E.C.seq ?_
    refine E.C.seq ?_
    refine E.C.region ?_
    refine E.G.op (.pointer (some ⟨a.m, 0, none⟩)) (fun w => by kernel_rfl) (by kernel_rfl) ?_
    refine E.G.call (.int .i64 ((a.sl.length : Nat) : Int)) (fun w h => Pages_any a w h.x.1.at_) (fun w _ => by kernel_rfl) (by kernel_rfl) ?_
    refine E.G.op (.int .i64 0) (fun w => by kernel_rfl) (by kernel_rfl) ?_
    refine E.To.code ?_
    refine E.C.block ?_
    refine E.C.loop (I := Nat) (fun k => a.sl.length - k) (fun k => k ≤ a.sl.length ∧ M.eqs a b k = true) (fun k => [(0, .pointer (some ⟨a.m, 0, none⟩)), (1, .pointer (some ⟨b.m, 0, none⟩)), (4, .bool false), (14, .int .i64 ((a.sl.length : Nat) : Int)), (15, .int .i64 ((k : Nat) : Int))]) (fun k => fun w => M.St a w ∧ M.St b w) (fun k => []) 0 (⟨Nat.zero_le _, rfl⟩) ⟨by kernel_rfl, by kernel_rfl⟩ (List.Sublist.refl _) (fun _ h => h) (fun k hk1 => ?_)
    refine E.C.seq ?_
    refine E.C.region ?_
    refine E.G.op (.bool (decide (((k : Nat) : Int) < ((a.sl.length : Nat) : Int)))) (fun w => by kernel_rfl) (by kernel_rfl) ?_
    refine E.To.code ?_
    refine E.C.seq ?_
    refine E.C.cond (decide (((k : Nat) : Int) < ((a.sl.length : Nat) : Int))) (by kernel_rfl) (by kernel_rfl) (fun hc2 => ?_) (fun hc2 => ?_)
    · skip
      refine E.C.skip (E.To.code ?_)
      refine E.C.seq ?_
      refine E.C.block ?_
      refine E.C.seq ?_
      have hl : k < a.sl.length := by (first | assumption | ((try simp only [Bool.or_eq_false_iff, Bool.or_eq_true, Bool.and_eq_true, Bool.and_eq_false_iff, decide_eq_true_eq, decide_eq_false_iff_not, ge_iff_le, gt_iff_lt] at *); omega))
      have hl2 : k < b.sl.length := by rw [← M.eql_go hc1]; exact hl
      refine E.C.region ?_
      refine E.G.op (.int .i64 ((k : Nat) : Int)) (fun w => by kernel_rfl) (by kernel_rfl) ?_
      refine E.G.op (.int .i64 ((k : Nat) : Int)) (fun w => by kernel_rfl) (by kernel_rfl) ?_
      refine E.To.code ?_
      refine E.C.seq ?_
      refine E.C.quiet (by kernel_rfl) (by kernel_rfl) ?_
      refine E.W.op (.pointer (some ⟨a.m, 0, none⟩)) (fun w => by kernel_rfl) (by kernel_rfl) ?_
      refine E.W.op (.pointer (some ⟨a.m, 0, none⟩)) (fun w => by kernel_rfl) (by kernel_rfl) ?_
      refine E.W.op (.pointer (some ⟨a.m, 0, none⟩)) (fun w => by kernel_rfl) (by kernel_rfl) ?_
      refine E.W.val (.slice a.ao a.sl.length a.cap) (by kernel_rfl) (fun w h => M.load1 (by kernel_rfl) (M.one Try.underlying64 rfl) h.x.1.at_.c0) ?_
      refine E.W.op (.int .i64 ((k : Nat) : Int)) (fun w => by kernel_rfl) (by kernel_rfl) ?_
      refine E.W.val (.pointer (some ⟨a.b, k * 7, none⟩)) (by kernel_rfl) (fun w h => M.idxO (e := 74) (i := k) (k := .i64) (ao := a.ao) (b := a.b) (len := a.sl.length) (cap := a.cap) (esz := 7) (by kernel_rfl) (by kernel_rfl) (by kernel_rfl) (by kernel_rfl) (by omega) h.x.1.at_.ha w) ?_
      refine E.W.op (.pointer (some ⟨b.m, 0, none⟩)) (fun w => by kernel_rfl) (by kernel_rfl) ?_
      refine E.W.op (.pointer (some ⟨b.m, 0, none⟩)) (fun w => by kernel_rfl) (by kernel_rfl) ?_
      refine E.W.op (.pointer (some ⟨b.m, 0, none⟩)) (fun w => by kernel_rfl) (by kernel_rfl) ?_
      refine E.W.val (.slice b.ao b.sl.length b.cap) (by kernel_rfl) (fun w h => M.load1 (by kernel_rfl) (M.one Try.underlying64 rfl) h.x.2.at_.c0) ?_
      refine E.W.op (.int .i64 ((k : Nat) : Int)) (fun w => by kernel_rfl) (by kernel_rfl) ?_
      refine E.W.val (.pointer (some ⟨b.b, k * 7, none⟩)) (by kernel_rfl) (fun w h => M.idxO (e := 74) (i := k) (k := .i64) (ao := b.ao) (b := b.b) (len := b.sl.length) (cap := b.cap) (esz := 7) (by kernel_rfl) (by kernel_rfl) (by kernel_rfl) (by kernel_rfl) (by omega) h.x.2.at_.ha w) ?_
      refine E.W.op (.pointer (some ⟨a.b, k * 7, none⟩)) (fun w => by kernel_rfl) (by kernel_rfl) ?_
      refine E.W.op (.pointer (some ⟨b.b, k * 7, none⟩)) (fun w => by kernel_rfl) (by kernel_rfl) ?_
      refine E.W.done (E.To.code ?_)
      refine E.C.seq ?_
      refine E.C.quiet (by kernel_rfl) (by kernel_rfl) ?_
      refine E.W.op (.pointer (some ⟨a.b, k * 7, none⟩)) (fun w => by kernel_rfl) (by kernel_rfl) ?_
      refine E.W.op (.pointer (some ⟨a.b, k * 7, none⟩)) (fun w => by kernel_rfl) (by kernel_rfl) ?_
      refine E.W.op (.pointer (some ⟨a.b, (k * 7) + 6, none⟩)) (fun w => by kernel_rfl) (by kernel_rfl) ?_
      refine E.W.val (.int .i64 ((a.at k).r)) (by kernel_rfl) (fun w h => M.load1 (by kernel_rfl) (M.one Try.underlying3 rfl) (h.x.1.at_.fld (i := k) (k := 6) (by (first | assumption | ((try simp only [Bool.or_eq_false_iff, Bool.or_eq_true, Bool.and_eq_true, Bool.and_eq_false_iff, decide_eq_true_eq, decide_eq_false_iff_not, ge_iff_le, gt_iff_lt] at *); omega))) rfl (by decide) _ rfl)) ?_
      refine E.W.op (.pointer (some ⟨b.b, k * 7, none⟩)) (fun w => by kernel_rfl) (by kernel_rfl) ?_
      refine E.W.op (.pointer (some ⟨b.b, k * 7, none⟩)) (fun w => by kernel_rfl) (by kernel_rfl) ?_
      refine E.W.op (.pointer (some ⟨b.b, (k * 7) + 6, none⟩)) (fun w => by kernel_rfl) (by kernel_rfl) ?_
      refine E.W.val (.int .i64 ((b.at k).r)) (by kernel_rfl) (fun w h => M.load1 (by kernel_rfl) (M.one Try.underlying3 rfl) (h.x.2.at_.fld (i := k) (k := 6) (by (first | assumption | ((try simp only [Bool.or_eq_false_iff, Bool.or_eq_true, Bool.and_eq_true, Bool.and_eq_false_iff, decide_eq_true_eq, decide_eq_false_iff_not, ge_iff_le, gt_iff_lt] at *); omega))) rfl (by decide) _ rfl)) ?_
      refine E.W.op (.bool (((a.at k).r) != ((b.at k).r))) (fun w => by kernel_rfl) (by kernel_rfl) ?_
      refine E.W.op (.bool (((a.at k).r) != ((b.at k).r))) (fun w => by kernel_rfl) (by kernel_rfl) ?_
      refine E.W.cut 11 [(0, .pointer (some ⟨a.m, 0, none⟩)), (1, .pointer (some ⟨b.m, 0, none⟩)), (4, .bool false), (5, .int .i64 ((k : Nat) : Int)), (6, .pointer (some ⟨a.b, k * 7, none⟩)), (7, .pointer (some ⟨b.b, k * 7, none⟩)), (14, .int .i64 ((a.sl.length : Nat) : Int)), (15, .int .i64 ((k : Nat) : Int)), (16, .bool (decide (((k : Nat) : Int) < ((a.sl.length : Nat) : Int)))), (17, .int .i64 ((k : Nat) : Int)), (18, .pointer (some ⟨a.m, 0, none⟩)), (19, .pointer (some ⟨a.m, 0, none⟩)), (20, .pointer (some ⟨a.m, 0, none⟩)), (21, .slice a.ao a.sl.length a.cap), (22, .int .i64 ((k : Nat) : Int)), (23, .pointer (some ⟨a.b, k * 7, none⟩)), (24, .pointer (some ⟨b.m, 0, none⟩)), (25, .pointer (some ⟨b.m, 0, none⟩)), (26, .pointer (some ⟨b.m, 0, none⟩)), (27, .slice b.ao b.sl.length b.cap), (28, .int .i64 ((k : Nat) : Int)), (29, .pointer (some ⟨b.b, k * 7, none⟩)), (30, .pointer (some ⟨a.b, k * 7, none⟩)), (31, .pointer (some ⟨a.b, k * 7, none⟩)), (32, .pointer (some ⟨a.b, (k * 7) + 6, none⟩)), (33, .int .i64 ((a.at k).r)), (34, .pointer (some ⟨b.b, k * 7, none⟩)), (35, .pointer (some ⟨b.b, k * 7, none⟩)), (36, .pointer (some ⟨b.b, (k * 7) + 6, none⟩)), (37, .int .i64 ((b.at k).r)), (38, .bool (((a.at k).r) != ((b.at k).r))), (39, .bool (((a.at k).r) != ((b.at k).r))), (50, .bool ((((a.at k).r) != ((b.at k).r)) || (!(M.sm a b (a.at k).d (b.at k).d))))] ?_ ?_
      · generalize hc3 : (((a.at k).r) != ((b.at k).r)) = b4
        cases b4
        · skip
          refine E.W.op (.pointer (some ⟨a.b, k * 7, none⟩)) (fun w => by kernel_rfl) (by kernel_rfl) ?_
          refine E.W.op (.pointer (some ⟨a.b, k * 7, none⟩)) (fun w => by kernel_rfl) (by kernel_rfl) ?_
          refine E.W.op (.pointer (some ⟨a.b, k * 7, none⟩)) (fun w => by kernel_rfl) (by kernel_rfl) ?_
          refine E.W.val (.pointer (some ⟨(a.at k).d, 0, none⟩)) (by kernel_rfl) (fun w h => M.load1 (by kernel_rfl) (M.one Try.underlying70 rfl) (h.x.1.at_.fld (i := k) (k := 0) (by (first | assumption | ((try simp only [Bool.or_eq_false_iff, Bool.or_eq_true, Bool.and_eq_true, Bool.and_eq_false_iff, decide_eq_true_eq, decide_eq_false_iff_not, ge_iff_le, gt_iff_lt] at *); omega))) rfl (by decide) _ rfl)) ?_
          refine E.W.op (.pointer (some ⟨b.b, k * 7, none⟩)) (fun w => by kernel_rfl) (by kernel_rfl) ?_
          refine E.W.op (.pointer (some ⟨b.b, k * 7, none⟩)) (fun w => by kernel_rfl) (by kernel_rfl) ?_
          refine E.W.op (.pointer (some ⟨b.b, k * 7, none⟩)) (fun w => by kernel_rfl) (by kernel_rfl) ?_
          refine E.W.val (.pointer (some ⟨(b.at k).d, 0, none⟩)) (by kernel_rfl) (fun w h => M.load1 (by kernel_rfl) (M.one Try.underlying70 rfl) (h.x.2.at_.fld (i := k) (k := 0) (by (first | assumption | ((try simp only [Bool.or_eq_false_iff, Bool.or_eq_true, Bool.and_eq_true, Bool.and_eq_false_iff, decide_eq_true_eq, decide_eq_false_iff_not, ge_iff_le, gt_iff_lt] at *); omega))) rfl (by decide) _ rfl)) ?_
          refine E.W.call (.bool (M.sm a b (a.at k).d (b.at k).d)) (fun w h => same_two a b (a.at k).d (b.at k).d (M.pg_d (by omega)) (M.pg_d (by omega)) w h.x.1 h.x.2) (fun w _ => by kernel_rfl) (by kernel_rfl) ?_
          refine E.W.op (.bool (!(M.sm a b (a.at k).d (b.at k).d))) (fun w => by kernel_rfl) (by kernel_rfl) ?_
          refine E.W.op (.bool (!(M.sm a b (a.at k).d (b.at k).d))) (fun w => by kernel_rfl) (by kernel_rfl) ?_
          exact E.W.end_cut ⟨by kernel_rfl, by kernel_rfl⟩
        · skip
          refine E.W.skip (by kernel_rfl) (by kernel_rfl) ?_
          refine E.W.skip (by kernel_rfl) (by kernel_rfl) ?_
          refine E.W.skip (by kernel_rfl) (by kernel_rfl) ?_
          refine E.W.skip (by kernel_rfl) (by kernel_rfl) ?_
          refine E.W.skip (by kernel_rfl) (by kernel_rfl) ?_
          refine E.W.skip (by kernel_rfl) (by kernel_rfl) ?_
          refine E.W.skip (by kernel_rfl) (by kernel_rfl) ?_
          refine E.W.skip (by kernel_rfl) (by kernel_rfl) ?_
          refine E.W.skip (by kernel_rfl) (by kernel_rfl) ?_
          refine E.W.skip (by kernel_rfl) (by kernel_rfl) ?_
          refine E.W.op (.bool true) (fun w => by kernel_rfl) (by kernel_rfl) ?_
          exact E.W.end_cut ⟨by kernel_rfl, by kernel_rfl⟩
      refine E.W.op (.bool ((((a.at k).r) != ((b.at k).r)) || (!(M.sm a b (a.at k).d (b.at k).d)))) (fun w => by kernel_rfl) (by kernel_rfl) ?_
      refine E.W.cut 7 [(0, .pointer (some ⟨a.m, 0, none⟩)), (1, .pointer (some ⟨b.m, 0, none⟩)), (4, .bool false), (5, .int .i64 ((k : Nat) : Int)), (6, .pointer (some ⟨a.b, k * 7, none⟩)), (7, .pointer (some ⟨b.b, k * 7, none⟩)), (14, .int .i64 ((a.sl.length : Nat) : Int)), (15, .int .i64 ((k : Nat) : Int)), (16, .bool (decide (((k : Nat) : Int) < ((a.sl.length : Nat) : Int)))), (17, .int .i64 ((k : Nat) : Int)), (18, .pointer (some ⟨a.m, 0, none⟩)), (19, .pointer (some ⟨a.m, 0, none⟩)), (20, .pointer (some ⟨a.m, 0, none⟩)), (21, .slice a.ao a.sl.length a.cap), (22, .int .i64 ((k : Nat) : Int)), (23, .pointer (some ⟨a.b, k * 7, none⟩)), (24, .pointer (some ⟨b.m, 0, none⟩)), (25, .pointer (some ⟨b.m, 0, none⟩)), (26, .pointer (some ⟨b.m, 0, none⟩)), (27, .slice b.ao b.sl.length b.cap), (28, .int .i64 ((k : Nat) : Int)), (29, .pointer (some ⟨b.b, k * 7, none⟩)), (30, .pointer (some ⟨a.b, k * 7, none⟩)), (31, .pointer (some ⟨a.b, k * 7, none⟩)), (32, .pointer (some ⟨a.b, (k * 7) + 6, none⟩)), (33, .int .i64 ((a.at k).r)), (34, .pointer (some ⟨b.b, k * 7, none⟩)), (35, .pointer (some ⟨b.b, k * 7, none⟩)), (36, .pointer (some ⟨b.b, (k * 7) + 6, none⟩)), (37, .int .i64 ((b.at k).r)), (38, .bool (((a.at k).r) != ((b.at k).r))), (39, .bool (((a.at k).r) != ((b.at k).r))), (50, .bool ((((a.at k).r) != ((b.at k).r)) || (!(M.sm a b (a.at k).d (b.at k).d)))), (51, .bool ((((a.at k).r) != ((b.at k).r)) || (!(M.sm a b (a.at k).d (b.at k).d)))), (58, .bool (((((a.at k).r) != ((b.at k).r)) || (!(M.sm a b (a.at k).d (b.at k).d))) || (!(M.sm a b (M.img (a.at k)) (M.img (b.at k))))))] ?_ ?_
      · generalize hc5 : ((((a.at k).r) != ((b.at k).r)) || (!(M.sm a b (a.at k).d (b.at k).d))) = b6
        cases b6
        · skip
          refine E.W.op (.pointer (some ⟨a.b, k * 7, none⟩)) (fun w => by kernel_rfl) (by kernel_rfl) ?_
          refine E.W.call (.pointer (some ⟨(M.img (a.at k)), 0, none⟩)) (fun w h => image_any a k (by omega) w h.x.1.at_) (fun w _ => by kernel_rfl) (by kernel_rfl) ?_
          refine E.W.op (.pointer (some ⟨b.b, k * 7, none⟩)) (fun w => by kernel_rfl) (by kernel_rfl) ?_
          refine E.W.call (.pointer (some ⟨(M.img (b.at k)), 0, none⟩)) (fun w h => image_any b k (by omega) w h.x.2.at_) (fun w _ => by kernel_rfl) (by kernel_rfl) ?_
          refine E.W.call (.bool (M.sm a b (M.img (a.at k)) (M.img (b.at k)))) (fun w h => same_two a b (M.img (a.at k)) (M.img (b.at k)) (M.pg_img (by omega)) (M.pg_img (by omega)) w h.x.1 h.x.2) (fun w _ => by kernel_rfl) (by kernel_rfl) ?_
          refine E.W.op (.bool (!(M.sm a b (M.img (a.at k)) (M.img (b.at k))))) (fun w => by kernel_rfl) (by kernel_rfl) ?_
          refine E.W.op (.bool (!(M.sm a b (M.img (a.at k)) (M.img (b.at k))))) (fun w => by kernel_rfl) (by kernel_rfl) ?_
          exact E.W.end_cut ⟨by kernel_rfl, by kernel_rfl⟩
        · skip
          refine E.W.skip (by kernel_rfl) (by kernel_rfl) ?_
          refine E.W.skip (by kernel_rfl) (by kernel_rfl) ?_
          refine E.W.skip (by kernel_rfl) (by kernel_rfl) ?_
          refine E.W.skip (by kernel_rfl) (by kernel_rfl) ?_
          refine E.W.skip (by kernel_rfl) (by kernel_rfl) ?_
          refine E.W.skip (by kernel_rfl) (by kernel_rfl) ?_
          refine E.W.op (.bool true) (fun w => by kernel_rfl) (by kernel_rfl) ?_
          exact E.W.end_cut ⟨by kernel_rfl, by kernel_rfl⟩
      refine E.W.done (E.To.code ?_)
      refine E.C.cond (((((a.at k).r) != ((b.at k).r)) || (!(M.sm a b (a.at k).d (b.at k).d))) || (!(M.sm a b (M.img (a.at k)) (M.img (b.at k))))) (by kernel_rfl) (by kernel_rfl) (fun hc7 => ?_) (fun hc7 => ?_)
      · skip
        refine E.C.seq ?_
        refine E.C.region ?_
        refine E.G.op (.bool false) (fun w => by kernel_rfl) (by kernel_rfl) ?_
        refine E.To.code ?_
        refine E.C.ret (E.P.rb (E.P.rt (E.P.rt (E.P.rb (E.P.rt (E.To.body (fn := Try.f30) [.bool false] ?_ ?_))))))
        · exact ⟨⟨by kernel_rfl, by kernel_rfl⟩, trivial⟩
        · intro w h
          exact ⟨by unfold M.eql; rw [M.eqs_no (k := k) hc7 _ hl, Bool.and_false]; rfl, h.ch.bel (fun _ h => h.elim)⟩
      · skip
        refine E.C.skip (E.P.nb (E.To.code ?_))
        refine E.C.region ?_
        refine E.G.val (.int .i64 ((k + 1 : Nat) : Int)) (by kernel_rfl) (fun w h => E.run_as (a := .int .i64 (IntKind.wrap .i64 (((k : Nat) : Int) + 1))) (by kernel_rfl) (congrArg (Value.int .i64) (M.inc64 (by have := ha.at_.lt; (first | assumption | ((try simp only [Bool.or_eq_false_iff, Bool.or_eq_true, Bool.and_eq_true, Bool.and_eq_false_iff, decide_eq_true_eq, decide_eq_false_iff_not, ge_iff_le, gt_iff_lt] at *); omega)))))) ?_
        refine E.G.op (.int .i64 ((k + 1 : Nat) : Int)) (fun w => by kernel_rfl) (by kernel_rfl) ?_
        exact E.To.round (k + 1) (by show a.sl.length - (k + 1) < a.sl.length - k; (first | assumption | ((try simp only [Bool.or_eq_false_iff, Bool.or_eq_true, Bool.and_eq_true, Bool.and_eq_false_iff, decide_eq_true_eq, decide_eq_false_iff_not, ge_iff_le, gt_iff_lt] at *); omega))) (⟨by show k + 1 ≤ a.sl.length; (first | assumption | ((try simp only [Bool.or_eq_false_iff, Bool.or_eq_true, Bool.and_eq_true, Bool.and_eq_false_iff, decide_eq_true_eq, decide_eq_false_iff_not, ge_iff_le, gt_iff_lt] at *); omega)), by show (M.eqs a b k && !(M.nep a b k)) = true; rw [hk1.2, show M.nep a b k = false from hc7]; rfl⟩) ⟨by kernel_rfl, by kernel_rfl⟩ (List.Sublist.refl _) (fun _ h => h)
    · skip
      refine E.C.exit (E.P.et (E.P.et (E.P.eh (E.To.code ?_))))
      refine E.C.seq ?_
      refine E.C.region ?_
      refine E.G.op (.bool true) (fun w => by kernel_rfl) (by kernel_rfl) ?_
      refine E.To.code ?_
      refine E.C.ret (E.To.body (fn := Try.f30) [.bool true] ?_ ?_)
      · exact ⟨⟨by kernel_rfl, by kernel_rfl⟩, trivial⟩
      · intro w h
        have e : k = a.sl.length := by (first | assumption | ((try simp only [Bool.or_eq_false_iff, Bool.or_eq_true, Bool.and_eq_true, Bool.and_eq_false_iff, decide_eq_true_eq, decide_eq_false_iff_not, ge_iff_le, gt_iff_lt] at *); omega))
        exact ⟨by unfold M.eql; rw [← M.eql_go hc1, beq_self_eq_true, ← e, hk1.2]; rfl, h.ch.bel (fun _ h => h.elim)⟩
end Go.Proofs.Ytdjjjikokfadiaa
