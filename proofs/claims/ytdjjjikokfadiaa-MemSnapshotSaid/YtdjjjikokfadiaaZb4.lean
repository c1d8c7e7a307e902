/- Texts 4 of the walk, merged: see the remark ahead of each. -/
import Derived.Test.YtdjjjikokfadiaaZb3
import Derived.Test.YtdjjjikokfadiaaProg
/- Walks: the reference memory, Store, printed by wip/eng. No condition but what is named. -/
namespace Go.Proofs.Ytdjjjikokfadiaa
set_option linter.unusedVariables false
set_option linter.unusedSimpArgs false
open Go.RowKit
def R.sh (v : Int) : Nat → Int
  | 0 => v
  | c + 1 => R.sh v c / 256
theorem R.sh_bd {v : Int} (h : 0 ≤ v ∧ v < 4294967296) : ∀ c, 0 ≤ R.sh v c ∧ R.sh v c < 4294967296
  | 0 => h
  | c + 1 => by
    have := R.sh_bd h c
    show 0 ≤ R.sh v c / 256 ∧ R.sh v c / 256 < 4294967296
    omega
theorem R.sh_eq (v : Int) : ∀ c, R.sh v c = Int.fdiv v (2 ^ (8 * c))
  | 0 => by show v = Int.fdiv v 1; simp
  | c + 1 => by
    show R.sh v c / 256 = _
    rw [R.sh_eq v c]
    have e : (2 : Int) ^ (8 * (c + 1)) = 2 ^ (8 * c) * 256 := by rw [show 8 * (c + 1) = 8 * c + 8 by omega, Int.pow_add]; rfl
    have hp : (0 : Int) ≤ 2 ^ (8 * c) := Int.pow_nonneg (by decide)
    rw [e, Int.fdiv_eq_ediv_of_nonneg _ hp, Int.fdiv_eq_ediv_of_nonneg _ (Int.mul_nonneg hp (by decide)), ← Int.ediv_ediv_of_nonneg hp]
theorem R.sh_next {v : Int} (h : 0 ≤ v ∧ v < 4294967296) (c : Nat) : IntKind.wrap .u32 (Int.tdiv (R.sh v c) 256) = R.sh v (c + 1) := by
  have := R.sh_bd h c
  rw [Int.tdiv_eq_ediv_of_nonneg this.1]
  show R.sh v c / 256 % 4294967296 = R.sh v c / 256
  omega
theorem R.put_n (V : M.V) (a : Nat) (v : Int) : ∀ c, (V.put a v c).n = V.n
  | 0 => rfl
  | c + 1 => (R.set_n _ _ _).trans (R.put_n V a v c)
theorem R.sto_t {V : M.V} {a m : Nat} {v : Int} (h : (V.chk a 2 ((m : Nat) : Int)).2 = true) : V.sto a ((m : Nat) : Int) v = V.put a v m := by
  unfold M.V.sto; rw [if_pos h]; rfl
theorem R.sto_f {V : M.V} {a : Nat} {n v : Int} (h : (V.chk a 2 n).2 = false) : V.sto a n v = V := by
  unfold M.V.sto; rw [if_neg (by rw [h]; decide)]
theorem R_Store_ok {r : Nat} {s : R.Sl} {V : M.V} (hw : R.Wf V) (a : Nat) (ha : a < 4294967296) (m : Nat) (v : Int) (hv : 0 ≤ v ∧ v < 4294967296) (hok : (V.chk a 2 ((m : Nat) : Int)).2 = true) : A.Tr Try.prog 57 #[.pointer (some ⟨r, 0, none⟩), .int .u32 ((a : Nat) : Int), .int .i64 ((m : Nat) : Int), .int .u32 v] (R.its r s V) (I := Unit) (fun _ => True) (fun _ => .agg #[.int .u32 0, .int .u32 (V.chk a 2 ((m : Nat) : Int)).1, .bool (V.chk a 2 ((m : Nat) : Int)).2]) (fun _ => R.its r s (V.put a v m)) := by
  intro w oo aa hh
  have hn4 := R.chk_n hok
  have hin := R.chk_in2 hok
  refine E.enter (n := 36) (S := oo) Try.func57 rfl rfl (by kernel_rfl) (A.start (L := []) hh) ?_
  refine E.C.seq ?_
  refine E.C.region ?_
  refine E.G.new (fun g => .pointer (some ⟨g, 0, none⟩)) [.int .u32 0, .int .u32 0, .bool false] 93 (fun w => by kernel_rfl) (by kernel_rfl) (fun g1 => ?_)
  refine E.To.code ?_
  refine E.C.seq ?_
  refine E.C.region ?_
  refine E.G.op (.pointer (some ⟨r, 0, none⟩)) (fun w => by kernel_rfl) (by kernel_rfl) ?_
  refine E.G.op (.int .u32 ((a : Nat) : Int)) (fun w => by kernel_rfl) (by kernel_rfl) ?_
  refine E.G.op (.int .i64 ((m : Nat) : Int)) (fun w => by kernel_rfl) (by kernel_rfl) ?_
  refine E.G.call (.agg #[.int .u32 0, .int .u32 ((V.chk a 2 ((m : Nat) : Int)).1), .bool ((V.chk a 2 ((m : Nat) : Int)).2)]) (fun w h => A.call_rd [A.blk g1 ([.int .u32 0, .int .u32 0, .bool false])] (R_check2 hw a (by (first | assumption | ((try simp only [Bool.or_eq_false_iff, Bool.or_eq_true, Bool.and_eq_true, Bool.and_eq_false_iff, Bool.not_eq_eq_eq_not, Bool.not_true, Bool.not_false, decide_eq_true_eq, decide_eq_false_iff_not, ge_iff_le, gt_iff_lt] at *); omega))) ((m : Nat) : Int) (r := r) (s := s) (V := V)) h (by kernel_rfl) (A.pm [1, 2, 3, 4, 5, 6, 0] (by kernel_rfl) (by kernel_rfl))) (fun w _ => by kernel_rfl) (by kernel_rfl) ?_
  refine E.G.new (fun g => .pointer (some ⟨g, 0, none⟩)) [.int .u32 0, .int .u32 0, .bool false] 93 (fun w => by kernel_rfl) (by kernel_rfl) (fun g2 => ?_)
  refine E.G.store 0 [.int .u32 0, .int .u32 ((V.chk a 2 ((m : Nat) : Int)).1), .bool ((V.chk a 2 ((m : Nat) : Int)).2)] rfl rfl (by kernel_rfl) (by kernel_rfl) ?_
  refine E.To.code ?_
  refine E.C.seq ?_
  refine E.C.seq ?_
  refine E.C.region ?_
  refine E.G.op (.pointer (some ⟨g2, 2, none⟩)) (fun w => by kernel_rfl) (by kernel_rfl) ?_
  refine E.G.val (.bool true) (by kernel_rfl) (fun w h => E.run_as (a := .bool ((V.chk a 2 ((m : Nat) : Int)).2)) (E.run_load h 0 rfl rfl (by kernel_rfl)) (congrArg Value.bool hok)) ?_
  refine E.To.code ?_
  refine E.C.condT (by kernel_rfl) (by kernel_rfl) ?_
  refine E.C.seq ?_
  refine E.C.region ?_
  refine E.G.op (.int .i64 0) (fun w => by kernel_rfl) (by kernel_rfl) ?_
  refine E.To.code ?_
  refine E.C.block ?_
  refine E.C.loop (I := Nat) (fun c => m - c) (fun c => c ≤ m) (fun c => [(0, .pointer (some ⟨r, 0, none⟩)), (1, .int .u32 ((a : Nat) : Int)), (2, .int .i64 ((m : Nat) : Int)), (3, .int .u32 (R.sh v c)), (8, .pointer (some ⟨g1, 0, none⟩)), (9, .pointer (some ⟨g2, 0, none⟩)), (10, .int .i64 ((c : Nat) : Int))]) (fun c => A.X w oo aa [A.blk r [.slice s.a0 (256 * (V.put a v c).n) s.c0, .slice s.a1 (256 * R.len (V.put a v c)) s.c1, .slice s.a2 (256 * (V.put a v c).n) s.c2, .slice s.a3 (256 * R.len (V.put a v c)) s.c3, .slice s.a4 ((V.put a v c).n) s.c4, .bool ((V.put a v c).coh)], A.vec .u8 s.a0 s.c0 (R.flat (V.put a v c).d (V.put a v c).n), A.vec .u8 s.a1 s.c1 (R.flat (V.put a v c).i (R.len (V.put a v c))), A.vec .u8 s.a2 s.c2 (R.flat (V.put a v c).cd (V.put a v c).n), A.vec .u8 s.a3 s.c3 (R.flat (V.put a v c).ci (R.len (V.put a v c))), A.vec .i64 s.a4 s.c4 (R.rts (V.put a v c).r (V.put a v c).n)]) (fun c => [(g2, [.int .u32 0, .int .u32 ((V.chk a 2 ((m : Nat) : Int)).1), .bool ((V.chk a 2 ((m : Nat) : Int)).2)]), (g1, [.int .u32 0, .int .u32 0, .bool false])]) 0 (Nat.zero_le _) ⟨by kernel_rfl, by kernel_rfl⟩ (List.Sublist.refl _) (fun _ h => h) (fun c hk1 => ?_)
  refine E.C.seq ?_
  refine E.C.seq ?_
  refine E.C.region ?_
  refine E.G.op (.int .i64 ((c : Nat) : Int)) (fun w => by kernel_rfl) (by kernel_rfl) ?_
  refine E.G.op (.int .i64 ((m : Nat) : Int)) (fun w => by kernel_rfl) (by kernel_rfl) ?_
  refine E.G.op (.bool (decide (((c : Nat) : Int) < ((m : Nat) : Int)))) (fun w => by kernel_rfl) (by kernel_rfl) ?_
  refine E.To.code ?_
  refine E.C.cond (decide (((c : Nat) : Int) < ((m : Nat) : Int))) (by kernel_rfl) (by kernel_rfl) (fun hc3 => ?_) (fun hc3 => ?_)
  · skip
    refine E.C.skip (E.To.code ?_)
    refine E.C.seq ?_
    refine E.C.block ?_
    refine E.C.seq ?_
    have hb : (a + c) % 4294967296 / 256 < (V.put a v c).n := by rw [R.put_n]; exact hin c (by (first | assumption | ((try simp only [Bool.or_eq_false_iff, Bool.or_eq_true, Bool.and_eq_true, Bool.and_eq_false_iff, Bool.not_eq_eq_eq_not, Bool.not_true, Bool.not_false, decide_eq_true_eq, decide_eq_false_iff_not, ge_iff_le, gt_iff_lt] at *); omega)))
    refine E.C.region ?_
    refine E.G.op (.pointer (some ⟨r, 0, none⟩)) (fun w => by kernel_rfl) (by kernel_rfl) ?_
    refine E.G.op (.pointer (some ⟨r, 0, none⟩)) (fun w => by kernel_rfl) (by kernel_rfl) ?_
    refine E.G.op (.pointer (some ⟨r, 0, none⟩)) (fun w => by kernel_rfl) (by kernel_rfl) ?_
    refine E.G.val (.slice s.a0 (256 * (V.put a v c).n) s.c0) (by kernel_rfl) (fun w h => A.Y.bld (A.X.y h.x) (k := 0) (j := 0) rfl (by kernel_rfl) (by kernel_rfl)) ?_
    refine E.G.op (.int .u32 ((a : Nat) : Int)) (fun w => by kernel_rfl) (by kernel_rfl) ?_
    refine E.G.op (.int .i64 ((c : Nat) : Int)) (fun w => by kernel_rfl) (by kernel_rfl) ?_
    refine E.G.val (.int .u32 ((c : Nat) : Int)) (by kernel_rfl) (fun w h => E.run_as (a := .int .u32 (IntKind.wrap .u32 ((c : Nat) : Int))) (by kernel_rfl) (congrArg (Value.int .u32) (by exact Nz.w32 (x := c) (by (first | assumption | ((try simp only [Bool.or_eq_false_iff, Bool.or_eq_true, Bool.and_eq_true, Bool.and_eq_false_iff, Bool.not_eq_eq_eq_not, Bool.not_true, Bool.not_false, decide_eq_true_eq, decide_eq_false_iff_not, ge_iff_le, gt_iff_lt] at *); omega)))))) ?_
    refine E.G.val (.int .u32 (((a + c) % 4294967296 : Nat) : Int)) (by kernel_rfl) (fun w h => E.run_as (a := .int .u32 (IntKind.wrap .u32 (((a : Nat) : Int) + ((c : Nat) : Int)))) (by kernel_rfl) (congrArg (Value.int .u32) (by exact Nz.add32 a c))) ?_
    refine E.G.op (.int .u32 (R.sh v c)) (fun w => by kernel_rfl) (by kernel_rfl) ?_
    refine E.G.val (.int .u8 (IntKind.wrap .u8 (Int.fdiv v (2 ^ (8 * c))))) (by kernel_rfl) (fun w h => E.run_as (a := .int .u8 (IntKind.wrap .u8 (R.sh v c))) (by kernel_rfl) (congrArg (fun x => Value.int .u8 (IntKind.wrap .u8 x)) (R.sh_eq v c))) ?_
    refine E.G.val (.pointer (some ⟨(A.bk s.a0), ((a + c) % 4294967296), none⟩)) (by kernel_rfl) (fun w h => A.Y.idx (e := 5) (ik := .u32) (i := ((a + c) % 4294967296)) (len := (256 * (V.put a v c).n)) (c2 := s.c0) (A.X.y h.x) (k := 1) rfl (by kernel_rfl) (by kernel_rfl) (by kernel_rfl) (by kernel_rfl) (by (first | assumption | ((try simp only [Bool.or_eq_false_iff, Bool.or_eq_true, Bool.and_eq_true, Bool.and_eq_false_iff, Bool.not_eq_eq_eq_not, Bool.not_true, Bool.not_false, decide_eq_true_eq, decide_eq_false_iff_not, ge_iff_le, gt_iff_lt] at *); omega))) (by simp only [R.flat_len]; (first | assumption | ((try simp only [Bool.or_eq_false_iff, Bool.or_eq_true, Bool.and_eq_true, Bool.and_eq_false_iff, Bool.not_eq_eq_eq_not, Bool.not_true, Bool.not_false, decide_eq_true_eq, decide_eq_false_iff_not, ge_iff_le, gt_iff_lt] at *); omega)))) ?_
    refine A.G.vst (kd := .u8) (ao := s.a0) (cap := s.c0) (i := ((a + c) % 4294967296)) (xs := (R.flat (V.put a v c).d (V.put a v c).n)) (v := (IntKind.wrap .u8 (Int.fdiv v (2 ^ (8 * c))))) 1 rfl (by kernel_rfl) (by kernel_rfl) (by kernel_rfl) (by simp only [R.flat_len]; (first | assumption | ((try simp only [Bool.or_eq_false_iff, Bool.or_eq_true, Bool.and_eq_true, Bool.and_eq_false_iff, Bool.not_eq_eq_eq_not, Bool.not_true, Bool.not_false, decide_eq_true_eq, decide_eq_false_iff_not, ge_iff_le, gt_iff_lt] at *); omega))) (by kernel_rfl) (by kernel_rfl) ?_
    refine E.To.code ?_
    refine A.C.eq ([A.blk r [.slice s.a0 (256 * (V.put a v (c + 1)).n) s.c0, .slice s.a1 (256 * R.len (V.put a v (c + 1))) s.c1, .slice s.a2 (256 * (V.put a v (c + 1)).n) s.c2, .slice s.a3 (256 * R.len (V.put a v (c + 1))) s.c3, .slice s.a4 ((V.put a v (c + 1)).n) s.c4, .bool ((V.put a v (c + 1)).coh)], A.vec .u8 s.a0 s.c0 (R.flat (V.put a v (c + 1)).d (V.put a v (c + 1)).n), A.vec .u8 s.a1 s.c1 (R.flat (V.put a v (c + 1)).i (R.len (V.put a v (c + 1)))), A.vec .u8 s.a2 s.c2 (R.flat (V.put a v (c + 1)).cd (V.put a v (c + 1)).n), A.vec .u8 s.a3 s.c3 (R.flat (V.put a v (c + 1)).ci (R.len (V.put a v (c + 1)))), A.vec .i64 s.a4 s.c4 (R.rts (V.put a v (c + 1)).r (V.put a v (c + 1)).n)]) (R.its_set hb) ?_
    refine E.C.region ?_
    refine E.G.op (.int .u32 (R.sh v c)) (fun w => by kernel_rfl) (by kernel_rfl) ?_
    refine E.G.val (.int .u32 (R.sh v (c + 1))) (by kernel_rfl) (fun w h => E.run_as (a := .int .u32 (IntKind.wrap .u32 (Int.tdiv (R.sh v c) 256))) (by kernel_rfl) (congrArg (Value.int .u32) (R.sh_next hv c))) ?_
    refine E.G.op (.int .u32 (R.sh v (c + 1))) (fun w => by kernel_rfl) (by kernel_rfl) ?_
    refine E.P.nb (E.To.code ?_)
    refine E.C.region ?_
    refine E.G.op (.int .i64 ((c : Nat) : Int)) (fun w => by kernel_rfl) (by kernel_rfl) ?_
    refine E.G.val (.int .i64 ((c + 1 : Nat) : Int)) (by kernel_rfl) (fun w h => E.run_as (a := .int .i64 (IntKind.wrap .i64 (((c : Nat) : Int) + 1))) (by kernel_rfl) (congrArg (Value.int .i64) (by exact Nz.add64 (x := c) (y := 1) (by (first | assumption | ((try simp only [Bool.or_eq_false_iff, Bool.or_eq_true, Bool.and_eq_true, Bool.and_eq_false_iff, Bool.not_eq_eq_eq_not, Bool.not_true, Bool.not_false, decide_eq_true_eq, decide_eq_false_iff_not, ge_iff_le, gt_iff_lt] at *); omega)))))) ?_
    refine E.G.op (.int .i64 ((c + 1 : Nat) : Int)) (fun w => by kernel_rfl) (by kernel_rfl) ?_
    exact E.To.round (c + 1) (by (first | assumption | ((try simp only [Bool.or_eq_false_iff, Bool.or_eq_true, Bool.and_eq_true, Bool.and_eq_false_iff, Bool.not_eq_eq_eq_not, Bool.not_true, Bool.not_false, decide_eq_true_eq, decide_eq_false_iff_not, ge_iff_le, gt_iff_lt] at *); omega))) (by (first | assumption | ((try simp only [Bool.or_eq_false_iff, Bool.or_eq_true, Bool.and_eq_true, Bool.and_eq_false_iff, Bool.not_eq_eq_eq_not, Bool.not_true, Bool.not_false, decide_eq_true_eq, decide_eq_false_iff_not, ge_iff_le, gt_iff_lt] at *); omega))) ⟨by kernel_rfl, by kernel_rfl⟩ (List.Sublist.refl _) (fun _ h => h)
  · skip
    refine E.C.exit (E.P.et (E.P.et (E.P.eh (E.To.code ?_))))
    refine E.C.weak [(8, .pointer (some ⟨g1, 0, none⟩)), (9, .pointer (some ⟨g2, 0, none⟩))] [(g2, [.int .u32 0, .int .u32 ((V.chk a 2 ((m : Nat) : Int)).1), .bool ((V.chk a 2 ((m : Nat) : Int)).2)]), (g1, [.int .u32 0, .int .u32 0, .bool false])] ⟨by kernel_rfl, by kernel_rfl⟩ (List.Sublist.refl _) ?_
    refine E.C.seq ?_
    refine E.C.region ?_
    refine E.G.val (.agg #[.int .u32 0, .int .u32 ((V.chk a 2 ((m : Nat) : Int)).1), .bool ((V.chk a 2 ((m : Nat) : Int)).2)]) (by kernel_rfl) (fun w h => E.run_load h 0 rfl rfl (by kernel_rfl)) ?_
    refine E.G.store 1 [.int .u32 0, .int .u32 ((V.chk a 2 ((m : Nat) : Int)).1), .bool ((V.chk a 2 ((m : Nat) : Int)).2)] rfl rfl (by kernel_rfl) (by kernel_rfl) ?_
    refine E.To.code ?_
    refine E.C.ret (E.To.body (fn := Try.f57) [.agg #[.int .u32 0, .int .u32 ((V.chk a 2 ((m : Nat) : Int)).1), .bool ((V.chk a 2 ((m : Nat) : Int)).2)]] ?_ ?_)
    · exact ⟨⟨by kernel_rfl, _, _, 1, _, rfl, rfl, by kernel_rfl⟩, trivial⟩
    · intro w h
      obtain rfl : m = c := by (first | assumption | ((try simp only [Bool.or_eq_false_iff, Bool.or_eq_true, Bool.and_eq_true, Bool.and_eq_false_iff, Bool.not_eq_eq_eq_not, Bool.not_true, Bool.not_false, decide_eq_true_eq, decide_eq_false_iff_not, ge_iff_le, gt_iff_lt] at *); omega))
      exact ⟨(), trivial, rfl, A.done (q := [A.blk r [.slice s.a0 (256 * (V.put a v m).n) s.c0, .slice s.a1 (256 * R.len (V.put a v m)) s.c1, .slice s.a2 (256 * (V.put a v m).n) s.c2, .slice s.a3 (256 * R.len (V.put a v m)) s.c3, .slice s.a4 ((V.put a v m).n) s.c4, .bool ((V.put a v m).coh)], A.vec .u8 s.a0 s.c0 (R.flat (V.put a v m).d (V.put a v m).n), A.vec .u8 s.a1 s.c1 (R.flat (V.put a v m).i (R.len (V.put a v m))), A.vec .u8 s.a2 s.c2 (R.flat (V.put a v m).cd (V.put a v m).n), A.vec .u8 s.a3 s.c3 (R.flat (V.put a v m).ci (R.len (V.put a v m))), A.vec .i64 s.a4 s.c4 (R.rts (V.put a v m).r (V.put a v m).n)]) (r := [A.blk g2 ([.int .u32 0, .int .u32 ((V.chk a 2 ((m : Nat) : Int)).1), .bool ((V.chk a 2 ((m : Nat) : Int)).2)]), A.blk g1 ([.int .u32 0, .int .u32 ((V.chk a 2 ((m : Nat) : Int)).1), .bool ((V.chk a 2 ((m : Nat) : Int)).2)])]) h (by kernel_rfl) (A.pm [2, 3, 4, 5, 6, 7, 0, 1] (by kernel_rfl) (by kernel_rfl))⟩
theorem R_Store_no {r : Nat} {s : R.Sl} {V : M.V} (hw : R.Wf V) (a : Nat) (ha : a < 4294967296) (n v : Int) (hno : (V.chk a 2 n).2 = false) : A.Tr Try.prog 57 #[.pointer (some ⟨r, 0, none⟩), .int .u32 ((a : Nat) : Int), .int .i64 n, .int .u32 v] (R.its r s V) (I := Unit) (fun _ => True) (fun _ => .agg #[.int .u32 0, .int .u32 (V.chk a 2 n).1, .bool (V.chk a 2 n).2]) (fun _ => R.its r s V) := by
  intro w oo aa hh
  refine E.enter (n := 36) (S := oo) Try.func57 rfl rfl (by kernel_rfl) (A.start (L := []) hh) ?_
  refine E.C.seq ?_
  refine E.C.region ?_
  refine E.G.new (fun g => .pointer (some ⟨g, 0, none⟩)) [.int .u32 0, .int .u32 0, .bool false] 93 (fun w => by kernel_rfl) (by kernel_rfl) (fun g1 => ?_)
  refine E.To.code ?_
  refine E.C.seq ?_
  refine E.C.region ?_
  refine E.G.op (.pointer (some ⟨r, 0, none⟩)) (fun w => by kernel_rfl) (by kernel_rfl) ?_
  refine E.G.op (.int .u32 ((a : Nat) : Int)) (fun w => by kernel_rfl) (by kernel_rfl) ?_
  refine E.G.op (.int .i64 n) (fun w => by kernel_rfl) (by kernel_rfl) ?_
  refine E.G.call (.agg #[.int .u32 0, .int .u32 ((V.chk a 2 n).1), .bool ((V.chk a 2 n).2)]) (fun w h => A.call_rd [A.blk g1 ([.int .u32 0, .int .u32 0, .bool false])] (R_check2 hw a (by (first | assumption | ((try simp only [Bool.or_eq_false_iff, Bool.or_eq_true, Bool.and_eq_true, Bool.and_eq_false_iff, Bool.not_eq_eq_eq_not, Bool.not_true, Bool.not_false, decide_eq_true_eq, decide_eq_false_iff_not, ge_iff_le, gt_iff_lt] at *); omega))) n (r := r) (s := s) (V := V)) h (by kernel_rfl) (A.pm [1, 2, 3, 4, 5, 6, 0] (by kernel_rfl) (by kernel_rfl))) (fun w _ => by kernel_rfl) (by kernel_rfl) ?_
  refine E.G.new (fun g => .pointer (some ⟨g, 0, none⟩)) [.int .u32 0, .int .u32 0, .bool false] 93 (fun w => by kernel_rfl) (by kernel_rfl) (fun g2 => ?_)
  refine E.G.store 0 [.int .u32 0, .int .u32 ((V.chk a 2 n).1), .bool ((V.chk a 2 n).2)] rfl rfl (by kernel_rfl) (by kernel_rfl) ?_
  refine E.To.code ?_
  refine E.C.seq ?_
  refine E.C.seq ?_
  refine E.C.region ?_
  refine E.G.op (.pointer (some ⟨g2, 2, none⟩)) (fun w => by kernel_rfl) (by kernel_rfl) ?_
  refine E.G.val (.bool false) (by kernel_rfl) (fun w h => E.run_as (a := .bool ((V.chk a 2 n).2)) (E.run_load h 0 rfl rfl (by kernel_rfl)) (congrArg Value.bool hno)) ?_
  refine E.To.code ?_
  refine E.C.condF (by kernel_rfl) (by kernel_rfl) ?_
  refine E.C.skip (E.To.code ?_)
  refine E.C.weak [(8, .pointer (some ⟨g1, 0, none⟩)), (9, .pointer (some ⟨g2, 0, none⟩))] [(g2, [.int .u32 0, .int .u32 ((V.chk a 2 n).1), .bool ((V.chk a 2 n).2)]), (g1, [.int .u32 0, .int .u32 0, .bool false])] ⟨by kernel_rfl, by kernel_rfl⟩ (List.Sublist.refl _) ?_
  refine E.C.seq ?_
  refine E.C.region ?_
  refine E.G.val (.agg #[.int .u32 0, .int .u32 ((V.chk a 2 n).1), .bool ((V.chk a 2 n).2)]) (by kernel_rfl) (fun w h => E.run_load h 0 rfl rfl (by kernel_rfl)) ?_
  refine E.G.store 1 [.int .u32 0, .int .u32 ((V.chk a 2 n).1), .bool ((V.chk a 2 n).2)] rfl rfl (by kernel_rfl) (by kernel_rfl) ?_
  refine E.To.code ?_
  refine E.C.ret (E.To.body (fn := Try.f57) [.agg #[.int .u32 0, .int .u32 ((V.chk a 2 n).1), .bool ((V.chk a 2 n).2)]] ?_ ?_)
  · exact ⟨⟨by kernel_rfl, _, _, 1, _, rfl, rfl, by kernel_rfl⟩, trivial⟩
  · intro w h
    exact ⟨(), trivial, rfl, A.done (q := [A.blk r [.slice s.a0 (256 * V.n) s.c0, .slice s.a1 (256 * R.len V) s.c1, .slice s.a2 (256 * V.n) s.c2, .slice s.a3 (256 * R.len V) s.c3, .slice s.a4 V.n s.c4, .bool V.coh], A.vec .u8 s.a0 s.c0 (R.flat V.d V.n), A.vec .u8 s.a1 s.c1 (R.flat V.i (R.len V)), A.vec .u8 s.a2 s.c2 (R.flat V.cd V.n), A.vec .u8 s.a3 s.c3 (R.flat V.ci (R.len V)), A.vec .i64 s.a4 s.c4 (R.rts V.r V.n)]) (r := [A.blk g2 ([.int .u32 0, .int .u32 ((V.chk a 2 n).1), .bool ((V.chk a 2 n).2)]), A.blk g1 ([.int .u32 0, .int .u32 ((V.chk a 2 n).1), .bool ((V.chk a 2 n).2)])]) h (by kernel_rfl) (A.pm [2, 3, 4, 5, 6, 7, 0, 1] (by kernel_rfl) (by kernel_rfl))⟩
theorem R_Load_no {r : Nat} {s : R.Sl} {V : M.V} (hw : R.Wf V) (a : Nat) (ha : a < 4294967296) (n : Int) (hno : (V.chk a 1 n).2 = false) : A.Rd Try.prog 56 #[.pointer (some ⟨r, 0, none⟩), .int .u32 ((a : Nat) : Int), .int .i64 n] (R.its r s V) (.agg #[.int .u32 (V.load a n).1, .int .u32 (V.load a n).2.1, .bool (V.load a n).2.2]) := by
  intro w oo aa hh
  refine E.enter (n := 38) (S := fun _ => False) Try.func56 rfl rfl (by kernel_rfl) (A.startY hh) ?_
  refine E.C.seq ?_
  refine E.C.region ?_
  refine E.G.new (fun g => .pointer (some ⟨g, 0, none⟩)) [.int .u32 0, .int .u32 0, .bool false] 93 (fun w => by kernel_rfl) (by kernel_rfl) (fun g1 => ?_)
  refine E.To.code ?_
  refine E.C.seq ?_
  refine E.C.region ?_
  refine E.G.op (.pointer (some ⟨r, 0, none⟩)) (fun w => by kernel_rfl) (by kernel_rfl) ?_
  refine E.G.op (.int .u32 ((a : Nat) : Int)) (fun w => by kernel_rfl) (by kernel_rfl) ?_
  refine E.G.op (.int .i64 n) (fun w => by kernel_rfl) (by kernel_rfl) ?_
  refine E.G.call (.agg #[.int .u32 0, .int .u32 ((V.chk a 1 n).1), .bool ((V.chk a 1 n).2)]) (fun w h => A.Y.rd [] (R_check1 hw a (by (first | assumption | ((try simp only [Bool.or_eq_false_iff, Bool.or_eq_true, Bool.and_eq_true, Bool.and_eq_false_iff, Bool.not_eq_eq_eq_not, Bool.not_true, Bool.not_false, decide_eq_true_eq, decide_eq_false_iff_not, ge_iff_le, gt_iff_lt] at *); omega))) n (r := r) (s := s) (V := V)) h.x (A.pm [0, 1, 2, 3, 4, 5] (by kernel_rfl) (by kernel_rfl))) (fun w _ => by kernel_rfl) (by kernel_rfl) ?_
  refine E.G.new (fun g => .pointer (some ⟨g, 0, none⟩)) [.int .u32 0, .int .u32 0, .bool false] 93 (fun w => by kernel_rfl) (by kernel_rfl) (fun g2 => ?_)
  refine E.G.store 0 [.int .u32 0, .int .u32 ((V.chk a 1 n).1), .bool ((V.chk a 1 n).2)] rfl rfl (by kernel_rfl) (by kernel_rfl) ?_
  refine E.To.code ?_
  refine E.C.seq ?_
  refine E.C.seq ?_
  refine E.C.region ?_
  refine E.G.op (.pointer (some ⟨g2, 2, none⟩)) (fun w => by kernel_rfl) (by kernel_rfl) ?_
  refine E.G.val (.bool false) (by kernel_rfl) (fun w h => E.run_as (a := .bool ((V.chk a 1 n).2)) (E.run_load h 0 rfl rfl (by kernel_rfl)) (congrArg Value.bool hno)) ?_
  refine E.To.code ?_
  refine E.C.condF (by kernel_rfl) (by kernel_rfl) ?_
  refine E.C.skip (E.To.code ?_)
  refine E.C.weak [(6, .pointer (some ⟨g1, 0, none⟩)), (7, .pointer (some ⟨g2, 0, none⟩))] [(g2, [.int .u32 0, .int .u32 ((V.chk a 1 n).1), .bool ((V.chk a 1 n).2)]), (g1, [.int .u32 0, .int .u32 0, .bool false])] ⟨by kernel_rfl, by kernel_rfl⟩ (List.Sublist.refl _) ?_
  refine E.C.seq ?_
  refine E.C.region ?_
  refine E.G.val (.agg #[.int .u32 0, .int .u32 ((V.chk a 1 n).1), .bool ((V.chk a 1 n).2)]) (by kernel_rfl) (fun w h => E.run_load h 0 rfl rfl (by kernel_rfl)) ?_
  refine E.G.store 1 [.int .u32 0, .int .u32 ((V.chk a 1 n).1), .bool ((V.chk a 1 n).2)] rfl rfl (by kernel_rfl) (by kernel_rfl) ?_
  refine E.To.code ?_
  refine E.C.ret (E.To.body (fn := Try.f56) [.agg #[.int .u32 0, .int .u32 ((V.chk a 1 n).1), .bool ((V.chk a 1 n).2)]] ?_ ?_)
  · exact ⟨⟨by kernel_rfl, _, _, 1, _, rfl, rfl, by kernel_rfl⟩, trivial⟩
  · intro w h
    exact ⟨by rw [R.load_f hno, hno]; rfl, h.ch.bel (fun _ h => h.elim)⟩
/-- Load and Store of the reference, whatever the size. -/
theorem R_Load {r : Nat} {s : R.Sl} {V : M.V} (hw : R.Wf V) (a : Nat) (ha : a < 4294967296) (n : Int) : A.Rd Try.prog 56 #[.pointer (some ⟨r, 0, none⟩), .int .u32 ((a : Nat) : Int), .int .i64 n] (R.its r s V) (.agg #[.int .u32 (V.load a n).1, .int .u32 (V.load a n).2.1, .bool (V.load a n).2.2]) := by
  cases h : (V.chk a 1 n).2 with
  | false => exact R_Load_no hw a ha n h
  | true =>
    have hn := R.chk_n h
    have := R_Load_m (r := r) (s := s) hw a ha n.toNat
    rw [show ((n.toNat : Nat) : Int) = n by omega] at this
    exact this
theorem R_Store {r : Nat} {s : R.Sl} {V : M.V} (hw : R.Wf V) (a : Nat) (ha : a < 4294967296) (n v : Int) (hv : 0 ≤ v ∧ v < 4294967296) : A.Tr Try.prog 57 #[.pointer (some ⟨r, 0, none⟩), .int .u32 ((a : Nat) : Int), .int .i64 n, .int .u32 v] (R.its r s V) (I := Unit) (fun _ => True) (fun _ => .agg #[.int .u32 0, .int .u32 (V.chk a 2 n).1, .bool (V.chk a 2 n).2]) (fun _ => R.its r s (V.sto a n v)) := by
  cases h : (V.chk a 2 n).2 with
  | false => rw [R.sto_f h, ← h]; exact R_Store_no hw a ha n v h
  | true =>
    have hn := R.chk_n h
    have e : ((n.toNat : Nat) : Int) = n := by omega
    have h2 : (V.chk a 2 ((n.toNat : Nat) : Int)).2 = true := by rw [e]; exact h
    have := R_Store_ok (r := r) (s := s) hw a ha n.toNat v hv h2
    rw [← R.sto_t h2, e, h] at this
    exact this
end Go.Proofs.Ytdjjjikokfadiaa

/- Walks: the reference memory, Protect, Sync, SetCode, printed by wip/eng. No condition but what is named. -/
namespace Go.Proofs.Ytdjjjikokfadiaa
set_option linter.unusedVariables false
set_option linter.unusedSimpArgs false
open Go.RowKit
theorem R.its_img {r : Nat} {s : R.Sl} {V : M.V} {y : Nat} {v : Int} (hc : V.coh = false) (h : y / 256 < V.n) (W : M.V) (hn : W.n = V.n) (hcc : W.coh = V.coh) (hd : ∀ j, j < V.n → ∀ x, x < 256 → W.d j x = V.d j x) (hi : ∀ j, j < V.n → ∀ x, x < 256 → W.i j x = M.up V.i (y / 256) (y % 256) v j x) (hcd : W.cd = V.cd) (hci : W.ci = V.ci) (hr : W.r = V.r) :
    [A.blk r (R.cells s V), A.vec .u8 s.a0 s.c0 (R.flat V.d V.n), A.vec .u8 s.a1 s.c1 ((R.flat V.i (R.len V)).set y v), A.vec .u8 s.a2 s.c2 (R.flat V.cd V.n), A.vec .u8 s.a3 s.c3 (R.flat V.ci (R.len V)), A.vec .i64 s.a4 s.c4 (R.rts V.r V.n)] = R.its r s W := by
  have hl : R.len V = V.n := R.len_f hc
  have hl2 : R.len W = V.n := by rw [R.len_eq hn hcc, hl]
  unfold R.its R.vs
  rw [R.cells_eq (V := W) (W := V) hn hcc, hl2, hl, hn, hcd, hci, hr, R.flat_set v (by omega), R.flat_congr hd, R.flat_congr hi]
/-- The image after the first c bytes of page k have been copied. -/
def R.cpy (V : M.V) (k c : Nat) : M.V := { V with i := fun j x => if j = k ∧ x < c then V.d j x else V.i j x }
theorem R.cpy0 (V : M.V) (k : Nat) : R.cpy V k 0 = V := by unfold R.cpy; simp
theorem R.cpy_end {V : M.V} {k : Nat} (hk : k < V.n) (hc : V.coh = false) {r : Nat} {s : R.Sl} : R.its r s (R.cpy V k 256) = R.its r s (V.sync k) := by
  have e : V.sync k = { V with i := fun j x => if j = k then V.d j x else V.i j x } := if_pos ⟨hk, hc⟩
  have hl : R.len V = V.n := R.len_f hc
  unfold R.its
  rw [e, R.cells_eq (V := R.cpy V k 256) (W := { V with i := fun j x => if j = k then V.d j x else V.i j x }) rfl rfl, R.vs_eq (V := R.cpy V k 256) (W := { V with i := fun j x => if j = k then V.d j x else V.i j x }) rfl rfl rfl (R.flat_congr fun j hj x hx => ?_) rfl rfl rfl]
  show (if j = k ∧ x < 256 then V.d j x else V.i j x) = if j = k then V.d j x else V.i j x
  by_cases e : j = k
  · rw [if_pos ⟨e, hx⟩, if_pos e]
  · rw [if_neg (fun h => e h.1), if_neg e]
theorem R.cpy_next {V : M.V} {k c : Nat} (hc : V.coh = false) (hk : k < V.n) (hcc : c < 256) {r : Nat} {s : R.Sl} {v : Int} (hv : v = V.d k c) :
    [A.blk r (R.cells s (R.cpy V k c)), A.vec .u8 s.a0 s.c0 (R.flat (R.cpy V k c).d (R.cpy V k c).n), A.vec .u8 s.a1 s.c1 ((R.flat (R.cpy V k c).i (R.len (R.cpy V k c))).set (256 * k + c) v), A.vec .u8 s.a2 s.c2 (R.flat (R.cpy V k c).cd (R.cpy V k c).n), A.vec .u8 s.a3 s.c3 (R.flat (R.cpy V k c).ci (R.len (R.cpy V k c))), A.vec .i64 s.a4 s.c4 (R.rts (R.cpy V k c).r (R.cpy V k c).n)] = R.its r s (R.cpy V k (c + 1)) := by
  refine R.its_img (V := R.cpy V k c) hc (by show (256 * k + c) / 256 < V.n; omega) _ rfl rfl (fun _ _ _ _ => rfl) (fun j hj x hx => ?_) rfl rfl rfl
  rw [show (256 * k + c) / 256 = k by omega, show (256 * k + c) % 256 = c by omega]
  show (if j = k ∧ x < c + 1 then V.d j x else V.i j x) = if j = k ∧ x = c then v else (if j = k ∧ x < c then V.d j x else V.i j x)
  by_cases e : j = k
  · subst e
    by_cases e2 : x = c
    · subst e2; simp [hv]
    · have e3 : (x < c + 1) = (x < c) := propext ⟨fun _ => by omega, fun _ => by omega⟩
      simp [e2, e3]
  · simp [e]
/-- The image after the first c bytes of a string have been laid into page k. -/
def R.lay (V : M.V) (k : Nat) (b : ByteArray) (c : Nat) : M.V := { V with i := fun j x => if j = k ∧ x < c then W.byt b.data.toList x else V.i j x }
theorem R.lay0 (V : M.V) (k : Nat) (b : ByteArray) : R.lay V k b 0 = V := by unfold R.lay; simp
theorem R.lay_end {V : M.V} {k : Nat} {b : ByteArray} {c : Nat} (hk : k < V.n) (hc : V.coh = false) (h : c = Nat.min b.size 256) : R.lay V k b c = V.setc ((k : Nat) : Int) b := by
  subst h
  exact (if_pos (c := 0 ≤ ((k : Nat) : Int) ∧ ((k : Nat) : Int) < ((V.n : Nat) : Int) ∧ V.coh = false) (e := V) ⟨by omega, by omega, hc⟩).symm
theorem R.lay_next {V : M.V} {k c : Nat} {b : ByteArray} (hc : V.coh = false) (hk : k < V.n) (hcc : c < 256) {r : Nat} {s : R.Sl} :
    [A.blk r (R.cells s (R.lay V k b c)), A.vec .u8 s.a0 s.c0 (R.flat (R.lay V k b c).d (R.lay V k b c).n), A.vec .u8 s.a1 s.c1 ((R.flat (R.lay V k b c).i (R.len (R.lay V k b c))).set (256 * k + c) (W.byt b.data.toList c)), A.vec .u8 s.a2 s.c2 (R.flat (R.lay V k b c).cd (R.lay V k b c).n), A.vec .u8 s.a3 s.c3 (R.flat (R.lay V k b c).ci (R.len (R.lay V k b c))), A.vec .i64 s.a4 s.c4 (R.rts (R.lay V k b c).r (R.lay V k b c).n)] = R.its r s (R.lay V k b (c + 1)) := by
  refine R.its_img (V := R.lay V k b c) hc (by show (256 * k + c) / 256 < V.n; omega) _ rfl rfl (fun _ _ _ _ => rfl) (fun j hj x hx => ?_) rfl rfl rfl
  rw [show (256 * k + c) / 256 = k by omega, show (256 * k + c) % 256 = c by omega]
  show (if j = k ∧ x < c + 1 then W.byt b.data.toList x else V.i j x) = if j = k ∧ x = c then W.byt b.data.toList c else (if j = k ∧ x < c then W.byt b.data.toList x else V.i j x)
  by_cases e : j = k
  · subst e
    by_cases e2 : x = c
    · subst e2; simp
    · have e3 : (x < c + 1) = (x < c) := propext ⟨fun _ => by omega, fun _ => by omega⟩
      simp [e2, e3]
  · simp [e]
theorem R.its_prot {r : Nat} {s : R.Sl} {V : M.V} {m : Nat} {x : Int} (h : m < V.n) : [A.blk r (R.cells s V), A.vec .u8 s.a0 s.c0 (R.flat V.d V.n), A.vec .u8 s.a1 s.c1 (R.flat V.i (R.len V)), A.vec .u8 s.a2 s.c2 (R.flat V.cd V.n), A.vec .u8 s.a3 s.c3 (R.flat V.ci (R.len V)), A.vec .i64 s.a4 s.c4 ((R.rts V.r V.n).set m (bits .and .i64 x 7))] = R.its r s (V.prot ((m : Nat) : Int) x) := by
  have e : V.prot ((m : Nat) : Int) x = { V with r := fun j => if j = m then bits .and .i64 x 7 else V.r j } := if_pos ⟨by omega, by omega⟩
  rw [e, R.rts_set _ h]; rfl
theorem R.prot_no {V : M.V} {n x : Int} (h : ((decide (n ≥ 0)) && (decide (n < ((V.n : Nat) : Int)))) = false) : V.prot n x = V := if_neg (fun k => by
  rw [decide_eq_true (show n ≥ 0 from k.1), decide_eq_true k.2] at h; cases h)
theorem R.prot_yes {V : M.V} {n : Int} (h : ((decide (n ≥ 0)) && (decide (n < ((V.n : Nat) : Int)))) = true) : ∃ m : Nat, n = ((m : Nat) : Int) ∧ m < V.n := by
  simp only [Bool.and_eq_true, decide_eq_true_eq] at h
  obtain ⟨m, rfl⟩ := Int.eq_ofNat_of_zero_le (show 0 ≤ n from h.1)
  exact ⟨m, rfl, by omega⟩
theorem R.sync_no {V : M.V} {k : Nat} (h : ((decide (k < V.n)) && (!V.coh)) = false) : V.sync k = V := if_neg (fun q => by
  rw [decide_eq_true q.1, q.2] at h; cases h)
theorem R.setc_no {V : M.V} {n : Int} {b : ByteArray} (h : (((decide (n < 0)) || (decide (n ≥ ((V.n : Nat) : Int)))) || V.coh) = true) : V.setc n b = V := if_neg (fun q => by
  rw [q.2.2] at h
  simp only [Bool.or_eq_true, decide_eq_true_eq, Bool.false_eq_true, or_false] at h
  omega)
theorem R.setc_yes {V : M.V} {n : Int} (h : (((decide (n < 0)) || (decide (n ≥ ((V.n : Nat) : Int)))) || V.coh) = false) : ∃ m : Nat, n = ((m : Nat) : Int) ∧ m < V.n ∧ V.coh = false := by
  simp only [Bool.or_eq_false_iff, decide_eq_false_iff_not] at h
  obtain ⟨m, rfl⟩ := Int.eq_ofNat_of_zero_le (show 0 ≤ n by omega)
  exact ⟨m, rfl, by omega, h.2⟩
theorem R.min_end {b : ByteArray} {c : Nat} (h : c ≤ b.size ∧ c ≤ 256) (h2 : ((decide (((c : Nat) : Int) < ((b.size : Nat) : Int))) && (decide (((c : Nat) : Int) < 256))) = false) : c = Nat.min b.size 256 := by
  have e : Nat.min b.size 256 = if b.size ≤ 256 then b.size else 256 := rfl
  rw [e]
  simp only [Bool.and_eq_false_iff, decide_eq_false_iff_not] at h2
  split <;> omega
theorem R_Protect {r : Nat} {s : R.Sl} {V : M.V} (n x : Int) : A.Tr Try.prog 44 #[.pointer (some ⟨r, 0, none⟩), .int .i64 n, .int .i64 x] (R.its r s V) (I := Unit) (fun _ => True) (fun _ => .tuple #[]) (fun _ => R.its r s (V.prot n x)) := by
  intro w oo aa hh
  refine E.enter (n := 25) (S := oo) Try.func44 rfl rfl (by kernel_rfl) (A.start (L := []) hh) ?_
  refine E.C.seq ?_
  refine E.C.region ?_
  refine E.G.op (.int .i64 n) (fun w => by kernel_rfl) (by kernel_rfl) ?_
  refine E.G.op (.bool (decide (n ≥ 0))) (fun w => by kernel_rfl) (by kernel_rfl) ?_
  refine E.G.op (.bool (decide (n ≥ 0))) (fun w => by kernel_rfl) (by kernel_rfl) ?_
  refine E.G.cut 8 [(0, .pointer (some ⟨r, 0, none⟩)), (1, .int .i64 n), (2, .int .i64 x), (16, .bool ((decide (n ≥ 0)) && (decide (n < ((V.n : Nat) : Int)))))] (A.X w oo aa [A.blk r [.slice s.a0 (256 * V.n) s.c0, .slice s.a1 (256 * R.len V) s.c1, .slice s.a2 (256 * V.n) s.c2, .slice s.a3 (256 * R.len V) s.c3, .slice s.a4 V.n s.c4, .bool V.coh], A.vec .u8 s.a0 s.c0 (R.flat V.d V.n), A.vec .u8 s.a1 s.c1 (R.flat V.i (R.len V)), A.vec .u8 s.a2 s.c2 (R.flat V.cd V.n), A.vec .u8 s.a3 s.c3 (R.flat V.ci (R.len V)), A.vec .i64 s.a4 s.c4 (R.rts V.r V.n)]) [] ?_ ?_
  · generalize hc1 : (decide (n ≥ 0)) = b2
    cases b2
    · skip
      refine E.G.skip (by kernel_rfl) (by kernel_rfl) ?_
      refine E.G.skip (by kernel_rfl) (by kernel_rfl) ?_
      refine E.G.skip (by kernel_rfl) (by kernel_rfl) ?_
      refine E.G.skip (by kernel_rfl) (by kernel_rfl) ?_
      refine E.G.skip (by kernel_rfl) (by kernel_rfl) ?_
      refine E.G.skip (by kernel_rfl) (by kernel_rfl) ?_
      refine E.G.skip (by kernel_rfl) (by kernel_rfl) ?_
      refine E.G.op (.bool false) (fun w => by kernel_rfl) (by kernel_rfl) ?_
      exact E.G.end_pst ⟨by kernel_rfl, by kernel_rfl⟩ (List.Sublist.refl _) (fun _ h => h)
    · skip
      refine E.G.op (.int .i64 n) (fun w => by kernel_rfl) (by kernel_rfl) ?_
      refine E.G.op (.pointer (some ⟨r, 0, none⟩)) (fun w => by kernel_rfl) (by kernel_rfl) ?_
      refine E.G.op (.pointer (some ⟨r, 0, none⟩)) (fun w => by kernel_rfl) (by kernel_rfl) ?_
      refine E.G.op (.pointer (some ⟨r, 4, none⟩)) (fun w => by kernel_rfl) (by kernel_rfl) ?_
      refine E.G.val (.slice s.a4 V.n s.c4) (by kernel_rfl) (fun w h => A.Y.bld (A.X.y h.x) (k := 0) (j := 4) rfl (by kernel_rfl) (by kernel_rfl)) ?_
      refine E.G.op (.int .i64 ((V.n : Nat) : Int)) (fun w => by kernel_rfl) (by kernel_rfl) ?_
      refine E.G.op (.bool (decide (n < ((V.n : Nat) : Int)))) (fun w => by kernel_rfl) (by kernel_rfl) ?_
      refine E.G.op (.bool (decide (n < ((V.n : Nat) : Int)))) (fun w => by kernel_rfl) (by kernel_rfl) ?_
      exact E.G.end_pst ⟨by kernel_rfl, by kernel_rfl⟩ (List.Sublist.refl _) (fun _ h => h)
  refine E.To.code ?_
  refine E.C.cond ((decide (n ≥ 0)) && (decide (n < ((V.n : Nat) : Int)))) (by kernel_rfl) (by kernel_rfl) (fun hc3 => ?_) (fun hc3 => ?_)
  · skip
    obtain ⟨m, rfl, hm⟩ := R.prot_yes hc3
    refine E.C.region ?_
    refine E.G.op (.pointer (some ⟨r, 0, none⟩)) (fun w => by kernel_rfl) (by kernel_rfl) ?_
    refine E.G.op (.pointer (some ⟨r, 0, none⟩)) (fun w => by kernel_rfl) (by kernel_rfl) ?_
    refine E.G.op (.pointer (some ⟨r, 4, none⟩)) (fun w => by kernel_rfl) (by kernel_rfl) ?_
    refine E.G.val (.slice s.a4 V.n s.c4) (by kernel_rfl) (fun w h => A.Y.bld (A.X.y h.x) (k := 0) (j := 4) rfl (by kernel_rfl) (by kernel_rfl)) ?_
    refine E.G.op (.int .i64 ((m : Nat) : Int)) (fun w => by kernel_rfl) (by kernel_rfl) ?_
    refine E.G.op (.int .i64 x) (fun w => by kernel_rfl) (by kernel_rfl) ?_
    refine E.G.op (.int .i64 (bits .and .i64 x 7)) (fun w => by kernel_rfl) (by kernel_rfl) ?_
    refine E.G.val (.pointer (some ⟨(A.bk s.a4), m, none⟩)) (by kernel_rfl) (fun w h => A.Y.idx (e := 3) (ik := .i64) (i := m) (len := V.n) (c2 := s.c4) (A.X.y h.x) (k := 5) rfl (by kernel_rfl) (by kernel_rfl) (by kernel_rfl) (by kernel_rfl) (by (first | assumption | ((try simp only [Bool.or_eq_false_iff, Bool.or_eq_true, Bool.and_eq_true, Bool.and_eq_false_iff, Bool.not_eq_eq_eq_not, Bool.not_true, Bool.not_false, decide_eq_true_eq, decide_eq_false_iff_not, ge_iff_le, gt_iff_lt] at *); omega))) (by simp only [R.rts_len]; (first | assumption | ((try simp only [Bool.or_eq_false_iff, Bool.or_eq_true, Bool.and_eq_true, Bool.and_eq_false_iff, Bool.not_eq_eq_eq_not, Bool.not_true, Bool.not_false, decide_eq_true_eq, decide_eq_false_iff_not, ge_iff_le, gt_iff_lt] at *); omega)))) ?_
    refine A.G.vst (kd := .i64) (ao := s.a4) (cap := s.c4) (i := m) (xs := (R.rts V.r V.n)) (v := (bits .and .i64 x 7)) 5 rfl (by kernel_rfl) (by kernel_rfl) (by kernel_rfl) (by simp only [R.rts_len]; (first | assumption | ((try simp only [Bool.or_eq_false_iff, Bool.or_eq_true, Bool.and_eq_true, Bool.and_eq_false_iff, Bool.not_eq_eq_eq_not, Bool.not_true, Bool.not_false, decide_eq_true_eq, decide_eq_false_iff_not, ge_iff_le, gt_iff_lt] at *); omega))) (by kernel_rfl) (by kernel_rfl) ?_
    refine E.To.bodyN (fn := Try.f44) [] ?_ ?_
    · exact trivial
    · intro w h
      rw [← R.its_prot hm]
      exact ⟨(), trivial, rfl, A.done (q := [A.blk r [.slice s.a0 (256 * V.n) s.c0, .slice s.a1 (256 * R.len V) s.c1, .slice s.a2 (256 * V.n) s.c2, .slice s.a3 (256 * R.len V) s.c3, .slice s.a4 V.n s.c4, .bool V.coh], A.vec .u8 s.a0 s.c0 (R.flat V.d V.n), A.vec .u8 s.a1 s.c1 (R.flat V.i (R.len V)), A.vec .u8 s.a2 s.c2 (R.flat V.cd V.n), A.vec .u8 s.a3 s.c3 (R.flat V.ci (R.len V)), A.vec .i64 s.a4 s.c4 ((R.rts V.r V.n).set m (bits .and .i64 x 7))]) (r := []) h (by kernel_rfl) (A.pm [0, 1, 2, 3, 4, 5] (by kernel_rfl) (by kernel_rfl))⟩
  · skip
    refine E.C.skip (E.To.bodyN (fn := Try.f44) [] ?_ ?_)
    · exact trivial
    · intro w h
      rw [R.prot_no hc3]
      exact ⟨(), trivial, rfl, A.done (q := [A.blk r [.slice s.a0 (256 * V.n) s.c0, .slice s.a1 (256 * R.len V) s.c1, .slice s.a2 (256 * V.n) s.c2, .slice s.a3 (256 * R.len V) s.c3, .slice s.a4 V.n s.c4, .bool V.coh], A.vec .u8 s.a0 s.c0 (R.flat V.d V.n), A.vec .u8 s.a1 s.c1 (R.flat V.i (R.len V)), A.vec .u8 s.a2 s.c2 (R.flat V.cd V.n), A.vec .u8 s.a3 s.c3 (R.flat V.ci (R.len V)), A.vec .i64 s.a4 s.c4 (R.rts V.r V.n)]) (r := []) h (by kernel_rfl) (A.pm [0, 1, 2, 3, 4, 5] (by kernel_rfl) (by kernel_rfl))⟩
theorem R_Sync {r : Nat} {s : R.Sl} {V : M.V} (a : Nat) (ha : a < 4294967296) : A.Tr Try.prog 59 #[.pointer (some ⟨r, 0, none⟩), .int .u32 ((a : Nat) : Int)] (R.its r s V) (I := Unit) (fun _ => True) (fun _ => .bool (decide (a / 256 < V.n))) (fun _ => R.its r s (V.sync (a / 256))) := by
  intro w oo aa hh
  refine E.enter (n := 44) (S := oo) Try.func59 rfl rfl (by kernel_rfl) (A.start (L := []) hh) ?_
  refine E.C.seq ?_
  refine E.C.region ?_
  refine E.G.op (.bool false) (fun w => by kernel_rfl) (by kernel_rfl) ?_
  refine E.To.code ?_
  refine E.C.seq ?_
  refine E.C.region ?_
  refine E.G.op (.pointer (some ⟨r, 0, none⟩)) (fun w => by kernel_rfl) (by kernel_rfl) ?_
  refine E.G.op (.int .u32 ((a : Nat) : Int)) (fun w => by kernel_rfl) (by kernel_rfl) ?_
  refine E.G.call (.bool (decide (a / 256 < V.n))) (fun w h => A.call_rd [] (R_In a (by (first | assumption | ((try simp only [Bool.or_eq_false_iff, Bool.or_eq_true, Bool.and_eq_true, Bool.and_eq_false_iff, Bool.not_eq_eq_eq_not, Bool.not_true, Bool.not_false, decide_eq_true_eq, decide_eq_false_iff_not, ge_iff_le, gt_iff_lt] at *); omega))) (r := r) (s := s) (V := V)) h (by kernel_rfl) (A.pm [0, 1, 2, 3, 4, 5] (by kernel_rfl) (by kernel_rfl))) (fun w _ => by kernel_rfl) (by kernel_rfl) ?_
  refine E.G.op (.bool (decide (a / 256 < V.n))) (fun w => by kernel_rfl) (by kernel_rfl) ?_
  refine E.To.code ?_
  refine E.C.seq ?_
  refine E.C.seq ?_
  refine E.C.region ?_
  refine E.G.op (.bool (decide (a / 256 < V.n))) (fun w => by kernel_rfl) (by kernel_rfl) ?_
  refine E.G.op (.bool (decide (a / 256 < V.n))) (fun w => by kernel_rfl) (by kernel_rfl) ?_
  refine E.G.cut 6 [(0, .pointer (some ⟨r, 0, none⟩)), (1, .int .u32 ((a : Nat) : Int)), (4, .bool false), (5, .bool (decide (a / 256 < V.n))), (18, .bool ((decide (a / 256 < V.n)) && (!V.coh)))] (A.X w oo aa [A.blk r [.slice s.a0 (256 * V.n) s.c0, .slice s.a1 (256 * R.len V) s.c1, .slice s.a2 (256 * V.n) s.c2, .slice s.a3 (256 * R.len V) s.c3, .slice s.a4 V.n s.c4, .bool V.coh], A.vec .u8 s.a0 s.c0 (R.flat V.d V.n), A.vec .u8 s.a1 s.c1 (R.flat V.i (R.len V)), A.vec .u8 s.a2 s.c2 (R.flat V.cd V.n), A.vec .u8 s.a3 s.c3 (R.flat V.ci (R.len V)), A.vec .i64 s.a4 s.c4 (R.rts V.r V.n)]) [] ?_ ?_
  · generalize hc1 : (decide (a / 256 < V.n)) = b2
    cases b2
    · skip
      refine E.G.skip (by kernel_rfl) (by kernel_rfl) ?_
      refine E.G.skip (by kernel_rfl) (by kernel_rfl) ?_
      refine E.G.skip (by kernel_rfl) (by kernel_rfl) ?_
      refine E.G.skip (by kernel_rfl) (by kernel_rfl) ?_
      refine E.G.skip (by kernel_rfl) (by kernel_rfl) ?_
      refine E.G.op (.bool false) (fun w => by kernel_rfl) (by kernel_rfl) ?_
      exact E.G.end_pst ⟨by kernel_rfl, by kernel_rfl⟩ (List.Sublist.refl _) (fun _ h => h)
    · skip
      refine E.G.op (.pointer (some ⟨r, 0, none⟩)) (fun w => by kernel_rfl) (by kernel_rfl) ?_
      refine E.G.op (.pointer (some ⟨r, 0, none⟩)) (fun w => by kernel_rfl) (by kernel_rfl) ?_
      refine E.G.op (.pointer (some ⟨r, 5, none⟩)) (fun w => by kernel_rfl) (by kernel_rfl) ?_
      refine E.G.val (.bool V.coh) (by kernel_rfl) (fun w h => A.Y.bld (A.X.y h.x) (k := 0) (j := 5) rfl (by kernel_rfl) (by kernel_rfl)) ?_
      refine E.G.op (.bool (!V.coh)) (fun w => by kernel_rfl) (by kernel_rfl) ?_
      refine E.G.op (.bool (!V.coh)) (fun w => by kernel_rfl) (by kernel_rfl) ?_
      exact E.G.end_pst ⟨by kernel_rfl, by kernel_rfl⟩ (List.Sublist.refl _) (fun _ h => h)
  refine E.To.code ?_
  refine E.C.cond ((decide (a / 256 < V.n)) && (!V.coh)) (by kernel_rfl) (by kernel_rfl) (fun hc3 => ?_) (fun hc3 => ?_)
  · skip
    refine E.C.seq ?_
    obtain ⟨hk, hcoh⟩ : a / 256 < V.n ∧ V.coh = false := by simpa using hc3
    have hlen := R.len_f hcoh
    have hlen2 : ∀ c, R.len (R.cpy V (a / 256) c) = V.n := fun c => hlen
    refine E.C.region ?_
    refine E.G.op (.int .u32 ((a : Nat) : Int)) (fun w => by kernel_rfl) (by kernel_rfl) ?_
    refine E.G.val (.int .i64 ((a : Nat) : Int)) (by kernel_rfl) (fun w h => E.run_as (a := .int .i64 (IntKind.wrap .i64 ((a : Nat) : Int))) (by kernel_rfl) (congrArg (Value.int .i64) (by exact Nz.w64 (x := a) (by (first | assumption | ((try simp only [Bool.or_eq_false_iff, Bool.or_eq_true, Bool.and_eq_true, Bool.and_eq_false_iff, Bool.not_eq_eq_eq_not, Bool.not_true, Bool.not_false, decide_eq_true_eq, decide_eq_false_iff_not, ge_iff_le, gt_iff_lt] at *); omega)))))) ?_
    refine E.G.val (.int .i64 ((a / 256 : Nat) : Int)) (by kernel_rfl) (fun w h => E.run_as (a := .int .i64 (IntKind.wrap .i64 (Int.tdiv ((a : Nat) : Int) 256))) (by kernel_rfl) (congrArg (Value.int .i64) (by exact Nz.quo64 (x := a) 256 (by (first | assumption | ((try simp only [Bool.or_eq_false_iff, Bool.or_eq_true, Bool.and_eq_true, Bool.and_eq_false_iff, Bool.not_eq_eq_eq_not, Bool.not_true, Bool.not_false, decide_eq_true_eq, decide_eq_false_iff_not, ge_iff_le, gt_iff_lt] at *); omega)))))) ?_
    refine E.G.val (.int .i64 ((256 * (a / 256) : Nat) : Int)) (by kernel_rfl) (fun w h => E.run_as (a := .int .i64 (IntKind.wrap .i64 (((a / 256 : Nat) : Int) * 256))) (by kernel_rfl) (congrArg (Value.int .i64) ((Nz.mul64 (x := a / 256) (y := 256) (by omega)).trans (by rw [Nat.mul_comm])))) ?_
    refine E.G.op (.int .i64 ((256 * (a / 256) : Nat) : Int)) (fun w => by kernel_rfl) (by kernel_rfl) ?_
    refine E.To.code ?_
    refine E.C.seq ?_
    refine E.C.region ?_
    refine E.G.op (.int .i64 ((256 * (a / 256) : Nat) : Int)) (fun w => by kernel_rfl) (by kernel_rfl) ?_
    refine E.G.op (.int .i64 ((256 * (a / 256) : Nat) : Int)) (fun w => by kernel_rfl) (by kernel_rfl) ?_
    refine E.To.code ?_
    refine E.C.block ?_
    refine A.C.eq ([A.blk r [.slice s.a0 (256 * (R.cpy V (a / 256) 0).n) s.c0, .slice s.a1 (256 * R.len (R.cpy V (a / 256) 0)) s.c1, .slice s.a2 (256 * (R.cpy V (a / 256) 0).n) s.c2, .slice s.a3 (256 * R.len (R.cpy V (a / 256) 0)) s.c3, .slice s.a4 ((R.cpy V (a / 256) 0).n) s.c4, .bool ((R.cpy V (a / 256) 0).coh)], A.vec .u8 s.a0 s.c0 (R.flat (R.cpy V (a / 256) 0).d (R.cpy V (a / 256) 0).n), A.vec .u8 s.a1 s.c1 (R.flat (R.cpy V (a / 256) 0).i (R.len (R.cpy V (a / 256) 0))), A.vec .u8 s.a2 s.c2 (R.flat (R.cpy V (a / 256) 0).cd (R.cpy V (a / 256) 0).n), A.vec .u8 s.a3 s.c3 (R.flat (R.cpy V (a / 256) 0).ci (R.len (R.cpy V (a / 256) 0))), A.vec .i64 s.a4 s.c4 (R.rts (R.cpy V (a / 256) 0).r (R.cpy V (a / 256) 0).n)]) (congrArg (R.its r s) (R.cpy0 V (a / 256)).symm) ?_
    refine E.C.loop (I := Nat) (fun c => 256 - c) (fun c => c ≤ 256) (fun c => [(0, .pointer (some ⟨r, 0, none⟩)), (4, .bool false), (5, .bool (decide (a / 256 < V.n))), (6, .int .i64 ((256 * (a / 256) : Nat) : Int)), (7, .int .i64 ((256 * (a / 256) + c : Nat) : Int))]) (fun c => A.X w oo aa [A.blk r [.slice s.a0 (256 * (R.cpy V (a / 256) c).n) s.c0, .slice s.a1 (256 * R.len (R.cpy V (a / 256) c)) s.c1, .slice s.a2 (256 * (R.cpy V (a / 256) c).n) s.c2, .slice s.a3 (256 * R.len (R.cpy V (a / 256) c)) s.c3, .slice s.a4 ((R.cpy V (a / 256) c).n) s.c4, .bool ((R.cpy V (a / 256) c).coh)], A.vec .u8 s.a0 s.c0 (R.flat (R.cpy V (a / 256) c).d (R.cpy V (a / 256) c).n), A.vec .u8 s.a1 s.c1 (R.flat (R.cpy V (a / 256) c).i (R.len (R.cpy V (a / 256) c))), A.vec .u8 s.a2 s.c2 (R.flat (R.cpy V (a / 256) c).cd (R.cpy V (a / 256) c).n), A.vec .u8 s.a3 s.c3 (R.flat (R.cpy V (a / 256) c).ci (R.len (R.cpy V (a / 256) c))), A.vec .i64 s.a4 s.c4 (R.rts (R.cpy V (a / 256) c).r (R.cpy V (a / 256) c).n)]) (fun c => []) 0 (Nat.zero_le _) ⟨by kernel_rfl, by kernel_rfl⟩ (List.Sublist.refl _) (fun _ h => h) (fun c hk1 => ?_)
    refine E.C.seq ?_
    refine E.C.seq ?_
    refine E.C.region ?_
    refine E.G.op (.int .i64 ((256 * (a / 256) + c : Nat) : Int)) (fun w => by kernel_rfl) (by kernel_rfl) ?_
    refine E.G.op (.int .i64 ((256 * (a / 256) : Nat) : Int)) (fun w => by kernel_rfl) (by kernel_rfl) ?_
    refine E.G.val (.int .i64 (((256 * (a / 256)) + 256 : Nat) : Int)) (by kernel_rfl) (fun w h => E.run_as (a := .int .i64 (IntKind.wrap .i64 (((256 * (a / 256) : Nat) : Int) + 256))) (by kernel_rfl) (congrArg (Value.int .i64) (by exact Nz.add64 (x := (256 * (a / 256))) (y := 256) (by (first | assumption | ((try simp only [Bool.or_eq_false_iff, Bool.or_eq_true, Bool.and_eq_true, Bool.and_eq_false_iff, Bool.not_eq_eq_eq_not, Bool.not_true, Bool.not_false, decide_eq_true_eq, decide_eq_false_iff_not, ge_iff_le, gt_iff_lt] at *); omega)))))) ?_
    refine E.G.op (.bool (decide (((256 * (a / 256) + c : Nat) : Int) < (((256 * (a / 256)) + 256 : Nat) : Int)))) (fun w => by kernel_rfl) (by kernel_rfl) ?_
    refine E.To.code ?_
    refine E.C.cond (decide (((256 * (a / 256) + c : Nat) : Int) < (((256 * (a / 256)) + 256 : Nat) : Int))) (by kernel_rfl) (by kernel_rfl) (fun hc4 => ?_) (fun hc4 => ?_)
    · skip
      refine E.C.skip (E.To.code ?_)
      refine E.C.seq ?_
      refine E.C.block ?_
      have hc2 : c < 256 := by (first | assumption | ((try simp only [Bool.or_eq_false_iff, Bool.or_eq_true, Bool.and_eq_true, Bool.and_eq_false_iff, Bool.not_eq_eq_eq_not, Bool.not_true, Bool.not_false, decide_eq_true_eq, decide_eq_false_iff_not, ge_iff_le, gt_iff_lt] at *); omega))
      have hn2 : (R.cpy V (a / 256) c).n = V.n := rfl
      have hlen3 := hlen2 c
      refine E.C.know (p := s.a1 = some ⟨A.bk s.a1, 0, none⟩) (fun w h => A.Y.ao (A.X.y h.x) (k := 2) rfl (by simp only [R.flat_len]; (first | assumption | ((try simp only [Bool.or_eq_false_iff, Bool.or_eq_true, Bool.and_eq_true, Bool.and_eq_false_iff, Bool.not_eq_eq_eq_not, Bool.not_true, Bool.not_false, decide_eq_true_eq, decide_eq_false_iff_not, ge_iff_le, gt_iff_lt] at *); omega)))) (fun hao5 => ?_)
      refine E.C.held (A.Y [A.blk r [.slice s.a0 (256 * (R.cpy V (a / 256) c).n) s.c0, .slice s.a1 (256 * R.len (R.cpy V (a / 256) c)) s.c1, .slice s.a2 (256 * (R.cpy V (a / 256) c).n) s.c2, .slice s.a3 (256 * R.len (R.cpy V (a / 256) c)) s.c3, .slice s.a4 ((R.cpy V (a / 256) c).n) s.c4, .bool ((R.cpy V (a / 256) c).coh)], A.vec .u8 s.a0 s.c0 (R.flat (R.cpy V (a / 256) c).d (R.cpy V (a / 256) c).n), A.vec .u8 s.a2 s.c2 (R.flat (R.cpy V (a / 256) c).cd (R.cpy V (a / 256) c).n), A.vec .u8 s.a3 s.c3 (R.flat (R.cpy V (a / 256) c).ci (R.len (R.cpy V (a / 256) c))), A.vec .i64 s.a4 s.c4 (R.rts (R.cpy V (a / 256) c).r (R.cpy V (a / 256) c).n)]) (by kernel_rfl) ?_
      refine E.H.take 0 (.pointer (some ⟨r, 0, none⟩)) rfl (by kernel_rfl) (by kernel_rfl) (by kernel_rfl) (fun _ _ _ h => h) (fun w h => A.Y.part (p := [A.blk r [.slice s.a0 (256 * (R.cpy V (a / 256) c).n) s.c0, .slice s.a1 (256 * R.len (R.cpy V (a / 256) c)) s.c1, .slice s.a2 (256 * (R.cpy V (a / 256) c).n) s.c2, .slice s.a3 (256 * R.len (R.cpy V (a / 256) c)) s.c3, .slice s.a4 ((R.cpy V (a / 256) c).n) s.c4, .bool ((R.cpy V (a / 256) c).coh)], A.vec .u8 s.a0 s.c0 (R.flat (R.cpy V (a / 256) c).d (R.cpy V (a / 256) c).n), A.vec .u8 s.a2 s.c2 (R.flat (R.cpy V (a / 256) c).cd (R.cpy V (a / 256) c).n), A.vec .u8 s.a3 s.c3 (R.flat (R.cpy V (a / 256) c).ci (R.len (R.cpy V (a / 256) c))), A.vec .i64 s.a4 s.c4 (R.rts (R.cpy V (a / 256) c).r (R.cpy V (a / 256) c).n)]) (r := [A.vec .u8 s.a1 s.c1 (R.flat (R.cpy V (a / 256) c).i (R.len (R.cpy V (a / 256) c)))]) (A.X.y h.x) (A.pm [0, 1, 3, 4, 5, 2] (by kernel_rfl) (by kernel_rfl))) (.inl ⟨by kernel_rfl, by kernel_rfl, fun w h => by kernel_rfl⟩) (by kernel_rfl) ?_
      refine E.H.take 1 (.pointer (some ⟨r, 0, none⟩)) rfl (by kernel_rfl) (by kernel_rfl) (by kernel_rfl) (fun _ _ _ h => h) (fun w h => A.Y.part (p := [A.blk r [.slice s.a0 (256 * (R.cpy V (a / 256) c).n) s.c0, .slice s.a1 (256 * R.len (R.cpy V (a / 256) c)) s.c1, .slice s.a2 (256 * (R.cpy V (a / 256) c).n) s.c2, .slice s.a3 (256 * R.len (R.cpy V (a / 256) c)) s.c3, .slice s.a4 ((R.cpy V (a / 256) c).n) s.c4, .bool ((R.cpy V (a / 256) c).coh)], A.vec .u8 s.a0 s.c0 (R.flat (R.cpy V (a / 256) c).d (R.cpy V (a / 256) c).n), A.vec .u8 s.a2 s.c2 (R.flat (R.cpy V (a / 256) c).cd (R.cpy V (a / 256) c).n), A.vec .u8 s.a3 s.c3 (R.flat (R.cpy V (a / 256) c).ci (R.len (R.cpy V (a / 256) c))), A.vec .i64 s.a4 s.c4 (R.rts (R.cpy V (a / 256) c).r (R.cpy V (a / 256) c).n)]) (r := [A.vec .u8 s.a1 s.c1 (R.flat (R.cpy V (a / 256) c).i (R.len (R.cpy V (a / 256) c)))]) (A.X.y h.x) (A.pm [0, 1, 3, 4, 5, 2] (by kernel_rfl) (by kernel_rfl))) (.inl ⟨by kernel_rfl, by kernel_rfl, fun w h => by kernel_rfl⟩) (by kernel_rfl) ?_
      refine E.H.take 2 (.pointer (some ⟨r, 1, none⟩)) rfl (by kernel_rfl) (by kernel_rfl) (by kernel_rfl) (fun _ _ _ h => h) (fun w h => A.Y.part (p := [A.blk r [.slice s.a0 (256 * (R.cpy V (a / 256) c).n) s.c0, .slice s.a1 (256 * R.len (R.cpy V (a / 256) c)) s.c1, .slice s.a2 (256 * (R.cpy V (a / 256) c).n) s.c2, .slice s.a3 (256 * R.len (R.cpy V (a / 256) c)) s.c3, .slice s.a4 ((R.cpy V (a / 256) c).n) s.c4, .bool ((R.cpy V (a / 256) c).coh)], A.vec .u8 s.a0 s.c0 (R.flat (R.cpy V (a / 256) c).d (R.cpy V (a / 256) c).n), A.vec .u8 s.a2 s.c2 (R.flat (R.cpy V (a / 256) c).cd (R.cpy V (a / 256) c).n), A.vec .u8 s.a3 s.c3 (R.flat (R.cpy V (a / 256) c).ci (R.len (R.cpy V (a / 256) c))), A.vec .i64 s.a4 s.c4 (R.rts (R.cpy V (a / 256) c).r (R.cpy V (a / 256) c).n)]) (r := [A.vec .u8 s.a1 s.c1 (R.flat (R.cpy V (a / 256) c).i (R.len (R.cpy V (a / 256) c)))]) (A.X.y h.x) (A.pm [0, 1, 3, 4, 5, 2] (by kernel_rfl) (by kernel_rfl))) (.inl ⟨by kernel_rfl, by kernel_rfl, fun w h => by kernel_rfl⟩) (by kernel_rfl) ?_
      refine E.H.take 3 (.slice s.a1 (256 * R.len (R.cpy V (a / 256) c)) s.c1) rfl (by kernel_rfl) (by kernel_rfl) (by kernel_rfl) (fun _ _ _ h => h) (fun w h => A.Y.part (p := [A.blk r [.slice s.a0 (256 * (R.cpy V (a / 256) c).n) s.c0, .slice s.a1 (256 * R.len (R.cpy V (a / 256) c)) s.c1, .slice s.a2 (256 * (R.cpy V (a / 256) c).n) s.c2, .slice s.a3 (256 * R.len (R.cpy V (a / 256) c)) s.c3, .slice s.a4 ((R.cpy V (a / 256) c).n) s.c4, .bool ((R.cpy V (a / 256) c).coh)], A.vec .u8 s.a0 s.c0 (R.flat (R.cpy V (a / 256) c).d (R.cpy V (a / 256) c).n), A.vec .u8 s.a2 s.c2 (R.flat (R.cpy V (a / 256) c).cd (R.cpy V (a / 256) c).n), A.vec .u8 s.a3 s.c3 (R.flat (R.cpy V (a / 256) c).ci (R.len (R.cpy V (a / 256) c))), A.vec .i64 s.a4 s.c4 (R.rts (R.cpy V (a / 256) c).r (R.cpy V (a / 256) c).n)]) (r := [A.vec .u8 s.a1 s.c1 (R.flat (R.cpy V (a / 256) c).i (R.len (R.cpy V (a / 256) c)))]) (A.X.y h.x) (A.pm [0, 1, 3, 4, 5, 2] (by kernel_rfl) (by kernel_rfl))) (.inl ⟨by kernel_rfl, by kernel_rfl, fun w h => A.Y.bld h (k := 0) (j := 1) rfl (by kernel_rfl) (by kernel_rfl)⟩) (by kernel_rfl) ?_
      refine E.H.take 4 (.int .i64 ((256 * (a / 256) + c : Nat) : Int)) rfl (by kernel_rfl) (by kernel_rfl) (by kernel_rfl) (fun _ _ _ h => h) (fun w h => A.Y.part (p := [A.blk r [.slice s.a0 (256 * (R.cpy V (a / 256) c).n) s.c0, .slice s.a1 (256 * R.len (R.cpy V (a / 256) c)) s.c1, .slice s.a2 (256 * (R.cpy V (a / 256) c).n) s.c2, .slice s.a3 (256 * R.len (R.cpy V (a / 256) c)) s.c3, .slice s.a4 ((R.cpy V (a / 256) c).n) s.c4, .bool ((R.cpy V (a / 256) c).coh)], A.vec .u8 s.a0 s.c0 (R.flat (R.cpy V (a / 256) c).d (R.cpy V (a / 256) c).n), A.vec .u8 s.a2 s.c2 (R.flat (R.cpy V (a / 256) c).cd (R.cpy V (a / 256) c).n), A.vec .u8 s.a3 s.c3 (R.flat (R.cpy V (a / 256) c).ci (R.len (R.cpy V (a / 256) c))), A.vec .i64 s.a4 s.c4 (R.rts (R.cpy V (a / 256) c).r (R.cpy V (a / 256) c).n)]) (r := [A.vec .u8 s.a1 s.c1 (R.flat (R.cpy V (a / 256) c).i (R.len (R.cpy V (a / 256) c)))]) (A.X.y h.x) (A.pm [0, 1, 3, 4, 5, 2] (by kernel_rfl) (by kernel_rfl))) (.inl ⟨by kernel_rfl, by kernel_rfl, fun w h => by kernel_rfl⟩) (by kernel_rfl) ?_
      refine E.H.take 5 (.pointer (some ⟨r, 0, none⟩)) rfl (by kernel_rfl) (by kernel_rfl) (by kernel_rfl) (fun _ _ _ h => h) (fun w h => A.Y.part (p := [A.blk r [.slice s.a0 (256 * (R.cpy V (a / 256) c).n) s.c0, .slice s.a1 (256 * R.len (R.cpy V (a / 256) c)) s.c1, .slice s.a2 (256 * (R.cpy V (a / 256) c).n) s.c2, .slice s.a3 (256 * R.len (R.cpy V (a / 256) c)) s.c3, .slice s.a4 ((R.cpy V (a / 256) c).n) s.c4, .bool ((R.cpy V (a / 256) c).coh)], A.vec .u8 s.a0 s.c0 (R.flat (R.cpy V (a / 256) c).d (R.cpy V (a / 256) c).n), A.vec .u8 s.a2 s.c2 (R.flat (R.cpy V (a / 256) c).cd (R.cpy V (a / 256) c).n), A.vec .u8 s.a3 s.c3 (R.flat (R.cpy V (a / 256) c).ci (R.len (R.cpy V (a / 256) c))), A.vec .i64 s.a4 s.c4 (R.rts (R.cpy V (a / 256) c).r (R.cpy V (a / 256) c).n)]) (r := [A.vec .u8 s.a1 s.c1 (R.flat (R.cpy V (a / 256) c).i (R.len (R.cpy V (a / 256) c)))]) (A.X.y h.x) (A.pm [0, 1, 3, 4, 5, 2] (by kernel_rfl) (by kernel_rfl))) (.inl ⟨by kernel_rfl, by kernel_rfl, fun w h => by kernel_rfl⟩) (by kernel_rfl) ?_
      refine E.H.take 6 (.pointer (some ⟨r, 0, none⟩)) rfl (by kernel_rfl) (by kernel_rfl) (by kernel_rfl) (fun _ _ _ h => h) (fun w h => A.Y.part (p := [A.blk r [.slice s.a0 (256 * (R.cpy V (a / 256) c).n) s.c0, .slice s.a1 (256 * R.len (R.cpy V (a / 256) c)) s.c1, .slice s.a2 (256 * (R.cpy V (a / 256) c).n) s.c2, .slice s.a3 (256 * R.len (R.cpy V (a / 256) c)) s.c3, .slice s.a4 ((R.cpy V (a / 256) c).n) s.c4, .bool ((R.cpy V (a / 256) c).coh)], A.vec .u8 s.a0 s.c0 (R.flat (R.cpy V (a / 256) c).d (R.cpy V (a / 256) c).n), A.vec .u8 s.a2 s.c2 (R.flat (R.cpy V (a / 256) c).cd (R.cpy V (a / 256) c).n), A.vec .u8 s.a3 s.c3 (R.flat (R.cpy V (a / 256) c).ci (R.len (R.cpy V (a / 256) c))), A.vec .i64 s.a4 s.c4 (R.rts (R.cpy V (a / 256) c).r (R.cpy V (a / 256) c).n)]) (r := [A.vec .u8 s.a1 s.c1 (R.flat (R.cpy V (a / 256) c).i (R.len (R.cpy V (a / 256) c)))]) (A.X.y h.x) (A.pm [0, 1, 3, 4, 5, 2] (by kernel_rfl) (by kernel_rfl))) (.inl ⟨by kernel_rfl, by kernel_rfl, fun w h => by kernel_rfl⟩) (by kernel_rfl) ?_
      refine E.H.take 7 (.pointer (some ⟨r, 0, none⟩)) rfl (by kernel_rfl) (by kernel_rfl) (by kernel_rfl) (fun _ _ _ h => h) (fun w h => A.Y.part (p := [A.blk r [.slice s.a0 (256 * (R.cpy V (a / 256) c).n) s.c0, .slice s.a1 (256 * R.len (R.cpy V (a / 256) c)) s.c1, .slice s.a2 (256 * (R.cpy V (a / 256) c).n) s.c2, .slice s.a3 (256 * R.len (R.cpy V (a / 256) c)) s.c3, .slice s.a4 ((R.cpy V (a / 256) c).n) s.c4, .bool ((R.cpy V (a / 256) c).coh)], A.vec .u8 s.a0 s.c0 (R.flat (R.cpy V (a / 256) c).d (R.cpy V (a / 256) c).n), A.vec .u8 s.a2 s.c2 (R.flat (R.cpy V (a / 256) c).cd (R.cpy V (a / 256) c).n), A.vec .u8 s.a3 s.c3 (R.flat (R.cpy V (a / 256) c).ci (R.len (R.cpy V (a / 256) c))), A.vec .i64 s.a4 s.c4 (R.rts (R.cpy V (a / 256) c).r (R.cpy V (a / 256) c).n)]) (r := [A.vec .u8 s.a1 s.c1 (R.flat (R.cpy V (a / 256) c).i (R.len (R.cpy V (a / 256) c)))]) (A.X.y h.x) (A.pm [0, 1, 3, 4, 5, 2] (by kernel_rfl) (by kernel_rfl))) (.inl ⟨by kernel_rfl, by kernel_rfl, fun w h => by kernel_rfl⟩) (by kernel_rfl) ?_
      refine E.H.take 8 (.slice s.a0 (256 * (R.cpy V (a / 256) c).n) s.c0) rfl (by kernel_rfl) (by kernel_rfl) (by kernel_rfl) (fun _ _ _ h => h) (fun w h => A.Y.part (p := [A.blk r [.slice s.a0 (256 * (R.cpy V (a / 256) c).n) s.c0, .slice s.a1 (256 * R.len (R.cpy V (a / 256) c)) s.c1, .slice s.a2 (256 * (R.cpy V (a / 256) c).n) s.c2, .slice s.a3 (256 * R.len (R.cpy V (a / 256) c)) s.c3, .slice s.a4 ((R.cpy V (a / 256) c).n) s.c4, .bool ((R.cpy V (a / 256) c).coh)], A.vec .u8 s.a0 s.c0 (R.flat (R.cpy V (a / 256) c).d (R.cpy V (a / 256) c).n), A.vec .u8 s.a2 s.c2 (R.flat (R.cpy V (a / 256) c).cd (R.cpy V (a / 256) c).n), A.vec .u8 s.a3 s.c3 (R.flat (R.cpy V (a / 256) c).ci (R.len (R.cpy V (a / 256) c))), A.vec .i64 s.a4 s.c4 (R.rts (R.cpy V (a / 256) c).r (R.cpy V (a / 256) c).n)]) (r := [A.vec .u8 s.a1 s.c1 (R.flat (R.cpy V (a / 256) c).i (R.len (R.cpy V (a / 256) c)))]) (A.X.y h.x) (A.pm [0, 1, 3, 4, 5, 2] (by kernel_rfl) (by kernel_rfl))) (.inl ⟨by kernel_rfl, by kernel_rfl, fun w h => A.Y.bld h (k := 0) (j := 0) rfl (by kernel_rfl) (by kernel_rfl)⟩) (by kernel_rfl) ?_
      refine E.H.take 9 (.int .i64 ((256 * (a / 256) + c : Nat) : Int)) rfl (by kernel_rfl) (by kernel_rfl) (by kernel_rfl) (fun _ _ _ h => h) (fun w h => A.Y.part (p := [A.blk r [.slice s.a0 (256 * (R.cpy V (a / 256) c).n) s.c0, .slice s.a1 (256 * R.len (R.cpy V (a / 256) c)) s.c1, .slice s.a2 (256 * (R.cpy V (a / 256) c).n) s.c2, .slice s.a3 (256 * R.len (R.cpy V (a / 256) c)) s.c3, .slice s.a4 ((R.cpy V (a / 256) c).n) s.c4, .bool ((R.cpy V (a / 256) c).coh)], A.vec .u8 s.a0 s.c0 (R.flat (R.cpy V (a / 256) c).d (R.cpy V (a / 256) c).n), A.vec .u8 s.a2 s.c2 (R.flat (R.cpy V (a / 256) c).cd (R.cpy V (a / 256) c).n), A.vec .u8 s.a3 s.c3 (R.flat (R.cpy V (a / 256) c).ci (R.len (R.cpy V (a / 256) c))), A.vec .i64 s.a4 s.c4 (R.rts (R.cpy V (a / 256) c).r (R.cpy V (a / 256) c).n)]) (r := [A.vec .u8 s.a1 s.c1 (R.flat (R.cpy V (a / 256) c).i (R.len (R.cpy V (a / 256) c)))]) (A.X.y h.x) (A.pm [0, 1, 3, 4, 5, 2] (by kernel_rfl) (by kernel_rfl))) (.inl ⟨by kernel_rfl, by kernel_rfl, fun w h => by kernel_rfl⟩) (by kernel_rfl) ?_
      refine E.H.take 10 (.pointer (some ⟨(A.bk s.a0), (256 * (a / 256) + c), none⟩)) rfl (by kernel_rfl) (by kernel_rfl) (by kernel_rfl) (fun _ _ _ h => h) (fun w h => A.Y.part (p := [A.blk r [.slice s.a0 (256 * (R.cpy V (a / 256) c).n) s.c0, .slice s.a1 (256 * R.len (R.cpy V (a / 256) c)) s.c1, .slice s.a2 (256 * (R.cpy V (a / 256) c).n) s.c2, .slice s.a3 (256 * R.len (R.cpy V (a / 256) c)) s.c3, .slice s.a4 ((R.cpy V (a / 256) c).n) s.c4, .bool ((R.cpy V (a / 256) c).coh)], A.vec .u8 s.a0 s.c0 (R.flat (R.cpy V (a / 256) c).d (R.cpy V (a / 256) c).n), A.vec .u8 s.a2 s.c2 (R.flat (R.cpy V (a / 256) c).cd (R.cpy V (a / 256) c).n), A.vec .u8 s.a3 s.c3 (R.flat (R.cpy V (a / 256) c).ci (R.len (R.cpy V (a / 256) c))), A.vec .i64 s.a4 s.c4 (R.rts (R.cpy V (a / 256) c).r (R.cpy V (a / 256) c).n)]) (r := [A.vec .u8 s.a1 s.c1 (R.flat (R.cpy V (a / 256) c).i (R.len (R.cpy V (a / 256) c)))]) (A.X.y h.x) (A.pm [0, 1, 3, 4, 5, 2] (by kernel_rfl) (by kernel_rfl))) (.inl ⟨by kernel_rfl, by kernel_rfl, fun w h => A.Y.idx (e := 5) (ik := .i64) (i := (256 * (a / 256) + c)) (len := (256 * (R.cpy V (a / 256) c).n)) (c2 := s.c0) h (k := 1) rfl (by kernel_rfl) (by kernel_rfl) (by kernel_rfl) (by kernel_rfl) (by (first | assumption | ((try simp only [Bool.or_eq_false_iff, Bool.or_eq_true, Bool.and_eq_true, Bool.and_eq_false_iff, Bool.not_eq_eq_eq_not, Bool.not_true, Bool.not_false, decide_eq_true_eq, decide_eq_false_iff_not, ge_iff_le, gt_iff_lt] at *); omega))) (by simp only [R.flat_len]; (first | assumption | ((try simp only [Bool.or_eq_false_iff, Bool.or_eq_true, Bool.and_eq_true, Bool.and_eq_false_iff, Bool.not_eq_eq_eq_not, Bool.not_true, Bool.not_false, decide_eq_true_eq, decide_eq_false_iff_not, ge_iff_le, gt_iff_lt] at *); omega)))⟩) (by kernel_rfl) ?_
      refine E.H.take 11 (.int .u8 ((R.cpy V (a / 256) c).d ((256 * (a / 256) + c) / 256) ((256 * (a / 256) + c) % 256))) rfl (by kernel_rfl) (by kernel_rfl) (by kernel_rfl) (fun _ _ _ h => h) (fun w h => A.Y.part (p := [A.blk r [.slice s.a0 (256 * (R.cpy V (a / 256) c).n) s.c0, .slice s.a1 (256 * R.len (R.cpy V (a / 256) c)) s.c1, .slice s.a2 (256 * (R.cpy V (a / 256) c).n) s.c2, .slice s.a3 (256 * R.len (R.cpy V (a / 256) c)) s.c3, .slice s.a4 ((R.cpy V (a / 256) c).n) s.c4, .bool ((R.cpy V (a / 256) c).coh)], A.vec .u8 s.a0 s.c0 (R.flat (R.cpy V (a / 256) c).d (R.cpy V (a / 256) c).n), A.vec .u8 s.a2 s.c2 (R.flat (R.cpy V (a / 256) c).cd (R.cpy V (a / 256) c).n), A.vec .u8 s.a3 s.c3 (R.flat (R.cpy V (a / 256) c).ci (R.len (R.cpy V (a / 256) c))), A.vec .i64 s.a4 s.c4 (R.rts (R.cpy V (a / 256) c).r (R.cpy V (a / 256) c).n)]) (r := [A.vec .u8 s.a1 s.c1 (R.flat (R.cpy V (a / 256) c).i (R.len (R.cpy V (a / 256) c)))]) (A.X.y h.x) (A.pm [0, 1, 3, 4, 5, 2] (by kernel_rfl) (by kernel_rfl))) (.inl ⟨by kernel_rfl, by kernel_rfl, fun w h => E.run_as (a := .int .u8 ((R.flat (R.cpy V (a / 256) c).d (R.cpy V (a / 256) c).n).getD (256 * (a / 256) + c) 0)) (A.Y.vld h (k := 1) (i := (256 * (a / 256) + c)) rfl (by kernel_rfl) (by kernel_rfl) (by simp only [R.flat_len]; (first | assumption | ((try simp only [Bool.or_eq_false_iff, Bool.or_eq_true, Bool.and_eq_true, Bool.and_eq_false_iff, Bool.not_eq_eq_eq_not, Bool.not_true, Bool.not_false, decide_eq_true_eq, decide_eq_false_iff_not, ge_iff_le, gt_iff_lt] at *); omega)))) (congrArg (Value.int .u8) (R.flat_get (by (first | assumption | ((try simp only [Bool.or_eq_false_iff, Bool.or_eq_true, Bool.and_eq_true, Bool.and_eq_false_iff, Bool.not_eq_eq_eq_not, Bool.not_true, Bool.not_false, decide_eq_true_eq, decide_eq_false_iff_not, ge_iff_le, gt_iff_lt] at *); omega)))))⟩) (by kernel_rfl) ?_
      refine E.H.take 12 (.pointer (some ⟨(A.bk s.a1), (256 * (a / 256) + c), none⟩)) rfl (by kernel_rfl) (by kernel_rfl) (by kernel_rfl) (fun _ _ _ h => h) (fun w h => A.Y.part (p := [A.blk r [.slice s.a0 (256 * (R.cpy V (a / 256) c).n) s.c0, .slice s.a1 (256 * R.len (R.cpy V (a / 256) c)) s.c1, .slice s.a2 (256 * (R.cpy V (a / 256) c).n) s.c2, .slice s.a3 (256 * R.len (R.cpy V (a / 256) c)) s.c3, .slice s.a4 ((R.cpy V (a / 256) c).n) s.c4, .bool ((R.cpy V (a / 256) c).coh)], A.vec .u8 s.a0 s.c0 (R.flat (R.cpy V (a / 256) c).d (R.cpy V (a / 256) c).n), A.vec .u8 s.a2 s.c2 (R.flat (R.cpy V (a / 256) c).cd (R.cpy V (a / 256) c).n), A.vec .u8 s.a3 s.c3 (R.flat (R.cpy V (a / 256) c).ci (R.len (R.cpy V (a / 256) c))), A.vec .i64 s.a4 s.c4 (R.rts (R.cpy V (a / 256) c).r (R.cpy V (a / 256) c).n)]) (r := [A.vec .u8 s.a1 s.c1 (R.flat (R.cpy V (a / 256) c).i (R.len (R.cpy V (a / 256) c)))]) (A.X.y h.x) (A.pm [0, 1, 3, 4, 5, 2] (by kernel_rfl) (by kernel_rfl))) (.inl ⟨by kernel_rfl, by kernel_rfl, fun w h => A.idxP (e := 5) (ik := .i64) (i := (256 * (a / 256) + c)) (len := (256 * R.len (R.cpy V (a / 256) c))) (c2 := s.c1) hao5 (by kernel_rfl) (by kernel_rfl) (by kernel_rfl) (by kernel_rfl) (by (first | assumption | ((try simp only [Bool.or_eq_false_iff, Bool.or_eq_true, Bool.and_eq_true, Bool.and_eq_false_iff, Bool.not_eq_eq_eq_not, Bool.not_true, Bool.not_false, decide_eq_true_eq, decide_eq_false_iff_not, ge_iff_le, gt_iff_lt] at *); omega))) w⟩) (by kernel_rfl) ?_
      refine E.H.all [13] (by kernel_rfl) (by simp) (List.forall_mem_cons.2 ⟨⟨_, rfl, ?_⟩, fun _ h => (List.not_mem_nil h).elim⟩)
      · skip
        refine A.G.vst (kd := .u8) (ao := s.a1) (cap := s.c1) (i := (256 * (a / 256) + c)) (xs := (R.flat (R.cpy V (a / 256) c).i (R.len (R.cpy V (a / 256) c)))) (v := ((R.cpy V (a / 256) c).d ((256 * (a / 256) + c) / 256) ((256 * (a / 256) + c) % 256))) 2 rfl (by kernel_rfl) (by kernel_rfl) (by kernel_rfl) (by simp only [R.flat_len]; (first | assumption | ((try simp only [Bool.or_eq_false_iff, Bool.or_eq_true, Bool.and_eq_true, Bool.and_eq_false_iff, Bool.not_eq_eq_eq_not, Bool.not_true, Bool.not_false, decide_eq_true_eq, decide_eq_false_iff_not, ge_iff_le, gt_iff_lt] at *); omega))) (by kernel_rfl) (by kernel_rfl) ?_
        refine E.H.back (fun w h => A.Y.part (p := [A.blk r [.slice s.a0 (256 * (R.cpy V (a / 256) c).n) s.c0, .slice s.a1 (256 * R.len (R.cpy V (a / 256) c)) s.c1, .slice s.a2 (256 * (R.cpy V (a / 256) c).n) s.c2, .slice s.a3 (256 * R.len (R.cpy V (a / 256) c)) s.c3, .slice s.a4 ((R.cpy V (a / 256) c).n) s.c4, .bool ((R.cpy V (a / 256) c).coh)], A.vec .u8 s.a0 s.c0 (R.flat (R.cpy V (a / 256) c).d (R.cpy V (a / 256) c).n), A.vec .u8 s.a2 s.c2 (R.flat (R.cpy V (a / 256) c).cd (R.cpy V (a / 256) c).n), A.vec .u8 s.a3 s.c3 (R.flat (R.cpy V (a / 256) c).ci (R.len (R.cpy V (a / 256) c))), A.vec .i64 s.a4 s.c4 (R.rts (R.cpy V (a / 256) c).r (R.cpy V (a / 256) c).n)]) (r := [A.vec .u8 s.a1 s.c1 ((R.flat (R.cpy V (a / 256) c).i (R.len (R.cpy V (a / 256) c))).set (256 * (a / 256) + c) ((R.cpy V (a / 256) c).d ((256 * (a / 256) + c) / 256) ((256 * (a / 256) + c) % 256)))]) (A.X.y h.x) (A.pm [0, 1, 3, 4, 5, 2] (by kernel_rfl) (by kernel_rfl))) ?_
        refine E.H.done (by kernel_rfl) ?_
        refine E.P.nb (E.To.code ?_)
        refine A.C.eq ([A.blk r [.slice s.a0 (256 * (R.cpy V (a / 256) (c + 1)).n) s.c0, .slice s.a1 (256 * R.len (R.cpy V (a / 256) (c + 1))) s.c1, .slice s.a2 (256 * (R.cpy V (a / 256) (c + 1)).n) s.c2, .slice s.a3 (256 * R.len (R.cpy V (a / 256) (c + 1))) s.c3, .slice s.a4 ((R.cpy V (a / 256) (c + 1)).n) s.c4, .bool ((R.cpy V (a / 256) (c + 1)).coh)], A.vec .u8 s.a0 s.c0 (R.flat (R.cpy V (a / 256) (c + 1)).d (R.cpy V (a / 256) (c + 1)).n), A.vec .u8 s.a1 s.c1 (R.flat (R.cpy V (a / 256) (c + 1)).i (R.len (R.cpy V (a / 256) (c + 1)))), A.vec .u8 s.a2 s.c2 (R.flat (R.cpy V (a / 256) (c + 1)).cd (R.cpy V (a / 256) (c + 1)).n), A.vec .u8 s.a3 s.c3 (R.flat (R.cpy V (a / 256) (c + 1)).ci (R.len (R.cpy V (a / 256) (c + 1)))), A.vec .i64 s.a4 s.c4 (R.rts (R.cpy V (a / 256) (c + 1)).r (R.cpy V (a / 256) (c + 1)).n)]) (R.cpy_next hcoh hk hc2 (by show V.d ((256 * (a / 256) + c) / 256) ((256 * (a / 256) + c) % 256) = _; rw [show (256 * (a / 256) + c) / 256 = a / 256 by omega, show (256 * (a / 256) + c) % 256 = c by omega])) ?_
        refine E.C.region ?_
        refine E.G.op (.int .i64 ((256 * (a / 256) + c : Nat) : Int)) (fun w => by kernel_rfl) (by kernel_rfl) ?_
        refine E.G.val (.int .i64 ((256 * (a / 256) + (c + 1) : Nat) : Int)) (by kernel_rfl) (fun w h => E.run_as (a := .int .i64 (IntKind.wrap .i64 (((256 * (a / 256) + c : Nat) : Int) + 1))) (by kernel_rfl) (congrArg (Value.int .i64) (by exact Nz.add64 (x := 256 * (a / 256) + c) (y := 1) (by omega)))) ?_
        refine E.G.op (.int .i64 ((256 * (a / 256) + (c + 1) : Nat) : Int)) (fun w => by kernel_rfl) (by kernel_rfl) ?_
        exact E.To.round (c + 1) (by (first | assumption | ((try simp only [Bool.or_eq_false_iff, Bool.or_eq_true, Bool.and_eq_true, Bool.and_eq_false_iff, Bool.not_eq_eq_eq_not, Bool.not_true, Bool.not_false, decide_eq_true_eq, decide_eq_false_iff_not, ge_iff_le, gt_iff_lt] at *); omega))) (by (first | assumption | ((try simp only [Bool.or_eq_false_iff, Bool.or_eq_true, Bool.and_eq_true, Bool.and_eq_false_iff, Bool.not_eq_eq_eq_not, Bool.not_true, Bool.not_false, decide_eq_true_eq, decide_eq_false_iff_not, ge_iff_le, gt_iff_lt] at *); omega))) ⟨by kernel_rfl, by kernel_rfl⟩ (List.Sublist.refl _) (fun _ h => h)
    · skip
      refine E.C.exit (E.P.et (E.P.et (E.P.eh (E.To.code ?_))))
      refine E.C.seq ?_
      refine E.C.region ?_
      refine E.G.op (.bool (decide (a / 256 < V.n))) (fun w => by kernel_rfl) (by kernel_rfl) ?_
      refine E.G.op (.bool (decide (a / 256 < V.n))) (fun w => by kernel_rfl) (by kernel_rfl) ?_
      refine E.To.code ?_
      refine E.C.weak [(4, .bool (decide (a / 256 < V.n)))] [] ⟨by kernel_rfl, by kernel_rfl⟩ (List.Sublist.refl _) ?_
      refine E.C.ret (E.To.body (fn := Try.f59) [.bool (decide (a / 256 < V.n))] ?_ ?_)
      · exact ⟨⟨by kernel_rfl, by kernel_rfl⟩, trivial⟩
      · intro w h
        have q := of_decide_eq_false hc4
        obtain rfl : 256 = c := by omega
        have h3 := A.done (q := [A.blk r [.slice s.a0 (256 * (R.cpy V (a / 256) 256).n) s.c0, .slice s.a1 (256 * R.len (R.cpy V (a / 256) 256)) s.c1, .slice s.a2 (256 * (R.cpy V (a / 256) 256).n) s.c2, .slice s.a3 (256 * R.len (R.cpy V (a / 256) 256)) s.c3, .slice s.a4 ((R.cpy V (a / 256) 256).n) s.c4, .bool ((R.cpy V (a / 256) 256).coh)], A.vec .u8 s.a0 s.c0 (R.flat (R.cpy V (a / 256) 256).d (R.cpy V (a / 256) 256).n), A.vec .u8 s.a1 s.c1 (R.flat (R.cpy V (a / 256) 256).i (R.len (R.cpy V (a / 256) 256))), A.vec .u8 s.a2 s.c2 (R.flat (R.cpy V (a / 256) 256).cd (R.cpy V (a / 256) 256).n), A.vec .u8 s.a3 s.c3 (R.flat (R.cpy V (a / 256) 256).ci (R.len (R.cpy V (a / 256) 256))), A.vec .i64 s.a4 s.c4 (R.rts (R.cpy V (a / 256) 256).r (R.cpy V (a / 256) 256).n)]) (r := []) h (by kernel_rfl) (A.pm [0, 1, 2, 3, 4, 5] (by kernel_rfl) (by kernel_rfl))
        exact ⟨(), trivial, rfl, by rw [← R.cpy_end hk hcoh]; exact h3⟩
  · skip
    refine E.C.skip (E.To.code ?_)
    refine E.C.seq ?_
    refine E.C.region ?_
    refine E.G.op (.bool (decide (a / 256 < V.n))) (fun w => by kernel_rfl) (by kernel_rfl) ?_
    refine E.G.op (.bool (decide (a / 256 < V.n))) (fun w => by kernel_rfl) (by kernel_rfl) ?_
    refine E.To.code ?_
    refine E.C.ret (E.To.body (fn := Try.f59) [.bool (decide (a / 256 < V.n))] ?_ ?_)
    · exact ⟨⟨by kernel_rfl, by kernel_rfl⟩, trivial⟩
    · intro w h
      rw [R.sync_no hc3]
      exact ⟨(), trivial, rfl, A.done (q := [A.blk r [.slice s.a0 (256 * V.n) s.c0, .slice s.a1 (256 * R.len V) s.c1, .slice s.a2 (256 * V.n) s.c2, .slice s.a3 (256 * R.len V) s.c3, .slice s.a4 V.n s.c4, .bool V.coh], A.vec .u8 s.a0 s.c0 (R.flat V.d V.n), A.vec .u8 s.a1 s.c1 (R.flat V.i (R.len V)), A.vec .u8 s.a2 s.c2 (R.flat V.cd V.n), A.vec .u8 s.a3 s.c3 (R.flat V.ci (R.len V)), A.vec .i64 s.a4 s.c4 (R.rts V.r V.n)]) (r := []) h (by kernel_rfl) (A.pm [0, 1, 2, 3, 4, 5] (by kernel_rfl) (by kernel_rfl))⟩
theorem R_SetCode {r : Nat} {s : R.Sl} {V : M.V} (hw : R.Wf V) (n : Int) (b : ByteArray) : A.Tr Try.prog 61 #[.pointer (some ⟨r, 0, none⟩), .int .i64 n, .string b] (R.its r s V) (I := Unit) (fun _ => True) (fun _ => .tuple #[]) (fun _ => R.its r s (V.setc n b)) := by
  intro w oo aa hh
  refine E.enter (n := 46) (S := oo) Try.func61 rfl rfl (by kernel_rfl) (A.start (L := []) hh) ?_
  refine E.C.seq ?_
  refine E.C.seq ?_
  refine E.C.region ?_
  refine E.G.op (.int .i64 n) (fun w => by kernel_rfl) (by kernel_rfl) ?_
  refine E.G.op (.bool (decide (n < 0))) (fun w => by kernel_rfl) (by kernel_rfl) ?_
  refine E.G.op (.bool (decide (n < 0))) (fun w => by kernel_rfl) (by kernel_rfl) ?_
  refine E.G.cut 8 [(0, .pointer (some ⟨r, 0, none⟩)), (1, .int .i64 n), (2, .string b), (17, .bool ((decide (n < 0)) || (decide (n ≥ ((V.n : Nat) : Int)))))] (A.X w oo aa [A.blk r [.slice s.a0 (256 * V.n) s.c0, .slice s.a1 (256 * R.len V) s.c1, .slice s.a2 (256 * V.n) s.c2, .slice s.a3 (256 * R.len V) s.c3, .slice s.a4 V.n s.c4, .bool V.coh], A.vec .u8 s.a0 s.c0 (R.flat V.d V.n), A.vec .u8 s.a1 s.c1 (R.flat V.i (R.len V)), A.vec .u8 s.a2 s.c2 (R.flat V.cd V.n), A.vec .u8 s.a3 s.c3 (R.flat V.ci (R.len V)), A.vec .i64 s.a4 s.c4 (R.rts V.r V.n)]) [] ?_ ?_
  · generalize hc1 : (decide (n < 0)) = b2
    cases b2
    · skip
      refine E.G.op (.int .i64 n) (fun w => by kernel_rfl) (by kernel_rfl) ?_
      refine E.G.op (.pointer (some ⟨r, 0, none⟩)) (fun w => by kernel_rfl) (by kernel_rfl) ?_
      refine E.G.op (.pointer (some ⟨r, 0, none⟩)) (fun w => by kernel_rfl) (by kernel_rfl) ?_
      refine E.G.op (.pointer (some ⟨r, 4, none⟩)) (fun w => by kernel_rfl) (by kernel_rfl) ?_
      refine E.G.val (.slice s.a4 V.n s.c4) (by kernel_rfl) (fun w h => A.Y.bld (A.X.y h.x) (k := 0) (j := 4) rfl (by kernel_rfl) (by kernel_rfl)) ?_
      refine E.G.op (.int .i64 ((V.n : Nat) : Int)) (fun w => by kernel_rfl) (by kernel_rfl) ?_
      refine E.G.op (.bool (decide (n ≥ ((V.n : Nat) : Int)))) (fun w => by kernel_rfl) (by kernel_rfl) ?_
      refine E.G.op (.bool (decide (n ≥ ((V.n : Nat) : Int)))) (fun w => by kernel_rfl) (by kernel_rfl) ?_
      exact E.G.end_pst ⟨by kernel_rfl, by kernel_rfl⟩ (List.Sublist.refl _) (fun _ h => h)
    · skip
      refine E.G.skip (by kernel_rfl) (by kernel_rfl) ?_
      refine E.G.skip (by kernel_rfl) (by kernel_rfl) ?_
      refine E.G.skip (by kernel_rfl) (by kernel_rfl) ?_
      refine E.G.skip (by kernel_rfl) (by kernel_rfl) ?_
      refine E.G.skip (by kernel_rfl) (by kernel_rfl) ?_
      refine E.G.skip (by kernel_rfl) (by kernel_rfl) ?_
      refine E.G.skip (by kernel_rfl) (by kernel_rfl) ?_
      refine E.G.op (.bool true) (fun w => by kernel_rfl) (by kernel_rfl) ?_
      exact E.G.end_pst ⟨by kernel_rfl, by kernel_rfl⟩ (List.Sublist.refl _) (fun _ h => h)
  refine E.G.op (.bool ((decide (n < 0)) || (decide (n ≥ ((V.n : Nat) : Int))))) (fun w => by kernel_rfl) (by kernel_rfl) ?_
  refine E.G.cut 5 [(0, .pointer (some ⟨r, 0, none⟩)), (1, .int .i64 n), (2, .string b), (23, .bool (((decide (n < 0)) || (decide (n ≥ ((V.n : Nat) : Int)))) || V.coh))] (A.X w oo aa [A.blk r [.slice s.a0 (256 * V.n) s.c0, .slice s.a1 (256 * R.len V) s.c1, .slice s.a2 (256 * V.n) s.c2, .slice s.a3 (256 * R.len V) s.c3, .slice s.a4 V.n s.c4, .bool V.coh], A.vec .u8 s.a0 s.c0 (R.flat V.d V.n), A.vec .u8 s.a1 s.c1 (R.flat V.i (R.len V)), A.vec .u8 s.a2 s.c2 (R.flat V.cd V.n), A.vec .u8 s.a3 s.c3 (R.flat V.ci (R.len V)), A.vec .i64 s.a4 s.c4 (R.rts V.r V.n)]) [] ?_ ?_
  · generalize hc3 : ((decide (n < 0)) || (decide (n ≥ ((V.n : Nat) : Int)))) = b4
    cases b4
    · skip
      refine E.G.op (.pointer (some ⟨r, 0, none⟩)) (fun w => by kernel_rfl) (by kernel_rfl) ?_
      refine E.G.op (.pointer (some ⟨r, 0, none⟩)) (fun w => by kernel_rfl) (by kernel_rfl) ?_
      refine E.G.op (.pointer (some ⟨r, 5, none⟩)) (fun w => by kernel_rfl) (by kernel_rfl) ?_
      refine E.G.val (.bool V.coh) (by kernel_rfl) (fun w h => A.Y.bld (A.X.y h.x) (k := 0) (j := 5) rfl (by kernel_rfl) (by kernel_rfl)) ?_
      refine E.G.op (.bool V.coh) (fun w => by kernel_rfl) (by kernel_rfl) ?_
      exact E.G.end_pst ⟨by kernel_rfl, by kernel_rfl⟩ (List.Sublist.refl _) (fun _ h => h)
    · skip
      refine E.G.skip (by kernel_rfl) (by kernel_rfl) ?_
      refine E.G.skip (by kernel_rfl) (by kernel_rfl) ?_
      refine E.G.skip (by kernel_rfl) (by kernel_rfl) ?_
      refine E.G.skip (by kernel_rfl) (by kernel_rfl) ?_
      refine E.G.op (.bool true) (fun w => by kernel_rfl) (by kernel_rfl) ?_
      exact E.G.end_pst ⟨by kernel_rfl, by kernel_rfl⟩ (List.Sublist.refl _) (fun _ h => h)
  refine E.To.code ?_
  refine E.C.cond (((decide (n < 0)) || (decide (n ≥ ((V.n : Nat) : Int)))) || V.coh) (by kernel_rfl) (by kernel_rfl) (fun hc5 => ?_) (fun hc5 => ?_)
  · skip
    refine E.C.ret (E.P.rt (E.To.body (fn := Try.f61) [] ?_ ?_))
    · exact trivial
    · intro w h
      rw [R.setc_no hc5]
      exact ⟨(), trivial, rfl, A.done (q := [A.blk r [.slice s.a0 (256 * V.n) s.c0, .slice s.a1 (256 * R.len V) s.c1, .slice s.a2 (256 * V.n) s.c2, .slice s.a3 (256 * R.len V) s.c3, .slice s.a4 V.n s.c4, .bool V.coh], A.vec .u8 s.a0 s.c0 (R.flat V.d V.n), A.vec .u8 s.a1 s.c1 (R.flat V.i (R.len V)), A.vec .u8 s.a2 s.c2 (R.flat V.cd V.n), A.vec .u8 s.a3 s.c3 (R.flat V.ci (R.len V)), A.vec .i64 s.a4 s.c4 (R.rts V.r V.n)]) (r := []) h (by kernel_rfl) (A.pm [0, 1, 2, 3, 4, 5] (by kernel_rfl) (by kernel_rfl))⟩
  · skip
    refine E.C.skip (E.To.code ?_)
    refine E.C.seq ?_
    obtain ⟨m, rfl, hm, hcoh⟩ := R.setc_yes hc5
    have hlen := R.len_f hcoh
    have hlen2 : ∀ c, R.len (R.lay V m b c) = V.n := fun c => hlen
    refine E.C.region ?_
    refine E.G.op (.int .i64 0) (fun w => by kernel_rfl) (by kernel_rfl) ?_
    refine E.To.code ?_
    refine E.C.block ?_
    refine A.C.eq ([A.blk r [.slice s.a0 (256 * (R.lay V m b 0).n) s.c0, .slice s.a1 (256 * R.len (R.lay V m b 0)) s.c1, .slice s.a2 (256 * (R.lay V m b 0).n) s.c2, .slice s.a3 (256 * R.len (R.lay V m b 0)) s.c3, .slice s.a4 ((R.lay V m b 0).n) s.c4, .bool ((R.lay V m b 0).coh)], A.vec .u8 s.a0 s.c0 (R.flat (R.lay V m b 0).d (R.lay V m b 0).n), A.vec .u8 s.a1 s.c1 (R.flat (R.lay V m b 0).i (R.len (R.lay V m b 0))), A.vec .u8 s.a2 s.c2 (R.flat (R.lay V m b 0).cd (R.lay V m b 0).n), A.vec .u8 s.a3 s.c3 (R.flat (R.lay V m b 0).ci (R.len (R.lay V m b 0))), A.vec .i64 s.a4 s.c4 (R.rts (R.lay V m b 0).r (R.lay V m b 0).n)]) (congrArg (R.its r s) (R.lay0 V m b).symm) ?_
    refine E.C.loop (I := Nat) (fun c => 256 - c) (fun c => c ≤ b.size ∧ c ≤ 256) (fun c => [(0, .pointer (some ⟨r, 0, none⟩)), (1, .int .i64 ((m : Nat) : Int)), (2, .string b), (6, .int .i64 ((c : Nat) : Int))]) (fun c => A.X w oo aa [A.blk r [.slice s.a0 (256 * (R.lay V m b c).n) s.c0, .slice s.a1 (256 * R.len (R.lay V m b c)) s.c1, .slice s.a2 (256 * (R.lay V m b c).n) s.c2, .slice s.a3 (256 * R.len (R.lay V m b c)) s.c3, .slice s.a4 ((R.lay V m b c).n) s.c4, .bool ((R.lay V m b c).coh)], A.vec .u8 s.a0 s.c0 (R.flat (R.lay V m b c).d (R.lay V m b c).n), A.vec .u8 s.a1 s.c1 (R.flat (R.lay V m b c).i (R.len (R.lay V m b c))), A.vec .u8 s.a2 s.c2 (R.flat (R.lay V m b c).cd (R.lay V m b c).n), A.vec .u8 s.a3 s.c3 (R.flat (R.lay V m b c).ci (R.len (R.lay V m b c))), A.vec .i64 s.a4 s.c4 (R.rts (R.lay V m b c).r (R.lay V m b c).n)]) (fun c => []) 0 (⟨Nat.zero_le _, Nat.zero_le _⟩) ⟨by kernel_rfl, by kernel_rfl⟩ (List.Sublist.refl _) (fun _ h => h) (fun c hk1 => ?_)
    refine E.C.seq ?_
    refine E.C.seq ?_
    refine E.C.region ?_
    refine E.G.op (.int .i64 ((c : Nat) : Int)) (fun w => by kernel_rfl) (by kernel_rfl) ?_
    refine E.G.op (.string b) (fun w => by kernel_rfl) (by kernel_rfl) ?_
    refine E.G.op (.int .i64 ((b.size : Nat) : Int)) (fun w => by kernel_rfl) (by kernel_rfl) ?_
    refine E.G.op (.bool (decide (((c : Nat) : Int) < ((b.size : Nat) : Int)))) (fun w => by kernel_rfl) (by kernel_rfl) ?_
    refine E.G.op (.bool (decide (((c : Nat) : Int) < ((b.size : Nat) : Int)))) (fun w => by kernel_rfl) (by kernel_rfl) ?_
    refine E.G.cut 3 [(0, .pointer (some ⟨r, 0, none⟩)), (1, .int .i64 ((m : Nat) : Int)), (2, .string b), (6, .int .i64 ((c : Nat) : Int)), (24, .int .i64 ((c : Nat) : Int)), (25, .string b), (26, .int .i64 ((b.size : Nat) : Int)), (27, .bool (decide (((c : Nat) : Int) < ((b.size : Nat) : Int)))), (28, .bool (decide (((c : Nat) : Int) < ((b.size : Nat) : Int)))), (31, .bool ((decide (((c : Nat) : Int) < ((b.size : Nat) : Int))) && (decide (((c : Nat) : Int) < 256))))] (A.X w oo aa [A.blk r [.slice s.a0 (256 * (R.lay V m b c).n) s.c0, .slice s.a1 (256 * R.len (R.lay V m b c)) s.c1, .slice s.a2 (256 * (R.lay V m b c).n) s.c2, .slice s.a3 (256 * R.len (R.lay V m b c)) s.c3, .slice s.a4 ((R.lay V m b c).n) s.c4, .bool ((R.lay V m b c).coh)], A.vec .u8 s.a0 s.c0 (R.flat (R.lay V m b c).d (R.lay V m b c).n), A.vec .u8 s.a1 s.c1 (R.flat (R.lay V m b c).i (R.len (R.lay V m b c))), A.vec .u8 s.a2 s.c2 (R.flat (R.lay V m b c).cd (R.lay V m b c).n), A.vec .u8 s.a3 s.c3 (R.flat (R.lay V m b c).ci (R.len (R.lay V m b c))), A.vec .i64 s.a4 s.c4 (R.rts (R.lay V m b c).r (R.lay V m b c).n)]) [] ?_ ?_
    · generalize hc6 : (decide (((c : Nat) : Int) < ((b.size : Nat) : Int))) = b7
      cases b7
      · skip
        refine E.G.skip (by kernel_rfl) (by kernel_rfl) ?_
        refine E.G.skip (by kernel_rfl) (by kernel_rfl) ?_
        refine E.G.op (.bool false) (fun w => by kernel_rfl) (by kernel_rfl) ?_
        exact E.G.end_pst ⟨by kernel_rfl, by kernel_rfl⟩ (List.Sublist.refl _) (fun _ h => h)
      · skip
        refine E.G.op (.int .i64 ((c : Nat) : Int)) (fun w => by kernel_rfl) (by kernel_rfl) ?_
        refine E.G.op (.bool (decide (((c : Nat) : Int) < 256))) (fun w => by kernel_rfl) (by kernel_rfl) ?_
        refine E.G.op (.bool (decide (((c : Nat) : Int) < 256))) (fun w => by kernel_rfl) (by kernel_rfl) ?_
        exact E.G.end_pst ⟨by kernel_rfl, by kernel_rfl⟩ (List.Sublist.refl _) (fun _ h => h)
    refine E.To.code ?_
    refine E.C.cond ((decide (((c : Nat) : Int) < ((b.size : Nat) : Int))) && (decide (((c : Nat) : Int) < 256))) (by kernel_rfl) (by kernel_rfl) (fun hc8 => ?_) (fun hc8 => ?_)
    · skip
      refine E.C.skip (E.To.code ?_)
      refine E.C.seq ?_
      refine E.C.block ?_
      have hc2 : c < 256 := by (first | assumption | ((try simp only [Bool.or_eq_false_iff, Bool.or_eq_true, Bool.and_eq_true, Bool.and_eq_false_iff, Bool.not_eq_eq_eq_not, Bool.not_true, Bool.not_false, decide_eq_true_eq, decide_eq_false_iff_not, ge_iff_le, gt_iff_lt] at *); omega))
      have hc3 : c < b.size := by (first | assumption | ((try simp only [Bool.or_eq_false_iff, Bool.or_eq_true, Bool.and_eq_true, Bool.and_eq_false_iff, Bool.not_eq_eq_eq_not, Bool.not_true, Bool.not_false, decide_eq_true_eq, decide_eq_false_iff_not, ge_iff_le, gt_iff_lt] at *); omega))
      have hn2 : (R.lay V m b c).n = V.n := rfl
      have hlen3 := hlen2 c
      refine E.C.know (p := s.a1 = some ⟨A.bk s.a1, 0, none⟩) (fun w h => A.Y.ao (A.X.y h.x) (k := 2) rfl (by simp only [R.flat_len]; (first | assumption | ((try simp only [Bool.or_eq_false_iff, Bool.or_eq_true, Bool.and_eq_true, Bool.and_eq_false_iff, Bool.not_eq_eq_eq_not, Bool.not_true, Bool.not_false, decide_eq_true_eq, decide_eq_false_iff_not, ge_iff_le, gt_iff_lt] at *); omega)))) (fun hao9 => ?_)
      refine E.C.held (A.Y [A.blk r [.slice s.a0 (256 * (R.lay V m b c).n) s.c0, .slice s.a1 (256 * R.len (R.lay V m b c)) s.c1, .slice s.a2 (256 * (R.lay V m b c).n) s.c2, .slice s.a3 (256 * R.len (R.lay V m b c)) s.c3, .slice s.a4 ((R.lay V m b c).n) s.c4, .bool ((R.lay V m b c).coh)], A.vec .u8 s.a0 s.c0 (R.flat (R.lay V m b c).d (R.lay V m b c).n), A.vec .u8 s.a2 s.c2 (R.flat (R.lay V m b c).cd (R.lay V m b c).n), A.vec .u8 s.a3 s.c3 (R.flat (R.lay V m b c).ci (R.len (R.lay V m b c))), A.vec .i64 s.a4 s.c4 (R.rts (R.lay V m b c).r (R.lay V m b c).n)]) (by kernel_rfl) ?_
      refine E.H.take 0 (.pointer (some ⟨r, 0, none⟩)) rfl (by kernel_rfl) (by kernel_rfl) (by kernel_rfl) (fun _ _ _ h => h) (fun w h => A.Y.part (p := [A.blk r [.slice s.a0 (256 * (R.lay V m b c).n) s.c0, .slice s.a1 (256 * R.len (R.lay V m b c)) s.c1, .slice s.a2 (256 * (R.lay V m b c).n) s.c2, .slice s.a3 (256 * R.len (R.lay V m b c)) s.c3, .slice s.a4 ((R.lay V m b c).n) s.c4, .bool ((R.lay V m b c).coh)], A.vec .u8 s.a0 s.c0 (R.flat (R.lay V m b c).d (R.lay V m b c).n), A.vec .u8 s.a2 s.c2 (R.flat (R.lay V m b c).cd (R.lay V m b c).n), A.vec .u8 s.a3 s.c3 (R.flat (R.lay V m b c).ci (R.len (R.lay V m b c))), A.vec .i64 s.a4 s.c4 (R.rts (R.lay V m b c).r (R.lay V m b c).n)]) (r := [A.vec .u8 s.a1 s.c1 (R.flat (R.lay V m b c).i (R.len (R.lay V m b c)))]) (A.X.y h.x) (A.pm [0, 1, 3, 4, 5, 2] (by kernel_rfl) (by kernel_rfl))) (.inl ⟨by kernel_rfl, by kernel_rfl, fun w h => by kernel_rfl⟩) (by kernel_rfl) ?_
      refine E.H.take 1 (.pointer (some ⟨r, 0, none⟩)) rfl (by kernel_rfl) (by kernel_rfl) (by kernel_rfl) (fun _ _ _ h => h) (fun w h => A.Y.part (p := [A.blk r [.slice s.a0 (256 * (R.lay V m b c).n) s.c0, .slice s.a1 (256 * R.len (R.lay V m b c)) s.c1, .slice s.a2 (256 * (R.lay V m b c).n) s.c2, .slice s.a3 (256 * R.len (R.lay V m b c)) s.c3, .slice s.a4 ((R.lay V m b c).n) s.c4, .bool ((R.lay V m b c).coh)], A.vec .u8 s.a0 s.c0 (R.flat (R.lay V m b c).d (R.lay V m b c).n), A.vec .u8 s.a2 s.c2 (R.flat (R.lay V m b c).cd (R.lay V m b c).n), A.vec .u8 s.a3 s.c3 (R.flat (R.lay V m b c).ci (R.len (R.lay V m b c))), A.vec .i64 s.a4 s.c4 (R.rts (R.lay V m b c).r (R.lay V m b c).n)]) (r := [A.vec .u8 s.a1 s.c1 (R.flat (R.lay V m b c).i (R.len (R.lay V m b c)))]) (A.X.y h.x) (A.pm [0, 1, 3, 4, 5, 2] (by kernel_rfl) (by kernel_rfl))) (.inl ⟨by kernel_rfl, by kernel_rfl, fun w h => by kernel_rfl⟩) (by kernel_rfl) ?_
      refine E.H.take 2 (.pointer (some ⟨r, 1, none⟩)) rfl (by kernel_rfl) (by kernel_rfl) (by kernel_rfl) (fun _ _ _ h => h) (fun w h => A.Y.part (p := [A.blk r [.slice s.a0 (256 * (R.lay V m b c).n) s.c0, .slice s.a1 (256 * R.len (R.lay V m b c)) s.c1, .slice s.a2 (256 * (R.lay V m b c).n) s.c2, .slice s.a3 (256 * R.len (R.lay V m b c)) s.c3, .slice s.a4 ((R.lay V m b c).n) s.c4, .bool ((R.lay V m b c).coh)], A.vec .u8 s.a0 s.c0 (R.flat (R.lay V m b c).d (R.lay V m b c).n), A.vec .u8 s.a2 s.c2 (R.flat (R.lay V m b c).cd (R.lay V m b c).n), A.vec .u8 s.a3 s.c3 (R.flat (R.lay V m b c).ci (R.len (R.lay V m b c))), A.vec .i64 s.a4 s.c4 (R.rts (R.lay V m b c).r (R.lay V m b c).n)]) (r := [A.vec .u8 s.a1 s.c1 (R.flat (R.lay V m b c).i (R.len (R.lay V m b c)))]) (A.X.y h.x) (A.pm [0, 1, 3, 4, 5, 2] (by kernel_rfl) (by kernel_rfl))) (.inl ⟨by kernel_rfl, by kernel_rfl, fun w h => by kernel_rfl⟩) (by kernel_rfl) ?_
      refine E.H.take 3 (.slice s.a1 (256 * R.len (R.lay V m b c)) s.c1) rfl (by kernel_rfl) (by kernel_rfl) (by kernel_rfl) (fun _ _ _ h => h) (fun w h => A.Y.part (p := [A.blk r [.slice s.a0 (256 * (R.lay V m b c).n) s.c0, .slice s.a1 (256 * R.len (R.lay V m b c)) s.c1, .slice s.a2 (256 * (R.lay V m b c).n) s.c2, .slice s.a3 (256 * R.len (R.lay V m b c)) s.c3, .slice s.a4 ((R.lay V m b c).n) s.c4, .bool ((R.lay V m b c).coh)], A.vec .u8 s.a0 s.c0 (R.flat (R.lay V m b c).d (R.lay V m b c).n), A.vec .u8 s.a2 s.c2 (R.flat (R.lay V m b c).cd (R.lay V m b c).n), A.vec .u8 s.a3 s.c3 (R.flat (R.lay V m b c).ci (R.len (R.lay V m b c))), A.vec .i64 s.a4 s.c4 (R.rts (R.lay V m b c).r (R.lay V m b c).n)]) (r := [A.vec .u8 s.a1 s.c1 (R.flat (R.lay V m b c).i (R.len (R.lay V m b c)))]) (A.X.y h.x) (A.pm [0, 1, 3, 4, 5, 2] (by kernel_rfl) (by kernel_rfl))) (.inl ⟨by kernel_rfl, by kernel_rfl, fun w h => A.Y.bld h (k := 0) (j := 1) rfl (by kernel_rfl) (by kernel_rfl)⟩) (by kernel_rfl) ?_
      refine E.H.take 4 (.int .i64 ((m : Nat) : Int)) rfl (by kernel_rfl) (by kernel_rfl) (by kernel_rfl) (fun _ _ _ h => h) (fun w h => A.Y.part (p := [A.blk r [.slice s.a0 (256 * (R.lay V m b c).n) s.c0, .slice s.a1 (256 * R.len (R.lay V m b c)) s.c1, .slice s.a2 (256 * (R.lay V m b c).n) s.c2, .slice s.a3 (256 * R.len (R.lay V m b c)) s.c3, .slice s.a4 ((R.lay V m b c).n) s.c4, .bool ((R.lay V m b c).coh)], A.vec .u8 s.a0 s.c0 (R.flat (R.lay V m b c).d (R.lay V m b c).n), A.vec .u8 s.a2 s.c2 (R.flat (R.lay V m b c).cd (R.lay V m b c).n), A.vec .u8 s.a3 s.c3 (R.flat (R.lay V m b c).ci (R.len (R.lay V m b c))), A.vec .i64 s.a4 s.c4 (R.rts (R.lay V m b c).r (R.lay V m b c).n)]) (r := [A.vec .u8 s.a1 s.c1 (R.flat (R.lay V m b c).i (R.len (R.lay V m b c)))]) (A.X.y h.x) (A.pm [0, 1, 3, 4, 5, 2] (by kernel_rfl) (by kernel_rfl))) (.inl ⟨by kernel_rfl, by kernel_rfl, fun w h => by kernel_rfl⟩) (by kernel_rfl) ?_
      refine E.H.take 5 (.int .i64 ((256 * m : Nat) : Int)) rfl (by kernel_rfl) (by kernel_rfl) (by kernel_rfl) (fun _ _ _ h => h) (fun w h => A.Y.part (p := [A.blk r [.slice s.a0 (256 * (R.lay V m b c).n) s.c0, .slice s.a1 (256 * R.len (R.lay V m b c)) s.c1, .slice s.a2 (256 * (R.lay V m b c).n) s.c2, .slice s.a3 (256 * R.len (R.lay V m b c)) s.c3, .slice s.a4 ((R.lay V m b c).n) s.c4, .bool ((R.lay V m b c).coh)], A.vec .u8 s.a0 s.c0 (R.flat (R.lay V m b c).d (R.lay V m b c).n), A.vec .u8 s.a2 s.c2 (R.flat (R.lay V m b c).cd (R.lay V m b c).n), A.vec .u8 s.a3 s.c3 (R.flat (R.lay V m b c).ci (R.len (R.lay V m b c))), A.vec .i64 s.a4 s.c4 (R.rts (R.lay V m b c).r (R.lay V m b c).n)]) (r := [A.vec .u8 s.a1 s.c1 (R.flat (R.lay V m b c).i (R.len (R.lay V m b c)))]) (A.X.y h.x) (A.pm [0, 1, 3, 4, 5, 2] (by kernel_rfl) (by kernel_rfl))) (.inl ⟨by kernel_rfl, by kernel_rfl, fun w h => E.run_as (a := .int .i64 (IntKind.wrap .i64 (256 * ((m : Nat) : Int)))) (by kernel_rfl) (congrArg (Value.int .i64) (by exact Nz.mul64 (x := 256) (y := m) (by have := hw.n; (first | assumption | ((try simp only [Bool.or_eq_false_iff, Bool.or_eq_true, Bool.and_eq_true, Bool.and_eq_false_iff, Bool.not_eq_eq_eq_not, Bool.not_true, Bool.not_false, decide_eq_true_eq, decide_eq_false_iff_not, ge_iff_le, gt_iff_lt] at *); omega)))))⟩) (by kernel_rfl) ?_
      refine E.H.take 6 (.int .i64 ((c : Nat) : Int)) rfl (by kernel_rfl) (by kernel_rfl) (by kernel_rfl) (fun _ _ _ h => h) (fun w h => A.Y.part (p := [A.blk r [.slice s.a0 (256 * (R.lay V m b c).n) s.c0, .slice s.a1 (256 * R.len (R.lay V m b c)) s.c1, .slice s.a2 (256 * (R.lay V m b c).n) s.c2, .slice s.a3 (256 * R.len (R.lay V m b c)) s.c3, .slice s.a4 ((R.lay V m b c).n) s.c4, .bool ((R.lay V m b c).coh)], A.vec .u8 s.a0 s.c0 (R.flat (R.lay V m b c).d (R.lay V m b c).n), A.vec .u8 s.a2 s.c2 (R.flat (R.lay V m b c).cd (R.lay V m b c).n), A.vec .u8 s.a3 s.c3 (R.flat (R.lay V m b c).ci (R.len (R.lay V m b c))), A.vec .i64 s.a4 s.c4 (R.rts (R.lay V m b c).r (R.lay V m b c).n)]) (r := [A.vec .u8 s.a1 s.c1 (R.flat (R.lay V m b c).i (R.len (R.lay V m b c)))]) (A.X.y h.x) (A.pm [0, 1, 3, 4, 5, 2] (by kernel_rfl) (by kernel_rfl))) (.inl ⟨by kernel_rfl, by kernel_rfl, fun w h => by kernel_rfl⟩) (by kernel_rfl) ?_
      refine E.H.take 7 (.int .i64 (((256 * m) + c : Nat) : Int)) rfl (by kernel_rfl) (by kernel_rfl) (by kernel_rfl) (fun _ _ _ h => h) (fun w h => A.Y.part (p := [A.blk r [.slice s.a0 (256 * (R.lay V m b c).n) s.c0, .slice s.a1 (256 * R.len (R.lay V m b c)) s.c1, .slice s.a2 (256 * (R.lay V m b c).n) s.c2, .slice s.a3 (256 * R.len (R.lay V m b c)) s.c3, .slice s.a4 ((R.lay V m b c).n) s.c4, .bool ((R.lay V m b c).coh)], A.vec .u8 s.a0 s.c0 (R.flat (R.lay V m b c).d (R.lay V m b c).n), A.vec .u8 s.a2 s.c2 (R.flat (R.lay V m b c).cd (R.lay V m b c).n), A.vec .u8 s.a3 s.c3 (R.flat (R.lay V m b c).ci (R.len (R.lay V m b c))), A.vec .i64 s.a4 s.c4 (R.rts (R.lay V m b c).r (R.lay V m b c).n)]) (r := [A.vec .u8 s.a1 s.c1 (R.flat (R.lay V m b c).i (R.len (R.lay V m b c)))]) (A.X.y h.x) (A.pm [0, 1, 3, 4, 5, 2] (by kernel_rfl) (by kernel_rfl))) (.inl ⟨by kernel_rfl, by kernel_rfl, fun w h => E.run_as (a := .int .i64 (IntKind.wrap .i64 (((256 * m : Nat) : Int) + ((c : Nat) : Int)))) (by kernel_rfl) (congrArg (Value.int .i64) (by exact Nz.add64 (x := (256 * m)) (y := c) (by have := hw.n; (first | assumption | ((try simp only [Bool.or_eq_false_iff, Bool.or_eq_true, Bool.and_eq_true, Bool.and_eq_false_iff, Bool.not_eq_eq_eq_not, Bool.not_true, Bool.not_false, decide_eq_true_eq, decide_eq_false_iff_not, ge_iff_le, gt_iff_lt] at *); omega)))))⟩) (by kernel_rfl) ?_
      refine E.H.take 8 (.string b) rfl (by kernel_rfl) (by kernel_rfl) (by kernel_rfl) (fun _ _ _ h => h) (fun w h => A.Y.part (p := [A.blk r [.slice s.a0 (256 * (R.lay V m b c).n) s.c0, .slice s.a1 (256 * R.len (R.lay V m b c)) s.c1, .slice s.a2 (256 * (R.lay V m b c).n) s.c2, .slice s.a3 (256 * R.len (R.lay V m b c)) s.c3, .slice s.a4 ((R.lay V m b c).n) s.c4, .bool ((R.lay V m b c).coh)], A.vec .u8 s.a0 s.c0 (R.flat (R.lay V m b c).d (R.lay V m b c).n), A.vec .u8 s.a2 s.c2 (R.flat (R.lay V m b c).cd (R.lay V m b c).n), A.vec .u8 s.a3 s.c3 (R.flat (R.lay V m b c).ci (R.len (R.lay V m b c))), A.vec .i64 s.a4 s.c4 (R.rts (R.lay V m b c).r (R.lay V m b c).n)]) (r := [A.vec .u8 s.a1 s.c1 (R.flat (R.lay V m b c).i (R.len (R.lay V m b c)))]) (A.X.y h.x) (A.pm [0, 1, 3, 4, 5, 2] (by kernel_rfl) (by kernel_rfl))) (.inl ⟨by kernel_rfl, by kernel_rfl, fun w h => by kernel_rfl⟩) (by kernel_rfl) ?_
      refine E.H.take 9 (.int .i64 ((c : Nat) : Int)) rfl (by kernel_rfl) (by kernel_rfl) (by kernel_rfl) (fun _ _ _ h => h) (fun w h => A.Y.part (p := [A.blk r [.slice s.a0 (256 * (R.lay V m b c).n) s.c0, .slice s.a1 (256 * R.len (R.lay V m b c)) s.c1, .slice s.a2 (256 * (R.lay V m b c).n) s.c2, .slice s.a3 (256 * R.len (R.lay V m b c)) s.c3, .slice s.a4 ((R.lay V m b c).n) s.c4, .bool ((R.lay V m b c).coh)], A.vec .u8 s.a0 s.c0 (R.flat (R.lay V m b c).d (R.lay V m b c).n), A.vec .u8 s.a2 s.c2 (R.flat (R.lay V m b c).cd (R.lay V m b c).n), A.vec .u8 s.a3 s.c3 (R.flat (R.lay V m b c).ci (R.len (R.lay V m b c))), A.vec .i64 s.a4 s.c4 (R.rts (R.lay V m b c).r (R.lay V m b c).n)]) (r := [A.vec .u8 s.a1 s.c1 (R.flat (R.lay V m b c).i (R.len (R.lay V m b c)))]) (A.X.y h.x) (A.pm [0, 1, 3, 4, 5, 2] (by kernel_rfl) (by kernel_rfl))) (.inl ⟨by kernel_rfl, by kernel_rfl, fun w h => by kernel_rfl⟩) (by kernel_rfl) ?_
      refine E.H.take 10 (.int .u8 (W.byt b.data.toList c)) rfl (by kernel_rfl) (by kernel_rfl) (by kernel_rfl) (fun _ _ _ h => h) (fun w h => A.Y.part (p := [A.blk r [.slice s.a0 (256 * (R.lay V m b c).n) s.c0, .slice s.a1 (256 * R.len (R.lay V m b c)) s.c1, .slice s.a2 (256 * (R.lay V m b c).n) s.c2, .slice s.a3 (256 * R.len (R.lay V m b c)) s.c3, .slice s.a4 ((R.lay V m b c).n) s.c4, .bool ((R.lay V m b c).coh)], A.vec .u8 s.a0 s.c0 (R.flat (R.lay V m b c).d (R.lay V m b c).n), A.vec .u8 s.a2 s.c2 (R.flat (R.lay V m b c).cd (R.lay V m b c).n), A.vec .u8 s.a3 s.c3 (R.flat (R.lay V m b c).ci (R.len (R.lay V m b c))), A.vec .i64 s.a4 s.c4 (R.rts (R.lay V m b c).r (R.lay V m b c).n)]) (r := [A.vec .u8 s.a1 s.c1 (R.flat (R.lay V m b c).i (R.len (R.lay V m b c)))]) (A.X.y h.x) (A.pm [0, 1, 3, 4, 5, 2] (by kernel_rfl) (by kernel_rfl))) (.inl ⟨by kernel_rfl, by kernel_rfl, fun w h => E.run_as (a := .int .u8 (W.byt b.data.toList (((c : Nat) : Int)).toNat)) (E.sidx b .i64 ((c : Nat) : Int) (by kernel_rfl) (by kernel_rfl) (by kernel_rfl) (by (first | assumption | ((try simp only [Bool.or_eq_false_iff, Bool.or_eq_true, Bool.and_eq_true, Bool.and_eq_false_iff, Bool.not_eq_eq_eq_not, Bool.not_true, Bool.not_false, decide_eq_true_eq, decide_eq_false_iff_not, ge_iff_le, gt_iff_lt] at *); omega))) (by (first | assumption | ((try simp only [Bool.or_eq_false_iff, Bool.or_eq_true, Bool.and_eq_true, Bool.and_eq_false_iff, Bool.not_eq_eq_eq_not, Bool.not_true, Bool.not_false, decide_eq_true_eq, decide_eq_false_iff_not, ge_iff_le, gt_iff_lt] at *); omega))) w) (rfl)⟩) (by kernel_rfl) ?_
      refine E.H.take 11 (.pointer (some ⟨(A.bk s.a1), ((256 * m) + c), none⟩)) rfl (by kernel_rfl) (by kernel_rfl) (by kernel_rfl) (fun _ _ _ h => h) (fun w h => A.Y.part (p := [A.blk r [.slice s.a0 (256 * (R.lay V m b c).n) s.c0, .slice s.a1 (256 * R.len (R.lay V m b c)) s.c1, .slice s.a2 (256 * (R.lay V m b c).n) s.c2, .slice s.a3 (256 * R.len (R.lay V m b c)) s.c3, .slice s.a4 ((R.lay V m b c).n) s.c4, .bool ((R.lay V m b c).coh)], A.vec .u8 s.a0 s.c0 (R.flat (R.lay V m b c).d (R.lay V m b c).n), A.vec .u8 s.a2 s.c2 (R.flat (R.lay V m b c).cd (R.lay V m b c).n), A.vec .u8 s.a3 s.c3 (R.flat (R.lay V m b c).ci (R.len (R.lay V m b c))), A.vec .i64 s.a4 s.c4 (R.rts (R.lay V m b c).r (R.lay V m b c).n)]) (r := [A.vec .u8 s.a1 s.c1 (R.flat (R.lay V m b c).i (R.len (R.lay V m b c)))]) (A.X.y h.x) (A.pm [0, 1, 3, 4, 5, 2] (by kernel_rfl) (by kernel_rfl))) (.inl ⟨by kernel_rfl, by kernel_rfl, fun w h => A.idxP (e := 5) (ik := .i64) (i := ((256 * m) + c)) (len := (256 * R.len (R.lay V m b c))) (c2 := s.c1) hao9 (by kernel_rfl) (by kernel_rfl) (by kernel_rfl) (by kernel_rfl) (by (first | assumption | ((try simp only [Bool.or_eq_false_iff, Bool.or_eq_true, Bool.and_eq_true, Bool.and_eq_false_iff, Bool.not_eq_eq_eq_not, Bool.not_true, Bool.not_false, decide_eq_true_eq, decide_eq_false_iff_not, ge_iff_le, gt_iff_lt] at *); omega))) w⟩) (by kernel_rfl) ?_
      refine E.H.all [12] (by kernel_rfl) (by simp) (List.forall_mem_cons.2 ⟨⟨_, rfl, ?_⟩, fun _ h => (List.not_mem_nil h).elim⟩)
      · skip
        refine A.G.vst (kd := .u8) (ao := s.a1) (cap := s.c1) (i := ((256 * m) + c)) (xs := (R.flat (R.lay V m b c).i (R.len (R.lay V m b c)))) (v := (W.byt b.data.toList c)) 2 rfl (by kernel_rfl) (by kernel_rfl) (by kernel_rfl) (by simp only [R.flat_len]; (first | assumption | ((try simp only [Bool.or_eq_false_iff, Bool.or_eq_true, Bool.and_eq_true, Bool.and_eq_false_iff, Bool.not_eq_eq_eq_not, Bool.not_true, Bool.not_false, decide_eq_true_eq, decide_eq_false_iff_not, ge_iff_le, gt_iff_lt] at *); omega))) (by kernel_rfl) (by kernel_rfl) ?_
        refine E.H.back (fun w h => A.Y.part (p := [A.blk r [.slice s.a0 (256 * (R.lay V m b c).n) s.c0, .slice s.a1 (256 * R.len (R.lay V m b c)) s.c1, .slice s.a2 (256 * (R.lay V m b c).n) s.c2, .slice s.a3 (256 * R.len (R.lay V m b c)) s.c3, .slice s.a4 ((R.lay V m b c).n) s.c4, .bool ((R.lay V m b c).coh)], A.vec .u8 s.a0 s.c0 (R.flat (R.lay V m b c).d (R.lay V m b c).n), A.vec .u8 s.a2 s.c2 (R.flat (R.lay V m b c).cd (R.lay V m b c).n), A.vec .u8 s.a3 s.c3 (R.flat (R.lay V m b c).ci (R.len (R.lay V m b c))), A.vec .i64 s.a4 s.c4 (R.rts (R.lay V m b c).r (R.lay V m b c).n)]) (r := [A.vec .u8 s.a1 s.c1 ((R.flat (R.lay V m b c).i (R.len (R.lay V m b c))).set ((256 * m) + c) (W.byt b.data.toList c))]) (A.X.y h.x) (A.pm [0, 1, 3, 4, 5, 2] (by kernel_rfl) (by kernel_rfl))) ?_
        refine E.H.done (by kernel_rfl) ?_
        refine E.P.nb (E.To.code ?_)
        refine A.C.eq ([A.blk r [.slice s.a0 (256 * (R.lay V m b (c + 1)).n) s.c0, .slice s.a1 (256 * R.len (R.lay V m b (c + 1))) s.c1, .slice s.a2 (256 * (R.lay V m b (c + 1)).n) s.c2, .slice s.a3 (256 * R.len (R.lay V m b (c + 1))) s.c3, .slice s.a4 ((R.lay V m b (c + 1)).n) s.c4, .bool ((R.lay V m b (c + 1)).coh)], A.vec .u8 s.a0 s.c0 (R.flat (R.lay V m b (c + 1)).d (R.lay V m b (c + 1)).n), A.vec .u8 s.a1 s.c1 (R.flat (R.lay V m b (c + 1)).i (R.len (R.lay V m b (c + 1)))), A.vec .u8 s.a2 s.c2 (R.flat (R.lay V m b (c + 1)).cd (R.lay V m b (c + 1)).n), A.vec .u8 s.a3 s.c3 (R.flat (R.lay V m b (c + 1)).ci (R.len (R.lay V m b (c + 1)))), A.vec .i64 s.a4 s.c4 (R.rts (R.lay V m b (c + 1)).r (R.lay V m b (c + 1)).n)]) (R.lay_next hcoh hm hc2) ?_
        refine E.C.region ?_
        refine E.G.op (.int .i64 ((c : Nat) : Int)) (fun w => by kernel_rfl) (by kernel_rfl) ?_
        refine E.G.val (.int .i64 ((c + 1 : Nat) : Int)) (by kernel_rfl) (fun w h => E.run_as (a := .int .i64 (IntKind.wrap .i64 (((c : Nat) : Int) + 1))) (by kernel_rfl) (congrArg (Value.int .i64) (by exact Nz.add64 (x := c) (y := 1) (by have := hw.n; (first | assumption | ((try simp only [Bool.or_eq_false_iff, Bool.or_eq_true, Bool.and_eq_true, Bool.and_eq_false_iff, Bool.not_eq_eq_eq_not, Bool.not_true, Bool.not_false, decide_eq_true_eq, decide_eq_false_iff_not, ge_iff_le, gt_iff_lt] at *); omega)))))) ?_
        refine E.G.op (.int .i64 ((c + 1 : Nat) : Int)) (fun w => by kernel_rfl) (by kernel_rfl) ?_
        exact E.To.round (c + 1) (by (first | assumption | ((try simp only [Bool.or_eq_false_iff, Bool.or_eq_true, Bool.and_eq_true, Bool.and_eq_false_iff, Bool.not_eq_eq_eq_not, Bool.not_true, Bool.not_false, decide_eq_true_eq, decide_eq_false_iff_not, ge_iff_le, gt_iff_lt] at *); omega))) (by (first | assumption | ((try simp only [Bool.or_eq_false_iff, Bool.or_eq_true, Bool.and_eq_true, Bool.and_eq_false_iff, Bool.not_eq_eq_eq_not, Bool.not_true, Bool.not_false, decide_eq_true_eq, decide_eq_false_iff_not, ge_iff_le, gt_iff_lt] at *); omega))) ⟨by kernel_rfl, by kernel_rfl⟩ (List.Sublist.refl _) (fun _ h => h)
    · skip
      refine E.C.exit (E.P.et (E.P.et (E.P.eh (E.To.bodyN (fn := Try.f61) [] ?_ ?_))))
      · exact trivial
      · intro w h
        have e : c = Nat.min b.size 256 := R.min_end hk1 hc8
        rw [← R.lay_end hm hcoh e]
        exact ⟨(), trivial, rfl, A.done (q := [A.blk r [.slice s.a0 (256 * (R.lay V m b c).n) s.c0, .slice s.a1 (256 * R.len (R.lay V m b c)) s.c1, .slice s.a2 (256 * (R.lay V m b c).n) s.c2, .slice s.a3 (256 * R.len (R.lay V m b c)) s.c3, .slice s.a4 ((R.lay V m b c).n) s.c4, .bool ((R.lay V m b c).coh)], A.vec .u8 s.a0 s.c0 (R.flat (R.lay V m b c).d (R.lay V m b c).n), A.vec .u8 s.a1 s.c1 (R.flat (R.lay V m b c).i (R.len (R.lay V m b c))), A.vec .u8 s.a2 s.c2 (R.flat (R.lay V m b c).cd (R.lay V m b c).n), A.vec .u8 s.a3 s.c3 (R.flat (R.lay V m b c).ci (R.len (R.lay V m b c))), A.vec .i64 s.a4 s.c4 (R.rts (R.lay V m b c).r (R.lay V m b c).n)]) (r := []) h (by kernel_rfl) (A.pm [0, 1, 2, 3, 4, 5] (by kernel_rfl) (by kernel_rfl))⟩
end Go.Proofs.Ytdjjjikokfadiaa

/- Items: a slice is copied by append to an empty one. No condition. -/
namespace Go.Proofs.Ytdjjjikokfadiaa
set_option linter.unusedVariables false
set_option linter.unusedSimpArgs false
open Go.RowKit
section
variable {P : Program} {n : Nat} {ops : Array Oper} {Q : Exit → Act → World → Prop} {S : Nat → Prop} {w0 : World} {X : World → Prop} {o0 a0 : Nat → Prop} {its : List A.It} {L : List (Nat × List Value)} {l : List Oper} {fr : E.Fr} {d : Option Nat} {T : TypeId} {pos : String} {af : Array Edge} {gd : Option (Nat × Bool)}
/-- A slice without elements. -/
theorem A.G.empty {t e : TypeId} {sz : Nat} (ht : P.underlying t = some (.slice e)) (hi : (P.info? e).map (·.size) = some sz) (hck : E.ck n ops fr ⟨d, .buildSlice t 0 #[], T, pos, af, gd⟩ = true)
    (k : ∀ g, E.G P n ops Q l (E.upd fr d (.slice (some ⟨g, 0, none⟩) 0 0)) S w0 X L) : E.G P n ops Q (⟨d, .buildSlice t 0 #[], T, pos, af, gd⟩ :: l) fr S w0 X L := by
  refine E.G.any (I := Nat) (fun _ => True) (fun g => .slice (some ⟨g, 0, none⟩) 0 0) (fun _ => X) (fun _ => L) (fun w h => ?_) hck (fun g _ => k g)
  refine ⟨w.heap.size, w.alloc (.cells #[] e), trivial, ?_, h.bel (Bel.alloc (Bel.refl w) _)⟩
  cases hie : P.info? e with
  | none => rw [hie] at hi; cases hi
  | some ie =>
    show (do let r ← Instr.buildSlice t 0 ((#[] : Array (Nat × Operand)).map fun (i, x) => (i, E.ev fr x)); pure (Next.value r) : Sem Next).run P w = _
    have e0 : Array.map (fun x : Nat => (default : Value)) (Array.range 0) = #[] := by simp [Array.range_zero']
    simp [Instr.buildSlice, run_underlying ht, sizeOf, typeInfo, hie, Instr.fill, newRow, e0]
theorem A.run_dup {t e : TypeId} {kd : IntKind} {a0' : Addr} {ao : Option Addr} {cap c2 by_ k : Nat} {xs : List Int} {w : World} (ht : P.underlying t = some (.slice e)) (hi : E.tinfo P e = some (1, by_, 1)) (hb : xs.length * by_ ≤ 140737488355328) (h63 : xs.length ≤ 9223372036854775807)
    (h : E.Hp o0 w0 (A.X w0 o0 a0 its) L w) (hk : its[k]? = some (A.vec kd ao cap xs)) :
    ∃ ao' c' w', (Builtin.append_ #[t, t] T #[.slice (some a0') 0 0, .slice ao xs.length c2]).run P w = .ok (.slice ao' xs.length c') w' ∧ E.Hp o0 w0 (A.X w0 o0 a0 (A.vec kd ao' c' xs :: its)) L w' := by
  unfold E.tinfo at hi
  cases hie : P.info? e with
  | none => rw [hie] at hi; cases hi
  | some ie =>
    rw [hie] at hi
    simp only [Option.bind_some] at hi
    cases hz : ie.zero with
    | none => rw [hz] at hi; cases hi
    | some z =>
      rw [hz] at hi
      simp only [Option.map_some, Option.some.injEq, Prod.mk.injEq] at hi
      obtain ⟨h1, h2, h3⟩ := hi
      obtain ⟨o1, f1, hv⟩ := A.X.get h hk
      rcases Nat.eq_zero_or_pos xs.length with h0 | hp
      · have hx : xs = [] := List.eq_nil_of_length_eq_zero h0
        subst hx
        refine ⟨some a0', 0, w, ?_, ?_⟩
        · have hlc : ∀ a, (loadCells a 0).run P w = .ok #[] w := fun a => by simp [loadCells, loadCellsFrom]
          cases ao with
          | none => simp [Builtin.append_, run_underlying ht, sizeOf, typeInfo, hie, Builtin.lenOf, Builtin.firstCells, storeCells]
          | some a => simp [Builtin.append_, run_underlying ht, sizeOf, typeInfo, hie, Builtin.lenOf, Builtin.firstCells, storeCells, hlc]
        · exact A.X.add h (Bel.refl w) (A.vec kd (some a0') 0 []) (o1 := fun _ => False) (a1 := fun _ => False) ⟨Nat.le_refl _, .inl ⟨rfl, fun _ h => h, fun _ h => h⟩⟩ (fun _ h => h.elim)
      · obtain ⟨b, rfl⟩ : ∃ b, ao = some ⟨b, 0, none⟩ := ⟨_, A.vec_ao hv (by have := hv.1; omega)⟩
        have hnews : ∀ j u, (xs.map (Value.int kd))[j]? = some u → w.cell? ((⟨b, 0, none⟩ : Addr).add j) = some u := fun j u hj => by
          have hlt : j < xs.length := by have := (List.getElem?_eq_some_iff.1 hj).1; simpa using this
          have := A.vec_at hv hlt
          rw [E.add_off, Nat.zero_add]
          rw [show A.bk (some ⟨b, 0, none⟩) = b from rfl] at this
          rw [this, ← hj]
          simp [List.getD, hlt]
        have hr := run_append_grow (P := P) w t T e ie z ht hie hz a0' 0 0 [] (by simp) (by simp) ⟨b, 0, none⟩ xs.length c2 (xs.map (Value.int kd)) (by rw [List.length_map, h1, Nat.mul_one]) hnews (by omega) (by omega) (growslice_fits (by omega) (by rw [h2]; simpa using hb))
        rw [Nat.zero_add] at hr
        have hge := grownCap_ge w xs.length 0 e
        refine ⟨some ⟨w.heap.size, 0, none⟩, grownCap w xs.length 0 e, _, hr, ?_⟩
        have hzl : (Builtin.zeroCells z.cells (grownCap w xs.length 0 e - xs.length)).toList.length = grownCap w xs.length 0 e - xs.length := by rw [Array.length_toList, size_zeroCells, h3, Nat.mul_one]
        have ea : ([] : List Value).toArray ++ (xs.map (Value.int kd)).toArray ++ Builtin.zeroCells z.cells (grownCap w xs.length 0 e - xs.length) = (xs.map (Value.int kd) ++ (Builtin.zeroCells z.cells (grownCap w xs.length 0 e - xs.length)).toList).toArray := by simp
        rw [ea]
        exact A.X.add h (Bel.alloc (Bel.drew (Bel.refl w)) _) _ (A.vec_new (w := w.drew) (rest := (Builtin.zeroCells z.cells (grownCap w xs.length 0 e - xs.length)).toList) rfl rfl (by rw [List.length_append, List.length_map, hzl]; omega) (by omega)) (fun x hx => Nat.le_of_eq hx.symm)
theorem A.G.dup {t e : TypeId} {s x : Operand} {kd : IntKind} {a0' : Addr} {ao : Option Addr} {cap c2 : Nat} (k by_ : Nat) (xs : List Int) (hk : its[k]? = some (A.vec kd ao cap xs)) (ht : P.underlying t = some (.slice e)) (hi : E.tinfo P e = some (1, by_, 1)) {ln : Nat} (hln : ln = xs.length)
    (hs : E.ev fr s = .slice (some a0') 0 0) (hx : E.ev fr x = .slice ao ln c2) (hb : xs.length * by_ ≤ 140737488355328) (h63 : xs.length ≤ 9223372036854775807)
    (hck : E.ck n ops fr ⟨d, .call { callee := .builtin .append, args := #[s, x], argTypes := #[t, t] }, T, pos, af, gd⟩ = true)
    (kk : ∀ ao' c', E.G P n ops Q l (E.upd fr d (.slice ao' ln c')) o0 w0 (A.X w0 o0 a0 (A.vec kd ao' c' xs :: its)) L) :
    E.G P n ops Q (⟨d, .call { callee := .builtin .append, args := #[s, x], argTypes := #[t, t] }, T, pos, af, gd⟩ :: l) fr o0 w0 (A.X w0 o0 a0 its) L := by
  subst hln
  refine E.G.any (I := Option Addr × Nat) (fun _ => True) (fun a => .slice a.1 xs.length a.2) (fun a => A.X w0 o0 a0 (A.vec kd a.1 a.2 xs :: its)) (fun _ => L) (fun w hh => ?_) hck (fun a _ => kk a.1 a.2)
  have hop : (execOp (E.ev fr) ⟨d, .call { callee := .builtin .append, args := #[s, x], argTypes := #[t, t] }, T, pos, af, gd⟩).run P w = ((Builtin.append_ #[t, t] T #[E.ev fr s, E.ev fr x]).run P w).andThen fun v w' => .ok (.value v) w' := by
    simp [execOp, resolve, invoke, builtin]
  obtain ⟨ao', c', w', hr, hw⟩ := A.run_dup (T := T) (a0' := a0') (c2 := c2) ht hi hb h63 hh hk
  exact ⟨(ao', c'), w', trivial, by rw [hop, hs, hx, hr]; rfl, hw⟩
end
end Go.Proofs.Ytdjjjikokfadiaa

/- Walks: the reference memory, Clean, printed by wip/eng. No condition but what is named. -/
namespace Go.Proofs.Ytdjjjikokfadiaa
set_option linter.unusedVariables false
set_option linter.unusedSimpArgs false
open Go.RowKit
theorem R.n_clean (V : M.V) {r : Nat} {s : R.Sl} {b2 b3 : Option Addr} {d2 d3 : Nat} : [A.blk r [.slice s.a0 (256 * V.n) s.c0, .slice s.a1 (256 * R.len V) s.c1, .slice b2 (256 * V.n) d2, .slice b3 (256 * R.len V) d3, .slice s.a4 V.n s.c4, .bool V.coh], A.vec .u8 s.a0 s.c0 (R.flat V.d V.n), A.vec .u8 s.a1 s.c1 (R.flat V.i (R.len V)), A.vec .u8 b2 d2 (R.flat V.d V.n), A.vec .u8 b3 d3 (R.flat V.i (R.len V)), A.vec .i64 s.a4 s.c4 (R.rts V.r V.n)] = R.its r ⟨s.a0, s.a1, b2, b3, s.a4, s.c0, s.c1, d2, d3, s.c4⟩ V.clean := by
  have h1 : R.flat V.clean.cd V.n = R.flat V.d V.n := R.flat_congr fun j hj x hx => by
    show (if j < V.n then V.d j else V.cd j) x = _
    rw [if_pos hj]
  have h2 : R.flat V.clean.ci (R.len V) = R.flat V.i (R.len V) := R.flat_congr fun j hj x hx => by
    show (if j < V.n then V.i j else V.ci j) x = _
    rw [if_pos (Nat.lt_of_lt_of_le hj (by unfold R.len; split <;> omega))]
  unfold R.its R.vs
  show _ = [A.blk r _, A.vec .u8 s.a0 s.c0 (R.flat V.d V.n), A.vec .u8 s.a1 s.c1 (R.flat V.i (R.len V)), A.vec .u8 b2 d2 (R.flat V.clean.cd V.n), A.vec .u8 b3 d3 (R.flat V.clean.ci (R.len V)), A.vec .i64 s.a4 s.c4 (R.rts V.r V.n)]
  rw [h1, h2]
  rfl
theorem R.len_le (V : M.V) : R.len V ≤ V.n := by unfold R.len; split <;> omega
theorem R_Clean {r : Nat} {s : R.Sl} {V : M.V} (hw : R.Wf V) : A.Tr Try.prog 35 #[.pointer (some ⟨r, 0, none⟩)] (R.its r s V) (I := R.Sl) (fun _ => True) (fun _ => .tuple #[]) (fun s2 => R.its r s2 V.clean) := by
  intro w oo aa hh
  refine E.enter (n := 20) (S := oo) Try.func35 rfl rfl (by kernel_rfl) (A.start (L := [(r, [.slice s.a0 (256 * V.n) s.c0, .slice s.a1 (256 * R.len V) s.c1, .slice s.a2 (256 * V.n) s.c2, .slice s.a3 (256 * R.len V) s.c3, .slice s.a4 V.n s.c4, .bool V.coh])]) hh) ?_
  refine E.C.seq ?_
  refine E.C.region ?_
  refine E.G.op (.pointer (some ⟨r, 0, none⟩)) (fun w => by kernel_rfl) (by kernel_rfl) ?_
  refine A.G.empty (e := 5) (sz := 1) (by kernel_rfl) (by kernel_rfl) (by kernel_rfl) (fun g1 => ?_)
  refine E.G.op (.pointer (some ⟨r, 0, none⟩)) (fun w => by kernel_rfl) (by kernel_rfl) ?_
  refine E.G.op (.pointer (some ⟨r, 0, none⟩)) (fun w => by kernel_rfl) (by kernel_rfl) ?_
  refine E.G.op (.pointer (some ⟨r, 0, none⟩)) (fun w => by kernel_rfl) (by kernel_rfl) ?_
  refine E.G.val (.slice s.a0 (256 * V.n) s.c0) (by kernel_rfl) (fun w h => E.run_load h 0 rfl rfl (by kernel_rfl)) ?_
  refine A.G.dup (e := 5) (a0' := ⟨g1, 0, none⟩) (c2 := s.c0) 0 1 (R.flat V.d V.n) rfl (by kernel_rfl) (by kernel_rfl) (R.flat_len _ _).symm (by kernel_rfl) (by kernel_rfl) (by rw [R.flat_len]; have := hw.n; have := R.len_le V; omega) (by rw [R.flat_len]; have := hw.n; have := R.len_le V; omega) (by kernel_rfl) (fun ao2 cp3 => ?_)
  refine E.G.op (.pointer (some ⟨r, 0, none⟩)) (fun w => by kernel_rfl) (by kernel_rfl) ?_
  refine E.G.op (.pointer (some ⟨r, 2, none⟩)) (fun w => by kernel_rfl) (by kernel_rfl) ?_
  refine E.G.store 0 [.slice s.a0 (256 * V.n) s.c0, .slice s.a1 (256 * R.len V) s.c1, .slice ao2 (256 * V.n) cp3, .slice s.a3 (256 * R.len V) s.c3, .slice s.a4 V.n s.c4, .bool V.coh] rfl rfl (by kernel_rfl) (by kernel_rfl) ?_
  refine E.To.code ?_
  refine E.C.weak [(0, .pointer (some ⟨r, 0, none⟩))] [(r, [.slice s.a0 (256 * V.n) s.c0, .slice s.a1 (256 * R.len V) s.c1, .slice ao2 (256 * V.n) cp3, .slice s.a3 (256 * R.len V) s.c3, .slice s.a4 V.n s.c4, .bool V.coh])] ⟨by kernel_rfl, by kernel_rfl⟩ (List.Sublist.refl _) ?_
  refine E.C.region ?_
  refine E.G.op (.pointer (some ⟨r, 0, none⟩)) (fun w => by kernel_rfl) (by kernel_rfl) ?_
  refine A.G.empty (e := 5) (sz := 1) (by kernel_rfl) (by kernel_rfl) (by kernel_rfl) (fun g4 => ?_)
  refine E.G.op (.pointer (some ⟨r, 0, none⟩)) (fun w => by kernel_rfl) (by kernel_rfl) ?_
  refine E.G.op (.pointer (some ⟨r, 0, none⟩)) (fun w => by kernel_rfl) (by kernel_rfl) ?_
  refine E.G.op (.pointer (some ⟨r, 1, none⟩)) (fun w => by kernel_rfl) (by kernel_rfl) ?_
  refine E.G.val (.slice s.a1 (256 * R.len V) s.c1) (by kernel_rfl) (fun w h => E.run_load h 0 rfl rfl (by kernel_rfl)) ?_
  refine A.G.dup (e := 5) (a0' := ⟨g4, 0, none⟩) (c2 := s.c1) 2 1 (R.flat V.i (R.len V)) rfl (by kernel_rfl) (by kernel_rfl) (R.flat_len _ _).symm (by kernel_rfl) (by kernel_rfl) (by rw [R.flat_len]; have := hw.n; have := R.len_le V; omega) (by rw [R.flat_len]; have := hw.n; have := R.len_le V; omega) (by kernel_rfl) (fun ao5 cp6 => ?_)
  refine E.G.op (.pointer (some ⟨r, 0, none⟩)) (fun w => by kernel_rfl) (by kernel_rfl) ?_
  refine E.G.op (.pointer (some ⟨r, 3, none⟩)) (fun w => by kernel_rfl) (by kernel_rfl) ?_
  refine E.G.store 0 [.slice s.a0 (256 * V.n) s.c0, .slice s.a1 (256 * R.len V) s.c1, .slice ao2 (256 * V.n) cp3, .slice ao5 (256 * R.len V) cp6, .slice s.a4 V.n s.c4, .bool V.coh] rfl rfl (by kernel_rfl) (by kernel_rfl) ?_
  refine E.To.bodyN (fn := Try.f35) [] ?_ ?_
  · exact trivial
  · intro w h
    have hq := A.done (q := [A.blk r ([.slice s.a0 (256 * V.n) s.c0, .slice s.a1 (256 * R.len V) s.c1, .slice ao2 (256 * V.n) cp3, .slice ao5 (256 * R.len V) cp6, .slice s.a4 V.n s.c4, .bool V.coh]), A.vec .u8 s.a0 s.c0 (R.flat V.d V.n), A.vec .u8 s.a1 s.c1 (R.flat V.i (R.len V)), A.vec .u8 ao2 cp3 (R.flat V.d V.n), A.vec .u8 ao5 cp6 (R.flat V.i (R.len V)), A.vec .i64 s.a4 s.c4 (R.rts V.r V.n)]) (r := [A.vec .u8 s.a2 s.c2 (R.flat V.cd V.n), A.vec .u8 s.a3 s.c3 (R.flat V.ci (R.len V))]) h (by kernel_rfl) (A.pm [0, 3, 4, 2, 1, 7, 5, 6] (by kernel_rfl) (by kernel_rfl))
    rw [R.n_clean] at hq
    exact ⟨⟨s.a0, s.a1, ao2, ao5, s.a4, s.c0, s.c1, cp3, cp6, s.c4⟩, trivial, rfl, hq⟩
end Go.Proofs.Ytdjjjikokfadiaa

/- Walks: the reference memory, New, printed by wip/eng. No condition but what is named. -/
namespace Go.Proofs.Ytdjjjikokfadiaa
set_option linter.unusedVariables false
set_option linter.unusedSimpArgs false
open Go.RowKit
theorem R.np_eq (n : Int) : (if (if 4096 < n then 4096 else n) > 0 then (if 4096 < n then 4096 else n) else 0) = ((M.np n : Nat) : Int) := by unfold M.np; split <;> split <;> (try split) <;> omega
theorem R.new_t {g N : Nat} {a0 a2 a4 : Option Addr} {w : World} {o a : Nat → Prop} (h : A.Has [A.blk g [.slice a0 (256 * N) (256 * N), .slice none 0 0, .slice a2 (256 * N) (256 * N), .slice none 0 0, .slice a4 N N, .bool true], A.vec .u8 a0 (256 * N) (List.replicate (256 * N) 0), A.vec .u8 a2 (256 * N) (List.replicate (256 * N) 0), A.vec .i64 a4 N (List.replicate N 0)] w o a) : A.Has (R.its g ⟨a0, none, a2, none, a4, 256 * N, 0, 256 * N, 0, N⟩ (M.V.new N true)) w o a := by
  have h1 := A.vec0 .u8 none (A.vec0 .u8 none h)
  unfold R.its R.vs
  show A.Has [A.blk g _, A.vec .u8 a0 (256 * N) (R.flat (fun _ _ => 0) N), A.vec .u8 none 0 (R.flat (fun _ _ => 0) 0), A.vec .u8 a2 (256 * N) (R.flat (fun _ _ => 0) N), A.vec .u8 none 0 (R.flat (fun _ _ => 0) 0), A.vec .i64 a4 N (R.rts (fun _ => 0) N)] w o a
  rw [R.flat_zero, R.rts_zero]
  exact h1.perm (A.pm [2, 3, 0, 4, 1, 5] (by kernel_rfl) (by kernel_rfl))
theorem R.new_f {g N : Nat} {a0 a1 a2 a3 a4 : Option Addr} {w : World} {o a : Nat → Prop} (h : A.Has [A.blk g [.slice a0 (256 * N) (256 * N), .slice a1 (256 * N) (256 * N), .slice a2 (256 * N) (256 * N), .slice a3 (256 * N) (256 * N), .slice a4 N N, .bool false], A.vec .u8 a0 (256 * N) (List.replicate (256 * N) 0), A.vec .u8 a1 (256 * N) (List.replicate (256 * N) 0), A.vec .u8 a2 (256 * N) (List.replicate (256 * N) 0), A.vec .u8 a3 (256 * N) (List.replicate (256 * N) 0), A.vec .i64 a4 N (List.replicate N 0)] w o a) : A.Has (R.its g ⟨a0, a1, a2, a3, a4, 256 * N, 256 * N, 256 * N, 256 * N, N⟩ (M.V.new N false)) w o a := by
  unfold R.its R.vs
  show A.Has [A.blk g _, A.vec .u8 a0 (256 * N) (R.flat (fun _ _ => 0) N), A.vec .u8 a1 (256 * N) (R.flat (fun _ _ => 0) N), A.vec .u8 a2 (256 * N) (R.flat (fun _ _ => 0) N), A.vec .u8 a3 (256 * N) (R.flat (fun _ _ => 0) N), A.vec .i64 a4 N (R.rts (fun _ => 0) N)] w o a
  rw [R.flat_zero, R.rts_zero]
  exact h
theorem R_New (n : Int) (coh : Bool) : A.Tr Try.prog 43 #[.int .i64 n, .bool coh] [] (I := Nat) (fun _ => True) (fun g => .pointer (some ⟨g, 0, none⟩)) (fun g => [R.It g (M.V.new (M.np n) coh)]) := by
  intro w oo aa hh
  refine E.enter (n := 36) (S := oo) Try.func43 rfl rfl (by kernel_rfl) (A.start (L := []) hh) ?_
  refine E.C.seq ?_
  refine E.C.region ?_
  refine E.G.op (.pointer none) (fun w => by kernel_rfl) (by kernel_rfl) ?_
  refine E.To.code ?_
  refine E.C.seq ?_
  refine E.C.region ?_
  refine E.G.op (.int .i64 n) (fun w => by kernel_rfl) (by kernel_rfl) ?_
  refine E.G.op (.int .i64 (if 4096 < n then 4096 else n)) (fun w => by kernel_rfl) (by kernel_rfl) ?_
  refine E.G.val (.int .i64 ((M.np n : Nat) : Int)) (by kernel_rfl) (fun w h => E.run_as (a := .int .i64 (if (if 4096 < n then 4096 else n) > 0 then (if 4096 < n then 4096 else n) else 0)) (by kernel_rfl) (congrArg (Value.int .i64) (R.np_eq n))) ?_
  refine E.G.op (.int .i64 ((M.np n : Nat) : Int)) (fun w => by kernel_rfl) (by kernel_rfl) ?_
  refine E.To.code ?_
  refine E.C.seq ?_
  refine E.C.held (fun _ => True) (by kernel_rfl) ?_
  refine E.H.take 0 (.int .i64 ((M.np n : Nat) : Int)) rfl (by kernel_rfl) (by kernel_rfl) (by kernel_rfl) (fun _ _ _ h => h) (fun w h => trivial) (.inl ⟨by kernel_rfl, by kernel_rfl, fun w h => by kernel_rfl⟩) (by kernel_rfl) ?_
  refine E.H.take 1 (.int .i64 ((256 * (M.np n) : Nat) : Int)) rfl (by kernel_rfl) (by kernel_rfl) (by kernel_rfl) (fun _ _ _ h => h) (fun w h => trivial) (.inl ⟨by kernel_rfl, by kernel_rfl, fun w h => E.run_as (a := .int .i64 (IntKind.wrap .i64 (256 * ((M.np n : Nat) : Int)))) (by kernel_rfl) (congrArg (Value.int .i64) (by exact Nz.mul64 (x := 256) (y := (M.np n)) (by have := M.np_le n; omega)))⟩) (by kernel_rfl) ?_
  refine E.H.take 3 (.int .i64 ((M.np n : Nat) : Int)) rfl (by kernel_rfl) (by kernel_rfl) (by kernel_rfl) (fun _ _ _ h => h) (fun w h => trivial) (.inl ⟨by kernel_rfl, by kernel_rfl, fun w h => by kernel_rfl⟩) (by kernel_rfl) ?_
  refine E.H.take 4 (.int .i64 ((256 * (M.np n) : Nat) : Int)) rfl (by kernel_rfl) (by kernel_rfl) (by kernel_rfl) (fun _ _ _ h => h) (fun w h => trivial) (.inl ⟨by kernel_rfl, by kernel_rfl, fun w h => E.run_as (a := .int .i64 (IntKind.wrap .i64 (256 * ((M.np n : Nat) : Int)))) (by kernel_rfl) (congrArg (Value.int .i64) (by exact Nz.mul64 (x := 256) (y := (M.np n)) (by have := M.np_le n; omega)))⟩) (by kernel_rfl) ?_
  refine E.H.take 6 (.int .i64 ((M.np n : Nat) : Int)) rfl (by kernel_rfl) (by kernel_rfl) (by kernel_rfl) (fun _ _ _ h => h) (fun w h => trivial) (.inl ⟨by kernel_rfl, by kernel_rfl, fun w h => by kernel_rfl⟩) (by kernel_rfl) ?_
  refine E.H.take 8 (.bool coh) rfl (by kernel_rfl) (by kernel_rfl) (by kernel_rfl) (fun _ _ _ h => h) (fun w h => trivial) (.inl ⟨by kernel_rfl, by kernel_rfl, fun w h => by kernel_rfl⟩) (by kernel_rfl) ?_
  refine E.H.all [2, 5, 7] (by kernel_rfl) (by simp) (List.forall_mem_cons.2 ⟨⟨_, rfl, ?_⟩, List.forall_mem_cons.2 ⟨⟨_, rfl, ?_⟩, List.forall_mem_cons.2 ⟨⟨_, rfl, ?_⟩, fun _ h => (List.not_mem_nil h).elim⟩⟩⟩)
  · skip
    refine A.G.make (e := 5) (kd := .u8) (lk := .i64) (256 * (M.np n)) 1 (by kernel_rfl) (by kernel_rfl) (by kernel_rfl) (by have := M.np_le n; omega) (by have := M.np_le n; omega) (by kernel_rfl) (fun ao1 => ?_)
    refine E.H.back (fun w h => trivial) ?_
    refine E.H.all [5, 7] (by kernel_rfl) (by simp) (List.forall_mem_cons.2 ⟨⟨_, rfl, ?_⟩, List.forall_mem_cons.2 ⟨⟨_, rfl, ?_⟩, fun _ h => (List.not_mem_nil h).elim⟩⟩)
    · skip
      refine A.G.make (e := 5) (kd := .u8) (lk := .i64) (256 * (M.np n)) 1 (by kernel_rfl) (by kernel_rfl) (by kernel_rfl) (by have := M.np_le n; omega) (by have := M.np_le n; omega) (by kernel_rfl) (fun ao2 => ?_)
      refine E.H.back (fun w h => trivial) ?_
      refine E.H.all [7] (by kernel_rfl) (by simp) (List.forall_mem_cons.2 ⟨⟨_, rfl, ?_⟩, fun _ h => (List.not_mem_nil h).elim⟩)
      · skip
        refine A.G.make (e := 3) (kd := .i64) (lk := .i64) (M.np n) 8 (by kernel_rfl) (by kernel_rfl) (by kernel_rfl) (by have := M.np_le n; omega) (by have := M.np_le n; omega) (by kernel_rfl) (fun ao3 => ?_)
        refine E.H.back (fun w h => trivial) ?_
        refine E.H.take 9 (.agg #[.slice ao1 (256 * (M.np n)) (256 * (M.np n)), .slice none 0 0, .slice ao2 (256 * (M.np n)) (256 * (M.np n)), .slice none 0 0, .slice ao3 (M.np n) (M.np n), .bool coh]) rfl (by kernel_rfl) (by kernel_rfl) (by kernel_rfl) (fun _ _ _ h => h) (fun w h => trivial) (.inl ⟨by kernel_rfl, by kernel_rfl, fun w h => E.run_build #[.slice ao1 (256 * (M.np n)) (256 * (M.np n)), .slice none 0 0, .slice ao2 (256 * (M.np n)) (256 * (M.np n)), .slice none 0 0, .slice ao3 (M.np n) (M.np n), .bool coh] (by kernel_rfl) w⟩) (by kernel_rfl) ?_
        refine E.H.all [10] (by kernel_rfl) (by simp) (List.forall_mem_cons.2 ⟨⟨_, rfl, ?_⟩, fun _ h => (List.not_mem_nil h).elim⟩)
        · skip
          refine E.G.new (fun g => .pointer (some ⟨g, 0, none⟩)) [.slice ao1 (256 * (M.np n)) (256 * (M.np n)), .slice none 0 0, .slice ao2 (256 * (M.np n)) (256 * (M.np n)), .slice none 0 0, .slice ao3 (M.np n) (M.np n), .bool coh] 89 (fun w => by kernel_rfl) (by kernel_rfl) (fun g4 => ?_)
          refine E.H.back (fun w h => trivial) ?_
          refine E.H.take 11 (.pointer (some ⟨g4, 0, none⟩)) rfl (by kernel_rfl) (by kernel_rfl) (by kernel_rfl) (fun _ _ _ h => h) (fun w h => trivial) (.inl ⟨by kernel_rfl, by kernel_rfl, fun w h => by kernel_rfl⟩) (by kernel_rfl) ?_
          refine E.H.done (by kernel_rfl) ?_
          refine E.To.code ?_
          refine E.C.weak [(1, .bool coh), (4, .pointer none), (5, .int .i64 ((M.np n : Nat) : Int)), (6, .pointer (some ⟨g4, 0, none⟩))] [(g4, [.slice ao1 (256 * (M.np n)) (256 * (M.np n)), .slice none 0 0, .slice ao2 (256 * (M.np n)) (256 * (M.np n)), .slice none 0 0, .slice ao3 (M.np n) (M.np n), .bool coh])] ⟨by kernel_rfl, by kernel_rfl⟩ (List.Sublist.refl _) ?_
          refine E.C.seq ?_
          refine E.C.seq ?_
          refine E.C.region ?_
          refine E.G.op (.bool coh) (fun w => by kernel_rfl) (by kernel_rfl) ?_
          refine E.G.op (.bool (!coh)) (fun w => by kernel_rfl) (by kernel_rfl) ?_
          refine E.To.code ?_
          refine E.C.cond (!coh) (by kernel_rfl) (by kernel_rfl) (fun hc5 => ?_) (fun hc5 => ?_)
          · skip
            refine E.C.seq ?_
            refine E.C.region ?_
            refine E.G.op (.pointer (some ⟨g4, 0, none⟩)) (fun w => by kernel_rfl) (by kernel_rfl) ?_
            refine E.G.op (.int .i64 ((M.np n : Nat) : Int)) (fun w => by kernel_rfl) (by kernel_rfl) ?_
            refine E.G.val (.int .i64 ((256 * (M.np n) : Nat) : Int)) (by kernel_rfl) (fun w h => E.run_as (a := .int .i64 (IntKind.wrap .i64 (256 * ((M.np n : Nat) : Int)))) (by kernel_rfl) (congrArg (Value.int .i64) (by exact Nz.mul64 (x := 256) (y := (M.np n)) (by have := M.np_le n; omega)))) ?_
            refine A.G.make (e := 5) (kd := .u8) (lk := .i64) (256 * (M.np n)) 1 (by kernel_rfl) (by kernel_rfl) (by kernel_rfl) (by have := M.np_le n; omega) (by have := M.np_le n; omega) (by kernel_rfl) (fun ao6 => ?_)
            refine E.G.op (.pointer (some ⟨g4, 0, none⟩)) (fun w => by kernel_rfl) (by kernel_rfl) ?_
            refine E.G.op (.pointer (some ⟨g4, 1, none⟩)) (fun w => by kernel_rfl) (by kernel_rfl) ?_
            refine E.G.store 0 [.slice ao1 (256 * (M.np n)) (256 * (M.np n)), .slice ao6 (256 * (M.np n)) (256 * (M.np n)), .slice ao2 (256 * (M.np n)) (256 * (M.np n)), .slice none 0 0, .slice ao3 (M.np n) (M.np n), .bool coh] rfl rfl (by kernel_rfl) (by kernel_rfl) ?_
            refine E.To.code ?_
            refine E.C.weak [(4, .pointer none), (5, .int .i64 ((M.np n : Nat) : Int)), (6, .pointer (some ⟨g4, 0, none⟩))] [(g4, [.slice ao1 (256 * (M.np n)) (256 * (M.np n)), .slice ao6 (256 * (M.np n)) (256 * (M.np n)), .slice ao2 (256 * (M.np n)) (256 * (M.np n)), .slice none 0 0, .slice ao3 (M.np n) (M.np n), .bool coh])] ⟨by kernel_rfl, by kernel_rfl⟩ (List.Sublist.refl _) ?_
            refine E.C.region ?_
            refine E.G.op (.pointer (some ⟨g4, 0, none⟩)) (fun w => by kernel_rfl) (by kernel_rfl) ?_
            refine E.G.op (.int .i64 ((M.np n : Nat) : Int)) (fun w => by kernel_rfl) (by kernel_rfl) ?_
            refine E.G.val (.int .i64 ((256 * (M.np n) : Nat) : Int)) (by kernel_rfl) (fun w h => E.run_as (a := .int .i64 (IntKind.wrap .i64 (256 * ((M.np n : Nat) : Int)))) (by kernel_rfl) (congrArg (Value.int .i64) (by exact Nz.mul64 (x := 256) (y := (M.np n)) (by have := M.np_le n; omega)))) ?_
            refine A.G.make (e := 5) (kd := .u8) (lk := .i64) (256 * (M.np n)) 1 (by kernel_rfl) (by kernel_rfl) (by kernel_rfl) (by have := M.np_le n; omega) (by have := M.np_le n; omega) (by kernel_rfl) (fun ao7 => ?_)
            refine E.G.op (.pointer (some ⟨g4, 0, none⟩)) (fun w => by kernel_rfl) (by kernel_rfl) ?_
            refine E.G.op (.pointer (some ⟨g4, 3, none⟩)) (fun w => by kernel_rfl) (by kernel_rfl) ?_
            refine E.G.store 0 [.slice ao1 (256 * (M.np n)) (256 * (M.np n)), .slice ao6 (256 * (M.np n)) (256 * (M.np n)), .slice ao2 (256 * (M.np n)) (256 * (M.np n)), .slice ao7 (256 * (M.np n)) (256 * (M.np n)), .slice ao3 (M.np n) (M.np n), .bool coh] rfl rfl (by kernel_rfl) (by kernel_rfl) ?_
            refine E.To.code ?_
            refine E.C.seq ?_
            refine E.C.region ?_
            refine E.G.op (.pointer (some ⟨g4, 0, none⟩)) (fun w => by kernel_rfl) (by kernel_rfl) ?_
            refine E.G.op (.pointer (some ⟨g4, 0, none⟩)) (fun w => by kernel_rfl) (by kernel_rfl) ?_
            refine E.To.code ?_
            refine E.C.weak [(4, .pointer (some ⟨g4, 0, none⟩))] [(g4, [.slice ao1 (256 * (M.np n)) (256 * (M.np n)), .slice ao6 (256 * (M.np n)) (256 * (M.np n)), .slice ao2 (256 * (M.np n)) (256 * (M.np n)), .slice ao7 (256 * (M.np n)) (256 * (M.np n)), .slice ao3 (M.np n) (M.np n), .bool coh])] ⟨by kernel_rfl, by kernel_rfl⟩ (List.Sublist.refl _) ?_
            refine E.C.ret (E.To.body (fn := Try.f43) [.pointer (some ⟨g4, 0, none⟩)] ?_ ?_)
            · exact ⟨⟨by kernel_rfl, by kernel_rfl⟩, trivial⟩
            · intro w h
              obtain rfl : coh = false := by simpa using hc5
              obtain ⟨o1, a1, hq, hc, hg⟩ := A.done (q := [A.blk g4 ([.slice ao1 (256 * (M.np n)) (256 * (M.np n)), .slice ao6 (256 * (M.np n)) (256 * (M.np n)), .slice ao2 (256 * (M.np n)) (256 * (M.np n)), .slice ao7 (256 * (M.np n)) (256 * (M.np n)), .slice ao3 (M.np n) (M.np n), .bool false]), A.vec .u8 ao1 (256 * (M.np n)) (List.replicate (256 * (M.np n)) 0), A.vec .u8 ao6 (256 * (M.np n)) (List.replicate (256 * (M.np n)) 0), A.vec .u8 ao2 (256 * (M.np n)) (List.replicate (256 * (M.np n)) 0), A.vec .u8 ao7 (256 * (M.np n)) (List.replicate (256 * (M.np n)) 0), A.vec .i64 ao3 (M.np n) (List.replicate (M.np n) 0)]) (r := []) h (by kernel_rfl) (A.pm [0, 5, 2, 4, 1, 3] (by kernel_rfl) (by kernel_rfl))
              exact ⟨g4, trivial, rfl, o1, a1, A.Has.one ⟨R.Wf.new (M.np_le n) _, _, R.new_f hq⟩, hc, hg⟩
          · skip
            refine E.C.skip (E.To.code ?_)
            refine E.C.seq ?_
            refine E.C.region ?_
            refine E.G.op (.pointer (some ⟨g4, 0, none⟩)) (fun w => by kernel_rfl) (by kernel_rfl) ?_
            refine E.G.op (.pointer (some ⟨g4, 0, none⟩)) (fun w => by kernel_rfl) (by kernel_rfl) ?_
            refine E.To.code ?_
            refine E.C.ret (E.To.body (fn := Try.f43) [.pointer (some ⟨g4, 0, none⟩)] ?_ ?_)
            · exact ⟨⟨by kernel_rfl, by kernel_rfl⟩, trivial⟩
            · intro w h
              obtain rfl : coh = true := by simpa using hc5
              obtain ⟨o1, a1, hq, hc, hg⟩ := A.done (q := [A.blk g4 ([.slice ao1 (256 * (M.np n)) (256 * (M.np n)), .slice none 0 0, .slice ao2 (256 * (M.np n)) (256 * (M.np n)), .slice none 0 0, .slice ao3 (M.np n) (M.np n), .bool true]), A.vec .u8 ao1 (256 * (M.np n)) (List.replicate (256 * (M.np n)) 0), A.vec .u8 ao2 (256 * (M.np n)) (List.replicate (256 * (M.np n)) 0), A.vec .i64 ao3 (M.np n) (List.replicate (M.np n) 0)]) (r := []) h (by kernel_rfl) (A.pm [0, 3, 2, 1] (by kernel_rfl) (by kernel_rfl))
              exact ⟨g4, trivial, rfl, o1, a1, A.Has.one ⟨R.Wf.new (M.np_le n) _, _, R.new_t hq⟩, hc, hg⟩
    · skip
      refine A.G.make (e := 3) (kd := .i64) (lk := .i64) (M.np n) 8 (by kernel_rfl) (by kernel_rfl) (by kernel_rfl) (by have := M.np_le n; omega) (by have := M.np_le n; omega) (by kernel_rfl) (fun ao8 => ?_)
      refine E.H.back (fun w h => trivial) ?_
      refine E.H.all [5] (by kernel_rfl) (by simp) (List.forall_mem_cons.2 ⟨⟨_, rfl, ?_⟩, fun _ h => (List.not_mem_nil h).elim⟩)
      · skip
        refine A.G.make (e := 5) (kd := .u8) (lk := .i64) (256 * (M.np n)) 1 (by kernel_rfl) (by kernel_rfl) (by kernel_rfl) (by have := M.np_le n; omega) (by have := M.np_le n; omega) (by kernel_rfl) (fun ao9 => ?_)
        refine E.H.back (fun w h => trivial) ?_
        refine E.H.take 9 (.agg #[.slice ao1 (256 * (M.np n)) (256 * (M.np n)), .slice none 0 0, .slice ao9 (256 * (M.np n)) (256 * (M.np n)), .slice none 0 0, .slice ao8 (M.np n) (M.np n), .bool coh]) rfl (by kernel_rfl) (by kernel_rfl) (by kernel_rfl) (fun _ _ _ h => h) (fun w h => trivial) (.inl ⟨by kernel_rfl, by kernel_rfl, fun w h => E.run_build #[.slice ao1 (256 * (M.np n)) (256 * (M.np n)), .slice none 0 0, .slice ao9 (256 * (M.np n)) (256 * (M.np n)), .slice none 0 0, .slice ao8 (M.np n) (M.np n), .bool coh] (by kernel_rfl) w⟩) (by kernel_rfl) ?_
        refine E.H.all [10] (by kernel_rfl) (by simp) (List.forall_mem_cons.2 ⟨⟨_, rfl, ?_⟩, fun _ h => (List.not_mem_nil h).elim⟩)
        · skip
          refine E.G.new (fun g => .pointer (some ⟨g, 0, none⟩)) [.slice ao1 (256 * (M.np n)) (256 * (M.np n)), .slice none 0 0, .slice ao9 (256 * (M.np n)) (256 * (M.np n)), .slice none 0 0, .slice ao8 (M.np n) (M.np n), .bool coh] 89 (fun w => by kernel_rfl) (by kernel_rfl) (fun g10 => ?_)
          refine E.H.back (fun w h => trivial) ?_
          refine E.H.take 11 (.pointer (some ⟨g10, 0, none⟩)) rfl (by kernel_rfl) (by kernel_rfl) (by kernel_rfl) (fun _ _ _ h => h) (fun w h => trivial) (.inl ⟨by kernel_rfl, by kernel_rfl, fun w h => by kernel_rfl⟩) (by kernel_rfl) ?_
          refine E.H.done (by kernel_rfl) ?_
          refine E.To.code ?_
          refine E.C.weak [(1, .bool coh), (4, .pointer none), (5, .int .i64 ((M.np n : Nat) : Int)), (6, .pointer (some ⟨g10, 0, none⟩))] [(g10, [.slice ao1 (256 * (M.np n)) (256 * (M.np n)), .slice none 0 0, .slice ao9 (256 * (M.np n)) (256 * (M.np n)), .slice none 0 0, .slice ao8 (M.np n) (M.np n), .bool coh])] ⟨by kernel_rfl, by kernel_rfl⟩ (List.Sublist.refl _) ?_
          refine E.C.seq ?_
          refine E.C.seq ?_
          refine E.C.region ?_
          refine E.G.op (.bool coh) (fun w => by kernel_rfl) (by kernel_rfl) ?_
          refine E.G.op (.bool (!coh)) (fun w => by kernel_rfl) (by kernel_rfl) ?_
          refine E.To.code ?_
          refine E.C.cond (!coh) (by kernel_rfl) (by kernel_rfl) (fun hc11 => ?_) (fun hc11 => ?_)
          · skip
            refine E.C.seq ?_
            refine E.C.region ?_
            refine E.G.op (.pointer (some ⟨g10, 0, none⟩)) (fun w => by kernel_rfl) (by kernel_rfl) ?_
            refine E.G.op (.int .i64 ((M.np n : Nat) : Int)) (fun w => by kernel_rfl) (by kernel_rfl) ?_
            refine E.G.val (.int .i64 ((256 * (M.np n) : Nat) : Int)) (by kernel_rfl) (fun w h => E.run_as (a := .int .i64 (IntKind.wrap .i64 (256 * ((M.np n : Nat) : Int)))) (by kernel_rfl) (congrArg (Value.int .i64) (by exact Nz.mul64 (x := 256) (y := (M.np n)) (by have := M.np_le n; omega)))) ?_
            refine A.G.make (e := 5) (kd := .u8) (lk := .i64) (256 * (M.np n)) 1 (by kernel_rfl) (by kernel_rfl) (by kernel_rfl) (by have := M.np_le n; omega) (by have := M.np_le n; omega) (by kernel_rfl) (fun ao12 => ?_)
            refine E.G.op (.pointer (some ⟨g10, 0, none⟩)) (fun w => by kernel_rfl) (by kernel_rfl) ?_
            refine E.G.op (.pointer (some ⟨g10, 1, none⟩)) (fun w => by kernel_rfl) (by kernel_rfl) ?_
            refine E.G.store 0 [.slice ao1 (256 * (M.np n)) (256 * (M.np n)), .slice ao12 (256 * (M.np n)) (256 * (M.np n)), .slice ao9 (256 * (M.np n)) (256 * (M.np n)), .slice none 0 0, .slice ao8 (M.np n) (M.np n), .bool coh] rfl rfl (by kernel_rfl) (by kernel_rfl) ?_
            refine E.To.code ?_
            refine E.C.weak [(4, .pointer none), (5, .int .i64 ((M.np n : Nat) : Int)), (6, .pointer (some ⟨g10, 0, none⟩))] [(g10, [.slice ao1 (256 * (M.np n)) (256 * (M.np n)), .slice ao12 (256 * (M.np n)) (256 * (M.np n)), .slice ao9 (256 * (M.np n)) (256 * (M.np n)), .slice none 0 0, .slice ao8 (M.np n) (M.np n), .bool coh])] ⟨by kernel_rfl, by kernel_rfl⟩ (List.Sublist.refl _) ?_
            refine E.C.region ?_
            refine E.G.op (.pointer (some ⟨g10, 0, none⟩)) (fun w => by kernel_rfl) (by kernel_rfl) ?_
            refine E.G.op (.int .i64 ((M.np n : Nat) : Int)) (fun w => by kernel_rfl) (by kernel_rfl) ?_
            refine E.G.val (.int .i64 ((256 * (M.np n) : Nat) : Int)) (by kernel_rfl) (fun w h => E.run_as (a := .int .i64 (IntKind.wrap .i64 (256 * ((M.np n : Nat) : Int)))) (by kernel_rfl) (congrArg (Value.int .i64) (by exact Nz.mul64 (x := 256) (y := (M.np n)) (by have := M.np_le n; omega)))) ?_
            refine A.G.make (e := 5) (kd := .u8) (lk := .i64) (256 * (M.np n)) 1 (by kernel_rfl) (by kernel_rfl) (by kernel_rfl) (by have := M.np_le n; omega) (by have := M.np_le n; omega) (by kernel_rfl) (fun ao13 => ?_)
            refine E.G.op (.pointer (some ⟨g10, 0, none⟩)) (fun w => by kernel_rfl) (by kernel_rfl) ?_
            refine E.G.op (.pointer (some ⟨g10, 3, none⟩)) (fun w => by kernel_rfl) (by kernel_rfl) ?_
            refine E.G.store 0 [.slice ao1 (256 * (M.np n)) (256 * (M.np n)), .slice ao12 (256 * (M.np n)) (256 * (M.np n)), .slice ao9 (256 * (M.np n)) (256 * (M.np n)), .slice ao13 (256 * (M.np n)) (256 * (M.np n)), .slice ao8 (M.np n) (M.np n), .bool coh] rfl rfl (by kernel_rfl) (by kernel_rfl) ?_
            refine E.To.code ?_
            refine E.C.seq ?_
            refine E.C.region ?_
            refine E.G.op (.pointer (some ⟨g10, 0, none⟩)) (fun w => by kernel_rfl) (by kernel_rfl) ?_
            refine E.G.op (.pointer (some ⟨g10, 0, none⟩)) (fun w => by kernel_rfl) (by kernel_rfl) ?_
            refine E.To.code ?_
            refine E.C.weak [(4, .pointer (some ⟨g10, 0, none⟩))] [(g10, [.slice ao1 (256 * (M.np n)) (256 * (M.np n)), .slice ao12 (256 * (M.np n)) (256 * (M.np n)), .slice ao9 (256 * (M.np n)) (256 * (M.np n)), .slice ao13 (256 * (M.np n)) (256 * (M.np n)), .slice ao8 (M.np n) (M.np n), .bool coh])] ⟨by kernel_rfl, by kernel_rfl⟩ (List.Sublist.refl _) ?_
            refine E.C.ret (E.To.body (fn := Try.f43) [.pointer (some ⟨g10, 0, none⟩)] ?_ ?_)
            · exact ⟨⟨by kernel_rfl, by kernel_rfl⟩, trivial⟩
            · intro w h
              obtain rfl : coh = false := by simpa using hc11
              obtain ⟨o1, a1, hq, hc, hg⟩ := A.done (q := [A.blk g10 ([.slice ao1 (256 * (M.np n)) (256 * (M.np n)), .slice ao12 (256 * (M.np n)) (256 * (M.np n)), .slice ao9 (256 * (M.np n)) (256 * (M.np n)), .slice ao13 (256 * (M.np n)) (256 * (M.np n)), .slice ao8 (M.np n) (M.np n), .bool false]), A.vec .u8 ao1 (256 * (M.np n)) (List.replicate (256 * (M.np n)) 0), A.vec .u8 ao12 (256 * (M.np n)) (List.replicate (256 * (M.np n)) 0), A.vec .u8 ao9 (256 * (M.np n)) (List.replicate (256 * (M.np n)) 0), A.vec .u8 ao13 (256 * (M.np n)) (List.replicate (256 * (M.np n)) 0), A.vec .i64 ao8 (M.np n) (List.replicate (M.np n) 0)]) (r := []) h (by kernel_rfl) (A.pm [0, 5, 2, 3, 1, 4] (by kernel_rfl) (by kernel_rfl))
              exact ⟨g10, trivial, rfl, o1, a1, A.Has.one ⟨R.Wf.new (M.np_le n) _, _, R.new_f hq⟩, hc, hg⟩
          · skip
            refine E.C.skip (E.To.code ?_)
            refine E.C.seq ?_
            refine E.C.region ?_
            refine E.G.op (.pointer (some ⟨g10, 0, none⟩)) (fun w => by kernel_rfl) (by kernel_rfl) ?_
            refine E.G.op (.pointer (some ⟨g10, 0, none⟩)) (fun w => by kernel_rfl) (by kernel_rfl) ?_
            refine E.To.code ?_
            refine E.C.ret (E.To.body (fn := Try.f43) [.pointer (some ⟨g10, 0, none⟩)] ?_ ?_)
            · exact ⟨⟨by kernel_rfl, by kernel_rfl⟩, trivial⟩
            · intro w h
              obtain rfl : coh = true := by simpa using hc11
              obtain ⟨o1, a1, hq, hc, hg⟩ := A.done (q := [A.blk g10 ([.slice ao1 (256 * (M.np n)) (256 * (M.np n)), .slice none 0 0, .slice ao9 (256 * (M.np n)) (256 * (M.np n)), .slice none 0 0, .slice ao8 (M.np n) (M.np n), .bool true]), A.vec .u8 ao1 (256 * (M.np n)) (List.replicate (256 * (M.np n)) 0), A.vec .u8 ao9 (256 * (M.np n)) (List.replicate (256 * (M.np n)) 0), A.vec .i64 ao8 (M.np n) (List.replicate (M.np n) 0)]) (r := []) h (by kernel_rfl) (A.pm [0, 3, 1, 2] (by kernel_rfl) (by kernel_rfl))
              exact ⟨g10, trivial, rfl, o1, a1, A.Has.one ⟨R.Wf.new (M.np_le n) _, _, R.new_t hq⟩, hc, hg⟩
  · skip
    refine A.G.make (e := 5) (kd := .u8) (lk := .i64) (256 * (M.np n)) 1 (by kernel_rfl) (by kernel_rfl) (by kernel_rfl) (by have := M.np_le n; omega) (by have := M.np_le n; omega) (by kernel_rfl) (fun ao14 => ?_)
    refine E.H.back (fun w h => trivial) ?_
    refine E.H.all [2, 7] (by kernel_rfl) (by simp) (List.forall_mem_cons.2 ⟨⟨_, rfl, ?_⟩, List.forall_mem_cons.2 ⟨⟨_, rfl, ?_⟩, fun _ h => (List.not_mem_nil h).elim⟩⟩)
    · skip
      refine A.G.make (e := 5) (kd := .u8) (lk := .i64) (256 * (M.np n)) 1 (by kernel_rfl) (by kernel_rfl) (by kernel_rfl) (by have := M.np_le n; omega) (by have := M.np_le n; omega) (by kernel_rfl) (fun ao15 => ?_)
      refine E.H.back (fun w h => trivial) ?_
      refine E.H.all [7] (by kernel_rfl) (by simp) (List.forall_mem_cons.2 ⟨⟨_, rfl, ?_⟩, fun _ h => (List.not_mem_nil h).elim⟩)
      · skip
        refine A.G.make (e := 3) (kd := .i64) (lk := .i64) (M.np n) 8 (by kernel_rfl) (by kernel_rfl) (by kernel_rfl) (by have := M.np_le n; omega) (by have := M.np_le n; omega) (by kernel_rfl) (fun ao16 => ?_)
        refine E.H.back (fun w h => trivial) ?_
        refine E.H.take 9 (.agg #[.slice ao15 (256 * (M.np n)) (256 * (M.np n)), .slice none 0 0, .slice ao14 (256 * (M.np n)) (256 * (M.np n)), .slice none 0 0, .slice ao16 (M.np n) (M.np n), .bool coh]) rfl (by kernel_rfl) (by kernel_rfl) (by kernel_rfl) (fun _ _ _ h => h) (fun w h => trivial) (.inl ⟨by kernel_rfl, by kernel_rfl, fun w h => E.run_build #[.slice ao15 (256 * (M.np n)) (256 * (M.np n)), .slice none 0 0, .slice ao14 (256 * (M.np n)) (256 * (M.np n)), .slice none 0 0, .slice ao16 (M.np n) (M.np n), .bool coh] (by kernel_rfl) w⟩) (by kernel_rfl) ?_
        refine E.H.all [10] (by kernel_rfl) (by simp) (List.forall_mem_cons.2 ⟨⟨_, rfl, ?_⟩, fun _ h => (List.not_mem_nil h).elim⟩)
        · skip
          refine E.G.new (fun g => .pointer (some ⟨g, 0, none⟩)) [.slice ao15 (256 * (M.np n)) (256 * (M.np n)), .slice none 0 0, .slice ao14 (256 * (M.np n)) (256 * (M.np n)), .slice none 0 0, .slice ao16 (M.np n) (M.np n), .bool coh] 89 (fun w => by kernel_rfl) (by kernel_rfl) (fun g17 => ?_)
          refine E.H.back (fun w h => trivial) ?_
          refine E.H.take 11 (.pointer (some ⟨g17, 0, none⟩)) rfl (by kernel_rfl) (by kernel_rfl) (by kernel_rfl) (fun _ _ _ h => h) (fun w h => trivial) (.inl ⟨by kernel_rfl, by kernel_rfl, fun w h => by kernel_rfl⟩) (by kernel_rfl) ?_
          refine E.H.done (by kernel_rfl) ?_
          refine E.To.code ?_
          refine E.C.weak [(1, .bool coh), (4, .pointer none), (5, .int .i64 ((M.np n : Nat) : Int)), (6, .pointer (some ⟨g17, 0, none⟩))] [(g17, [.slice ao15 (256 * (M.np n)) (256 * (M.np n)), .slice none 0 0, .slice ao14 (256 * (M.np n)) (256 * (M.np n)), .slice none 0 0, .slice ao16 (M.np n) (M.np n), .bool coh])] ⟨by kernel_rfl, by kernel_rfl⟩ (List.Sublist.refl _) ?_
          refine E.C.seq ?_
          refine E.C.seq ?_
          refine E.C.region ?_
          refine E.G.op (.bool coh) (fun w => by kernel_rfl) (by kernel_rfl) ?_
          refine E.G.op (.bool (!coh)) (fun w => by kernel_rfl) (by kernel_rfl) ?_
          refine E.To.code ?_
          refine E.C.cond (!coh) (by kernel_rfl) (by kernel_rfl) (fun hc18 => ?_) (fun hc18 => ?_)
          · skip
            refine E.C.seq ?_
            refine E.C.region ?_
            refine E.G.op (.pointer (some ⟨g17, 0, none⟩)) (fun w => by kernel_rfl) (by kernel_rfl) ?_
            refine E.G.op (.int .i64 ((M.np n : Nat) : Int)) (fun w => by kernel_rfl) (by kernel_rfl) ?_
            refine E.G.val (.int .i64 ((256 * (M.np n) : Nat) : Int)) (by kernel_rfl) (fun w h => E.run_as (a := .int .i64 (IntKind.wrap .i64 (256 * ((M.np n : Nat) : Int)))) (by kernel_rfl) (congrArg (Value.int .i64) (by exact Nz.mul64 (x := 256) (y := (M.np n)) (by have := M.np_le n; omega)))) ?_
            refine A.G.make (e := 5) (kd := .u8) (lk := .i64) (256 * (M.np n)) 1 (by kernel_rfl) (by kernel_rfl) (by kernel_rfl) (by have := M.np_le n; omega) (by have := M.np_le n; omega) (by kernel_rfl) (fun ao19 => ?_)
            refine E.G.op (.pointer (some ⟨g17, 0, none⟩)) (fun w => by kernel_rfl) (by kernel_rfl) ?_
            refine E.G.op (.pointer (some ⟨g17, 1, none⟩)) (fun w => by kernel_rfl) (by kernel_rfl) ?_
            refine E.G.store 0 [.slice ao15 (256 * (M.np n)) (256 * (M.np n)), .slice ao19 (256 * (M.np n)) (256 * (M.np n)), .slice ao14 (256 * (M.np n)) (256 * (M.np n)), .slice none 0 0, .slice ao16 (M.np n) (M.np n), .bool coh] rfl rfl (by kernel_rfl) (by kernel_rfl) ?_
            refine E.To.code ?_
            refine E.C.weak [(4, .pointer none), (5, .int .i64 ((M.np n : Nat) : Int)), (6, .pointer (some ⟨g17, 0, none⟩))] [(g17, [.slice ao15 (256 * (M.np n)) (256 * (M.np n)), .slice ao19 (256 * (M.np n)) (256 * (M.np n)), .slice ao14 (256 * (M.np n)) (256 * (M.np n)), .slice none 0 0, .slice ao16 (M.np n) (M.np n), .bool coh])] ⟨by kernel_rfl, by kernel_rfl⟩ (List.Sublist.refl _) ?_
            refine E.C.region ?_
            refine E.G.op (.pointer (some ⟨g17, 0, none⟩)) (fun w => by kernel_rfl) (by kernel_rfl) ?_
            refine E.G.op (.int .i64 ((M.np n : Nat) : Int)) (fun w => by kernel_rfl) (by kernel_rfl) ?_
            refine E.G.val (.int .i64 ((256 * (M.np n) : Nat) : Int)) (by kernel_rfl) (fun w h => E.run_as (a := .int .i64 (IntKind.wrap .i64 (256 * ((M.np n : Nat) : Int)))) (by kernel_rfl) (congrArg (Value.int .i64) (by exact Nz.mul64 (x := 256) (y := (M.np n)) (by have := M.np_le n; omega)))) ?_
            refine A.G.make (e := 5) (kd := .u8) (lk := .i64) (256 * (M.np n)) 1 (by kernel_rfl) (by kernel_rfl) (by kernel_rfl) (by have := M.np_le n; omega) (by have := M.np_le n; omega) (by kernel_rfl) (fun ao20 => ?_)
            refine E.G.op (.pointer (some ⟨g17, 0, none⟩)) (fun w => by kernel_rfl) (by kernel_rfl) ?_
            refine E.G.op (.pointer (some ⟨g17, 3, none⟩)) (fun w => by kernel_rfl) (by kernel_rfl) ?_
            refine E.G.store 0 [.slice ao15 (256 * (M.np n)) (256 * (M.np n)), .slice ao19 (256 * (M.np n)) (256 * (M.np n)), .slice ao14 (256 * (M.np n)) (256 * (M.np n)), .slice ao20 (256 * (M.np n)) (256 * (M.np n)), .slice ao16 (M.np n) (M.np n), .bool coh] rfl rfl (by kernel_rfl) (by kernel_rfl) ?_
            refine E.To.code ?_
            refine E.C.seq ?_
            refine E.C.region ?_
            refine E.G.op (.pointer (some ⟨g17, 0, none⟩)) (fun w => by kernel_rfl) (by kernel_rfl) ?_
            refine E.G.op (.pointer (some ⟨g17, 0, none⟩)) (fun w => by kernel_rfl) (by kernel_rfl) ?_
            refine E.To.code ?_
            refine E.C.weak [(4, .pointer (some ⟨g17, 0, none⟩))] [(g17, [.slice ao15 (256 * (M.np n)) (256 * (M.np n)), .slice ao19 (256 * (M.np n)) (256 * (M.np n)), .slice ao14 (256 * (M.np n)) (256 * (M.np n)), .slice ao20 (256 * (M.np n)) (256 * (M.np n)), .slice ao16 (M.np n) (M.np n), .bool coh])] ⟨by kernel_rfl, by kernel_rfl⟩ (List.Sublist.refl _) ?_
            refine E.C.ret (E.To.body (fn := Try.f43) [.pointer (some ⟨g17, 0, none⟩)] ?_ ?_)
            · exact ⟨⟨by kernel_rfl, by kernel_rfl⟩, trivial⟩
            · intro w h
              obtain rfl : coh = false := by simpa using hc18
              obtain ⟨o1, a1, hq, hc, hg⟩ := A.done (q := [A.blk g17 ([.slice ao15 (256 * (M.np n)) (256 * (M.np n)), .slice ao19 (256 * (M.np n)) (256 * (M.np n)), .slice ao14 (256 * (M.np n)) (256 * (M.np n)), .slice ao20 (256 * (M.np n)) (256 * (M.np n)), .slice ao16 (M.np n) (M.np n), .bool false]), A.vec .u8 ao15 (256 * (M.np n)) (List.replicate (256 * (M.np n)) 0), A.vec .u8 ao19 (256 * (M.np n)) (List.replicate (256 * (M.np n)) 0), A.vec .u8 ao14 (256 * (M.np n)) (List.replicate (256 * (M.np n)) 0), A.vec .u8 ao20 (256 * (M.np n)) (List.replicate (256 * (M.np n)) 0), A.vec .i64 ao16 (M.np n) (List.replicate (M.np n) 0)]) (r := []) h (by kernel_rfl) (A.pm [0, 4, 2, 5, 1, 3] (by kernel_rfl) (by kernel_rfl))
              exact ⟨g17, trivial, rfl, o1, a1, A.Has.one ⟨R.Wf.new (M.np_le n) _, _, R.new_f hq⟩, hc, hg⟩
          · skip
            refine E.C.skip (E.To.code ?_)
            refine E.C.seq ?_
            refine E.C.region ?_
            refine E.G.op (.pointer (some ⟨g17, 0, none⟩)) (fun w => by kernel_rfl) (by kernel_rfl) ?_
            refine E.G.op (.pointer (some ⟨g17, 0, none⟩)) (fun w => by kernel_rfl) (by kernel_rfl) ?_
            refine E.To.code ?_
            refine E.C.ret (E.To.body (fn := Try.f43) [.pointer (some ⟨g17, 0, none⟩)] ?_ ?_)
            · exact ⟨⟨by kernel_rfl, by kernel_rfl⟩, trivial⟩
            · intro w h
              obtain rfl : coh = true := by simpa using hc18
              obtain ⟨o1, a1, hq, hc, hg⟩ := A.done (q := [A.blk g17 ([.slice ao15 (256 * (M.np n)) (256 * (M.np n)), .slice none 0 0, .slice ao14 (256 * (M.np n)) (256 * (M.np n)), .slice none 0 0, .slice ao16 (M.np n) (M.np n), .bool true]), A.vec .u8 ao15 (256 * (M.np n)) (List.replicate (256 * (M.np n)) 0), A.vec .u8 ao14 (256 * (M.np n)) (List.replicate (256 * (M.np n)) 0), A.vec .i64 ao16 (M.np n) (List.replicate (M.np n) 0)]) (r := []) h (by kernel_rfl) (A.pm [0, 2, 3, 1] (by kernel_rfl) (by kernel_rfl))
              exact ⟨g17, trivial, rfl, o1, a1, A.Has.one ⟨R.Wf.new (M.np_le n) _, _, R.new_t hq⟩, hc, hg⟩
    · skip
      refine A.G.make (e := 3) (kd := .i64) (lk := .i64) (M.np n) 8 (by kernel_rfl) (by kernel_rfl) (by kernel_rfl) (by have := M.np_le n; omega) (by have := M.np_le n; omega) (by kernel_rfl) (fun ao21 => ?_)
      refine E.H.back (fun w h => trivial) ?_
      refine E.H.all [2] (by kernel_rfl) (by simp) (List.forall_mem_cons.2 ⟨⟨_, rfl, ?_⟩, fun _ h => (List.not_mem_nil h).elim⟩)
      · skip
        refine A.G.make (e := 5) (kd := .u8) (lk := .i64) (256 * (M.np n)) 1 (by kernel_rfl) (by kernel_rfl) (by kernel_rfl) (by have := M.np_le n; omega) (by have := M.np_le n; omega) (by kernel_rfl) (fun ao22 => ?_)
        refine E.H.back (fun w h => trivial) ?_
        refine E.H.take 9 (.agg #[.slice ao22 (256 * (M.np n)) (256 * (M.np n)), .slice none 0 0, .slice ao14 (256 * (M.np n)) (256 * (M.np n)), .slice none 0 0, .slice ao21 (M.np n) (M.np n), .bool coh]) rfl (by kernel_rfl) (by kernel_rfl) (by kernel_rfl) (fun _ _ _ h => h) (fun w h => trivial) (.inl ⟨by kernel_rfl, by kernel_rfl, fun w h => E.run_build #[.slice ao22 (256 * (M.np n)) (256 * (M.np n)), .slice none 0 0, .slice ao14 (256 * (M.np n)) (256 * (M.np n)), .slice none 0 0, .slice ao21 (M.np n) (M.np n), .bool coh] (by kernel_rfl) w⟩) (by kernel_rfl) ?_
        refine E.H.all [10] (by kernel_rfl) (by simp) (List.forall_mem_cons.2 ⟨⟨_, rfl, ?_⟩, fun _ h => (List.not_mem_nil h).elim⟩)
        · skip
          refine E.G.new (fun g => .pointer (some ⟨g, 0, none⟩)) [.slice ao22 (256 * (M.np n)) (256 * (M.np n)), .slice none 0 0, .slice ao14 (256 * (M.np n)) (256 * (M.np n)), .slice none 0 0, .slice ao21 (M.np n) (M.np n), .bool coh] 89 (fun w => by kernel_rfl) (by kernel_rfl) (fun g23 => ?_)
          refine E.H.back (fun w h => trivial) ?_
          refine E.H.take 11 (.pointer (some ⟨g23, 0, none⟩)) rfl (by kernel_rfl) (by kernel_rfl) (by kernel_rfl) (fun _ _ _ h => h) (fun w h => trivial) (.inl ⟨by kernel_rfl, by kernel_rfl, fun w h => by kernel_rfl⟩) (by kernel_rfl) ?_
          refine E.H.done (by kernel_rfl) ?_
          refine E.To.code ?_
          refine E.C.weak [(1, .bool coh), (4, .pointer none), (5, .int .i64 ((M.np n : Nat) : Int)), (6, .pointer (some ⟨g23, 0, none⟩))] [(g23, [.slice ao22 (256 * (M.np n)) (256 * (M.np n)), .slice none 0 0, .slice ao14 (256 * (M.np n)) (256 * (M.np n)), .slice none 0 0, .slice ao21 (M.np n) (M.np n), .bool coh])] ⟨by kernel_rfl, by kernel_rfl⟩ (List.Sublist.refl _) ?_
          refine E.C.seq ?_
          refine E.C.seq ?_
          refine E.C.region ?_
          refine E.G.op (.bool coh) (fun w => by kernel_rfl) (by kernel_rfl) ?_
          refine E.G.op (.bool (!coh)) (fun w => by kernel_rfl) (by kernel_rfl) ?_
          refine E.To.code ?_
          refine E.C.cond (!coh) (by kernel_rfl) (by kernel_rfl) (fun hc24 => ?_) (fun hc24 => ?_)
          · skip
            refine E.C.seq ?_
            refine E.C.region ?_
            refine E.G.op (.pointer (some ⟨g23, 0, none⟩)) (fun w => by kernel_rfl) (by kernel_rfl) ?_
            refine E.G.op (.int .i64 ((M.np n : Nat) : Int)) (fun w => by kernel_rfl) (by kernel_rfl) ?_
            refine E.G.val (.int .i64 ((256 * (M.np n) : Nat) : Int)) (by kernel_rfl) (fun w h => E.run_as (a := .int .i64 (IntKind.wrap .i64 (256 * ((M.np n : Nat) : Int)))) (by kernel_rfl) (congrArg (Value.int .i64) (by exact Nz.mul64 (x := 256) (y := (M.np n)) (by have := M.np_le n; omega)))) ?_
            refine A.G.make (e := 5) (kd := .u8) (lk := .i64) (256 * (M.np n)) 1 (by kernel_rfl) (by kernel_rfl) (by kernel_rfl) (by have := M.np_le n; omega) (by have := M.np_le n; omega) (by kernel_rfl) (fun ao25 => ?_)
            refine E.G.op (.pointer (some ⟨g23, 0, none⟩)) (fun w => by kernel_rfl) (by kernel_rfl) ?_
            refine E.G.op (.pointer (some ⟨g23, 1, none⟩)) (fun w => by kernel_rfl) (by kernel_rfl) ?_
            refine E.G.store 0 [.slice ao22 (256 * (M.np n)) (256 * (M.np n)), .slice ao25 (256 * (M.np n)) (256 * (M.np n)), .slice ao14 (256 * (M.np n)) (256 * (M.np n)), .slice none 0 0, .slice ao21 (M.np n) (M.np n), .bool coh] rfl rfl (by kernel_rfl) (by kernel_rfl) ?_
            refine E.To.code ?_
            refine E.C.weak [(4, .pointer none), (5, .int .i64 ((M.np n : Nat) : Int)), (6, .pointer (some ⟨g23, 0, none⟩))] [(g23, [.slice ao22 (256 * (M.np n)) (256 * (M.np n)), .slice ao25 (256 * (M.np n)) (256 * (M.np n)), .slice ao14 (256 * (M.np n)) (256 * (M.np n)), .slice none 0 0, .slice ao21 (M.np n) (M.np n), .bool coh])] ⟨by kernel_rfl, by kernel_rfl⟩ (List.Sublist.refl _) ?_
            refine E.C.region ?_
            refine E.G.op (.pointer (some ⟨g23, 0, none⟩)) (fun w => by kernel_rfl) (by kernel_rfl) ?_
            refine E.G.op (.int .i64 ((M.np n : Nat) : Int)) (fun w => by kernel_rfl) (by kernel_rfl) ?_
            refine E.G.val (.int .i64 ((256 * (M.np n) : Nat) : Int)) (by kernel_rfl) (fun w h => E.run_as (a := .int .i64 (IntKind.wrap .i64 (256 * ((M.np n : Nat) : Int)))) (by kernel_rfl) (congrArg (Value.int .i64) (by exact Nz.mul64 (x := 256) (y := (M.np n)) (by have := M.np_le n; omega)))) ?_
            refine A.G.make (e := 5) (kd := .u8) (lk := .i64) (256 * (M.np n)) 1 (by kernel_rfl) (by kernel_rfl) (by kernel_rfl) (by have := M.np_le n; omega) (by have := M.np_le n; omega) (by kernel_rfl) (fun ao26 => ?_)
            refine E.G.op (.pointer (some ⟨g23, 0, none⟩)) (fun w => by kernel_rfl) (by kernel_rfl) ?_
            refine E.G.op (.pointer (some ⟨g23, 3, none⟩)) (fun w => by kernel_rfl) (by kernel_rfl) ?_
            refine E.G.store 0 [.slice ao22 (256 * (M.np n)) (256 * (M.np n)), .slice ao25 (256 * (M.np n)) (256 * (M.np n)), .slice ao14 (256 * (M.np n)) (256 * (M.np n)), .slice ao26 (256 * (M.np n)) (256 * (M.np n)), .slice ao21 (M.np n) (M.np n), .bool coh] rfl rfl (by kernel_rfl) (by kernel_rfl) ?_
            refine E.To.code ?_
            refine E.C.seq ?_
            refine E.C.region ?_
            refine E.G.op (.pointer (some ⟨g23, 0, none⟩)) (fun w => by kernel_rfl) (by kernel_rfl) ?_
            refine E.G.op (.pointer (some ⟨g23, 0, none⟩)) (fun w => by kernel_rfl) (by kernel_rfl) ?_
            refine E.To.code ?_
            refine E.C.weak [(4, .pointer (some ⟨g23, 0, none⟩))] [(g23, [.slice ao22 (256 * (M.np n)) (256 * (M.np n)), .slice ao25 (256 * (M.np n)) (256 * (M.np n)), .slice ao14 (256 * (M.np n)) (256 * (M.np n)), .slice ao26 (256 * (M.np n)) (256 * (M.np n)), .slice ao21 (M.np n) (M.np n), .bool coh])] ⟨by kernel_rfl, by kernel_rfl⟩ (List.Sublist.refl _) ?_
            refine E.C.ret (E.To.body (fn := Try.f43) [.pointer (some ⟨g23, 0, none⟩)] ?_ ?_)
            · exact ⟨⟨by kernel_rfl, by kernel_rfl⟩, trivial⟩
            · intro w h
              obtain rfl : coh = false := by simpa using hc24
              obtain ⟨o1, a1, hq, hc, hg⟩ := A.done (q := [A.blk g23 ([.slice ao22 (256 * (M.np n)) (256 * (M.np n)), .slice ao25 (256 * (M.np n)) (256 * (M.np n)), .slice ao14 (256 * (M.np n)) (256 * (M.np n)), .slice ao26 (256 * (M.np n)) (256 * (M.np n)), .slice ao21 (M.np n) (M.np n), .bool false]), A.vec .u8 ao22 (256 * (M.np n)) (List.replicate (256 * (M.np n)) 0), A.vec .u8 ao25 (256 * (M.np n)) (List.replicate (256 * (M.np n)) 0), A.vec .u8 ao14 (256 * (M.np n)) (List.replicate (256 * (M.np n)) 0), A.vec .u8 ao26 (256 * (M.np n)) (List.replicate (256 * (M.np n)) 0), A.vec .i64 ao21 (M.np n) (List.replicate (M.np n) 0)]) (r := []) h (by kernel_rfl) (A.pm [0, 3, 2, 5, 1, 4] (by kernel_rfl) (by kernel_rfl))
              exact ⟨g23, trivial, rfl, o1, a1, A.Has.one ⟨R.Wf.new (M.np_le n) _, _, R.new_f hq⟩, hc, hg⟩
          · skip
            refine E.C.skip (E.To.code ?_)
            refine E.C.seq ?_
            refine E.C.region ?_
            refine E.G.op (.pointer (some ⟨g23, 0, none⟩)) (fun w => by kernel_rfl) (by kernel_rfl) ?_
            refine E.G.op (.pointer (some ⟨g23, 0, none⟩)) (fun w => by kernel_rfl) (by kernel_rfl) ?_
            refine E.To.code ?_
            refine E.C.ret (E.To.body (fn := Try.f43) [.pointer (some ⟨g23, 0, none⟩)] ?_ ?_)
            · exact ⟨⟨by kernel_rfl, by kernel_rfl⟩, trivial⟩
            · intro w h
              obtain rfl : coh = true := by simpa using hc24
              obtain ⟨o1, a1, hq, hc, hg⟩ := A.done (q := [A.blk g23 ([.slice ao22 (256 * (M.np n)) (256 * (M.np n)), .slice none 0 0, .slice ao14 (256 * (M.np n)) (256 * (M.np n)), .slice none 0 0, .slice ao21 (M.np n) (M.np n), .bool true]), A.vec .u8 ao22 (256 * (M.np n)) (List.replicate (256 * (M.np n)) 0), A.vec .u8 ao14 (256 * (M.np n)) (List.replicate (256 * (M.np n)) 0), A.vec .i64 ao21 (M.np n) (List.replicate (M.np n) 0)]) (r := []) h (by kernel_rfl) (A.pm [0, 1, 3, 2] (by kernel_rfl) (by kernel_rfl))
              exact ⟨g23, trivial, rfl, o1, a1, A.Has.one ⟨R.Wf.new (M.np_le n) _, _, R.new_t hq⟩, hc, hg⟩
  · skip
    refine A.G.make (e := 3) (kd := .i64) (lk := .i64) (M.np n) 8 (by kernel_rfl) (by kernel_rfl) (by kernel_rfl) (by have := M.np_le n; omega) (by have := M.np_le n; omega) (by kernel_rfl) (fun ao27 => ?_)
    refine E.H.back (fun w h => trivial) ?_
    refine E.H.all [2, 5] (by kernel_rfl) (by simp) (List.forall_mem_cons.2 ⟨⟨_, rfl, ?_⟩, List.forall_mem_cons.2 ⟨⟨_, rfl, ?_⟩, fun _ h => (List.not_mem_nil h).elim⟩⟩)
    · skip
      refine A.G.make (e := 5) (kd := .u8) (lk := .i64) (256 * (M.np n)) 1 (by kernel_rfl) (by kernel_rfl) (by kernel_rfl) (by have := M.np_le n; omega) (by have := M.np_le n; omega) (by kernel_rfl) (fun ao28 => ?_)
      refine E.H.back (fun w h => trivial) ?_
      refine E.H.all [5] (by kernel_rfl) (by simp) (List.forall_mem_cons.2 ⟨⟨_, rfl, ?_⟩, fun _ h => (List.not_mem_nil h).elim⟩)
      · skip
        refine A.G.make (e := 5) (kd := .u8) (lk := .i64) (256 * (M.np n)) 1 (by kernel_rfl) (by kernel_rfl) (by kernel_rfl) (by have := M.np_le n; omega) (by have := M.np_le n; omega) (by kernel_rfl) (fun ao29 => ?_)
        refine E.H.back (fun w h => trivial) ?_
        refine E.H.take 9 (.agg #[.slice ao28 (256 * (M.np n)) (256 * (M.np n)), .slice none 0 0, .slice ao29 (256 * (M.np n)) (256 * (M.np n)), .slice none 0 0, .slice ao27 (M.np n) (M.np n), .bool coh]) rfl (by kernel_rfl) (by kernel_rfl) (by kernel_rfl) (fun _ _ _ h => h) (fun w h => trivial) (.inl ⟨by kernel_rfl, by kernel_rfl, fun w h => E.run_build #[.slice ao28 (256 * (M.np n)) (256 * (M.np n)), .slice none 0 0, .slice ao29 (256 * (M.np n)) (256 * (M.np n)), .slice none 0 0, .slice ao27 (M.np n) (M.np n), .bool coh] (by kernel_rfl) w⟩) (by kernel_rfl) ?_
        refine E.H.all [10] (by kernel_rfl) (by simp) (List.forall_mem_cons.2 ⟨⟨_, rfl, ?_⟩, fun _ h => (List.not_mem_nil h).elim⟩)
        · skip
          refine E.G.new (fun g => .pointer (some ⟨g, 0, none⟩)) [.slice ao28 (256 * (M.np n)) (256 * (M.np n)), .slice none 0 0, .slice ao29 (256 * (M.np n)) (256 * (M.np n)), .slice none 0 0, .slice ao27 (M.np n) (M.np n), .bool coh] 89 (fun w => by kernel_rfl) (by kernel_rfl) (fun g30 => ?_)
          refine E.H.back (fun w h => trivial) ?_
          refine E.H.take 11 (.pointer (some ⟨g30, 0, none⟩)) rfl (by kernel_rfl) (by kernel_rfl) (by kernel_rfl) (fun _ _ _ h => h) (fun w h => trivial) (.inl ⟨by kernel_rfl, by kernel_rfl, fun w h => by kernel_rfl⟩) (by kernel_rfl) ?_
          refine E.H.done (by kernel_rfl) ?_
          refine E.To.code ?_
          refine E.C.weak [(1, .bool coh), (4, .pointer none), (5, .int .i64 ((M.np n : Nat) : Int)), (6, .pointer (some ⟨g30, 0, none⟩))] [(g30, [.slice ao28 (256 * (M.np n)) (256 * (M.np n)), .slice none 0 0, .slice ao29 (256 * (M.np n)) (256 * (M.np n)), .slice none 0 0, .slice ao27 (M.np n) (M.np n), .bool coh])] ⟨by kernel_rfl, by kernel_rfl⟩ (List.Sublist.refl _) ?_
          refine E.C.seq ?_
          refine E.C.seq ?_
          refine E.C.region ?_
          refine E.G.op (.bool coh) (fun w => by kernel_rfl) (by kernel_rfl) ?_
          refine E.G.op (.bool (!coh)) (fun w => by kernel_rfl) (by kernel_rfl) ?_
          refine E.To.code ?_
          refine E.C.cond (!coh) (by kernel_rfl) (by kernel_rfl) (fun hc31 => ?_) (fun hc31 => ?_)
          · skip
            refine E.C.seq ?_
            refine E.C.region ?_
            refine E.G.op (.pointer (some ⟨g30, 0, none⟩)) (fun w => by kernel_rfl) (by kernel_rfl) ?_
            refine E.G.op (.int .i64 ((M.np n : Nat) : Int)) (fun w => by kernel_rfl) (by kernel_rfl) ?_
            refine E.G.val (.int .i64 ((256 * (M.np n) : Nat) : Int)) (by kernel_rfl) (fun w h => E.run_as (a := .int .i64 (IntKind.wrap .i64 (256 * ((M.np n : Nat) : Int)))) (by kernel_rfl) (congrArg (Value.int .i64) (by exact Nz.mul64 (x := 256) (y := (M.np n)) (by have := M.np_le n; omega)))) ?_
            refine A.G.make (e := 5) (kd := .u8) (lk := .i64) (256 * (M.np n)) 1 (by kernel_rfl) (by kernel_rfl) (by kernel_rfl) (by have := M.np_le n; omega) (by have := M.np_le n; omega) (by kernel_rfl) (fun ao32 => ?_)
            refine E.G.op (.pointer (some ⟨g30, 0, none⟩)) (fun w => by kernel_rfl) (by kernel_rfl) ?_
            refine E.G.op (.pointer (some ⟨g30, 1, none⟩)) (fun w => by kernel_rfl) (by kernel_rfl) ?_
            refine E.G.store 0 [.slice ao28 (256 * (M.np n)) (256 * (M.np n)), .slice ao32 (256 * (M.np n)) (256 * (M.np n)), .slice ao29 (256 * (M.np n)) (256 * (M.np n)), .slice none 0 0, .slice ao27 (M.np n) (M.np n), .bool coh] rfl rfl (by kernel_rfl) (by kernel_rfl) ?_
            refine E.To.code ?_
            refine E.C.weak [(4, .pointer none), (5, .int .i64 ((M.np n : Nat) : Int)), (6, .pointer (some ⟨g30, 0, none⟩))] [(g30, [.slice ao28 (256 * (M.np n)) (256 * (M.np n)), .slice ao32 (256 * (M.np n)) (256 * (M.np n)), .slice ao29 (256 * (M.np n)) (256 * (M.np n)), .slice none 0 0, .slice ao27 (M.np n) (M.np n), .bool coh])] ⟨by kernel_rfl, by kernel_rfl⟩ (List.Sublist.refl _) ?_
            refine E.C.region ?_
            refine E.G.op (.pointer (some ⟨g30, 0, none⟩)) (fun w => by kernel_rfl) (by kernel_rfl) ?_
            refine E.G.op (.int .i64 ((M.np n : Nat) : Int)) (fun w => by kernel_rfl) (by kernel_rfl) ?_
            refine E.G.val (.int .i64 ((256 * (M.np n) : Nat) : Int)) (by kernel_rfl) (fun w h => E.run_as (a := .int .i64 (IntKind.wrap .i64 (256 * ((M.np n : Nat) : Int)))) (by kernel_rfl) (congrArg (Value.int .i64) (by exact Nz.mul64 (x := 256) (y := (M.np n)) (by have := M.np_le n; omega)))) ?_
            refine A.G.make (e := 5) (kd := .u8) (lk := .i64) (256 * (M.np n)) 1 (by kernel_rfl) (by kernel_rfl) (by kernel_rfl) (by have := M.np_le n; omega) (by have := M.np_le n; omega) (by kernel_rfl) (fun ao33 => ?_)
            refine E.G.op (.pointer (some ⟨g30, 0, none⟩)) (fun w => by kernel_rfl) (by kernel_rfl) ?_
            refine E.G.op (.pointer (some ⟨g30, 3, none⟩)) (fun w => by kernel_rfl) (by kernel_rfl) ?_
            refine E.G.store 0 [.slice ao28 (256 * (M.np n)) (256 * (M.np n)), .slice ao32 (256 * (M.np n)) (256 * (M.np n)), .slice ao29 (256 * (M.np n)) (256 * (M.np n)), .slice ao33 (256 * (M.np n)) (256 * (M.np n)), .slice ao27 (M.np n) (M.np n), .bool coh] rfl rfl (by kernel_rfl) (by kernel_rfl) ?_
            refine E.To.code ?_
            refine E.C.seq ?_
            refine E.C.region ?_
            refine E.G.op (.pointer (some ⟨g30, 0, none⟩)) (fun w => by kernel_rfl) (by kernel_rfl) ?_
            refine E.G.op (.pointer (some ⟨g30, 0, none⟩)) (fun w => by kernel_rfl) (by kernel_rfl) ?_
            refine E.To.code ?_
            refine E.C.weak [(4, .pointer (some ⟨g30, 0, none⟩))] [(g30, [.slice ao28 (256 * (M.np n)) (256 * (M.np n)), .slice ao32 (256 * (M.np n)) (256 * (M.np n)), .slice ao29 (256 * (M.np n)) (256 * (M.np n)), .slice ao33 (256 * (M.np n)) (256 * (M.np n)), .slice ao27 (M.np n) (M.np n), .bool coh])] ⟨by kernel_rfl, by kernel_rfl⟩ (List.Sublist.refl _) ?_
            refine E.C.ret (E.To.body (fn := Try.f43) [.pointer (some ⟨g30, 0, none⟩)] ?_ ?_)
            · exact ⟨⟨by kernel_rfl, by kernel_rfl⟩, trivial⟩
            · intro w h
              obtain rfl : coh = false := by simpa using hc31
              obtain ⟨o1, a1, hq, hc, hg⟩ := A.done (q := [A.blk g30 ([.slice ao28 (256 * (M.np n)) (256 * (M.np n)), .slice ao32 (256 * (M.np n)) (256 * (M.np n)), .slice ao29 (256 * (M.np n)) (256 * (M.np n)), .slice ao33 (256 * (M.np n)) (256 * (M.np n)), .slice ao27 (M.np n) (M.np n), .bool false]), A.vec .u8 ao28 (256 * (M.np n)) (List.replicate (256 * (M.np n)) 0), A.vec .u8 ao32 (256 * (M.np n)) (List.replicate (256 * (M.np n)) 0), A.vec .u8 ao29 (256 * (M.np n)) (List.replicate (256 * (M.np n)) 0), A.vec .u8 ao33 (256 * (M.np n)) (List.replicate (256 * (M.np n)) 0), A.vec .i64 ao27 (M.np n) (List.replicate (M.np n) 0)]) (r := []) h (by kernel_rfl) (A.pm [0, 4, 2, 3, 1, 5] (by kernel_rfl) (by kernel_rfl))
              exact ⟨g30, trivial, rfl, o1, a1, A.Has.one ⟨R.Wf.new (M.np_le n) _, _, R.new_f hq⟩, hc, hg⟩
          · skip
            refine E.C.skip (E.To.code ?_)
            refine E.C.seq ?_
            refine E.C.region ?_
            refine E.G.op (.pointer (some ⟨g30, 0, none⟩)) (fun w => by kernel_rfl) (by kernel_rfl) ?_
            refine E.G.op (.pointer (some ⟨g30, 0, none⟩)) (fun w => by kernel_rfl) (by kernel_rfl) ?_
            refine E.To.code ?_
            refine E.C.ret (E.To.body (fn := Try.f43) [.pointer (some ⟨g30, 0, none⟩)] ?_ ?_)
            · exact ⟨⟨by kernel_rfl, by kernel_rfl⟩, trivial⟩
            · intro w h
              obtain rfl : coh = true := by simpa using hc31
              obtain ⟨o1, a1, hq, hc, hg⟩ := A.done (q := [A.blk g30 ([.slice ao28 (256 * (M.np n)) (256 * (M.np n)), .slice none 0 0, .slice ao29 (256 * (M.np n)) (256 * (M.np n)), .slice none 0 0, .slice ao27 (M.np n) (M.np n), .bool true]), A.vec .u8 ao28 (256 * (M.np n)) (List.replicate (256 * (M.np n)) 0), A.vec .u8 ao29 (256 * (M.np n)) (List.replicate (256 * (M.np n)) 0), A.vec .i64 ao27 (M.np n) (List.replicate (M.np n) 0)]) (r := []) h (by kernel_rfl) (A.pm [0, 2, 1, 3] (by kernel_rfl) (by kernel_rfl))
              exact ⟨g30, trivial, rfl, o1, a1, A.Has.one ⟨R.Wf.new (M.np_le n) _, _, R.new_t hq⟩, hc, hg⟩
    · skip
      refine A.G.make (e := 5) (kd := .u8) (lk := .i64) (256 * (M.np n)) 1 (by kernel_rfl) (by kernel_rfl) (by kernel_rfl) (by have := M.np_le n; omega) (by have := M.np_le n; omega) (by kernel_rfl) (fun ao34 => ?_)
      refine E.H.back (fun w h => trivial) ?_
      refine E.H.all [2] (by kernel_rfl) (by simp) (List.forall_mem_cons.2 ⟨⟨_, rfl, ?_⟩, fun _ h => (List.not_mem_nil h).elim⟩)
      · skip
        refine A.G.make (e := 5) (kd := .u8) (lk := .i64) (256 * (M.np n)) 1 (by kernel_rfl) (by kernel_rfl) (by kernel_rfl) (by have := M.np_le n; omega) (by have := M.np_le n; omega) (by kernel_rfl) (fun ao35 => ?_)
        refine E.H.back (fun w h => trivial) ?_
        refine E.H.take 9 (.agg #[.slice ao35 (256 * (M.np n)) (256 * (M.np n)), .slice none 0 0, .slice ao34 (256 * (M.np n)) (256 * (M.np n)), .slice none 0 0, .slice ao27 (M.np n) (M.np n), .bool coh]) rfl (by kernel_rfl) (by kernel_rfl) (by kernel_rfl) (fun _ _ _ h => h) (fun w h => trivial) (.inl ⟨by kernel_rfl, by kernel_rfl, fun w h => E.run_build #[.slice ao35 (256 * (M.np n)) (256 * (M.np n)), .slice none 0 0, .slice ao34 (256 * (M.np n)) (256 * (M.np n)), .slice none 0 0, .slice ao27 (M.np n) (M.np n), .bool coh] (by kernel_rfl) w⟩) (by kernel_rfl) ?_
        refine E.H.all [10] (by kernel_rfl) (by simp) (List.forall_mem_cons.2 ⟨⟨_, rfl, ?_⟩, fun _ h => (List.not_mem_nil h).elim⟩)
        · skip
          refine E.G.new (fun g => .pointer (some ⟨g, 0, none⟩)) [.slice ao35 (256 * (M.np n)) (256 * (M.np n)), .slice none 0 0, .slice ao34 (256 * (M.np n)) (256 * (M.np n)), .slice none 0 0, .slice ao27 (M.np n) (M.np n), .bool coh] 89 (fun w => by kernel_rfl) (by kernel_rfl) (fun g36 => ?_)
          refine E.H.back (fun w h => trivial) ?_
          refine E.H.take 11 (.pointer (some ⟨g36, 0, none⟩)) rfl (by kernel_rfl) (by kernel_rfl) (by kernel_rfl) (fun _ _ _ h => h) (fun w h => trivial) (.inl ⟨by kernel_rfl, by kernel_rfl, fun w h => by kernel_rfl⟩) (by kernel_rfl) ?_
          refine E.H.done (by kernel_rfl) ?_
          refine E.To.code ?_
          refine E.C.weak [(1, .bool coh), (4, .pointer none), (5, .int .i64 ((M.np n : Nat) : Int)), (6, .pointer (some ⟨g36, 0, none⟩))] [(g36, [.slice ao35 (256 * (M.np n)) (256 * (M.np n)), .slice none 0 0, .slice ao34 (256 * (M.np n)) (256 * (M.np n)), .slice none 0 0, .slice ao27 (M.np n) (M.np n), .bool coh])] ⟨by kernel_rfl, by kernel_rfl⟩ (List.Sublist.refl _) ?_
          refine E.C.seq ?_
          refine E.C.seq ?_
          refine E.C.region ?_
          refine E.G.op (.bool coh) (fun w => by kernel_rfl) (by kernel_rfl) ?_
          refine E.G.op (.bool (!coh)) (fun w => by kernel_rfl) (by kernel_rfl) ?_
          refine E.To.code ?_
          refine E.C.cond (!coh) (by kernel_rfl) (by kernel_rfl) (fun hc37 => ?_) (fun hc37 => ?_)
          · skip
            refine E.C.seq ?_
            refine E.C.region ?_
            refine E.G.op (.pointer (some ⟨g36, 0, none⟩)) (fun w => by kernel_rfl) (by kernel_rfl) ?_
            refine E.G.op (.int .i64 ((M.np n : Nat) : Int)) (fun w => by kernel_rfl) (by kernel_rfl) ?_
            refine E.G.val (.int .i64 ((256 * (M.np n) : Nat) : Int)) (by kernel_rfl) (fun w h => E.run_as (a := .int .i64 (IntKind.wrap .i64 (256 * ((M.np n : Nat) : Int)))) (by kernel_rfl) (congrArg (Value.int .i64) (by exact Nz.mul64 (x := 256) (y := (M.np n)) (by have := M.np_le n; omega)))) ?_
            refine A.G.make (e := 5) (kd := .u8) (lk := .i64) (256 * (M.np n)) 1 (by kernel_rfl) (by kernel_rfl) (by kernel_rfl) (by have := M.np_le n; omega) (by have := M.np_le n; omega) (by kernel_rfl) (fun ao38 => ?_)
            refine E.G.op (.pointer (some ⟨g36, 0, none⟩)) (fun w => by kernel_rfl) (by kernel_rfl) ?_
            refine E.G.op (.pointer (some ⟨g36, 1, none⟩)) (fun w => by kernel_rfl) (by kernel_rfl) ?_
            refine E.G.store 0 [.slice ao35 (256 * (M.np n)) (256 * (M.np n)), .slice ao38 (256 * (M.np n)) (256 * (M.np n)), .slice ao34 (256 * (M.np n)) (256 * (M.np n)), .slice none 0 0, .slice ao27 (M.np n) (M.np n), .bool coh] rfl rfl (by kernel_rfl) (by kernel_rfl) ?_
            refine E.To.code ?_
            refine E.C.weak [(4, .pointer none), (5, .int .i64 ((M.np n : Nat) : Int)), (6, .pointer (some ⟨g36, 0, none⟩))] [(g36, [.slice ao35 (256 * (M.np n)) (256 * (M.np n)), .slice ao38 (256 * (M.np n)) (256 * (M.np n)), .slice ao34 (256 * (M.np n)) (256 * (M.np n)), .slice none 0 0, .slice ao27 (M.np n) (M.np n), .bool coh])] ⟨by kernel_rfl, by kernel_rfl⟩ (List.Sublist.refl _) ?_
            refine E.C.region ?_
            refine E.G.op (.pointer (some ⟨g36, 0, none⟩)) (fun w => by kernel_rfl) (by kernel_rfl) ?_
            refine E.G.op (.int .i64 ((M.np n : Nat) : Int)) (fun w => by kernel_rfl) (by kernel_rfl) ?_
            refine E.G.val (.int .i64 ((256 * (M.np n) : Nat) : Int)) (by kernel_rfl) (fun w h => E.run_as (a := .int .i64 (IntKind.wrap .i64 (256 * ((M.np n : Nat) : Int)))) (by kernel_rfl) (congrArg (Value.int .i64) (by exact Nz.mul64 (x := 256) (y := (M.np n)) (by have := M.np_le n; omega)))) ?_
            refine A.G.make (e := 5) (kd := .u8) (lk := .i64) (256 * (M.np n)) 1 (by kernel_rfl) (by kernel_rfl) (by kernel_rfl) (by have := M.np_le n; omega) (by have := M.np_le n; omega) (by kernel_rfl) (fun ao39 => ?_)
            refine E.G.op (.pointer (some ⟨g36, 0, none⟩)) (fun w => by kernel_rfl) (by kernel_rfl) ?_
            refine E.G.op (.pointer (some ⟨g36, 3, none⟩)) (fun w => by kernel_rfl) (by kernel_rfl) ?_
            refine E.G.store 0 [.slice ao35 (256 * (M.np n)) (256 * (M.np n)), .slice ao38 (256 * (M.np n)) (256 * (M.np n)), .slice ao34 (256 * (M.np n)) (256 * (M.np n)), .slice ao39 (256 * (M.np n)) (256 * (M.np n)), .slice ao27 (M.np n) (M.np n), .bool coh] rfl rfl (by kernel_rfl) (by kernel_rfl) ?_
            refine E.To.code ?_
            refine E.C.seq ?_
            refine E.C.region ?_
            refine E.G.op (.pointer (some ⟨g36, 0, none⟩)) (fun w => by kernel_rfl) (by kernel_rfl) ?_
            refine E.G.op (.pointer (some ⟨g36, 0, none⟩)) (fun w => by kernel_rfl) (by kernel_rfl) ?_
            refine E.To.code ?_
            refine E.C.weak [(4, .pointer (some ⟨g36, 0, none⟩))] [(g36, [.slice ao35 (256 * (M.np n)) (256 * (M.np n)), .slice ao38 (256 * (M.np n)) (256 * (M.np n)), .slice ao34 (256 * (M.np n)) (256 * (M.np n)), .slice ao39 (256 * (M.np n)) (256 * (M.np n)), .slice ao27 (M.np n) (M.np n), .bool coh])] ⟨by kernel_rfl, by kernel_rfl⟩ (List.Sublist.refl _) ?_
            refine E.C.ret (E.To.body (fn := Try.f43) [.pointer (some ⟨g36, 0, none⟩)] ?_ ?_)
            · exact ⟨⟨by kernel_rfl, by kernel_rfl⟩, trivial⟩
            · intro w h
              obtain rfl : coh = false := by simpa using hc37
              obtain ⟨o1, a1, hq, hc, hg⟩ := A.done (q := [A.blk g36 ([.slice ao35 (256 * (M.np n)) (256 * (M.np n)), .slice ao38 (256 * (M.np n)) (256 * (M.np n)), .slice ao34 (256 * (M.np n)) (256 * (M.np n)), .slice ao39 (256 * (M.np n)) (256 * (M.np n)), .slice ao27 (M.np n) (M.np n), .bool false]), A.vec .u8 ao35 (256 * (M.np n)) (List.replicate (256 * (M.np n)) 0), A.vec .u8 ao38 (256 * (M.np n)) (List.replicate (256 * (M.np n)) 0), A.vec .u8 ao34 (256 * (M.np n)) (List.replicate (256 * (M.np n)) 0), A.vec .u8 ao39 (256 * (M.np n)) (List.replicate (256 * (M.np n)) 0), A.vec .i64 ao27 (M.np n) (List.replicate (M.np n) 0)]) (r := []) h (by kernel_rfl) (A.pm [0, 3, 2, 4, 1, 5] (by kernel_rfl) (by kernel_rfl))
              exact ⟨g36, trivial, rfl, o1, a1, A.Has.one ⟨R.Wf.new (M.np_le n) _, _, R.new_f hq⟩, hc, hg⟩
          · skip
            refine E.C.skip (E.To.code ?_)
            refine E.C.seq ?_
            refine E.C.region ?_
            refine E.G.op (.pointer (some ⟨g36, 0, none⟩)) (fun w => by kernel_rfl) (by kernel_rfl) ?_
            refine E.G.op (.pointer (some ⟨g36, 0, none⟩)) (fun w => by kernel_rfl) (by kernel_rfl) ?_
            refine E.To.code ?_
            refine E.C.ret (E.To.body (fn := Try.f43) [.pointer (some ⟨g36, 0, none⟩)] ?_ ?_)
            · exact ⟨⟨by kernel_rfl, by kernel_rfl⟩, trivial⟩
            · intro w h
              obtain rfl : coh = true := by simpa using hc37
              obtain ⟨o1, a1, hq, hc, hg⟩ := A.done (q := [A.blk g36 ([.slice ao35 (256 * (M.np n)) (256 * (M.np n)), .slice none 0 0, .slice ao34 (256 * (M.np n)) (256 * (M.np n)), .slice none 0 0, .slice ao27 (M.np n) (M.np n), .bool true]), A.vec .u8 ao35 (256 * (M.np n)) (List.replicate (256 * (M.np n)) 0), A.vec .u8 ao34 (256 * (M.np n)) (List.replicate (256 * (M.np n)) 0), A.vec .i64 ao27 (M.np n) (List.replicate (M.np n) 0)]) (r := []) h (by kernel_rfl) (A.pm [0, 1, 2, 3] (by kernel_rfl) (by kernel_rfl))
              exact ⟨g36, trivial, rfl, o1, a1, A.Has.one ⟨R.Wf.new (M.np_le n) _, _, R.new_t hq⟩, hc, hg⟩
end Go.Proofs.Ytdjjjikokfadiaa

/- Walks: the reference memory, Dirty, printed by wip/eng. No condition but what is named. -/
namespace Go.Proofs.Ytdjjjikokfadiaa
set_option linter.unusedVariables false
set_option linter.unusedSimpArgs false
open Go.RowKit
/-- Whether one of the first c bytes of page k, or of its image, has changed. -/
def R.df (V : M.V) (k : Nat) : Nat → Bool
  | 0 => false
  | c + 1 => (R.df V k c || (V.d k c != V.cd k c)) || ((!V.coh) && (V.i k c != V.ci k c))
theorem R.df_f {V : M.V} {k : Nat} : ∀ c, R.df V k c = false ↔ (∀ x, x < c → V.d k x = V.cd k x) ∧ (V.coh = false → ∀ x, x < c → V.i k x = V.ci k x)
  | 0 => ⟨fun _ => ⟨fun _ h => by omega, fun _ _ h => by omega⟩, fun _ => rfl⟩
  | c + 1 => by
    have ih := R.df_f (V := V) (k := k) c
    show ((R.df V k c || (V.d k c != V.cd k c)) || ((!V.coh) && (V.i k c != V.ci k c))) = false ↔ _
    rw [Bool.or_eq_false_iff, Bool.or_eq_false_iff, ih]
    constructor
    · rintro ⟨⟨⟨h1, h2⟩, h3⟩, h4⟩
      have h3 : V.d k c = V.cd k c := by simpa using h3
      refine ⟨fun x hx => ?_, fun hc x hx => ?_⟩
      · by_cases e : x = c
        · subst e; exact h3
        · exact h1 x (by omega)
      · by_cases e : x = c
        · subst e; rw [hc] at h4; simpa using h4
        · exact h2 hc x (by omega)
    · rintro ⟨h1, h2⟩
      refine ⟨⟨⟨fun x hx => h1 x (by omega), fun hc x hx => h2 hc x (by omega)⟩, by simpa using h1 c (by omega)⟩, ?_⟩
      cases hc : V.coh with
      | true => rfl
      | false => simpa using h2 hc c (by omega)
theorem M.eqv_iff {f g : Nat → Int} : M.eqv f g (List.range 256) = true ↔ ∀ x, x < 256 → f x = g x := by
  unfold M.eqv
  rw [List.all_eq_true]
  exact ⟨fun h x hx => by simpa using h x (List.mem_range.2 hx), fun h x hx => by simpa using h x (List.mem_range.1 hx)⟩
theorem R.df_dty {V : M.V} (hw : R.Wf V) {k : Nat} (hk : k < V.n) : R.df V k 256 = V.dty k := by
  have key : R.df V k 256 = false ↔ V.dty k = false := by
    rw [R.df_f]
    unfold M.V.dty
    rw [Bool.or_eq_false_iff, Bool.not_eq_false', Bool.not_eq_false', M.eqv_iff, M.eqv_iff]
    constructor
    · rintro ⟨h1, h2⟩
      refine ⟨h1, fun x hx => ?_⟩
      cases hc : V.coh with
      | false => exact h2 hc x hx
      | true => have := hw.co hc k hk x hx; rw [this.1, this.2]; exact h1 x hx
    · rintro ⟨h1, h2⟩
      exact ⟨h1, fun _ => h2⟩
  cases h1 : R.df V k 256 <;> cases h2 : V.dty k <;> first | rfl | (rw [h1, h2] at key; simp at key)
theorem M.vdl_len (V : M.V) : ∀ k, (V.dl k).length ≤ k
  | 0 => Nat.le_refl _
  | k + 1 => by
    have := M.vdl_len V k
    show (bif V.dty k then V.dl k ++ [((k : Nat) : Int)] else V.dl k).length ≤ k + 1
    cases V.dty k with
    | false => show (V.dl k).length ≤ k + 1; omega
    | true => show (V.dl k ++ [_]).length ≤ k + 1; rw [List.length_append]; show _ + 1 ≤ _; omega
theorem M.vdl_t {V : M.V} {k : Nat} (h : V.dty k = true) : V.dl (k + 1) = V.dl k ++ [((k : Nat) : Int)] := by show (bif V.dty k then _ else _) = _; rw [h]; rfl
theorem M.vdl_f {V : M.V} {k : Nat} (h : V.dty k = false) : V.dl (k + 1) = V.dl k := by show (bif V.dty k then _ else _) = _; rw [h]; rfl
theorem A.C.add0 {P : Program} {n : Nat} {Q : Exit → Act → World → Prop} {w0 : World} {o0 a0 : Nat → Prop} {its : List A.It} {L : List (Nat × List Value)} {fr : E.Fr} {c : Code} (kd : IntKind) (ao : Option Addr) (k : E.C P n Q c fr o0 w0 (A.X w0 o0 a0 (A.vec kd ao 0 [] :: its)) L) : E.C P n Q c fr o0 w0 (A.X w0 o0 a0 its) L :=
  fun a w h1 h2 => k a w h1 (A.X.imp h2 fun w o a hh => A.vec0 kd ao hh)
theorem R_Dirty {r : Nat} {s : R.Sl} {V : M.V} (hw : R.Wf V) : A.Tr Try.prog 51 #[.pointer (some ⟨r, 0, none⟩)] (R.its r s V) (I := Option Addr × Nat) (fun _ => True) (fun i => .slice i.1 V.dirty.length i.2) (fun i => R.its r s V ++ [A.vec .i64 i.1 i.2 V.dirty]) := by
  intro w oo aa hh
  refine E.enter (n := 74) (S := oo) Try.func51 rfl rfl (by kernel_rfl) (A.start (L := []) hh) ?_
  refine E.C.seq ?_
  refine E.C.region ?_
  refine E.G.op (.slice none 0 0) (fun w => by kernel_rfl) (by kernel_rfl) ?_
  refine E.To.code ?_
  refine E.C.seq ?_
  refine E.C.region ?_
  refine A.G.empty (e := 3) (sz := 1) (by kernel_rfl) (by kernel_rfl) (by kernel_rfl) (fun g1 => ?_)
  refine E.G.op (.slice (some ⟨g1, 0, none⟩) 0 0) (fun w => by kernel_rfl) (by kernel_rfl) ?_
  refine E.To.code ?_
  refine E.C.seq ?_
  refine E.C.seq ?_
  refine A.C.add0 .i64 (some ⟨g1, 0, none⟩) ?_
  refine E.C.region ?_
  refine E.G.op (.int .i64 0) (fun w => by kernel_rfl) (by kernel_rfl) ?_
  refine E.To.code ?_
  refine E.C.block ?_
  refine E.C.loop (I := Nat × Option Addr × Nat) (fun i => V.n - i.1) (fun i => i.1 ≤ V.n) (fun i => [(0, .pointer (some ⟨r, 0, none⟩)), (3, .slice i.2.1 ((V.dl i.1).length) i.2.2), (4, .int .i64 ((i.1 : Nat) : Int))]) (fun i => A.X w oo aa [A.vec .i64 i.2.1 i.2.2 (V.dl i.1), A.blk r [.slice s.a0 (256 * V.n) s.c0, .slice s.a1 (256 * R.len V) s.c1, .slice s.a2 (256 * V.n) s.c2, .slice s.a3 (256 * R.len V) s.c3, .slice s.a4 V.n s.c4, .bool V.coh], A.vec .u8 s.a0 s.c0 (R.flat V.d V.n), A.vec .u8 s.a1 s.c1 (R.flat V.i (R.len V)), A.vec .u8 s.a2 s.c2 (R.flat V.cd V.n), A.vec .u8 s.a3 s.c3 (R.flat V.ci (R.len V)), A.vec .i64 s.a4 s.c4 (R.rts V.r V.n)]) (fun _ => []) (0, some ⟨g1, 0, none⟩, 0) (Nat.zero_le _) ⟨by kernel_rfl, by kernel_rfl⟩ (List.nil_sublist _) (fun _ h => h) (fun i hk1 => ?_)
  obtain ⟨k, ao, cp⟩ := i
  have hk1 : k ≤ V.n := hk1
  refine E.C.seq ?_
  refine E.C.seq ?_
  refine E.C.region ?_
  refine E.G.op (.int .i64 ((k : Nat) : Int)) (fun w => by kernel_rfl) (by kernel_rfl) ?_
  refine E.G.op (.pointer (some ⟨r, 0, none⟩)) (fun w => by kernel_rfl) (by kernel_rfl) ?_
  refine E.G.op (.pointer (some ⟨r, 0, none⟩)) (fun w => by kernel_rfl) (by kernel_rfl) ?_
  refine E.G.op (.pointer (some ⟨r, 4, none⟩)) (fun w => by kernel_rfl) (by kernel_rfl) ?_
  refine E.G.val (.slice s.a4 V.n s.c4) (by kernel_rfl) (fun w h => A.Y.bld (A.X.y h.x) (k := 1) (j := 4) rfl (by kernel_rfl) (by kernel_rfl)) ?_
  refine E.G.op (.int .i64 ((V.n : Nat) : Int)) (fun w => by kernel_rfl) (by kernel_rfl) ?_
  refine E.G.op (.bool (decide (((k : Nat) : Int) < ((V.n : Nat) : Int)))) (fun w => by kernel_rfl) (by kernel_rfl) ?_
  refine E.To.code ?_
  refine E.C.cond (decide (((k : Nat) : Int) < ((V.n : Nat) : Int))) (by kernel_rfl) (by kernel_rfl) (fun hc2 => ?_) (fun hc2 => ?_)
  · skip
    refine E.C.skip (E.To.code ?_)
    refine E.C.seq ?_
    refine E.C.block ?_
    refine E.C.seq ?_
    have hk : k < V.n := by (first | assumption | ((try simp only [Bool.or_eq_false_iff, Bool.or_eq_true, Bool.and_eq_true, Bool.and_eq_false_iff, Bool.not_eq_eq_eq_not, Bool.not_true, Bool.not_false, decide_eq_true_eq, decide_eq_false_iff_not, ge_iff_le, gt_iff_lt] at *); omega))
    refine E.C.region ?_
    refine E.G.op (.bool false) (fun w => by kernel_rfl) (by kernel_rfl) ?_
    refine E.To.code ?_
    refine E.C.seq ?_
    refine E.C.seq ?_
    refine E.C.region ?_
    refine E.G.op (.int .i64 ((k : Nat) : Int)) (fun w => by kernel_rfl) (by kernel_rfl) ?_
    refine E.G.val (.int .i64 ((256 * k : Nat) : Int)) (by kernel_rfl) (fun w h => E.run_as (a := .int .i64 (IntKind.wrap .i64 (256 * ((k : Nat) : Int)))) (by kernel_rfl) (congrArg (Value.int .i64) (by exact Nz.mul64 (x := 256) (y := k) (by have := hw.n; (first | assumption | ((try simp only [Bool.or_eq_false_iff, Bool.or_eq_true, Bool.and_eq_true, Bool.and_eq_false_iff, Bool.not_eq_eq_eq_not, Bool.not_true, Bool.not_false, decide_eq_true_eq, decide_eq_false_iff_not, ge_iff_le, gt_iff_lt] at *); omega)))))) ?_
    refine E.G.op (.int .i64 ((256 * k : Nat) : Int)) (fun w => by kernel_rfl) (by kernel_rfl) ?_
    refine E.To.code ?_
    refine E.C.weak [(0, .pointer (some ⟨r, 0, none⟩)), (3, .slice ao ((V.dl k).length) cp), (4, .int .i64 ((k : Nat) : Int)), (5, .bool false), (6, .int .i64 ((256 * k : Nat) : Int))] [] ⟨by kernel_rfl, by kernel_rfl⟩ (List.Sublist.refl _) ?_
    refine E.C.block ?_
    refine E.C.loop (I := Nat) (fun c => 256 - c) (fun c => c ≤ 256) (fun c => [(0, .pointer (some ⟨r, 0, none⟩)), (3, .slice ao ((V.dl k).length) cp), (4, .int .i64 ((k : Nat) : Int)), (5, .bool (R.df V k c)), (6, .int .i64 ((256 * k + c : Nat) : Int))]) (fun _ => A.X w oo aa [A.vec .i64 ao cp (V.dl k), A.blk r [.slice s.a0 (256 * V.n) s.c0, .slice s.a1 (256 * R.len V) s.c1, .slice s.a2 (256 * V.n) s.c2, .slice s.a3 (256 * R.len V) s.c3, .slice s.a4 V.n s.c4, .bool V.coh], A.vec .u8 s.a0 s.c0 (R.flat V.d V.n), A.vec .u8 s.a1 s.c1 (R.flat V.i (R.len V)), A.vec .u8 s.a2 s.c2 (R.flat V.cd V.n), A.vec .u8 s.a3 s.c3 (R.flat V.ci (R.len V)), A.vec .i64 s.a4 s.c4 (R.rts V.r V.n)]) (fun _ => []) 0 (Nat.zero_le _) ⟨by kernel_rfl, by kernel_rfl⟩ (List.nil_sublist _) (fun _ h => h) (fun c hk2 => ?_)
    refine E.C.seq ?_
    refine E.C.seq ?_
    refine E.C.region ?_
    refine E.G.op (.int .i64 ((256 * k + c : Nat) : Int)) (fun w => by kernel_rfl) (by kernel_rfl) ?_
    refine E.G.op (.int .i64 ((k : Nat) : Int)) (fun w => by kernel_rfl) (by kernel_rfl) ?_
    refine E.G.val (.int .i64 ((256 * k : Nat) : Int)) (by kernel_rfl) (fun w h => E.run_as (a := .int .i64 (IntKind.wrap .i64 (256 * ((k : Nat) : Int)))) (by kernel_rfl) (congrArg (Value.int .i64) (by exact Nz.mul64 (x := 256) (y := k) (by have := hw.n; (first | assumption | ((try simp only [Bool.or_eq_false_iff, Bool.or_eq_true, Bool.and_eq_true, Bool.and_eq_false_iff, Bool.not_eq_eq_eq_not, Bool.not_true, Bool.not_false, decide_eq_true_eq, decide_eq_false_iff_not, ge_iff_le, gt_iff_lt] at *); omega)))))) ?_
    refine E.G.val (.int .i64 (((256 * k) + 256 : Nat) : Int)) (by kernel_rfl) (fun w h => E.run_as (a := .int .i64 (IntKind.wrap .i64 (((256 * k : Nat) : Int) + 256))) (by kernel_rfl) (congrArg (Value.int .i64) (by exact Nz.add64 (x := (256 * k)) (y := 256) (by have := hw.n; (first | assumption | ((try simp only [Bool.or_eq_false_iff, Bool.or_eq_true, Bool.and_eq_true, Bool.and_eq_false_iff, Bool.not_eq_eq_eq_not, Bool.not_true, Bool.not_false, decide_eq_true_eq, decide_eq_false_iff_not, ge_iff_le, gt_iff_lt] at *); omega)))))) ?_
    refine E.G.op (.bool (decide (((256 * k + c : Nat) : Int) < (((256 * k) + 256 : Nat) : Int)))) (fun w => by kernel_rfl) (by kernel_rfl) ?_
    refine E.To.code ?_
    refine E.C.cond (decide (((256 * k + c : Nat) : Int) < (((256 * k) + 256 : Nat) : Int))) (by kernel_rfl) (by kernel_rfl) (fun hc3 => ?_) (fun hc3 => ?_)
    · skip
      refine E.C.skip (E.To.code ?_)
      refine E.C.seq ?_
      refine E.C.block ?_
      have hc256 : c < 256 := by have q := of_decide_eq_true hc3; omega
      refine E.C.quiet (by kernel_rfl) (by kernel_rfl) ?_
      refine E.W.op (.bool (R.df V k c)) (fun w => by kernel_rfl) (by kernel_rfl) ?_
      refine E.W.op (.bool (R.df V k c)) (fun w => by kernel_rfl) (by kernel_rfl) ?_
      refine E.W.cut 16 [(0, .pointer (some ⟨r, 0, none⟩)), (3, .slice ao ((V.dl k).length) cp), (4, .int .i64 ((k : Nat) : Int)), (5, .bool (R.df V k c)), (6, .int .i64 ((256 * k + c : Nat) : Int)), (43, .bool ((R.df V k c) || ((V.d k c) != (V.cd k c))))] ?_ ?_
      · generalize hc4 : (R.df V k c) = b5
        cases b5
        · skip
          refine E.W.op (.pointer (some ⟨r, 0, none⟩)) (fun w => by kernel_rfl) (by kernel_rfl) ?_
          refine E.W.op (.pointer (some ⟨r, 0, none⟩)) (fun w => by kernel_rfl) (by kernel_rfl) ?_
          refine E.W.op (.pointer (some ⟨r, 0, none⟩)) (fun w => by kernel_rfl) (by kernel_rfl) ?_
          refine E.W.val (.slice s.a0 (256 * V.n) s.c0) (by kernel_rfl) (fun w h => A.Y.bld (A.X.y h.x) (k := 1) (j := 0) rfl (by kernel_rfl) (by kernel_rfl)) ?_
          refine E.W.op (.int .i64 ((256 * k + c : Nat) : Int)) (fun w => by kernel_rfl) (by kernel_rfl) ?_
          refine E.W.val (.pointer (some ⟨(A.bk s.a0), (256 * k + c), none⟩)) (by kernel_rfl) (fun w h => A.Y.idx (e := 5) (ik := .i64) (i := (256 * k + c)) (len := (256 * V.n)) (c2 := s.c0) (A.X.y h.x) (k := 2) rfl (by kernel_rfl) (by kernel_rfl) (by kernel_rfl) (by kernel_rfl) (by (first | assumption | ((try simp only [Bool.or_eq_false_iff, Bool.or_eq_true, Bool.and_eq_true, Bool.and_eq_false_iff, Bool.not_eq_eq_eq_not, Bool.not_true, Bool.not_false, decide_eq_true_eq, decide_eq_false_iff_not, ge_iff_le, gt_iff_lt] at *); omega))) (by simp only [R.flat_len]; (first | assumption | ((try simp only [Bool.or_eq_false_iff, Bool.or_eq_true, Bool.and_eq_true, Bool.and_eq_false_iff, Bool.not_eq_eq_eq_not, Bool.not_true, Bool.not_false, decide_eq_true_eq, decide_eq_false_iff_not, ge_iff_le, gt_iff_lt] at *); omega)))) ?_
          refine E.W.val (.int .u8 (V.d k c)) (by kernel_rfl) (fun w h => E.run_as (a := .int .u8 (V.d ((256 * k + c) / 256) ((256 * k + c) % 256))) (E.run_as (a := .int .u8 ((R.flat V.d V.n).getD (256 * k + c) 0)) (A.Y.vld (A.X.y h.x) (k := 2) (i := (256 * k + c)) rfl (by kernel_rfl) (by kernel_rfl) (by simp only [R.flat_len]; (first | assumption | ((try simp only [Bool.or_eq_false_iff, Bool.or_eq_true, Bool.and_eq_true, Bool.and_eq_false_iff, Bool.not_eq_eq_eq_not, Bool.not_true, Bool.not_false, decide_eq_true_eq, decide_eq_false_iff_not, ge_iff_le, gt_iff_lt] at *); omega)))) (congrArg (Value.int .u8) (R.flat_get (by (first | assumption | ((try simp only [Bool.or_eq_false_iff, Bool.or_eq_true, Bool.and_eq_true, Bool.and_eq_false_iff, Bool.not_eq_eq_eq_not, Bool.not_true, Bool.not_false, decide_eq_true_eq, decide_eq_false_iff_not, ge_iff_le, gt_iff_lt] at *); omega)))))) (congrArg (Value.int .u8) (by rw [show (256 * k + c) / 256 = k by omega, show (256 * k + c) % 256 = c by omega]))) ?_
          refine E.W.op (.pointer (some ⟨r, 0, none⟩)) (fun w => by kernel_rfl) (by kernel_rfl) ?_
          refine E.W.op (.pointer (some ⟨r, 0, none⟩)) (fun w => by kernel_rfl) (by kernel_rfl) ?_
          refine E.W.op (.pointer (some ⟨r, 2, none⟩)) (fun w => by kernel_rfl) (by kernel_rfl) ?_
          refine E.W.val (.slice s.a2 (256 * V.n) s.c2) (by kernel_rfl) (fun w h => A.Y.bld (A.X.y h.x) (k := 1) (j := 2) rfl (by kernel_rfl) (by kernel_rfl)) ?_
          refine E.W.op (.int .i64 ((256 * k + c : Nat) : Int)) (fun w => by kernel_rfl) (by kernel_rfl) ?_
          refine E.W.val (.pointer (some ⟨(A.bk s.a2), (256 * k + c), none⟩)) (by kernel_rfl) (fun w h => A.Y.idx (e := 5) (ik := .i64) (i := (256 * k + c)) (len := (256 * V.n)) (c2 := s.c2) (A.X.y h.x) (k := 4) rfl (by kernel_rfl) (by kernel_rfl) (by kernel_rfl) (by kernel_rfl) (by (first | assumption | ((try simp only [Bool.or_eq_false_iff, Bool.or_eq_true, Bool.and_eq_true, Bool.and_eq_false_iff, Bool.not_eq_eq_eq_not, Bool.not_true, Bool.not_false, decide_eq_true_eq, decide_eq_false_iff_not, ge_iff_le, gt_iff_lt] at *); omega))) (by simp only [R.flat_len]; (first | assumption | ((try simp only [Bool.or_eq_false_iff, Bool.or_eq_true, Bool.and_eq_true, Bool.and_eq_false_iff, Bool.not_eq_eq_eq_not, Bool.not_true, Bool.not_false, decide_eq_true_eq, decide_eq_false_iff_not, ge_iff_le, gt_iff_lt] at *); omega)))) ?_
          refine E.W.val (.int .u8 (V.cd k c)) (by kernel_rfl) (fun w h => E.run_as (a := .int .u8 (V.cd ((256 * k + c) / 256) ((256 * k + c) % 256))) (E.run_as (a := .int .u8 ((R.flat V.cd V.n).getD (256 * k + c) 0)) (A.Y.vld (A.X.y h.x) (k := 4) (i := (256 * k + c)) rfl (by kernel_rfl) (by kernel_rfl) (by simp only [R.flat_len]; (first | assumption | ((try simp only [Bool.or_eq_false_iff, Bool.or_eq_true, Bool.and_eq_true, Bool.and_eq_false_iff, Bool.not_eq_eq_eq_not, Bool.not_true, Bool.not_false, decide_eq_true_eq, decide_eq_false_iff_not, ge_iff_le, gt_iff_lt] at *); omega)))) (congrArg (Value.int .u8) (R.flat_get (by (first | assumption | ((try simp only [Bool.or_eq_false_iff, Bool.or_eq_true, Bool.and_eq_true, Bool.and_eq_false_iff, Bool.not_eq_eq_eq_not, Bool.not_true, Bool.not_false, decide_eq_true_eq, decide_eq_false_iff_not, ge_iff_le, gt_iff_lt] at *); omega)))))) (congrArg (Value.int .u8) (by rw [show (256 * k + c) / 256 = k by omega, show (256 * k + c) % 256 = c by omega]))) ?_
          refine E.W.op (.bool ((V.d k c) != (V.cd k c))) (fun w => by kernel_rfl) (by kernel_rfl) ?_
          refine E.W.op (.bool ((V.d k c) != (V.cd k c))) (fun w => by kernel_rfl) (by kernel_rfl) ?_
          exact E.W.end_cut ⟨by kernel_rfl, by kernel_rfl⟩
        · skip
          refine E.W.skip (by kernel_rfl) (by kernel_rfl) ?_
          refine E.W.skip (by kernel_rfl) (by kernel_rfl) ?_
          refine E.W.skip (by kernel_rfl) (by kernel_rfl) ?_
          refine E.W.skip (by kernel_rfl) (by kernel_rfl) ?_
          refine E.W.skip (by kernel_rfl) (by kernel_rfl) ?_
          refine E.W.skip (by kernel_rfl) (by kernel_rfl) ?_
          refine E.W.skip (by kernel_rfl) (by kernel_rfl) ?_
          refine E.W.skip (by kernel_rfl) (by kernel_rfl) ?_
          refine E.W.skip (by kernel_rfl) (by kernel_rfl) ?_
          refine E.W.skip (by kernel_rfl) (by kernel_rfl) ?_
          refine E.W.skip (by kernel_rfl) (by kernel_rfl) ?_
          refine E.W.skip (by kernel_rfl) (by kernel_rfl) ?_
          refine E.W.skip (by kernel_rfl) (by kernel_rfl) ?_
          refine E.W.skip (by kernel_rfl) (by kernel_rfl) ?_
          refine E.W.skip (by kernel_rfl) (by kernel_rfl) ?_
          refine E.W.op (.bool true) (fun w => by kernel_rfl) (by kernel_rfl) ?_
          exact E.W.end_cut ⟨by kernel_rfl, by kernel_rfl⟩
      refine E.W.op (.bool ((R.df V k c) || ((V.d k c) != (V.cd k c)))) (fun w => by kernel_rfl) (by kernel_rfl) ?_
      refine E.W.cut 23 [(0, .pointer (some ⟨r, 0, none⟩)), (3, .slice ao ((V.dl k).length) cp), (4, .int .i64 ((k : Nat) : Int)), (5, .bool (R.df V k c)), (6, .int .i64 ((256 * k + c : Nat) : Int)), (67, .bool (((R.df V k c) || ((V.d k c) != (V.cd k c))) || ((!V.coh) && ((V.i k c) != (V.ci k c)))))] ?_ ?_
      · generalize hc6 : ((R.df V k c) || ((V.d k c) != (V.cd k c))) = b7
        cases b7
        · skip
          refine E.W.op (.pointer (some ⟨r, 0, none⟩)) (fun w => by kernel_rfl) (by kernel_rfl) ?_
          refine E.W.op (.pointer (some ⟨r, 0, none⟩)) (fun w => by kernel_rfl) (by kernel_rfl) ?_
          refine E.W.op (.pointer (some ⟨r, 5, none⟩)) (fun w => by kernel_rfl) (by kernel_rfl) ?_
          refine E.W.val (.bool V.coh) (by kernel_rfl) (fun w h => A.Y.bld (A.X.y h.x) (k := 1) (j := 5) rfl (by kernel_rfl) (by kernel_rfl)) ?_
          refine E.W.op (.bool (!V.coh)) (fun w => by kernel_rfl) (by kernel_rfl) ?_
          refine E.W.op (.bool (!V.coh)) (fun w => by kernel_rfl) (by kernel_rfl) ?_
          refine E.W.cut 16 [(0, .pointer (some ⟨r, 0, none⟩)), (3, .slice ao ((V.dl k).length) cp), (4, .int .i64 ((k : Nat) : Int)), (5, .bool (R.df V k c)), (6, .int .i64 ((256 * k + c : Nat) : Int)), (44, .bool false), (66, .bool ((!V.coh) && ((V.i k c) != (V.ci k c))))] ?_ ?_
          · generalize hc8 : (!V.coh) = b9
            cases b9
            · skip
              refine E.W.skip (by kernel_rfl) (by kernel_rfl) ?_
              refine E.W.skip (by kernel_rfl) (by kernel_rfl) ?_
              refine E.W.skip (by kernel_rfl) (by kernel_rfl) ?_
              refine E.W.skip (by kernel_rfl) (by kernel_rfl) ?_
              refine E.W.skip (by kernel_rfl) (by kernel_rfl) ?_
              refine E.W.skip (by kernel_rfl) (by kernel_rfl) ?_
              refine E.W.skip (by kernel_rfl) (by kernel_rfl) ?_
              refine E.W.skip (by kernel_rfl) (by kernel_rfl) ?_
              refine E.W.skip (by kernel_rfl) (by kernel_rfl) ?_
              refine E.W.skip (by kernel_rfl) (by kernel_rfl) ?_
              refine E.W.skip (by kernel_rfl) (by kernel_rfl) ?_
              refine E.W.skip (by kernel_rfl) (by kernel_rfl) ?_
              refine E.W.skip (by kernel_rfl) (by kernel_rfl) ?_
              refine E.W.skip (by kernel_rfl) (by kernel_rfl) ?_
              refine E.W.skip (by kernel_rfl) (by kernel_rfl) ?_
              refine E.W.op (.bool false) (fun w => by kernel_rfl) (by kernel_rfl) ?_
              exact E.W.end_cut ⟨by kernel_rfl, by kernel_rfl⟩
            · skip
              refine E.W.op (.pointer (some ⟨r, 0, none⟩)) (fun w => by kernel_rfl) (by kernel_rfl) ?_
              refine E.W.op (.pointer (some ⟨r, 0, none⟩)) (fun w => by kernel_rfl) (by kernel_rfl) ?_
              refine E.W.op (.pointer (some ⟨r, 1, none⟩)) (fun w => by kernel_rfl) (by kernel_rfl) ?_
              refine E.W.val (.slice s.a1 (256 * R.len V) s.c1) (by kernel_rfl) (fun w h => A.Y.bld (A.X.y h.x) (k := 1) (j := 1) rfl (by kernel_rfl) (by kernel_rfl)) ?_
              refine E.W.op (.int .i64 ((256 * k + c : Nat) : Int)) (fun w => by kernel_rfl) (by kernel_rfl) ?_
              refine E.W.val (.pointer (some ⟨(A.bk s.a1), (256 * k + c), none⟩)) (by kernel_rfl) (fun w h => A.Y.idx (e := 5) (ik := .i64) (i := (256 * k + c)) (len := (256 * R.len V)) (c2 := s.c1) (A.X.y h.x) (k := 3) rfl (by kernel_rfl) (by kernel_rfl) (by kernel_rfl) (by kernel_rfl) (by rw [R.len_f (by simpa using ‹(!V.coh) = true›)]; (first | assumption | ((try simp only [Bool.or_eq_false_iff, Bool.or_eq_true, Bool.and_eq_true, Bool.and_eq_false_iff, Bool.not_eq_eq_eq_not, Bool.not_true, Bool.not_false, decide_eq_true_eq, decide_eq_false_iff_not, ge_iff_le, gt_iff_lt] at *); omega))) (by rw [R.flat_len, R.len_f (by simpa using ‹(!V.coh) = true›)]; (first | assumption | ((try simp only [Bool.or_eq_false_iff, Bool.or_eq_true, Bool.and_eq_true, Bool.and_eq_false_iff, Bool.not_eq_eq_eq_not, Bool.not_true, Bool.not_false, decide_eq_true_eq, decide_eq_false_iff_not, ge_iff_le, gt_iff_lt] at *); omega)))) ?_
              refine E.W.val (.int .u8 (V.i k c)) (by kernel_rfl) (fun w h => E.run_as (a := .int .u8 (V.i ((256 * k + c) / 256) ((256 * k + c) % 256))) (E.run_as (a := .int .u8 ((R.flat V.i (R.len V)).getD (256 * k + c) 0)) (A.Y.vld (A.X.y h.x) (k := 3) (i := (256 * k + c)) rfl (by kernel_rfl) (by kernel_rfl) (by rw [R.flat_len, R.len_f (by simpa using ‹(!V.coh) = true›)]; (first | assumption | ((try simp only [Bool.or_eq_false_iff, Bool.or_eq_true, Bool.and_eq_true, Bool.and_eq_false_iff, Bool.not_eq_eq_eq_not, Bool.not_true, Bool.not_false, decide_eq_true_eq, decide_eq_false_iff_not, ge_iff_le, gt_iff_lt] at *); omega)))) (congrArg (Value.int .u8) (R.flat_get (by rw [R.len_f (by simpa using ‹(!V.coh) = true›)]; (first | assumption | ((try simp only [Bool.or_eq_false_iff, Bool.or_eq_true, Bool.and_eq_true, Bool.and_eq_false_iff, Bool.not_eq_eq_eq_not, Bool.not_true, Bool.not_false, decide_eq_true_eq, decide_eq_false_iff_not, ge_iff_le, gt_iff_lt] at *); omega)))))) (congrArg (Value.int .u8) (by rw [show (256 * k + c) / 256 = k by omega, show (256 * k + c) % 256 = c by omega]))) ?_
              refine E.W.op (.pointer (some ⟨r, 0, none⟩)) (fun w => by kernel_rfl) (by kernel_rfl) ?_
              refine E.W.op (.pointer (some ⟨r, 0, none⟩)) (fun w => by kernel_rfl) (by kernel_rfl) ?_
              refine E.W.op (.pointer (some ⟨r, 3, none⟩)) (fun w => by kernel_rfl) (by kernel_rfl) ?_
              refine E.W.val (.slice s.a3 (256 * R.len V) s.c3) (by kernel_rfl) (fun w h => A.Y.bld (A.X.y h.x) (k := 1) (j := 3) rfl (by kernel_rfl) (by kernel_rfl)) ?_
              refine E.W.op (.int .i64 ((256 * k + c : Nat) : Int)) (fun w => by kernel_rfl) (by kernel_rfl) ?_
              refine E.W.val (.pointer (some ⟨(A.bk s.a3), (256 * k + c), none⟩)) (by kernel_rfl) (fun w h => A.Y.idx (e := 5) (ik := .i64) (i := (256 * k + c)) (len := (256 * R.len V)) (c2 := s.c3) (A.X.y h.x) (k := 5) rfl (by kernel_rfl) (by kernel_rfl) (by kernel_rfl) (by kernel_rfl) (by rw [R.len_f (by simpa using ‹(!V.coh) = true›)]; (first | assumption | ((try simp only [Bool.or_eq_false_iff, Bool.or_eq_true, Bool.and_eq_true, Bool.and_eq_false_iff, Bool.not_eq_eq_eq_not, Bool.not_true, Bool.not_false, decide_eq_true_eq, decide_eq_false_iff_not, ge_iff_le, gt_iff_lt] at *); omega))) (by rw [R.flat_len, R.len_f (by simpa using ‹(!V.coh) = true›)]; (first | assumption | ((try simp only [Bool.or_eq_false_iff, Bool.or_eq_true, Bool.and_eq_true, Bool.and_eq_false_iff, Bool.not_eq_eq_eq_not, Bool.not_true, Bool.not_false, decide_eq_true_eq, decide_eq_false_iff_not, ge_iff_le, gt_iff_lt] at *); omega)))) ?_
              refine E.W.val (.int .u8 (V.ci k c)) (by kernel_rfl) (fun w h => E.run_as (a := .int .u8 (V.ci ((256 * k + c) / 256) ((256 * k + c) % 256))) (E.run_as (a := .int .u8 ((R.flat V.ci (R.len V)).getD (256 * k + c) 0)) (A.Y.vld (A.X.y h.x) (k := 5) (i := (256 * k + c)) rfl (by kernel_rfl) (by kernel_rfl) (by rw [R.flat_len, R.len_f (by simpa using ‹(!V.coh) = true›)]; (first | assumption | ((try simp only [Bool.or_eq_false_iff, Bool.or_eq_true, Bool.and_eq_true, Bool.and_eq_false_iff, Bool.not_eq_eq_eq_not, Bool.not_true, Bool.not_false, decide_eq_true_eq, decide_eq_false_iff_not, ge_iff_le, gt_iff_lt] at *); omega)))) (congrArg (Value.int .u8) (R.flat_get (by rw [R.len_f (by simpa using ‹(!V.coh) = true›)]; (first | assumption | ((try simp only [Bool.or_eq_false_iff, Bool.or_eq_true, Bool.and_eq_true, Bool.and_eq_false_iff, Bool.not_eq_eq_eq_not, Bool.not_true, Bool.not_false, decide_eq_true_eq, decide_eq_false_iff_not, ge_iff_le, gt_iff_lt] at *); omega)))))) (congrArg (Value.int .u8) (by rw [show (256 * k + c) / 256 = k by omega, show (256 * k + c) % 256 = c by omega]))) ?_
              refine E.W.op (.bool ((V.i k c) != (V.ci k c))) (fun w => by kernel_rfl) (by kernel_rfl) ?_
              refine E.W.op (.bool ((V.i k c) != (V.ci k c))) (fun w => by kernel_rfl) (by kernel_rfl) ?_
              exact E.W.end_cut ⟨by kernel_rfl, by kernel_rfl⟩
          refine E.W.op (.bool ((!V.coh) && ((V.i k c) != (V.ci k c)))) (fun w => by kernel_rfl) (by kernel_rfl) ?_
          exact E.W.end_cut ⟨by kernel_rfl, by kernel_rfl⟩
        · skip
          refine E.W.skip (by kernel_rfl) (by kernel_rfl) ?_
          refine E.W.skip (by kernel_rfl) (by kernel_rfl) ?_
          refine E.W.skip (by kernel_rfl) (by kernel_rfl) ?_
          refine E.W.skip (by kernel_rfl) (by kernel_rfl) ?_
          refine E.W.skip (by kernel_rfl) (by kernel_rfl) ?_
          refine E.W.skip (by kernel_rfl) (by kernel_rfl) ?_
          refine E.W.skip (by kernel_rfl) (by kernel_rfl) ?_
          refine E.W.skip (by kernel_rfl) (by kernel_rfl) ?_
          refine E.W.skip (by kernel_rfl) (by kernel_rfl) ?_
          refine E.W.skip (by kernel_rfl) (by kernel_rfl) ?_
          refine E.W.skip (by kernel_rfl) (by kernel_rfl) ?_
          refine E.W.skip (by kernel_rfl) (by kernel_rfl) ?_
          refine E.W.skip (by kernel_rfl) (by kernel_rfl) ?_
          refine E.W.skip (by kernel_rfl) (by kernel_rfl) ?_
          refine E.W.skip (by kernel_rfl) (by kernel_rfl) ?_
          refine E.W.skip (by kernel_rfl) (by kernel_rfl) ?_
          refine E.W.skip (by kernel_rfl) (by kernel_rfl) ?_
          refine E.W.skip (by kernel_rfl) (by kernel_rfl) ?_
          refine E.W.skip (by kernel_rfl) (by kernel_rfl) ?_
          refine E.W.skip (by kernel_rfl) (by kernel_rfl) ?_
          refine E.W.skip (by kernel_rfl) (by kernel_rfl) ?_
          refine E.W.skip (by kernel_rfl) (by kernel_rfl) ?_
          refine E.W.op (.bool true) (fun w => by kernel_rfl) (by kernel_rfl) ?_
          exact E.W.end_cut ⟨by kernel_rfl, by kernel_rfl⟩
      refine E.W.op (.bool (((R.df V k c) || ((V.d k c) != (V.cd k c))) || ((!V.coh) && ((V.i k c) != (V.ci k c))))) (fun w => by kernel_rfl) (by kernel_rfl) ?_
      refine E.W.done (E.P.nb (E.To.code ?_))
      refine E.C.region ?_
      refine E.G.op (.int .i64 ((256 * k + c : Nat) : Int)) (fun w => by kernel_rfl) (by kernel_rfl) ?_
      refine E.G.val (.int .i64 ((256 * k + (c + 1) : Nat) : Int)) (by kernel_rfl) (fun w h => E.run_as (a := .int .i64 (IntKind.wrap .i64 (((256 * k + c : Nat) : Int) + 1))) (by kernel_rfl) (congrArg (Value.int .i64) (by exact Nz.add64 (x := 256 * k + c) (y := 1) (by have := hw.n; (first | assumption | ((try simp only [Bool.or_eq_false_iff, Bool.or_eq_true, Bool.and_eq_true, Bool.and_eq_false_iff, Bool.not_eq_eq_eq_not, Bool.not_true, Bool.not_false, decide_eq_true_eq, decide_eq_false_iff_not, ge_iff_le, gt_iff_lt] at *); omega)))))) ?_
      refine E.G.op (.int .i64 ((256 * k + (c + 1) : Nat) : Int)) (fun w => by kernel_rfl) (by kernel_rfl) ?_
      exact E.To.round (c + 1) (by show 256 - (c + 1) < 256 - c; (first | assumption | ((try simp only [Bool.or_eq_false_iff, Bool.or_eq_true, Bool.and_eq_true, Bool.and_eq_false_iff, Bool.not_eq_eq_eq_not, Bool.not_true, Bool.not_false, decide_eq_true_eq, decide_eq_false_iff_not, ge_iff_le, gt_iff_lt] at *); omega))) (by show c + 1 ≤ 256; (first | assumption | ((try simp only [Bool.or_eq_false_iff, Bool.or_eq_true, Bool.and_eq_true, Bool.and_eq_false_iff, Bool.not_eq_eq_eq_not, Bool.not_true, Bool.not_false, decide_eq_true_eq, decide_eq_false_iff_not, ge_iff_le, gt_iff_lt] at *); omega))) ⟨by kernel_rfl, by kernel_rfl⟩ (List.nil_sublist _) (fun _ h => h)
    · skip
      refine E.C.exit (E.P.et (E.P.et (E.P.eh (E.To.code ?_))))
      refine E.C.seq ?_
      have q := of_decide_eq_false hc3
      have e256 : c = 256 := by omega
      subst e256
      refine E.C.weak [(0, .pointer (some ⟨r, 0, none⟩)), (3, .slice ao ((V.dl k).length) cp), (4, .int .i64 ((k : Nat) : Int)), (5, .bool (R.df V k 256))] [] ⟨by kernel_rfl, by kernel_rfl⟩ (List.nil_sublist _) ?_
      rw [R.df_dty hw hk]
      refine E.C.region ?_
      refine E.G.op (.bool (V.dty k)) (fun w => by kernel_rfl) (by kernel_rfl) ?_
      refine E.To.code ?_
      refine E.C.cond (V.dty k) (by kernel_rfl) (by kernel_rfl) (fun hc10 => ?_) (fun hc10 => ?_)
      · skip
        refine E.C.region ?_
        refine E.G.op (.slice ao ((V.dl k).length) cp) (fun w => by kernel_rfl) (by kernel_rfl) ?_
        refine E.G.op (.int .i64 ((k : Nat) : Int)) (fun w => by kernel_rfl) (by kernel_rfl) ?_
        refine E.G.buildSlice [.int .i64 ((k : Nat) : Int)] (by kernel_rfl) (by kernel_rfl) (fun g11 => ?_)
        refine A.G.append1 (e := 3) (kd := .i64) (ao := ao) (cap := cp) 0 0 g11 0 1 8 (V.dl k) ((k : Nat) : Int) _ rfl (by kernel_rfl) (by kernel_rfl) (by kernel_rfl) (by kernel_rfl) (by kernel_rfl) rfl (by kernel_rfl) (by have := M.vdl_len V k; have := hw.n; omega) (by have := M.vdl_len V k; have := hw.n; omega) (by decide) (by kernel_rfl) (fun ao12 cp13 => ?_)
        refine E.G.op (.slice ao12 (((V.dl k) ++ [((k : Nat) : Int)]).length) cp13) (fun w => by kernel_rfl) (by kernel_rfl) ?_
        refine E.P.nb (E.To.code ?_)
        have hdl := M.vdl_t (V := V) (k := k) hc10
        refine E.C.weak [(0, .pointer (some ⟨r, 0, none⟩)), (3, .slice ao12 (((V.dl k) ++ [((k : Nat) : Int)]).length) cp13), (4, .int .i64 ((k : Nat) : Int))] [] ⟨by kernel_rfl, by kernel_rfl⟩ (List.nil_sublist _) ?_
        rw [← hdl]
        refine E.C.region ?_
        refine E.G.op (.int .i64 ((k : Nat) : Int)) (fun w => by kernel_rfl) (by kernel_rfl) ?_
        refine E.G.val (.int .i64 ((k + 1 : Nat) : Int)) (by kernel_rfl) (fun w h => E.run_as (a := .int .i64 (IntKind.wrap .i64 (((k : Nat) : Int) + 1))) (by kernel_rfl) (congrArg (Value.int .i64) (by exact Nz.add64 (x := k) (y := 1) (by have := hw.n; (first | assumption | ((try simp only [Bool.or_eq_false_iff, Bool.or_eq_true, Bool.and_eq_true, Bool.and_eq_false_iff, Bool.not_eq_eq_eq_not, Bool.not_true, Bool.not_false, decide_eq_true_eq, decide_eq_false_iff_not, ge_iff_le, gt_iff_lt] at *); omega)))))) ?_
        refine E.G.op (.int .i64 ((k + 1 : Nat) : Int)) (fun w => by kernel_rfl) (by kernel_rfl) ?_
        exact E.To.round (k + 1, ao12, cp13) (by show V.n - (k + 1) < V.n - k; (first | assumption | ((try simp only [Bool.or_eq_false_iff, Bool.or_eq_true, Bool.and_eq_true, Bool.and_eq_false_iff, Bool.not_eq_eq_eq_not, Bool.not_true, Bool.not_false, decide_eq_true_eq, decide_eq_false_iff_not, ge_iff_le, gt_iff_lt] at *); omega))) (by show k + 1 ≤ V.n; (first | assumption | ((try simp only [Bool.or_eq_false_iff, Bool.or_eq_true, Bool.and_eq_true, Bool.and_eq_false_iff, Bool.not_eq_eq_eq_not, Bool.not_true, Bool.not_false, decide_eq_true_eq, decide_eq_false_iff_not, ge_iff_le, gt_iff_lt] at *); omega))) ⟨by kernel_rfl, by kernel_rfl⟩ (List.nil_sublist _) (fun _ h => h)
      · skip
        refine E.C.skip (E.P.nb (E.To.code ?_))
        have hdl := M.vdl_f (V := V) (k := k) hc10
        refine E.C.weak [(0, .pointer (some ⟨r, 0, none⟩)), (3, .slice ao ((V.dl k).length) cp), (4, .int .i64 ((k : Nat) : Int))] [] ⟨by kernel_rfl, by kernel_rfl⟩ (List.nil_sublist _) ?_
        rw [← hdl]
        refine E.C.region ?_
        refine E.G.op (.int .i64 ((k : Nat) : Int)) (fun w => by kernel_rfl) (by kernel_rfl) ?_
        refine E.G.val (.int .i64 ((k + 1 : Nat) : Int)) (by kernel_rfl) (fun w h => E.run_as (a := .int .i64 (IntKind.wrap .i64 (((k : Nat) : Int) + 1))) (by kernel_rfl) (congrArg (Value.int .i64) (by exact Nz.add64 (x := k) (y := 1) (by have := hw.n; (first | assumption | ((try simp only [Bool.or_eq_false_iff, Bool.or_eq_true, Bool.and_eq_true, Bool.and_eq_false_iff, Bool.not_eq_eq_eq_not, Bool.not_true, Bool.not_false, decide_eq_true_eq, decide_eq_false_iff_not, ge_iff_le, gt_iff_lt] at *); omega)))))) ?_
        refine E.G.op (.int .i64 ((k + 1 : Nat) : Int)) (fun w => by kernel_rfl) (by kernel_rfl) ?_
        exact E.To.round (k + 1, ao, cp) (by show V.n - (k + 1) < V.n - k; (first | assumption | ((try simp only [Bool.or_eq_false_iff, Bool.or_eq_true, Bool.and_eq_true, Bool.and_eq_false_iff, Bool.not_eq_eq_eq_not, Bool.not_true, Bool.not_false, decide_eq_true_eq, decide_eq_false_iff_not, ge_iff_le, gt_iff_lt] at *); omega))) (by show k + 1 ≤ V.n; (first | assumption | ((try simp only [Bool.or_eq_false_iff, Bool.or_eq_true, Bool.and_eq_true, Bool.and_eq_false_iff, Bool.not_eq_eq_eq_not, Bool.not_true, Bool.not_false, decide_eq_true_eq, decide_eq_false_iff_not, ge_iff_le, gt_iff_lt] at *); omega))) ⟨by kernel_rfl, by kernel_rfl⟩ (List.nil_sublist _) (fun _ h => h)
  · skip
    refine E.C.exit (E.P.et (E.P.et (E.P.eh (E.To.code ?_))))
    refine E.C.weak [(3, .slice ao ((V.dl k).length) cp)] [] ⟨by kernel_rfl, by kernel_rfl⟩ (List.Sublist.refl _) ?_
    refine E.C.seq ?_
    refine E.C.region ?_
    refine E.G.op (.slice ao ((V.dl k).length) cp) (fun w => by kernel_rfl) (by kernel_rfl) ?_
    refine E.G.op (.slice ao ((V.dl k).length) cp) (fun w => by kernel_rfl) (by kernel_rfl) ?_
    refine E.To.code ?_
    refine E.C.ret (E.To.body (fn := Try.f51) [.slice ao ((V.dl k).length) cp] ?_ ?_)
    · exact ⟨⟨by kernel_rfl, by kernel_rfl⟩, trivial⟩
    · intro w h
      have e : k = V.n := by (first | assumption | ((try simp only [Bool.or_eq_false_iff, Bool.or_eq_true, Bool.and_eq_true, Bool.and_eq_false_iff, Bool.not_eq_eq_eq_not, Bool.not_true, Bool.not_false, decide_eq_true_eq, decide_eq_false_iff_not, ge_iff_le, gt_iff_lt] at *); omega))
      exact ⟨(ao, cp), trivial, by unfold M.V.dirty; rw [← e]; rfl, by have hq := A.done (q := [A.blk r [.slice s.a0 (256 * V.n) s.c0, .slice s.a1 (256 * R.len V) s.c1, .slice s.a2 (256 * V.n) s.c2, .slice s.a3 (256 * R.len V) s.c3, .slice s.a4 V.n s.c4, .bool V.coh], A.vec .u8 s.a0 s.c0 (R.flat V.d V.n), A.vec .u8 s.a1 s.c1 (R.flat V.i (R.len V)), A.vec .u8 s.a2 s.c2 (R.flat V.cd V.n), A.vec .u8 s.a3 s.c3 (R.flat V.ci (R.len V)), A.vec .i64 s.a4 s.c4 (R.rts V.r V.n), A.vec .i64 ao cp (V.dl k)]) (r := []) h (by kernel_rfl) (A.pm [1, 2, 3, 4, 5, 6, 0] (by kernel_rfl) (by kernel_rfl)); unfold M.V.dirty; rw [← e]; exact hq⟩
end Go.Proofs.Ytdjjjikokfadiaa

/- Walks: the reference memory, Same, printed by wip/eng. No condition but what is named. -/
namespace Go.Proofs.Ytdjjjikokfadiaa
set_option linter.unusedVariables false
set_option linter.unusedSimpArgs false
open Go.RowKit
theorem R.eqs_iff {V W : M.V} : ∀ k, V.eqs W k = true ↔ ∀ j, j < k → V.r j = W.r j ∧ ∀ x, x < 256 → V.d j x = W.d j x ∧ V.i j x = W.i j x
  | 0 => ⟨fun _ _ h => by omega, fun _ => rfl⟩
  | k + 1 => by
    have ih := R.eqs_iff (V := V) (W := W) k
    show (V.eqs W k && V.pgs W k) = true ↔ _
    unfold M.V.pgs
    rw [Bool.and_eq_true, ih, Bool.and_eq_true, Bool.and_eq_true, M.eqv_iff, M.eqv_iff]
    constructor
    · rintro ⟨h, h1, h2, h3⟩ j hj
      by_cases e : j = k
      · subst e; exact ⟨by simpa using h1, fun x hx => ⟨h2 x hx, h3 x hx⟩⟩
      · exact h j (by omega)
    · intro h
      exact ⟨fun j hj => h j (by omega), by simpa using (h k (by omega)).1, fun x hx => ((h k (by omega)).2 x hx).1, fun x hx => ((h k (by omega)).2 x hx).2⟩
theorem R.same_n {V W : M.V} (h : (((V.n : Nat) : Int) != ((W.n : Nat) : Int)) = true) : V.eq W = false := by
  unfold M.V.eq
  have : (V.n == W.n) = false := by
    simp at h ⊢; intro e; exact h (by rw [e])
  rw [this]; rfl
theorem R.same_go {V W : M.V} (h : (((V.n : Nat) : Int) != ((W.n : Nat) : Int)) = false) : V.n = W.n := by
  have h' : ((V.n : Nat) : Int) = ((W.n : Nat) : Int) := by simpa using h
  omega
theorem R.same_f {V W : M.V} {j : Nat} (hj : j < V.n) (h : V.r j ≠ W.r j ∨ ∃ x, x < 256 ∧ (V.d j x ≠ W.d j x ∨ V.i j x ≠ W.i j x)) : V.eq W = false := by
  unfold M.V.eq
  cases hq : V.eqs W V.n with
  | false => rw [Bool.and_false]
  | true =>
    have := R.eqs_iff V.n |>.1 hq j hj
    rcases h with h | ⟨x, hx, h | h⟩
    · exact absurd this.1 h
    · exact absurd (this.2 x hx).1 h
    · exact absurd (this.2 x hx).2 h
theorem R.same_t {V W : M.V} (hn : V.n = W.n) (h1 : ∀ j, j < V.n → V.r j = W.r j) (h2 : ∀ y, y < 256 * V.n → V.d (y / 256) (y % 256) = W.d (y / 256) (y % 256) ∧ V.code y = W.code y) : V.eq W = true := by
  unfold M.V.eq
  rw [Bool.and_eq_true, R.eqs_iff]
  refine ⟨by simpa using hn, fun j hj => ⟨h1 j hj, fun x hx => ?_⟩⟩
  have h := h2 (256 * j + x) (by omega)
  have e1 : (256 * j + x) / 256 = j := by omega
  have e2 : (256 * j + x) % 256 = x := by omega
  have c1 : V.code (256 * j + x) = V.i j x := by unfold M.V.code; rw [e1, e2, if_pos hj]
  have c2 : W.code (256 * j + x) = W.i j x := by unfold M.V.code; rw [e1, e2, if_pos (hn ▸ hj)]
  rw [e1, e2, c1, c2] at h
  exact h
theorem R.code_in {V : M.V} {y : Nat} (h : y / 256 < V.n) : V.code y = V.i (y / 256) (y % 256) := if_pos h
theorem R.ne_of {a b : Int} (h : (a != b) = true) : a ≠ b := by simpa using h
theorem R.eq_of {a b : Int} (h : (a != b) = false) : a = b := by simpa using h
theorem R.same_ne {V W : M.V} {y : Nat} (h1 : y / 256 < V.n) (h2 : y / 256 < W.n) (h : ((V.d (y / 256) (y % 256) != W.d (y / 256) (y % 256)) || (V.code y != W.code y)) = true) : V.d (y / 256) (y % 256) ≠ W.d (y / 256) (y % 256) ∨ V.i (y / 256) (y % 256) ≠ W.i (y / 256) (y % 256) := by
  rw [R.code_in h1, R.code_in h2] at h
  simpa using h
theorem R.same_eq {V W : M.V} {y : Nat} (h : ((V.d (y / 256) (y % 256) != W.d (y / 256) (y % 256)) || (V.code y != W.code y)) = false) : V.d (y / 256) (y % 256) = W.d (y / 256) (y % 256) ∧ V.code y = W.code y := by simpa using h
theorem R_Same {r q : Nat} {s t : R.Sl} {V W : M.V} (hw : R.Wf V) (hv : R.Wf W) : A.Rd Try.prog 31 #[.pointer (some ⟨r, 0, none⟩), .pointer (some ⟨q, 0, none⟩)] (R.its r s V ++ R.its q t W) (.bool (V.eq W)) := by
  intro w oo aa hh
  refine E.enter (n := 77) (S := fun _ => False) Try.func31 rfl rfl (by kernel_rfl) (A.startY hh) ?_
  refine E.C.seq ?_
  refine E.C.region ?_
  refine E.G.op (.bool false) (fun w => by kernel_rfl) (by kernel_rfl) ?_
  refine E.To.code ?_
  refine E.C.seq ?_
  refine E.C.seq ?_
  refine E.C.quiet (by kernel_rfl) (by kernel_rfl) ?_
  refine E.W.op (.pointer (some ⟨r, 0, none⟩)) (fun w => by kernel_rfl) (by kernel_rfl) ?_
  refine E.W.op (.pointer (some ⟨r, 0, none⟩)) (fun w => by kernel_rfl) (by kernel_rfl) ?_
  refine E.W.op (.pointer (some ⟨r, 4, none⟩)) (fun w => by kernel_rfl) (by kernel_rfl) ?_
  refine E.W.val (.slice s.a4 V.n s.c4) (by kernel_rfl) (fun w h => A.Y.bld h.x (k := 0) (j := 4) rfl (by kernel_rfl) (by kernel_rfl)) ?_
  refine E.W.op (.int .i64 ((V.n : Nat) : Int)) (fun w => by kernel_rfl) (by kernel_rfl) ?_
  refine E.W.op (.pointer (some ⟨q, 0, none⟩)) (fun w => by kernel_rfl) (by kernel_rfl) ?_
  refine E.W.op (.pointer (some ⟨q, 0, none⟩)) (fun w => by kernel_rfl) (by kernel_rfl) ?_
  refine E.W.op (.pointer (some ⟨q, 4, none⟩)) (fun w => by kernel_rfl) (by kernel_rfl) ?_
  refine E.W.val (.slice t.a4 W.n t.c4) (by kernel_rfl) (fun w h => A.Y.bld h.x (k := 6) (j := 4) rfl (by kernel_rfl) (by kernel_rfl)) ?_
  refine E.W.op (.int .i64 ((W.n : Nat) : Int)) (fun w => by kernel_rfl) (by kernel_rfl) ?_
  refine E.W.op (.bool (((V.n : Nat) : Int) != ((W.n : Nat) : Int))) (fun w => by kernel_rfl) (by kernel_rfl) ?_
  refine E.W.done (E.To.code ?_)
  refine E.C.weak [(0, .pointer (some ⟨r, 0, none⟩)), (1, .pointer (some ⟨q, 0, none⟩)), (4, .bool false), (17, .bool (((V.n : Nat) : Int) != ((W.n : Nat) : Int)))] [] ⟨by kernel_rfl, by kernel_rfl⟩ (List.Sublist.refl _) ?_
  refine E.C.cond (((V.n : Nat) : Int) != ((W.n : Nat) : Int)) (by kernel_rfl) (by kernel_rfl) (fun hc1 => ?_) (fun hc1 => ?_)
  · skip
    refine E.C.seq ?_
    refine E.C.region ?_
    refine E.G.op (.bool false) (fun w => by kernel_rfl) (by kernel_rfl) ?_
    refine E.To.code ?_
    refine E.C.ret (E.P.rt (E.To.body (fn := Try.f31) [.bool false] ?_ ?_))
    · exact ⟨⟨by kernel_rfl, by kernel_rfl⟩, trivial⟩
    · intro w h
      exact ⟨by rw [R.same_n hc1]; rfl, h.ch.bel (fun _ h => h.elim)⟩
  · skip
    refine E.C.skip (E.To.code ?_)
    refine E.C.seq ?_
    refine E.C.seq ?_
    have hn := R.same_go hc1
    refine E.C.region ?_
    refine E.G.op (.int .i64 0) (fun w => by kernel_rfl) (by kernel_rfl) ?_
    refine E.To.code ?_
    refine E.C.block ?_
    refine E.C.loop (I := Nat) (fun k => V.n - k) (fun k => k ≤ V.n ∧ ∀ j, j < k → V.r j = W.r j) (fun k => [(0, .pointer (some ⟨r, 0, none⟩)), (1, .pointer (some ⟨q, 0, none⟩)), (4, .bool false), (5, .int .i64 ((k : Nat) : Int))]) (fun k => A.Y [A.blk r [.slice s.a0 (256 * V.n) s.c0, .slice s.a1 (256 * R.len V) s.c1, .slice s.a2 (256 * V.n) s.c2, .slice s.a3 (256 * R.len V) s.c3, .slice s.a4 V.n s.c4, .bool V.coh], A.vec .u8 s.a0 s.c0 (R.flat V.d V.n), A.vec .u8 s.a1 s.c1 (R.flat V.i (R.len V)), A.vec .u8 s.a2 s.c2 (R.flat V.cd V.n), A.vec .u8 s.a3 s.c3 (R.flat V.ci (R.len V)), A.vec .i64 s.a4 s.c4 (R.rts V.r V.n), A.blk q [.slice t.a0 (256 * W.n) t.c0, .slice t.a1 (256 * R.len W) t.c1, .slice t.a2 (256 * W.n) t.c2, .slice t.a3 (256 * R.len W) t.c3, .slice t.a4 W.n t.c4, .bool W.coh], A.vec .u8 t.a0 t.c0 (R.flat W.d W.n), A.vec .u8 t.a1 t.c1 (R.flat W.i (R.len W)), A.vec .u8 t.a2 t.c2 (R.flat W.cd W.n), A.vec .u8 t.a3 t.c3 (R.flat W.ci (R.len W)), A.vec .i64 t.a4 t.c4 (R.rts W.r W.n)]) (fun k => []) 0 (⟨Nat.zero_le _, fun _ h => by omega⟩) ⟨by kernel_rfl, by kernel_rfl⟩ (List.Sublist.refl _) (fun _ h => h) (fun k hk1 => ?_)
    refine E.C.seq ?_
    refine E.C.seq ?_
    refine E.C.region ?_
    refine E.G.op (.int .i64 ((k : Nat) : Int)) (fun w => by kernel_rfl) (by kernel_rfl) ?_
    refine E.G.op (.pointer (some ⟨r, 0, none⟩)) (fun w => by kernel_rfl) (by kernel_rfl) ?_
    refine E.G.op (.pointer (some ⟨r, 0, none⟩)) (fun w => by kernel_rfl) (by kernel_rfl) ?_
    refine E.G.op (.pointer (some ⟨r, 4, none⟩)) (fun w => by kernel_rfl) (by kernel_rfl) ?_
    refine E.G.val (.slice s.a4 V.n s.c4) (by kernel_rfl) (fun w h => A.Y.bld h.x (k := 0) (j := 4) rfl (by kernel_rfl) (by kernel_rfl)) ?_
    refine E.G.op (.int .i64 ((V.n : Nat) : Int)) (fun w => by kernel_rfl) (by kernel_rfl) ?_
    refine E.G.op (.bool (decide (((k : Nat) : Int) < ((V.n : Nat) : Int)))) (fun w => by kernel_rfl) (by kernel_rfl) ?_
    refine E.To.code ?_
    refine E.C.cond (decide (((k : Nat) : Int) < ((V.n : Nat) : Int))) (by kernel_rfl) (by kernel_rfl) (fun hc2 => ?_) (fun hc2 => ?_)
    · skip
      refine E.C.skip (E.To.code ?_)
      refine E.C.seq ?_
      refine E.C.block ?_
      refine E.C.seq ?_
      have hka : k < V.n := by (first | assumption | ((try simp only [Bool.or_eq_false_iff, Bool.or_eq_true, Bool.and_eq_true, Bool.and_eq_false_iff, Bool.not_eq_eq_eq_not, Bool.not_true, Bool.not_false, decide_eq_true_eq, decide_eq_false_iff_not, ge_iff_le, gt_iff_lt] at *); omega))
      have hkb : k < W.n := by omega
      refine E.C.quiet (by kernel_rfl) (by kernel_rfl) ?_
      refine E.W.op (.pointer (some ⟨r, 0, none⟩)) (fun w => by kernel_rfl) (by kernel_rfl) ?_
      refine E.W.op (.pointer (some ⟨r, 0, none⟩)) (fun w => by kernel_rfl) (by kernel_rfl) ?_
      refine E.W.op (.pointer (some ⟨r, 4, none⟩)) (fun w => by kernel_rfl) (by kernel_rfl) ?_
      refine E.W.val (.slice s.a4 V.n s.c4) (by kernel_rfl) (fun w h => A.Y.bld h.x (k := 0) (j := 4) rfl (by kernel_rfl) (by kernel_rfl)) ?_
      refine E.W.op (.int .i64 ((k : Nat) : Int)) (fun w => by kernel_rfl) (by kernel_rfl) ?_
      refine E.W.val (.pointer (some ⟨(A.bk s.a4), k, none⟩)) (by kernel_rfl) (fun w h => A.Y.idx (e := 3) (ik := .i64) (i := k) (len := V.n) (c2 := s.c4) h.x (k := 5) rfl (by kernel_rfl) (by kernel_rfl) (by kernel_rfl) (by kernel_rfl) (by (first | assumption | ((try simp only [Bool.or_eq_false_iff, Bool.or_eq_true, Bool.and_eq_true, Bool.and_eq_false_iff, Bool.not_eq_eq_eq_not, Bool.not_true, Bool.not_false, decide_eq_true_eq, decide_eq_false_iff_not, ge_iff_le, gt_iff_lt] at *); omega))) (by simp only [R.rts_len]; (first | assumption | ((try simp only [Bool.or_eq_false_iff, Bool.or_eq_true, Bool.and_eq_true, Bool.and_eq_false_iff, Bool.not_eq_eq_eq_not, Bool.not_true, Bool.not_false, decide_eq_true_eq, decide_eq_false_iff_not, ge_iff_le, gt_iff_lt] at *); omega)))) ?_
      refine E.W.val (.int .i64 (V.r k)) (by kernel_rfl) (fun w h => E.run_as (a := .int .i64 ((R.rts V.r V.n).getD k 0)) (A.Y.vld h.x (k := 5) (i := k) rfl (by kernel_rfl) (by kernel_rfl) (by simp only [R.rts_len]; (first | assumption | ((try simp only [Bool.or_eq_false_iff, Bool.or_eq_true, Bool.and_eq_true, Bool.and_eq_false_iff, Bool.not_eq_eq_eq_not, Bool.not_true, Bool.not_false, decide_eq_true_eq, decide_eq_false_iff_not, ge_iff_le, gt_iff_lt] at *); omega)))) (congrArg (Value.int .i64) (R.rts_get (by (first | assumption | ((try simp only [Bool.or_eq_false_iff, Bool.or_eq_true, Bool.and_eq_true, Bool.and_eq_false_iff, Bool.not_eq_eq_eq_not, Bool.not_true, Bool.not_false, decide_eq_true_eq, decide_eq_false_iff_not, ge_iff_le, gt_iff_lt] at *); omega)))))) ?_
      refine E.W.op (.pointer (some ⟨q, 0, none⟩)) (fun w => by kernel_rfl) (by kernel_rfl) ?_
      refine E.W.op (.pointer (some ⟨q, 0, none⟩)) (fun w => by kernel_rfl) (by kernel_rfl) ?_
      refine E.W.op (.pointer (some ⟨q, 4, none⟩)) (fun w => by kernel_rfl) (by kernel_rfl) ?_
      refine E.W.val (.slice t.a4 W.n t.c4) (by kernel_rfl) (fun w h => A.Y.bld h.x (k := 6) (j := 4) rfl (by kernel_rfl) (by kernel_rfl)) ?_
      refine E.W.op (.int .i64 ((k : Nat) : Int)) (fun w => by kernel_rfl) (by kernel_rfl) ?_
      refine E.W.val (.pointer (some ⟨(A.bk t.a4), k, none⟩)) (by kernel_rfl) (fun w h => A.Y.idx (e := 3) (ik := .i64) (i := k) (len := W.n) (c2 := t.c4) h.x (k := 11) rfl (by kernel_rfl) (by kernel_rfl) (by kernel_rfl) (by kernel_rfl) (by (first | assumption | ((try simp only [Bool.or_eq_false_iff, Bool.or_eq_true, Bool.and_eq_true, Bool.and_eq_false_iff, Bool.not_eq_eq_eq_not, Bool.not_true, Bool.not_false, decide_eq_true_eq, decide_eq_false_iff_not, ge_iff_le, gt_iff_lt] at *); omega))) (by simp only [R.rts_len]; (first | assumption | ((try simp only [Bool.or_eq_false_iff, Bool.or_eq_true, Bool.and_eq_true, Bool.and_eq_false_iff, Bool.not_eq_eq_eq_not, Bool.not_true, Bool.not_false, decide_eq_true_eq, decide_eq_false_iff_not, ge_iff_le, gt_iff_lt] at *); omega)))) ?_
      refine E.W.val (.int .i64 (W.r k)) (by kernel_rfl) (fun w h => E.run_as (a := .int .i64 ((R.rts W.r W.n).getD k 0)) (A.Y.vld h.x (k := 11) (i := k) rfl (by kernel_rfl) (by kernel_rfl) (by simp only [R.rts_len]; (first | assumption | ((try simp only [Bool.or_eq_false_iff, Bool.or_eq_true, Bool.and_eq_true, Bool.and_eq_false_iff, Bool.not_eq_eq_eq_not, Bool.not_true, Bool.not_false, decide_eq_true_eq, decide_eq_false_iff_not, ge_iff_le, gt_iff_lt] at *); omega)))) (congrArg (Value.int .i64) (R.rts_get (by (first | assumption | ((try simp only [Bool.or_eq_false_iff, Bool.or_eq_true, Bool.and_eq_true, Bool.and_eq_false_iff, Bool.not_eq_eq_eq_not, Bool.not_true, Bool.not_false, decide_eq_true_eq, decide_eq_false_iff_not, ge_iff_le, gt_iff_lt] at *); omega)))))) ?_
      refine E.W.op (.bool ((V.r k) != (W.r k))) (fun w => by kernel_rfl) (by kernel_rfl) ?_
      refine E.W.done (E.To.code ?_)
      refine E.C.cond ((V.r k) != (W.r k)) (by kernel_rfl) (by kernel_rfl) (fun hc3 => ?_) (fun hc3 => ?_)
      · skip
        refine E.C.seq ?_
        refine E.C.region ?_
        refine E.G.op (.bool false) (fun w => by kernel_rfl) (by kernel_rfl) ?_
        refine E.To.code ?_
        refine E.C.ret (E.P.rb (E.P.rt (E.P.rt (E.P.rb (E.P.rt (E.To.body (fn := Try.f31) [.bool false] ?_ ?_))))))
        · exact ⟨⟨by kernel_rfl, by kernel_rfl⟩, trivial⟩
        · intro w h
          exact ⟨by rw [R.same_f hka (.inl (R.ne_of hc3))]; rfl, h.ch.bel (fun _ h => h.elim)⟩
      · skip
        refine E.C.skip (E.P.nb (E.To.code ?_))
        refine E.C.region ?_
        refine E.G.op (.int .i64 ((k : Nat) : Int)) (fun w => by kernel_rfl) (by kernel_rfl) ?_
        refine E.G.val (.int .i64 ((k + 1 : Nat) : Int)) (by kernel_rfl) (fun w h => E.run_as (a := .int .i64 (IntKind.wrap .i64 (((k : Nat) : Int) + 1))) (by kernel_rfl) (congrArg (Value.int .i64) (by exact Nz.add64 (x := k) (y := 1) (by have := hw.n; (first | assumption | ((try simp only [Bool.or_eq_false_iff, Bool.or_eq_true, Bool.and_eq_true, Bool.and_eq_false_iff, Bool.not_eq_eq_eq_not, Bool.not_true, Bool.not_false, decide_eq_true_eq, decide_eq_false_iff_not, ge_iff_le, gt_iff_lt] at *); omega)))))) ?_
        refine E.G.op (.int .i64 ((k + 1 : Nat) : Int)) (fun w => by kernel_rfl) (by kernel_rfl) ?_
        exact E.To.round (k + 1) (by (first | assumption | ((try simp only [Bool.or_eq_false_iff, Bool.or_eq_true, Bool.and_eq_true, Bool.and_eq_false_iff, Bool.not_eq_eq_eq_not, Bool.not_true, Bool.not_false, decide_eq_true_eq, decide_eq_false_iff_not, ge_iff_le, gt_iff_lt] at *); omega))) (⟨by (first | assumption | ((try simp only [Bool.or_eq_false_iff, Bool.or_eq_true, Bool.and_eq_true, Bool.and_eq_false_iff, Bool.not_eq_eq_eq_not, Bool.not_true, Bool.not_false, decide_eq_true_eq, decide_eq_false_iff_not, ge_iff_le, gt_iff_lt] at *); omega)), fun j hj => by by_cases e : j = k; (subst e; exact R.eq_of hc3); exact hk1.2 j (by omega)⟩) ⟨by kernel_rfl, by kernel_rfl⟩ (List.Sublist.refl _) (fun _ h => h)
    · skip
      refine E.C.exit (E.P.et (E.P.et (E.P.eh (E.To.code ?_))))
      refine E.C.weak [(0, .pointer (some ⟨r, 0, none⟩)), (1, .pointer (some ⟨q, 0, none⟩)), (4, .bool false)] [] ⟨by kernel_rfl, by kernel_rfl⟩ (List.Sublist.refl _) ?_
      refine E.C.seq ?_
      refine E.C.seq ?_
      have hr : ∀ j, j < V.n → V.r j = W.r j := fun j hj => hk1.2 j (by have q := of_decide_eq_false hc2; omega)
      refine E.C.region ?_
      refine E.G.op (.int .i64 0) (fun w => by kernel_rfl) (by kernel_rfl) ?_
      refine E.To.code ?_
      refine E.C.block ?_
      refine E.C.loop (I := Nat) (fun k => 256 * V.n - k) (fun k => k ≤ 256 * V.n ∧ ∀ y, y < k → V.d (y / 256) (y % 256) = W.d (y / 256) (y % 256) ∧ V.code y = W.code y) (fun k => [(0, .pointer (some ⟨r, 0, none⟩)), (1, .pointer (some ⟨q, 0, none⟩)), (4, .bool false), (6, .int .i64 ((k : Nat) : Int))]) (fun k => A.Y [A.blk r [.slice s.a0 (256 * V.n) s.c0, .slice s.a1 (256 * R.len V) s.c1, .slice s.a2 (256 * V.n) s.c2, .slice s.a3 (256 * R.len V) s.c3, .slice s.a4 V.n s.c4, .bool V.coh], A.vec .u8 s.a0 s.c0 (R.flat V.d V.n), A.vec .u8 s.a1 s.c1 (R.flat V.i (R.len V)), A.vec .u8 s.a2 s.c2 (R.flat V.cd V.n), A.vec .u8 s.a3 s.c3 (R.flat V.ci (R.len V)), A.vec .i64 s.a4 s.c4 (R.rts V.r V.n), A.blk q [.slice t.a0 (256 * W.n) t.c0, .slice t.a1 (256 * R.len W) t.c1, .slice t.a2 (256 * W.n) t.c2, .slice t.a3 (256 * R.len W) t.c3, .slice t.a4 W.n t.c4, .bool W.coh], A.vec .u8 t.a0 t.c0 (R.flat W.d W.n), A.vec .u8 t.a1 t.c1 (R.flat W.i (R.len W)), A.vec .u8 t.a2 t.c2 (R.flat W.cd W.n), A.vec .u8 t.a3 t.c3 (R.flat W.ci (R.len W)), A.vec .i64 t.a4 t.c4 (R.rts W.r W.n)]) (fun k => []) 0 (⟨Nat.zero_le _, fun _ h => by omega⟩) ⟨by kernel_rfl, by kernel_rfl⟩ (List.Sublist.refl _) (fun _ h => h) (fun k hk2 => ?_)
      refine E.C.seq ?_
      refine E.C.seq ?_
      refine E.C.region ?_
      refine E.G.op (.int .i64 ((k : Nat) : Int)) (fun w => by kernel_rfl) (by kernel_rfl) ?_
      refine E.G.op (.pointer (some ⟨r, 0, none⟩)) (fun w => by kernel_rfl) (by kernel_rfl) ?_
      refine E.G.op (.pointer (some ⟨r, 0, none⟩)) (fun w => by kernel_rfl) (by kernel_rfl) ?_
      refine E.G.op (.pointer (some ⟨r, 0, none⟩)) (fun w => by kernel_rfl) (by kernel_rfl) ?_
      refine E.G.val (.slice s.a0 (256 * V.n) s.c0) (by kernel_rfl) (fun w h => A.Y.bld h.x (k := 0) (j := 0) rfl (by kernel_rfl) (by kernel_rfl)) ?_
      refine E.G.op (.int .i64 (((256 * V.n) : Nat) : Int)) (fun w => by kernel_rfl) (by kernel_rfl) ?_
      refine E.G.op (.bool (decide (((k : Nat) : Int) < (((256 * V.n) : Nat) : Int)))) (fun w => by kernel_rfl) (by kernel_rfl) ?_
      refine E.To.code ?_
      refine E.C.cond (decide (((k : Nat) : Int) < (((256 * V.n) : Nat) : Int))) (by kernel_rfl) (by kernel_rfl) (fun hc4 => ?_) (fun hc4 => ?_)
      · skip
        refine E.C.skip (E.To.code ?_)
        refine E.C.seq ?_
        refine E.C.block ?_
        refine E.C.seq ?_
        have hka : k < 256 * V.n := by (first | assumption | ((try simp only [Bool.or_eq_false_iff, Bool.or_eq_true, Bool.and_eq_true, Bool.and_eq_false_iff, Bool.not_eq_eq_eq_not, Bool.not_true, Bool.not_false, decide_eq_true_eq, decide_eq_false_iff_not, ge_iff_le, gt_iff_lt] at *); omega))
        have hkb : k < 256 * W.n := by omega
        refine E.C.quiet (by kernel_rfl) (by kernel_rfl) ?_
        refine E.W.op (.pointer (some ⟨r, 0, none⟩)) (fun w => by kernel_rfl) (by kernel_rfl) ?_
        refine E.W.op (.pointer (some ⟨r, 0, none⟩)) (fun w => by kernel_rfl) (by kernel_rfl) ?_
        refine E.W.op (.pointer (some ⟨r, 0, none⟩)) (fun w => by kernel_rfl) (by kernel_rfl) ?_
        refine E.W.val (.slice s.a0 (256 * V.n) s.c0) (by kernel_rfl) (fun w h => A.Y.bld h.x (k := 0) (j := 0) rfl (by kernel_rfl) (by kernel_rfl)) ?_
        refine E.W.op (.int .i64 ((k : Nat) : Int)) (fun w => by kernel_rfl) (by kernel_rfl) ?_
        refine E.W.val (.pointer (some ⟨(A.bk s.a0), k, none⟩)) (by kernel_rfl) (fun w h => A.Y.idx (e := 5) (ik := .i64) (i := k) (len := (256 * V.n)) (c2 := s.c0) h.x (k := 1) rfl (by kernel_rfl) (by kernel_rfl) (by kernel_rfl) (by kernel_rfl) (by (first | assumption | ((try simp only [Bool.or_eq_false_iff, Bool.or_eq_true, Bool.and_eq_true, Bool.and_eq_false_iff, Bool.not_eq_eq_eq_not, Bool.not_true, Bool.not_false, decide_eq_true_eq, decide_eq_false_iff_not, ge_iff_le, gt_iff_lt] at *); omega))) (by simp only [R.flat_len]; (first | assumption | ((try simp only [Bool.or_eq_false_iff, Bool.or_eq_true, Bool.and_eq_true, Bool.and_eq_false_iff, Bool.not_eq_eq_eq_not, Bool.not_true, Bool.not_false, decide_eq_true_eq, decide_eq_false_iff_not, ge_iff_le, gt_iff_lt] at *); omega)))) ?_
        refine E.W.val (.int .u8 (V.d (k / 256) (k % 256))) (by kernel_rfl) (fun w h => E.run_as (a := .int .u8 ((R.flat V.d V.n).getD k 0)) (A.Y.vld h.x (k := 1) (i := k) rfl (by kernel_rfl) (by kernel_rfl) (by simp only [R.flat_len]; (first | assumption | ((try simp only [Bool.or_eq_false_iff, Bool.or_eq_true, Bool.and_eq_true, Bool.and_eq_false_iff, Bool.not_eq_eq_eq_not, Bool.not_true, Bool.not_false, decide_eq_true_eq, decide_eq_false_iff_not, ge_iff_le, gt_iff_lt] at *); omega)))) (congrArg (Value.int .u8) (R.flat_get (by (first | assumption | ((try simp only [Bool.or_eq_false_iff, Bool.or_eq_true, Bool.and_eq_true, Bool.and_eq_false_iff, Bool.not_eq_eq_eq_not, Bool.not_true, Bool.not_false, decide_eq_true_eq, decide_eq_false_iff_not, ge_iff_le, gt_iff_lt] at *); omega)))))) ?_
        refine E.W.op (.pointer (some ⟨q, 0, none⟩)) (fun w => by kernel_rfl) (by kernel_rfl) ?_
        refine E.W.op (.pointer (some ⟨q, 0, none⟩)) (fun w => by kernel_rfl) (by kernel_rfl) ?_
        refine E.W.op (.pointer (some ⟨q, 0, none⟩)) (fun w => by kernel_rfl) (by kernel_rfl) ?_
        refine E.W.val (.slice t.a0 (256 * W.n) t.c0) (by kernel_rfl) (fun w h => A.Y.bld h.x (k := 6) (j := 0) rfl (by kernel_rfl) (by kernel_rfl)) ?_
        refine E.W.op (.int .i64 ((k : Nat) : Int)) (fun w => by kernel_rfl) (by kernel_rfl) ?_
        refine E.W.val (.pointer (some ⟨(A.bk t.a0), k, none⟩)) (by kernel_rfl) (fun w h => A.Y.idx (e := 5) (ik := .i64) (i := k) (len := (256 * W.n)) (c2 := t.c0) h.x (k := 7) rfl (by kernel_rfl) (by kernel_rfl) (by kernel_rfl) (by kernel_rfl) (by (first | assumption | ((try simp only [Bool.or_eq_false_iff, Bool.or_eq_true, Bool.and_eq_true, Bool.and_eq_false_iff, Bool.not_eq_eq_eq_not, Bool.not_true, Bool.not_false, decide_eq_true_eq, decide_eq_false_iff_not, ge_iff_le, gt_iff_lt] at *); omega))) (by simp only [R.flat_len]; (first | assumption | ((try simp only [Bool.or_eq_false_iff, Bool.or_eq_true, Bool.and_eq_true, Bool.and_eq_false_iff, Bool.not_eq_eq_eq_not, Bool.not_true, Bool.not_false, decide_eq_true_eq, decide_eq_false_iff_not, ge_iff_le, gt_iff_lt] at *); omega)))) ?_
        refine E.W.val (.int .u8 (W.d (k / 256) (k % 256))) (by kernel_rfl) (fun w h => E.run_as (a := .int .u8 ((R.flat W.d W.n).getD k 0)) (A.Y.vld h.x (k := 7) (i := k) rfl (by kernel_rfl) (by kernel_rfl) (by simp only [R.flat_len]; (first | assumption | ((try simp only [Bool.or_eq_false_iff, Bool.or_eq_true, Bool.and_eq_true, Bool.and_eq_false_iff, Bool.not_eq_eq_eq_not, Bool.not_true, Bool.not_false, decide_eq_true_eq, decide_eq_false_iff_not, ge_iff_le, gt_iff_lt] at *); omega)))) (congrArg (Value.int .u8) (R.flat_get (by (first | assumption | ((try simp only [Bool.or_eq_false_iff, Bool.or_eq_true, Bool.and_eq_true, Bool.and_eq_false_iff, Bool.not_eq_eq_eq_not, Bool.not_true, Bool.not_false, decide_eq_true_eq, decide_eq_false_iff_not, ge_iff_le, gt_iff_lt] at *); omega)))))) ?_
        refine E.W.op (.bool ((V.d (k / 256) (k % 256)) != (W.d (k / 256) (k % 256)))) (fun w => by kernel_rfl) (by kernel_rfl) ?_
        refine E.W.op (.bool ((V.d (k / 256) (k % 256)) != (W.d (k / 256) (k % 256)))) (fun w => by kernel_rfl) (by kernel_rfl) ?_
        refine E.W.cut 10 [(0, .pointer (some ⟨r, 0, none⟩)), (1, .pointer (some ⟨q, 0, none⟩)), (4, .bool false), (6, .int .i64 ((k : Nat) : Int)), (42, .int .i64 ((k : Nat) : Int)), (43, .pointer (some ⟨r, 0, none⟩)), (44, .pointer (some ⟨r, 0, none⟩)), (45, .pointer (some ⟨r, 0, none⟩)), (46, .slice s.a0 (256 * V.n) s.c0), (47, .int .i64 (((256 * V.n) : Nat) : Int)), (48, .bool (decide (((k : Nat) : Int) < (((256 * V.n) : Nat) : Int)))), (51, .pointer (some ⟨r, 0, none⟩)), (52, .pointer (some ⟨r, 0, none⟩)), (53, .pointer (some ⟨r, 0, none⟩)), (54, .slice s.a0 (256 * V.n) s.c0), (55, .int .i64 ((k : Nat) : Int)), (56, .pointer (some ⟨(A.bk s.a0), k, none⟩)), (57, .int .u8 (V.d (k / 256) (k % 256))), (58, .pointer (some ⟨q, 0, none⟩)), (59, .pointer (some ⟨q, 0, none⟩)), (60, .pointer (some ⟨q, 0, none⟩)), (61, .slice t.a0 (256 * W.n) t.c0), (62, .int .i64 ((k : Nat) : Int)), (63, .pointer (some ⟨(A.bk t.a0), k, none⟩)), (64, .int .u8 (W.d (k / 256) (k % 256))), (65, .bool ((V.d (k / 256) (k % 256)) != (W.d (k / 256) (k % 256)))), (66, .bool ((V.d (k / 256) (k % 256)) != (W.d (k / 256) (k % 256)))), (76, .bool (((V.d (k / 256) (k % 256)) != (W.d (k / 256) (k % 256))) || ((V.code k) != (W.code k))))] ?_ ?_
        · generalize hc5 : ((V.d (k / 256) (k % 256)) != (W.d (k / 256) (k % 256))) = b6
          cases b6
          · skip
            refine E.W.op (.pointer (some ⟨r, 0, none⟩)) (fun w => by kernel_rfl) (by kernel_rfl) ?_
            refine E.W.op (.int .i64 ((k : Nat) : Int)) (fun w => by kernel_rfl) (by kernel_rfl) ?_
            refine E.W.val (.int .u32 ((k : Nat) : Int)) (by kernel_rfl) (fun w h => E.run_as (a := .int .u32 (IntKind.wrap .u32 ((k : Nat) : Int))) (by kernel_rfl) (congrArg (Value.int .u32) (by exact Nz.w32 (x := k) (by have := hw.n; (first | assumption | ((try simp only [Bool.or_eq_false_iff, Bool.or_eq_true, Bool.and_eq_true, Bool.and_eq_false_iff, Bool.not_eq_eq_eq_not, Bool.not_true, Bool.not_false, decide_eq_true_eq, decide_eq_false_iff_not, ge_iff_le, gt_iff_lt] at *); omega)))))) ?_
            refine E.W.call (.int .u8 (V.code k)) (fun w h => A.Y.rd [A.blk q [.slice t.a0 (256 * W.n) t.c0, .slice t.a1 (256 * R.len W) t.c1, .slice t.a2 (256 * W.n) t.c2, .slice t.a3 (256 * R.len W) t.c3, .slice t.a4 W.n t.c4, .bool W.coh], A.vec .u8 t.a0 t.c0 (R.flat W.d W.n), A.vec .u8 t.a1 t.c1 (R.flat W.i (R.len W)), A.vec .u8 t.a2 t.c2 (R.flat W.cd W.n), A.vec .u8 t.a3 t.c3 (R.flat W.ci (R.len W)), A.vec .i64 t.a4 t.c4 (R.rts W.r W.n)] (R_Code (r := r) (s := s) (V := V) hw k (by have := hw.n; (first | assumption | ((try simp only [Bool.or_eq_false_iff, Bool.or_eq_true, Bool.and_eq_true, Bool.and_eq_false_iff, Bool.not_eq_eq_eq_not, Bool.not_true, Bool.not_false, decide_eq_true_eq, decide_eq_false_iff_not, ge_iff_le, gt_iff_lt] at *); omega)))) h.x (A.pm [0, 1, 2, 3, 4, 5, 6, 7, 8, 9, 10, 11] (by kernel_rfl) (by kernel_rfl))) (fun w _ => by kernel_rfl) (by kernel_rfl) ?_
            refine E.W.op (.pointer (some ⟨q, 0, none⟩)) (fun w => by kernel_rfl) (by kernel_rfl) ?_
            refine E.W.op (.int .i64 ((k : Nat) : Int)) (fun w => by kernel_rfl) (by kernel_rfl) ?_
            refine E.W.val (.int .u32 ((k : Nat) : Int)) (by kernel_rfl) (fun w h => E.run_as (a := .int .u32 (IntKind.wrap .u32 ((k : Nat) : Int))) (by kernel_rfl) (congrArg (Value.int .u32) (by exact Nz.w32 (x := k) (by have := hw.n; (first | assumption | ((try simp only [Bool.or_eq_false_iff, Bool.or_eq_true, Bool.and_eq_true, Bool.and_eq_false_iff, Bool.not_eq_eq_eq_not, Bool.not_true, Bool.not_false, decide_eq_true_eq, decide_eq_false_iff_not, ge_iff_le, gt_iff_lt] at *); omega)))))) ?_
            refine E.W.call (.int .u8 (W.code k)) (fun w h => A.Y.rd [A.blk r [.slice s.a0 (256 * V.n) s.c0, .slice s.a1 (256 * R.len V) s.c1, .slice s.a2 (256 * V.n) s.c2, .slice s.a3 (256 * R.len V) s.c3, .slice s.a4 V.n s.c4, .bool V.coh], A.vec .u8 s.a0 s.c0 (R.flat V.d V.n), A.vec .u8 s.a1 s.c1 (R.flat V.i (R.len V)), A.vec .u8 s.a2 s.c2 (R.flat V.cd V.n), A.vec .u8 s.a3 s.c3 (R.flat V.ci (R.len V)), A.vec .i64 s.a4 s.c4 (R.rts V.r V.n)] (R_Code (r := q) (s := t) (V := W) hv k (by have := hw.n; (first | assumption | ((try simp only [Bool.or_eq_false_iff, Bool.or_eq_true, Bool.and_eq_true, Bool.and_eq_false_iff, Bool.not_eq_eq_eq_not, Bool.not_true, Bool.not_false, decide_eq_true_eq, decide_eq_false_iff_not, ge_iff_le, gt_iff_lt] at *); omega)))) h.x (A.pm [6, 7, 8, 9, 10, 11, 0, 1, 2, 3, 4, 5] (by kernel_rfl) (by kernel_rfl))) (fun w _ => by kernel_rfl) (by kernel_rfl) ?_
            refine E.W.op (.bool ((V.code k) != (W.code k))) (fun w => by kernel_rfl) (by kernel_rfl) ?_
            refine E.W.op (.bool ((V.code k) != (W.code k))) (fun w => by kernel_rfl) (by kernel_rfl) ?_
            exact E.W.end_cut ⟨by kernel_rfl, by kernel_rfl⟩
          · skip
            refine E.W.skip (by kernel_rfl) (by kernel_rfl) ?_
            refine E.W.skip (by kernel_rfl) (by kernel_rfl) ?_
            refine E.W.skip (by kernel_rfl) (by kernel_rfl) ?_
            refine E.W.skip (by kernel_rfl) (by kernel_rfl) ?_
            refine E.W.skip (by kernel_rfl) (by kernel_rfl) ?_
            refine E.W.skip (by kernel_rfl) (by kernel_rfl) ?_
            refine E.W.skip (by kernel_rfl) (by kernel_rfl) ?_
            refine E.W.skip (by kernel_rfl) (by kernel_rfl) ?_
            refine E.W.skip (by kernel_rfl) (by kernel_rfl) ?_
            refine E.W.op (.bool true) (fun w => by kernel_rfl) (by kernel_rfl) ?_
            exact E.W.end_cut ⟨by kernel_rfl, by kernel_rfl⟩
        refine E.W.done (E.To.code ?_)
        refine E.C.cond (((V.d (k / 256) (k % 256)) != (W.d (k / 256) (k % 256))) || ((V.code k) != (W.code k))) (by kernel_rfl) (by kernel_rfl) (fun hc7 => ?_) (fun hc7 => ?_)
        · skip
          refine E.C.seq ?_
          refine E.C.region ?_
          refine E.G.op (.bool false) (fun w => by kernel_rfl) (by kernel_rfl) ?_
          refine E.To.code ?_
          refine E.C.ret (E.P.rb (E.P.rt (E.P.rt (E.P.rb (E.P.rt (E.To.body (fn := Try.f31) [.bool false] ?_ ?_))))))
          · exact ⟨⟨by kernel_rfl, by kernel_rfl⟩, trivial⟩
          · intro w h
            exact ⟨by rw [R.same_f (V := V) (W := W) (j := k / 256) (by omega) (.inr ⟨k % 256, Nat.mod_lt _ (by decide), R.same_ne (by omega) (by omega) hc7⟩)]; rfl, h.ch.bel (fun _ h => h.elim)⟩
        · skip
          refine E.C.skip (E.P.nb (E.To.code ?_))
          refine E.C.region ?_
          refine E.G.op (.int .i64 ((k : Nat) : Int)) (fun w => by kernel_rfl) (by kernel_rfl) ?_
          refine E.G.val (.int .i64 ((k + 1 : Nat) : Int)) (by kernel_rfl) (fun w h => E.run_as (a := .int .i64 (IntKind.wrap .i64 (((k : Nat) : Int) + 1))) (by kernel_rfl) (congrArg (Value.int .i64) (by exact Nz.add64 (x := k) (y := 1) (by have := hw.n; (first | assumption | ((try simp only [Bool.or_eq_false_iff, Bool.or_eq_true, Bool.and_eq_true, Bool.and_eq_false_iff, Bool.not_eq_eq_eq_not, Bool.not_true, Bool.not_false, decide_eq_true_eq, decide_eq_false_iff_not, ge_iff_le, gt_iff_lt] at *); omega)))))) ?_
          refine E.G.op (.int .i64 ((k + 1 : Nat) : Int)) (fun w => by kernel_rfl) (by kernel_rfl) ?_
          exact E.To.round (k + 1) (by (first | assumption | ((try simp only [Bool.or_eq_false_iff, Bool.or_eq_true, Bool.and_eq_true, Bool.and_eq_false_iff, Bool.not_eq_eq_eq_not, Bool.not_true, Bool.not_false, decide_eq_true_eq, decide_eq_false_iff_not, ge_iff_le, gt_iff_lt] at *); omega))) (⟨by (first | assumption | ((try simp only [Bool.or_eq_false_iff, Bool.or_eq_true, Bool.and_eq_true, Bool.and_eq_false_iff, Bool.not_eq_eq_eq_not, Bool.not_true, Bool.not_false, decide_eq_true_eq, decide_eq_false_iff_not, ge_iff_le, gt_iff_lt] at *); omega)), fun j hj => by by_cases e : j = k; (subst e; exact R.same_eq hc7); exact hk2.2 j (by omega)⟩) ⟨by kernel_rfl, by kernel_rfl⟩ (List.Sublist.refl _) (fun _ h => h)
      · skip
        refine E.C.exit (E.P.et (E.P.et (E.P.eh (E.To.code ?_))))
        refine E.C.weak [(4, .bool false)] [] ⟨by kernel_rfl, by kernel_rfl⟩ (List.Sublist.refl _) ?_
        refine E.C.seq ?_
        refine E.C.region ?_
        refine E.G.op (.bool true) (fun w => by kernel_rfl) (by kernel_rfl) ?_
        refine E.To.code ?_
        refine E.C.ret (E.To.body (fn := Try.f31) [.bool true] ?_ ?_)
        · exact ⟨⟨by kernel_rfl, by kernel_rfl⟩, trivial⟩
        · intro w h
          have q := of_decide_eq_false hc4
          exact ⟨by rw [R.same_t hn hr fun y hy => hk2.2 y (by omega)]; rfl, h.ch.bel (fun _ h => h.elim)⟩
end Go.Proofs.Ytdjjjikokfadiaa

/- The reference memory in calls over items; read-only facts as items. No condition. -/
namespace Go.Proofs.Ytdjjjikokfadiaa
set_option linter.unusedVariables false
set_option linter.unusedSimpArgs false
open Go.RowKit
theorem B_Pages {r : Nat} {V : M.V}  : A.Rd Try.prog 45 #[.pointer (some ⟨r, 0, none⟩)] [R.It r V] (.int .i64 ((V.n : Nat) : Int)) := R.rd fun hw s => R_Pages
theorem B_Peek {r : Nat} {V : M.V} (a : Nat) (ha : a < 4294967296) : A.Rd Try.prog 50 #[.pointer (some ⟨r, 0, none⟩), .int .u32 ((a : Nat) : Int)] [R.It r V] (.int .u8 (V.peek a)) := R.rd fun hw s => R_Peek a ha
theorem B_Code {r : Nat} {V : M.V} (a : Nat) (ha : a < 4294967296) : A.Rd Try.prog 49 #[.pointer (some ⟨r, 0, none⟩), .int .u32 ((a : Nat) : Int)] [R.It r V] (.int .u8 (V.code a)) := R.rd fun hw s => R_Code hw a ha
theorem B_RightsOf {r : Nat} {V : M.V} (n : Int) : A.Rd Try.prog 52 #[.pointer (some ⟨r, 0, none⟩), .int .i64 n] [R.It r V] (.int .i64 (V.rt n)) := R.rd fun hw s => R_RightsOf n
theorem B_Page {r : Nat} {V : M.V} (n : Int) : A.Rd Try.prog 53 #[.pointer (some ⟨r, 0, none⟩), .int .i64 n] [R.It r V] (.string (V.page n)) := R.rd fun hw s => R_Page hw n
theorem B_Fetch {r : Nat} {V : M.V} (a : Nat) (ha : a < 4294967296) : A.Rd Try.prog 58 #[.pointer (some ⟨r, 0, none⟩), .int .u32 ((a : Nat) : Int)] [R.It r V] (.agg #[.int .u32 (V.fetch a).1, .int .u32 (if (V.fetch a).2 then 0 else ((a : Nat) : Int)), .bool (V.fetch a).2]) := R.rd fun hw s => R_Fetch hw a ha
theorem B_Load {r : Nat} {V : M.V} (a : Nat) (ha : a < 4294967296) (n : Int) : A.Rd Try.prog 56 #[.pointer (some ⟨r, 0, none⟩), .int .u32 ((a : Nat) : Int), .int .i64 n] [R.It r V] (.agg #[.int .u32 (V.load a n).1, .int .u32 (V.load a n).2.1, .bool (V.load a n).2.2]) := R.rd fun hw s => R_Load hw a ha n
theorem B_Store {r : Nat} {V : M.V} (a : Nat) (ha : a < 4294967296) (n v : Int) (hv : 0 ≤ v ∧ v < 4294967296) : A.Tr Try.prog 57 #[.pointer (some ⟨r, 0, none⟩), .int .u32 ((a : Nat) : Int), .int .i64 n, .int .u32 v] [R.It r V] (I := Unit) (fun _ => True) (fun _ => .agg #[.int .u32 0, .int .u32 (V.chk a 2 n).1, .bool (V.chk a 2 n).2]) (fun _ => [R.It r (V.sto a n v)]) := R.wr (fun hw s => R_Store hw a ha n v hv) (fun hw => by unfold M.V.sto; split; exact hw.put _ _ _; exact hw)
theorem B_Sync {r : Nat} {V : M.V} (a : Nat) (ha : a < 4294967296) : A.Tr Try.prog 59 #[.pointer (some ⟨r, 0, none⟩), .int .u32 ((a : Nat) : Int)] [R.It r V] (I := Unit) (fun _ => True) (fun _ => .bool (decide (a / 256 < V.n))) (fun _ => [R.It r (V.sync (a / 256))]) := R.wr (fun hw s => R_Sync a ha) (fun hw => hw.sync _)
theorem B_Poke {r : Nat} {V : M.V} (a : Nat) (ha : a < 4294967296) (b : ByteArray) (hb : b.size < 4294967296) : A.Tr Try.prog 60 #[.pointer (some ⟨r, 0, none⟩), .int .u32 ((a : Nat) : Int), .string b] [R.It r V] (I := Unit) (fun _ => True) (fun _ => .tuple #[]) (fun _ => [R.It r (V.poke a b b.size)]) := R.wr (fun hw s => R_Poke a ha b hb) (fun hw => hw.poke _ _ _)
theorem B_SetCode {r : Nat} {V : M.V} (n : Int) (b : ByteArray) : A.Tr Try.prog 61 #[.pointer (some ⟨r, 0, none⟩), .int .i64 n, .string b] [R.It r V] (I := Unit) (fun _ => True) (fun _ => .tuple #[]) (fun _ => [R.It r (V.setc n b)]) := R.wr (fun hw s => R_SetCode hw n b) (fun hw => hw.setc _ _)
theorem B_Protect {r : Nat} {V : M.V} (n x : Int) : A.Tr Try.prog 44 #[.pointer (some ⟨r, 0, none⟩), .int .i64 n, .int .i64 x] [R.It r V] (I := Unit) (fun _ => True) (fun _ => .tuple #[]) (fun _ => [R.It r (V.prot n x)]) := R.wr (fun hw s => R_Protect n x) (fun hw => hw.prot _ _)
theorem B_Clean {r : Nat} {V : M.V} : A.Tr Try.prog 35 #[.pointer (some ⟨r, 0, none⟩)] [R.It r V] (I := Unit) (fun _ => True) (fun _ => .tuple #[]) (fun _ => [R.It r V.clean]) := by
  intro w o a hh
  obtain ⟨o1, a1, ⟨hw, s, hs⟩, ho, ha⟩ := A.Has.one' hh
  exact (R_Clean hw w o1 a1 hs).mono fun e w' ⟨s2, _, he, o', a', hq, hc, hg⟩ => ⟨(), trivial, he, o', a', A.Has.one ⟨hw.clean, s2, hq⟩, hc.mono fun x _ hx => (ho x).1 hx, fun x hx hk => (ho x).1 (hg.1 x hx hk), fun x hx hk => (ha x).1 (hg.2 x hx hk)⟩
theorem B_Dirty {r : Nat} {V : M.V} : A.Tr Try.prog 51 #[.pointer (some ⟨r, 0, none⟩)] [R.It r V] (I := Option Addr × Nat) (fun _ => True) (fun i => .slice i.1 V.dirty.length i.2) (fun i => [R.It r V, A.vec .i64 i.1 i.2 V.dirty]) := by
  intro w o a hh
  obtain ⟨o1, a1, ⟨hw, s, hs⟩, ho, ha⟩ := A.Has.one' hh
  refine (R_Dirty hw w o1 a1 hs).mono fun e w' ⟨i, _, he, o', a', hq, hc, hg⟩ => ?_
  obtain ⟨p1, q1, p2, q2, k1, k2, d1, d2, go, ga⟩ := hq.append
  obtain ⟨p3, q3, k3, e3, e4⟩ := A.Has.one' k2
  exact ⟨i, trivial, he, o', a', ⟨p1, q1, p2, q2, ⟨hw, s, k1⟩, k2, d1, d2, go, ga⟩, hc.mono fun x _ hx => (ho x).1 hx, fun x hx hk => (ho x).1 (hg.1 x hx hk), fun x hx hk => (ha x).1 (hg.2 x hx hk)⟩
theorem B_Same {r q : Nat} {V W : M.V} : A.Rd Try.prog 31 #[.pointer (some ⟨r, 0, none⟩), .pointer (some ⟨q, 0, none⟩)] [R.It r V, R.It q W] (.bool (V.eq W)) := by
  intro w o a ⟨p1, q1, p2, q2, ⟨hw, s, hs⟩, h2, d1, d2, ho, ha⟩
  obtain ⟨p3, q3, ⟨hv, t, ht⟩, e3, e4⟩ := A.Has.one' h2
  have := hs.join ht (fun x hx hk => d1 x hx ((e4 x).1 hk)) (fun x hx hk => d2 x ((e3 x).1 hx) hk)
  exact R_Same hw hv w _ _ this
/-- What is known of cells that nobody owns. -/
def A.facts (F : Addr → Value → Prop) : A.It where
  t w o a := (∀ ad v, F ad v → w.cell? ad = some v) ∧ (∀ x, ¬ o x) ∧ ∀ x, a x ↔ ∃ ad v, F ad v ∧ ad.block = x
  sub := fun h x hx => (h.2.1 x hx).elim
  lt := fun h x hx => by
    obtain ⟨ad, v, hf, rfl⟩ := (h.2.2 x).1 hx
    exact M.cell_lt (h.1 ad v hf)
  keep := fun {w w' o a} h hk => ⟨fun ad v hf => by
    have hc := h.1 ad v hf
    have hb := hk ad.block ((h.2.2 _).2 ⟨ad, v, hf, rfl⟩)
    rw [World.cell?] at hc ⊢; rw [hb]; exact hc, h.2⟩
  apart := fun {w w2 o a o2 a2 x} h h2 _ hz hx => by
    obtain ⟨ad, v, hf, rfl⟩ := (h.2.2 x).1 hx
    have hc := h2.1 ad v hf
    cases hs : ad.spot with
    | none =>
      have e : ad = ⟨ad.block, ad.off, none⟩ := by cases ad; simp at hs ⊢; exact hs
      rw [e, hz] at hc; cases hc
    | some sp =>
      rw [World.cell?] at hc
      split at hc
      · simp [hs] at hc
      · cases hc
theorem A.facts_has {F : Addr → Value → Prop} {w : World} (h : ∀ ad v, F ad v → w.cell? ad = some v) : A.Has [A.facts F] w (fun _ => False) (fun x => ∃ ad v, F ad v ∧ ad.block = x) :=
  ⟨_, _, fun _ => False, fun _ => False, ⟨h, fun _ h => h, fun _ => Iff.rfl⟩, ⟨fun _ h => h, fun _ h => h⟩, fun _ h => h.elim, fun _ h => h.elim, fun x => by simp, fun x => by simp⟩
theorem A.hpY {w0 w : World} {o0 a0 : Nat → Prop} {its p r : List A.It} {L : List (Nat × List Value)} (h : E.Hp o0 w0 (A.X w0 o0 a0 its) L w) (hne : A.ne L = true) (h1 : (A.bl L ++ its).Perm (p ++ r)) : A.Y p w := by
  obtain ⟨o, a, hh, _⟩ := A.hp_has hne h
  exact A.Y.part ⟨o, a, hh⟩ h1
theorem A.Y.fact {w : World} {its : List A.It} {F : Addr → Value → Prop} {k : Nat} (h : A.Y its w) (hk : its[k]? = some (A.facts F)) {ad : Addr} {v : Value} (hf : F ad v) : w.cell? ad = some v := by
  obtain ⟨o1, a1, hv⟩ := h.get hk
  exact hv.1 ad v hf
end Go.Proofs.Ytdjjjikokfadiaa

/- Walks: sanity of the laws of mem, printed by wip/eng. No condition but what is named. -/
namespace Go.Proofs.Ytdjjjikokfadiaa
set_option linter.unusedVariables false
set_option linter.unusedSimpArgs false
open Go.RowKit
def M.s0 : M.V := M.V.new (M.np 2) false
def M.s1 : M.V := M.s0.prot 0 3
def M.s2 : M.V := M.s1.prot 1 1
def M.s3 : M.V := M.s2.sto 254 4 67305985
def M.s4 : M.V := M.s3.sto 252 4 67305985
def M.s5 : M.V := M.s4.clean
def M.s6 : M.V := M.s5.poke 255 (⟨#[97, 98]⟩ : ByteArray) (⟨#[97, 98]⟩ : ByteArray).size
theorem M.san1 : M.s2.chk 254 2 4 = (256, false) := by kernel_rfl
theorem M.san2 : M.s3.chk 252 2 4 = (0, true) := by kernel_rfl
theorem M.san3 : M.s4.load 253 2 = (770, 0, true) := by kernel_rfl
theorem M.san4 : M.s6.dirty = [0, 1] := by kernel_rfl
theorem M.san5 : M.s6.n = 2 := by kernel_rfl
theorem M.san6 : M.s6.peek 256 = 98 := by kernel_rfl
theorem M.rdAs {P : Program} {f : FuncId} {args : Array Value} {p : List A.It} {v v' : Value} (h : A.Rd P f args p v) (e : v = v') : A.Rd P f args p v' := e ▸ h
theorem San  : A.Rd Try.prog 14 #[] [] (.bool true) := by
  intro w oo aa hh
  refine E.enter (n := 82) (S := oo) Try.func14 rfl rfl (by kernel_rfl) (A.start (L := []) hh) ?_
  refine E.C.seq ?_
  refine E.C.region ?_
  refine E.G.op (.bool false) (fun w => by kernel_rfl) (by kernel_rfl) ?_
  refine E.To.code ?_
  refine E.C.seq ?_
  refine E.C.region ?_
  refine A.G.call (I := Nat) (D := fun m1 => True) (V := fun m1 => .pointer (some ⟨m1, 0, none⟩)) (q := fun m1 => [M.It m1 M.s0 ([])]) [] (fun m1 => []) (fun m1 => [M.It m1 M.s0 ([])]) (A_New 2 false) (by kernel_rfl) (A.pm [] (by kernel_rfl) (by kernel_rfl)) (fun m1 => A.pm [0] (by kernel_rfl) (by kernel_rfl)) (fun w _ => by kernel_rfl) (by kernel_rfl) (fun m1 hd2 => ?_)
  refine E.G.op (.pointer (some ⟨m1, 0, none⟩)) (fun w => by kernel_rfl) (by kernel_rfl) ?_
  refine E.To.code ?_
  refine E.C.seq ?_
  refine E.C.seq ?_
  refine E.C.region ?_
  refine E.G.op (.pointer (some ⟨m1, 0, none⟩)) (fun w => by kernel_rfl) (by kernel_rfl) ?_
  refine E.G.op (.bool false) (fun w => by kernel_rfl) (by kernel_rfl) ?_
  refine E.To.code ?_
  refine E.C.condF (by kernel_rfl) (by kernel_rfl) ?_
  refine E.C.skip (E.To.code ?_)
  refine E.C.seq ?_
  refine E.C.region ?_
  refine E.G.op (.pointer (some ⟨m1, 0, none⟩)) (fun w => by kernel_rfl) (by kernel_rfl) ?_
  refine A.G.call (I := Unit) (D := fun _ => True) (V := fun _ => .tuple #[]) (q := fun _ => [M.It m1 M.s1 ([])]) [] (fun _ => []) (fun _ => [M.It m1 M.s1 ([])]) (A_Protect 0 3 (m := m1) (V := M.s0) (xs := [])) (by kernel_rfl) (A.pm [0] (by kernel_rfl) (by kernel_rfl)) (fun _ => A.pm [0] (by kernel_rfl) (by kernel_rfl)) (fun w _ => by kernel_rfl) (by kernel_rfl) (fun _ hd3 => ?_)
  refine E.To.code ?_
  refine E.C.seq ?_
  refine E.C.region ?_
  refine E.G.op (.pointer (some ⟨m1, 0, none⟩)) (fun w => by kernel_rfl) (by kernel_rfl) ?_
  refine A.G.call (I := Unit) (D := fun _ => True) (V := fun _ => .tuple #[]) (q := fun _ => [M.It m1 M.s2 ([])]) [] (fun _ => []) (fun _ => [M.It m1 M.s2 ([])]) (A_Protect 1 1 (m := m1) (V := M.s1) (xs := [])) (by kernel_rfl) (A.pm [0] (by kernel_rfl) (by kernel_rfl)) (fun _ => A.pm [0] (by kernel_rfl) (by kernel_rfl)) (fun w _ => by kernel_rfl) (by kernel_rfl) (fun _ hd4 => ?_)
  refine E.To.code ?_
  refine E.C.seq ?_
  refine E.C.region ?_
  refine E.G.op (.pointer (some ⟨m1, 0, none⟩)) (fun w => by kernel_rfl) (by kernel_rfl) ?_
  refine A.G.call (I := Unit) (D := fun _ => True) (V := fun _ => .tuple #[.int .u32 ((M.s2.chk 254 2 4).1), .bool ((M.s2.chk 254 2 4).2)]) (q := fun _ => [M.It m1 M.s3 ([])]) [] (fun _ => []) (fun _ => [M.It m1 M.s3 ([])]) (A_Store 254 4 67305985 (by first | exact M.near_lt _ | (first | assumption | ((try simp only [Bool.or_eq_false_iff, Bool.or_eq_true, Bool.and_eq_true, Bool.and_eq_false_iff, Bool.not_eq_eq_eq_not, Bool.not_true, Bool.not_false, decide_eq_true_eq, decide_eq_false_iff_not, ge_iff_le, gt_iff_lt] at *); omega))) (m := m1) (V := M.s2) (xs := [])) (by kernel_rfl) (A.pm [0] (by kernel_rfl) (by kernel_rfl)) (fun _ => A.pm [0] (by kernel_rfl) (by kernel_rfl)) (fun w _ => by kernel_rfl) (by kernel_rfl) (fun _ hd5 => ?_)
  refine E.G.op (.tuple #[.int .u32 ((M.s2.chk 254 2 4).1), .bool ((M.s2.chk 254 2 4).2)]) (fun w => by kernel_rfl) (by kernel_rfl) ?_
  refine E.G.val (.int .u32 256) (by kernel_rfl) (fun w h => E.run_as (a := .int .u32 ((M.s2.chk 254 2 4).1)) (by kernel_rfl) (congrArg (Value.int .u32) (by rw [M.san1]))) ?_
  refine E.G.val (.bool false) (by kernel_rfl) (fun w h => E.run_as (a := .bool ((M.s2.chk 254 2 4).2)) (by kernel_rfl) (congrArg Value.bool (by rw [M.san1]))) ?_
  refine E.G.op (.int .u32 256) (fun w => by kernel_rfl) (by kernel_rfl) ?_
  refine E.G.op (.bool false) (fun w => by kernel_rfl) (by kernel_rfl) ?_
  refine E.To.code ?_
  refine E.C.weak [(0, .bool false), (1, .pointer (some ⟨m1, 0, none⟩)), (2, .int .u32 256), (3, .bool false)] [] ⟨by kernel_rfl, by kernel_rfl⟩ (List.Sublist.refl _) ?_
  refine E.C.seq ?_
  refine E.C.region ?_
  refine E.G.op (.pointer (some ⟨m1, 0, none⟩)) (fun w => by kernel_rfl) (by kernel_rfl) ?_
  refine A.G.call (I := Unit) (D := fun _ => True) (V := fun _ => .tuple #[.int .u32 ((M.s3.chk 252 2 4).1), .bool ((M.s3.chk 252 2 4).2)]) (q := fun _ => [M.It m1 M.s4 ([])]) [] (fun _ => []) (fun _ => [M.It m1 M.s4 ([])]) (A_Store 252 4 67305985 (by first | exact M.near_lt _ | (first | assumption | ((try simp only [Bool.or_eq_false_iff, Bool.or_eq_true, Bool.and_eq_true, Bool.and_eq_false_iff, Bool.not_eq_eq_eq_not, Bool.not_true, Bool.not_false, decide_eq_true_eq, decide_eq_false_iff_not, ge_iff_le, gt_iff_lt] at *); omega))) (m := m1) (V := M.s3) (xs := [])) (by kernel_rfl) (A.pm [0] (by kernel_rfl) (by kernel_rfl)) (fun _ => A.pm [0] (by kernel_rfl) (by kernel_rfl)) (fun w _ => by kernel_rfl) (by kernel_rfl) (fun _ hd6 => ?_)
  refine E.G.op (.tuple #[.int .u32 ((M.s3.chk 252 2 4).1), .bool ((M.s3.chk 252 2 4).2)]) (fun w => by kernel_rfl) (by kernel_rfl) ?_
  refine E.G.val (.int .u32 0) (by kernel_rfl) (fun w h => E.run_as (a := .int .u32 ((M.s3.chk 252 2 4).1)) (by kernel_rfl) (congrArg (Value.int .u32) (by rw [M.san2]))) ?_
  refine E.G.val (.bool true) (by kernel_rfl) (fun w h => E.run_as (a := .bool ((M.s3.chk 252 2 4).2)) (by kernel_rfl) (congrArg Value.bool (by rw [M.san2]))) ?_
  refine E.G.op (.int .u32 0) (fun w => by kernel_rfl) (by kernel_rfl) ?_
  refine E.G.op (.bool true) (fun w => by kernel_rfl) (by kernel_rfl) ?_
  refine E.To.code ?_
  refine E.C.seq ?_
  refine E.C.region ?_
  refine E.G.op (.pointer (some ⟨m1, 0, none⟩)) (fun w => by kernel_rfl) (by kernel_rfl) ?_
  refine E.G.call (.tuple #[.int .u32 ((M.s4.load 253 2).1), .int .u32 ((M.s4.load 253 2).2.1), .bool ((M.s4.load 253 2).2.2)]) (fun w h => A.call_rd [] (A_Load 253 2 (by first | exact M.near_lt _ | (first | assumption | ((try simp only [Bool.or_eq_false_iff, Bool.or_eq_true, Bool.and_eq_true, Bool.and_eq_false_iff, Bool.not_eq_eq_eq_not, Bool.not_true, Bool.not_false, decide_eq_true_eq, decide_eq_false_iff_not, ge_iff_le, gt_iff_lt] at *); omega))) (m := m1) (V := M.s4) (xs := [])) h (by kernel_rfl) (A.pm [0] (by kernel_rfl) (by kernel_rfl))) (fun w _ => by kernel_rfl) (by kernel_rfl) ?_
  refine E.G.op (.tuple #[.int .u32 ((M.s4.load 253 2).1), .int .u32 ((M.s4.load 253 2).2.1), .bool ((M.s4.load 253 2).2.2)]) (fun w => by kernel_rfl) (by kernel_rfl) ?_
  refine E.G.val (.int .u32 770) (by kernel_rfl) (fun w h => E.run_as (a := .int .u32 ((M.s4.load 253 2).1)) (by kernel_rfl) (congrArg (Value.int .u32) (by rw [M.san3]))) ?_
  refine E.G.val (.int .u32 0) (by kernel_rfl) (fun w h => E.run_as (a := .int .u32 ((M.s4.load 253 2).2.1)) (by kernel_rfl) (congrArg (Value.int .u32) (by rw [M.san3]))) ?_
  refine E.G.val (.bool true) (by kernel_rfl) (fun w h => E.run_as (a := .bool ((M.s4.load 253 2).2.2)) (by kernel_rfl) (congrArg Value.bool (by rw [M.san3]))) ?_
  refine E.G.op (.int .u32 770) (fun w => by kernel_rfl) (by kernel_rfl) ?_
  refine E.G.op (.int .u32 0) (fun w => by kernel_rfl) (by kernel_rfl) ?_
  refine E.G.op (.bool true) (fun w => by kernel_rfl) (by kernel_rfl) ?_
  refine E.To.code ?_
  refine E.C.weak [(0, .bool false), (1, .pointer (some ⟨m1, 0, none⟩)), (2, .int .u32 256), (3, .bool false), (5, .bool true), (6, .int .u32 770), (8, .bool true)] [] ⟨by kernel_rfl, by kernel_rfl⟩ (List.Sublist.refl _) ?_
  refine E.C.seq ?_
  refine E.C.region ?_
  refine E.G.op (.pointer (some ⟨m1, 0, none⟩)) (fun w => by kernel_rfl) (by kernel_rfl) ?_
  refine A.G.call (I := Unit) (D := fun _ => True) (V := fun _ => .tuple #[]) (q := fun _ => [M.It m1 M.s5 ([])]) [] (fun _ => []) (fun _ => [M.It m1 M.s5 ([])]) (A_Clean (m := m1) (V := M.s4) (xs := [])) (by kernel_rfl) (A.pm [0] (by kernel_rfl) (by kernel_rfl)) (fun _ => A.pm [0] (by kernel_rfl) (by kernel_rfl)) (fun w _ => by kernel_rfl) (by kernel_rfl) (fun _ hd7 => ?_)
  refine E.To.code ?_
  refine E.C.seq ?_
  refine E.C.region ?_
  refine E.G.op (.pointer (some ⟨m1, 0, none⟩)) (fun w => by kernel_rfl) (by kernel_rfl) ?_
  refine A.G.call (I := Unit) (D := fun _ => True) (V := fun _ => .tuple #[]) (q := fun _ => [M.It m1 M.s6 ([])]) [] (fun _ => []) (fun _ => [M.It m1 M.s6 ([])]) (A_Poke 255 (⟨#[97, 98]⟩ : ByteArray) (by first | exact M.near_lt _ | (first | assumption | ((try simp only [Bool.or_eq_false_iff, Bool.or_eq_true, Bool.and_eq_true, Bool.and_eq_false_iff, Bool.not_eq_eq_eq_not, Bool.not_true, Bool.not_false, decide_eq_true_eq, decide_eq_false_iff_not, ge_iff_le, gt_iff_lt] at *); omega))) (by first | decide | exact M.ops_size _ | (first | assumption | ((try simp only [Bool.or_eq_false_iff, Bool.or_eq_true, Bool.and_eq_true, Bool.and_eq_false_iff, Bool.not_eq_eq_eq_not, Bool.not_true, Bool.not_false, decide_eq_true_eq, decide_eq_false_iff_not, ge_iff_le, gt_iff_lt] at *); omega))) (m := m1) (V := M.s5) (xs := [])) (by kernel_rfl) (A.pm [0] (by kernel_rfl) (by kernel_rfl)) (fun _ => A.pm [0] (by kernel_rfl) (by kernel_rfl)) (fun w _ => by kernel_rfl) (by kernel_rfl) (fun _ hd8 => ?_)
  refine E.To.code ?_
  refine E.C.seq ?_
  refine E.C.region ?_
  refine E.G.op (.pointer (some ⟨m1, 0, none⟩)) (fun w => by kernel_rfl) (by kernel_rfl) ?_
  refine A.G.call (I := Option Addr × Nat) (D := fun i9 => True) (V := fun i9 => .slice i9.1 M.s6.dirty.length i9.2) (q := fun i9 => [M.It m1 M.s6 ([]), A.vec .i64 i9.1 i9.2 M.s6.dirty]) [] (fun i9 => []) (fun i9 => [A.vec .i64 i9.1 i9.2 M.s6.dirty, M.It m1 M.s6 ([])]) (A_Dirty (m := m1) (V := M.s6) (xs := [])) (by kernel_rfl) (A.pm [0] (by kernel_rfl) (by kernel_rfl)) (fun i9 => A.pm [1, 0] (by kernel_rfl) (by kernel_rfl)) (fun w _ => by kernel_rfl) (by kernel_rfl) (fun i9 hd10 => ?_)
  refine E.G.op (.slice i9.1 M.s6.dirty.length i9.2) (fun w => by kernel_rfl) (by kernel_rfl) ?_
  refine E.To.code ?_
  refine E.C.seq ?_
  refine E.C.region ?_
  refine E.G.op (.int .u32 256) (fun w => by kernel_rfl) (by kernel_rfl) ?_
  refine E.G.op (.bool true) (fun w => by kernel_rfl) (by kernel_rfl) ?_
  refine E.G.op (.bool true) (fun w => by kernel_rfl) (by kernel_rfl) ?_
  refine E.G.op (.bool false) (fun w => by kernel_rfl) (by kernel_rfl) ?_
  refine E.G.op (.bool true) (fun w => by kernel_rfl) (by kernel_rfl) ?_
  refine E.G.op (.bool true) (fun w => by kernel_rfl) (by kernel_rfl) ?_
  refine E.G.op (.bool true) (fun w => by kernel_rfl) (by kernel_rfl) ?_
  refine E.G.op (.bool true) (fun w => by kernel_rfl) (by kernel_rfl) ?_
  refine E.G.op (.bool true) (fun w => by kernel_rfl) (by kernel_rfl) ?_
  refine E.G.op (.bool true) (fun w => by kernel_rfl) (by kernel_rfl) ?_
  refine E.G.op (.int .u32 770) (fun w => by kernel_rfl) (by kernel_rfl) ?_
  refine E.G.op (.bool true) (fun w => by kernel_rfl) (by kernel_rfl) ?_
  refine E.G.op (.bool true) (fun w => by kernel_rfl) (by kernel_rfl) ?_
  refine E.G.op (.bool true) (fun w => by kernel_rfl) (by kernel_rfl) ?_
  refine E.G.op (.bool true) (fun w => by kernel_rfl) (by kernel_rfl) ?_
  refine E.G.op (.bool true) (fun w => by kernel_rfl) (by kernel_rfl) ?_
  refine E.G.op (.bool true) (fun w => by kernel_rfl) (by kernel_rfl) ?_
  refine E.G.op (.slice i9.1 M.s6.dirty.length i9.2) (fun w => by kernel_rfl) (by kernel_rfl) ?_
  refine E.G.val (.int .i64 2) (by kernel_rfl) (fun w h => E.run_as (a := .int .i64 ((M.s6.dirty.length : Nat) : Int)) (by kernel_rfl) (congrArg (fun l : List Int => Value.int .i64 ((l.length : Nat) : Int)) M.san4)) ?_
  refine E.G.op (.bool true) (fun w => by kernel_rfl) (by kernel_rfl) ?_
  refine E.G.op (.bool true) (fun w => by kernel_rfl) (by kernel_rfl) ?_
  refine E.G.op (.bool true) (fun w => by kernel_rfl) (by kernel_rfl) ?_
  refine E.G.op (.slice i9.1 M.s6.dirty.length i9.2) (fun w => by kernel_rfl) (by kernel_rfl) ?_
  refine E.G.val (.pointer (some ⟨(A.bk i9.1), 0, none⟩)) (by kernel_rfl) (fun w h => A.Y.idx (e := 3) (ik := .i64) (i := 0) (len := M.s6.dirty.length) (c2 := i9.2) (A.X.y h.x) (k := 0) rfl (by kernel_rfl) (by kernel_rfl) (by kernel_rfl) (by kernel_rfl) (by rw [M.san4]; decide) (by rw [M.san4]; decide)) ?_
  refine E.G.val (.int .i64 0) (by kernel_rfl) (fun w h => E.run_as (a := .int .i64 (M.s6.dirty.getD 0 0)) (A.Y.vld (A.X.y h.x) (k := 0) (i := 0) rfl (by kernel_rfl) (by kernel_rfl) (by rw [M.san4]; decide)) (congrArg (Value.int .i64) (by rw [M.san4]; rfl))) ?_
  refine E.G.op (.bool true) (fun w => by kernel_rfl) (by kernel_rfl) ?_
  refine E.G.op (.bool true) (fun w => by kernel_rfl) (by kernel_rfl) ?_
  refine E.G.op (.bool true) (fun w => by kernel_rfl) (by kernel_rfl) ?_
  refine E.G.op (.slice i9.1 M.s6.dirty.length i9.2) (fun w => by kernel_rfl) (by kernel_rfl) ?_
  refine E.G.val (.pointer (some ⟨(A.bk i9.1), 1, none⟩)) (by kernel_rfl) (fun w h => A.Y.idx (e := 3) (ik := .i64) (i := 1) (len := M.s6.dirty.length) (c2 := i9.2) (A.X.y h.x) (k := 0) rfl (by kernel_rfl) (by kernel_rfl) (by kernel_rfl) (by kernel_rfl) (by rw [M.san4]; decide) (by rw [M.san4]; decide)) ?_
  refine E.G.val (.int .i64 1) (by kernel_rfl) (fun w h => E.run_as (a := .int .i64 (M.s6.dirty.getD 1 0)) (A.Y.vld (A.X.y h.x) (k := 0) (i := 1) rfl (by kernel_rfl) (by kernel_rfl) (by rw [M.san4]; decide)) (congrArg (Value.int .i64) (by rw [M.san4]; rfl))) ?_
  refine E.G.op (.bool true) (fun w => by kernel_rfl) (by kernel_rfl) ?_
  refine E.G.op (.bool true) (fun w => by kernel_rfl) (by kernel_rfl) ?_
  refine E.G.op (.bool true) (fun w => by kernel_rfl) (by kernel_rfl) ?_
  refine E.G.op (.pointer (some ⟨m1, 0, none⟩)) (fun w => by kernel_rfl) (by kernel_rfl) ?_
  refine E.G.call (.int .i64 2) (fun w h => A.call_rd [A.vec .i64 i9.1 i9.2 M.s6.dirty] (M.rdAs (A_Pages (m := m1) (V := M.s6) (xs := [])) (v' := .int .i64 2) (by rw [M.san5]; rfl)) h (by kernel_rfl) (A.pm [1, 0] (by kernel_rfl) (by kernel_rfl))) (fun w _ => by kernel_rfl) (by kernel_rfl) ?_
  refine E.G.op (.bool true) (fun w => by kernel_rfl) (by kernel_rfl) ?_
  refine E.G.op (.bool true) (fun w => by kernel_rfl) (by kernel_rfl) ?_
  refine E.G.op (.bool true) (fun w => by kernel_rfl) (by kernel_rfl) ?_
  refine E.G.op (.pointer (some ⟨m1, 0, none⟩)) (fun w => by kernel_rfl) (by kernel_rfl) ?_
  refine E.G.call (.int .u8 98) (fun w h => A.call_rd [A.vec .i64 i9.1 i9.2 M.s6.dirty] (M.rdAs (A_Peek (m := m1) (V := M.s6) (xs := []) 256 (by omega)) (v' := .int .u8 98) (by rw [M.san6])) h (by kernel_rfl) (A.pm [1, 0] (by kernel_rfl) (by kernel_rfl))) (fun w _ => by kernel_rfl) (by kernel_rfl) ?_
  refine E.G.op (.bool true) (fun w => by kernel_rfl) (by kernel_rfl) ?_
  refine E.G.op (.bool true) (fun w => by kernel_rfl) (by kernel_rfl) ?_
  refine E.G.op (.bool true) (fun w => by kernel_rfl) (by kernel_rfl) ?_
  refine E.To.code ?_
  refine E.C.weak [(0, .bool true)] [] ⟨by kernel_rfl, by kernel_rfl⟩ (List.Sublist.refl _) ?_
  refine E.C.ret (E.To.body (fn := Try.f14) [.bool true] ?_ ?_)
  · exact ⟨⟨by kernel_rfl, by kernel_rfl⟩, trivial⟩
  · intro w h
    exact ⟨rfl, h.ch.bel (fun x hx => (hh.1 x hx).elim)⟩
end Go.Proofs.Ytdjjjikokfadiaa
