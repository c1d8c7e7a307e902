/- Texts of the walk, merged (3): see the remark ahead of each. -/
import Derived.Test.YtgbndbljohpnmaaGreatYd2
import Derived.Test.YtgbndbljohpnmaaGreatProg
import Derived.Lib.SmallJoins
import Derived.SizedLaws
import Derived.WalkKit
import Derived.ProofKit
import Derived.OpenShut
import Derived.ShutString
import Derived.ChangeOld
import Derived.Below
import Derived.Carry
import Derived.ChangeMaps5
import Derived.MapKept
namespace Go.Proofs.YtgbndbljohpnmaaGreat
set_option linter.unusedVariables false
set_option linter.unusedSimpArgs false
open Go.RowKit
def R.sh (v : Int) : Nat → Int
  | 0 => v
  | c + 1 => R.sh v c / 256
theorem R.sh_bd {v : Int} (h : 0 ≤ v ∧ v < 4294967296) : ∀ c, 0 ≤ R.sh v c ∧ R.sh v c < 4294967296
  | 0 => h
  | c + 1 => by
    have := R.sh_bd h c
    show 0 ≤ R.sh v c / 256 ∧ R.sh v c / 256 < 4294967296
    omega
theorem R.sh_eq (v : Int) : ∀ c, R.sh v c = Int.fdiv v (2 ^ (8 * c))
  | 0 => by show v = Int.fdiv v 1; simp
  | c + 1 => by
    show R.sh v c / 256 = _
    rw [R.sh_eq v c]
    have e : (2 : Int) ^ (8 * (c + 1)) = 2 ^ (8 * c) * 256 := by rw [show 8 * (c + 1) = 8 * c + 8 by omega, Int.pow_add]; rfl
    have hp : (0 : Int) ≤ 2 ^ (8 * c) := Int.pow_nonneg (by decide)
    rw [e, Int.fdiv_eq_ediv_of_nonneg _ hp, Int.fdiv_eq_ediv_of_nonneg _ (Int.mul_nonneg hp (by decide)), ← Int.ediv_ediv_of_nonneg hp]
theorem R.sh_next {v : Int} (h : 0 ≤ v ∧ v < 4294967296) (c : Nat) : IntKind.wrap .u32 (Int.tdiv (R.sh v c) 256) = R.sh v (c + 1) := by
  have := R.sh_bd h c
  rw [Int.tdiv_eq_ediv_of_nonneg this.1]
  show R.sh v c / 256 % 4294967296 = R.sh v c / 256
  omega
theorem R.put_n (V : M.V) (a : Nat) (v : Int) : ∀ c, (V.put a v c).n = V.n
  | 0 => rfl
  | c + 1 => (R.set_n _ _ _).trans (R.put_n V a v c)
theorem R.sto_t {V : M.V} {a m : Nat} {v : Int} (h : (V.chk a 2 ((m : Nat) : Int)).2 = true) : V.sto a ((m : Nat) : Int) v = V.put a v m := by
  unfold M.V.sto; rw [if_pos h]; rfl
theorem R.sto_f {V : M.V} {a : Nat} {n v : Int} (h : (V.chk a 2 n).2 = false) : V.sto a n v = V := by
  unfold M.V.sto; rw [if_neg (by rw [h]; decide)]
theorem R_Store_ok {r : Nat} {s : R.Sl} {V : M.V} (hw : R.Wf V) (a : Nat) (ha : a < 4294967296) (m : Nat) (v : Int) (hv : 0 ≤ v ∧ v < 4294967296) (hok : (V.chk a 2 ((m : Nat) : Int)).2 = true) : A.Tr Tryz.prog 39 #[.pointer (some ⟨r, 0, none⟩), .int .u32 ((a : Nat) : Int), .int .i64 ((m : Nat) : Int), .int .u32 v] (R.its r s V) (I := Unit) (fun _ => True) (fun _ => .agg #[.int .u32 0, .int .u32 (V.chk a 2 ((m : Nat) : Int)).1, .bool (V.chk a 2 ((m : Nat) : Int)).2]) (fun _ => R.its r s (V.put a v m)) := by
 intro w oo aa hh
 have hn4 := R.chk_n hok
 have hin := R.chk_in2 hok
 refine E.enter (n := 36) (S := oo) Tryz.func39 rfl rfl (by kernel_rfl) (A.start (L := []) hh) (E.sr (E.G.new (fun g => E.pt g) [E.u 0, E.u 0, .bool false] 80 (fun w => by kernel_rfl) (by kernel_rfl) (fun g1 => E.tr (E.op (E.pt r) (E.op (E.u ((a : Nat) : Int)) (E.op (E.i ((m : Nat) : Int)) (E.G.call (.agg #[E.u 0, E.u ((V.chk a 2 ((m : Nat) : Int)).1), .bool ((V.chk a 2 ((m : Nat) : Int)).2)]) (fun w h => A.cq [1, 2, 3, 4, 5, 6] [0] (R_check2 hw a Nz.pom ((m : Nat) : Int) (r := r) (s := s) (V := V)) h) (fun w _ => by kernel_rfl) (by kernel_rfl) (E.G.new (fun g => E.pt g) [E.u 0, E.u 0, .bool false] 80 (fun w => by kernel_rfl) (by kernel_rfl) (fun g2 => E.st 0 [E.u 0, E.u ((V.chk a 2 ((m : Nat) : Int)).1), .bool ((V.chk a 2 ((m : Nat) : Int)).2)] rfl rfl (E.To.code (E.C.seq ?_)))))))))))
 refine E.sr (E.op (.pointer (some ⟨g2, 2, none⟩)) (E.vl (.bool true) (fun w h => E.run_as (a := .bool ((V.chk a 2 ((m : Nat) : Int)).2)) (E.run_load h 0 rfl rfl (by kernel_rfl)) (congrArg Value.bool hok)) (E.To.code (E.C.condT (by kernel_rfl) (by kernel_rfl) (E.sr (E.op (E.i 0) (E.To.code (E.C.block (E.C.loop (I := Nat) (fun c => m - c) (fun c => c ≤ m) (fun c => [(0, E.pt r), (1, E.u ((a : Nat) : Int)), (2, E.i ((m : Nat) : Int)), (3, E.u (R.sh v c)), (8, E.pt g1), (9, E.pt g2), (10, E.i ((c : Nat) : Int))]) (fun c => A.X w oo aa [A.blk r [.slice s.a0 (256 * (V.put a v c).n) s.c0, .slice s.a1 (256 * R.len (V.put a v c)) s.c1, .slice s.a2 (256 * (V.put a v c).n) s.c2, .slice s.a3 (256 * R.len (V.put a v c)) s.c3, .slice s.a4 ((V.put a v c).n) s.c4, .bool ((V.put a v c).coh)], A.vec .u8 s.a0 s.c0 (R.flat (V.put a v c).d (V.put a v c).n), A.vec .u8 s.a1 s.c1 (R.flat (V.put a v c).i (R.len (V.put a v c))), A.vec .u8 s.a2 s.c2 (R.flat (V.put a v c).cd (V.put a v c).n), A.vec .u8 s.a3 s.c3 (R.flat (V.put a v c).ci (R.len (V.put a v c))), A.vec .i64 s.a4 s.c4 (R.rts (V.put a v c).r (V.put a v c).n)]) (fun c => [(g2, [E.u 0, E.u ((V.chk a 2 ((m : Nat) : Int)).1), .bool ((V.chk a 2 ((m : Nat) : Int)).2)]), (g1, [E.u 0, E.u 0, .bool false])]) 0 (Nat.zero_le _) ⟨by kernel_rfl, by kernel_rfl⟩ Nz.sub (fun _ h => h) (fun c hk1 => E.C.seq (E.sr ?_)))))))))))
 refine E.op (E.i ((c : Nat) : Int)) (E.op (E.i ((m : Nat) : Int)) (E.op (.bool (decide (((c : Nat) : Int) < ((m : Nat) : Int)))) (E.To.code (E.cd (decide (((c : Nat) : Int) < ((m : Nat) : Int))) (fun hc3 => ?_) (fun hc3 => ?_)))))
 ·
  refine E.C.skip (E.To.code (E.C.seq (E.C.block (E.C.seq ?_))))
  have hb : (a + c) % 4294967296 / 256 < (V.put a v c).n := by rw [R.put_n]; exact hin c Nz.pom
  refine E.C.region (E.op (E.pt r) (E.op (E.pt r) (E.op (E.pt r) (E.vl (.slice s.a0 (256 * (V.put a v c).n) s.c0) (fun w h => A.Y.bld (A.X.y h.x) (k := 0) (j := 0) rfl (by kernel_rfl) (by kernel_rfl)) (E.op (E.u ((a : Nat) : Int)) (E.op (E.i ((c : Nat) : Int)) (E.vl (E.u ((c : Nat) : Int)) (fun w h => E.run_as (a := E.u (IntKind.wrap .u32 ((c : Nat) : Int))) (by kernel_rfl) (congrArg (Value.int .u32) (by exact Nz.w32 (x := c) Nz.pom))) (E.vl (E.u (((a + c) % 4294967296 : Nat) : Int)) (fun w h => E.run_as (a := E.u (IntKind.wrap .u32 (((a : Nat) : Int) + ((c : Nat) : Int)))) (by kernel_rfl) (congrArg (Value.int .u32) (by exact Nz.add32 a c))) (E.op (E.u (R.sh v c)) (E.vl (.int .u8 (IntKind.wrap .u8 (Int.fdiv v (2 ^ (8 * c))))) (fun w h => E.run_as (a := .int .u8 (IntKind.wrap .u8 (R.sh v c))) (by kernel_rfl) (congrArg (fun x => Value.int .u8 (IntKind.wrap .u8 x)) (R.sh_eq v c))) (E.vl (.pointer (some ⟨(A.bk s.a0), ((a + c) % 4294967296), none⟩)) (fun w h => A.Y.idx (e := 5) (ik := .u32) (i := ((a + c) % 4294967296)) (len := (256 * (V.put a v c).n)) (c2 := s.c0) (A.X.y h.x) (k := 1) rfl (by kernel_rfl) (by kernel_rfl) (by kernel_rfl) (by kernel_rfl) Nz.pom (by simp only [R.flat_len]; exact Nz.pom)) ?_)))))))))))
  refine A.G.vst (kd := .u8) (ao := s.a0) (cap := s.c0) (i := ((a + c) % 4294967296)) (xs := (R.flat (V.put a v c).d (V.put a v c).n)) (v := (IntKind.wrap .u8 (Int.fdiv v (2 ^ (8 * c))))) 1 rfl (by kernel_rfl) (by kernel_rfl) (by kernel_rfl) (by simp only [R.flat_len]; exact Nz.pom) (by kernel_rfl) (by kernel_rfl) (E.To.code (A.C.eq ([A.blk r [.slice s.a0 (256 * (V.put a v (c + 1)).n) s.c0, .slice s.a1 (256 * R.len (V.put a v (c + 1))) s.c1, .slice s.a2 (256 * (V.put a v (c + 1)).n) s.c2, .slice s.a3 (256 * R.len (V.put a v (c + 1))) s.c3, .slice s.a4 ((V.put a v (c + 1)).n) s.c4, .bool ((V.put a v (c + 1)).coh)], A.vec .u8 s.a0 s.c0 (R.flat (V.put a v (c + 1)).d (V.put a v (c + 1)).n), A.vec .u8 s.a1 s.c1 (R.flat (V.put a v (c + 1)).i (R.len (V.put a v (c + 1)))), A.vec .u8 s.a2 s.c2 (R.flat (V.put a v (c + 1)).cd (V.put a v (c + 1)).n), A.vec .u8 s.a3 s.c3 (R.flat (V.put a v (c + 1)).ci (R.len (V.put a v (c + 1)))), A.vec .i64 s.a4 s.c4 (R.rts (V.put a v (c + 1)).r (V.put a v (c + 1)).n)]) (R.its_set hb) (E.C.region (E.op (E.u (R.sh v c)) (E.vl (E.u (R.sh v (c + 1))) (fun w h => E.run_as (a := E.u (IntKind.wrap .u32 (Int.tdiv (R.sh v c) 256))) (by kernel_rfl) (congrArg (Value.int .u32) (R.sh_next hv c))) (E.op (E.u (R.sh v (c + 1))) (E.P.nb (E.To.code (E.C.region (E.op (E.i ((c : Nat) : Int)) (E.vl (E.i ((c + 1 : Nat) : Int)) (fun w h => E.run_as (a := E.i (IntKind.wrap .i64 (((c : Nat) : Int) + 1))) (by kernel_rfl) (congrArg (Value.int .i64) (by exact Nz.add64 (x := c) (y := 1) Nz.pom))) (E.op (E.i ((c + 1 : Nat) : Int)) ?_))))))))))))
  exact E.To.round (c + 1) Nz.pom Nz.pom ⟨by kernel_rfl, by kernel_rfl⟩ Nz.sub (fun _ h => h)
 refine E.C.exit (E.P.et (E.P.et (E.P.eh (E.To.code (E.wk [(8, E.pt g1), (9, E.pt g2)] [(g2, [E.u 0, E.u ((V.chk a 2 ((m : Nat) : Int)).1), .bool ((V.chk a 2 ((m : Nat) : Int)).2)]), (g1, [E.u 0, E.u 0, .bool false])] Nz.sub (E.sr (E.li (.agg #[E.u 0, E.u ((V.chk a 2 ((m : Nat) : Int)).1), .bool ((V.chk a 2 ((m : Nat) : Int)).2)]) 0 rfl rfl (E.st 1 [E.u 0, E.u ((V.chk a 2 ((m : Nat) : Int)).1), .bool ((V.chk a 2 ((m : Nat) : Int)).2)] rfl rfl (E.To.code (E.C.ret (E.To.body (fn := Tryz.f39) [.agg #[E.u 0, E.u ((V.chk a 2 ((m : Nat) : Int)).1), .bool ((V.chk a 2 ((m : Nat) : Int)).2)]] ?_ ?_)))))))))))
 · exact ⟨⟨by kernel_rfl, _, _, 1, _, rfl, rfl, by kernel_rfl⟩, trivial⟩
 intro w h
 obtain rfl : m = c := by exact Nz.pom
 exact ⟨(), trivial, rfl, A.dq [2, 3, 4, 5, 6, 7] [0, 1] h⟩
theorem R_Store_no {r : Nat} {s : R.Sl} {V : M.V} (hw : R.Wf V) (a : Nat) (ha : a < 4294967296) (n v : Int) (hno : (V.chk a 2 n).2 = false) : A.Tr Tryz.prog 39 #[.pointer (some ⟨r, 0, none⟩), .int .u32 ((a : Nat) : Int), .int .i64 n, .int .u32 v] (R.its r s V) (I := Unit) (fun _ => True) (fun _ => .agg #[.int .u32 0, .int .u32 (V.chk a 2 n).1, .bool (V.chk a 2 n).2]) (fun _ => R.its r s V) := by
 intro w oo aa hh
 refine E.enter (n := 36) (S := oo) Tryz.func39 rfl rfl (by kernel_rfl) (A.start (L := []) hh) (E.sr (E.G.new (fun g => E.pt g) [E.u 0, E.u 0, .bool false] 80 (fun w => by kernel_rfl) (by kernel_rfl) (fun g1 => E.tr (E.op (E.pt r) (E.op (E.u ((a : Nat) : Int)) (E.op (E.i n) (E.G.call (.agg #[E.u 0, E.u ((V.chk a 2 n).1), .bool ((V.chk a 2 n).2)]) (fun w h => A.cq [1, 2, 3, 4, 5, 6] [0] (R_check2 hw a Nz.pom n (r := r) (s := s) (V := V)) h) (fun w _ => by kernel_rfl) (by kernel_rfl) (E.G.new (fun g => E.pt g) [E.u 0, E.u 0, .bool false] 80 (fun w => by kernel_rfl) (by kernel_rfl) (fun g2 => E.st 0 [E.u 0, E.u ((V.chk a 2 n).1), .bool ((V.chk a 2 n).2)] rfl rfl (E.To.code (E.C.seq ?_)))))))))))
 refine E.sr (E.op (.pointer (some ⟨g2, 2, none⟩)) (E.vl (.bool false) (fun w h => E.run_as (a := .bool ((V.chk a 2 n).2)) (E.run_load h 0 rfl rfl (by kernel_rfl)) (congrArg Value.bool hno)) (E.To.code (E.C.condF (by kernel_rfl) (by kernel_rfl) (E.C.skip (E.To.code (E.wk [(8, E.pt g1), (9, E.pt g2)] [(g2, [E.u 0, E.u ((V.chk a 2 n).1), .bool ((V.chk a 2 n).2)]), (g1, [E.u 0, E.u 0, .bool false])] Nz.sub (E.sr (E.li (.agg #[E.u 0, E.u ((V.chk a 2 n).1), .bool ((V.chk a 2 n).2)]) 0 rfl rfl (E.st 1 [E.u 0, E.u ((V.chk a 2 n).1), .bool ((V.chk a 2 n).2)] rfl rfl (E.To.code (E.C.ret (E.To.body (fn := Tryz.f39) [.agg #[E.u 0, E.u ((V.chk a 2 n).1), .bool ((V.chk a 2 n).2)]] ?_ ?_)))))))))))))
 · exact ⟨⟨by kernel_rfl, _, _, 1, _, rfl, rfl, by kernel_rfl⟩, trivial⟩
 intro w h
 exact ⟨(), trivial, rfl, A.dq [2, 3, 4, 5, 6, 7] [0, 1] h⟩
theorem R_Load_no {r : Nat} {s : R.Sl} {V : M.V} (hw : R.Wf V) (a : Nat) (ha : a < 4294967296) (n : Int) (hno : (V.chk a 1 n).2 = false) : A.Rd Tryz.prog 38 #[.pointer (some ⟨r, 0, none⟩), .int .u32 ((a : Nat) : Int), .int .i64 n] (R.its r s V) (.agg #[.int .u32 (V.load a n).1, .int .u32 (V.load a n).2.1, .bool (V.load a n).2.2]) := by
 intro w oo aa hh
 refine E.enter (n := 38) (S := fun _ => False) Tryz.func38 rfl rfl (by kernel_rfl) (A.startY hh) (E.sr (E.G.new (fun g => E.pt g) [E.u 0, E.u 0, .bool false] 80 (fun w => by kernel_rfl) (by kernel_rfl) (fun g1 => E.tr (E.op (E.pt r) (E.op (E.u ((a : Nat) : Int)) (E.op (E.i n) (E.G.call (.agg #[E.u 0, E.u ((V.chk a 1 n).1), .bool ((V.chk a 1 n).2)]) (fun w h => A.Y.rd [] (R_check1 hw a Nz.pom n (r := r) (s := s) (V := V)) h.x (A.pn [0, 1, 2, 3, 4, 5])) (fun w _ => by kernel_rfl) (by kernel_rfl) (E.G.new (fun g => E.pt g) [E.u 0, E.u 0, .bool false] 80 (fun w => by kernel_rfl) (by kernel_rfl) (fun g2 => E.st 0 [E.u 0, E.u ((V.chk a 1 n).1), .bool ((V.chk a 1 n).2)] rfl rfl (E.To.code (E.C.seq ?_)))))))))))
 refine E.sr (E.op (.pointer (some ⟨g2, 2, none⟩)) (E.vl (.bool false) (fun w h => E.run_as (a := .bool ((V.chk a 1 n).2)) (E.run_load h 0 rfl rfl (by kernel_rfl)) (congrArg Value.bool hno)) (E.To.code (E.C.condF (by kernel_rfl) (by kernel_rfl) (E.C.skip (E.To.code (E.wk [(6, E.pt g1), (7, E.pt g2)] [(g2, [E.u 0, E.u ((V.chk a 1 n).1), .bool ((V.chk a 1 n).2)]), (g1, [E.u 0, E.u 0, .bool false])] Nz.sub (E.sr (E.li (.agg #[E.u 0, E.u ((V.chk a 1 n).1), .bool ((V.chk a 1 n).2)]) 0 rfl rfl (E.st 1 [E.u 0, E.u ((V.chk a 1 n).1), .bool ((V.chk a 1 n).2)] rfl rfl (E.To.code (E.C.ret (E.To.body (fn := Tryz.f38) [.agg #[E.u 0, E.u ((V.chk a 1 n).1), .bool ((V.chk a 1 n).2)]] ?_ ?_)))))))))))))
 · exact ⟨⟨by kernel_rfl, _, _, 1, _, rfl, rfl, by kernel_rfl⟩, trivial⟩
 intro w h
 exact ⟨by rw [R.load_f hno, hno]; rfl, h.ch.bel (fun _ h => h.elim)⟩
/-- Load and Store of the reference, whatever the size. -/
theorem R_Load {r : Nat} {s : R.Sl} {V : M.V} (hw : R.Wf V) (a : Nat) (ha : a < 4294967296) (n : Int) : A.Rd Tryz.prog 38 #[.pointer (some ⟨r, 0, none⟩), .int .u32 ((a : Nat) : Int), .int .i64 n] (R.its r s V) (.agg #[.int .u32 (V.load a n).1, .int .u32 (V.load a n).2.1, .bool (V.load a n).2.2]) := by
  cases h : (V.chk a 1 n).2 with
  | false => exact R_Load_no hw a ha n h
  | true =>
    have hn := R.chk_n h
    have := R_Load_m (r := r) (s := s) hw a ha n.toNat
    rw [show ((n.toNat : Nat) : Int) = n by omega] at this
    exact this
theorem R_Store {r : Nat} {s : R.Sl} {V : M.V} (hw : R.Wf V) (a : Nat) (ha : a < 4294967296) (n v : Int) (hv : 0 ≤ v ∧ v < 4294967296) : A.Tr Tryz.prog 39 #[.pointer (some ⟨r, 0, none⟩), .int .u32 ((a : Nat) : Int), .int .i64 n, .int .u32 v] (R.its r s V) (I := Unit) (fun _ => True) (fun _ => .agg #[.int .u32 0, .int .u32 (V.chk a 2 n).1, .bool (V.chk a 2 n).2]) (fun _ => R.its r s (V.sto a n v)) := by
  cases h : (V.chk a 2 n).2 with
  | false => rw [R.sto_f h, ← h]; exact R_Store_no hw a ha n v h
  | true =>
    have hn := R.chk_n h
    have e : ((n.toNat : Nat) : Int) = n := by omega
    have h2 : (V.chk a 2 ((n.toNat : Nat) : Int)).2 = true := by rw [e]; exact h
    have := R_Store_ok (r := r) (s := s) hw a ha n.toNat v hv h2
    rw [← R.sto_t h2, e, h] at this
    exact this
theorem R.its_img {r : Nat} {s : R.Sl} {V : M.V} {y : Nat} {v : Int} (hc : V.coh = false) (h : y / 256 < V.n) (W : M.V) (hn : W.n = V.n) (hcc : W.coh = V.coh) (hd : ∀ j, j < V.n → ∀ x, x < 256 → W.d j x = V.d j x) (hi : ∀ j, j < V.n → ∀ x, x < 256 → W.i j x = M.up V.i (y / 256) (y % 256) v j x) (hcd : W.cd = V.cd) (hci : W.ci = V.ci) (hr : W.r = V.r) :
    [A.blk r (R.cells s V), A.vec .u8 s.a0 s.c0 (R.flat V.d V.n), A.vec .u8 s.a1 s.c1 ((R.flat V.i (R.len V)).set y v), A.vec .u8 s.a2 s.c2 (R.flat V.cd V.n), A.vec .u8 s.a3 s.c3 (R.flat V.ci (R.len V)), A.vec .i64 s.a4 s.c4 (R.rts V.r V.n)] = R.its r s W := by
  have hl : R.len V = V.n := R.len_f hc
  have hl2 : R.len W = V.n := by rw [R.len_eq hn hcc, hl]
  unfold R.its R.vs
  rw [R.cells_eq (V := W) (W := V) hn hcc, hl2, hl, hn, hcd, hci, hr, R.flat_set v (by omega), R.flat_congr hd, R.flat_congr hi]
/-- The image after the first c bytes of page k have been copied. -/
def R.cpy (V : M.V) (k c : Nat) : M.V := { V with i := fun j x => if j = k ∧ x < c then V.d j x else V.i j x }
theorem R.cpy0 (V : M.V) (k : Nat) : R.cpy V k 0 = V := by unfold R.cpy; simp
theorem R.cpy_end {V : M.V} {k : Nat} (hk : k < V.n) (hc : V.coh = false) {r : Nat} {s : R.Sl} : R.its r s (R.cpy V k 256) = R.its r s (V.sync k) := by
  have e : V.sync k = { V with i := fun j x => if j = k then V.d j x else V.i j x } := if_pos ⟨hk, hc⟩
  have hl : R.len V = V.n := R.len_f hc
  unfold R.its
  rw [e, R.cells_eq (V := R.cpy V k 256) (W := { V with i := fun j x => if j = k then V.d j x else V.i j x }) rfl rfl, R.vs_eq (V := R.cpy V k 256) (W := { V with i := fun j x => if j = k then V.d j x else V.i j x }) rfl rfl rfl (R.flat_congr fun j hj x hx => ?_) rfl rfl rfl]
  show (if j = k ∧ x < 256 then V.d j x else V.i j x) = if j = k then V.d j x else V.i j x
  by_cases e : j = k
  · rw [if_pos ⟨e, hx⟩, if_pos e]
  · rw [if_neg (fun h => e h.1), if_neg e]
theorem R.cpy_next {V : M.V} {k c : Nat} (hc : V.coh = false) (hk : k < V.n) (hcc : c < 256) {r : Nat} {s : R.Sl} {v : Int} (hv : v = V.d k c) :
    [A.blk r (R.cells s (R.cpy V k c)), A.vec .u8 s.a0 s.c0 (R.flat (R.cpy V k c).d (R.cpy V k c).n), A.vec .u8 s.a1 s.c1 ((R.flat (R.cpy V k c).i (R.len (R.cpy V k c))).set (256 * k + c) v), A.vec .u8 s.a2 s.c2 (R.flat (R.cpy V k c).cd (R.cpy V k c).n), A.vec .u8 s.a3 s.c3 (R.flat (R.cpy V k c).ci (R.len (R.cpy V k c))), A.vec .i64 s.a4 s.c4 (R.rts (R.cpy V k c).r (R.cpy V k c).n)] = R.its r s (R.cpy V k (c + 1)) := by
  refine R.its_img (V := R.cpy V k c) hc (by show (256 * k + c) / 256 < V.n; omega) _ rfl rfl (fun _ _ _ _ => rfl) (fun j hj x hx => ?_) rfl rfl rfl
  rw [show (256 * k + c) / 256 = k by omega, show (256 * k + c) % 256 = c by omega]
  show (if j = k ∧ x < c + 1 then V.d j x else V.i j x) = if j = k ∧ x = c then v else (if j = k ∧ x < c then V.d j x else V.i j x)
  by_cases e : j = k
  · subst e
    by_cases e2 : x = c
    · subst e2; simp [hv]
    · have e3 : (x < c + 1) = (x < c) := propext ⟨fun _ => by omega, fun _ => by omega⟩
      simp [e2, e3]
  · simp [e]
/-- The image after the first c bytes of a string have been laid into page k. -/
def R.lay (V : M.V) (k : Nat) (b : ByteArray) (c : Nat) : M.V := { V with i := fun j x => if j = k ∧ x < c then W.byt b.data.toList x else V.i j x }
theorem R.lay0 (V : M.V) (k : Nat) (b : ByteArray) : R.lay V k b 0 = V := by unfold R.lay; simp
theorem R.lay_end {V : M.V} {k : Nat} {b : ByteArray} {c : Nat} (hk : k < V.n) (hc : V.coh = false) (h : c = Nat.min b.size 256) : R.lay V k b c = V.setc ((k : Nat) : Int) b := by
  subst h
  exact (if_pos (c := 0 ≤ ((k : Nat) : Int) ∧ ((k : Nat) : Int) < ((V.n : Nat) : Int) ∧ V.coh = false) (e := V) ⟨by omega, by omega, hc⟩).symm
theorem R.lay_next {V : M.V} {k c : Nat} {b : ByteArray} (hc : V.coh = false) (hk : k < V.n) (hcc : c < 256) {r : Nat} {s : R.Sl} :
    [A.blk r (R.cells s (R.lay V k b c)), A.vec .u8 s.a0 s.c0 (R.flat (R.lay V k b c).d (R.lay V k b c).n), A.vec .u8 s.a1 s.c1 ((R.flat (R.lay V k b c).i (R.len (R.lay V k b c))).set (256 * k + c) (W.byt b.data.toList c)), A.vec .u8 s.a2 s.c2 (R.flat (R.lay V k b c).cd (R.lay V k b c).n), A.vec .u8 s.a3 s.c3 (R.flat (R.lay V k b c).ci (R.len (R.lay V k b c))), A.vec .i64 s.a4 s.c4 (R.rts (R.lay V k b c).r (R.lay V k b c).n)] = R.its r s (R.lay V k b (c + 1)) := by
  refine R.its_img (V := R.lay V k b c) hc (by show (256 * k + c) / 256 < V.n; omega) _ rfl rfl (fun _ _ _ _ => rfl) (fun j hj x hx => ?_) rfl rfl rfl
  rw [show (256 * k + c) / 256 = k by omega, show (256 * k + c) % 256 = c by omega]
  show (if j = k ∧ x < c + 1 then W.byt b.data.toList x else V.i j x) = if j = k ∧ x = c then W.byt b.data.toList c else (if j = k ∧ x < c then W.byt b.data.toList x else V.i j x)
  by_cases e : j = k
  · subst e
    by_cases e2 : x = c
    · subst e2; simp
    · have e3 : (x < c + 1) = (x < c) := propext ⟨fun _ => by omega, fun _ => by omega⟩
      simp [e2, e3]
  · simp [e]
theorem R.its_prot {r : Nat} {s : R.Sl} {V : M.V} {m : Nat} {x : Int} (h : m < V.n) : [A.blk r (R.cells s V), A.vec .u8 s.a0 s.c0 (R.flat V.d V.n), A.vec .u8 s.a1 s.c1 (R.flat V.i (R.len V)), A.vec .u8 s.a2 s.c2 (R.flat V.cd V.n), A.vec .u8 s.a3 s.c3 (R.flat V.ci (R.len V)), A.vec .i64 s.a4 s.c4 ((R.rts V.r V.n).set m (bits .and .i64 x 7))] = R.its r s (V.prot ((m : Nat) : Int) x) := by
  have e : V.prot ((m : Nat) : Int) x = { V with r := fun j => if j = m then bits .and .i64 x 7 else V.r j } := if_pos ⟨by omega, by omega⟩
  rw [e, R.rts_set _ h]; rfl
theorem R.prot_no {V : M.V} {n x : Int} (h : ((decide (n ≥ 0)) && (decide (n < ((V.n : Nat) : Int)))) = false) : V.prot n x = V := if_neg (fun k => by
  rw [decide_eq_true (show n ≥ 0 from k.1), decide_eq_true k.2] at h; cases h)
theorem R.prot_yes {V : M.V} {n : Int} (h : ((decide (n ≥ 0)) && (decide (n < ((V.n : Nat) : Int)))) = true) : ∃ m : Nat, n = ((m : Nat) : Int) ∧ m < V.n := by
  simp only [Bool.and_eq_true, decide_eq_true_eq] at h
  obtain ⟨m, rfl⟩ := Int.eq_ofNat_of_zero_le (show 0 ≤ n from h.1)
  exact ⟨m, rfl, by omega⟩
theorem R.sync_no {V : M.V} {k : Nat} (h : ((decide (k < V.n)) && (!V.coh)) = false) : V.sync k = V := if_neg (fun q => by
  rw [decide_eq_true q.1, q.2] at h; cases h)
theorem R.setc_no {V : M.V} {n : Int} {b : ByteArray} (h : (((decide (n < 0)) || (decide (n ≥ ((V.n : Nat) : Int)))) || V.coh) = true) : V.setc n b = V := if_neg (fun q => by
  rw [q.2.2] at h
  simp only [Bool.or_eq_true, decide_eq_true_eq, Bool.false_eq_true, or_false] at h
  omega)
theorem R.setc_yes {V : M.V} {n : Int} (h : (((decide (n < 0)) || (decide (n ≥ ((V.n : Nat) : Int)))) || V.coh) = false) : ∃ m : Nat, n = ((m : Nat) : Int) ∧ m < V.n ∧ V.coh = false := by
  simp only [Bool.or_eq_false_iff, decide_eq_false_iff_not] at h
  obtain ⟨m, rfl⟩ := Int.eq_ofNat_of_zero_le (show 0 ≤ n by omega)
  exact ⟨m, rfl, by omega, h.2⟩
theorem R.min_end {b : ByteArray} {c : Nat} (h : c ≤ b.size ∧ c ≤ 256) (h2 : ((decide (((c : Nat) : Int) < ((b.size : Nat) : Int))) && (decide (((c : Nat) : Int) < 256))) = false) : c = Nat.min b.size 256 := by
  have e : Nat.min b.size 256 = if b.size ≤ 256 then b.size else 256 := rfl
  rw [e]
  simp only [Bool.and_eq_false_iff, decide_eq_false_iff_not] at h2
  split <;> omega
theorem R_Protect {r : Nat} {s : R.Sl} {V : M.V} (n x : Int) : A.Tr Tryz.prog 34 #[.pointer (some ⟨r, 0, none⟩), .int .i64 n, .int .i64 x] (R.its r s V) (I := Unit) (fun _ => True) (fun _ => .tuple #[]) (fun _ => R.its r s (V.prot n x)) := by
 intro w oo aa hh
 refine E.enter (n := 25) (S := oo) Tryz.func34 rfl rfl (by kernel_rfl) (A.start (L := []) hh) (E.sr (E.op (E.i n) (E.op (.bool (decide (n ≥ 0))) (E.op (.bool (decide (n ≥ 0))) (E.G.cut 8 [(0, E.pt r), (1, E.i n), (2, E.i x), (16, .bool ((decide (n ≥ 0)) && (decide (n < ((V.n : Nat) : Int)))))] (A.X w oo aa [A.blk r [.slice s.a0 (256 * V.n) s.c0, .slice s.a1 (256 * R.len V) s.c1, .slice s.a2 (256 * V.n) s.c2, .slice s.a3 (256 * R.len V) s.c3, .slice s.a4 V.n s.c4, .bool V.coh], A.vec .u8 s.a0 s.c0 (R.flat V.d V.n), A.vec .u8 s.a1 s.c1 (R.flat V.i (R.len V)), A.vec .u8 s.a2 s.c2 (R.flat V.cd V.n), A.vec .u8 s.a3 s.c3 (R.flat V.ci (R.len V)), A.vec .i64 s.a4 s.c4 (R.rts V.r V.n)]) [] ?_ ?_)))))
 ·
  generalize hc1 : (decide (n ≥ 0)) = b2
  cases b2
  ·
   exact E.sk (E.sk (E.sk (E.sk (E.sk (E.sk (E.sk (E.op (.bool false) (E.G.end_pst ⟨by kernel_rfl, by kernel_rfl⟩ Nz.sub (fun _ h => h)))))))))
  exact E.op (E.i n) (E.op (E.pt r) (E.op (E.pt r) (E.op (.pointer (some ⟨r, 4, none⟩)) (E.vl (.slice s.a4 V.n s.c4) (fun w h => A.Y.bld (A.X.y h.x) (k := 0) (j := 4) rfl (by kernel_rfl) (by kernel_rfl)) (E.op (E.i ((V.n : Nat) : Int)) (E.op (.bool (decide (n < ((V.n : Nat) : Int)))) (E.op (.bool (decide (n < ((V.n : Nat) : Int)))) (E.G.end_pst ⟨by kernel_rfl, by kernel_rfl⟩ Nz.sub (fun _ h => h)))))))))
 refine E.To.code (E.cd ((decide (n ≥ 0)) && (decide (n < ((V.n : Nat) : Int)))) (fun hc3 => ?_) (fun hc3 => ?_))
 ·
  obtain ⟨m, rfl, hm⟩ := R.prot_yes hc3
  refine E.C.region (E.op (E.pt r) (E.op (E.pt r) (E.op (.pointer (some ⟨r, 4, none⟩)) (E.vl (.slice s.a4 V.n s.c4) (fun w h => A.Y.bld (A.X.y h.x) (k := 0) (j := 4) rfl (by kernel_rfl) (by kernel_rfl)) (E.op (E.i ((m : Nat) : Int)) (E.op (E.i x) (E.op (E.i (bits .and .i64 x 7)) (E.vl (.pointer (some ⟨(A.bk s.a4), m, none⟩)) (fun w h => A.Y.idx (e := 3) (ik := .i64) (i := m) (len := V.n) (c2 := s.c4) (A.X.y h.x) (k := 5) rfl (by kernel_rfl) (by kernel_rfl) (by kernel_rfl) (by kernel_rfl) Nz.pom (by simp only [R.rts_len]; exact Nz.pom)) (A.G.vst (kd := .i64) (ao := s.a4) (cap := s.c4) (i := m) (xs := (R.rts V.r V.n)) (v := (bits .and .i64 x 7)) 5 rfl (by kernel_rfl) (by kernel_rfl) (by kernel_rfl) (by simp only [R.rts_len]; exact Nz.pom) (by kernel_rfl) (by kernel_rfl) (E.To.bodyN (fn := Tryz.f34) [] ?_ ?_))))))))))
  · exact trivial
  intro w h
  rw [← R.its_prot hm]
  exact ⟨(), trivial, rfl, A.dq [0, 1, 2, 3, 4, 5] [] h⟩
 refine E.C.skip (E.To.bodyN (fn := Tryz.f34) [] ?_ ?_)
 · exact trivial
 intro w h
 rw [R.prot_no hc3]
 exact ⟨(), trivial, rfl, A.dq [0, 1, 2, 3, 4, 5] [] h⟩
theorem R_Sync {r : Nat} {s : R.Sl} {V : M.V} (a : Nat) (ha : a < 4294967296) : A.Tr Tryz.prog 58 #[.pointer (some ⟨r, 0, none⟩), .int .u32 ((a : Nat) : Int)] (R.its r s V) (I := Unit) (fun _ => True) (fun _ => .bool (decide (a / 256 < V.n))) (fun _ => R.its r s (V.sync (a / 256))) := by
 intro w oo aa hh
 refine E.enter (n := 44) (S := oo) Tryz.func58 rfl rfl (by kernel_rfl) (A.start (L := []) hh) (E.sr (E.op (.bool false) (E.tr (E.op (E.pt r) (E.op (E.u ((a : Nat) : Int)) (E.G.call (.bool (decide (a / 256 < V.n))) (fun w h => A.cq [0, 1, 2, 3, 4, 5] [] (R_In a Nz.pom (r := r) (s := s) (V := V)) h) (fun w _ => by kernel_rfl) (by kernel_rfl) (E.op (.bool (decide (a / 256 < V.n))) (E.To.code (E.C.seq (E.sr (E.op (.bool (decide (a / 256 < V.n))) ?_)))))))))))
 refine E.op (.bool (decide (a / 256 < V.n))) (E.G.cut 6 [(0, E.pt r), (1, E.u ((a : Nat) : Int)), (4, .bool false), (5, .bool (decide (a / 256 < V.n))), (18, .bool ((decide (a / 256 < V.n)) && (!V.coh)))] (A.X w oo aa [A.blk r [.slice s.a0 (256 * V.n) s.c0, .slice s.a1 (256 * R.len V) s.c1, .slice s.a2 (256 * V.n) s.c2, .slice s.a3 (256 * R.len V) s.c3, .slice s.a4 V.n s.c4, .bool V.coh], A.vec .u8 s.a0 s.c0 (R.flat V.d V.n), A.vec .u8 s.a1 s.c1 (R.flat V.i (R.len V)), A.vec .u8 s.a2 s.c2 (R.flat V.cd V.n), A.vec .u8 s.a3 s.c3 (R.flat V.ci (R.len V)), A.vec .i64 s.a4 s.c4 (R.rts V.r V.n)]) [] ?_ ?_)
 ·
  generalize hc1 : (decide (a / 256 < V.n)) = b2
  cases b2
  ·
   exact E.sk (E.sk (E.sk (E.sk (E.sk (E.op (.bool false) (E.G.end_pst ⟨by kernel_rfl, by kernel_rfl⟩ Nz.sub (fun _ h => h)))))))
  exact E.op (E.pt r) (E.op (E.pt r) (E.op (.pointer (some ⟨r, 5, none⟩)) (E.vl (.bool V.coh) (fun w h => A.Y.bld (A.X.y h.x) (k := 0) (j := 5) rfl (by kernel_rfl) (by kernel_rfl)) (E.op (.bool (!V.coh)) (E.op (.bool (!V.coh)) (E.G.end_pst ⟨by kernel_rfl, by kernel_rfl⟩ Nz.sub (fun _ h => h)))))))
 refine E.To.code (E.cd ((decide (a / 256 < V.n)) && (!V.coh)) (fun hc3 => ?_) (fun hc3 => ?_))
 ·
  refine E.C.seq ?_
  obtain ⟨hk, hcoh⟩ : a / 256 < V.n ∧ V.coh = false := by simpa using hc3
  have hlen := R.len_f hcoh
  have hlen2 : ∀ c, R.len (R.cpy V (a / 256) c) = V.n := fun c => hlen
  refine E.C.region (E.op (E.u ((a : Nat) : Int)) (E.vl (E.i ((a : Nat) : Int)) (fun w h => E.run_as (a := E.i (IntKind.wrap .i64 ((a : Nat) : Int))) (by kernel_rfl) (congrArg (Value.int .i64) (by exact Nz.w64 (x := a) Nz.pom))) (E.vl (E.i ((a / 256 : Nat) : Int)) (fun w h => E.run_as (a := E.i (IntKind.wrap .i64 (Int.tdiv ((a : Nat) : Int) 256))) (by kernel_rfl) (congrArg (Value.int .i64) (by exact Nz.quo64 (x := a) 256 Nz.pom))) (E.vl (E.i ((256 * (a / 256) : Nat) : Int)) (fun w h => E.run_as (a := E.i (IntKind.wrap .i64 (((a / 256 : Nat) : Int) * 256))) (by kernel_rfl) (congrArg (Value.int .i64) ((Nz.mul64 (x := a / 256) (y := 256) (by omega)).trans (by rw [Nat.mul_comm] <;> rfl)))) (E.op (E.i ((256 * (a / 256) : Nat) : Int)) (E.tr (E.op (E.i ((256 * (a / 256) : Nat) : Int)) (E.op (E.i ((256 * (a / 256) : Nat) : Int)) (E.To.code (E.C.block (A.C.eq ([A.blk r [.slice s.a0 (256 * (R.cpy V (a / 256) 0).n) s.c0, .slice s.a1 (256 * R.len (R.cpy V (a / 256) 0)) s.c1, .slice s.a2 (256 * (R.cpy V (a / 256) 0).n) s.c2, .slice s.a3 (256 * R.len (R.cpy V (a / 256) 0)) s.c3, .slice s.a4 ((R.cpy V (a / 256) 0).n) s.c4, .bool ((R.cpy V (a / 256) 0).coh)], A.vec .u8 s.a0 s.c0 (R.flat (R.cpy V (a / 256) 0).d (R.cpy V (a / 256) 0).n), A.vec .u8 s.a1 s.c1 (R.flat (R.cpy V (a / 256) 0).i (R.len (R.cpy V (a / 256) 0))), A.vec .u8 s.a2 s.c2 (R.flat (R.cpy V (a / 256) 0).cd (R.cpy V (a / 256) 0).n), A.vec .u8 s.a3 s.c3 (R.flat (R.cpy V (a / 256) 0).ci (R.len (R.cpy V (a / 256) 0))), A.vec .i64 s.a4 s.c4 (R.rts (R.cpy V (a / 256) 0).r (R.cpy V (a / 256) 0).n)]) (congrArg (R.its r s) (R.cpy0 V (a / 256)).symm) ?_)))))))))))
  refine E.C.loop (I := Nat) (fun c => 256 - c) (fun c => c ≤ 256) (fun c => [(0, E.pt r), (4, .bool false), (5, .bool (decide (a / 256 < V.n))), (6, E.i ((256 * (a / 256) : Nat) : Int)), (7, E.i ((256 * (a / 256) + c : Nat) : Int))]) (fun c => A.X w oo aa [A.blk r [.slice s.a0 (256 * (R.cpy V (a / 256) c).n) s.c0, .slice s.a1 (256 * R.len (R.cpy V (a / 256) c)) s.c1, .slice s.a2 (256 * (R.cpy V (a / 256) c).n) s.c2, .slice s.a3 (256 * R.len (R.cpy V (a / 256) c)) s.c3, .slice s.a4 ((R.cpy V (a / 256) c).n) s.c4, .bool ((R.cpy V (a / 256) c).coh)], A.vec .u8 s.a0 s.c0 (R.flat (R.cpy V (a / 256) c).d (R.cpy V (a / 256) c).n), A.vec .u8 s.a1 s.c1 (R.flat (R.cpy V (a / 256) c).i (R.len (R.cpy V (a / 256) c))), A.vec .u8 s.a2 s.c2 (R.flat (R.cpy V (a / 256) c).cd (R.cpy V (a / 256) c).n), A.vec .u8 s.a3 s.c3 (R.flat (R.cpy V (a / 256) c).ci (R.len (R.cpy V (a / 256) c))), A.vec .i64 s.a4 s.c4 (R.rts (R.cpy V (a / 256) c).r (R.cpy V (a / 256) c).n)]) (fun c => []) 0 (Nat.zero_le _) ⟨by kernel_rfl, by kernel_rfl⟩ Nz.sub (fun _ h => h) (fun c hk1 => E.C.seq (E.sr (E.op (E.i ((256 * (a / 256) + c : Nat) : Int)) (E.op (E.i ((256 * (a / 256) : Nat) : Int)) (E.vl (E.i (((256 * (a / 256)) + 256 : Nat) : Int)) (fun w h => E.run_as (a := E.i (IntKind.wrap .i64 (((256 * (a / 256) : Nat) : Int) + 256))) (by kernel_rfl) (congrArg (Value.int .i64) (by exact Nz.add64 (x := (256 * (a / 256))) (y := 256) Nz.pom))) (E.op (.bool (decide (((256 * (a / 256) + c : Nat) : Int) < (((256 * (a / 256)) + 256 : Nat) : Int)))) (E.To.code (E.cd (decide (((256 * (a / 256) + c : Nat) : Int) < (((256 * (a / 256)) + 256 : Nat) : Int))) (fun hc4 => ?_) (fun hc4 => ?_)))))))))
  ·
   refine E.C.skip (E.To.code (E.C.seq (E.C.block ?_)))
   have hc2 : c < 256 := by exact Nz.pom
   have hn2 : (R.cpy V (a / 256) c).n = V.n := rfl
   have hlen3 := hlen2 c
   refine E.C.know (p := s.a1 = some ⟨A.bk s.a1, 0, none⟩) (fun w h => A.Y.ao (A.X.y h.x) (k := 2) rfl (by simp only [R.flat_len]; exact Nz.pom)) (fun hao5 => E.C.held (A.Y [A.blk r [.slice s.a0 (256 * (R.cpy V (a / 256) c).n) s.c0, .slice s.a1 (256 * R.len (R.cpy V (a / 256) c)) s.c1, .slice s.a2 (256 * (R.cpy V (a / 256) c).n) s.c2, .slice s.a3 (256 * R.len (R.cpy V (a / 256) c)) s.c3, .slice s.a4 ((R.cpy V (a / 256) c).n) s.c4, .bool ((R.cpy V (a / 256) c).coh)], A.vec .u8 s.a0 s.c0 (R.flat (R.cpy V (a / 256) c).d (R.cpy V (a / 256) c).n), A.vec .u8 s.a2 s.c2 (R.flat (R.cpy V (a / 256) c).cd (R.cpy V (a / 256) c).n), A.vec .u8 s.a3 s.c3 (R.flat (R.cpy V (a / 256) c).ci (R.len (R.cpy V (a / 256) c))), A.vec .i64 s.a4 s.c4 (R.rts (R.cpy V (a / 256) c).r (R.cpy V (a / 256) c).n)]) (by kernel_rfl) (E.tk 0 (E.pt r) rfl (fun w h => A.yq [0, 1, 3, 4, 5] [2] (A.X.y h.x)) (E.tk 1 (E.pt r) rfl (fun w h => A.yq [0, 1, 3, 4, 5] [2] (A.X.y h.x)) (E.tk 2 (.pointer (some ⟨r, 1, none⟩)) rfl (fun w h => A.yq [0, 1, 3, 4, 5] [2] (A.X.y h.x)) (E.tj 3 (.slice s.a1 (256 * R.len (R.cpy V (a / 256) c)) s.c1) rfl (fun w h => A.yq [0, 1, 3, 4, 5] [2] (A.X.y h.x)) (fun w h => A.Y.bld h (k := 0) (j := 1) rfl (by kernel_rfl) (by kernel_rfl)) (E.tk 4 (E.i ((256 * (a / 256) + c : Nat) : Int)) rfl (fun w h => A.yq [0, 1, 3, 4, 5] [2] (A.X.y h.x)) (E.tk 5 (E.pt r) rfl (fun w h => A.yq [0, 1, 3, 4, 5] [2] (A.X.y h.x)) (E.tk 6 (E.pt r) rfl (fun w h => A.yq [0, 1, 3, 4, 5] [2] (A.X.y h.x)) (E.tk 7 (E.pt r) rfl (fun w h => A.yq [0, 1, 3, 4, 5] [2] (A.X.y h.x)) (E.tj 8 (.slice s.a0 (256 * (R.cpy V (a / 256) c).n) s.c0) rfl (fun w h => A.yq [0, 1, 3, 4, 5] [2] (A.X.y h.x)) (fun w h => A.Y.bld h (k := 0) (j := 0) rfl (by kernel_rfl) (by kernel_rfl)) (E.tk 9 (E.i ((256 * (a / 256) + c : Nat) : Int)) rfl (fun w h => A.yq [0, 1, 3, 4, 5] [2] (A.X.y h.x)) ?_)))))))))))
   refine E.tj 10 (.pointer (some ⟨(A.bk s.a0), (256 * (a / 256) + c), none⟩)) rfl (fun w h => A.yq [0, 1, 3, 4, 5] [2] (A.X.y h.x)) (fun w h => A.Y.idx (e := 5) (ik := .i64) (i := (256 * (a / 256) + c)) (len := (256 * (R.cpy V (a / 256) c).n)) (c2 := s.c0) h (k := 1) rfl (by kernel_rfl) (by kernel_rfl) (by kernel_rfl) (by kernel_rfl) Nz.pom (by simp only [R.flat_len]; exact Nz.pom)) (E.tj 11 (.int .u8 ((R.cpy V (a / 256) c).d ((256 * (a / 256) + c) / 256) ((256 * (a / 256) + c) % 256))) rfl (fun w h => A.yq [0, 1, 3, 4, 5] [2] (A.X.y h.x)) (fun w h => E.run_as (a := .int .u8 ((R.flat (R.cpy V (a / 256) c).d (R.cpy V (a / 256) c).n).getD (256 * (a / 256) + c) 0)) (A.Y.vld h (k := 1) (i := (256 * (a / 256) + c)) rfl (by kernel_rfl) (by kernel_rfl) (by simp only [R.flat_len]; exact Nz.pom)) (congrArg (Value.int .u8) (R.flat_get Nz.pom))) (E.tj 12 (.pointer (some ⟨(A.bk s.a1), (256 * (a / 256) + c), none⟩)) rfl (fun w h => A.yq [0, 1, 3, 4, 5] [2] (A.X.y h.x)) (fun w h => A.idxP (e := 5) (ik := .i64) (i := (256 * (a / 256) + c)) (len := (256 * R.len (R.cpy V (a / 256) c))) (c2 := s.c1) hao5 (by kernel_rfl) (by kernel_rfl) (by kernel_rfl) (by kernel_rfl) Nz.pom w) (E.al 13 rfl (A.G.vst (kd := .u8) (ao := s.a1) (cap := s.c1) (i := (256 * (a / 256) + c)) (xs := (R.flat (R.cpy V (a / 256) c).i (R.len (R.cpy V (a / 256) c)))) (v := ((R.cpy V (a / 256) c).d ((256 * (a / 256) + c) / 256) ((256 * (a / 256) + c) % 256))) 2 rfl (by kernel_rfl) (by kernel_rfl) (by kernel_rfl) (by simp only [R.flat_len]; exact Nz.pom) (by kernel_rfl) (by kernel_rfl) (E.H.back (fun w h => A.yq [0, 1, 3, 4, 5] [2] (A.X.y h.x)) (E.H.done (by kernel_rfl) (E.P.nb (E.To.code (A.C.eq ([A.blk r [.slice s.a0 (256 * (R.cpy V (a / 256) (c + 1)).n) s.c0, .slice s.a1 (256 * R.len (R.cpy V (a / 256) (c + 1))) s.c1, .slice s.a2 (256 * (R.cpy V (a / 256) (c + 1)).n) s.c2, .slice s.a3 (256 * R.len (R.cpy V (a / 256) (c + 1))) s.c3, .slice s.a4 ((R.cpy V (a / 256) (c + 1)).n) s.c4, .bool ((R.cpy V (a / 256) (c + 1)).coh)], A.vec .u8 s.a0 s.c0 (R.flat (R.cpy V (a / 256) (c + 1)).d (R.cpy V (a / 256) (c + 1)).n), A.vec .u8 s.a1 s.c1 (R.flat (R.cpy V (a / 256) (c + 1)).i (R.len (R.cpy V (a / 256) (c + 1)))), A.vec .u8 s.a2 s.c2 (R.flat (R.cpy V (a / 256) (c + 1)).cd (R.cpy V (a / 256) (c + 1)).n), A.vec .u8 s.a3 s.c3 (R.flat (R.cpy V (a / 256) (c + 1)).ci (R.len (R.cpy V (a / 256) (c + 1)))), A.vec .i64 s.a4 s.c4 (R.rts (R.cpy V (a / 256) (c + 1)).r (R.cpy V (a / 256) (c + 1)).n)]) (R.cpy_next hcoh hk hc2 (by show V.d ((256 * (a / 256) + c) / 256) ((256 * (a / 256) + c) % 256) = _; rw [show (256 * (a / 256) + c) / 256 = a / 256 by omega, show (256 * (a / 256) + c) % 256 = c by omega])) (E.C.region (E.op (E.i ((256 * (a / 256) + c : Nat) : Int)) (E.vl (E.i ((256 * (a / 256) + (c + 1) : Nat) : Int)) (fun w h => E.run_as (a := E.i (IntKind.wrap .i64 (((256 * (a / 256) + c : Nat) : Int) + 1))) (by kernel_rfl) (congrArg (Value.int .i64) (by exact Nz.add64 (x := 256 * (a / 256) + c) (y := 1) (by omega)))) ?_))))))))))))
   exact E.op (E.i ((256 * (a / 256) + (c + 1) : Nat) : Int)) (E.To.round (c + 1) Nz.pom Nz.pom ⟨by kernel_rfl, by kernel_rfl⟩ Nz.sub (fun _ h => h))
  refine E.C.exit (E.P.et (E.P.et (E.P.eh (E.To.code (E.sr (E.op (.bool (decide (a / 256 < V.n))) (E.op (.bool (decide (a / 256 < V.n))) (E.To.code (E.wk [(4, .bool (decide (a / 256 < V.n)))] [] Nz.sub (E.C.ret (E.bd Tryz.f58 [.bool (decide (a / 256 < V.n))] ?_)))))))))))
  intro w h
  have q := of_decide_eq_false hc4
  obtain rfl : 256 = c := by omega
  have h3 := A.done (q := [A.blk r [.slice s.a0 (256 * (R.cpy V (a / 256) 256).n) s.c0, .slice s.a1 (256 * R.len (R.cpy V (a / 256) 256)) s.c1, .slice s.a2 (256 * (R.cpy V (a / 256) 256).n) s.c2, .slice s.a3 (256 * R.len (R.cpy V (a / 256) 256)) s.c3, .slice s.a4 ((R.cpy V (a / 256) 256).n) s.c4, .bool ((R.cpy V (a / 256) 256).coh)], A.vec .u8 s.a0 s.c0 (R.flat (R.cpy V (a / 256) 256).d (R.cpy V (a / 256) 256).n), A.vec .u8 s.a1 s.c1 (R.flat (R.cpy V (a / 256) 256).i (R.len (R.cpy V (a / 256) 256))), A.vec .u8 s.a2 s.c2 (R.flat (R.cpy V (a / 256) 256).cd (R.cpy V (a / 256) 256).n), A.vec .u8 s.a3 s.c3 (R.flat (R.cpy V (a / 256) 256).ci (R.len (R.cpy V (a / 256) 256))), A.vec .i64 s.a4 s.c4 (R.rts (R.cpy V (a / 256) 256).r (R.cpy V (a / 256) 256).n)]) (r := []) h (by kernel_rfl) (A.pn [0, 1, 2, 3, 4, 5])
  exact ⟨(), trivial, rfl, by rw [← R.cpy_end hk hcoh]; exact h3⟩
 refine E.C.skip (E.To.code (E.sr (E.op (.bool (decide (a / 256 < V.n))) (E.op (.bool (decide (a / 256 < V.n))) (E.To.code (E.C.ret (E.bd Tryz.f58 [.bool (decide (a / 256 < V.n))] ?_)))))))
 intro w h
 rw [R.sync_no hc3]
 exact ⟨(), trivial, rfl, A.dq [0, 1, 2, 3, 4, 5] [] h⟩
theorem R_SetCode {r : Nat} {s : R.Sl} {V : M.V} (hw : R.Wf V) (n : Int) (b : ByteArray) : A.Tr Tryz.prog 32 #[.pointer (some ⟨r, 0, none⟩), .int .i64 n, .string b] (R.its r s V) (I := Unit) (fun _ => True) (fun _ => .tuple #[]) (fun _ => R.its r s (V.setc n b)) := by
 intro w oo aa hh
 refine E.enter (n := 46) (S := oo) Tryz.func32 rfl rfl (by kernel_rfl) (A.start (L := []) hh) (E.C.seq (E.sr (E.op (E.i n) (E.op (.bool (decide (n < 0))) (E.op (.bool (decide (n < 0))) (E.G.cut 8 [(0, E.pt r), (1, E.i n), (2, .string b), (17, .bool ((decide (n < 0)) || (decide (n ≥ ((V.n : Nat) : Int)))))] (A.X w oo aa [A.blk r [.slice s.a0 (256 * V.n) s.c0, .slice s.a1 (256 * R.len V) s.c1, .slice s.a2 (256 * V.n) s.c2, .slice s.a3 (256 * R.len V) s.c3, .slice s.a4 V.n s.c4, .bool V.coh], A.vec .u8 s.a0 s.c0 (R.flat V.d V.n), A.vec .u8 s.a1 s.c1 (R.flat V.i (R.len V)), A.vec .u8 s.a2 s.c2 (R.flat V.cd V.n), A.vec .u8 s.a3 s.c3 (R.flat V.ci (R.len V)), A.vec .i64 s.a4 s.c4 (R.rts V.r V.n)]) [] ?_ ?_))))))
 ·
  generalize hc1 : (decide (n < 0)) = b2
  cases b2
  ·
   exact E.op (E.i n) (E.op (E.pt r) (E.op (E.pt r) (E.op (.pointer (some ⟨r, 4, none⟩)) (E.vl (.slice s.a4 V.n s.c4) (fun w h => A.Y.bld (A.X.y h.x) (k := 0) (j := 4) rfl (by kernel_rfl) (by kernel_rfl)) (E.op (E.i ((V.n : Nat) : Int)) (E.op (.bool (decide (n ≥ ((V.n : Nat) : Int)))) (E.op (.bool (decide (n ≥ ((V.n : Nat) : Int)))) (E.G.end_pst ⟨by kernel_rfl, by kernel_rfl⟩ Nz.sub (fun _ h => h)))))))))
  exact E.sk (E.sk (E.sk (E.sk (E.sk (E.sk (E.sk (E.op (.bool true) (E.G.end_pst ⟨by kernel_rfl, by kernel_rfl⟩ Nz.sub (fun _ h => h)))))))))
 refine E.op (.bool ((decide (n < 0)) || (decide (n ≥ ((V.n : Nat) : Int))))) (E.G.cut 5 [(0, E.pt r), (1, E.i n), (2, .string b), (23, .bool (((decide (n < 0)) || (decide (n ≥ ((V.n : Nat) : Int)))) || V.coh))] (A.X w oo aa [A.blk r [.slice s.a0 (256 * V.n) s.c0, .slice s.a1 (256 * R.len V) s.c1, .slice s.a2 (256 * V.n) s.c2, .slice s.a3 (256 * R.len V) s.c3, .slice s.a4 V.n s.c4, .bool V.coh], A.vec .u8 s.a0 s.c0 (R.flat V.d V.n), A.vec .u8 s.a1 s.c1 (R.flat V.i (R.len V)), A.vec .u8 s.a2 s.c2 (R.flat V.cd V.n), A.vec .u8 s.a3 s.c3 (R.flat V.ci (R.len V)), A.vec .i64 s.a4 s.c4 (R.rts V.r V.n)]) [] ?_ ?_)
 ·
  generalize hc3 : ((decide (n < 0)) || (decide (n ≥ ((V.n : Nat) : Int)))) = b4
  cases b4
  ·
   exact E.op (E.pt r) (E.op (E.pt r) (E.op (.pointer (some ⟨r, 5, none⟩)) (E.vl (.bool V.coh) (fun w h => A.Y.bld (A.X.y h.x) (k := 0) (j := 5) rfl (by kernel_rfl) (by kernel_rfl)) (E.op (.bool V.coh) (E.G.end_pst ⟨by kernel_rfl, by kernel_rfl⟩ Nz.sub (fun _ h => h))))))
  exact E.sk (E.sk (E.sk (E.sk (E.op (.bool true) (E.G.end_pst ⟨by kernel_rfl, by kernel_rfl⟩ Nz.sub (fun _ h => h))))))
 refine E.To.code (E.cd (((decide (n < 0)) || (decide (n ≥ ((V.n : Nat) : Int)))) || V.coh) (fun hc5 => ?_) (fun hc5 => ?_))
 ·
  refine E.C.ret (E.P.rt (E.To.body (fn := Tryz.f32) [] ?_ ?_))
  · exact trivial
  intro w h
  rw [R.setc_no hc5]
  exact ⟨(), trivial, rfl, A.dq [0, 1, 2, 3, 4, 5] [] h⟩
 refine E.C.skip (E.To.code (E.C.seq ?_))
 obtain ⟨m, rfl, hm, hcoh⟩ := R.setc_yes hc5
 have hlen := R.len_f hcoh
 have hlen2 : ∀ c, R.len (R.lay V m b c) = V.n := fun c => hlen
 refine E.C.region (E.op (E.i 0) (E.To.code (E.C.block (A.C.eq ([A.blk r [.slice s.a0 (256 * (R.lay V m b 0).n) s.c0, .slice s.a1 (256 * R.len (R.lay V m b 0)) s.c1, .slice s.a2 (256 * (R.lay V m b 0).n) s.c2, .slice s.a3 (256 * R.len (R.lay V m b 0)) s.c3, .slice s.a4 ((R.lay V m b 0).n) s.c4, .bool ((R.lay V m b 0).coh)], A.vec .u8 s.a0 s.c0 (R.flat (R.lay V m b 0).d (R.lay V m b 0).n), A.vec .u8 s.a1 s.c1 (R.flat (R.lay V m b 0).i (R.len (R.lay V m b 0))), A.vec .u8 s.a2 s.c2 (R.flat (R.lay V m b 0).cd (R.lay V m b 0).n), A.vec .u8 s.a3 s.c3 (R.flat (R.lay V m b 0).ci (R.len (R.lay V m b 0))), A.vec .i64 s.a4 s.c4 (R.rts (R.lay V m b 0).r (R.lay V m b 0).n)]) (congrArg (R.its r s) (R.lay0 V m b).symm) (E.C.loop (I := Nat) (fun c => 256 - c) (fun c => c ≤ b.size ∧ c ≤ 256) (fun c => [(0, E.pt r), (1, E.i ((m : Nat) : Int)), (2, .string b), (6, E.i ((c : Nat) : Int))]) (fun c => A.X w oo aa [A.blk r [.slice s.a0 (256 * (R.lay V m b c).n) s.c0, .slice s.a1 (256 * R.len (R.lay V m b c)) s.c1, .slice s.a2 (256 * (R.lay V m b c).n) s.c2, .slice s.a3 (256 * R.len (R.lay V m b c)) s.c3, .slice s.a4 ((R.lay V m b c).n) s.c4, .bool ((R.lay V m b c).coh)], A.vec .u8 s.a0 s.c0 (R.flat (R.lay V m b c).d (R.lay V m b c).n), A.vec .u8 s.a1 s.c1 (R.flat (R.lay V m b c).i (R.len (R.lay V m b c))), A.vec .u8 s.a2 s.c2 (R.flat (R.lay V m b c).cd (R.lay V m b c).n), A.vec .u8 s.a3 s.c3 (R.flat (R.lay V m b c).ci (R.len (R.lay V m b c))), A.vec .i64 s.a4 s.c4 (R.rts (R.lay V m b c).r (R.lay V m b c).n)]) (fun c => []) 0 (⟨Nat.zero_le _, Nat.zero_le _⟩) ⟨by kernel_rfl, by kernel_rfl⟩ Nz.sub (fun _ h => h) (fun c hk1 => E.C.seq (E.sr (E.op (E.i ((c : Nat) : Int)) (E.op (.string b) (E.op (E.i ((b.size : Nat) : Int)) (E.op (.bool (decide (((c : Nat) : Int) < ((b.size : Nat) : Int)))) ?_)))))))))))
 refine E.op (.bool (decide (((c : Nat) : Int) < ((b.size : Nat) : Int)))) (E.G.cut 3 [(0, E.pt r), (1, E.i ((m : Nat) : Int)), (2, .string b), (6, E.i ((c : Nat) : Int)), (24, E.i ((c : Nat) : Int)), (25, .string b), (26, E.i ((b.size : Nat) : Int)), (27, .bool (decide (((c : Nat) : Int) < ((b.size : Nat) : Int)))), (28, .bool (decide (((c : Nat) : Int) < ((b.size : Nat) : Int)))), (31, .bool ((decide (((c : Nat) : Int) < ((b.size : Nat) : Int))) && (decide (((c : Nat) : Int) < 256))))] (A.X w oo aa [A.blk r [.slice s.a0 (256 * (R.lay V m b c).n) s.c0, .slice s.a1 (256 * R.len (R.lay V m b c)) s.c1, .slice s.a2 (256 * (R.lay V m b c).n) s.c2, .slice s.a3 (256 * R.len (R.lay V m b c)) s.c3, .slice s.a4 ((R.lay V m b c).n) s.c4, .bool ((R.lay V m b c).coh)], A.vec .u8 s.a0 s.c0 (R.flat (R.lay V m b c).d (R.lay V m b c).n), A.vec .u8 s.a1 s.c1 (R.flat (R.lay V m b c).i (R.len (R.lay V m b c))), A.vec .u8 s.a2 s.c2 (R.flat (R.lay V m b c).cd (R.lay V m b c).n), A.vec .u8 s.a3 s.c3 (R.flat (R.lay V m b c).ci (R.len (R.lay V m b c))), A.vec .i64 s.a4 s.c4 (R.rts (R.lay V m b c).r (R.lay V m b c).n)]) [] ?_ ?_)
 ·
  generalize hc6 : (decide (((c : Nat) : Int) < ((b.size : Nat) : Int))) = b7
  cases b7
  ·
   exact E.sk (E.sk (E.op (.bool false) (E.G.end_pst ⟨by kernel_rfl, by kernel_rfl⟩ Nz.sub (fun _ h => h))))
  exact E.op (E.i ((c : Nat) : Int)) (E.op (.bool (decide (((c : Nat) : Int) < 256))) (E.op (.bool (decide (((c : Nat) : Int) < 256))) (E.G.end_pst ⟨by kernel_rfl, by kernel_rfl⟩ Nz.sub (fun _ h => h))))
 refine E.To.code (E.cd ((decide (((c : Nat) : Int) < ((b.size : Nat) : Int))) && (decide (((c : Nat) : Int) < 256))) (fun hc8 => ?_) (fun hc8 => ?_))
 ·
  refine E.C.skip (E.To.code (E.C.seq (E.C.block ?_)))
  have hc2 : c < 256 := by exact Nz.pom
  have hc3 : c < b.size := by exact Nz.pom
  have hn2 : (R.lay V m b c).n = V.n := rfl
  have hlen3 := hlen2 c
  refine E.C.know (p := s.a1 = some ⟨A.bk s.a1, 0, none⟩) (fun w h => A.Y.ao (A.X.y h.x) (k := 2) rfl (by simp only [R.flat_len]; exact Nz.pom)) (fun hao9 => E.C.held (A.Y [A.blk r [.slice s.a0 (256 * (R.lay V m b c).n) s.c0, .slice s.a1 (256 * R.len (R.lay V m b c)) s.c1, .slice s.a2 (256 * (R.lay V m b c).n) s.c2, .slice s.a3 (256 * R.len (R.lay V m b c)) s.c3, .slice s.a4 ((R.lay V m b c).n) s.c4, .bool ((R.lay V m b c).coh)], A.vec .u8 s.a0 s.c0 (R.flat (R.lay V m b c).d (R.lay V m b c).n), A.vec .u8 s.a2 s.c2 (R.flat (R.lay V m b c).cd (R.lay V m b c).n), A.vec .u8 s.a3 s.c3 (R.flat (R.lay V m b c).ci (R.len (R.lay V m b c))), A.vec .i64 s.a4 s.c4 (R.rts (R.lay V m b c).r (R.lay V m b c).n)]) (by kernel_rfl) (E.tk 0 (E.pt r) rfl (fun w h => A.yq [0, 1, 3, 4, 5] [2] (A.X.y h.x)) (E.tk 1 (E.pt r) rfl (fun w h => A.yq [0, 1, 3, 4, 5] [2] (A.X.y h.x)) (E.tk 2 (.pointer (some ⟨r, 1, none⟩)) rfl (fun w h => A.yq [0, 1, 3, 4, 5] [2] (A.X.y h.x)) (E.tj 3 (.slice s.a1 (256 * R.len (R.lay V m b c)) s.c1) rfl (fun w h => A.yq [0, 1, 3, 4, 5] [2] (A.X.y h.x)) (fun w h => A.Y.bld h (k := 0) (j := 1) rfl (by kernel_rfl) (by kernel_rfl)) (E.tk 4 (E.i ((m : Nat) : Int)) rfl (fun w h => A.yq [0, 1, 3, 4, 5] [2] (A.X.y h.x)) (E.tj 5 (E.i ((256 * m : Nat) : Int)) rfl (fun w h => A.yq [0, 1, 3, 4, 5] [2] (A.X.y h.x)) (fun w h => E.run_as (a := E.i (IntKind.wrap .i64 (256 * ((m : Nat) : Int)))) (by kernel_rfl) (congrArg (Value.int .i64) (by exact Nz.mul64 (x := 256) (y := m) (by have := hw.n; exact Nz.pom)))) (E.tk 6 (E.i ((c : Nat) : Int)) rfl (fun w h => A.yq [0, 1, 3, 4, 5] [2] (A.X.y h.x)) (E.tj 7 (E.i (((256 * m) + c : Nat) : Int)) rfl (fun w h => A.yq [0, 1, 3, 4, 5] [2] (A.X.y h.x)) (fun w h => E.run_as (a := E.i (IntKind.wrap .i64 (((256 * m : Nat) : Int) + ((c : Nat) : Int)))) (by kernel_rfl) (congrArg (Value.int .i64) (by exact Nz.add64 (x := (256 * m)) (y := c) (by have := hw.n; exact Nz.pom)))) (E.tk 8 (.string b) rfl (fun w h => A.yq [0, 1, 3, 4, 5] [2] (A.X.y h.x)) (E.tk 9 (E.i ((c : Nat) : Int)) rfl (fun w h => A.yq [0, 1, 3, 4, 5] [2] (A.X.y h.x)) ?_)))))))))))
  refine E.tj 10 (.int .u8 (W.byt b.data.toList c)) rfl (fun w h => A.yq [0, 1, 3, 4, 5] [2] (A.X.y h.x)) (fun w h => E.run_as (a := .int .u8 (W.byt b.data.toList (((c : Nat) : Int)).toNat)) (E.sidx b .i64 ((c : Nat) : Int) (by kernel_rfl) (by kernel_rfl) (by kernel_rfl) Nz.pom Nz.pom w) (rfl)) (E.tj 11 (.pointer (some ⟨(A.bk s.a1), ((256 * m) + c), none⟩)) rfl (fun w h => A.yq [0, 1, 3, 4, 5] [2] (A.X.y h.x)) (fun w h => A.idxP (e := 5) (ik := .i64) (i := ((256 * m) + c)) (len := (256 * R.len (R.lay V m b c))) (c2 := s.c1) hao9 (by kernel_rfl) (by kernel_rfl) (by kernel_rfl) (by kernel_rfl) Nz.pom w) (E.al 12 rfl (A.G.vst (kd := .u8) (ao := s.a1) (cap := s.c1) (i := ((256 * m) + c)) (xs := (R.flat (R.lay V m b c).i (R.len (R.lay V m b c)))) (v := (W.byt b.data.toList c)) 2 rfl (by kernel_rfl) (by kernel_rfl) (by kernel_rfl) (by simp only [R.flat_len]; exact Nz.pom) (by kernel_rfl) (by kernel_rfl) (E.H.back (fun w h => A.yq [0, 1, 3, 4, 5] [2] (A.X.y h.x)) (E.H.done (by kernel_rfl) (E.P.nb (E.To.code (A.C.eq ([A.blk r [.slice s.a0 (256 * (R.lay V m b (c + 1)).n) s.c0, .slice s.a1 (256 * R.len (R.lay V m b (c + 1))) s.c1, .slice s.a2 (256 * (R.lay V m b (c + 1)).n) s.c2, .slice s.a3 (256 * R.len (R.lay V m b (c + 1))) s.c3, .slice s.a4 ((R.lay V m b (c + 1)).n) s.c4, .bool ((R.lay V m b (c + 1)).coh)], A.vec .u8 s.a0 s.c0 (R.flat (R.lay V m b (c + 1)).d (R.lay V m b (c + 1)).n), A.vec .u8 s.a1 s.c1 (R.flat (R.lay V m b (c + 1)).i (R.len (R.lay V m b (c + 1)))), A.vec .u8 s.a2 s.c2 (R.flat (R.lay V m b (c + 1)).cd (R.lay V m b (c + 1)).n), A.vec .u8 s.a3 s.c3 (R.flat (R.lay V m b (c + 1)).ci (R.len (R.lay V m b (c + 1)))), A.vec .i64 s.a4 s.c4 (R.rts (R.lay V m b (c + 1)).r (R.lay V m b (c + 1)).n)]) (R.lay_next hcoh hm hc2) (E.C.region (E.op (E.i ((c : Nat) : Int)) (E.vl (E.i ((c + 1 : Nat) : Int)) (fun w h => E.run_as (a := E.i (IntKind.wrap .i64 (((c : Nat) : Int) + 1))) (by kernel_rfl) (congrArg (Value.int .i64) (by exact Nz.add64 (x := c) (y := 1) (by have := hw.n; exact Nz.pom)))) (E.op (E.i ((c + 1 : Nat) : Int)) ?_))))))))))))
  exact E.To.round (c + 1) Nz.pom Nz.pom ⟨by kernel_rfl, by kernel_rfl⟩ Nz.sub (fun _ h => h)
 refine E.C.exit (E.P.et (E.P.et (E.P.eh (E.To.bodyN (fn := Tryz.f32) [] ?_ ?_))))
 · exact trivial
 intro w h
 have e : c = Nat.min b.size 256 := R.min_end hk1 hc8
 rw [← R.lay_end hm hcoh e]
 exact ⟨(), trivial, rfl, A.dq [0, 1, 2, 3, 4, 5] [] h⟩
theorem R.np_eq (n : Int) : (if (if 4096 < n then 4096 else n) > 0 then (if 4096 < n then 4096 else n) else 0) = ((M.np n : Nat) : Int) := by unfold M.np; split <;> split <;> (try split) <;> omega
theorem R.new_t {g N : Nat} {a0 a2 a4 : Option Addr} {w : World} {o a : Nat → Prop} (h : A.Has [A.blk g [.slice a0 (256 * N) (256 * N), .slice none 0 0, .slice a2 (256 * N) (256 * N), .slice none 0 0, .slice a4 N N, .bool true], A.vec .u8 a0 (256 * N) (List.replicate (256 * N) 0), A.vec .u8 a2 (256 * N) (List.replicate (256 * N) 0), A.vec .i64 a4 N (List.replicate N 0)] w o a) : A.Has (R.its g ⟨a0, none, a2, none, a4, 256 * N, 0, 256 * N, 0, N⟩ (M.V.new N true)) w o a := by
  have h1 := A.vec0 .u8 none (A.vec0 .u8 none h)
  unfold R.its R.vs
  show A.Has [A.blk g _, A.vec .u8 a0 (256 * N) (R.flat (fun _ _ => 0) N), A.vec .u8 none 0 (R.flat (fun _ _ => 0) 0), A.vec .u8 a2 (256 * N) (R.flat (fun _ _ => 0) N), A.vec .u8 none 0 (R.flat (fun _ _ => 0) 0), A.vec .i64 a4 N (R.rts (fun _ => 0) N)] w o a
  rw [R.flat_zero, R.rts_zero]
  exact h1.perm (A.pn [2, 3, 0, 4, 1, 5])
theorem R.new_f {g N : Nat} {a0 a1 a2 a3 a4 : Option Addr} {w : World} {o a : Nat → Prop} (h : A.Has [A.blk g [.slice a0 (256 * N) (256 * N), .slice a1 (256 * N) (256 * N), .slice a2 (256 * N) (256 * N), .slice a3 (256 * N) (256 * N), .slice a4 N N, .bool false], A.vec .u8 a0 (256 * N) (List.replicate (256 * N) 0), A.vec .u8 a1 (256 * N) (List.replicate (256 * N) 0), A.vec .u8 a2 (256 * N) (List.replicate (256 * N) 0), A.vec .u8 a3 (256 * N) (List.replicate (256 * N) 0), A.vec .i64 a4 N (List.replicate N 0)] w o a) : A.Has (R.its g ⟨a0, a1, a2, a3, a4, 256 * N, 256 * N, 256 * N, 256 * N, N⟩ (M.V.new N false)) w o a := by
  unfold R.its R.vs
  show A.Has [A.blk g _, A.vec .u8 a0 (256 * N) (R.flat (fun _ _ => 0) N), A.vec .u8 a1 (256 * N) (R.flat (fun _ _ => 0) N), A.vec .u8 a2 (256 * N) (R.flat (fun _ _ => 0) N), A.vec .u8 a3 (256 * N) (R.flat (fun _ _ => 0) N), A.vec .i64 a4 N (R.rts (fun _ => 0) N)] w o a
  rw [R.flat_zero, R.rts_zero]
  exact h
theorem R_New (n : Int) (coh : Bool) : A.Tr Tryz.prog 64 #[.int .i64 n, .bool coh] [] (I := Nat) (fun _ => True) (fun g => .pointer (some ⟨g, 0, none⟩)) (fun g => [R.It g (M.V.new (M.np n) coh)]) := by
 intro w oo aa hh
 refine E.enter (n := 36) (S := oo) Tryz.func64 rfl rfl (by kernel_rfl) (A.start (L := []) hh) (E.sr (E.op (.pointer none) (E.tr (E.op (E.i n) (E.op (E.i (if 4096 < n then 4096 else n)) (E.vl (E.i ((M.np n : Nat) : Int)) (fun w h => E.run_as (a := E.i (if (if 4096 < n then 4096 else n) > 0 then (if 4096 < n then 4096 else n) else 0)) (by kernel_rfl) (congrArg (Value.int .i64) (R.np_eq n))) (E.op (E.i ((M.np n : Nat) : Int)) (E.To.code (E.C.seq (E.C.held (fun _ => True) (by kernel_rfl) (E.tk 0 (E.i ((M.np n : Nat) : Int)) rfl (fun w h => trivial) ?_)))))))))))
 refine E.tj 1 (E.i ((256 * (M.np n) : Nat) : Int)) rfl (fun w h => trivial) (fun w h => E.run_as (a := E.i (IntKind.wrap .i64 (256 * ((M.np n : Nat) : Int)))) (by kernel_rfl) (congrArg (Value.int .i64) (by exact Nz.mul64 (x := 256) (y := (M.np n)) (by have := M.np_le n; omega)))) (E.tk 3 (E.i ((M.np n : Nat) : Int)) rfl (fun w h => trivial) (E.tj 4 (E.i ((256 * (M.np n) : Nat) : Int)) rfl (fun w h => trivial) (fun w h => E.run_as (a := E.i (IntKind.wrap .i64 (256 * ((M.np n : Nat) : Int)))) (by kernel_rfl) (congrArg (Value.int .i64) (by exact Nz.mul64 (x := 256) (y := (M.np n)) (by have := M.np_le n; omega)))) (E.tk 6 (E.i ((M.np n : Nat) : Int)) rfl (fun w h => trivial) (E.tk 8 (.bool coh) rfl (fun w h => trivial) (E.al3 2 5 7 rfl rfl rfl ?_ ?_ ?_)))))
 ·
  refine A.G.make (e := 5) (kd := .u8) (lk := .i64) (256 * (M.np n)) 1 (by kernel_rfl) (by kernel_rfl) (by kernel_rfl) (by have := M.np_le n; omega) (by have := M.np_le n; omega) (by kernel_rfl) (fun ao1 => E.H.back (fun w h => trivial) (E.al2 5 7 rfl rfl ?_ ?_))
  ·
   refine A.G.make (e := 5) (kd := .u8) (lk := .i64) (256 * (M.np n)) 1 (by kernel_rfl) (by kernel_rfl) (by kernel_rfl) (by have := M.np_le n; omega) (by have := M.np_le n; omega) (by kernel_rfl) (fun ao2 => E.H.back (fun w h => trivial) (E.al 7 rfl (A.G.make (e := 3) (kd := .i64) (lk := .i64) (M.np n) 8 (by kernel_rfl) (by kernel_rfl) (by kernel_rfl) (by have := M.np_le n; omega) (by have := M.np_le n; omega) (by kernel_rfl) (fun ao3 => E.H.back (fun w h => trivial) (E.tj 9 (.agg #[.slice ao1 (256 * (M.np n)) (256 * (M.np n)), .slice none 0 0, .slice ao2 (256 * (M.np n)) (256 * (M.np n)), .slice none 0 0, .slice ao3 (M.np n) (M.np n), .bool coh]) rfl (fun w h => trivial) (fun w h => E.run_build #[.slice ao1 (256 * (M.np n)) (256 * (M.np n)), .slice none 0 0, .slice ao2 (256 * (M.np n)) (256 * (M.np n)), .slice none 0 0, .slice ao3 (M.np n) (M.np n), .bool coh] (by kernel_rfl) w) (E.al 10 rfl (E.G.new (fun g => E.pt g) [.slice ao1 (256 * (M.np n)) (256 * (M.np n)), .slice none 0 0, .slice ao2 (256 * (M.np n)) (256 * (M.np n)), .slice none 0 0, .slice ao3 (M.np n) (M.np n), .bool coh] 45 (fun w => by kernel_rfl) (by kernel_rfl) (fun g4 => E.H.back (fun w h => trivial) (E.tk 11 (E.pt g4) rfl (fun w h => trivial) (E.H.done (by kernel_rfl) (E.To.code ?_)))))))))))
   refine E.wk [(1, .bool coh), (4, .pointer none), (5, E.i ((M.np n : Nat) : Int)), (6, E.pt g4)] [(g4, [.slice ao1 (256 * (M.np n)) (256 * (M.np n)), .slice none 0 0, .slice ao2 (256 * (M.np n)) (256 * (M.np n)), .slice none 0 0, .slice ao3 (M.np n) (M.np n), .bool coh])] Nz.sub (E.C.seq (E.sr (E.op (.bool coh) (E.op (.bool (!coh)) (E.To.code (E.cd (!coh) (fun hc5 => ?_) (fun hc5 => ?_)))))))
   ·
    refine E.sr (E.op (E.pt g4) (E.op (E.i ((M.np n : Nat) : Int)) (E.vl (E.i ((256 * (M.np n) : Nat) : Int)) (fun w h => E.run_as (a := E.i (IntKind.wrap .i64 (256 * ((M.np n : Nat) : Int)))) (by kernel_rfl) (congrArg (Value.int .i64) (by exact Nz.mul64 (x := 256) (y := (M.np n)) (by have := M.np_le n; omega)))) (A.G.make (e := 5) (kd := .u8) (lk := .i64) (256 * (M.np n)) 1 (by kernel_rfl) (by kernel_rfl) (by kernel_rfl) (by have := M.np_le n; omega) (by have := M.np_le n; omega) (by kernel_rfl) (fun ao6 => E.op (E.pt g4) (E.op (.pointer (some ⟨g4, 1, none⟩)) (E.st 0 [.slice ao1 (256 * (M.np n)) (256 * (M.np n)), .slice ao6 (256 * (M.np n)) (256 * (M.np n)), .slice ao2 (256 * (M.np n)) (256 * (M.np n)), .slice none 0 0, .slice ao3 (M.np n) (M.np n), .bool coh] rfl rfl (E.To.code (E.wk [(4, .pointer none), (5, E.i ((M.np n : Nat) : Int)), (6, E.pt g4)] [(g4, [.slice ao1 (256 * (M.np n)) (256 * (M.np n)), .slice ao6 (256 * (M.np n)) (256 * (M.np n)), .slice ao2 (256 * (M.np n)) (256 * (M.np n)), .slice none 0 0, .slice ao3 (M.np n) (M.np n), .bool coh])] Nz.sub (E.C.region (E.op (E.pt g4) ?_)))))))))))
    refine E.op (E.i ((M.np n : Nat) : Int)) (E.vl (E.i ((256 * (M.np n) : Nat) : Int)) (fun w h => E.run_as (a := E.i (IntKind.wrap .i64 (256 * ((M.np n : Nat) : Int)))) (by kernel_rfl) (congrArg (Value.int .i64) (by exact Nz.mul64 (x := 256) (y := (M.np n)) (by have := M.np_le n; omega)))) (A.G.make (e := 5) (kd := .u8) (lk := .i64) (256 * (M.np n)) 1 (by kernel_rfl) (by kernel_rfl) (by kernel_rfl) (by have := M.np_le n; omega) (by have := M.np_le n; omega) (by kernel_rfl) (fun ao7 => E.op (E.pt g4) (E.op (.pointer (some ⟨g4, 3, none⟩)) (E.st 0 [.slice ao1 (256 * (M.np n)) (256 * (M.np n)), .slice ao6 (256 * (M.np n)) (256 * (M.np n)), .slice ao2 (256 * (M.np n)) (256 * (M.np n)), .slice ao7 (256 * (M.np n)) (256 * (M.np n)), .slice ao3 (M.np n) (M.np n), .bool coh] rfl rfl (E.tr (E.op (E.pt g4) (E.op (E.pt g4) (E.To.code (E.wk [(4, E.pt g4)] [(g4, [.slice ao1 (256 * (M.np n)) (256 * (M.np n)), .slice ao6 (256 * (M.np n)) (256 * (M.np n)), .slice ao2 (256 * (M.np n)) (256 * (M.np n)), .slice ao7 (256 * (M.np n)) (256 * (M.np n)), .slice ao3 (M.np n) (M.np n), .bool coh])] Nz.sub (E.C.ret (E.bd Tryz.f64 [E.pt g4] ?_))))))))))))
    intro w h
    obtain rfl : coh = false := by simpa using hc5
    obtain ⟨o1, a1, hq, hc, hg⟩ := A.done (q := [A.blk g4 ([.slice ao1 (256 * (M.np n)) (256 * (M.np n)), .slice ao6 (256 * (M.np n)) (256 * (M.np n)), .slice ao2 (256 * (M.np n)) (256 * (M.np n)), .slice ao7 (256 * (M.np n)) (256 * (M.np n)), .slice ao3 (M.np n) (M.np n), .bool false]), A.vec .u8 ao1 (256 * (M.np n)) (List.replicate (256 * (M.np n)) 0), A.vec .u8 ao6 (256 * (M.np n)) (List.replicate (256 * (M.np n)) 0), A.vec .u8 ao2 (256 * (M.np n)) (List.replicate (256 * (M.np n)) 0), A.vec .u8 ao7 (256 * (M.np n)) (List.replicate (256 * (M.np n)) 0), A.vec .i64 ao3 (M.np n) (List.replicate (M.np n) 0)]) (r := []) h (by kernel_rfl) (A.pn [0, 5, 2, 4, 1, 3])
    exact ⟨g4, trivial, rfl, o1, a1, A.Has.one ⟨R.Wf.new (M.np_le n) _, _, R.new_f hq⟩, hc, hg⟩
   refine E.C.skip (E.To.code (E.sr (E.op (E.pt g4) (E.op (E.pt g4) (E.To.code (E.C.ret (E.bd Tryz.f64 [E.pt g4] ?_)))))))
   intro w h
   obtain rfl : coh = true := by simpa using hc5
   obtain ⟨o1, a1, hq, hc, hg⟩ := A.done (q := [A.blk g4 ([.slice ao1 (256 * (M.np n)) (256 * (M.np n)), .slice none 0 0, .slice ao2 (256 * (M.np n)) (256 * (M.np n)), .slice none 0 0, .slice ao3 (M.np n) (M.np n), .bool true]), A.vec .u8 ao1 (256 * (M.np n)) (List.replicate (256 * (M.np n)) 0), A.vec .u8 ao2 (256 * (M.np n)) (List.replicate (256 * (M.np n)) 0), A.vec .i64 ao3 (M.np n) (List.replicate (M.np n) 0)]) (r := []) h (by kernel_rfl) (A.pn [0, 3, 2, 1])
   exact ⟨g4, trivial, rfl, o1, a1, A.Has.one ⟨R.Wf.new (M.np_le n) _, _, R.new_t hq⟩, hc, hg⟩
  refine A.G.make (e := 3) (kd := .i64) (lk := .i64) (M.np n) 8 (by kernel_rfl) (by kernel_rfl) (by kernel_rfl) (by have := M.np_le n; omega) (by have := M.np_le n; omega) (by kernel_rfl) (fun ao8 => E.H.back (fun w h => trivial) (E.al 5 rfl (A.G.make (e := 5) (kd := .u8) (lk := .i64) (256 * (M.np n)) 1 (by kernel_rfl) (by kernel_rfl) (by kernel_rfl) (by have := M.np_le n; omega) (by have := M.np_le n; omega) (by kernel_rfl) (fun ao9 => E.H.back (fun w h => trivial) (E.tj 9 (.agg #[.slice ao1 (256 * (M.np n)) (256 * (M.np n)), .slice none 0 0, .slice ao9 (256 * (M.np n)) (256 * (M.np n)), .slice none 0 0, .slice ao8 (M.np n) (M.np n), .bool coh]) rfl (fun w h => trivial) (fun w h => E.run_build #[.slice ao1 (256 * (M.np n)) (256 * (M.np n)), .slice none 0 0, .slice ao9 (256 * (M.np n)) (256 * (M.np n)), .slice none 0 0, .slice ao8 (M.np n) (M.np n), .bool coh] (by kernel_rfl) w) (E.al 10 rfl (E.G.new (fun g => E.pt g) [.slice ao1 (256 * (M.np n)) (256 * (M.np n)), .slice none 0 0, .slice ao9 (256 * (M.np n)) (256 * (M.np n)), .slice none 0 0, .slice ao8 (M.np n) (M.np n), .bool coh] 45 (fun w => by kernel_rfl) (by kernel_rfl) (fun g10 => E.H.back (fun w h => trivial) (E.tk 11 (E.pt g10) rfl (fun w h => trivial) (E.H.done (by kernel_rfl) (E.To.code ?_)))))))))))
  refine E.wk [(1, .bool coh), (4, .pointer none), (5, E.i ((M.np n : Nat) : Int)), (6, E.pt g10)] [(g10, [.slice ao1 (256 * (M.np n)) (256 * (M.np n)), .slice none 0 0, .slice ao9 (256 * (M.np n)) (256 * (M.np n)), .slice none 0 0, .slice ao8 (M.np n) (M.np n), .bool coh])] Nz.sub (E.C.seq (E.sr (E.op (.bool coh) (E.op (.bool (!coh)) (E.To.code (E.cd (!coh) (fun hc11 => ?_) (fun hc11 => ?_)))))))
  ·
   refine E.sr (E.op (E.pt g10) (E.op (E.i ((M.np n : Nat) : Int)) (E.vl (E.i ((256 * (M.np n) : Nat) : Int)) (fun w h => E.run_as (a := E.i (IntKind.wrap .i64 (256 * ((M.np n : Nat) : Int)))) (by kernel_rfl) (congrArg (Value.int .i64) (by exact Nz.mul64 (x := 256) (y := (M.np n)) (by have := M.np_le n; omega)))) (A.G.make (e := 5) (kd := .u8) (lk := .i64) (256 * (M.np n)) 1 (by kernel_rfl) (by kernel_rfl) (by kernel_rfl) (by have := M.np_le n; omega) (by have := M.np_le n; omega) (by kernel_rfl) (fun ao12 => E.op (E.pt g10) (E.op (.pointer (some ⟨g10, 1, none⟩)) (E.st 0 [.slice ao1 (256 * (M.np n)) (256 * (M.np n)), .slice ao12 (256 * (M.np n)) (256 * (M.np n)), .slice ao9 (256 * (M.np n)) (256 * (M.np n)), .slice none 0 0, .slice ao8 (M.np n) (M.np n), .bool coh] rfl rfl (E.To.code (E.wk [(4, .pointer none), (5, E.i ((M.np n : Nat) : Int)), (6, E.pt g10)] [(g10, [.slice ao1 (256 * (M.np n)) (256 * (M.np n)), .slice ao12 (256 * (M.np n)) (256 * (M.np n)), .slice ao9 (256 * (M.np n)) (256 * (M.np n)), .slice none 0 0, .slice ao8 (M.np n) (M.np n), .bool coh])] Nz.sub (E.C.region (E.op (E.pt g10) ?_)))))))))))
   refine E.op (E.i ((M.np n : Nat) : Int)) (E.vl (E.i ((256 * (M.np n) : Nat) : Int)) (fun w h => E.run_as (a := E.i (IntKind.wrap .i64 (256 * ((M.np n : Nat) : Int)))) (by kernel_rfl) (congrArg (Value.int .i64) (by exact Nz.mul64 (x := 256) (y := (M.np n)) (by have := M.np_le n; omega)))) (A.G.make (e := 5) (kd := .u8) (lk := .i64) (256 * (M.np n)) 1 (by kernel_rfl) (by kernel_rfl) (by kernel_rfl) (by have := M.np_le n; omega) (by have := M.np_le n; omega) (by kernel_rfl) (fun ao13 => E.op (E.pt g10) (E.op (.pointer (some ⟨g10, 3, none⟩)) (E.st 0 [.slice ao1 (256 * (M.np n)) (256 * (M.np n)), .slice ao12 (256 * (M.np n)) (256 * (M.np n)), .slice ao9 (256 * (M.np n)) (256 * (M.np n)), .slice ao13 (256 * (M.np n)) (256 * (M.np n)), .slice ao8 (M.np n) (M.np n), .bool coh] rfl rfl (E.tr (E.op (E.pt g10) (E.op (E.pt g10) (E.To.code (E.wk [(4, E.pt g10)] [(g10, [.slice ao1 (256 * (M.np n)) (256 * (M.np n)), .slice ao12 (256 * (M.np n)) (256 * (M.np n)), .slice ao9 (256 * (M.np n)) (256 * (M.np n)), .slice ao13 (256 * (M.np n)) (256 * (M.np n)), .slice ao8 (M.np n) (M.np n), .bool coh])] Nz.sub (E.C.ret (E.bd Tryz.f64 [E.pt g10] ?_))))))))))))
   intro w h
   obtain rfl : coh = false := by simpa using hc11
   obtain ⟨o1, a1, hq, hc, hg⟩ := A.done (q := [A.blk g10 ([.slice ao1 (256 * (M.np n)) (256 * (M.np n)), .slice ao12 (256 * (M.np n)) (256 * (M.np n)), .slice ao9 (256 * (M.np n)) (256 * (M.np n)), .slice ao13 (256 * (M.np n)) (256 * (M.np n)), .slice ao8 (M.np n) (M.np n), .bool false]), A.vec .u8 ao1 (256 * (M.np n)) (List.replicate (256 * (M.np n)) 0), A.vec .u8 ao12 (256 * (M.np n)) (List.replicate (256 * (M.np n)) 0), A.vec .u8 ao9 (256 * (M.np n)) (List.replicate (256 * (M.np n)) 0), A.vec .u8 ao13 (256 * (M.np n)) (List.replicate (256 * (M.np n)) 0), A.vec .i64 ao8 (M.np n) (List.replicate (M.np n) 0)]) (r := []) h (by kernel_rfl) (A.pn [0, 5, 2, 3, 1, 4])
   exact ⟨g10, trivial, rfl, o1, a1, A.Has.one ⟨R.Wf.new (M.np_le n) _, _, R.new_f hq⟩, hc, hg⟩
  refine E.C.skip (E.To.code (E.sr (E.op (E.pt g10) (E.op (E.pt g10) (E.To.code (E.C.ret (E.bd Tryz.f64 [E.pt g10] ?_)))))))
  intro w h
  obtain rfl : coh = true := by simpa using hc11
  obtain ⟨o1, a1, hq, hc, hg⟩ := A.done (q := [A.blk g10 ([.slice ao1 (256 * (M.np n)) (256 * (M.np n)), .slice none 0 0, .slice ao9 (256 * (M.np n)) (256 * (M.np n)), .slice none 0 0, .slice ao8 (M.np n) (M.np n), .bool true]), A.vec .u8 ao1 (256 * (M.np n)) (List.replicate (256 * (M.np n)) 0), A.vec .u8 ao9 (256 * (M.np n)) (List.replicate (256 * (M.np n)) 0), A.vec .i64 ao8 (M.np n) (List.replicate (M.np n) 0)]) (r := []) h (by kernel_rfl) (A.pn [0, 3, 1, 2])
  exact ⟨g10, trivial, rfl, o1, a1, A.Has.one ⟨R.Wf.new (M.np_le n) _, _, R.new_t hq⟩, hc, hg⟩
 ·
  refine A.G.make (e := 5) (kd := .u8) (lk := .i64) (256 * (M.np n)) 1 (by kernel_rfl) (by kernel_rfl) (by kernel_rfl) (by have := M.np_le n; omega) (by have := M.np_le n; omega) (by kernel_rfl) (fun ao14 => E.H.back (fun w h => trivial) (E.al2 2 7 rfl rfl ?_ ?_))
  ·
   refine A.G.make (e := 5) (kd := .u8) (lk := .i64) (256 * (M.np n)) 1 (by kernel_rfl) (by kernel_rfl) (by kernel_rfl) (by have := M.np_le n; omega) (by have := M.np_le n; omega) (by kernel_rfl) (fun ao15 => E.H.back (fun w h => trivial) (E.al 7 rfl (A.G.make (e := 3) (kd := .i64) (lk := .i64) (M.np n) 8 (by kernel_rfl) (by kernel_rfl) (by kernel_rfl) (by have := M.np_le n; omega) (by have := M.np_le n; omega) (by kernel_rfl) (fun ao16 => E.H.back (fun w h => trivial) (E.tj 9 (.agg #[.slice ao15 (256 * (M.np n)) (256 * (M.np n)), .slice none 0 0, .slice ao14 (256 * (M.np n)) (256 * (M.np n)), .slice none 0 0, .slice ao16 (M.np n) (M.np n), .bool coh]) rfl (fun w h => trivial) (fun w h => E.run_build #[.slice ao15 (256 * (M.np n)) (256 * (M.np n)), .slice none 0 0, .slice ao14 (256 * (M.np n)) (256 * (M.np n)), .slice none 0 0, .slice ao16 (M.np n) (M.np n), .bool coh] (by kernel_rfl) w) (E.al 10 rfl (E.G.new (fun g => E.pt g) [.slice ao15 (256 * (M.np n)) (256 * (M.np n)), .slice none 0 0, .slice ao14 (256 * (M.np n)) (256 * (M.np n)), .slice none 0 0, .slice ao16 (M.np n) (M.np n), .bool coh] 45 (fun w => by kernel_rfl) (by kernel_rfl) (fun g17 => E.H.back (fun w h => trivial) (E.tk 11 (E.pt g17) rfl (fun w h => trivial) (E.H.done (by kernel_rfl) (E.To.code ?_)))))))))))
   refine E.wk [(1, .bool coh), (4, .pointer none), (5, E.i ((M.np n : Nat) : Int)), (6, E.pt g17)] [(g17, [.slice ao15 (256 * (M.np n)) (256 * (M.np n)), .slice none 0 0, .slice ao14 (256 * (M.np n)) (256 * (M.np n)), .slice none 0 0, .slice ao16 (M.np n) (M.np n), .bool coh])] Nz.sub (E.C.seq (E.sr (E.op (.bool coh) (E.op (.bool (!coh)) (E.To.code (E.cd (!coh) (fun hc18 => ?_) (fun hc18 => ?_)))))))
   ·
    refine E.sr (E.op (E.pt g17) (E.op (E.i ((M.np n : Nat) : Int)) (E.vl (E.i ((256 * (M.np n) : Nat) : Int)) (fun w h => E.run_as (a := E.i (IntKind.wrap .i64 (256 * ((M.np n : Nat) : Int)))) (by kernel_rfl) (congrArg (Value.int .i64) (by exact Nz.mul64 (x := 256) (y := (M.np n)) (by have := M.np_le n; omega)))) (A.G.make (e := 5) (kd := .u8) (lk := .i64) (256 * (M.np n)) 1 (by kernel_rfl) (by kernel_rfl) (by kernel_rfl) (by have := M.np_le n; omega) (by have := M.np_le n; omega) (by kernel_rfl) (fun ao19 => E.op (E.pt g17) (E.op (.pointer (some ⟨g17, 1, none⟩)) (E.st 0 [.slice ao15 (256 * (M.np n)) (256 * (M.np n)), .slice ao19 (256 * (M.np n)) (256 * (M.np n)), .slice ao14 (256 * (M.np n)) (256 * (M.np n)), .slice none 0 0, .slice ao16 (M.np n) (M.np n), .bool coh] rfl rfl (E.To.code (E.wk [(4, .pointer none), (5, E.i ((M.np n : Nat) : Int)), (6, E.pt g17)] [(g17, [.slice ao15 (256 * (M.np n)) (256 * (M.np n)), .slice ao19 (256 * (M.np n)) (256 * (M.np n)), .slice ao14 (256 * (M.np n)) (256 * (M.np n)), .slice none 0 0, .slice ao16 (M.np n) (M.np n), .bool coh])] Nz.sub (E.C.region (E.op (E.pt g17) ?_)))))))))))
    refine E.op (E.i ((M.np n : Nat) : Int)) (E.vl (E.i ((256 * (M.np n) : Nat) : Int)) (fun w h => E.run_as (a := E.i (IntKind.wrap .i64 (256 * ((M.np n : Nat) : Int)))) (by kernel_rfl) (congrArg (Value.int .i64) (by exact Nz.mul64 (x := 256) (y := (M.np n)) (by have := M.np_le n; omega)))) (A.G.make (e := 5) (kd := .u8) (lk := .i64) (256 * (M.np n)) 1 (by kernel_rfl) (by kernel_rfl) (by kernel_rfl) (by have := M.np_le n; omega) (by have := M.np_le n; omega) (by kernel_rfl) (fun ao20 => E.op (E.pt g17) (E.op (.pointer (some ⟨g17, 3, none⟩)) (E.st 0 [.slice ao15 (256 * (M.np n)) (256 * (M.np n)), .slice ao19 (256 * (M.np n)) (256 * (M.np n)), .slice ao14 (256 * (M.np n)) (256 * (M.np n)), .slice ao20 (256 * (M.np n)) (256 * (M.np n)), .slice ao16 (M.np n) (M.np n), .bool coh] rfl rfl (E.tr (E.op (E.pt g17) (E.op (E.pt g17) (E.To.code (E.wk [(4, E.pt g17)] [(g17, [.slice ao15 (256 * (M.np n)) (256 * (M.np n)), .slice ao19 (256 * (M.np n)) (256 * (M.np n)), .slice ao14 (256 * (M.np n)) (256 * (M.np n)), .slice ao20 (256 * (M.np n)) (256 * (M.np n)), .slice ao16 (M.np n) (M.np n), .bool coh])] Nz.sub (E.C.ret (E.bd Tryz.f64 [E.pt g17] ?_))))))))))))
    intro w h
    obtain rfl : coh = false := by simpa using hc18
    obtain ⟨o1, a1, hq, hc, hg⟩ := A.done (q := [A.blk g17 ([.slice ao15 (256 * (M.np n)) (256 * (M.np n)), .slice ao19 (256 * (M.np n)) (256 * (M.np n)), .slice ao14 (256 * (M.np n)) (256 * (M.np n)), .slice ao20 (256 * (M.np n)) (256 * (M.np n)), .slice ao16 (M.np n) (M.np n), .bool false]), A.vec .u8 ao15 (256 * (M.np n)) (List.replicate (256 * (M.np n)) 0), A.vec .u8 ao19 (256 * (M.np n)) (List.replicate (256 * (M.np n)) 0), A.vec .u8 ao14 (256 * (M.np n)) (List.replicate (256 * (M.np n)) 0), A.vec .u8 ao20 (256 * (M.np n)) (List.replicate (256 * (M.np n)) 0), A.vec .i64 ao16 (M.np n) (List.replicate (M.np n) 0)]) (r := []) h (by kernel_rfl) (A.pn [0, 4, 2, 5, 1, 3])
    exact ⟨g17, trivial, rfl, o1, a1, A.Has.one ⟨R.Wf.new (M.np_le n) _, _, R.new_f hq⟩, hc, hg⟩
   refine E.C.skip (E.To.code (E.sr (E.op (E.pt g17) (E.op (E.pt g17) (E.To.code (E.C.ret (E.bd Tryz.f64 [E.pt g17] ?_)))))))
   intro w h
   obtain rfl : coh = true := by simpa using hc18
   obtain ⟨o1, a1, hq, hc, hg⟩ := A.done (q := [A.blk g17 ([.slice ao15 (256 * (M.np n)) (256 * (M.np n)), .slice none 0 0, .slice ao14 (256 * (M.np n)) (256 * (M.np n)), .slice none 0 0, .slice ao16 (M.np n) (M.np n), .bool true]), A.vec .u8 ao15 (256 * (M.np n)) (List.replicate (256 * (M.np n)) 0), A.vec .u8 ao14 (256 * (M.np n)) (List.replicate (256 * (M.np n)) 0), A.vec .i64 ao16 (M.np n) (List.replicate (M.np n) 0)]) (r := []) h (by kernel_rfl) (A.pn [0, 2, 3, 1])
   exact ⟨g17, trivial, rfl, o1, a1, A.Has.one ⟨R.Wf.new (M.np_le n) _, _, R.new_t hq⟩, hc, hg⟩
  refine A.G.make (e := 3) (kd := .i64) (lk := .i64) (M.np n) 8 (by kernel_rfl) (by kernel_rfl) (by kernel_rfl) (by have := M.np_le n; omega) (by have := M.np_le n; omega) (by kernel_rfl) (fun ao21 => E.H.back (fun w h => trivial) (E.al 2 rfl (A.G.make (e := 5) (kd := .u8) (lk := .i64) (256 * (M.np n)) 1 (by kernel_rfl) (by kernel_rfl) (by kernel_rfl) (by have := M.np_le n; omega) (by have := M.np_le n; omega) (by kernel_rfl) (fun ao22 => E.H.back (fun w h => trivial) (E.tj 9 (.agg #[.slice ao22 (256 * (M.np n)) (256 * (M.np n)), .slice none 0 0, .slice ao14 (256 * (M.np n)) (256 * (M.np n)), .slice none 0 0, .slice ao21 (M.np n) (M.np n), .bool coh]) rfl (fun w h => trivial) (fun w h => E.run_build #[.slice ao22 (256 * (M.np n)) (256 * (M.np n)), .slice none 0 0, .slice ao14 (256 * (M.np n)) (256 * (M.np n)), .slice none 0 0, .slice ao21 (M.np n) (M.np n), .bool coh] (by kernel_rfl) w) (E.al 10 rfl (E.G.new (fun g => E.pt g) [.slice ao22 (256 * (M.np n)) (256 * (M.np n)), .slice none 0 0, .slice ao14 (256 * (M.np n)) (256 * (M.np n)), .slice none 0 0, .slice ao21 (M.np n) (M.np n), .bool coh] 45 (fun w => by kernel_rfl) (by kernel_rfl) (fun g23 => E.H.back (fun w h => trivial) (E.tk 11 (E.pt g23) rfl (fun w h => trivial) (E.H.done (by kernel_rfl) (E.To.code ?_)))))))))))
  refine E.wk [(1, .bool coh), (4, .pointer none), (5, E.i ((M.np n : Nat) : Int)), (6, E.pt g23)] [(g23, [.slice ao22 (256 * (M.np n)) (256 * (M.np n)), .slice none 0 0, .slice ao14 (256 * (M.np n)) (256 * (M.np n)), .slice none 0 0, .slice ao21 (M.np n) (M.np n), .bool coh])] Nz.sub (E.C.seq (E.sr (E.op (.bool coh) (E.op (.bool (!coh)) (E.To.code (E.cd (!coh) (fun hc24 => ?_) (fun hc24 => ?_)))))))
  ·
   refine E.sr (E.op (E.pt g23) (E.op (E.i ((M.np n : Nat) : Int)) (E.vl (E.i ((256 * (M.np n) : Nat) : Int)) (fun w h => E.run_as (a := E.i (IntKind.wrap .i64 (256 * ((M.np n : Nat) : Int)))) (by kernel_rfl) (congrArg (Value.int .i64) (by exact Nz.mul64 (x := 256) (y := (M.np n)) (by have := M.np_le n; omega)))) (A.G.make (e := 5) (kd := .u8) (lk := .i64) (256 * (M.np n)) 1 (by kernel_rfl) (by kernel_rfl) (by kernel_rfl) (by have := M.np_le n; omega) (by have := M.np_le n; omega) (by kernel_rfl) (fun ao25 => E.op (E.pt g23) (E.op (.pointer (some ⟨g23, 1, none⟩)) (E.st 0 [.slice ao22 (256 * (M.np n)) (256 * (M.np n)), .slice ao25 (256 * (M.np n)) (256 * (M.np n)), .slice ao14 (256 * (M.np n)) (256 * (M.np n)), .slice none 0 0, .slice ao21 (M.np n) (M.np n), .bool coh] rfl rfl (E.To.code (E.wk [(4, .pointer none), (5, E.i ((M.np n : Nat) : Int)), (6, E.pt g23)] [(g23, [.slice ao22 (256 * (M.np n)) (256 * (M.np n)), .slice ao25 (256 * (M.np n)) (256 * (M.np n)), .slice ao14 (256 * (M.np n)) (256 * (M.np n)), .slice none 0 0, .slice ao21 (M.np n) (M.np n), .bool coh])] Nz.sub (E.C.region (E.op (E.pt g23) ?_)))))))))))
   refine E.op (E.i ((M.np n : Nat) : Int)) (E.vl (E.i ((256 * (M.np n) : Nat) : Int)) (fun w h => E.run_as (a := E.i (IntKind.wrap .i64 (256 * ((M.np n : Nat) : Int)))) (by kernel_rfl) (congrArg (Value.int .i64) (by exact Nz.mul64 (x := 256) (y := (M.np n)) (by have := M.np_le n; omega)))) (A.G.make (e := 5) (kd := .u8) (lk := .i64) (256 * (M.np n)) 1 (by kernel_rfl) (by kernel_rfl) (by kernel_rfl) (by have := M.np_le n; omega) (by have := M.np_le n; omega) (by kernel_rfl) (fun ao26 => E.op (E.pt g23) (E.op (.pointer (some ⟨g23, 3, none⟩)) (E.st 0 [.slice ao22 (256 * (M.np n)) (256 * (M.np n)), .slice ao25 (256 * (M.np n)) (256 * (M.np n)), .slice ao14 (256 * (M.np n)) (256 * (M.np n)), .slice ao26 (256 * (M.np n)) (256 * (M.np n)), .slice ao21 (M.np n) (M.np n), .bool coh] rfl rfl (E.tr (E.op (E.pt g23) (E.op (E.pt g23) (E.To.code (E.wk [(4, E.pt g23)] [(g23, [.slice ao22 (256 * (M.np n)) (256 * (M.np n)), .slice ao25 (256 * (M.np n)) (256 * (M.np n)), .slice ao14 (256 * (M.np n)) (256 * (M.np n)), .slice ao26 (256 * (M.np n)) (256 * (M.np n)), .slice ao21 (M.np n) (M.np n), .bool coh])] Nz.sub (E.C.ret (E.bd Tryz.f64 [E.pt g23] ?_))))))))))))
   intro w h
   obtain rfl : coh = false := by simpa using hc24
   obtain ⟨o1, a1, hq, hc, hg⟩ := A.done (q := [A.blk g23 ([.slice ao22 (256 * (M.np n)) (256 * (M.np n)), .slice ao25 (256 * (M.np n)) (256 * (M.np n)), .slice ao14 (256 * (M.np n)) (256 * (M.np n)), .slice ao26 (256 * (M.np n)) (256 * (M.np n)), .slice ao21 (M.np n) (M.np n), .bool false]), A.vec .u8 ao22 (256 * (M.np n)) (List.replicate (256 * (M.np n)) 0), A.vec .u8 ao25 (256 * (M.np n)) (List.replicate (256 * (M.np n)) 0), A.vec .u8 ao14 (256 * (M.np n)) (List.replicate (256 * (M.np n)) 0), A.vec .u8 ao26 (256 * (M.np n)) (List.replicate (256 * (M.np n)) 0), A.vec .i64 ao21 (M.np n) (List.replicate (M.np n) 0)]) (r := []) h (by kernel_rfl) (A.pn [0, 3, 2, 5, 1, 4])
   exact ⟨g23, trivial, rfl, o1, a1, A.Has.one ⟨R.Wf.new (M.np_le n) _, _, R.new_f hq⟩, hc, hg⟩
  refine E.C.skip (E.To.code (E.sr (E.op (E.pt g23) (E.op (E.pt g23) (E.To.code (E.C.ret (E.bd Tryz.f64 [E.pt g23] ?_)))))))
  intro w h
  obtain rfl : coh = true := by simpa using hc24
  obtain ⟨o1, a1, hq, hc, hg⟩ := A.done (q := [A.blk g23 ([.slice ao22 (256 * (M.np n)) (256 * (M.np n)), .slice none 0 0, .slice ao14 (256 * (M.np n)) (256 * (M.np n)), .slice none 0 0, .slice ao21 (M.np n) (M.np n), .bool true]), A.vec .u8 ao22 (256 * (M.np n)) (List.replicate (256 * (M.np n)) 0), A.vec .u8 ao14 (256 * (M.np n)) (List.replicate (256 * (M.np n)) 0), A.vec .i64 ao21 (M.np n) (List.replicate (M.np n) 0)]) (r := []) h (by kernel_rfl) (A.pn [0, 1, 3, 2])
  exact ⟨g23, trivial, rfl, o1, a1, A.Has.one ⟨R.Wf.new (M.np_le n) _, _, R.new_t hq⟩, hc, hg⟩
 refine A.G.make (e := 3) (kd := .i64) (lk := .i64) (M.np n) 8 (by kernel_rfl) (by kernel_rfl) (by kernel_rfl) (by have := M.np_le n; omega) (by have := M.np_le n; omega) (by kernel_rfl) (fun ao27 => E.H.back (fun w h => trivial) (E.al2 2 5 rfl rfl ?_ ?_))
 ·
  refine A.G.make (e := 5) (kd := .u8) (lk := .i64) (256 * (M.np n)) 1 (by kernel_rfl) (by kernel_rfl) (by kernel_rfl) (by have := M.np_le n; omega) (by have := M.np_le n; omega) (by kernel_rfl) (fun ao28 => E.H.back (fun w h => trivial) (E.al 5 rfl (A.G.make (e := 5) (kd := .u8) (lk := .i64) (256 * (M.np n)) 1 (by kernel_rfl) (by kernel_rfl) (by kernel_rfl) (by have := M.np_le n; omega) (by have := M.np_le n; omega) (by kernel_rfl) (fun ao29 => E.H.back (fun w h => trivial) (E.tj 9 (.agg #[.slice ao28 (256 * (M.np n)) (256 * (M.np n)), .slice none 0 0, .slice ao29 (256 * (M.np n)) (256 * (M.np n)), .slice none 0 0, .slice ao27 (M.np n) (M.np n), .bool coh]) rfl (fun w h => trivial) (fun w h => E.run_build #[.slice ao28 (256 * (M.np n)) (256 * (M.np n)), .slice none 0 0, .slice ao29 (256 * (M.np n)) (256 * (M.np n)), .slice none 0 0, .slice ao27 (M.np n) (M.np n), .bool coh] (by kernel_rfl) w) (E.al 10 rfl (E.G.new (fun g => E.pt g) [.slice ao28 (256 * (M.np n)) (256 * (M.np n)), .slice none 0 0, .slice ao29 (256 * (M.np n)) (256 * (M.np n)), .slice none 0 0, .slice ao27 (M.np n) (M.np n), .bool coh] 45 (fun w => by kernel_rfl) (by kernel_rfl) (fun g30 => E.H.back (fun w h => trivial) (E.tk 11 (E.pt g30) rfl (fun w h => trivial) (E.H.done (by kernel_rfl) (E.To.code ?_)))))))))))
  refine E.wk [(1, .bool coh), (4, .pointer none), (5, E.i ((M.np n : Nat) : Int)), (6, E.pt g30)] [(g30, [.slice ao28 (256 * (M.np n)) (256 * (M.np n)), .slice none 0 0, .slice ao29 (256 * (M.np n)) (256 * (M.np n)), .slice none 0 0, .slice ao27 (M.np n) (M.np n), .bool coh])] Nz.sub (E.C.seq (E.sr (E.op (.bool coh) (E.op (.bool (!coh)) (E.To.code (E.cd (!coh) (fun hc31 => ?_) (fun hc31 => ?_)))))))
  ·
   refine E.sr (E.op (E.pt g30) (E.op (E.i ((M.np n : Nat) : Int)) (E.vl (E.i ((256 * (M.np n) : Nat) : Int)) (fun w h => E.run_as (a := E.i (IntKind.wrap .i64 (256 * ((M.np n : Nat) : Int)))) (by kernel_rfl) (congrArg (Value.int .i64) (by exact Nz.mul64 (x := 256) (y := (M.np n)) (by have := M.np_le n; omega)))) (A.G.make (e := 5) (kd := .u8) (lk := .i64) (256 * (M.np n)) 1 (by kernel_rfl) (by kernel_rfl) (by kernel_rfl) (by have := M.np_le n; omega) (by have := M.np_le n; omega) (by kernel_rfl) (fun ao32 => E.op (E.pt g30) (E.op (.pointer (some ⟨g30, 1, none⟩)) (E.st 0 [.slice ao28 (256 * (M.np n)) (256 * (M.np n)), .slice ao32 (256 * (M.np n)) (256 * (M.np n)), .slice ao29 (256 * (M.np n)) (256 * (M.np n)), .slice none 0 0, .slice ao27 (M.np n) (M.np n), .bool coh] rfl rfl (E.To.code (E.wk [(4, .pointer none), (5, E.i ((M.np n : Nat) : Int)), (6, E.pt g30)] [(g30, [.slice ao28 (256 * (M.np n)) (256 * (M.np n)), .slice ao32 (256 * (M.np n)) (256 * (M.np n)), .slice ao29 (256 * (M.np n)) (256 * (M.np n)), .slice none 0 0, .slice ao27 (M.np n) (M.np n), .bool coh])] Nz.sub (E.C.region (E.op (E.pt g30) ?_)))))))))))
   refine E.op (E.i ((M.np n : Nat) : Int)) (E.vl (E.i ((256 * (M.np n) : Nat) : Int)) (fun w h => E.run_as (a := E.i (IntKind.wrap .i64 (256 * ((M.np n : Nat) : Int)))) (by kernel_rfl) (congrArg (Value.int .i64) (by exact Nz.mul64 (x := 256) (y := (M.np n)) (by have := M.np_le n; omega)))) (A.G.make (e := 5) (kd := .u8) (lk := .i64) (256 * (M.np n)) 1 (by kernel_rfl) (by kernel_rfl) (by kernel_rfl) (by have := M.np_le n; omega) (by have := M.np_le n; omega) (by kernel_rfl) (fun ao33 => E.op (E.pt g30) (E.op (.pointer (some ⟨g30, 3, none⟩)) (E.st 0 [.slice ao28 (256 * (M.np n)) (256 * (M.np n)), .slice ao32 (256 * (M.np n)) (256 * (M.np n)), .slice ao29 (256 * (M.np n)) (256 * (M.np n)), .slice ao33 (256 * (M.np n)) (256 * (M.np n)), .slice ao27 (M.np n) (M.np n), .bool coh] rfl rfl (E.tr (E.op (E.pt g30) (E.op (E.pt g30) (E.To.code (E.wk [(4, E.pt g30)] [(g30, [.slice ao28 (256 * (M.np n)) (256 * (M.np n)), .slice ao32 (256 * (M.np n)) (256 * (M.np n)), .slice ao29 (256 * (M.np n)) (256 * (M.np n)), .slice ao33 (256 * (M.np n)) (256 * (M.np n)), .slice ao27 (M.np n) (M.np n), .bool coh])] Nz.sub (E.C.ret (E.bd Tryz.f64 [E.pt g30] ?_))))))))))))
   intro w h
   obtain rfl : coh = false := by simpa using hc31
   obtain ⟨o1, a1, hq, hc, hg⟩ := A.done (q := [A.blk g30 ([.slice ao28 (256 * (M.np n)) (256 * (M.np n)), .slice ao32 (256 * (M.np n)) (256 * (M.np n)), .slice ao29 (256 * (M.np n)) (256 * (M.np n)), .slice ao33 (256 * (M.np n)) (256 * (M.np n)), .slice ao27 (M.np n) (M.np n), .bool false]), A.vec .u8 ao28 (256 * (M.np n)) (List.replicate (256 * (M.np n)) 0), A.vec .u8 ao32 (256 * (M.np n)) (List.replicate (256 * (M.np n)) 0), A.vec .u8 ao29 (256 * (M.np n)) (List.replicate (256 * (M.np n)) 0), A.vec .u8 ao33 (256 * (M.np n)) (List.replicate (256 * (M.np n)) 0), A.vec .i64 ao27 (M.np n) (List.replicate (M.np n) 0)]) (r := []) h (by kernel_rfl) (A.pn [0, 4, 2, 3, 1, 5])
   exact ⟨g30, trivial, rfl, o1, a1, A.Has.one ⟨R.Wf.new (M.np_le n) _, _, R.new_f hq⟩, hc, hg⟩
  refine E.C.skip (E.To.code (E.sr (E.op (E.pt g30) (E.op (E.pt g30) (E.To.code (E.C.ret (E.bd Tryz.f64 [E.pt g30] ?_)))))))
  intro w h
  obtain rfl : coh = true := by simpa using hc31
  obtain ⟨o1, a1, hq, hc, hg⟩ := A.done (q := [A.blk g30 ([.slice ao28 (256 * (M.np n)) (256 * (M.np n)), .slice none 0 0, .slice ao29 (256 * (M.np n)) (256 * (M.np n)), .slice none 0 0, .slice ao27 (M.np n) (M.np n), .bool true]), A.vec .u8 ao28 (256 * (M.np n)) (List.replicate (256 * (M.np n)) 0), A.vec .u8 ao29 (256 * (M.np n)) (List.replicate (256 * (M.np n)) 0), A.vec .i64 ao27 (M.np n) (List.replicate (M.np n) 0)]) (r := []) h (by kernel_rfl) (A.pn [0, 2, 1, 3])
  exact ⟨g30, trivial, rfl, o1, a1, A.Has.one ⟨R.Wf.new (M.np_le n) _, _, R.new_t hq⟩, hc, hg⟩
 refine A.G.make (e := 5) (kd := .u8) (lk := .i64) (256 * (M.np n)) 1 (by kernel_rfl) (by kernel_rfl) (by kernel_rfl) (by have := M.np_le n; omega) (by have := M.np_le n; omega) (by kernel_rfl) (fun ao34 => E.H.back (fun w h => trivial) (E.al 2 rfl (A.G.make (e := 5) (kd := .u8) (lk := .i64) (256 * (M.np n)) 1 (by kernel_rfl) (by kernel_rfl) (by kernel_rfl) (by have := M.np_le n; omega) (by have := M.np_le n; omega) (by kernel_rfl) (fun ao35 => E.H.back (fun w h => trivial) (E.tj 9 (.agg #[.slice ao35 (256 * (M.np n)) (256 * (M.np n)), .slice none 0 0, .slice ao34 (256 * (M.np n)) (256 * (M.np n)), .slice none 0 0, .slice ao27 (M.np n) (M.np n), .bool coh]) rfl (fun w h => trivial) (fun w h => E.run_build #[.slice ao35 (256 * (M.np n)) (256 * (M.np n)), .slice none 0 0, .slice ao34 (256 * (M.np n)) (256 * (M.np n)), .slice none 0 0, .slice ao27 (M.np n) (M.np n), .bool coh] (by kernel_rfl) w) (E.al 10 rfl (E.G.new (fun g => E.pt g) [.slice ao35 (256 * (M.np n)) (256 * (M.np n)), .slice none 0 0, .slice ao34 (256 * (M.np n)) (256 * (M.np n)), .slice none 0 0, .slice ao27 (M.np n) (M.np n), .bool coh] 45 (fun w => by kernel_rfl) (by kernel_rfl) (fun g36 => E.H.back (fun w h => trivial) (E.tk 11 (E.pt g36) rfl (fun w h => trivial) (E.H.done (by kernel_rfl) (E.To.code ?_)))))))))))
 refine E.wk [(1, .bool coh), (4, .pointer none), (5, E.i ((M.np n : Nat) : Int)), (6, E.pt g36)] [(g36, [.slice ao35 (256 * (M.np n)) (256 * (M.np n)), .slice none 0 0, .slice ao34 (256 * (M.np n)) (256 * (M.np n)), .slice none 0 0, .slice ao27 (M.np n) (M.np n), .bool coh])] Nz.sub (E.C.seq (E.sr (E.op (.bool coh) (E.op (.bool (!coh)) (E.To.code (E.cd (!coh) (fun hc37 => ?_) (fun hc37 => ?_)))))))
 ·
  refine E.sr (E.op (E.pt g36) (E.op (E.i ((M.np n : Nat) : Int)) (E.vl (E.i ((256 * (M.np n) : Nat) : Int)) (fun w h => E.run_as (a := E.i (IntKind.wrap .i64 (256 * ((M.np n : Nat) : Int)))) (by kernel_rfl) (congrArg (Value.int .i64) (by exact Nz.mul64 (x := 256) (y := (M.np n)) (by have := M.np_le n; omega)))) (A.G.make (e := 5) (kd := .u8) (lk := .i64) (256 * (M.np n)) 1 (by kernel_rfl) (by kernel_rfl) (by kernel_rfl) (by have := M.np_le n; omega) (by have := M.np_le n; omega) (by kernel_rfl) (fun ao38 => E.op (E.pt g36) (E.op (.pointer (some ⟨g36, 1, none⟩)) (E.st 0 [.slice ao35 (256 * (M.np n)) (256 * (M.np n)), .slice ao38 (256 * (M.np n)) (256 * (M.np n)), .slice ao34 (256 * (M.np n)) (256 * (M.np n)), .slice none 0 0, .slice ao27 (M.np n) (M.np n), .bool coh] rfl rfl (E.To.code (E.wk [(4, .pointer none), (5, E.i ((M.np n : Nat) : Int)), (6, E.pt g36)] [(g36, [.slice ao35 (256 * (M.np n)) (256 * (M.np n)), .slice ao38 (256 * (M.np n)) (256 * (M.np n)), .slice ao34 (256 * (M.np n)) (256 * (M.np n)), .slice none 0 0, .slice ao27 (M.np n) (M.np n), .bool coh])] Nz.sub (E.C.region (E.op (E.pt g36) ?_)))))))))))
  refine E.op (E.i ((M.np n : Nat) : Int)) (E.vl (E.i ((256 * (M.np n) : Nat) : Int)) (fun w h => E.run_as (a := E.i (IntKind.wrap .i64 (256 * ((M.np n : Nat) : Int)))) (by kernel_rfl) (congrArg (Value.int .i64) (by exact Nz.mul64 (x := 256) (y := (M.np n)) (by have := M.np_le n; omega)))) (A.G.make (e := 5) (kd := .u8) (lk := .i64) (256 * (M.np n)) 1 (by kernel_rfl) (by kernel_rfl) (by kernel_rfl) (by have := M.np_le n; omega) (by have := M.np_le n; omega) (by kernel_rfl) (fun ao39 => E.op (E.pt g36) (E.op (.pointer (some ⟨g36, 3, none⟩)) (E.st 0 [.slice ao35 (256 * (M.np n)) (256 * (M.np n)), .slice ao38 (256 * (M.np n)) (256 * (M.np n)), .slice ao34 (256 * (M.np n)) (256 * (M.np n)), .slice ao39 (256 * (M.np n)) (256 * (M.np n)), .slice ao27 (M.np n) (M.np n), .bool coh] rfl rfl (E.tr (E.op (E.pt g36) (E.op (E.pt g36) (E.To.code (E.wk [(4, E.pt g36)] [(g36, [.slice ao35 (256 * (M.np n)) (256 * (M.np n)), .slice ao38 (256 * (M.np n)) (256 * (M.np n)), .slice ao34 (256 * (M.np n)) (256 * (M.np n)), .slice ao39 (256 * (M.np n)) (256 * (M.np n)), .slice ao27 (M.np n) (M.np n), .bool coh])] Nz.sub (E.C.ret (E.bd Tryz.f64 [E.pt g36] ?_))))))))))))
  intro w h
  obtain rfl : coh = false := by simpa using hc37
  obtain ⟨o1, a1, hq, hc, hg⟩ := A.done (q := [A.blk g36 ([.slice ao35 (256 * (M.np n)) (256 * (M.np n)), .slice ao38 (256 * (M.np n)) (256 * (M.np n)), .slice ao34 (256 * (M.np n)) (256 * (M.np n)), .slice ao39 (256 * (M.np n)) (256 * (M.np n)), .slice ao27 (M.np n) (M.np n), .bool false]), A.vec .u8 ao35 (256 * (M.np n)) (List.replicate (256 * (M.np n)) 0), A.vec .u8 ao38 (256 * (M.np n)) (List.replicate (256 * (M.np n)) 0), A.vec .u8 ao34 (256 * (M.np n)) (List.replicate (256 * (M.np n)) 0), A.vec .u8 ao39 (256 * (M.np n)) (List.replicate (256 * (M.np n)) 0), A.vec .i64 ao27 (M.np n) (List.replicate (M.np n) 0)]) (r := []) h (by kernel_rfl) (A.pn [0, 3, 2, 4, 1, 5])
  exact ⟨g36, trivial, rfl, o1, a1, A.Has.one ⟨R.Wf.new (M.np_le n) _, _, R.new_f hq⟩, hc, hg⟩
 refine E.C.skip (E.To.code (E.sr (E.op (E.pt g36) (E.op (E.pt g36) (E.To.code (E.C.ret (E.bd Tryz.f64 [E.pt g36] ?_)))))))
 intro w h
 obtain rfl : coh = true := by simpa using hc37
 obtain ⟨o1, a1, hq, hc, hg⟩ := A.done (q := [A.blk g36 ([.slice ao35 (256 * (M.np n)) (256 * (M.np n)), .slice none 0 0, .slice ao34 (256 * (M.np n)) (256 * (M.np n)), .slice none 0 0, .slice ao27 (M.np n) (M.np n), .bool true]), A.vec .u8 ao35 (256 * (M.np n)) (List.replicate (256 * (M.np n)) 0), A.vec .u8 ao34 (256 * (M.np n)) (List.replicate (256 * (M.np n)) 0), A.vec .i64 ao27 (M.np n) (List.replicate (M.np n) 0)]) (r := []) h (by kernel_rfl) (A.pn [0, 1, 2, 3])
 exact ⟨g36, trivial, rfl, o1, a1, A.Has.one ⟨R.Wf.new (M.np_le n) _, _, R.new_t hq⟩, hc, hg⟩
theorem A.C.add0 {P : Program} {n : Nat} {Q : Exit → Act → World → Prop} {w0 : World} {o0 a0 : Nat → Prop} {its : List A.It} {L : List (Nat × List Value)} {fr : E.Fr} {c : Code} (kd : IntKind) (ao : Option Addr) (k : E.C P n Q c fr o0 w0 (A.X w0 o0 a0 (A.vec kd ao 0 [] :: its)) L) : E.C P n Q c fr o0 w0 (A.X w0 o0 a0 its) L :=
  fun a w h1 h2 => k a w h1 (A.X.imp h2 fun w o a hh => A.vec0 kd ao hh)

end Go.Proofs.YtgbndbljohpnmaaGreat
namespace Go.Proofs.YtgbndbljohpnmaaGreat
set_option linter.unusedVariables false
set_option linter.unusedSimpArgs false
open Go.RowKit
theorem B_Pages {r : Nat} {V : M.V}  : A.Rd Tryz.prog 11 #[.pointer (some ⟨r, 0, none⟩)] [R.It r V] (.int .i64 ((V.n : Nat) : Int)) := R.rd fun hw s => R_Pages
theorem B_Peek {r : Nat} {V : M.V} (a : Nat) (ha : a < 4294967296) : A.Rd Tryz.prog 20 #[.pointer (some ⟨r, 0, none⟩), .int .u32 ((a : Nat) : Int)] [R.It r V] (.int .u8 (V.peek a)) := R.rd fun hw s => R_Peek a ha
theorem B_Code {r : Nat} {V : M.V} (a : Nat) (ha : a < 4294967296) : A.Rd Tryz.prog 22 #[.pointer (some ⟨r, 0, none⟩), .int .u32 ((a : Nat) : Int)] [R.It r V] (.int .u8 (V.code a)) := R.rd fun hw s => R_Code hw a ha
theorem B_RightsOf {r : Nat} {V : M.V} (n : Int) : A.Rd Tryz.prog 16 #[.pointer (some ⟨r, 0, none⟩), .int .i64 n] [R.It r V] (.int .i64 (V.rt n)) := R.rd fun hw s => R_RightsOf n
theorem B_Page {r : Nat} {V : M.V} (n : Int) : A.Rd Tryz.prog 13 #[.pointer (some ⟨r, 0, none⟩), .int .i64 n] [R.It r V] (.string (V.page n)) := R.rd fun hw s => R_Page hw n
theorem B_Fetch {r : Nat} {V : M.V} (a : Nat) (ha : a < 4294967296) : A.Rd Tryz.prog 76 #[.pointer (some ⟨r, 0, none⟩), .int .u32 ((a : Nat) : Int)] [R.It r V] (.agg #[.int .u32 (V.fetch a).1, .int .u32 (if (V.fetch a).2 then 0 else ((a : Nat) : Int)), .bool (V.fetch a).2]) := R.rd fun hw s => R_Fetch hw a ha
theorem B_Load {r : Nat} {V : M.V} (a : Nat) (ha : a < 4294967296) (n : Int) : A.Rd Tryz.prog 38 #[.pointer (some ⟨r, 0, none⟩), .int .u32 ((a : Nat) : Int), .int .i64 n] [R.It r V] (.agg #[.int .u32 (V.load a n).1, .int .u32 (V.load a n).2.1, .bool (V.load a n).2.2]) := R.rd fun hw s => R_Load hw a ha n
theorem B_Store {r : Nat} {V : M.V} (a : Nat) (ha : a < 4294967296) (n v : Int) (hv : 0 ≤ v ∧ v < 4294967296) : A.Tr Tryz.prog 39 #[.pointer (some ⟨r, 0, none⟩), .int .u32 ((a : Nat) : Int), .int .i64 n, .int .u32 v] [R.It r V] (I := Unit) (fun _ => True) (fun _ => .agg #[.int .u32 0, .int .u32 (V.chk a 2 n).1, .bool (V.chk a 2 n).2]) (fun _ => [R.It r (V.sto a n v)]) := R.wr (fun hw s => R_Store hw a ha n v hv) (fun hw => by unfold M.V.sto; split; exact hw.put _ _ _; exact hw)
theorem B_Sync {r : Nat} {V : M.V} (a : Nat) (ha : a < 4294967296) : A.Tr Tryz.prog 58 #[.pointer (some ⟨r, 0, none⟩), .int .u32 ((a : Nat) : Int)] [R.It r V] (I := Unit) (fun _ => True) (fun _ => .bool (decide (a / 256 < V.n))) (fun _ => [R.It r (V.sync (a / 256))]) := R.wr (fun hw s => R_Sync a ha) (fun hw => hw.sync _)
theorem B_Poke {r : Nat} {V : M.V} (a : Nat) (ha : a < 4294967296) (b : ByteArray) (hb : b.size < 4294967296) : A.Tr Tryz.prog 35 #[.pointer (some ⟨r, 0, none⟩), .int .u32 ((a : Nat) : Int), .string b] [R.It r V] (I := Unit) (fun _ => True) (fun _ => .tuple #[]) (fun _ => [R.It r (V.poke a b b.size)]) := R.wr (fun hw s => R_Poke a ha b hb) (fun hw => hw.poke _ _ _)
theorem B_SetCode {r : Nat} {V : M.V} (n : Int) (b : ByteArray) : A.Tr Tryz.prog 32 #[.pointer (some ⟨r, 0, none⟩), .int .i64 n, .string b] [R.It r V] (I := Unit) (fun _ => True) (fun _ => .tuple #[]) (fun _ => [R.It r (V.setc n b)]) := R.wr (fun hw s => R_SetCode hw n b) (fun hw => hw.setc _ _)
theorem B_Protect {r : Nat} {V : M.V} (n x : Int) : A.Tr Tryz.prog 34 #[.pointer (some ⟨r, 0, none⟩), .int .i64 n, .int .i64 x] [R.It r V] (I := Unit) (fun _ => True) (fun _ => .tuple #[]) (fun _ => [R.It r (V.prot n x)]) := R.wr (fun hw s => R_Protect n x) (fun hw => hw.prot _ _)
/-- What is known of cells that nobody owns. -/
def A.facts (F : Addr → Value → Prop) : A.It where
  t w o a := (∀ ad v, F ad v → w.cell? ad = some v) ∧ (∀ x, ¬ o x) ∧ ∀ x, a x ↔ ∃ ad v, F ad v ∧ ad.block = x
  sub := fun h x hx => (h.2.1 x hx).elim
  lt := fun h x hx => by
    obtain ⟨ad, v, hf, rfl⟩ := (h.2.2 x).1 hx
    exact M.cell_lt (h.1 ad v hf)
  keep := fun {w w' o a} h hk => ⟨fun ad v hf => by
    have hc := h.1 ad v hf
    have hb := hk ad.block ((h.2.2 _).2 ⟨ad, v, hf, rfl⟩)
    rw [World.cell?] at hc ⊢; rw [hb]; exact hc, h.2⟩
  apart := fun {w w2 o a o2 a2 x} h h2 _ hz hx => by
    obtain ⟨ad, v, hf, rfl⟩ := (h.2.2 x).1 hx
    have hc := h2.1 ad v hf
    cases hs : ad.spot with
    | none =>
      have e : ad = ⟨ad.block, ad.off, none⟩ := by cases ad; simp at hs ⊢; exact hs
      rw [e, hz] at hc; cases hc
    | some sp =>
      rw [World.cell?] at hc
      split at hc
      · simp [hs] at hc
      · cases hc
theorem A.facts_has {F : Addr → Value → Prop} {w : World} (h : ∀ ad v, F ad v → w.cell? ad = some v) : A.Has [A.facts F] w (fun _ => False) (fun x => ∃ ad v, F ad v ∧ ad.block = x) :=
  ⟨_, _, fun _ => False, fun _ => False, ⟨h, fun _ h => h, fun _ => Iff.rfl⟩, ⟨fun _ h => h, fun _ h => h⟩, fun _ h => h.elim, fun _ h => h.elim, fun x => by simp, fun x => by simp⟩
theorem A.hpY {w0 w : World} {o0 a0 : Nat → Prop} {its p r : List A.It} {L : List (Nat × List Value)} (h : E.Hp o0 w0 (A.X w0 o0 a0 its) L w) (hne : A.ne L = true) (h1 : (A.bl L ++ its).Perm (p ++ r)) : A.Y p w := by
  obtain ⟨o, a, hh, _⟩ := A.hp_has hne h
  exact A.Y.part ⟨o, a, hh⟩ h1
theorem A.Y.fact {w : World} {its : List A.It} {F : Addr → Value → Prop} {k : Nat} (h : A.Y its w) (hk : its[k]? = some (A.facts F)) {ad : Addr} {v : Value} (hf : F ad v) : w.cell? ad = some v := by
  obtain ⟨o1, a1, hv⟩ := h.get hk
  exact hv.1 ad v hf
end Go.Proofs.YtgbndbljohpnmaaGreat

/- Items that are known at a call. -/
namespace Go.Proofs.YtgbndbljohpnmaaGreat
theorem A.hq {w0 w : World} {o0 a0 : Nat → Prop} {its p : List A.It} {L : List (Nat × List Value)} (s1 s2 : List Nat) (h : E.Hp o0 w0 (A.X w0 o0 a0 its) L w) (hne : A.ne L = true := by kernel_rfl) (hs : (s1 ++ s2).isPerm (List.range (A.bl L ++ its).length) = true := by kernel_rfl) (hp : p = A.pick (A.bl L ++ its) s1 := by kernel_rfl) : A.Y p w := A.hpY h hne (A.pq s1 s2 hs hp)
end Go.Proofs.YtgbndbljohpnmaaGreat
namespace Go.Proofs.YtgbndbljohpnmaaGreat
set_option linter.unusedVariables false
set_option linter.unusedSimpArgs false
open Go.RowKit
/-- The cells of a slice of rows of K integers. -/
def M.rowF (K : Nat) (ad : Addr) (n : Nat) (q : Nat → Nat → Int) : Addr → Value → Prop := fun a v => ∃ i j, i < n ∧ j < K ∧ a = (ad.add (i * K)).add j ∧ v = .int .i64 (q i j)
section
variable {fr : E.Fr} {d : Option Nat} {T : TypeId} {pos : String} {af : Array Edge} {gd : Option (Nat × Bool)} {P : Program} {w : World} {its : List A.It}
theorem A.idxR {t e : TypeId} {x ix : Operand} (ad : Addr) (ao : Option Addr) (len cap esz : Nat) (k : IntKind) (i : Nat) (hao : 0 < len → ao = some ad) (hu : P.underlying t = some (.slice e)) (hs : (P.info? e).map (·.size) = some esz) (hx : E.ev fr x = .slice ao len cap) (hi : E.ev fr ix = .int k ((i : Nat) : Int))
    (h1 : i < len) (w : World) : (execOp (E.ev fr) ⟨d, .indexAddr t x ix, T, pos, af, gd⟩).run P w = .ok (.value (.pointer (some (ad.add (i * esz))))) w := by
  obtain rfl := hao (by omega)
  cases hi0 : P.info? e with
  | none => rw [hi0] at hs; cases hs
  | some ie =>
    rw [hi0] at hs
    simp only [Option.map_some, Option.some.injEq] at hs
    subst hs
    show (do let r ← Instr.indexAt t (E.ev fr x) (E.ev fr ix); pure (Next.value r) : Sem Next).run P w = _
    rw [hx, hi]
    simp [Instr.indexAt, asIntOf, underlying, hu, Instr.sureAddr, sizeOf, typeInfo, hi0, h1]
theorem A.loadRI {t : TypeId} {x : Operand} {K n k i j : Nat} {ad : Addr} {q : Nat → Nat → Int} (h : A.Y its w) (hk : its[k]? = some (A.facts (M.rowF K ad n q))) (hu : P.underlying t = some (.int .i64)) (hx : E.ev fr x = .pointer (some ((ad.add (i * K)).add j))) (hi : i < n) (hj : j < K) :
    (execOp (E.ev fr) ⟨d, .load t x, T, pos, af, gd⟩).run P w = .ok (.value (.int .i64 (q i j))) w := by
  have hc := h.fact hk (ad := (ad.add (i * K)).add j) (v := .int .i64 (q i j)) ⟨i, j, hi, hj, rfl, rfl⟩
  have ha : (isAgg t).run P w = .ok false w := by simp [isAgg, underlying, hu]
  show (do let r ← Instr.loadAt t (E.ev fr x); pure (Next.value r) : Sem Next).run P w = _
  rw [hx]
  simp [Instr.loadAt, Instr.sureAddr, loadVar, ha, Go.load, Sem.run, hc]
theorem A.run_loadB {P : Program} (w : World) (ad : Addr) : ∀ (xs : List Value) (i : Nat) (acc : Array Value), (∀ k v, xs[k]? = some v → w.cell? (ad.add (i + k)) = some v) →
    (loadCellsFrom ad i xs.length acc).run P w = .ok (acc ++ xs.toArray) w
  | [], i, acc, _ => by simp [loadCellsFrom, pure, Sem.run]
  | x :: xs, i, acc, h => by
    have h0 : w.cell? (ad.add i) = some x := h 0 x rfl
    have ih := A.run_loadB (P := P) w ad xs (i + 1) (acc.push x) (fun k v hk => by have := h (k + 1) v (by simpa using hk); rwa [show i + 1 + k = i + (k + 1) by omega])
    show (Sem.bind (Go.load (ad.add i)) fun v => loadCellsFrom ad (i + 1) xs.length (acc.push v)).run P w = _
    simp only [Go.load, Sem.bind, Sem.run, h0]
    rw [ih]
    simp
theorem A.loadR5 {t e : TypeId} {x : Operand} {n k i : Nat} {ad : Addr} {q : Nat → Nat → Int} (h : A.Y its w) (hk : its[k]? = some (A.facts (M.rowF 5 ad n q))) (hu : P.underlying t = some (.array 5 e)) (hs : (P.info? t).map (·.size) = some 5) (hx : E.ev fr x = .pointer (some (ad.add (i * 5)))) (hi : i < n) :
    (execOp (E.ev fr) ⟨d, .load t x, T, pos, af, gd⟩).run P w = .ok (.value (.agg #[.int .i64 (q i 0), .int .i64 (q i 1), .int .i64 (q i 2), .int .i64 (q i 3), .int .i64 (q i 4)])) w := by
  have hl := A.run_loadB (P := P) w (ad.add (i * 5)) [.int .i64 (q i 0), .int .i64 (q i 1), .int .i64 (q i 2), .int .i64 (q i 3), .int .i64 (q i 4)] 0 #[] (fun j v hj => by
    rw [Nat.zero_add]
    match j, hj with
    | 0, hj => exact h.fact hk ⟨i, 0, hi, by decide, rfl, (Option.some.inj hj).symm⟩
    | 1, hj => exact h.fact hk ⟨i, 1, hi, by decide, rfl, (Option.some.inj hj).symm⟩
    | 2, hj => exact h.fact hk ⟨i, 2, hi, by decide, rfl, (Option.some.inj hj).symm⟩
    | 3, hj => exact h.fact hk ⟨i, 3, hi, by decide, rfl, (Option.some.inj hj).symm⟩
    | 4, hj => exact h.fact hk ⟨i, 4, hi, by decide, rfl, (Option.some.inj hj).symm⟩
    | j + 5, hj => cases hj)
  have ha : (isAgg t).run P w = .ok true w := by simp [isAgg, underlying, hu]
  have hz : (sizeOf t).run P w = .ok 5 w := by
    cases hi0 : P.info? t with
    | none => rw [hi0] at hs; cases hs
    | some i => rw [hi0] at hs; simp [sizeOf, typeInfo, hi0]; simpa using hs
  have hl : (loadCellsFrom (ad.add (i * 5)) 0 5 #[]).run P w = .ok (#[] ++ [Value.int .i64 (q i 0), .int .i64 (q i 1), .int .i64 (q i 2), .int .i64 (q i 3), .int .i64 (q i 4)].toArray) w := hl
  show (do let r ← Instr.loadAt t (E.ev fr x); pure (Next.value r) : Sem Next).run P w = _
  rw [hx]
  simp [Instr.loadAt, Instr.sureAddr, loadVar, ha, hz, loadCells, hl]
end
theorem A.none1 {F : Addr → Value → Prop} {w : World} {o a : Nat → Prop} (h : A.Has [A.facts F] w o a) (x : Nat) : ¬ o x := fun hx => by
  obtain ⟨p1, q1, p2, q2, h1, h2, _, _, ho, _⟩ := h
  rcases (ho x).1 hx with k | k
  · exact h1.2.1 x k
  · exact h2.1 x k
end Go.Proofs.YtgbndbljohpnmaaGreat
namespace Go.Proofs.YtgbndbljohpnmaaGreat
set_option linter.unusedVariables false
set_option linter.unusedSimpArgs false
open Go.Joins Go.ChangeShapes Go.WideShapes Go.ChangeAt Go.RowKit Go.Deep
theorem M.row_one {l : List Value} {i : Nat} {v : Value} (h : (l.drop i).take 1 = [v]) : l[i]? = some v := by
  have h1 := congrArg (fun (l : List Value) => l[0]?) h
  simpa using h1
theorem M.arg_rows {H : Type} {enc : TypeId × Value → H} {P : Program} {w : World} {base : Nat} {spare : Nat → Bool} {held : Bool} {r : Reach} {b0 K : Nat} {t e u : TypeId} {v : Value} {d : DataW H} {ps : List MemPlace}
    (ht : P.underlying t = some (.slice e)) (he : P.underlying e = some (.array K u)) (hu : P.underlying u = some (.int .i64)) (hc : P.cellsOf u = 1) (hce : P.cellsOf e = K) (hval : Value.okWide P w r b0 t v) (hd : DataW.Trod enc P w base spare held t v d ps) :
    ∃ ao ad n cap q, v = .slice ao n cap ∧ (0 < n → ao = some ad) ∧ (∀ i j, -9223372036854775808 ≤ q i j ∧ q i j < 9223372036854775808) ∧ ∀ a x, M.rowF K ad n q a x → w.cell? a = some x := by
  obtain ⟨fuel, hf⟩ := hd
  obtain ⟨a, len, cap, rfl⟩ := okWide_slice ht hval
  rcases open_slice ht hf with ⟨hcs, _⟩ | ⟨ad, len', cap', m, n, D, Pl, hcs, hb, hl, hm, hmm, _, hi⟩
  · exact ⟨none, ⟨0, 0, none⟩, 0, 0, fun _ _ => 0, by simpa [Value.cells] using hcs, fun h => absurd h (by omega), fun _ _ => by show (-9223372036854775808 : Int) ≤ 0 ∧ (0 : Int) < 9223372036854775808; decide, fun a x ⟨i, j, hi, _⟩ => absurd hi (by omega)⟩
  · have e1 : (.slice a len cap : Value) = .slice (some ad) len' cap' := by simpa [Value.cells] using hcs
    have key : ∀ i, i < len' → ∃ f : Nat → Int, (∀ j, -9223372036854775808 ≤ f j ∧ f j < 9223372036854775808) ∧ ∀ j, j < K → w.cell? ((ad.add (i * K)).add j) = some (.int .i64 (f j)) := by
      intro i hil
      obtain ⟨cs', hc', ht'⟩ := hi i (by rw [hmm]; split <;> omega)
      rw [hce] at hc'
      obtain ⟨_, hlen, hat⟩ := World.cells?_some hc'
      obtain ⟨xs, mm, _, _, _, hx, hel⟩ := DataW.trod_array he ht'
      have k2 : ∀ j, j < K → ∃ x, (-9223372036854775808 ≤ x ∧ x < 9223372036854775808) ∧ w.cell? ((ad.add (i * K)).add j) = some (.int .i64 x) := by
        intro j hj
        have h0 := hel j hj
        rw [hc, Nat.mul_one, List.getElem?_eq_getElem (by omega)] at h0
        obtain ⟨x, ex, _, wx⟩ := DataW.trod_int hu h0
        have bx := bounds_i64 wx
        refine ⟨x, ⟨bx.1, by have := bx.2; omega⟩, ?_⟩
        rw [hat j hj]
        exact M.row_one ex
      exact ⟨fun j => if h : j < K then (k2 j h).choose else 0, fun j => by
        by_cases h : j < K
        · have := (k2 j h).choose_spec.1
          simp only [h, dif_pos]; exact this
        · simp only [h, dif_neg, not_false_eq_true]; decide, fun j hj => by
        have := (k2 j hj).choose_spec.2
        simp only [hj, dif_pos]; exact this⟩
    refine ⟨some ad, ad, len', cap', fun i => if h : i < len' then (key i h).choose else fun _ => 0, e1, fun _ => rfl, fun i j => ?_, fun a x ⟨i, j, hil, hj, ha, hv⟩ => ?_⟩
    · by_cases h : i < len'
      · have := (key i h).choose_spec.1 j
        simp only [h, dif_pos]; exact this
      · simp only [h, dif_neg, not_false_eq_true]; decide
    · subst ha; subst hv
      have := (key i hil).choose_spec.2 j hj
      simp only [hil, dif_pos]; exact this
end Go.Proofs.YtgbndbljohpnmaaGreat
namespace Go.Proofs.YtgbndbljohpnmaaGreat
set_option linter.unusedVariables false
set_option linter.unusedSimpArgs false
open Go.RowKit
section rules
variable {P : Program} {fr : E.Fr}
variable {T : TypeId} {d : Option Nat} {pos : String} {af : Array Edge} {gd : Option (Nat × Bool)}
/-- A shift to the right by a number that is a letter. -/
theorem E.shrN {t u : TypeId} {x y : Operand} {k k2 : IntKind} (a : Int) (c b : Nat) (hb : k.bits = b) (hx : E.ev fr x = .int k a) (hy : E.ev fr y = .int k2 ((c : Nat) : Int)) (w : World) :
    (execOp (E.ev fr) ⟨d, .binOp .shr t x y u, T, pos, af, gd⟩).run P w = .ok (.value (.int k (Int.fdiv a (2 ^ (min c b))))) w := by
  subst hb
  show (do let r ← (do eqGuard .shr t x y (E.ev fr x) (E.ev fr y); binOp .shr t (E.ev fr x) (E.ev fr y)); pure (Next.value r) : Sem Next).run P w = _
  rw [hx, hy]
  have h : ¬ ((c : Nat) : Int) < 0 := by omega
  simp [eqGuard, binOp, Op.shift, h]
theorem E.shlN {t u : TypeId} {x y : Operand} {k k2 : IntKind} (a : Int) (c b : Nat) (hb : k.bits = b) (hx : E.ev fr x = .int k a) (hy : E.ev fr y = .int k2 ((c : Nat) : Int)) (w : World) :
    (execOp (E.ev fr) ⟨d, .binOp .shl t x y u, T, pos, af, gd⟩).run P w = .ok (.value (.int k (k.wrap (a * 2 ^ (min c b))))) w := by
  subst hb
  show (do let r ← (do eqGuard .shl t x y (E.ev fr x) (E.ev fr y); binOp .shl t (E.ev fr x) (E.ev fr y)); pure (Next.value r) : Sem Next).run P w = _
  rw [hx, hy]
  have h : ¬ ((c : Nat) : Int) < 0 := by omega
  simp [eqGuard, binOp, Op.shift, h]
end rules
/-- A machine's state. -/
structure Q.S where
  pc : Int
  r : Nat → Int
  f : Int
  c : Nat → Int
  st : Int
  du : Int
def Q.S.cells (s : Q.S) : List Value := [.int .u32 s.pc, .int .u32 (s.r 0), .int .u32 (s.r 1), .int .u32 (s.r 2), .int .u32 (s.r 3), .int .u32 (s.r 4), .int .u32 (s.r 5), .int .u32 (s.r 6), .int .u32 (s.r 7), .int .u32 (s.r 8), .int .u32 (s.r 9), .int .u32 (s.r 10), .int .u32 (s.r 11), .int .u32 (s.r 12), .int .u32 (s.r 13), .int .u32 (s.r 14), .int .u32 (s.r 15), .int .u32 s.f, .int .u32 (s.c 0), .int .u32 (s.c 1), .int .u32 (s.c 2), .int .u32 (s.c 3), .int .i64 s.st, .int .i64 s.du]
def Q.S.val (s : Q.S) : Value := .agg #[.int .u32 s.pc, .int .u32 (s.r 0), .int .u32 (s.r 1), .int .u32 (s.r 2), .int .u32 (s.r 3), .int .u32 (s.r 4), .int .u32 (s.r 5), .int .u32 (s.r 6), .int .u32 (s.r 7), .int .u32 (s.r 8), .int .u32 (s.r 9), .int .u32 (s.r 10), .int .u32 (s.r 11), .int .u32 (s.r 12), .int .u32 (s.r 13), .int .u32 (s.r 14), .int .u32 (s.r 15), .int .u32 s.f, .int .u32 (s.c 0), .int .u32 (s.c 1), .int .u32 (s.c 2), .int .u32 (s.c 3), .int .i64 s.st, .int .i64 s.du]
def Q.up (f : Nat → Int) (d : Nat) (v : Int) : Nat → Int := fun k => if k = d then v else f k
theorem Q.ld_r {P : Program} {t : TypeId} {s : Q.S} {D : Nat} (hu : P.underlying t = some (.int .u32)) (h : D < 16) : E.ld P t s.cells (1 + D) = some (.int .u32 (s.r D)) := by
  rw [E.ld_one hu]
  rcases (by omega : D = 0 ∨ D = 1 ∨ D = 2 ∨ D = 3 ∨ D = 4 ∨ D = 5 ∨ D = 6 ∨ D = 7 ∨ D = 8 ∨ D = 9 ∨ D = 10 ∨ D = 11 ∨ D = 12 ∨ D = 13 ∨ D = 14 ∨ D = 15) with rfl | rfl | rfl | rfl | rfl | rfl | rfl | rfl | rfl | rfl | rfl | rfl | rfl | rfl | rfl | rfl <;> rfl
theorem Q.ld_c {P : Program} {t : TypeId} {s : Q.S} {D : Nat} (hu : P.underlying t = some (.int .u32)) (h : D < 4) : E.ld P t s.cells (18 + D) = some (.int .u32 (s.c D)) := by
  rw [E.ld_one hu]
  rcases (by omega : D = 0 ∨ D = 1 ∨ D = 2 ∨ D = 3) with rfl | rfl | rfl | rfl <;> rfl
theorem E.sto_one {P : Program} {t : TypeId} {cs : List Value} {j : Nat} {k : IntKind} {v : Int} (hi : (P.info? t).map (·.size) = some 1) (h : j < cs.length) : E.sto P t cs j (.int k v) = some (cs.set j (.int k v)) := by
  unfold E.sto
  cases hi0 : P.info? t with
  | none => rw [hi0] at hi; cases hi
  | some i =>
    rw [hi0] at hi
    simp only [Option.map_some, Option.some.injEq] at hi
    show (bif Nat.beq 1 i.size && Nat.ble (j + i.size) cs.length && true then some (cs.set j (.int k v)) else none) = _
    rw [hi, show Nat.ble (j + 1) cs.length = true from Nat.ble_eq_true_of_le h]; rfl
theorem Q.sto_r {P : Program} {t : TypeId} {s : Q.S} {D : Nat} {v : Int} (hi : (P.info? t).map (·.size) = some 1) (h : D < 16) : E.sto P t s.cells (1 + D) (.int .u32 v) = some ({ s with r := Q.up s.r D v } : Q.S).cells := by
  rw [E.sto_one hi (by show 1 + D < 24; omega)]
  rcases (by omega : D = 0 ∨ D = 1 ∨ D = 2 ∨ D = 3 ∨ D = 4 ∨ D = 5 ∨ D = 6 ∨ D = 7 ∨ D = 8 ∨ D = 9 ∨ D = 10 ∨ D = 11 ∨ D = 12 ∨ D = 13 ∨ D = 14 ∨ D = 15) with rfl | rfl | rfl | rfl | rfl | rfl | rfl | rfl | rfl | rfl | rfl | rfl | rfl | rfl | rfl | rfl <;> rfl
theorem Q.sto_c {P : Program} {t : TypeId} {s : Q.S} {D : Nat} {v : Int} (hi : (P.info? t).map (·.size) = some 1) (h : D < 4) : E.sto P t s.cells (18 + D) (.int .u32 v) = some ({ s with c := Q.up s.c D v } : Q.S).cells := by
  rw [E.sto_one hi (by show 18 + D < 24; omega)]
  rcases (by omega : D = 0 ∨ D = 1 ∨ D = 2 ∨ D = 3) with rfl | rfl | rfl | rfl <;> rfl
theorem E.idxI {P : Program} {fr : E.Fr} {T : TypeId} {d : Option Nat} {pos : String} {af : Array Edge} {gd : Option (Nat × Bool)} {t e : TypeId} {x ix : Operand} (g j len : Nat) (k : IntKind) (i : Int) (hu : P.underlying t = some (.array len e)) (hs : (P.info? e).map (·.size) = some 1) (hx : E.ev fr x = .pointer (some ⟨g, j, none⟩)) (hi : E.ev fr ix = .int k i)
    (h1 : 0 ≤ i ∧ i < len) (w : World) : (execOp (E.ev fr) ⟨d, .indexAddr t x ix, T, pos, af, gd⟩).run P w = .ok (.value (.pointer (some ⟨g, j + i.toNat, none⟩))) w := by
  have := E.idxA (P := P) (fr := fr) (T := T) (d := d) (pos := pos) (af := af) (gd := gd) g j len 1 k i hu hs hx hi h1.1 (by omega) w
  rwa [Nat.mul_one] at this
theorem Q.up_bd {f : Nat → Int} {d : Nat} {v : Int} (hf : ∀ k, 0 ≤ f k ∧ f k < 4294967296) (hv : 0 ≤ v ∧ v < 4294967296) (k : Nat) : 0 ≤ Q.up f d v k ∧ Q.up f d v k < 4294967296 := by
  unfold Q.up; split
  · exact hv
  · exact hf k
theorem I_Fetch {m : Nat} {V : M.V} {xs : List Value} (x : Int) (hx : 0 ≤ x ∧ x < 4294967296) : A.Rd Tryz.prog 125 #[.pointer (some ⟨m, 0, none⟩), .int .u32 x] [M.It m V xs] (.tuple #[.int .u8 (V.fetch x.toNat).1, .bool (V.fetch x.toNat).2]) := by
  obtain ⟨a, rfl⟩ := Int.eq_ofNat_of_zero_le hx.1
  exact A_Fetch a (by omega)
theorem I_Peek {m : Nat} {V : M.V} {xs : List Value} (x : Int) (hx : 0 ≤ x ∧ x < 4294967296) : A.Rd Tryz.prog 19 #[.pointer (some ⟨m, 0, none⟩), .int .u32 x] [M.It m V xs] (.int .u8 (V.peek x.toNat)) := by
  obtain ⟨a, rfl⟩ := Int.eq_ofNat_of_zero_le hx.1
  exact A_Peek a (by omega)
theorem I_Code {m : Nat} {V : M.V} {xs : List Value} (x : Int) (hx : 0 ≤ x ∧ x < 4294967296) : A.Rd Tryz.prog 21 #[.pointer (some ⟨m, 0, none⟩), .int .u32 x] [M.It m V xs] (.int .u8 (V.code x.toNat)) := by
  obtain ⟨a, rfl⟩ := Int.eq_ofNat_of_zero_le hx.1
  exact A_Code a (by omega)
theorem I_Load {m : Nat} {V : M.V} {xs : List Value} (x : Int) (n : Int) (hx : 0 ≤ x ∧ x < 4294967296) : A.Rd Tryz.prog 126 #[.pointer (some ⟨m, 0, none⟩), .int .u32 x, .int .i64 n] [M.It m V xs] (.tuple #[.int .u32 (V.load x.toNat n).1, .int .u32 (V.load x.toNat n).2.1, .bool (V.load x.toNat n).2.2]) := by
  obtain ⟨a, rfl⟩ := Int.eq_ofNat_of_zero_le hx.1
  exact A_Load a n (by omega)
theorem I_Store {m : Nat} {V : M.V} {xs : List Value} (x : Int) (n v : Int) (hx : 0 ≤ x ∧ x < 4294967296) : A.Tr Tryz.prog 127 #[.pointer (some ⟨m, 0, none⟩), .int .u32 x, .int .i64 n, .int .u32 v] [M.It m V xs] (I := Unit) (fun _ => True) (fun _ => .tuple #[.int .u32 (V.chk x.toNat 2 n).1, .bool (V.chk x.toNat 2 n).2]) (fun _ => [M.It m (V.sto x.toNat n v) xs]) := by
  obtain ⟨a, rfl⟩ := Int.eq_ofNat_of_zero_le hx.1
  exact A_Store a n v (by omega)
theorem I_Sync {m : Nat} {V : M.V} {xs : List Value} (x : Int) (hx : 0 ≤ x ∧ x < 4294967296) : A.Tr Tryz.prog 128 #[.pointer (some ⟨m, 0, none⟩), .int .u32 x] [M.It m V xs] (I := Unit) (fun _ => True) (fun _ => .bool (decide (x.toNat / 256 < V.n))) (fun _ => [M.It m (V.sync (x.toNat / 256)) xs]) := by
  obtain ⟨a, rfl⟩ := Int.eq_ofNat_of_zero_le hx.1
  exact A_Sync a (by omega)
theorem I_Poke {m : Nat} {V : M.V} {xs : List Value} (x : Int) (s : ByteArray) (hx : 0 ≤ x ∧ x < 4294967296) (hs : s.size < 4294967296) : A.Tr Tryz.prog 12 #[.pointer (some ⟨m, 0, none⟩), .int .u32 x, .string s] [M.It m V xs] (I := Unit) (fun _ => True) (fun _ => .tuple #[]) (fun _ => [M.It m (V.poke x.toNat s s.size) xs]) := by
  obtain ⟨a, rfl⟩ := Int.eq_ofNat_of_zero_le hx.1
  exact A_Poke a s (by omega) hs
theorem J_Fetch {m : Nat} {V : M.V} (x : Int) (hx : 0 ≤ x ∧ x < 4294967296) : A.Rd Tryz.prog 76 #[.pointer (some ⟨m, 0, none⟩), .int .u32 x] [R.It m V] (.agg #[.int .u32 (V.fetch x.toNat).1, .int .u32 (if (V.fetch x.toNat).2 then 0 else x), .bool (V.fetch x.toNat).2]) := by
  obtain ⟨a, rfl⟩ := Int.eq_ofNat_of_zero_le hx.1
  exact B_Fetch a (by omega)
theorem J_Peek {m : Nat} {V : M.V} (x : Int) (hx : 0 ≤ x ∧ x < 4294967296) : A.Rd Tryz.prog 20 #[.pointer (some ⟨m, 0, none⟩), .int .u32 x] [R.It m V] (.int .u8 (V.peek x.toNat)) := by
  obtain ⟨a, rfl⟩ := Int.eq_ofNat_of_zero_le hx.1
  exact B_Peek a (by omega)
theorem J_Code {m : Nat} {V : M.V} (x : Int) (hx : 0 ≤ x ∧ x < 4294967296) : A.Rd Tryz.prog 22 #[.pointer (some ⟨m, 0, none⟩), .int .u32 x] [R.It m V] (.int .u8 (V.code x.toNat)) := by
  obtain ⟨a, rfl⟩ := Int.eq_ofNat_of_zero_le hx.1
  exact B_Code a (by omega)
theorem J_Load {m : Nat} {V : M.V} (x : Int) (n : Int) (hx : 0 ≤ x ∧ x < 4294967296) : A.Rd Tryz.prog 38 #[.pointer (some ⟨m, 0, none⟩), .int .u32 x, .int .i64 n] [R.It m V] (.agg #[.int .u32 (V.load x.toNat n).1, .int .u32 (V.load x.toNat n).2.1, .bool (V.load x.toNat n).2.2]) := by
  obtain ⟨a, rfl⟩ := Int.eq_ofNat_of_zero_le hx.1
  exact B_Load a (by omega) n
theorem J_Store {m : Nat} {V : M.V} (x : Int) (n v : Int) (hx : 0 ≤ x ∧ x < 4294967296) (hv : 0 ≤ v ∧ v < 4294967296) : A.Tr Tryz.prog 39 #[.pointer (some ⟨m, 0, none⟩), .int .u32 x, .int .i64 n, .int .u32 v] [R.It m V] (I := Unit) (fun _ => True) (fun _ => .agg #[.int .u32 0, .int .u32 (V.chk x.toNat 2 n).1, .bool (V.chk x.toNat 2 n).2]) (fun _ => [R.It m (V.sto x.toNat n v)]) := by
  obtain ⟨a, rfl⟩ := Int.eq_ofNat_of_zero_le hx.1
  exact B_Store a (by omega) n v hv
theorem J_Sync {m : Nat} {V : M.V} (x : Int) (hx : 0 ≤ x ∧ x < 4294967296) : A.Tr Tryz.prog 58 #[.pointer (some ⟨m, 0, none⟩), .int .u32 x] [R.It m V] (I := Unit) (fun _ => True) (fun _ => .bool (decide (x.toNat / 256 < V.n))) (fun _ => [R.It m (V.sync (x.toNat / 256))]) := by
  obtain ⟨a, rfl⟩ := Int.eq_ofNat_of_zero_le hx.1
  exact B_Sync a (by omega)
theorem J_Poke {m : Nat} {V : M.V} (x : Int) (s : ByteArray) (hx : 0 ≤ x ∧ x < 4294967296) (hs : s.size < 4294967296) : A.Tr Tryz.prog 35 #[.pointer (some ⟨m, 0, none⟩), .int .u32 x, .string s] [R.It m V] (I := Unit) (fun _ => True) (fun _ => .tuple #[]) (fun _ => [R.It m (V.poke x.toNat s s.size)]) := by
  obtain ⟨a, rfl⟩ := Int.eq_ofNat_of_zero_le hx.1
  exact B_Poke a (by omega) s hs
def M.hdr (b : M.Obj) : List Value := [.slice b.ao b.sl.length b.cap, .bool b.coh]
/-- The blocks of a memory but its header. -/
def M.bdy (b : M.Obj) (x : Nat) : Prop := (0 < b.sl.length ∧ x = b.b) ∨ M.Pg b.sl x
theorem M.ow_bdy {b : M.Obj} {x : Nat} (h : M.ow b x) : M.bdy b x := by
  rcases h with h | ⟨i, hi, _, rfl⟩ | ⟨i, hi, _, hc⟩
  · exact .inl h
  · exact .inr (M.pg_d hi)
  · exact .inr (M.pg_c hi hc)
/-- A memory but its header. -/
structure M.BdP (b : M.Obj) (V : M.V) (w : World) : Prop where
  ha : 0 < b.sl.length → b.ao = some ⟨b.b, 0, none⟩
  cs : ∀ i v, (M.cells b.sl)[i]? = some v → w.cell? ⟨b.b, i, none⟩ = some v
  pg : ∀ p, M.Pg b.sl p → ∀ i, i < 256 → w.cell? ⟨p, i, none⟩ = some (.int .u8 (b.C p i))
  lt : b.sl.length ≤ 4096
  pm : ∀ p, M.Pg b.sl p → p ≠ b.b
  od : ∀ i j, i < b.sl.length → j < b.sl.length → (b.at i).od = true → ((b.at j).d = (b.at i).d → j = i) ∧ (b.at j).c ≠ some (b.at i).d ∧ (b.at j).cd ≠ (b.at i).d ∧ (b.at j).cc ≠ some (b.at i).d
  oc : ∀ i j p, i < b.sl.length → j < b.sl.length → (b.at i).oc = true → (b.at i).c = some p → ((b.at j).c = some p → j = i) ∧ (b.at j).d ≠ p ∧ (b.at j).cd ≠ p ∧ (b.at j).cc ≠ some p
  co : ∀ i, i < b.sl.length → (b.at i).c.isNone = b.coh ∧ (b.at i).cc.isNone = b.coh
  by_ : ∀ p, M.Pg b.sl p → ∀ i, i < 256 → 0 ≤ b.C p i ∧ b.C p i < 256
  rb : ∀ i, i < b.sl.length → 0 ≤ (b.at i).r ∧ (b.at i).r < 8
  fz : ∀ x, M.bdy b x → ∀ i, w.frozen? ⟨x, i, none⟩ = false
  sh : M.Sh b V
theorem M.cells_pos {l : List M.Slot} {i : Nat} {v : Value} (h : (M.cells l)[i]? = some v) : 0 < l.length := by
  cases l with
  | nil => simp [M.cells] at h
  | cons => simp
def M.Bd (b : M.Obj) (V : M.V) : A.It where
  t w o a := M.BdP b V w ∧ (∀ x, o x ↔ M.ow b x) ∧ ∀ x, a x ↔ M.bdy b x
  sub := fun h x hx => (h.2.2 x).2 (M.ow_bdy ((h.2.1 x).1 hx))
  lt := fun {w o a} h x hx => by
    rcases (h.2.2 x).1 hx with ⟨hn, rfl⟩ | hp
    · obtain ⟨v, hv⟩ : ∃ v, (M.cells b.sl)[0]? = some v := ⟨_, List.getElem?_eq_getElem (by rw [M.cells_len]; omega)⟩
      exact M.cell_lt (h.1.cs 0 v hv)
    · exact M.cell_lt (h.1.pg x hp 0 (by decide))
  keep := fun {w w' o a} h hk => by
    have key : ∀ {p : Addr} {v : Value}, a p.block → w.cell? p = some v → w'.cell? p = some v := fun {p v} hp hv => by
      rw [World.cell?] at hv ⊢; rw [hk _ hp]; exact hv
    exact ⟨⟨h.1.ha, fun i v hv => key ((h.2.2 _).2 (.inl ⟨M.cells_pos hv, rfl⟩)) (h.1.cs i v hv), fun p hp i hi => key ((h.2.2 _).2 (.inr hp)) (h.1.pg p hp i hi), h.1.lt, h.1.pm, h.1.od, h.1.oc, h.1.co, h.1.by_, h.1.rb, fun x hx i => by
      have := h.1.fz x hx i
      rw [World.frozen?] at this ⊢; rw [hk x ((h.2.2 x).2 hx)]; exact this, h.1.sh⟩, h.2⟩
  apart := fun {w w2 o a o2 a2 x} h h2 _ hz hx => by
    rcases (h.2.2 x).1 hx with ⟨hn, rfl⟩ | hp
    · obtain ⟨v, hv⟩ : ∃ v, (M.cells b.sl)[0]? = some v := ⟨_, List.getElem?_eq_getElem (by rw [M.cells_len]; omega)⟩
      have := h2.1.cs 0 v hv; rw [hz] at this; cases this
    · have := h2.1.pg x hp 0 (by decide); rw [hz] at this; cases this
theorem M.It.open_ {m : Nat} {V : M.V} {xs : List Value} {w : World} {o a : Nat → Prop} (h : (M.It m V xs).t w o a) : ∃ b : M.Obj, A.Has [A.blk m (M.hdr b ++ xs), M.Bd b V] w o a := by
  obtain ⟨b, hm, hs, hV, hx, ho, ha⟩ := h
  subst hm
  have hn : ∀ x, M.bdy b x → x ≠ b.m := fun x hx => by
    rcases hx with ⟨hn, rfl⟩ | hp
    · exact (hs.inv.mb hn).symm
    · exact (hs.inv.pm x hp).1
  refine ⟨b, fun x => x = b.m, fun x => x = b.m, fun x => M.ow b x, fun x => M.bdy b x, ⟨fun i v hv => ?_, fun i => hs.fz _ (.inl rfl) i, hs.at_.alive (.inl rfl), fun _ => Iff.rfl, fun _ => Iff.rfl, by unfold M.hdr; simp⟩,
    A.Has.one (it := M.Bd b V) ⟨⟨hs.at_.ha, hs.at_.cs, hs.at_.pg, hs.at_.lt, fun p hp => (hs.inv.pm p hp).2, hs.inv.od, hs.inv.oc, hs.inv.co, hs.inv.by_, hs.inv.rb, fun x hx i => hs.fz x (.inr hx) i, hV⟩, fun _ => Iff.rfl, fun _ => Iff.rfl⟩, fun x hx hk => hn x hk hx, fun x hx hk => hn x (M.ow_bdy hx) hk, ho, ha⟩
  match i, hv with
  | 0, hv => obtain rfl := Option.some.inj hv; exact hs.at_.c0
  | 1, hv => obtain rfl := Option.some.inj hv; exact hs.at_.c1
  | i + 2, hv => have := hx i v hv; rwa [Nat.add_comm] at this
theorem M.It.close_ {m : Nat} {b : M.Obj} {V : M.V} {xs : List Value} {w : World} {o a : Nat → Prop} (h : A.Has [A.blk m (M.hdr b ++ xs), M.Bd b V] w o a) : (M.It m V xs).t w o a := by
  obtain ⟨o1, a1, o2, a2, h1, h2, d1, d2, ho, ha⟩ := h
  obtain ⟨o3, a3, ⟨hB, ho3, ha3⟩, e3, e4⟩ := A.Has.one' h2
  have hn : ¬ M.bdy b m := fun hk => d1 m ((h1.2.2.2.1 m).2 rfl) ((e4 m).1 ((ha3 m).2 hk))
  refine ⟨{ b with m := m }, rfl, ⟨⟨h1.1 0 _ rfl, h1.1 1 _ rfl, hB.ha, hB.cs, hB.pg, hB.lt⟩, ⟨fun hk e => hn (.inl ⟨hk, e⟩), fun p hp => ⟨fun e => hn (.inr (by have e : p = m := e; rw [← e]; exact hp)), hB.pm p hp⟩, hB.od, hB.oc, hB.co, hB.by_, hB.rb⟩, fun x hx i => ?_⟩, ⟨hB.sh.n, hB.sh.coh, hB.sh.d, hB.sh.i, hB.sh.cd, hB.sh.ci, hB.sh.r⟩, fun i v hv => ?_, fun x => ?_, fun x => ?_⟩
  · rcases hx with rfl | hx
    · exact h1.2.1 i
    · exact hB.fz x hx i
  · have := h1.1 (2 + i) v (by rw [List.getElem?_append_right (by unfold M.hdr; simp)]; unfold M.hdr; simpa using hv)
    exact this
  · rw [ho, h1.2.2.2.1]; exact or_congr Iff.rfl ((e3 x).symm.trans (ho3 x))
  · rw [ha, h1.2.2.2.2.1]; exact or_congr Iff.rfl ((e4 x).symm.trans (ha3 x))
theorem A.openHp {w0 w : World} {o0 a0 : Nat → Prop} {its r : List A.It} {L : List (Nat × List Value)} {m : Nat} {V : M.V} {xs : List Value} (L2 : M.Obj → List (Nat × List Value)) (its2 : M.Obj → List A.It) (hne : A.ne L = true) (h1 : (A.bl L ++ its).Perm (M.It m V xs :: r)) (h2 : ∀ b, (A.blk m (M.hdr b ++ xs) :: M.Bd b V :: r).Perm (A.bl (L2 b) ++ its2 b))
    (h : E.Hp o0 w0 (A.X w0 o0 a0 its) L w) : ∃ b, E.Hp o0 w0 (A.X w0 o0 a0 (its2 b)) (L2 b) w := by
  obtain ⟨o, a, hh, hg⟩ := A.hp_has hne h
  obtain ⟨o1, a1, o2, a2, k1, k2, d1, d2, ho, ha⟩ := hh.perm h1
  obtain ⟨b, hb⟩ := M.It.open_ k1
  exact ⟨b, A.has_hp h.x.1 (((hb.join k2 d1 d2).iff ho ha).perm (h2 b)) hg h.ch⟩
theorem A.closeHp {w0 w : World} {o0 a0 : Nat → Prop} {its r its2 : List A.It} {L L2 : List (Nat × List Value)} {m : Nat} {b : M.Obj} {V : M.V} {xs : List Value} (hne : A.ne L = true) (h1 : (A.bl L ++ its).Perm (A.blk m (M.hdr b ++ xs) :: M.Bd b V :: r)) (h2 : (M.It m V xs :: r).Perm (A.bl L2 ++ its2))
    (h : E.Hp o0 w0 (A.X w0 o0 a0 its) L w) : E.Hp o0 w0 (A.X w0 o0 a0 its2) L2 w := by
  obtain ⟨o, a, hh, hg⟩ := A.hp_has hne h
  obtain ⟨o1, a1, o2, a2, k1, k2, d1, d2, ho, ha⟩ := A.Has.append (l := [A.blk m (M.hdr b ++ xs), M.Bd b V]) (m := r) (hh.perm h1)
  have k3 := M.It.close_ k1
  exact A.has_hp h.x.1 (A.Has.perm h2 ⟨o1, a1, o2, a2, k3, k2, d1, d2, ho, ha⟩) hg h.ch
section
variable {P : Program} {n : Nat} {ops : Array Oper} {Q : Exit → Act → World → Prop} {w0 : World} {o0 a0 : Nat → Prop} {its r : List A.It} {L : List (Nat × List Value)} {l : List Oper} {fr : E.Fr} {c : Code} {m : Nat} {V : M.V} {xs : List Value}
theorem A.G.openM (L2 : M.Obj → List (Nat × List Value)) (its2 : M.Obj → List A.It) (r : List A.It) (hne : A.ne L = true) (h1 : (A.bl L ++ its).Perm (M.It m V xs :: r)) (h2 : ∀ b, (A.blk m (M.hdr b ++ xs) :: M.Bd b V :: r).Perm (A.bl (L2 b) ++ its2 b))
    (k : ∀ b, E.G P n ops Q l fr o0 w0 (A.X w0 o0 a0 (its2 b)) (L2 b)) : E.G P n ops Q l fr o0 w0 (A.X w0 o0 a0 its) L := fun a w hs h => by
  obtain ⟨b, hb⟩ := A.openHp L2 its2 hne h1 h2 h
  exact k b a w hs hb
theorem A.G.closeM (L2 : List (Nat × List Value)) (its2 r : List A.It) {b : M.Obj} (hne : A.ne L = true) (h1 : (A.bl L ++ its).Perm (A.blk m (M.hdr b ++ xs) :: M.Bd b V :: r)) (h2 : (M.It m V xs :: r).Perm (A.bl L2 ++ its2))
    (k : E.G P n ops Q l fr o0 w0 (A.X w0 o0 a0 its2) L2) : E.G P n ops Q l fr o0 w0 (A.X w0 o0 a0 its) L := fun a w hs h => k a w hs (A.closeHp hne h1 h2 h)
end
theorem E.ld_run_at {P : Program} {w : World} {g b j : Nat} {cs : List Value} {t : TypeId} {v : Value} (hm : ∀ i v, cs[i]? = some v → w.cell? ⟨g, b + i, none⟩ = some v) (h : E.ld P t cs j = some v) :
    (Instr.loadAt t (.pointer (some ⟨g, b + j, none⟩))).run P w = .ok v w := by
  unfold E.ld at h
  have agg : ∀ i : TypeInfo, P.info? t = some i → (∃ d, P.underlying t = some d ∧ (isAgg t).run P w = .ok true w) → (bif Nat.ble (j + i.size) cs.length then some (.agg ((cs.drop j).take i.size).toArray) else none) = some v → (Instr.loadAt t (.pointer (some ⟨g, b + j, none⟩))).run P w = .ok v w := by
    intro i hi ⟨d, hd, ha⟩ hv
    cases hb : Nat.ble (j + i.size) cs.length with
    | false => rw [hb] at hv; cases hv
    | true =>
      rw [hb] at hv
      simp only [cond_true, Option.some.injEq] at hv
      subst hv
      have hle : j + i.size ≤ cs.length := by simpa using hb
      have hl := E.run_loadFrom (P := P) w g ((cs.drop j).take i.size) (b + j) 0 #[] (fun k v hk => by
        rw [List.getElem?_take] at hk
        split at hk
        · rw [List.getElem?_drop] at hk; have := hm (j + k) v hk; rwa [show b + j + 0 + k = b + (j + k) by omega]
        · cases hk)
      have hlen : ((cs.drop j).take i.size).length = i.size := by simp; omega
      rw [hlen] at hl
      have hs : (sizeOf t).run P w = .ok i.size w := by simp [sizeOf, typeInfo, hi]
      simp [Instr.loadAt, Instr.sureAddr, loadVar, ha, hs, loadCells, hl]
  have one : (isAgg t).run P w = .ok false w → cs[j]? = some v → (Instr.loadAt t (.pointer (some ⟨g, b + j, none⟩))).run P w = .ok v w := by
    intro ha hv
    simp [Instr.loadAt, Instr.sureAddr, loadVar, ha, load, Sem.run, hm j v hv]
  cases hu : P.underlying t with
  | none => rw [hu] at h; cases h
  | some d =>
    rw [hu] at h
    cases d
    case struct fs =>
      cases hi : P.info? t with
      | none => rw [hi] at h; simp only at h; exact absurd hu (by unfold Program.underlying; rw [hi]; simp)
      | some i => rw [hi] at h; exact agg i hi ⟨_, hu, by simp [isAgg, underlying, hu]⟩ h
    case array n e =>
      cases hi : P.info? t with
      | none => rw [hi] at h; simp only at h; exact absurd hu (by unfold Program.underlying; rw [hi]; simp)
      | some i => rw [hi] at h; exact agg i hi ⟨_, hu, by simp [isAgg, underlying, hu]⟩ h
    all_goals exact one (by simp [isAgg, underlying, hu]) h
theorem A.Y.xld {P : Program} {fr : E.Fr} {d : Option Nat} {T t : TypeId} {pos : String} {af : Array Edge} {gd : Option (Nat × Bool)} {its : List A.It} {w : World} {x : Operand} {m j : Nat} {V : M.V} {xs : List Value} {v : Value} {k : Nat} (h : A.Y its w) (hk : its[k]? = some (M.It m V xs)) (hx : E.ev fr x = .pointer (some ⟨m, 2 + j, none⟩)) (hv : E.ld P t xs j = some v) :
    (execOp (E.ev fr) ⟨d, .load t x, T, pos, af, gd⟩).run P w = .ok (.value v) w := by
  obtain ⟨o1, a1, b, hm, hs, hV, hc, _⟩ := h.get hk
  have := E.ld_run_at (P := P) (w := w) (t := t) hc hv
  show (do let r ← Instr.loadAt t (E.ev fr x); pure (Next.value r)).run P w = _
  rw [hx]; simp [this]
theorem alloc_set (w : World) (o o' : Obj) : { heap := (w.alloc o).heap.setIfInBounds w.heap.size o', tape := w.tape, drawn := w.drawn, os := (w.alloc o).os, output := (w.alloc o).output : World } = w.alloc o' := by
  show ({ heap := (w.heap.push o).setIfInBounds w.heap.size o', tape := w.tape, drawn := w.drawn, os := w.os, output := w.output } : World) = { heap := w.heap.push o', tape := w.tape, drawn := w.drawn, os := w.os, output := w.output }
  congr 1
  apply Array.ext_getElem?
  intro i
  simp only [Array.getElem?_setIfInBounds, Array.getElem?_push, Array.size_push]
  by_cases h : w.heap.size = i
  · subst h; simp
  · simp [h, Ne.symm h]
theorem run_mapUpdate_new {P : Program} (w : World) (mt kt et : TypeId) (k : IntKind) (es : Array MapEntry) (clock : Nat) (a : Int) (v : Value)
    (hm : P.underlying mt = some (.map kt et)) (hk : P.underlying kt = some (.int k)) (hn : Instr.findNow (.int k) (.int k a) es.toList 0 = some none) :
    (Instr.mapUpdate mt (.map (some w.heap.size)) (.int k a) v).run P (w.alloc (.map es clock)) = .ok () (w.alloc (.map (es.push ⟨.int k a, v, clock⟩) (clock + 1))) := by
  have hb : (w.alloc (.map es clock)).heap[w.heap.size]? = some (.map es clock) := (MapKept.heap_alloc w _).1
  have hc : (Instr.checkKey false 10000 kt (.int k a)).run P (w.alloc (.map es clock)) = .ok () (w.alloc (.map es clock)) := MapKept.run_checkKey hk (by exact rfl) false 9999
  have hf := MapKept.run_findKey (P := P) (w := w.alloc (.map es clock)) hk (k := .int k a) hn
  unfold Instr.mapUpdate
  simp [run_underlying hm, MapKept.run_getObj_map hb, MapKept.run_setObj_map _ hb, hc, hf, Result.andThen]
  exact alloc_set w _ _
theorem run_lookup_hit {P : Program} (w : World) (mt kt et : TypeId) (k : IntKind) (r : Nat) (es : Array MapEntry) (clock : Nat) (a : Int) (v : Value) (i : Nat)
    (hm : P.underlying mt = some (.map kt et)) (hk : P.underlying kt = some (.int k)) (hb : w.heap[r]? = some (.map es clock)) (hn : Instr.findNow (.int k) (.int k a) es.toList 0 = some (some (i, v))) :
    (Instr.lookup mt (.map (some r)) (.int k a) true).run P w = .ok (.tuple #[v, .bool true]) w := by
  have hc : (Instr.checkKey es.isEmpty 10000 kt (.int k a)).run P w = .ok () w := MapKept.run_checkKey hk (by exact rfl) es.isEmpty 9999
  have hf := MapKept.run_findKey (P := P) (w := w) hk (k := .int k a) hn
  unfold Instr.lookup
  simp [run_underlying hm, MapKept.run_getObj_map hb, hc, hf, Result.andThen]
theorem run_lookup_miss {P : Program} (w : World) (mt kt et : TypeId) (k : IntKind) (r : Nat) (es : Array MapEntry) (clock : Nat) (a : Int) (z : Value)
    (hm : P.underlying mt = some (.map kt et)) (hk : P.underlying kt = some (.int k)) (hz : (zeroValue et).run P w = .ok z w) (hb : w.heap[r]? = some (.map es clock)) (hn : Instr.findNow (.int k) (.int k a) es.toList 0 = some none) :
    (Instr.lookup mt (.map (some r)) (.int k a) true).run P w = .ok (.tuple #[z, .bool false]) w := by
  have hc : (Instr.checkKey es.isEmpty 10000 kt (.int k a)).run P w = .ok () w := MapKept.run_checkKey hk (by exact rfl) es.isEmpty 9999
  have hf := MapKept.run_findKey (P := P) (w := w) hk (k := .int k a) hn
  unfold Instr.lookup
  simp [run_underlying hm, MapKept.run_getObj_map hb, hc, hf, hz, Result.andThen]
/-- The map at g has these entries. -/
def E.Mp (g : Nat) (es : Array MapEntry) (c : Nat) (w : World) : Prop := w.heap[g]? = some (.map es c)
section
variable {P : Program} {n : Nat} {ops : Array Oper} {Q : Exit → Act → World → Prop} {S : Nat → Prop} {w0 : World} {X : World → Prop} {L : List (Nat × List Value)} {l : List Oper} {fr : E.Fr}
variable {T : TypeId} {d : Nat} {pos : String} {af : Array Edge} {gd : Option (Nat × Bool)}
/-- A map under construction, in slot d. -/
def E.M (P : Program) (n : Nat) (ops : Array Oper) (Q : Exit → Act → World → Prop) (l : List Oper) (d : Nat) (fr : E.Fr) (S : Nat → Prop) (w0 : World) (X : World → Prop) (L : List (Nat × List Value)) (es : Array MapEntry) (c : Nat) : Prop :=
  ∀ a w, E.St n ((d, .map (some w.heap.size)) :: fr) a → E.Hp S w0 X L w → wpList P ops Q l a (w.alloc (.map es c))
theorem E.M.make {t : TypeId} (hck : E.ck n ops fr ⟨some d, .makeMap t none, T, pos, af, gd⟩ = true) (k : E.M P n ops Q l d fr S w0 X L #[] 0) : E.G P n ops Q (⟨some d, .makeMap t none, T, pos, af, gd⟩ :: l) fr S w0 X L := by
  intro a w hs hh
  refine E.step (hs.want (E.ck_w hck)) ?_
  unfold Oper.wp
  rw [hs.exec (E.ck_k hck)]
  have : (execOp (E.ev fr) ⟨some d, .makeMap t none, T, pos, af, gd⟩).run P w = .ok (.value (.map (some w.heap.size))) (w.alloc (.map #[] 0)) := by
    show (do let r ← Instr.makeMap t none; pure (Next.value r) : Sem Next).run P w = _
    rw [Sem.run_bind, run_makeMap]; rfl
  rw [this]
  exact k _ _ (hs.put (E.ck_f hck) _) hh
theorem E.M.insert {mt kt et : TypeId} {x y z : Operand} {kd : IntKind} {i : Int} {v : Value} {es : Array MapEntry} {c : Nat} (hm : P.underlying mt = some (.map kt et)) (hk : P.underlying kt = some (.int kd)) (hck : ∀ g, E.ck n ops ((d, .map (some g)) :: fr) ⟨none, .insert mt x y z, T, pos, af, gd⟩ = true)
    (hx : ∀ g, E.ev ((d, .map (some g)) :: fr) x = .map (some g)) (hy : ∀ g, E.ev ((d, .map (some g)) :: fr) y = .int kd i) (hz : ∀ g, E.ev ((d, .map (some g)) :: fr) z = v) (hn : Instr.findNow (.int kd) (.int kd i) es.toList 0 = some none)
    (k : E.M P n ops Q l d fr S w0 X L (es.push ⟨.int kd i, v, c⟩) (c + 1)) : E.M P n ops Q (⟨none, .insert mt x y z, T, pos, af, gd⟩ :: l) d fr S w0 X L es c := by
  intro a w hs hh
  have hck := hck w.heap.size
  refine E.step (hs.want (E.ck_w hck)) ?_
  unfold Oper.wp
  rw [hs.exec (E.ck_k hck)]
  have h1 := run_mapUpdate_new (P := P) w mt kt et kd es c i v hm hk hn
  have : (execOp (E.ev ((d, .map (some w.heap.size)) :: fr)) ⟨none, .insert mt x y z, T, pos, af, gd⟩).run P (w.alloc (.map es c)) = .ok .skip (w.alloc (.map (es.push ⟨.int kd i, v, c⟩) (c + 1))) := by
    show (do Instr.mapUpdate mt (E.ev _ x) (E.ev _ y) (E.ev _ z); pure Next.skip : Sem Next).run P _ = _
    rw [hx, hy, hz, Sem.run_bind, h1]; rfl
  rw [this]
  exact k _ _ (hs.put (E.ck_f hck) _) hh
theorem E.M.done {es : Array MapEntry} {c : Nat} (k : ∀ g, E.G P n ops Q l ((d, .map (some g)) :: fr) S w0 (fun w => X w ∧ E.Mp g es c w) L) : E.M P n ops Q l d fr S w0 X L es c := by
  intro a w hs hh
  refine k w.heap.size _ _ hs ((hh.bel (Bel.alloc (Bel.refl _) _)).addX fun w' h1 h2 => ?_)
  have hsz : (w.alloc (.map es c)).heap.size = w.heap.size + 1 := by unfold World.alloc; simp
  unfold E.Mp
  rw [h2 w.heap.size (by omega) fun hm => by obtain ⟨p, hp, e⟩ := List.mem_map.1 hm; have := hh.lt p hp; omega]
  exact (MapKept.heap_alloc w _).1
theorem E.G.monoX {X' : World → Prop} (hx : ∀ w, X w → X' w) (k : E.G P n ops Q l fr S w0 X' L) : E.G P n ops Q l fr S w0 X L := fun a w h1 h2 => k a w h1 (h2.monoX hx)
theorem E.lookup {t : TypeId} {x ix : Operand} {kd : IntKind} {i : Int} {g : Nat} {v : Value} {w : World} {dd : Option Nat} (hx : E.ev fr x = .map (some g)) (hi : E.ev fr ix = .int kd i) (hr : (Instr.lookup t (.map (some g)) (.int kd i) true).run P w = .ok v w) :
    (execOp (E.ev fr) ⟨dd, .lookup t x ix true, T, pos, af, gd⟩).run P w = .ok (.value v) w := by
  show (do let r ← Instr.lookup t (E.ev fr x) (E.ev fr ix) true; pure (Next.value r) : Sem Next).run P w = _
  rw [hx, hi, Sem.run_bind, hr]; rfl
end
def Q.arE : Array MapEntry := ((((((((((((((((((((#[] : Array MapEntry).push ⟨.int .i64 1, .int .i64 3, 0⟩).push ⟨.int .i64 2, .int .i64 4, 1⟩).push ⟨.int .i64 3, .int .i64 5, 2⟩).push ⟨.int .i64 4, .int .i64 6, 3⟩).push ⟨.int .i64 5, .int .i64 7, 4⟩).push ⟨.int .i64 6, .int .i64 8, 5⟩).push ⟨.int .i64 7, .int .i64 9, 6⟩).push ⟨.int .i64 8, .int .i64 10, 7⟩).push ⟨.int .i64 9, .int .i64 11, 8⟩).push ⟨.int .i64 10, .int .i64 12, 9⟩).push ⟨.int .i64 11, .int .i64 14, 10⟩).push ⟨.int .i64 12, .int .i64 15, 11⟩).push ⟨.int .i64 16, .int .i64 3, 12⟩).push ⟨.int .i64 17, .int .i64 5, 13⟩).push ⟨.int .i64 18, .int .i64 6, 14⟩).push ⟨.int .i64 19, .int .i64 7, 15⟩).push ⟨.int .i64 20, .int .i64 8, 16⟩).push ⟨.int .i64 21, .int .i64 9, 17⟩).push ⟨.int .i64 22, .int .i64 10, 18⟩)
theorem arithmetic_any  (w : World) : Calls Tryz.prog 48 #[] w fun e w' => ∃ g, e = .returned (.map (some g)) ∧ E.Mp g Q.arE 19 w' ∧ Bel w w' := by
 refine E.enter (n := 3) (S := fun _ => False) Tryz.func48 rfl rfl (by kernel_rfl) (E.Hp.start w) (E.sr (E.op (.map none) (E.tr (E.M.make (by kernel_rfl) (E.M.insert (kt := 3) (et := 3) (by kernel_rfl) (by kernel_rfl) (fun _ => by kernel_rfl) (fun _ => rfl) (fun _ => rfl) (fun _ => rfl) (by rfl) (E.M.insert (kt := 3) (et := 3) (by kernel_rfl) (by kernel_rfl) (fun _ => by kernel_rfl) (fun _ => rfl) (fun _ => rfl) (fun _ => rfl) (by rfl) (E.M.insert (kt := 3) (et := 3) (by kernel_rfl) (by kernel_rfl) (fun _ => by kernel_rfl) (fun _ => rfl) (fun _ => rfl) (fun _ => rfl) (by rfl) (E.M.insert (kt := 3) (et := 3) (by kernel_rfl) (by kernel_rfl) (fun _ => by kernel_rfl) (fun _ => rfl) (fun _ => rfl) (fun _ => rfl) (by rfl) (E.M.insert (kt := 3) (et := 3) (by kernel_rfl) (by kernel_rfl) (fun _ => by kernel_rfl) (fun _ => rfl) (fun _ => rfl) (fun _ => rfl) (by rfl) (E.M.insert (kt := 3) (et := 3) (by kernel_rfl) (by kernel_rfl) (fun _ => by kernel_rfl) (fun _ => rfl) (fun _ => rfl) (fun _ => rfl) (by rfl) (E.M.insert (kt := 3) (et := 3) (by kernel_rfl) (by kernel_rfl) (fun _ => by kernel_rfl) (fun _ => rfl) (fun _ => rfl) (fun _ => rfl) (by rfl) ?_)))))))))))
 refine E.M.insert (kt := 3) (et := 3) (by kernel_rfl) (by kernel_rfl) (fun _ => by kernel_rfl) (fun _ => rfl) (fun _ => rfl) (fun _ => rfl) (by rfl) (E.M.insert (kt := 3) (et := 3) (by kernel_rfl) (by kernel_rfl) (fun _ => by kernel_rfl) (fun _ => rfl) (fun _ => rfl) (fun _ => rfl) (by rfl) (E.M.insert (kt := 3) (et := 3) (by kernel_rfl) (by kernel_rfl) (fun _ => by kernel_rfl) (fun _ => rfl) (fun _ => rfl) (fun _ => rfl) (by rfl) (E.M.insert (kt := 3) (et := 3) (by kernel_rfl) (by kernel_rfl) (fun _ => by kernel_rfl) (fun _ => rfl) (fun _ => rfl) (fun _ => rfl) (by rfl) (E.M.insert (kt := 3) (et := 3) (by kernel_rfl) (by kernel_rfl) (fun _ => by kernel_rfl) (fun _ => rfl) (fun _ => rfl) (fun _ => rfl) (by rfl) (E.M.insert (kt := 3) (et := 3) (by kernel_rfl) (by kernel_rfl) (fun _ => by kernel_rfl) (fun _ => rfl) (fun _ => rfl) (fun _ => rfl) (by rfl) (E.M.insert (kt := 3) (et := 3) (by kernel_rfl) (by kernel_rfl) (fun _ => by kernel_rfl) (fun _ => rfl) (fun _ => rfl) (fun _ => rfl) (by rfl) (E.M.insert (kt := 3) (et := 3) (by kernel_rfl) (by kernel_rfl) (fun _ => by kernel_rfl) (fun _ => rfl) (fun _ => rfl) (fun _ => rfl) (by rfl) (E.M.insert (kt := 3) (et := 3) (by kernel_rfl) (by kernel_rfl) (fun _ => by kernel_rfl) (fun _ => rfl) (fun _ => rfl) (fun _ => rfl) (by rfl) (E.M.insert (kt := 3) (et := 3) (by kernel_rfl) (by kernel_rfl) (fun _ => by kernel_rfl) (fun _ => rfl) (fun _ => rfl) (fun _ => rfl) (by rfl) (E.M.insert (kt := 3) (et := 3) (by kernel_rfl) (by kernel_rfl) (fun _ => by kernel_rfl) (fun _ => rfl) (fun _ => rfl) (fun _ => rfl) (by rfl) (E.M.insert (kt := 3) (et := 3) (by kernel_rfl) (by kernel_rfl) (fun _ => by kernel_rfl) (fun _ => rfl) (fun _ => rfl) (fun _ => rfl) (by rfl) ?_)))))))))))
 exact E.M.done (fun g1 => E.op (.map (some g1)) (E.op (.map (some g1)) (E.To.code (E.C.ret (E.bd Tryz.f48 [.map (some g1)] (fun w h => ⟨g1, rfl, h.x.2, h.ch.bel (fun _ h => h.elim)⟩))))))
def Q.ar (x : Int) : Int × Bool := if x = 1 then (3, true) else if x = 2 then (4, true) else if x = 3 then (5, true) else if x = 4 then (6, true) else if x = 5 then (7, true) else if x = 6 then (8, true) else if x = 7 then (9, true) else if x = 8 then (10, true) else if x = 9 then (11, true) else if x = 10 then (12, true) else if x = 11 then (14, true) else if x = 12 then (15, true) else if x = 16 then (3, true) else if x = 17 then (5, true) else if x = 18 then (6, true) else if x = 19 then (7, true) else if x = 20 then (8, true) else if x = 21 then (9, true) else if x = 22 then (10, true) else (0, false)
theorem E.find_none {kd : IntKind} (x : Int) : ∀ (l : List MapEntry) (i : Nat), (l.all fun e => match e.key with | .int k y => (k == kd) && !(y == x) | _ => false) = true → Instr.findNow (.int kd) (.int kd x) l i = some none
  | [], _, _ => rfl
  | e :: l, i, h => by
    rw [List.all_cons, Bool.and_eq_true] at h
    unfold Instr.findNow
    cases hk : e.key with
    | int k y =>
      rw [hk] at h
      have h1 := h.1
      simp only [Bool.and_eq_true, beq_iff_eq, Bool.not_eq_true', beq_eq_false_iff_ne] at h1
      obtain ⟨rfl, hne⟩ := h1
      have hs : Instr.sameNow (.int k) (.int k x) (.int k y) = some false := by
        show (if k = k then some (x == y) else none) = some false
        rw [if_pos rfl, beq_eq_false_iff_ne.2 (Ne.symm hne)]
      rw [hs]
      exact E.find_none x l (i + 1) h.2
    | _ => rw [hk] at h; cases h.1
theorem Q.ar_miss (x : Int) (h : x < 1 ∨ (12 < x ∧ x < 16) ∨ 22 < x) : Instr.findNow (.int .i64) (.int .i64 x) Q.arE.toList 0 = some none := by
  have e : ∀ k : Int, (1 ≤ k ∧ k ≤ 12) ∨ (16 ≤ k ∧ k ≤ 22) → (k == x) = false := fun k _ => beq_eq_false_iff_ne.2 (by omega)
  refine E.find_none x _ 0 (List.all_eq_true.2 fun en hen => ?_)
  have hl : Q.arE.toList = [⟨.int .i64 1, .int .i64 3, 0⟩, ⟨.int .i64 2, .int .i64 4, 1⟩, ⟨.int .i64 3, .int .i64 5, 2⟩, ⟨.int .i64 4, .int .i64 6, 3⟩, ⟨.int .i64 5, .int .i64 7, 4⟩, ⟨.int .i64 6, .int .i64 8, 5⟩, ⟨.int .i64 7, .int .i64 9, 6⟩, ⟨.int .i64 8, .int .i64 10, 7⟩, ⟨.int .i64 9, .int .i64 11, 8⟩, ⟨.int .i64 10, .int .i64 12, 9⟩, ⟨.int .i64 11, .int .i64 14, 10⟩, ⟨.int .i64 12, .int .i64 15, 11⟩, ⟨.int .i64 16, .int .i64 3, 12⟩, ⟨.int .i64 17, .int .i64 5, 13⟩, ⟨.int .i64 18, .int .i64 6, 14⟩, ⟨.int .i64 19, .int .i64 7, 15⟩, ⟨.int .i64 20, .int .i64 8, 16⟩, ⟨.int .i64 21, .int .i64 9, 17⟩, ⟨.int .i64 22, .int .i64 10, 18⟩] := by rfl
  rw [hl] at hen
  simp only [List.mem_cons, List.not_mem_nil, or_false] at hen
  rcases hen with rfl | rfl | rfl | rfl | rfl | rfl | rfl | rfl | rfl | rfl | rfl | rfl | rfl | rfl | rfl | rfl | rfl | rfl | rfl <;> (show (true && !(_ == x)) = true; rw [e _ (by decide)]; rfl)
theorem Q.ar_look {g : Nat} {w : World} (h : E.Mp g Q.arE 19 w) (x : Int) : (Instr.lookup 108 (.map (some g)) (.int .i64 x) true).run Tryz.prog w = .ok (.tuple #[.int .i64 (Q.ar x).1, .bool (Q.ar x).2]) w := by
  have hm : Tryz.prog.underlying 108 = some (.map 3 3) := by kernel_rfl
  have hk : Tryz.prog.underlying 3 = some (.int .i64) := by kernel_rfl
  rcases (by omega : x = 1 ∨ x = 2 ∨ x = 3 ∨ x = 4 ∨ x = 5 ∨ x = 6 ∨ x = 7 ∨ x = 8 ∨ x = 9 ∨ x = 10 ∨ x = 11 ∨ x = 12 ∨ x = 16 ∨ x = 17 ∨ x = 18 ∨ x = 19 ∨ x = 20 ∨ x = 21 ∨ x = 22 ∨ (x < 1 ∨ (12 < x ∧ x < 16) ∨ 22 < x)) with rfl | rfl | rfl | rfl | rfl | rfl | rfl | rfl | rfl | rfl | rfl | rfl | rfl | rfl | rfl | rfl | rfl | rfl | rfl | hx
  · exact run_lookup_hit w _ _ _ .i64 g Q.arE 19 1 (.int .i64 3) 0 hm hk h rfl
  · exact run_lookup_hit w _ _ _ .i64 g Q.arE 19 2 (.int .i64 4) 1 hm hk h rfl
  · exact run_lookup_hit w _ _ _ .i64 g Q.arE 19 3 (.int .i64 5) 2 hm hk h rfl
  · exact run_lookup_hit w _ _ _ .i64 g Q.arE 19 4 (.int .i64 6) 3 hm hk h rfl
  · exact run_lookup_hit w _ _ _ .i64 g Q.arE 19 5 (.int .i64 7) 4 hm hk h rfl
  · exact run_lookup_hit w _ _ _ .i64 g Q.arE 19 6 (.int .i64 8) 5 hm hk h rfl
  · exact run_lookup_hit w _ _ _ .i64 g Q.arE 19 7 (.int .i64 9) 6 hm hk h rfl
  · exact run_lookup_hit w _ _ _ .i64 g Q.arE 19 8 (.int .i64 10) 7 hm hk h rfl
  · exact run_lookup_hit w _ _ _ .i64 g Q.arE 19 9 (.int .i64 11) 8 hm hk h rfl
  · exact run_lookup_hit w _ _ _ .i64 g Q.arE 19 10 (.int .i64 12) 9 hm hk h rfl
  · exact run_lookup_hit w _ _ _ .i64 g Q.arE 19 11 (.int .i64 14) 10 hm hk h rfl
  · exact run_lookup_hit w _ _ _ .i64 g Q.arE 19 12 (.int .i64 15) 11 hm hk h rfl
  · exact run_lookup_hit w _ _ _ .i64 g Q.arE 19 16 (.int .i64 3) 12 hm hk h rfl
  · exact run_lookup_hit w _ _ _ .i64 g Q.arE 19 17 (.int .i64 5) 13 hm hk h rfl
  · exact run_lookup_hit w _ _ _ .i64 g Q.arE 19 18 (.int .i64 6) 14 hm hk h rfl
  · exact run_lookup_hit w _ _ _ .i64 g Q.arE 19 19 (.int .i64 7) 15 hm hk h rfl
  · exact run_lookup_hit w _ _ _ .i64 g Q.arE 19 20 (.int .i64 8) 16 hm hk h rfl
  · exact run_lookup_hit w _ _ _ .i64 g Q.arE 19 21 (.int .i64 9) 17 hm hk h rfl
  · exact run_lookup_hit w _ _ _ .i64 g Q.arE 19 22 (.int .i64 10) 18 hm hk h rfl
  · have e : Q.ar x = (0, false) := by unfold Q.ar; iterate 19 rw [if_neg (by omega)]
    rw [e]
    exact run_lookup_miss w _ _ _ .i64 g Q.arE 19 x (.int .i64 0) hm hk (by kernel_rfl) h (Q.ar_miss x hx)
/-- A format. -/
structure Q.Sh where
  kn : Bool
  d : Bool
  a : Bool
  b : Bool
  kind : Int
  bits : Nat
  most : Int
def Q.Sh.cells (s : Q.Sh) : List Value := [.bool s.kn, .bool s.d, .bool s.a, .bool s.b, .int .i64 s.kind, .int .i64 ((s.bits : Nat) : Int), .int .u32 s.most]
def Q.Sh.val (s : Q.Sh) : Value := .agg #[.bool s.kn, .bool s.d, .bool s.a, .bool s.b, .int .i64 s.kind, .int .i64 ((s.bits : Nat) : Int), .int .u32 s.most]
def Q.sh0 : Q.Sh := ⟨false, false, false, false, 0, 0, 0⟩
/-- An instruction of Q. -/
structure Q.I where
  op : Int
  d : Int
  a : Int
  b : Int
  imm : Int
def Q.tabN (f : Nat → Q.Sh) : Nat → List Value
  | 0 => []
  | n + 1 => Q.tabN f n ++ (f n).cells
/-- The cells of all formats. -/
def Q.tab (f : Nat → Q.Sh) : List Value := Q.tabN f 64
def Q.upt (f : Nat → Q.Sh) (k : Nat) (s : Q.Sh) : Nat → Q.Sh := fun j => if j = k then s else f j
theorem Q.tabN_len (f : Nat → Q.Sh) : ∀ n, (Q.tabN f n).length = n * 7
  | 0 => rfl
  | n + 1 => by rw [Q.tabN, List.length_append, Q.tabN_len f n]; show n * 7 + 7 = _; omega
theorem Q.tabN_at (f : Nat → Q.Sh) (k j : Nat) (hj : j < 7) : ∀ n, k < n → (Q.tabN f n)[k * 7 + j]? = (f k).cells[j]?
  | 0, h => absurd h (Nat.not_lt_zero _)
  | n + 1, h => by
    rw [Q.tabN]
    by_cases e : k = n
    · subst e
      rw [List.getElem?_append_right (by rw [Q.tabN_len]; omega), Q.tabN_len]
      congr 1; omega
    · rw [List.getElem?_append_left (by rw [Q.tabN_len]; omega)]
      exact Q.tabN_at f k j hj n (by omega)
theorem Q.tab_len (f : Nat → Q.Sh) : (Q.tab f).length = 448 := Q.tabN_len f 64
theorem Q.tab_part (f : Nat → Q.Sh) (k : Nat) (hk : k < 64) : ((Q.tab f).drop (k * 7)).take 7 = (f k).cells := by
  refine List.ext_getElem? fun j => ?_
  rw [List.getElem?_take]
  by_cases hj : j < 7
  · rw [if_pos hj, List.getElem?_drop]; exact Q.tabN_at f k j hj 64 hk
  · rw [if_neg hj, List.getElem?_eq_none (by show (7 : Nat) ≤ j; omega)]
theorem Q.ld_tab {P : Program} {t : TypeId} {f : Nat → Q.Sh} {x : Int} (hu : (match P.underlying t with | some (.struct _) => true | _ => false) = true) (hs : (P.info? t).map (·.size) = some 7) (hx : 0 ≤ x ∧ x < 64) : E.ld P t (Q.tab f) (0 + x.toNat * 7) = some (f x.toNat).val := by
  have hk : x.toNat < 64 := by omega
  unfold E.ld
  cases hi0 : P.info? t with
  | none => rw [hi0] at hs; cases hs
  | some i =>
    rw [hi0] at hs
    simp only [Option.map_some, Option.some.injEq] at hs
    cases hd : P.underlying t with
    | none => rw [hd] at hu; cases hu
    | some d =>
      rw [hd] at hu
      cases d
      case struct fs =>
        show (bif Nat.ble (0 + x.toNat * 7 + i.size) (Q.tab f).length then some (Value.agg (((Q.tab f).drop (0 + x.toNat * 7)).take i.size).toArray) else none) = _
        rw [hs, Q.tab_len, show Nat.ble (0 + x.toNat * 7 + 7) 448 = true from Nat.ble_eq_true_of_le (by omega), Nat.zero_add, Q.tab_part f _ hk]; rfl
      all_goals cases hu
theorem Q.ld_all {P : Program} {t : TypeId} {f : Nat → Q.Sh} (hu : (match P.underlying t with | some (.array _ _) => true | _ => false) = true) (hs : (P.info? t).map (·.size) = some 448) : E.ld P t (Q.tab f) 0 = some (.agg (Q.tab f).toArray) := by
  unfold E.ld
  cases hi0 : P.info? t with
  | none => rw [hi0] at hs; cases hs
  | some i =>
    rw [hi0] at hs
    simp only [Option.map_some, Option.some.injEq] at hs
    cases hd : P.underlying t with
    | none => rw [hd] at hu; cases hu
    | some d =>
      rw [hd] at hu
      cases d
      case array n e =>
        show (bif Nat.ble (0 + i.size) (Q.tab f).length then some (Value.agg (((Q.tab f).drop 0).take i.size).toArray) else none) = _
        rw [hs, Q.tab_len, show Nat.ble (0 + 448) 448 = true from rfl, List.drop_zero, List.take_of_length_le (by rw [Q.tab_len]; exact Nat.le_refl _)]; rfl
      all_goals cases hu
theorem Q.tabN_cell (f : Nat → Q.Sh) : ∀ n, (Q.tabN f n).all E.cellB = true
  | 0 => rfl
  | n + 1 => by rw [Q.tabN, List.all_append, Q.tabN_cell f n]; rfl
theorem Q.tabN_cell' (f : Nat → Q.Sh) : (Q.tab f).all E.cellB = true := Q.tabN_cell f 64
theorem Q.lay_whole {cs us : List Value} (h : us.length = cs.length) : E.lay cs 0 us = us := by
  have := E.lay_at us [] cs (by omega)
  simp only [List.nil_append, List.length_nil] at this
  rw [this, List.drop_eq_nil_of_le (by omega), List.append_nil]
theorem Q.sto_all {P : Program} {t : TypeId} {f g : Nat → Q.Sh} (hs : (P.info? t).map (·.size) = some 448) : E.sto P t (Q.tab f) 0 (.agg (Q.tab g).toArray) = some (Q.tab g) := by
  unfold E.sto
  cases hi0 : P.info? t with
  | none => rw [hi0] at hs; cases hs
  | some i =>
    rw [hi0] at hs
    simp only [Option.map_some, Option.some.injEq] at hs
    show (bif Nat.beq (Q.tab g).toArray.size i.size && Nat.ble (0 + i.size) (Q.tab f).length && (Q.tab g).toArray.toList.all E.cellB then some (E.lay (Q.tab f) 0 (Q.tab g).toArray.toList) else none) = _
    rw [hs, Q.tab_len f, List.size_toArray, Q.tab_len g, List.toList_toArray, Q.tabN_cell', Q.lay_whole (by rw [Q.tab_len, Q.tab_len])]; rfl
theorem Q.lay_get : ∀ (vs cs : List Value) (j i : Nat), j + vs.length ≤ cs.length → (E.lay cs j vs)[i]? = if j ≤ i ∧ i < j + vs.length then vs[i - j]? else cs[i]?
  | [], cs, j, i, _ => by rw [if_neg (by simp), E.lay]
  | v :: vs, cs, j, i, h => by
    simp only [List.length_cons] at h ⊢
    rw [E.lay, Q.lay_get vs (cs.set j v) (j + 1) i (by simp; omega)]
    by_cases e : i = j
    · subst e
      rw [if_neg (by omega), if_pos (by omega), List.getElem?_set_self (by omega)]; simp
    · by_cases k : j + 1 ≤ i ∧ i < j + 1 + vs.length
      · rw [if_pos k, if_pos (by omega)]
        rw [show i - j = (i - (j + 1)) + 1 by omega]; rfl
      · rw [if_neg k, if_neg (by omega), List.getElem?_set_ne (by omega)]
theorem Q.lay_tab (f : Nat → Q.Sh) (k : Nat) (hk : k < 64) (s : Q.Sh) : E.lay (Q.tab f) (k * 7) s.cells = Q.tab (Q.upt f k s) := by
  refine List.ext_getElem? fun y => ?_
  rw [Q.lay_get _ _ _ _ (by rw [Q.tab_len]; show k * 7 + 7 ≤ 448; omega)]
  by_cases hy : y < 448
  · have e : y = y / 7 * 7 + y % 7 := by omega
    have h2 : (Q.tab (Q.upt f k s))[y]? = (Q.upt f k s (y / 7)).cells[y % 7]? := by
      have := Q.tabN_at (Q.upt f k s) (y / 7) (y % 7) (Nat.mod_lt _ (by decide)) 64 (by omega)
      rwa [← e] at this
    have h1 : (Q.tab f)[y]? = (f (y / 7)).cells[y % 7]? := by
      have := Q.tabN_at f (y / 7) (y % 7) (Nat.mod_lt _ (by decide)) 64 (by omega)
      rwa [← e] at this
    rw [h2]
    unfold Q.upt
    by_cases c : y / 7 = k
    · rw [if_pos ⟨by omega, by show y < k * 7 + 7; omega⟩, if_pos c, show y - k * 7 = y % 7 by omega]
    · rw [if_neg (by intro hh; have hh : k * 7 ≤ y ∧ y < k * 7 + 7 := hh; omega), if_neg c, h1]
  · rw [if_neg (by intro hh; have hh : k * 7 ≤ y ∧ y < k * 7 + 7 := hh; omega), List.getElem?_eq_none (by rw [Q.tab_len]; omega), List.getElem?_eq_none (by rw [Q.tab_len]; omega)]
theorem Q.sto_tab {P : Program} {t : TypeId} {f : Nat → Q.Sh} {k : Nat} {s : Q.Sh} (hs : (P.info? t).map (·.size) = some 7) (hk : k < 64) : E.sto P t (Q.tab f) (0 + ((k : Nat) : Int).toNat * 7) s.val = some (Q.tab (Q.upt f k s)) := by
  unfold E.sto
  cases hi0 : P.info? t with
  | none => rw [hi0] at hs; cases hs
  | some i =>
    rw [hi0] at hs
    simp only [Option.map_some, Option.some.injEq] at hs
    show (bif Nat.beq 7 i.size && Nat.ble (0 + k * 7 + i.size) (Q.tab f).length && true then some (E.lay (Q.tab f) (0 + k * 7) s.cells) else none) = _
    rw [hs, Q.tab_len, show Nat.ble (0 + k * 7 + 7) 448 = true from Nat.ble_eq_true_of_le (by omega), Nat.zero_add, Q.lay_tab f k hk s]; rfl
theorem A.of_hp {S : Nat → Prop} {w0 w : World} {X : World → Prop} {L : List (Nat × List Value)} (h : E.Hp S w0 X L w) (i : Nat) {g : Nat} {cs : List Value} (hL : L[i]? = some (g, cs)) (hne : cs.isEmpty = false) : A.Has [A.blk g cs] w (fun x => x = g) (fun x => x = g) := by
  have hm := List.mem_of_getElem? hL
  refine ⟨fun x => x = g, fun x => x = g, fun _ => False, fun _ => False, ⟨h.mem _ hm, h.fz _ hm, h.lt _ hm, fun _ => Iff.rfl, fun _ => Iff.rfl, ?_⟩, ⟨fun _ h => h, fun _ h => h⟩, fun _ _ h => h, fun _ h => h.elim, fun x => by simp, fun x => by simp⟩
  rintro rfl; cases hne
theorem Set1 {gt go : Nat} {f : Nat → Q.Sh} (s : Q.Sh) (o0 : Nat) (ho0 : o0 < 64) : A.Tr Tryz.prog 104 #[.agg #[.bool s.kn, .bool s.d, .bool s.a, .bool s.b, .int .i64 s.kind, .int .i64 ((s.bits : Nat) : Int), .int .u32 s.most], .slice (some ⟨go, 0, none⟩) 1 1, .pointer (some ⟨gt, 0, none⟩)] [A.blk gt (Q.tab f), A.blk go [.int .i64 ((o0 : Nat) : Int)]] (I := Unit) (fun _ => True) (fun _ => .tuple #[]) (fun _ => [A.blk gt (Q.tab (Q.upt f o0 (⟨true, s.d, s.a, s.b, s.kind, s.bits, s.most⟩))), A.blk go [.int .i64 ((o0 : Nat) : Int)]]) := by
 intro w oo aa hh
 refine E.enter (n := 18) (S := oo) Tryz.func104 rfl rfl (by kernel_rfl) (A.start (L := [(gt, (Q.tab f)), (go, [E.i ((o0 : Nat) : Int)])]) hh) (E.sr (E.G.new (fun g => E.pt g) [.bool s.kn, .bool s.d, .bool s.a, .bool s.b, E.i s.kind, E.i ((s.bits : Nat) : Int), E.u s.most] 155 (fun w => by kernel_rfl) (by kernel_rfl) (fun g1 => E.tr (E.op (E.pt g1) (E.st 0 [.bool true, .bool s.d, .bool s.a, .bool s.b, E.i s.kind, E.i ((s.bits : Nat) : Int), E.u s.most] rfl rfl (E.tr (E.op (.slice (some ⟨go, 0, none⟩) 1 1) (E.op (E.i 1) (E.op (E.i 0) (E.To.code (E.C.block ?_)))))))))))
 refine E.C.rounds 1 (E.sr (E.op (.bool true) (E.To.code (E.C.seq (E.C.condT (by kernel_rfl) (by kernel_rfl) (E.C.skip (E.To.code (E.C.seq (E.C.block (E.sr (E.op (E.pt go) (E.li (E.i ((o0 : Nat) : Int)) 2 rfl rfl ?_))))))))))))
 refine E.op (E.i ((o0 : Nat) : Int)) (E.ur (E.op (E.i ((o0 : Nat) : Int)) (E.li (.agg #[.bool true, .bool s.d, .bool s.a, .bool s.b, E.i s.kind, E.i ((s.bits : Nat) : Int), E.u s.most]) 0 rfl rfl (E.vl (.pointer (some ⟨gt, 0 + (((o0 : Nat) : Int)).toNat * 7, none⟩)) (fun w h => E.idxA (e := 155) gt 0 64 7 .i64 (((o0 : Nat) : Int)) (by kernel_rfl) (by kernel_rfl) (by kernel_rfl) (by kernel_rfl) (by omega) (by omega) w) (E.G.store 1 (Q.tab (Q.upt f o0 (⟨true, s.d, s.a, s.b, s.kind, s.bits, s.most⟩))) rfl rfl (Q.sto_tab (k := o0) (s := ⟨true, s.d, s.a, s.b, s.kind, s.bits, s.most⟩) (by kernel_rfl) (by omega)) (by kernel_rfl) (E.P.nb (E.To.code (E.C.region (E.op (E.i 1) (E.op (E.i 1) (E.To.rounds 0 (E.wk [(2, E.pt gt), (3, E.pt g1), (6, E.i ((o0 : Nat) : Int)), (8, .slice (some ⟨go, 0, none⟩) 1 1), (9, E.i 1), (10, E.i 1), (11, .bool true), (12, E.pt go), (13, E.i ((o0 : Nat) : Int)), (14, E.i ((o0 : Nat) : Int)), (15, .agg #[.bool true, .bool s.d, .bool s.a, .bool s.b, E.i s.kind, E.i ((s.bits : Nat) : Int), E.u s.most]), (16, .pointer (some ⟨gt, 0 + (((o0 : Nat) : Int)).toNat * 7, none⟩)), (17, E.i 1)] [(g1, [.bool true, .bool s.d, .bool s.a, .bool s.b, E.i s.kind, E.i ((s.bits : Nat) : Int), E.u s.most]), (gt, (Q.tab (Q.upt f o0 (⟨true, s.d, s.a, s.b, s.kind, s.bits, s.most⟩)))), (go, [E.i ((o0 : Nat) : Int)])] Nz.sub ?_))))))))))))
 refine E.sr (E.op (.bool false) (E.To.code (E.C.seq (E.C.condF (by kernel_rfl) (by kernel_rfl) (E.C.exit (E.P.et (E.P.et (E.P.eh (E.To.bodyN (fn := Tryz.f104) [] ?_ ?_)))))))))
 · exact trivial
 intro w h
 exact ⟨(), trivial, rfl, A.dq [1, 2] [0] h⟩
theorem Set3 {gt go : Nat} {f : Nat → Q.Sh} (s : Q.Sh) (o0 o1 o2 : Nat) (ho0 : o0 < 64) (ho1 : o1 < 64) (ho2 : o2 < 64) : A.Tr Tryz.prog 104 #[.agg #[.bool s.kn, .bool s.d, .bool s.a, .bool s.b, .int .i64 s.kind, .int .i64 ((s.bits : Nat) : Int), .int .u32 s.most], .slice (some ⟨go, 0, none⟩) 3 3, .pointer (some ⟨gt, 0, none⟩)] [A.blk gt (Q.tab f), A.blk go [.int .i64 ((o0 : Nat) : Int), .int .i64 ((o1 : Nat) : Int), .int .i64 ((o2 : Nat) : Int)]] (I := Unit) (fun _ => True) (fun _ => .tuple #[]) (fun _ => [A.blk gt (Q.tab (Q.upt (Q.upt (Q.upt f o0 (⟨true, s.d, s.a, s.b, s.kind, s.bits, s.most⟩)) o1 (⟨true, s.d, s.a, s.b, s.kind, s.bits, s.most⟩)) o2 (⟨true, s.d, s.a, s.b, s.kind, s.bits, s.most⟩))), A.blk go [.int .i64 ((o0 : Nat) : Int), .int .i64 ((o1 : Nat) : Int), .int .i64 ((o2 : Nat) : Int)]]) := by
 intro w oo aa hh
 refine E.enter (n := 18) (S := oo) Tryz.func104 rfl rfl (by kernel_rfl) (A.start (L := [(gt, (Q.tab f)), (go, [E.i ((o0 : Nat) : Int), E.i ((o1 : Nat) : Int), E.i ((o2 : Nat) : Int)])]) hh) (E.sr (E.G.new (fun g => E.pt g) [.bool s.kn, .bool s.d, .bool s.a, .bool s.b, E.i s.kind, E.i ((s.bits : Nat) : Int), E.u s.most] 155 (fun w => by kernel_rfl) (by kernel_rfl) (fun g1 => E.tr (E.op (E.pt g1) (E.st 0 [.bool true, .bool s.d, .bool s.a, .bool s.b, E.i s.kind, E.i ((s.bits : Nat) : Int), E.u s.most] rfl rfl (E.tr (E.op (.slice (some ⟨go, 0, none⟩) 3 3) (E.op (E.i 3) (E.op (E.i 0) (E.To.code (E.C.block ?_)))))))))))
 refine E.C.rounds 3 (E.sr (E.op (.bool true) (E.To.code (E.C.seq (E.C.condT (by kernel_rfl) (by kernel_rfl) (E.C.skip (E.To.code (E.C.seq (E.C.block (E.sr (E.op (E.pt go) (E.li (E.i ((o0 : Nat) : Int)) 2 rfl rfl ?_))))))))))))
 refine E.op (E.i ((o0 : Nat) : Int)) (E.ur (E.op (E.i ((o0 : Nat) : Int)) (E.li (.agg #[.bool true, .bool s.d, .bool s.a, .bool s.b, E.i s.kind, E.i ((s.bits : Nat) : Int), E.u s.most]) 0 rfl rfl (E.vl (.pointer (some ⟨gt, 0 + (((o0 : Nat) : Int)).toNat * 7, none⟩)) (fun w h => E.idxA (e := 155) gt 0 64 7 .i64 (((o0 : Nat) : Int)) (by kernel_rfl) (by kernel_rfl) (by kernel_rfl) (by kernel_rfl) (by omega) (by omega) w) (E.G.store 1 (Q.tab (Q.upt f o0 (⟨true, s.d, s.a, s.b, s.kind, s.bits, s.most⟩))) rfl rfl (Q.sto_tab (k := o0) (s := ⟨true, s.d, s.a, s.b, s.kind, s.bits, s.most⟩) (by kernel_rfl) (by omega)) (by kernel_rfl) (E.P.nb (E.To.code (E.C.region (E.op (E.i 1) (E.op (E.i 1) (E.To.rounds 2 (E.wk [(2, E.pt gt), (3, E.pt g1), (6, E.i ((o0 : Nat) : Int)), (8, .slice (some ⟨go, 0, none⟩) 3 3), (9, E.i 3), (10, E.i 1), (11, .bool true), (12, E.pt go), (13, E.i ((o0 : Nat) : Int)), (14, E.i ((o0 : Nat) : Int)), (15, .agg #[.bool true, .bool s.d, .bool s.a, .bool s.b, E.i s.kind, E.i ((s.bits : Nat) : Int), E.u s.most]), (16, .pointer (some ⟨gt, 0 + (((o0 : Nat) : Int)).toNat * 7, none⟩)), (17, E.i 1)] [(g1, [.bool true, .bool s.d, .bool s.a, .bool s.b, E.i s.kind, E.i ((s.bits : Nat) : Int), E.u s.most]), (gt, (Q.tab (Q.upt f o0 (⟨true, s.d, s.a, s.b, s.kind, s.bits, s.most⟩)))), (go, [E.i ((o0 : Nat) : Int), E.i ((o1 : Nat) : Int), E.i ((o2 : Nat) : Int)])] Nz.sub ?_))))))))))))
 refine E.sr (E.op (.bool true) (E.To.code (E.C.seq (E.C.condT (by kernel_rfl) (by kernel_rfl) (E.C.skip (E.To.code (E.C.seq (E.C.block (E.sr (E.op (.pointer (some ⟨go, 1, none⟩)) (E.li (E.i ((o1 : Nat) : Int)) 2 rfl rfl (E.op (E.i ((o1 : Nat) : Int)) ?_))))))))))))
 refine E.ur (E.op (E.i ((o1 : Nat) : Int)) (E.li (.agg #[.bool true, .bool s.d, .bool s.a, .bool s.b, E.i s.kind, E.i ((s.bits : Nat) : Int), E.u s.most]) 0 rfl rfl (E.vl (.pointer (some ⟨gt, 0 + (((o1 : Nat) : Int)).toNat * 7, none⟩)) (fun w h => E.idxA (e := 155) gt 0 64 7 .i64 (((o1 : Nat) : Int)) (by kernel_rfl) (by kernel_rfl) (by kernel_rfl) (by kernel_rfl) (by omega) (by omega) w) (E.G.store 1 (Q.tab (Q.upt (Q.upt f o0 (⟨true, s.d, s.a, s.b, s.kind, s.bits, s.most⟩)) o1 (⟨true, s.d, s.a, s.b, s.kind, s.bits, s.most⟩))) rfl rfl (Q.sto_tab (k := o1) (s := ⟨true, s.d, s.a, s.b, s.kind, s.bits, s.most⟩) (by kernel_rfl) (by omega)) (by kernel_rfl) (E.P.nb (E.To.code (E.C.region (E.op (E.i 2) (E.op (E.i 2) (E.To.rounds 1 (E.wk [(2, E.pt gt), (3, E.pt g1), (6, E.i ((o1 : Nat) : Int)), (8, .slice (some ⟨go, 0, none⟩) 3 3), (9, E.i 3), (10, E.i 2), (11, .bool true), (12, .pointer (some ⟨go, 1, none⟩)), (13, E.i ((o1 : Nat) : Int)), (14, E.i ((o1 : Nat) : Int)), (15, .agg #[.bool true, .bool s.d, .bool s.a, .bool s.b, E.i s.kind, E.i ((s.bits : Nat) : Int), E.u s.most]), (16, .pointer (some ⟨gt, 0 + (((o1 : Nat) : Int)).toNat * 7, none⟩)), (17, E.i 2)] [(g1, [.bool true, .bool s.d, .bool s.a, .bool s.b, E.i s.kind, E.i ((s.bits : Nat) : Int), E.u s.most]), (gt, (Q.tab (Q.upt (Q.upt f o0 (⟨true, s.d, s.a, s.b, s.kind, s.bits, s.most⟩)) o1 (⟨true, s.d, s.a, s.b, s.kind, s.bits, s.most⟩)))), (go, [E.i ((o0 : Nat) : Int), E.i ((o1 : Nat) : Int), E.i ((o2 : Nat) : Int)])] Nz.sub (E.sr ?_))))))))))))
 refine E.op (.bool true) (E.To.code (E.C.seq (E.C.condT (by kernel_rfl) (by kernel_rfl) (E.C.skip (E.To.code (E.C.seq (E.C.block (E.sr (E.op (.pointer (some ⟨go, 2, none⟩)) (E.li (E.i ((o2 : Nat) : Int)) 2 rfl rfl (E.op (E.i ((o2 : Nat) : Int)) (E.ur ?_))))))))))))
 refine E.op (E.i ((o2 : Nat) : Int)) (E.li (.agg #[.bool true, .bool s.d, .bool s.a, .bool s.b, E.i s.kind, E.i ((s.bits : Nat) : Int), E.u s.most]) 0 rfl rfl (E.vl (.pointer (some ⟨gt, 0 + (((o2 : Nat) : Int)).toNat * 7, none⟩)) (fun w h => E.idxA (e := 155) gt 0 64 7 .i64 (((o2 : Nat) : Int)) (by kernel_rfl) (by kernel_rfl) (by kernel_rfl) (by kernel_rfl) (by omega) (by omega) w) (E.G.store 1 (Q.tab (Q.upt (Q.upt (Q.upt f o0 (⟨true, s.d, s.a, s.b, s.kind, s.bits, s.most⟩)) o1 (⟨true, s.d, s.a, s.b, s.kind, s.bits, s.most⟩)) o2 (⟨true, s.d, s.a, s.b, s.kind, s.bits, s.most⟩))) rfl rfl (Q.sto_tab (k := o2) (s := ⟨true, s.d, s.a, s.b, s.kind, s.bits, s.most⟩) (by kernel_rfl) (by omega)) (by kernel_rfl) (E.P.nb (E.To.code (E.C.region (E.op (E.i 3) (E.op (E.i 3) (E.To.rounds 0 (E.wk [(2, E.pt gt), (3, E.pt g1), (6, E.i ((o2 : Nat) : Int)), (8, .slice (some ⟨go, 0, none⟩) 3 3), (9, E.i 3), (10, E.i 3), (11, .bool true), (12, .pointer (some ⟨go, 2, none⟩)), (13, E.i ((o2 : Nat) : Int)), (14, E.i ((o2 : Nat) : Int)), (15, .agg #[.bool true, .bool s.d, .bool s.a, .bool s.b, E.i s.kind, E.i ((s.bits : Nat) : Int), E.u s.most]), (16, .pointer (some ⟨gt, 0 + (((o2 : Nat) : Int)).toNat * 7, none⟩)), (17, E.i 3)] [(g1, [.bool true, .bool s.d, .bool s.a, .bool s.b, E.i s.kind, E.i ((s.bits : Nat) : Int), E.u s.most]), (gt, (Q.tab (Q.upt (Q.upt (Q.upt f o0 (⟨true, s.d, s.a, s.b, s.kind, s.bits, s.most⟩)) o1 (⟨true, s.d, s.a, s.b, s.kind, s.bits, s.most⟩)) o2 (⟨true, s.d, s.a, s.b, s.kind, s.bits, s.most⟩)))), (go, [E.i ((o0 : Nat) : Int), E.i ((o1 : Nat) : Int), E.i ((o2 : Nat) : Int)])] Nz.sub (E.sr (E.op (.bool false) ?_))))))))))))
 refine E.To.code (E.C.seq (E.C.condF (by kernel_rfl) (by kernel_rfl) (E.C.exit (E.P.et (E.P.et (E.P.eh (E.To.bodyN (fn := Tryz.f104) [] ?_ ?_)))))))
 · exact trivial
 intro w h
 exact ⟨(), trivial, rfl, A.dq [1, 2] [0] h⟩
theorem Set6 {gt go : Nat} {f : Nat → Q.Sh} (s : Q.Sh) (o0 o1 o2 o3 o4 o5 : Nat) (ho0 : o0 < 64) (ho1 : o1 < 64) (ho2 : o2 < 64) (ho3 : o3 < 64) (ho4 : o4 < 64) (ho5 : o5 < 64) : A.Tr Tryz.prog 104 #[.agg #[.bool s.kn, .bool s.d, .bool s.a, .bool s.b, .int .i64 s.kind, .int .i64 ((s.bits : Nat) : Int), .int .u32 s.most], .slice (some ⟨go, 0, none⟩) 6 6, .pointer (some ⟨gt, 0, none⟩)] [A.blk gt (Q.tab f), A.blk go [.int .i64 ((o0 : Nat) : Int), .int .i64 ((o1 : Nat) : Int), .int .i64 ((o2 : Nat) : Int), .int .i64 ((o3 : Nat) : Int), .int .i64 ((o4 : Nat) : Int), .int .i64 ((o5 : Nat) : Int)]] (I := Unit) (fun _ => True) (fun _ => .tuple #[]) (fun _ => [A.blk gt (Q.tab (Q.upt (Q.upt (Q.upt (Q.upt (Q.upt (Q.upt f o0 (⟨true, s.d, s.a, s.b, s.kind, s.bits, s.most⟩)) o1 (⟨true, s.d, s.a, s.b, s.kind, s.bits, s.most⟩)) o2 (⟨true, s.d, s.a, s.b, s.kind, s.bits, s.most⟩)) o3 (⟨true, s.d, s.a, s.b, s.kind, s.bits, s.most⟩)) o4 (⟨true, s.d, s.a, s.b, s.kind, s.bits, s.most⟩)) o5 (⟨true, s.d, s.a, s.b, s.kind, s.bits, s.most⟩))), A.blk go [.int .i64 ((o0 : Nat) : Int), .int .i64 ((o1 : Nat) : Int), .int .i64 ((o2 : Nat) : Int), .int .i64 ((o3 : Nat) : Int), .int .i64 ((o4 : Nat) : Int), .int .i64 ((o5 : Nat) : Int)]]) := by
 intro w oo aa hh
 refine E.enter (n := 18) (S := oo) Tryz.func104 rfl rfl (by kernel_rfl) (A.start (L := [(gt, (Q.tab f)), (go, [E.i ((o0 : Nat) : Int), E.i ((o1 : Nat) : Int), E.i ((o2 : Nat) : Int), E.i ((o3 : Nat) : Int), E.i ((o4 : Nat) : Int), E.i ((o5 : Nat) : Int)])]) hh) (E.sr (E.G.new (fun g => E.pt g) [.bool s.kn, .bool s.d, .bool s.a, .bool s.b, E.i s.kind, E.i ((s.bits : Nat) : Int), E.u s.most] 155 (fun w => by kernel_rfl) (by kernel_rfl) (fun g1 => E.tr (E.op (E.pt g1) (E.st 0 [.bool true, .bool s.d, .bool s.a, .bool s.b, E.i s.kind, E.i ((s.bits : Nat) : Int), E.u s.most] rfl rfl (E.tr (E.op (.slice (some ⟨go, 0, none⟩) 6 6) (E.op (E.i 6) (E.op (E.i 0) (E.To.code (E.C.block ?_)))))))))))
 refine E.C.rounds 6 (E.sr (E.op (.bool true) (E.To.code (E.C.seq (E.C.condT (by kernel_rfl) (by kernel_rfl) (E.C.skip (E.To.code (E.C.seq (E.C.block (E.sr (E.op (E.pt go) (E.li (E.i ((o0 : Nat) : Int)) 2 rfl rfl ?_))))))))))))
 refine E.op (E.i ((o0 : Nat) : Int)) (E.ur (E.op (E.i ((o0 : Nat) : Int)) (E.li (.agg #[.bool true, .bool s.d, .bool s.a, .bool s.b, E.i s.kind, E.i ((s.bits : Nat) : Int), E.u s.most]) 0 rfl rfl (E.vl (.pointer (some ⟨gt, 0 + (((o0 : Nat) : Int)).toNat * 7, none⟩)) (fun w h => E.idxA (e := 155) gt 0 64 7 .i64 (((o0 : Nat) : Int)) (by kernel_rfl) (by kernel_rfl) (by kernel_rfl) (by kernel_rfl) (by omega) (by omega) w) (E.G.store 1 (Q.tab (Q.upt f o0 (⟨true, s.d, s.a, s.b, s.kind, s.bits, s.most⟩))) rfl rfl (Q.sto_tab (k := o0) (s := ⟨true, s.d, s.a, s.b, s.kind, s.bits, s.most⟩) (by kernel_rfl) (by omega)) (by kernel_rfl) (E.P.nb (E.To.code (E.C.region (E.op (E.i 1) (E.op (E.i 1) (E.To.rounds 5 (E.wk [(2, E.pt gt), (3, E.pt g1), (6, E.i ((o0 : Nat) : Int)), (8, .slice (some ⟨go, 0, none⟩) 6 6), (9, E.i 6), (10, E.i 1), (11, .bool true), (12, E.pt go), (13, E.i ((o0 : Nat) : Int)), (14, E.i ((o0 : Nat) : Int)), (15, .agg #[.bool true, .bool s.d, .bool s.a, .bool s.b, E.i s.kind, E.i ((s.bits : Nat) : Int), E.u s.most]), (16, .pointer (some ⟨gt, 0 + (((o0 : Nat) : Int)).toNat * 7, none⟩)), (17, E.i 1)] [(g1, [.bool true, .bool s.d, .bool s.a, .bool s.b, E.i s.kind, E.i ((s.bits : Nat) : Int), E.u s.most]), (gt, (Q.tab (Q.upt f o0 (⟨true, s.d, s.a, s.b, s.kind, s.bits, s.most⟩)))), (go, [E.i ((o0 : Nat) : Int), E.i ((o1 : Nat) : Int), E.i ((o2 : Nat) : Int), E.i ((o3 : Nat) : Int), E.i ((o4 : Nat) : Int), E.i ((o5 : Nat) : Int)])] Nz.sub ?_))))))))))))
 refine E.sr (E.op (.bool true) (E.To.code (E.C.seq (E.C.condT (by kernel_rfl) (by kernel_rfl) (E.C.skip (E.To.code (E.C.seq (E.C.block (E.sr (E.op (.pointer (some ⟨go, 1, none⟩)) (E.li (E.i ((o1 : Nat) : Int)) 2 rfl rfl (E.op (E.i ((o1 : Nat) : Int)) ?_))))))))))))
 refine E.ur (E.op (E.i ((o1 : Nat) : Int)) (E.li (.agg #[.bool true, .bool s.d, .bool s.a, .bool s.b, E.i s.kind, E.i ((s.bits : Nat) : Int), E.u s.most]) 0 rfl rfl (E.vl (.pointer (some ⟨gt, 0 + (((o1 : Nat) : Int)).toNat * 7, none⟩)) (fun w h => E.idxA (e := 155) gt 0 64 7 .i64 (((o1 : Nat) : Int)) (by kernel_rfl) (by kernel_rfl) (by kernel_rfl) (by kernel_rfl) (by omega) (by omega) w) (E.G.store 1 (Q.tab (Q.upt (Q.upt f o0 (⟨true, s.d, s.a, s.b, s.kind, s.bits, s.most⟩)) o1 (⟨true, s.d, s.a, s.b, s.kind, s.bits, s.most⟩))) rfl rfl (Q.sto_tab (k := o1) (s := ⟨true, s.d, s.a, s.b, s.kind, s.bits, s.most⟩) (by kernel_rfl) (by omega)) (by kernel_rfl) (E.P.nb (E.To.code (E.C.region (E.op (E.i 2) (E.op (E.i 2) (E.To.rounds 4 (E.wk [(2, E.pt gt), (3, E.pt g1), (6, E.i ((o1 : Nat) : Int)), (8, .slice (some ⟨go, 0, none⟩) 6 6), (9, E.i 6), (10, E.i 2), (11, .bool true), (12, .pointer (some ⟨go, 1, none⟩)), (13, E.i ((o1 : Nat) : Int)), (14, E.i ((o1 : Nat) : Int)), (15, .agg #[.bool true, .bool s.d, .bool s.a, .bool s.b, E.i s.kind, E.i ((s.bits : Nat) : Int), E.u s.most]), (16, .pointer (some ⟨gt, 0 + (((o1 : Nat) : Int)).toNat * 7, none⟩)), (17, E.i 2)] [(g1, [.bool true, .bool s.d, .bool s.a, .bool s.b, E.i s.kind, E.i ((s.bits : Nat) : Int), E.u s.most]), (gt, (Q.tab (Q.upt (Q.upt f o0 (⟨true, s.d, s.a, s.b, s.kind, s.bits, s.most⟩)) o1 (⟨true, s.d, s.a, s.b, s.kind, s.bits, s.most⟩)))), (go, [E.i ((o0 : Nat) : Int), E.i ((o1 : Nat) : Int), E.i ((o2 : Nat) : Int), E.i ((o3 : Nat) : Int), E.i ((o4 : Nat) : Int), E.i ((o5 : Nat) : Int)])] Nz.sub (E.sr ?_))))))))))))
 refine E.op (.bool true) (E.To.code (E.C.seq (E.C.condT (by kernel_rfl) (by kernel_rfl) (E.C.skip (E.To.code (E.C.seq (E.C.block (E.sr (E.op (.pointer (some ⟨go, 2, none⟩)) (E.li (E.i ((o2 : Nat) : Int)) 2 rfl rfl (E.op (E.i ((o2 : Nat) : Int)) (E.ur ?_))))))))))))
 refine E.op (E.i ((o2 : Nat) : Int)) (E.li (.agg #[.bool true, .bool s.d, .bool s.a, .bool s.b, E.i s.kind, E.i ((s.bits : Nat) : Int), E.u s.most]) 0 rfl rfl (E.vl (.pointer (some ⟨gt, 0 + (((o2 : Nat) : Int)).toNat * 7, none⟩)) (fun w h => E.idxA (e := 155) gt 0 64 7 .i64 (((o2 : Nat) : Int)) (by kernel_rfl) (by kernel_rfl) (by kernel_rfl) (by kernel_rfl) (by omega) (by omega) w) (E.G.store 1 (Q.tab (Q.upt (Q.upt (Q.upt f o0 (⟨true, s.d, s.a, s.b, s.kind, s.bits, s.most⟩)) o1 (⟨true, s.d, s.a, s.b, s.kind, s.bits, s.most⟩)) o2 (⟨true, s.d, s.a, s.b, s.kind, s.bits, s.most⟩))) rfl rfl (Q.sto_tab (k := o2) (s := ⟨true, s.d, s.a, s.b, s.kind, s.bits, s.most⟩) (by kernel_rfl) (by omega)) (by kernel_rfl) (E.P.nb (E.To.code (E.C.region (E.op (E.i 3) (E.op (E.i 3) (E.To.rounds 3 (E.wk [(2, E.pt gt), (3, E.pt g1), (6, E.i ((o2 : Nat) : Int)), (8, .slice (some ⟨go, 0, none⟩) 6 6), (9, E.i 6), (10, E.i 3), (11, .bool true), (12, .pointer (some ⟨go, 2, none⟩)), (13, E.i ((o2 : Nat) : Int)), (14, E.i ((o2 : Nat) : Int)), (15, .agg #[.bool true, .bool s.d, .bool s.a, .bool s.b, E.i s.kind, E.i ((s.bits : Nat) : Int), E.u s.most]), (16, .pointer (some ⟨gt, 0 + (((o2 : Nat) : Int)).toNat * 7, none⟩)), (17, E.i 3)] [(g1, [.bool true, .bool s.d, .bool s.a, .bool s.b, E.i s.kind, E.i ((s.bits : Nat) : Int), E.u s.most]), (gt, (Q.tab (Q.upt (Q.upt (Q.upt f o0 (⟨true, s.d, s.a, s.b, s.kind, s.bits, s.most⟩)) o1 (⟨true, s.d, s.a, s.b, s.kind, s.bits, s.most⟩)) o2 (⟨true, s.d, s.a, s.b, s.kind, s.bits, s.most⟩)))), (go, [E.i ((o0 : Nat) : Int), E.i ((o1 : Nat) : Int), E.i ((o2 : Nat) : Int), E.i ((o3 : Nat) : Int), E.i ((o4 : Nat) : Int), E.i ((o5 : Nat) : Int)])] Nz.sub (E.sr (E.op (.bool true) ?_))))))))))))
 refine E.To.code (E.C.seq (E.C.condT (by kernel_rfl) (by kernel_rfl) (E.C.skip (E.To.code (E.C.seq (E.C.block (E.sr (E.op (.pointer (some ⟨go, 3, none⟩)) (E.li (E.i ((o3 : Nat) : Int)) 2 rfl rfl (E.op (E.i ((o3 : Nat) : Int)) (E.ur (E.op (E.i ((o3 : Nat) : Int)) ?_))))))))))))
 refine E.li (.agg #[.bool true, .bool s.d, .bool s.a, .bool s.b, E.i s.kind, E.i ((s.bits : Nat) : Int), E.u s.most]) 0 rfl rfl (E.vl (.pointer (some ⟨gt, 0 + (((o3 : Nat) : Int)).toNat * 7, none⟩)) (fun w h => E.idxA (e := 155) gt 0 64 7 .i64 (((o3 : Nat) : Int)) (by kernel_rfl) (by kernel_rfl) (by kernel_rfl) (by kernel_rfl) (by omega) (by omega) w) (E.G.store 1 (Q.tab (Q.upt (Q.upt (Q.upt (Q.upt f o0 (⟨true, s.d, s.a, s.b, s.kind, s.bits, s.most⟩)) o1 (⟨true, s.d, s.a, s.b, s.kind, s.bits, s.most⟩)) o2 (⟨true, s.d, s.a, s.b, s.kind, s.bits, s.most⟩)) o3 (⟨true, s.d, s.a, s.b, s.kind, s.bits, s.most⟩))) rfl rfl (Q.sto_tab (k := o3) (s := ⟨true, s.d, s.a, s.b, s.kind, s.bits, s.most⟩) (by kernel_rfl) (by omega)) (by kernel_rfl) (E.P.nb (E.To.code (E.C.region (E.op (E.i 4) (E.op (E.i 4) (E.To.rounds 2 (E.wk [(2, E.pt gt), (3, E.pt g1), (6, E.i ((o3 : Nat) : Int)), (8, .slice (some ⟨go, 0, none⟩) 6 6), (9, E.i 6), (10, E.i 4), (11, .bool true), (12, .pointer (some ⟨go, 3, none⟩)), (13, E.i ((o3 : Nat) : Int)), (14, E.i ((o3 : Nat) : Int)), (15, .agg #[.bool true, .bool s.d, .bool s.a, .bool s.b, E.i s.kind, E.i ((s.bits : Nat) : Int), E.u s.most]), (16, .pointer (some ⟨gt, 0 + (((o3 : Nat) : Int)).toNat * 7, none⟩)), (17, E.i 4)] [(g1, [.bool true, .bool s.d, .bool s.a, .bool s.b, E.i s.kind, E.i ((s.bits : Nat) : Int), E.u s.most]), (gt, (Q.tab (Q.upt (Q.upt (Q.upt (Q.upt f o0 (⟨true, s.d, s.a, s.b, s.kind, s.bits, s.most⟩)) o1 (⟨true, s.d, s.a, s.b, s.kind, s.bits, s.most⟩)) o2 (⟨true, s.d, s.a, s.b, s.kind, s.bits, s.most⟩)) o3 (⟨true, s.d, s.a, s.b, s.kind, s.bits, s.most⟩)))), (go, [E.i ((o0 : Nat) : Int), E.i ((o1 : Nat) : Int), E.i ((o2 : Nat) : Int), E.i ((o3 : Nat) : Int), E.i ((o4 : Nat) : Int), E.i ((o5 : Nat) : Int)])] Nz.sub (E.sr (E.op (.bool true) (E.To.code ?_))))))))))))
 refine E.C.seq (E.C.condT (by kernel_rfl) (by kernel_rfl) (E.C.skip (E.To.code (E.C.seq (E.C.block (E.sr (E.op (.pointer (some ⟨go, 4, none⟩)) (E.li (E.i ((o4 : Nat) : Int)) 2 rfl rfl (E.op (E.i ((o4 : Nat) : Int)) (E.ur (E.op (E.i ((o4 : Nat) : Int)) (E.li (.agg #[.bool true, .bool s.d, .bool s.a, .bool s.b, E.i s.kind, E.i ((s.bits : Nat) : Int), E.u s.most]) 0 rfl rfl ?_))))))))))))
 refine E.vl (.pointer (some ⟨gt, 0 + (((o4 : Nat) : Int)).toNat * 7, none⟩)) (fun w h => E.idxA (e := 155) gt 0 64 7 .i64 (((o4 : Nat) : Int)) (by kernel_rfl) (by kernel_rfl) (by kernel_rfl) (by kernel_rfl) (by omega) (by omega) w) (E.G.store 1 (Q.tab (Q.upt (Q.upt (Q.upt (Q.upt (Q.upt f o0 (⟨true, s.d, s.a, s.b, s.kind, s.bits, s.most⟩)) o1 (⟨true, s.d, s.a, s.b, s.kind, s.bits, s.most⟩)) o2 (⟨true, s.d, s.a, s.b, s.kind, s.bits, s.most⟩)) o3 (⟨true, s.d, s.a, s.b, s.kind, s.bits, s.most⟩)) o4 (⟨true, s.d, s.a, s.b, s.kind, s.bits, s.most⟩))) rfl rfl (Q.sto_tab (k := o4) (s := ⟨true, s.d, s.a, s.b, s.kind, s.bits, s.most⟩) (by kernel_rfl) (by omega)) (by kernel_rfl) (E.P.nb (E.To.code (E.C.region (E.op (E.i 5) (E.op (E.i 5) (E.To.rounds 1 (E.wk [(2, E.pt gt), (3, E.pt g1), (6, E.i ((o4 : Nat) : Int)), (8, .slice (some ⟨go, 0, none⟩) 6 6), (9, E.i 6), (10, E.i 5), (11, .bool true), (12, .pointer (some ⟨go, 4, none⟩)), (13, E.i ((o4 : Nat) : Int)), (14, E.i ((o4 : Nat) : Int)), (15, .agg #[.bool true, .bool s.d, .bool s.a, .bool s.b, E.i s.kind, E.i ((s.bits : Nat) : Int), E.u s.most]), (16, .pointer (some ⟨gt, 0 + (((o4 : Nat) : Int)).toNat * 7, none⟩)), (17, E.i 5)] [(g1, [.bool true, .bool s.d, .bool s.a, .bool s.b, E.i s.kind, E.i ((s.bits : Nat) : Int), E.u s.most]), (gt, (Q.tab (Q.upt (Q.upt (Q.upt (Q.upt (Q.upt f o0 (⟨true, s.d, s.a, s.b, s.kind, s.bits, s.most⟩)) o1 (⟨true, s.d, s.a, s.b, s.kind, s.bits, s.most⟩)) o2 (⟨true, s.d, s.a, s.b, s.kind, s.bits, s.most⟩)) o3 (⟨true, s.d, s.a, s.b, s.kind, s.bits, s.most⟩)) o4 (⟨true, s.d, s.a, s.b, s.kind, s.bits, s.most⟩)))), (go, [E.i ((o0 : Nat) : Int), E.i ((o1 : Nat) : Int), E.i ((o2 : Nat) : Int), E.i ((o3 : Nat) : Int), E.i ((o4 : Nat) : Int), E.i ((o5 : Nat) : Int)])] Nz.sub (E.sr (E.op (.bool true) (E.To.code (E.C.seq ?_))))))))))))
 refine E.C.condT (by kernel_rfl) (by kernel_rfl) (E.C.skip (E.To.code (E.C.seq (E.C.block (E.sr (E.op (.pointer (some ⟨go, 5, none⟩)) (E.li (E.i ((o5 : Nat) : Int)) 2 rfl rfl (E.op (E.i ((o5 : Nat) : Int)) (E.ur (E.op (E.i ((o5 : Nat) : Int)) (E.li (.agg #[.bool true, .bool s.d, .bool s.a, .bool s.b, E.i s.kind, E.i ((s.bits : Nat) : Int), E.u s.most]) 0 rfl rfl (E.vl (.pointer (some ⟨gt, 0 + (((o5 : Nat) : Int)).toNat * 7, none⟩)) (fun w h => E.idxA (e := 155) gt 0 64 7 .i64 (((o5 : Nat) : Int)) (by kernel_rfl) (by kernel_rfl) (by kernel_rfl) (by kernel_rfl) (by omega) (by omega) w) ?_))))))))))))
 refine E.G.store 1 (Q.tab (Q.upt (Q.upt (Q.upt (Q.upt (Q.upt (Q.upt f o0 (⟨true, s.d, s.a, s.b, s.kind, s.bits, s.most⟩)) o1 (⟨true, s.d, s.a, s.b, s.kind, s.bits, s.most⟩)) o2 (⟨true, s.d, s.a, s.b, s.kind, s.bits, s.most⟩)) o3 (⟨true, s.d, s.a, s.b, s.kind, s.bits, s.most⟩)) o4 (⟨true, s.d, s.a, s.b, s.kind, s.bits, s.most⟩)) o5 (⟨true, s.d, s.a, s.b, s.kind, s.bits, s.most⟩))) rfl rfl (Q.sto_tab (k := o5) (s := ⟨true, s.d, s.a, s.b, s.kind, s.bits, s.most⟩) (by kernel_rfl) (by omega)) (by kernel_rfl) (E.P.nb (E.To.code (E.C.region (E.op (E.i 6) (E.op (E.i 6) (E.To.rounds 0 (E.wk [(2, E.pt gt), (3, E.pt g1), (6, E.i ((o5 : Nat) : Int)), (8, .slice (some ⟨go, 0, none⟩) 6 6), (9, E.i 6), (10, E.i 6), (11, .bool true), (12, .pointer (some ⟨go, 5, none⟩)), (13, E.i ((o5 : Nat) : Int)), (14, E.i ((o5 : Nat) : Int)), (15, .agg #[.bool true, .bool s.d, .bool s.a, .bool s.b, E.i s.kind, E.i ((s.bits : Nat) : Int), E.u s.most]), (16, .pointer (some ⟨gt, 0 + (((o5 : Nat) : Int)).toNat * 7, none⟩)), (17, E.i 6)] [(g1, [.bool true, .bool s.d, .bool s.a, .bool s.b, E.i s.kind, E.i ((s.bits : Nat) : Int), E.u s.most]), (gt, (Q.tab (Q.upt (Q.upt (Q.upt (Q.upt (Q.upt (Q.upt f o0 (⟨true, s.d, s.a, s.b, s.kind, s.bits, s.most⟩)) o1 (⟨true, s.d, s.a, s.b, s.kind, s.bits, s.most⟩)) o2 (⟨true, s.d, s.a, s.b, s.kind, s.bits, s.most⟩)) o3 (⟨true, s.d, s.a, s.b, s.kind, s.bits, s.most⟩)) o4 (⟨true, s.d, s.a, s.b, s.kind, s.bits, s.most⟩)) o5 (⟨true, s.d, s.a, s.b, s.kind, s.bits, s.most⟩)))), (go, [E.i ((o0 : Nat) : Int), E.i ((o1 : Nat) : Int), E.i ((o2 : Nat) : Int), E.i ((o3 : Nat) : Int), E.i ((o4 : Nat) : Int), E.i ((o5 : Nat) : Int)])] Nz.sub (E.sr (E.op (.bool false) (E.To.code (E.C.seq (E.C.condF (by kernel_rfl) (by kernel_rfl) ?_))))))))))))
 refine E.C.exit (E.P.et (E.P.et (E.P.eh (E.To.bodyN (fn := Tryz.f104) [] ?_ ?_))))
 · exact trivial
 intro w h
 exact ⟨(), trivial, rfl, A.dq [1, 2] [0] h⟩
def Q.t0 : Nat → Q.Sh := (Q.upt (fun _ => Q.sh0) 1 ⟨true, true, true, true, 0, 0, 0⟩)
def Q.t1 : Nat → Q.Sh := (Q.upt Q.t0 2 ⟨true, true, true, true, 0, 0, 0⟩)
def Q.t2 : Nat → Q.Sh := (Q.upt Q.t1 3 ⟨true, true, true, true, 0, 0, 0⟩)
def Q.t3 : Nat → Q.Sh := (Q.upt Q.t2 4 ⟨true, true, true, true, 0, 0, 0⟩)
def Q.t4 : Nat → Q.Sh := (Q.upt Q.t3 5 ⟨true, true, true, true, 0, 0, 0⟩)
def Q.t5 : Nat → Q.Sh := (Q.upt Q.t4 6 ⟨true, true, true, true, 0, 0, 0⟩)
def Q.t6 : Nat → Q.Sh := (Q.upt Q.t5 7 ⟨true, true, true, true, 0, 0, 0⟩)
def Q.t7 : Nat → Q.Sh := (Q.upt Q.t6 8 ⟨true, true, true, true, 0, 0, 0⟩)
def Q.t8 : Nat → Q.Sh := (Q.upt Q.t7 9 ⟨true, true, true, true, 0, 0, 0⟩)
def Q.t9 : Nat → Q.Sh := (Q.upt Q.t8 10 ⟨true, true, true, true, 0, 0, 0⟩)
def Q.t10 : Nat → Q.Sh := (Q.upt Q.t9 11 ⟨true, true, true, true, 0, 0, 0⟩)
def Q.t11 : Nat → Q.Sh := (Q.upt Q.t10 12 ⟨true, true, true, true, 0, 0, 0⟩)
def Q.t12 : Nat → Q.Sh := (Q.upt Q.t11 16 ⟨true, true, true, false, 1, 18, 0⟩)
def Q.t13 : Nat → Q.Sh := (Q.upt Q.t12 17 ⟨true, true, true, false, 1, 18, 0⟩)
def Q.t14 : Nat → Q.Sh := (Q.upt Q.t13 18 ⟨true, true, true, false, 1, 18, 0⟩)
def Q.t15 : Nat → Q.Sh := (Q.upt Q.t14 19 ⟨true, true, true, false, 1, 18, 0⟩)
def Q.t16 : Nat → Q.Sh := (Q.upt Q.t15 20 ⟨true, true, true, false, 1, 18, 0⟩)
def Q.t17 : Nat → Q.Sh := (Q.upt Q.t16 21 ⟨true, true, true, false, 1, 18, 0⟩)
def Q.t18 : Nat → Q.Sh := (Q.upt Q.t17 22 ⟨true, true, true, false, 1, 18, 0⟩)
def Q.t19 : Nat → Q.Sh := (Q.upt Q.t18 23 ⟨true, true, true, false, 1, 18, 0⟩)
def Q.t20 : Nat → Q.Sh := (Q.upt Q.t19 24 ⟨true, true, true, false, 1, 18, 0⟩)
def Q.t21 : Nat → Q.Sh := (Q.upt Q.t20 25 ⟨true, true, true, false, 1, 18, 0⟩)
def Q.t22 : Nat → Q.Sh := (Q.upt Q.t21 26 ⟨true, true, true, false, 1, 18, 0⟩)
def Q.t23 : Nat → Q.Sh := (Q.upt Q.t22 27 ⟨true, true, true, false, 1, 18, 0⟩)
def Q.t24 : Nat → Q.Sh := (Q.upt (Q.upt (Q.upt Q.t23 17 ⟨true, true, true, false, 2, 18, 0⟩) 18 ⟨true, true, true, false, 2, 18, 0⟩) 19 ⟨true, true, true, false, 2, 18, 0⟩)
def Q.t25 : Nat → Q.Sh := (Q.upt (Q.upt (Q.upt (Q.upt (Q.upt (Q.upt Q.t24 32 ⟨true, true, true, false, 1, 18, 0⟩) 33 ⟨true, true, true, false, 1, 18, 0⟩) 34 ⟨true, true, true, false, 1, 18, 0⟩) 35 ⟨true, true, true, false, 1, 18, 0⟩) 36 ⟨true, true, true, false, 1, 18, 0⟩) 37 ⟨true, true, true, false, 1, 18, 0⟩)
def Q.t26 : Nat → Q.Sh := (Q.upt Q.t25 40 ⟨true, true, false, false, 1, 22, 0⟩)
def Q.t27 : Nat → Q.Sh := (Q.upt Q.t26 41 ⟨true, true, false, false, 2, 22, 0⟩)
def Q.t28 : Nat → Q.Sh := (Q.upt Q.t27 48 ⟨true, false, false, false, 2, 18, 0⟩)
def Q.t29 : Nat → Q.Sh := (Q.upt (Q.upt (Q.upt Q.t28 49 ⟨true, false, false, false, 0, 0, 0⟩) 50 ⟨true, false, false, false, 0, 0, 0⟩) 51 ⟨true, false, false, false, 0, 0, 0⟩)
def Q.t30 : Nat → Q.Sh := (Q.upt Q.t29 52 ⟨true, false, true, false, 0, 0, 0⟩)
def Q.t31 : Nat → Q.Sh := (Q.upt Q.t30 53 ⟨true, true, false, false, 2, 18, 3⟩)
def Q.t32 : Nat → Q.Sh := (Q.upt Q.t31 54 ⟨true, false, true, false, 2, 18, 4⟩)
def Q.shf : Nat → Q.Sh := Q.t32
theorem Shapes_rd  : A.Rd Tryz.prog 102 #[] [] (.agg (Q.tab Q.t32).toArray) := by
 intro w oo aa hh
 refine E.enter (n := 61) (S := oo) Tryz.func102 rfl rfl (by kernel_rfl) (A.start (L := []) hh) (E.sr (E.G.new (fun g => E.pt g) (Q.tab (fun _ => Q.sh0)) 158 (fun w => by kernel_rfl) (by kernel_rfl) (fun g1 => E.tr (E.G.new (fun g => E.pt g) (Q.tab (fun _ => Q.sh0)) 158 (fun w => by kernel_rfl) (by kernel_rfl) (fun g2 => E.tr (E.op (.func (.func 104) #[] #[E.pt g2]) (E.op (.func (.func 104) #[] #[E.pt g2]) (E.To.code (E.C.seq (E.sr (E.op (E.i 1) ?_)))))))))))
 refine E.To.code (E.C.block (E.C.rounds 12 (E.C.seq (E.sr (E.op (E.i 1) (E.op (.bool true) (E.To.code (E.C.condT (by kernel_rfl) (by kernel_rfl) (E.C.skip (E.To.code (E.C.seq (E.C.block ?_))))))))))))
 refine E.C.region (E.op (.func (.func 104) #[] #[E.pt g2]) (E.vl (.agg #[.bool false, .bool true, .bool true, .bool true, E.i 0, E.i 0, E.u 0]) (fun w h => E.run_build #[.bool false, .bool true, .bool true, .bool true, E.i 0, E.i 0, E.u 0] (by kernel_rfl) w) (E.op (E.i 1) (E.G.buildSlice [E.i 1] (by kernel_rfl) (by kernel_rfl) (fun g3 => A.G.call (I := Unit) (D := fun _ => True) (V := fun _ => .tuple #[]) (q := fun _ => [A.blk g2 (Q.tab Q.t0), A.blk g3 ([E.i 1])]) [A.blk g1 (Q.tab (fun _ => Q.sh0))] (fun _ => [(g2, (Q.tab Q.t0)), (g3, [E.i 1]), (g1, (Q.tab (fun _ => Q.sh0)))]) (fun _ => []) (Set1 (gt := g2) (go := g3) (f := (fun _ => Q.sh0)) ⟨false, true, true, true, 0, 0, 0⟩ 1 (by decide)) (by kernel_rfl) (A.pn [1, 0, 2]) (fun _ => A.pm [0, 1, 2] (by kernel_rfl) (by kernel_rfl)) (fun w _ => by kernel_rfl) (by kernel_rfl) (fun _ hd4 => E.P.nb (E.To.code (E.C.region (E.op (E.i 1) (E.op (E.i 2) (E.op (E.i 2) (E.To.rounds 11 ?_))))))))))))
 refine E.wk [(0, E.pt g1), (1, E.pt g2), (2, .func (.func 104) #[] #[E.pt g2]), (3, E.i 2), (6, E.i 1), (7, .bool true), (8, E.i 1), (9, E.i 2), (10, .func (.func 104) #[] #[E.pt g2]), (11, .agg #[.bool false, .bool true, .bool true, .bool true, E.i 0, E.i 0, E.u 0]), (12, E.i 1), (13, .slice (some ⟨g3, 0, none⟩) 1 1)] [(g2, (Q.tab Q.t0)), (g3, [E.i 1]), (g1, (Q.tab (fun _ => Q.sh0)))] Nz.sub (E.C.seq (E.sr (E.op (E.i 2) (E.op (.bool true) (E.To.code (E.C.condT (by kernel_rfl) (by kernel_rfl) (E.C.skip (E.To.code (E.C.seq (E.C.block (E.C.region (E.op (.func (.func 104) #[] #[E.pt g2]) ?_))))))))))))
 refine E.vl (.agg #[.bool false, .bool true, .bool true, .bool true, E.i 0, E.i 0, E.u 0]) (fun w h => E.run_build #[.bool false, .bool true, .bool true, .bool true, E.i 0, E.i 0, E.u 0] (by kernel_rfl) w) (E.op (E.i 2) (E.G.buildSlice [E.i 2] (by kernel_rfl) (by kernel_rfl) (fun g5 => A.G.call (I := Unit) (D := fun _ => True) (V := fun _ => .tuple #[]) (q := fun _ => [A.blk g2 (Q.tab Q.t1), A.blk g5 ([E.i 2])]) [A.blk g3 ([E.i 1]), A.blk g1 (Q.tab (fun _ => Q.sh0))] (fun _ => [(g2, (Q.tab Q.t1)), (g5, [E.i 2]), (g3, [E.i 1]), (g1, (Q.tab (fun _ => Q.sh0)))]) (fun _ => []) (Set1 (gt := g2) (go := g5) (f := Q.t0) ⟨false, true, true, true, 0, 0, 0⟩ 2 (by decide)) (by kernel_rfl) (A.pn [1, 0, 2, 3]) (fun _ => A.pm [0, 1, 2, 3] (by kernel_rfl) (by kernel_rfl)) (fun w _ => by kernel_rfl) (by kernel_rfl) (fun _ hd6 => E.P.nb (E.To.code (E.C.region (E.op (E.i 2) (E.op (E.i 3) (E.op (E.i 3) (E.To.rounds 10 (E.wk [(0, E.pt g1), (1, E.pt g2), (2, .func (.func 104) #[] #[E.pt g2]), (3, E.i 3), (6, E.i 2), (7, .bool true), (8, E.i 2), (9, E.i 3), (10, .func (.func 104) #[] #[E.pt g2]), (11, .agg #[.bool false, .bool true, .bool true, .bool true, E.i 0, E.i 0, E.u 0]), (12, E.i 2), (13, .slice (some ⟨g5, 0, none⟩) 1 1)] [(g2, (Q.tab Q.t1)), (g5, [E.i 2]), (g1, (Q.tab (fun _ => Q.sh0)))] Nz.sub (E.C.seq ?_))))))))))))
 refine E.sr (E.op (E.i 3) (E.op (.bool true) (E.To.code (E.C.condT (by kernel_rfl) (by kernel_rfl) (E.C.skip (E.To.code (E.C.seq (E.C.block (E.C.region (E.op (.func (.func 104) #[] #[E.pt g2]) (E.vl (.agg #[.bool false, .bool true, .bool true, .bool true, E.i 0, E.i 0, E.u 0]) (fun w h => E.run_build #[.bool false, .bool true, .bool true, .bool true, E.i 0, E.i 0, E.u 0] (by kernel_rfl) w) (E.op (E.i 3) ?_))))))))))))
 refine E.G.buildSlice [E.i 3] (by kernel_rfl) (by kernel_rfl) (fun g7 => A.G.call (I := Unit) (D := fun _ => True) (V := fun _ => .tuple #[]) (q := fun _ => [A.blk g2 (Q.tab Q.t2), A.blk g7 ([E.i 3])]) [A.blk g5 ([E.i 2]), A.blk g1 (Q.tab (fun _ => Q.sh0))] (fun _ => [(g2, (Q.tab Q.t2)), (g7, [E.i 3]), (g5, [E.i 2]), (g1, (Q.tab (fun _ => Q.sh0)))]) (fun _ => []) (Set1 (gt := g2) (go := g7) (f := Q.t1) ⟨false, true, true, true, 0, 0, 0⟩ 3 (by decide)) (by kernel_rfl) (A.pn [1, 0, 2, 3]) (fun _ => A.pm [0, 1, 2, 3] (by kernel_rfl) (by kernel_rfl)) (fun w _ => by kernel_rfl) (by kernel_rfl) (fun _ hd8 => E.P.nb (E.To.code (E.C.region (E.op (E.i 3) (E.op (E.i 4) (E.op (E.i 4) (E.To.rounds 9 (E.wk [(0, E.pt g1), (1, E.pt g2), (2, .func (.func 104) #[] #[E.pt g2]), (3, E.i 4), (6, E.i 3), (7, .bool true), (8, E.i 3), (9, E.i 4), (10, .func (.func 104) #[] #[E.pt g2]), (11, .agg #[.bool false, .bool true, .bool true, .bool true, E.i 0, E.i 0, E.u 0]), (12, E.i 3), (13, .slice (some ⟨g7, 0, none⟩) 1 1)] [(g2, (Q.tab Q.t2)), (g7, [E.i 3]), (g1, (Q.tab (fun _ => Q.sh0)))] Nz.sub (E.C.seq (E.sr (E.op (E.i 4) ?_))))))))))))
 refine E.op (.bool true) (E.To.code (E.C.condT (by kernel_rfl) (by kernel_rfl) (E.C.skip (E.To.code (E.C.seq (E.C.block (E.C.region (E.op (.func (.func 104) #[] #[E.pt g2]) (E.vl (.agg #[.bool false, .bool true, .bool true, .bool true, E.i 0, E.i 0, E.u 0]) (fun w h => E.run_build #[.bool false, .bool true, .bool true, .bool true, E.i 0, E.i 0, E.u 0] (by kernel_rfl) w) (E.op (E.i 4) (E.G.buildSlice [E.i 4] (by kernel_rfl) (by kernel_rfl) (fun g9 => A.G.call (I := Unit) (D := fun _ => True) (V := fun _ => .tuple #[]) (q := fun _ => [A.blk g2 (Q.tab Q.t3), A.blk g9 ([E.i 4])]) [A.blk g7 ([E.i 3]), A.blk g1 (Q.tab (fun _ => Q.sh0))] (fun _ => [(g2, (Q.tab Q.t3)), (g9, [E.i 4]), (g7, [E.i 3]), (g1, (Q.tab (fun _ => Q.sh0)))]) (fun _ => []) (Set1 (gt := g2) (go := g9) (f := Q.t2) ⟨false, true, true, true, 0, 0, 0⟩ 4 (by decide)) (by kernel_rfl) (A.pn [1, 0, 2, 3]) (fun _ => A.pm [0, 1, 2, 3] (by kernel_rfl) (by kernel_rfl)) (fun w _ => by kernel_rfl) (by kernel_rfl) (fun _ hd10 => ?_)))))))))))))
 refine E.P.nb (E.To.code (E.C.region (E.op (E.i 4) (E.op (E.i 5) (E.op (E.i 5) (E.To.rounds 8 (E.wk [(0, E.pt g1), (1, E.pt g2), (2, .func (.func 104) #[] #[E.pt g2]), (3, E.i 5), (6, E.i 4), (7, .bool true), (8, E.i 4), (9, E.i 5), (10, .func (.func 104) #[] #[E.pt g2]), (11, .agg #[.bool false, .bool true, .bool true, .bool true, E.i 0, E.i 0, E.u 0]), (12, E.i 4), (13, .slice (some ⟨g9, 0, none⟩) 1 1)] [(g2, (Q.tab Q.t3)), (g9, [E.i 4]), (g1, (Q.tab (fun _ => Q.sh0)))] Nz.sub (E.C.seq (E.sr (E.op (E.i 5) (E.op (.bool true) (E.To.code ?_))))))))))))
 refine E.C.condT (by kernel_rfl) (by kernel_rfl) (E.C.skip (E.To.code (E.C.seq (E.C.block (E.C.region (E.op (.func (.func 104) #[] #[E.pt g2]) (E.vl (.agg #[.bool false, .bool true, .bool true, .bool true, E.i 0, E.i 0, E.u 0]) (fun w h => E.run_build #[.bool false, .bool true, .bool true, .bool true, E.i 0, E.i 0, E.u 0] (by kernel_rfl) w) (E.op (E.i 5) (E.G.buildSlice [E.i 5] (by kernel_rfl) (by kernel_rfl) (fun g11 => A.G.call (I := Unit) (D := fun _ => True) (V := fun _ => .tuple #[]) (q := fun _ => [A.blk g2 (Q.tab Q.t4), A.blk g11 ([E.i 5])]) [A.blk g9 ([E.i 4]), A.blk g1 (Q.tab (fun _ => Q.sh0))] (fun _ => [(g2, (Q.tab Q.t4)), (g11, [E.i 5]), (g9, [E.i 4]), (g1, (Q.tab (fun _ => Q.sh0)))]) (fun _ => []) (Set1 (gt := g2) (go := g11) (f := Q.t3) ⟨false, true, true, true, 0, 0, 0⟩ 5 (by decide)) (by kernel_rfl) (A.pn [1, 0, 2, 3]) (fun _ => A.pm [0, 1, 2, 3] (by kernel_rfl) (by kernel_rfl)) (fun w _ => by kernel_rfl) (by kernel_rfl) (fun _ hd12 => E.P.nb (E.To.code (E.C.region ?_)))))))))))))
 refine E.op (E.i 5) (E.op (E.i 6) (E.op (E.i 6) (E.To.rounds 7 (E.wk [(0, E.pt g1), (1, E.pt g2), (2, .func (.func 104) #[] #[E.pt g2]), (3, E.i 6), (6, E.i 5), (7, .bool true), (8, E.i 5), (9, E.i 6), (10, .func (.func 104) #[] #[E.pt g2]), (11, .agg #[.bool false, .bool true, .bool true, .bool true, E.i 0, E.i 0, E.u 0]), (12, E.i 5), (13, .slice (some ⟨g11, 0, none⟩) 1 1)] [(g2, (Q.tab Q.t4)), (g11, [E.i 5]), (g1, (Q.tab (fun _ => Q.sh0)))] Nz.sub (E.C.seq (E.sr (E.op (E.i 6) (E.op (.bool true) (E.To.code (E.C.condT (by kernel_rfl) (by kernel_rfl) (E.C.skip (E.To.code ?_))))))))))))
 refine E.C.seq (E.C.block (E.C.region (E.op (.func (.func 104) #[] #[E.pt g2]) (E.vl (.agg #[.bool false, .bool true, .bool true, .bool true, E.i 0, E.i 0, E.u 0]) (fun w h => E.run_build #[.bool false, .bool true, .bool true, .bool true, E.i 0, E.i 0, E.u 0] (by kernel_rfl) w) (E.op (E.i 6) (E.G.buildSlice [E.i 6] (by kernel_rfl) (by kernel_rfl) (fun g13 => A.G.call (I := Unit) (D := fun _ => True) (V := fun _ => .tuple #[]) (q := fun _ => [A.blk g2 (Q.tab Q.t5), A.blk g13 ([E.i 6])]) [A.blk g11 ([E.i 5]), A.blk g1 (Q.tab (fun _ => Q.sh0))] (fun _ => [(g2, (Q.tab Q.t5)), (g13, [E.i 6]), (g11, [E.i 5]), (g1, (Q.tab (fun _ => Q.sh0)))]) (fun _ => []) (Set1 (gt := g2) (go := g13) (f := Q.t4) ⟨false, true, true, true, 0, 0, 0⟩ 6 (by decide)) (by kernel_rfl) (A.pn [1, 0, 2, 3]) (fun _ => A.pm [0, 1, 2, 3] (by kernel_rfl) (by kernel_rfl)) (fun w _ => by kernel_rfl) (by kernel_rfl) (fun _ hd14 => E.P.nb (E.To.code (E.C.region (E.op (E.i 6) (E.op (E.i 7) ?_))))))))))))
 refine E.op (E.i 7) (E.To.rounds 6 (E.wk [(0, E.pt g1), (1, E.pt g2), (2, .func (.func 104) #[] #[E.pt g2]), (3, E.i 7), (6, E.i 6), (7, .bool true), (8, E.i 6), (9, E.i 7), (10, .func (.func 104) #[] #[E.pt g2]), (11, .agg #[.bool false, .bool true, .bool true, .bool true, E.i 0, E.i 0, E.u 0]), (12, E.i 6), (13, .slice (some ⟨g13, 0, none⟩) 1 1)] [(g2, (Q.tab Q.t5)), (g13, [E.i 6]), (g1, (Q.tab (fun _ => Q.sh0)))] Nz.sub (E.C.seq (E.sr (E.op (E.i 7) (E.op (.bool true) (E.To.code (E.C.condT (by kernel_rfl) (by kernel_rfl) (E.C.skip (E.To.code (E.C.seq (E.C.block ?_))))))))))))
 refine E.C.region (E.op (.func (.func 104) #[] #[E.pt g2]) (E.vl (.agg #[.bool false, .bool true, .bool true, .bool true, E.i 0, E.i 0, E.u 0]) (fun w h => E.run_build #[.bool false, .bool true, .bool true, .bool true, E.i 0, E.i 0, E.u 0] (by kernel_rfl) w) (E.op (E.i 7) (E.G.buildSlice [E.i 7] (by kernel_rfl) (by kernel_rfl) (fun g15 => A.G.call (I := Unit) (D := fun _ => True) (V := fun _ => .tuple #[]) (q := fun _ => [A.blk g2 (Q.tab Q.t6), A.blk g15 ([E.i 7])]) [A.blk g13 ([E.i 6]), A.blk g1 (Q.tab (fun _ => Q.sh0))] (fun _ => [(g2, (Q.tab Q.t6)), (g15, [E.i 7]), (g13, [E.i 6]), (g1, (Q.tab (fun _ => Q.sh0)))]) (fun _ => []) (Set1 (gt := g2) (go := g15) (f := Q.t5) ⟨false, true, true, true, 0, 0, 0⟩ 7 (by decide)) (by kernel_rfl) (A.pn [1, 0, 2, 3]) (fun _ => A.pm [0, 1, 2, 3] (by kernel_rfl) (by kernel_rfl)) (fun w _ => by kernel_rfl) (by kernel_rfl) (fun _ hd16 => E.P.nb (E.To.code (E.C.region (E.op (E.i 7) (E.op (E.i 8) (E.op (E.i 8) (E.To.rounds 5 ?_))))))))))))
 refine E.wk [(0, E.pt g1), (1, E.pt g2), (2, .func (.func 104) #[] #[E.pt g2]), (3, E.i 8), (6, E.i 7), (7, .bool true), (8, E.i 7), (9, E.i 8), (10, .func (.func 104) #[] #[E.pt g2]), (11, .agg #[.bool false, .bool true, .bool true, .bool true, E.i 0, E.i 0, E.u 0]), (12, E.i 7), (13, .slice (some ⟨g15, 0, none⟩) 1 1)] [(g2, (Q.tab Q.t6)), (g15, [E.i 7]), (g1, (Q.tab (fun _ => Q.sh0)))] Nz.sub (E.C.seq (E.sr (E.op (E.i 8) (E.op (.bool true) (E.To.code (E.C.condT (by kernel_rfl) (by kernel_rfl) (E.C.skip (E.To.code (E.C.seq (E.C.block (E.C.region (E.op (.func (.func 104) #[] #[E.pt g2]) ?_))))))))))))
 refine E.vl (.agg #[.bool false, .bool true, .bool true, .bool true, E.i 0, E.i 0, E.u 0]) (fun w h => E.run_build #[.bool false, .bool true, .bool true, .bool true, E.i 0, E.i 0, E.u 0] (by kernel_rfl) w) (E.op (E.i 8) (E.G.buildSlice [E.i 8] (by kernel_rfl) (by kernel_rfl) (fun g17 => A.G.call (I := Unit) (D := fun _ => True) (V := fun _ => .tuple #[]) (q := fun _ => [A.blk g2 (Q.tab Q.t7), A.blk g17 ([E.i 8])]) [A.blk g15 ([E.i 7]), A.blk g1 (Q.tab (fun _ => Q.sh0))] (fun _ => [(g2, (Q.tab Q.t7)), (g17, [E.i 8]), (g15, [E.i 7]), (g1, (Q.tab (fun _ => Q.sh0)))]) (fun _ => []) (Set1 (gt := g2) (go := g17) (f := Q.t6) ⟨false, true, true, true, 0, 0, 0⟩ 8 (by decide)) (by kernel_rfl) (A.pn [1, 0, 2, 3]) (fun _ => A.pm [0, 1, 2, 3] (by kernel_rfl) (by kernel_rfl)) (fun w _ => by kernel_rfl) (by kernel_rfl) (fun _ hd18 => E.P.nb (E.To.code (E.C.region (E.op (E.i 8) (E.op (E.i 9) (E.op (E.i 9) (E.To.rounds 4 (E.wk [(0, E.pt g1), (1, E.pt g2), (2, .func (.func 104) #[] #[E.pt g2]), (3, E.i 9), (6, E.i 8), (7, .bool true), (8, E.i 8), (9, E.i 9), (10, .func (.func 104) #[] #[E.pt g2]), (11, .agg #[.bool false, .bool true, .bool true, .bool true, E.i 0, E.i 0, E.u 0]), (12, E.i 8), (13, .slice (some ⟨g17, 0, none⟩) 1 1)] [(g2, (Q.tab Q.t7)), (g17, [E.i 8]), (g1, (Q.tab (fun _ => Q.sh0)))] Nz.sub (E.C.seq ?_))))))))))))
 refine E.sr (E.op (E.i 9) (E.op (.bool true) (E.To.code (E.C.condT (by kernel_rfl) (by kernel_rfl) (E.C.skip (E.To.code (E.C.seq (E.C.block (E.C.region (E.op (.func (.func 104) #[] #[E.pt g2]) (E.vl (.agg #[.bool false, .bool true, .bool true, .bool true, E.i 0, E.i 0, E.u 0]) (fun w h => E.run_build #[.bool false, .bool true, .bool true, .bool true, E.i 0, E.i 0, E.u 0] (by kernel_rfl) w) (E.op (E.i 9) ?_))))))))))))
 refine E.G.buildSlice [E.i 9] (by kernel_rfl) (by kernel_rfl) (fun g19 => A.G.call (I := Unit) (D := fun _ => True) (V := fun _ => .tuple #[]) (q := fun _ => [A.blk g2 (Q.tab Q.t8), A.blk g19 ([E.i 9])]) [A.blk g17 ([E.i 8]), A.blk g1 (Q.tab (fun _ => Q.sh0))] (fun _ => [(g2, (Q.tab Q.t8)), (g19, [E.i 9]), (g17, [E.i 8]), (g1, (Q.tab (fun _ => Q.sh0)))]) (fun _ => []) (Set1 (gt := g2) (go := g19) (f := Q.t7) ⟨false, true, true, true, 0, 0, 0⟩ 9 (by decide)) (by kernel_rfl) (A.pn [1, 0, 2, 3]) (fun _ => A.pm [0, 1, 2, 3] (by kernel_rfl) (by kernel_rfl)) (fun w _ => by kernel_rfl) (by kernel_rfl) (fun _ hd20 => E.P.nb (E.To.code (E.C.region (E.op (E.i 9) (E.op (E.i 10) (E.op (E.i 10) (E.To.rounds 3 (E.wk [(0, E.pt g1), (1, E.pt g2), (2, .func (.func 104) #[] #[E.pt g2]), (3, E.i 10), (6, E.i 9), (7, .bool true), (8, E.i 9), (9, E.i 10), (10, .func (.func 104) #[] #[E.pt g2]), (11, .agg #[.bool false, .bool true, .bool true, .bool true, E.i 0, E.i 0, E.u 0]), (12, E.i 9), (13, .slice (some ⟨g19, 0, none⟩) 1 1)] [(g2, (Q.tab Q.t8)), (g19, [E.i 9]), (g1, (Q.tab (fun _ => Q.sh0)))] Nz.sub (E.C.seq (E.sr (E.op (E.i 10) ?_))))))))))))
 refine E.op (.bool true) (E.To.code (E.C.condT (by kernel_rfl) (by kernel_rfl) (E.C.skip (E.To.code (E.C.seq (E.C.block (E.C.region (E.op (.func (.func 104) #[] #[E.pt g2]) (E.vl (.agg #[.bool false, .bool true, .bool true, .bool true, E.i 0, E.i 0, E.u 0]) (fun w h => E.run_build #[.bool false, .bool true, .bool true, .bool true, E.i 0, E.i 0, E.u 0] (by kernel_rfl) w) (E.op (E.i 10) (E.G.buildSlice [E.i 10] (by kernel_rfl) (by kernel_rfl) (fun g21 => A.G.call (I := Unit) (D := fun _ => True) (V := fun _ => .tuple #[]) (q := fun _ => [A.blk g2 (Q.tab Q.t9), A.blk g21 ([E.i 10])]) [A.blk g19 ([E.i 9]), A.blk g1 (Q.tab (fun _ => Q.sh0))] (fun _ => [(g2, (Q.tab Q.t9)), (g21, [E.i 10]), (g19, [E.i 9]), (g1, (Q.tab (fun _ => Q.sh0)))]) (fun _ => []) (Set1 (gt := g2) (go := g21) (f := Q.t8) ⟨false, true, true, true, 0, 0, 0⟩ 10 (by decide)) (by kernel_rfl) (A.pn [1, 0, 2, 3]) (fun _ => A.pm [0, 1, 2, 3] (by kernel_rfl) (by kernel_rfl)) (fun w _ => by kernel_rfl) (by kernel_rfl) (fun _ hd22 => ?_)))))))))))))
 refine E.P.nb (E.To.code (E.C.region (E.op (E.i 10) (E.op (E.i 11) (E.op (E.i 11) (E.To.rounds 2 (E.wk [(0, E.pt g1), (1, E.pt g2), (2, .func (.func 104) #[] #[E.pt g2]), (3, E.i 11), (6, E.i 10), (7, .bool true), (8, E.i 10), (9, E.i 11), (10, .func (.func 104) #[] #[E.pt g2]), (11, .agg #[.bool false, .bool true, .bool true, .bool true, E.i 0, E.i 0, E.u 0]), (12, E.i 10), (13, .slice (some ⟨g21, 0, none⟩) 1 1)] [(g2, (Q.tab Q.t9)), (g21, [E.i 10]), (g1, (Q.tab (fun _ => Q.sh0)))] Nz.sub (E.C.seq (E.sr (E.op (E.i 11) (E.op (.bool true) (E.To.code ?_))))))))))))
 refine E.C.condT (by kernel_rfl) (by kernel_rfl) (E.C.skip (E.To.code (E.C.seq (E.C.block (E.C.region (E.op (.func (.func 104) #[] #[E.pt g2]) (E.vl (.agg #[.bool false, .bool true, .bool true, .bool true, E.i 0, E.i 0, E.u 0]) (fun w h => E.run_build #[.bool false, .bool true, .bool true, .bool true, E.i 0, E.i 0, E.u 0] (by kernel_rfl) w) (E.op (E.i 11) (E.G.buildSlice [E.i 11] (by kernel_rfl) (by kernel_rfl) (fun g23 => A.G.call (I := Unit) (D := fun _ => True) (V := fun _ => .tuple #[]) (q := fun _ => [A.blk g2 (Q.tab Q.t10), A.blk g23 ([E.i 11])]) [A.blk g21 ([E.i 10]), A.blk g1 (Q.tab (fun _ => Q.sh0))] (fun _ => [(g2, (Q.tab Q.t10)), (g23, [E.i 11]), (g21, [E.i 10]), (g1, (Q.tab (fun _ => Q.sh0)))]) (fun _ => []) (Set1 (gt := g2) (go := g23) (f := Q.t9) ⟨false, true, true, true, 0, 0, 0⟩ 11 (by decide)) (by kernel_rfl) (A.pn [1, 0, 2, 3]) (fun _ => A.pm [0, 1, 2, 3] (by kernel_rfl) (by kernel_rfl)) (fun w _ => by kernel_rfl) (by kernel_rfl) (fun _ hd24 => E.P.nb (E.To.code (E.C.region ?_)))))))))))))
 refine E.op (E.i 11) (E.op (E.i 12) (E.op (E.i 12) (E.To.rounds 1 (E.wk [(0, E.pt g1), (1, E.pt g2), (2, .func (.func 104) #[] #[E.pt g2]), (3, E.i 12), (6, E.i 11), (7, .bool true), (8, E.i 11), (9, E.i 12), (10, .func (.func 104) #[] #[E.pt g2]), (11, .agg #[.bool false, .bool true, .bool true, .bool true, E.i 0, E.i 0, E.u 0]), (12, E.i 11), (13, .slice (some ⟨g23, 0, none⟩) 1 1)] [(g2, (Q.tab Q.t10)), (g23, [E.i 11]), (g1, (Q.tab (fun _ => Q.sh0)))] Nz.sub (E.C.seq (E.sr (E.op (E.i 12) (E.op (.bool true) (E.To.code (E.C.condT (by kernel_rfl) (by kernel_rfl) (E.C.skip (E.To.code ?_))))))))))))
 refine E.C.seq (E.C.block (E.C.region (E.op (.func (.func 104) #[] #[E.pt g2]) (E.vl (.agg #[.bool false, .bool true, .bool true, .bool true, E.i 0, E.i 0, E.u 0]) (fun w h => E.run_build #[.bool false, .bool true, .bool true, .bool true, E.i 0, E.i 0, E.u 0] (by kernel_rfl) w) (E.op (E.i 12) (E.G.buildSlice [E.i 12] (by kernel_rfl) (by kernel_rfl) (fun g25 => A.G.call (I := Unit) (D := fun _ => True) (V := fun _ => .tuple #[]) (q := fun _ => [A.blk g2 (Q.tab Q.t11), A.blk g25 ([E.i 12])]) [A.blk g23 ([E.i 11]), A.blk g1 (Q.tab (fun _ => Q.sh0))] (fun _ => [(g2, (Q.tab Q.t11)), (g25, [E.i 12]), (g23, [E.i 11]), (g1, (Q.tab (fun _ => Q.sh0)))]) (fun _ => []) (Set1 (gt := g2) (go := g25) (f := Q.t10) ⟨false, true, true, true, 0, 0, 0⟩ 12 (by decide)) (by kernel_rfl) (A.pn [1, 0, 2, 3]) (fun _ => A.pm [0, 1, 2, 3] (by kernel_rfl) (by kernel_rfl)) (fun w _ => by kernel_rfl) (by kernel_rfl) (fun _ hd26 => E.P.nb (E.To.code (E.C.region (E.op (E.i 12) (E.op (E.i 13) ?_))))))))))))
 refine E.op (E.i 13) (E.To.rounds 0 (E.wk [(0, E.pt g1), (1, E.pt g2), (2, .func (.func 104) #[] #[E.pt g2]), (3, E.i 13), (6, E.i 12), (7, .bool true), (8, E.i 12), (9, E.i 13), (10, .func (.func 104) #[] #[E.pt g2]), (11, .agg #[.bool false, .bool true, .bool true, .bool true, E.i 0, E.i 0, E.u 0]), (12, E.i 12), (13, .slice (some ⟨g25, 0, none⟩) 1 1)] [(g2, (Q.tab Q.t11)), (g25, [E.i 12]), (g1, (Q.tab (fun _ => Q.sh0)))] Nz.sub (E.C.seq (E.sr (E.op (E.i 13) (E.op (.bool false) (E.To.code (E.C.condF (by kernel_rfl) (by kernel_rfl) (E.C.exit (E.P.et (E.P.et (E.P.eh (E.To.code (E.wk [(0, E.pt g1), (1, E.pt g2), (2, .func (.func 104) #[] #[E.pt g2])] [(g2, (Q.tab Q.t11)), (g1, (Q.tab (fun _ => Q.sh0)))] Nz.sub (E.C.seq ?_)))))))))))))))
 refine E.sr (E.op (E.i 16) (E.To.code (E.C.block (E.C.rounds 12 (E.C.seq (E.sr (E.op (E.i 16) (E.op (.bool true) (E.To.code (E.C.condT (by kernel_rfl) (by kernel_rfl) (E.C.skip (E.To.code ?_))))))))))))
 refine E.C.seq (E.C.block (E.C.region (E.op (.func (.func 104) #[] #[E.pt g2]) (E.vl (.agg #[.bool false, .bool true, .bool true, .bool false, E.i 1, E.i 18, E.u 0]) (fun w h => E.run_build #[.bool false, .bool true, .bool true, .bool false, E.i 1, E.i 18, E.u 0] (by kernel_rfl) w) (E.op (E.i 16) (E.G.buildSlice [E.i 16] (by kernel_rfl) (by kernel_rfl) (fun g27 => A.G.call (I := Unit) (D := fun _ => True) (V := fun _ => .tuple #[]) (q := fun _ => [A.blk g2 (Q.tab Q.t12), A.blk g27 ([E.i 16])]) [A.blk g1 (Q.tab (fun _ => Q.sh0))] (fun _ => [(g2, (Q.tab Q.t12)), (g27, [E.i 16]), (g1, (Q.tab (fun _ => Q.sh0)))]) (fun _ => []) (Set1 (gt := g2) (go := g27) (f := Q.t11) ⟨false, true, true, false, 1, 18, 0⟩ 16 (by decide)) (by kernel_rfl) (A.pn [1, 0, 2]) (fun _ => A.pm [0, 1, 2] (by kernel_rfl) (by kernel_rfl)) (fun w _ => by kernel_rfl) (by kernel_rfl) (fun _ hd28 => E.P.nb (E.To.code (E.C.region (E.op (E.i 16) (E.op (E.i 17) ?_))))))))))))
 refine E.op (E.i 17) (E.To.rounds 11 (E.wk [(0, E.pt g1), (1, E.pt g2), (2, .func (.func 104) #[] #[E.pt g2]), (4, E.i 17), (15, E.i 16), (16, .bool true), (17, E.i 16), (18, E.i 17), (19, .func (.func 104) #[] #[E.pt g2]), (20, .agg #[.bool false, .bool true, .bool true, .bool false, E.i 1, E.i 18, E.u 0]), (21, E.i 16), (22, .slice (some ⟨g27, 0, none⟩) 1 1)] [(g2, (Q.tab Q.t12)), (g27, [E.i 16]), (g1, (Q.tab (fun _ => Q.sh0)))] Nz.sub (E.C.seq (E.sr (E.op (E.i 17) (E.op (.bool true) (E.To.code (E.C.condT (by kernel_rfl) (by kernel_rfl) (E.C.skip (E.To.code (E.C.seq (E.C.block ?_))))))))))))
 refine E.C.region (E.op (.func (.func 104) #[] #[E.pt g2]) (E.vl (.agg #[.bool false, .bool true, .bool true, .bool false, E.i 1, E.i 18, E.u 0]) (fun w h => E.run_build #[.bool false, .bool true, .bool true, .bool false, E.i 1, E.i 18, E.u 0] (by kernel_rfl) w) (E.op (E.i 17) (E.G.buildSlice [E.i 17] (by kernel_rfl) (by kernel_rfl) (fun g29 => A.G.call (I := Unit) (D := fun _ => True) (V := fun _ => .tuple #[]) (q := fun _ => [A.blk g2 (Q.tab Q.t13), A.blk g29 ([E.i 17])]) [A.blk g27 ([E.i 16]), A.blk g1 (Q.tab (fun _ => Q.sh0))] (fun _ => [(g2, (Q.tab Q.t13)), (g29, [E.i 17]), (g27, [E.i 16]), (g1, (Q.tab (fun _ => Q.sh0)))]) (fun _ => []) (Set1 (gt := g2) (go := g29) (f := Q.t12) ⟨false, true, true, false, 1, 18, 0⟩ 17 (by decide)) (by kernel_rfl) (A.pn [1, 0, 2, 3]) (fun _ => A.pm [0, 1, 2, 3] (by kernel_rfl) (by kernel_rfl)) (fun w _ => by kernel_rfl) (by kernel_rfl) (fun _ hd30 => E.P.nb (E.To.code (E.C.region (E.op (E.i 17) (E.op (E.i 18) (E.op (E.i 18) (E.To.rounds 10 ?_))))))))))))
 refine E.wk [(0, E.pt g1), (1, E.pt g2), (2, .func (.func 104) #[] #[E.pt g2]), (4, E.i 18), (15, E.i 17), (16, .bool true), (17, E.i 17), (18, E.i 18), (19, .func (.func 104) #[] #[E.pt g2]), (20, .agg #[.bool false, .bool true, .bool true, .bool false, E.i 1, E.i 18, E.u 0]), (21, E.i 17), (22, .slice (some ⟨g29, 0, none⟩) 1 1)] [(g2, (Q.tab Q.t13)), (g29, [E.i 17]), (g1, (Q.tab (fun _ => Q.sh0)))] Nz.sub (E.C.seq (E.sr (E.op (E.i 18) (E.op (.bool true) (E.To.code (E.C.condT (by kernel_rfl) (by kernel_rfl) (E.C.skip (E.To.code (E.C.seq (E.C.block (E.C.region (E.op (.func (.func 104) #[] #[E.pt g2]) ?_))))))))))))
 refine E.vl (.agg #[.bool false, .bool true, .bool true, .bool false, E.i 1, E.i 18, E.u 0]) (fun w h => E.run_build #[.bool false, .bool true, .bool true, .bool false, E.i 1, E.i 18, E.u 0] (by kernel_rfl) w) (E.op (E.i 18) (E.G.buildSlice [E.i 18] (by kernel_rfl) (by kernel_rfl) (fun g31 => A.G.call (I := Unit) (D := fun _ => True) (V := fun _ => .tuple #[]) (q := fun _ => [A.blk g2 (Q.tab Q.t14), A.blk g31 ([E.i 18])]) [A.blk g29 ([E.i 17]), A.blk g1 (Q.tab (fun _ => Q.sh0))] (fun _ => [(g2, (Q.tab Q.t14)), (g31, [E.i 18]), (g29, [E.i 17]), (g1, (Q.tab (fun _ => Q.sh0)))]) (fun _ => []) (Set1 (gt := g2) (go := g31) (f := Q.t13) ⟨false, true, true, false, 1, 18, 0⟩ 18 (by decide)) (by kernel_rfl) (A.pn [1, 0, 2, 3]) (fun _ => A.pm [0, 1, 2, 3] (by kernel_rfl) (by kernel_rfl)) (fun w _ => by kernel_rfl) (by kernel_rfl) (fun _ hd32 => E.P.nb (E.To.code (E.C.region (E.op (E.i 18) (E.op (E.i 19) (E.op (E.i 19) (E.To.rounds 9 (E.wk [(0, E.pt g1), (1, E.pt g2), (2, .func (.func 104) #[] #[E.pt g2]), (4, E.i 19), (15, E.i 18), (16, .bool true), (17, E.i 18), (18, E.i 19), (19, .func (.func 104) #[] #[E.pt g2]), (20, .agg #[.bool false, .bool true, .bool true, .bool false, E.i 1, E.i 18, E.u 0]), (21, E.i 18), (22, .slice (some ⟨g31, 0, none⟩) 1 1)] [(g2, (Q.tab Q.t14)), (g31, [E.i 18]), (g1, (Q.tab (fun _ => Q.sh0)))] Nz.sub (E.C.seq ?_))))))))))))
 refine E.sr (E.op (E.i 19) (E.op (.bool true) (E.To.code (E.C.condT (by kernel_rfl) (by kernel_rfl) (E.C.skip (E.To.code (E.C.seq (E.C.block (E.C.region (E.op (.func (.func 104) #[] #[E.pt g2]) (E.vl (.agg #[.bool false, .bool true, .bool true, .bool false, E.i 1, E.i 18, E.u 0]) (fun w h => E.run_build #[.bool false, .bool true, .bool true, .bool false, E.i 1, E.i 18, E.u 0] (by kernel_rfl) w) (E.op (E.i 19) ?_))))))))))))
 refine E.G.buildSlice [E.i 19] (by kernel_rfl) (by kernel_rfl) (fun g33 => A.G.call (I := Unit) (D := fun _ => True) (V := fun _ => .tuple #[]) (q := fun _ => [A.blk g2 (Q.tab Q.t15), A.blk g33 ([E.i 19])]) [A.blk g31 ([E.i 18]), A.blk g1 (Q.tab (fun _ => Q.sh0))] (fun _ => [(g2, (Q.tab Q.t15)), (g33, [E.i 19]), (g31, [E.i 18]), (g1, (Q.tab (fun _ => Q.sh0)))]) (fun _ => []) (Set1 (gt := g2) (go := g33) (f := Q.t14) ⟨false, true, true, false, 1, 18, 0⟩ 19 (by decide)) (by kernel_rfl) (A.pn [1, 0, 2, 3]) (fun _ => A.pm [0, 1, 2, 3] (by kernel_rfl) (by kernel_rfl)) (fun w _ => by kernel_rfl) (by kernel_rfl) (fun _ hd34 => E.P.nb (E.To.code (E.C.region (E.op (E.i 19) (E.op (E.i 20) (E.op (E.i 20) (E.To.rounds 8 (E.wk [(0, E.pt g1), (1, E.pt g2), (2, .func (.func 104) #[] #[E.pt g2]), (4, E.i 20), (15, E.i 19), (16, .bool true), (17, E.i 19), (18, E.i 20), (19, .func (.func 104) #[] #[E.pt g2]), (20, .agg #[.bool false, .bool true, .bool true, .bool false, E.i 1, E.i 18, E.u 0]), (21, E.i 19), (22, .slice (some ⟨g33, 0, none⟩) 1 1)] [(g2, (Q.tab Q.t15)), (g33, [E.i 19]), (g1, (Q.tab (fun _ => Q.sh0)))] Nz.sub (E.C.seq (E.sr (E.op (E.i 20) ?_))))))))))))
 refine E.op (.bool true) (E.To.code (E.C.condT (by kernel_rfl) (by kernel_rfl) (E.C.skip (E.To.code (E.C.seq (E.C.block (E.C.region (E.op (.func (.func 104) #[] #[E.pt g2]) (E.vl (.agg #[.bool false, .bool true, .bool true, .bool false, E.i 1, E.i 18, E.u 0]) (fun w h => E.run_build #[.bool false, .bool true, .bool true, .bool false, E.i 1, E.i 18, E.u 0] (by kernel_rfl) w) (E.op (E.i 20) (E.G.buildSlice [E.i 20] (by kernel_rfl) (by kernel_rfl) (fun g35 => A.G.call (I := Unit) (D := fun _ => True) (V := fun _ => .tuple #[]) (q := fun _ => [A.blk g2 (Q.tab Q.t16), A.blk g35 ([E.i 20])]) [A.blk g33 ([E.i 19]), A.blk g1 (Q.tab (fun _ => Q.sh0))] (fun _ => [(g2, (Q.tab Q.t16)), (g35, [E.i 20]), (g33, [E.i 19]), (g1, (Q.tab (fun _ => Q.sh0)))]) (fun _ => []) (Set1 (gt := g2) (go := g35) (f := Q.t15) ⟨false, true, true, false, 1, 18, 0⟩ 20 (by decide)) (by kernel_rfl) (A.pn [1, 0, 2, 3]) (fun _ => A.pm [0, 1, 2, 3] (by kernel_rfl) (by kernel_rfl)) (fun w _ => by kernel_rfl) (by kernel_rfl) (fun _ hd36 => ?_)))))))))))))
 refine E.P.nb (E.To.code (E.C.region (E.op (E.i 20) (E.op (E.i 21) (E.op (E.i 21) (E.To.rounds 7 (E.wk [(0, E.pt g1), (1, E.pt g2), (2, .func (.func 104) #[] #[E.pt g2]), (4, E.i 21), (15, E.i 20), (16, .bool true), (17, E.i 20), (18, E.i 21), (19, .func (.func 104) #[] #[E.pt g2]), (20, .agg #[.bool false, .bool true, .bool true, .bool false, E.i 1, E.i 18, E.u 0]), (21, E.i 20), (22, .slice (some ⟨g35, 0, none⟩) 1 1)] [(g2, (Q.tab Q.t16)), (g35, [E.i 20]), (g1, (Q.tab (fun _ => Q.sh0)))] Nz.sub (E.C.seq (E.sr (E.op (E.i 21) (E.op (.bool true) (E.To.code ?_))))))))))))
 refine E.C.condT (by kernel_rfl) (by kernel_rfl) (E.C.skip (E.To.code (E.C.seq (E.C.block (E.C.region (E.op (.func (.func 104) #[] #[E.pt g2]) (E.vl (.agg #[.bool false, .bool true, .bool true, .bool false, E.i 1, E.i 18, E.u 0]) (fun w h => E.run_build #[.bool false, .bool true, .bool true, .bool false, E.i 1, E.i 18, E.u 0] (by kernel_rfl) w) (E.op (E.i 21) (E.G.buildSlice [E.i 21] (by kernel_rfl) (by kernel_rfl) (fun g37 => A.G.call (I := Unit) (D := fun _ => True) (V := fun _ => .tuple #[]) (q := fun _ => [A.blk g2 (Q.tab Q.t17), A.blk g37 ([E.i 21])]) [A.blk g35 ([E.i 20]), A.blk g1 (Q.tab (fun _ => Q.sh0))] (fun _ => [(g2, (Q.tab Q.t17)), (g37, [E.i 21]), (g35, [E.i 20]), (g1, (Q.tab (fun _ => Q.sh0)))]) (fun _ => []) (Set1 (gt := g2) (go := g37) (f := Q.t16) ⟨false, true, true, false, 1, 18, 0⟩ 21 (by decide)) (by kernel_rfl) (A.pn [1, 0, 2, 3]) (fun _ => A.pm [0, 1, 2, 3] (by kernel_rfl) (by kernel_rfl)) (fun w _ => by kernel_rfl) (by kernel_rfl) (fun _ hd38 => E.P.nb (E.To.code (E.C.region ?_)))))))))))))
 refine E.op (E.i 21) (E.op (E.i 22) (E.op (E.i 22) (E.To.rounds 6 (E.wk [(0, E.pt g1), (1, E.pt g2), (2, .func (.func 104) #[] #[E.pt g2]), (4, E.i 22), (15, E.i 21), (16, .bool true), (17, E.i 21), (18, E.i 22), (19, .func (.func 104) #[] #[E.pt g2]), (20, .agg #[.bool false, .bool true, .bool true, .bool false, E.i 1, E.i 18, E.u 0]), (21, E.i 21), (22, .slice (some ⟨g37, 0, none⟩) 1 1)] [(g2, (Q.tab Q.t17)), (g37, [E.i 21]), (g1, (Q.tab (fun _ => Q.sh0)))] Nz.sub (E.C.seq (E.sr (E.op (E.i 22) (E.op (.bool true) (E.To.code (E.C.condT (by kernel_rfl) (by kernel_rfl) (E.C.skip (E.To.code ?_))))))))))))
 refine E.C.seq (E.C.block (E.C.region (E.op (.func (.func 104) #[] #[E.pt g2]) (E.vl (.agg #[.bool false, .bool true, .bool true, .bool false, E.i 1, E.i 18, E.u 0]) (fun w h => E.run_build #[.bool false, .bool true, .bool true, .bool false, E.i 1, E.i 18, E.u 0] (by kernel_rfl) w) (E.op (E.i 22) (E.G.buildSlice [E.i 22] (by kernel_rfl) (by kernel_rfl) (fun g39 => A.G.call (I := Unit) (D := fun _ => True) (V := fun _ => .tuple #[]) (q := fun _ => [A.blk g2 (Q.tab Q.t18), A.blk g39 ([E.i 22])]) [A.blk g37 ([E.i 21]), A.blk g1 (Q.tab (fun _ => Q.sh0))] (fun _ => [(g2, (Q.tab Q.t18)), (g39, [E.i 22]), (g37, [E.i 21]), (g1, (Q.tab (fun _ => Q.sh0)))]) (fun _ => []) (Set1 (gt := g2) (go := g39) (f := Q.t17) ⟨false, true, true, false, 1, 18, 0⟩ 22 (by decide)) (by kernel_rfl) (A.pn [1, 0, 2, 3]) (fun _ => A.pm [0, 1, 2, 3] (by kernel_rfl) (by kernel_rfl)) (fun w _ => by kernel_rfl) (by kernel_rfl) (fun _ hd40 => E.P.nb (E.To.code (E.C.region (E.op (E.i 22) (E.op (E.i 23) ?_))))))))))))
 refine E.op (E.i 23) (E.To.rounds 5 (E.wk [(0, E.pt g1), (1, E.pt g2), (2, .func (.func 104) #[] #[E.pt g2]), (4, E.i 23), (15, E.i 22), (16, .bool true), (17, E.i 22), (18, E.i 23), (19, .func (.func 104) #[] #[E.pt g2]), (20, .agg #[.bool false, .bool true, .bool true, .bool false, E.i 1, E.i 18, E.u 0]), (21, E.i 22), (22, .slice (some ⟨g39, 0, none⟩) 1 1)] [(g2, (Q.tab Q.t18)), (g39, [E.i 22]), (g1, (Q.tab (fun _ => Q.sh0)))] Nz.sub (E.C.seq (E.sr (E.op (E.i 23) (E.op (.bool true) (E.To.code (E.C.condT (by kernel_rfl) (by kernel_rfl) (E.C.skip (E.To.code (E.C.seq (E.C.block ?_))))))))))))
 refine E.C.region (E.op (.func (.func 104) #[] #[E.pt g2]) (E.vl (.agg #[.bool false, .bool true, .bool true, .bool false, E.i 1, E.i 18, E.u 0]) (fun w h => E.run_build #[.bool false, .bool true, .bool true, .bool false, E.i 1, E.i 18, E.u 0] (by kernel_rfl) w) (E.op (E.i 23) (E.G.buildSlice [E.i 23] (by kernel_rfl) (by kernel_rfl) (fun g41 => A.G.call (I := Unit) (D := fun _ => True) (V := fun _ => .tuple #[]) (q := fun _ => [A.blk g2 (Q.tab Q.t19), A.blk g41 ([E.i 23])]) [A.blk g39 ([E.i 22]), A.blk g1 (Q.tab (fun _ => Q.sh0))] (fun _ => [(g2, (Q.tab Q.t19)), (g41, [E.i 23]), (g39, [E.i 22]), (g1, (Q.tab (fun _ => Q.sh0)))]) (fun _ => []) (Set1 (gt := g2) (go := g41) (f := Q.t18) ⟨false, true, true, false, 1, 18, 0⟩ 23 (by decide)) (by kernel_rfl) (A.pn [1, 0, 2, 3]) (fun _ => A.pm [0, 1, 2, 3] (by kernel_rfl) (by kernel_rfl)) (fun w _ => by kernel_rfl) (by kernel_rfl) (fun _ hd42 => E.P.nb (E.To.code (E.C.region (E.op (E.i 23) (E.op (E.i 24) (E.op (E.i 24) (E.To.rounds 4 ?_))))))))))))
 refine E.wk [(0, E.pt g1), (1, E.pt g2), (2, .func (.func 104) #[] #[E.pt g2]), (4, E.i 24), (15, E.i 23), (16, .bool true), (17, E.i 23), (18, E.i 24), (19, .func (.func 104) #[] #[E.pt g2]), (20, .agg #[.bool false, .bool true, .bool true, .bool false, E.i 1, E.i 18, E.u 0]), (21, E.i 23), (22, .slice (some ⟨g41, 0, none⟩) 1 1)] [(g2, (Q.tab Q.t19)), (g41, [E.i 23]), (g1, (Q.tab (fun _ => Q.sh0)))] Nz.sub (E.C.seq (E.sr (E.op (E.i 24) (E.op (.bool true) (E.To.code (E.C.condT (by kernel_rfl) (by kernel_rfl) (E.C.skip (E.To.code (E.C.seq (E.C.block (E.C.region (E.op (.func (.func 104) #[] #[E.pt g2]) ?_))))))))))))
 refine E.vl (.agg #[.bool false, .bool true, .bool true, .bool false, E.i 1, E.i 18, E.u 0]) (fun w h => E.run_build #[.bool false, .bool true, .bool true, .bool false, E.i 1, E.i 18, E.u 0] (by kernel_rfl) w) (E.op (E.i 24) (E.G.buildSlice [E.i 24] (by kernel_rfl) (by kernel_rfl) (fun g43 => A.G.call (I := Unit) (D := fun _ => True) (V := fun _ => .tuple #[]) (q := fun _ => [A.blk g2 (Q.tab Q.t20), A.blk g43 ([E.i 24])]) [A.blk g41 ([E.i 23]), A.blk g1 (Q.tab (fun _ => Q.sh0))] (fun _ => [(g2, (Q.tab Q.t20)), (g43, [E.i 24]), (g41, [E.i 23]), (g1, (Q.tab (fun _ => Q.sh0)))]) (fun _ => []) (Set1 (gt := g2) (go := g43) (f := Q.t19) ⟨false, true, true, false, 1, 18, 0⟩ 24 (by decide)) (by kernel_rfl) (A.pn [1, 0, 2, 3]) (fun _ => A.pm [0, 1, 2, 3] (by kernel_rfl) (by kernel_rfl)) (fun w _ => by kernel_rfl) (by kernel_rfl) (fun _ hd44 => E.P.nb (E.To.code (E.C.region (E.op (E.i 24) (E.op (E.i 25) (E.op (E.i 25) (E.To.rounds 3 (E.wk [(0, E.pt g1), (1, E.pt g2), (2, .func (.func 104) #[] #[E.pt g2]), (4, E.i 25), (15, E.i 24), (16, .bool true), (17, E.i 24), (18, E.i 25), (19, .func (.func 104) #[] #[E.pt g2]), (20, .agg #[.bool false, .bool true, .bool true, .bool false, E.i 1, E.i 18, E.u 0]), (21, E.i 24), (22, .slice (some ⟨g43, 0, none⟩) 1 1)] [(g2, (Q.tab Q.t20)), (g43, [E.i 24]), (g1, (Q.tab (fun _ => Q.sh0)))] Nz.sub (E.C.seq ?_))))))))))))
 refine E.sr (E.op (E.i 25) (E.op (.bool true) (E.To.code (E.C.condT (by kernel_rfl) (by kernel_rfl) (E.C.skip (E.To.code (E.C.seq (E.C.block (E.C.region (E.op (.func (.func 104) #[] #[E.pt g2]) (E.vl (.agg #[.bool false, .bool true, .bool true, .bool false, E.i 1, E.i 18, E.u 0]) (fun w h => E.run_build #[.bool false, .bool true, .bool true, .bool false, E.i 1, E.i 18, E.u 0] (by kernel_rfl) w) (E.op (E.i 25) ?_))))))))))))
 refine E.G.buildSlice [E.i 25] (by kernel_rfl) (by kernel_rfl) (fun g45 => A.G.call (I := Unit) (D := fun _ => True) (V := fun _ => .tuple #[]) (q := fun _ => [A.blk g2 (Q.tab Q.t21), A.blk g45 ([E.i 25])]) [A.blk g43 ([E.i 24]), A.blk g1 (Q.tab (fun _ => Q.sh0))] (fun _ => [(g2, (Q.tab Q.t21)), (g45, [E.i 25]), (g43, [E.i 24]), (g1, (Q.tab (fun _ => Q.sh0)))]) (fun _ => []) (Set1 (gt := g2) (go := g45) (f := Q.t20) ⟨false, true, true, false, 1, 18, 0⟩ 25 (by decide)) (by kernel_rfl) (A.pn [1, 0, 2, 3]) (fun _ => A.pm [0, 1, 2, 3] (by kernel_rfl) (by kernel_rfl)) (fun w _ => by kernel_rfl) (by kernel_rfl) (fun _ hd46 => E.P.nb (E.To.code (E.C.region (E.op (E.i 25) (E.op (E.i 26) (E.op (E.i 26) (E.To.rounds 2 (E.wk [(0, E.pt g1), (1, E.pt g2), (2, .func (.func 104) #[] #[E.pt g2]), (4, E.i 26), (15, E.i 25), (16, .bool true), (17, E.i 25), (18, E.i 26), (19, .func (.func 104) #[] #[E.pt g2]), (20, .agg #[.bool false, .bool true, .bool true, .bool false, E.i 1, E.i 18, E.u 0]), (21, E.i 25), (22, .slice (some ⟨g45, 0, none⟩) 1 1)] [(g2, (Q.tab Q.t21)), (g45, [E.i 25]), (g1, (Q.tab (fun _ => Q.sh0)))] Nz.sub (E.C.seq (E.sr (E.op (E.i 26) ?_))))))))))))
 refine E.op (.bool true) (E.To.code (E.C.condT (by kernel_rfl) (by kernel_rfl) (E.C.skip (E.To.code (E.C.seq (E.C.block (E.C.region (E.op (.func (.func 104) #[] #[E.pt g2]) (E.vl (.agg #[.bool false, .bool true, .bool true, .bool false, E.i 1, E.i 18, E.u 0]) (fun w h => E.run_build #[.bool false, .bool true, .bool true, .bool false, E.i 1, E.i 18, E.u 0] (by kernel_rfl) w) (E.op (E.i 26) (E.G.buildSlice [E.i 26] (by kernel_rfl) (by kernel_rfl) (fun g47 => A.G.call (I := Unit) (D := fun _ => True) (V := fun _ => .tuple #[]) (q := fun _ => [A.blk g2 (Q.tab Q.t22), A.blk g47 ([E.i 26])]) [A.blk g45 ([E.i 25]), A.blk g1 (Q.tab (fun _ => Q.sh0))] (fun _ => [(g2, (Q.tab Q.t22)), (g47, [E.i 26]), (g45, [E.i 25]), (g1, (Q.tab (fun _ => Q.sh0)))]) (fun _ => []) (Set1 (gt := g2) (go := g47) (f := Q.t21) ⟨false, true, true, false, 1, 18, 0⟩ 26 (by decide)) (by kernel_rfl) (A.pn [1, 0, 2, 3]) (fun _ => A.pm [0, 1, 2, 3] (by kernel_rfl) (by kernel_rfl)) (fun w _ => by kernel_rfl) (by kernel_rfl) (fun _ hd48 => ?_)))))))))))))
 refine E.P.nb (E.To.code (E.C.region (E.op (E.i 26) (E.op (E.i 27) (E.op (E.i 27) (E.To.rounds 1 (E.wk [(0, E.pt g1), (1, E.pt g2), (2, .func (.func 104) #[] #[E.pt g2]), (4, E.i 27), (15, E.i 26), (16, .bool true), (17, E.i 26), (18, E.i 27), (19, .func (.func 104) #[] #[E.pt g2]), (20, .agg #[.bool false, .bool true, .bool true, .bool false, E.i 1, E.i 18, E.u 0]), (21, E.i 26), (22, .slice (some ⟨g47, 0, none⟩) 1 1)] [(g2, (Q.tab Q.t22)), (g47, [E.i 26]), (g1, (Q.tab (fun _ => Q.sh0)))] Nz.sub (E.C.seq (E.sr (E.op (E.i 27) (E.op (.bool true) (E.To.code ?_))))))))))))
 refine E.C.condT (by kernel_rfl) (by kernel_rfl) (E.C.skip (E.To.code (E.C.seq (E.C.block (E.C.region (E.op (.func (.func 104) #[] #[E.pt g2]) (E.vl (.agg #[.bool false, .bool true, .bool true, .bool false, E.i 1, E.i 18, E.u 0]) (fun w h => E.run_build #[.bool false, .bool true, .bool true, .bool false, E.i 1, E.i 18, E.u 0] (by kernel_rfl) w) (E.op (E.i 27) (E.G.buildSlice [E.i 27] (by kernel_rfl) (by kernel_rfl) (fun g49 => A.G.call (I := Unit) (D := fun _ => True) (V := fun _ => .tuple #[]) (q := fun _ => [A.blk g2 (Q.tab Q.t23), A.blk g49 ([E.i 27])]) [A.blk g47 ([E.i 26]), A.blk g1 (Q.tab (fun _ => Q.sh0))] (fun _ => [(g2, (Q.tab Q.t23)), (g49, [E.i 27]), (g47, [E.i 26]), (g1, (Q.tab (fun _ => Q.sh0)))]) (fun _ => []) (Set1 (gt := g2) (go := g49) (f := Q.t22) ⟨false, true, true, false, 1, 18, 0⟩ 27 (by decide)) (by kernel_rfl) (A.pn [1, 0, 2, 3]) (fun _ => A.pm [0, 1, 2, 3] (by kernel_rfl) (by kernel_rfl)) (fun w _ => by kernel_rfl) (by kernel_rfl) (fun _ hd50 => E.P.nb (E.To.code (E.C.region ?_)))))))))))))
 refine E.op (E.i 27) (E.op (E.i 28) (E.op (E.i 28) (E.To.rounds 0 (E.wk [(0, E.pt g1), (1, E.pt g2), (2, .func (.func 104) #[] #[E.pt g2]), (4, E.i 28), (15, E.i 27), (16, .bool true), (17, E.i 27), (18, E.i 28), (19, .func (.func 104) #[] #[E.pt g2]), (20, .agg #[.bool false, .bool true, .bool true, .bool false, E.i 1, E.i 18, E.u 0]), (21, E.i 27), (22, .slice (some ⟨g49, 0, none⟩) 1 1)] [(g2, (Q.tab Q.t23)), (g49, [E.i 27]), (g1, (Q.tab (fun _ => Q.sh0)))] Nz.sub (E.C.seq (E.sr (E.op (E.i 28) (E.op (.bool false) (E.To.code (E.C.condF (by kernel_rfl) (by kernel_rfl) (E.C.exit (E.P.et (E.P.et (E.P.eh (E.To.code ?_)))))))))))))))
 refine E.wk [(0, E.pt g1), (1, E.pt g2), (2, .func (.func 104) #[] #[E.pt g2])] [(g2, (Q.tab Q.t23)), (g1, (Q.tab (fun _ => Q.sh0)))] Nz.sub (E.sr (E.op (.func (.func 104) #[] #[E.pt g2]) (E.vl (.agg #[.bool false, .bool true, .bool true, .bool false, E.i 2, E.i 18, E.u 0]) (fun w h => E.run_build #[.bool false, .bool true, .bool true, .bool false, E.i 2, E.i 18, E.u 0] (by kernel_rfl) w) (E.G.buildSlice [E.i 17, E.i 18, E.i 19] (by kernel_rfl) (by kernel_rfl) (fun g51 => A.G.call (I := Unit) (D := fun _ => True) (V := fun _ => .tuple #[]) (q := fun _ => [A.blk g2 (Q.tab Q.t24), A.blk g51 ([E.i 17, E.i 18, E.i 19])]) [A.blk g1 (Q.tab (fun _ => Q.sh0))] (fun _ => [(g2, (Q.tab Q.t24)), (g51, [E.i 17, E.i 18, E.i 19]), (g1, (Q.tab (fun _ => Q.sh0)))]) (fun _ => []) (Set3 (gt := g2) (go := g51) (f := Q.t23) ⟨false, true, true, false, 2, 18, 0⟩ 17 18 19 (by decide) (by decide) (by decide)) (by kernel_rfl) (A.pn [1, 0, 2]) (fun _ => A.pm [0, 1, 2] (by kernel_rfl) (by kernel_rfl)) (fun w _ => by kernel_rfl) (by kernel_rfl) (fun _ hd52 => E.tr (E.op (.func (.func 104) #[] #[E.pt g2]) (E.vl (.agg #[.bool false, .bool true, .bool true, .bool false, E.i 1, E.i 18, E.u 0]) (fun w h => E.run_build #[.bool false, .bool true, .bool true, .bool false, E.i 1, E.i 18, E.u 0] (by kernel_rfl) w) (E.G.buildSlice [E.i 32, E.i 33, E.i 34, E.i 35, E.i 36, E.i 37] (by kernel_rfl) (by kernel_rfl) (fun g53 => A.G.call (I := Unit) (D := fun _ => True) (V := fun _ => .tuple #[]) (q := fun _ => [A.blk g2 (Q.tab Q.t25), A.blk g53 ([E.i 32, E.i 33, E.i 34, E.i 35, E.i 36, E.i 37])]) [A.blk g51 ([E.i 17, E.i 18, E.i 19]), A.blk g1 (Q.tab (fun _ => Q.sh0))] (fun _ => [(g2, (Q.tab Q.t25)), (g53, [E.i 32, E.i 33, E.i 34, E.i 35, E.i 36, E.i 37]), (g51, [E.i 17, E.i 18, E.i 19]), (g1, (Q.tab (fun _ => Q.sh0)))]) (fun _ => []) (Set6 (gt := g2) (go := g53) (f := Q.t24) ⟨false, true, true, false, 1, 18, 0⟩ 32 33 34 35 36 37 (by decide) (by decide) (by decide) (by decide) (by decide) (by decide)) (by kernel_rfl) (A.pn [1, 0, 2, 3]) (fun _ => A.pm [0, 1, 2, 3] (by kernel_rfl) (by kernel_rfl)) (fun w _ => by kernel_rfl) (by kernel_rfl) (fun _ hd54 => E.To.code ?_)))))))))))
 refine E.wk [(0, E.pt g1), (1, E.pt g2), (2, .func (.func 104) #[] #[E.pt g2])] [(g2, (Q.tab Q.t25)), (g1, (Q.tab (fun _ => Q.sh0)))] Nz.sub (E.sr (E.op (.func (.func 104) #[] #[E.pt g2]) (E.vl (.agg #[.bool false, .bool true, .bool false, .bool false, E.i 1, E.i 22, E.u 0]) (fun w h => E.run_build #[.bool false, .bool true, .bool false, .bool false, E.i 1, E.i 22, E.u 0] (by kernel_rfl) w) (E.G.buildSlice [E.i 40] (by kernel_rfl) (by kernel_rfl) (fun g55 => A.G.call (I := Unit) (D := fun _ => True) (V := fun _ => .tuple #[]) (q := fun _ => [A.blk g2 (Q.tab Q.t26), A.blk g55 ([E.i 40])]) [A.blk g1 (Q.tab (fun _ => Q.sh0))] (fun _ => [(g2, (Q.tab Q.t26)), (g55, [E.i 40]), (g1, (Q.tab (fun _ => Q.sh0)))]) (fun _ => []) (Set1 (gt := g2) (go := g55) (f := Q.t25) ⟨false, true, false, false, 1, 22, 0⟩ 40 (by decide)) (by kernel_rfl) (A.pn [1, 0, 2]) (fun _ => A.pm [0, 1, 2] (by kernel_rfl) (by kernel_rfl)) (fun w _ => by kernel_rfl) (by kernel_rfl) (fun _ hd56 => E.tr (E.op (.func (.func 104) #[] #[E.pt g2]) (E.vl (.agg #[.bool false, .bool true, .bool false, .bool false, E.i 2, E.i 22, E.u 0]) (fun w h => E.run_build #[.bool false, .bool true, .bool false, .bool false, E.i 2, E.i 22, E.u 0] (by kernel_rfl) w) (E.G.buildSlice [E.i 41] (by kernel_rfl) (by kernel_rfl) (fun g57 => A.G.call (I := Unit) (D := fun _ => True) (V := fun _ => .tuple #[]) (q := fun _ => [A.blk g2 (Q.tab Q.t27), A.blk g57 ([E.i 41])]) [A.blk g55 ([E.i 40]), A.blk g1 (Q.tab (fun _ => Q.sh0))] (fun _ => [(g2, (Q.tab Q.t27)), (g57, [E.i 41]), (g55, [E.i 40]), (g1, (Q.tab (fun _ => Q.sh0)))]) (fun _ => []) (Set1 (gt := g2) (go := g57) (f := Q.t26) ⟨false, true, false, false, 2, 22, 0⟩ 41 (by decide)) (by kernel_rfl) (A.pn [1, 0, 2, 3]) (fun _ => A.pm [0, 1, 2, 3] (by kernel_rfl) (by kernel_rfl)) (fun w _ => by kernel_rfl) (by kernel_rfl) (fun _ hd58 => E.To.code ?_)))))))))))
 refine E.wk [(0, E.pt g1), (1, E.pt g2), (2, .func (.func 104) #[] #[E.pt g2])] [(g2, (Q.tab Q.t27)), (g1, (Q.tab (fun _ => Q.sh0)))] Nz.sub (E.sr (E.op (.func (.func 104) #[] #[E.pt g2]) (E.vl (.agg #[.bool false, .bool false, .bool false, .bool false, E.i 2, E.i 18, E.u 0]) (fun w h => E.run_build #[.bool false, .bool false, .bool false, .bool false, E.i 2, E.i 18, E.u 0] (by kernel_rfl) w) (E.G.buildSlice [E.i 48] (by kernel_rfl) (by kernel_rfl) (fun g59 => A.G.call (I := Unit) (D := fun _ => True) (V := fun _ => .tuple #[]) (q := fun _ => [A.blk g2 (Q.tab Q.t28), A.blk g59 ([E.i 48])]) [A.blk g1 (Q.tab (fun _ => Q.sh0))] (fun _ => [(g2, (Q.tab Q.t28)), (g59, [E.i 48]), (g1, (Q.tab (fun _ => Q.sh0)))]) (fun _ => []) (Set1 (gt := g2) (go := g59) (f := Q.t27) ⟨false, false, false, false, 2, 18, 0⟩ 48 (by decide)) (by kernel_rfl) (A.pn [1, 0, 2]) (fun _ => A.pm [0, 1, 2] (by kernel_rfl) (by kernel_rfl)) (fun w _ => by kernel_rfl) (by kernel_rfl) (fun _ hd60 => E.tr (E.op (.func (.func 104) #[] #[E.pt g2]) (E.vl (.agg #[.bool false, .bool false, .bool false, .bool false, E.i 0, E.i 0, E.u 0]) (fun w h => E.run_build #[.bool false, .bool false, .bool false, .bool false, E.i 0, E.i 0, E.u 0] (by kernel_rfl) w) (E.G.buildSlice [E.i 49, E.i 50, E.i 51] (by kernel_rfl) (by kernel_rfl) (fun g61 => A.G.call (I := Unit) (D := fun _ => True) (V := fun _ => .tuple #[]) (q := fun _ => [A.blk g2 (Q.tab Q.t29), A.blk g61 ([E.i 49, E.i 50, E.i 51])]) [A.blk g59 ([E.i 48]), A.blk g1 (Q.tab (fun _ => Q.sh0))] (fun _ => [(g2, (Q.tab Q.t29)), (g61, [E.i 49, E.i 50, E.i 51]), (g59, [E.i 48]), (g1, (Q.tab (fun _ => Q.sh0)))]) (fun _ => []) (Set3 (gt := g2) (go := g61) (f := Q.t28) ⟨false, false, false, false, 0, 0, 0⟩ 49 50 51 (by decide) (by decide) (by decide)) (by kernel_rfl) (A.pn [1, 0, 2, 3]) (fun _ => A.pm [0, 1, 2, 3] (by kernel_rfl) (by kernel_rfl)) (fun w _ => by kernel_rfl) (by kernel_rfl) (fun _ hd62 => E.To.code ?_)))))))))))
 refine E.wk [(0, E.pt g1), (1, E.pt g2), (2, .func (.func 104) #[] #[E.pt g2])] [(g2, (Q.tab Q.t29)), (g1, (Q.tab (fun _ => Q.sh0)))] Nz.sub (E.sr (E.op (.func (.func 104) #[] #[E.pt g2]) (E.vl (.agg #[.bool false, .bool false, .bool true, .bool false, E.i 0, E.i 0, E.u 0]) (fun w h => E.run_build #[.bool false, .bool false, .bool true, .bool false, E.i 0, E.i 0, E.u 0] (by kernel_rfl) w) (E.G.buildSlice [E.i 52] (by kernel_rfl) (by kernel_rfl) (fun g63 => A.G.call (I := Unit) (D := fun _ => True) (V := fun _ => .tuple #[]) (q := fun _ => [A.blk g2 (Q.tab Q.t30), A.blk g63 ([E.i 52])]) [A.blk g1 (Q.tab (fun _ => Q.sh0))] (fun _ => [(g2, (Q.tab Q.t30)), (g63, [E.i 52]), (g1, (Q.tab (fun _ => Q.sh0)))]) (fun _ => []) (Set1 (gt := g2) (go := g63) (f := Q.t29) ⟨false, false, true, false, 0, 0, 0⟩ 52 (by decide)) (by kernel_rfl) (A.pn [1, 0, 2]) (fun _ => A.pm [0, 1, 2] (by kernel_rfl) (by kernel_rfl)) (fun w _ => by kernel_rfl) (by kernel_rfl) (fun _ hd64 => E.tr (E.op (.func (.func 104) #[] #[E.pt g2]) (E.vl (.agg #[.bool false, .bool true, .bool false, .bool false, E.i 2, E.i 18, E.u 3]) (fun w h => E.run_build #[.bool false, .bool true, .bool false, .bool false, E.i 2, E.i 18, E.u 3] (by kernel_rfl) w) (E.G.buildSlice [E.i 53] (by kernel_rfl) (by kernel_rfl) (fun g65 => A.G.call (I := Unit) (D := fun _ => True) (V := fun _ => .tuple #[]) (q := fun _ => [A.blk g2 (Q.tab Q.t31), A.blk g65 ([E.i 53])]) [A.blk g63 ([E.i 52]), A.blk g1 (Q.tab (fun _ => Q.sh0))] (fun _ => [(g2, (Q.tab Q.t31)), (g65, [E.i 53]), (g63, [E.i 52]), (g1, (Q.tab (fun _ => Q.sh0)))]) (fun _ => []) (Set1 (gt := g2) (go := g65) (f := Q.t30) ⟨false, true, false, false, 2, 18, 3⟩ 53 (by decide)) (by kernel_rfl) (A.pn [1, 0, 2, 3]) (fun _ => A.pm [0, 1, 2, 3] (by kernel_rfl) (by kernel_rfl)) (fun w _ => by kernel_rfl) (by kernel_rfl) (fun _ hd66 => E.To.code ?_)))))))))))
 refine E.wk [(0, E.pt g1), (1, E.pt g2), (2, .func (.func 104) #[] #[E.pt g2])] [(g2, (Q.tab Q.t31)), (g1, (Q.tab (fun _ => Q.sh0)))] Nz.sub (E.sr (E.op (.func (.func 104) #[] #[E.pt g2]) (E.vl (.agg #[.bool false, .bool false, .bool true, .bool false, E.i 2, E.i 18, E.u 4]) (fun w h => E.run_build #[.bool false, .bool false, .bool true, .bool false, E.i 2, E.i 18, E.u 4] (by kernel_rfl) w) (E.G.buildSlice [E.i 54] (by kernel_rfl) (by kernel_rfl) (fun g67 => A.G.call (I := Unit) (D := fun _ => True) (V := fun _ => .tuple #[]) (q := fun _ => [A.blk g2 (Q.tab Q.t32), A.blk g67 ([E.i 54])]) [A.blk g1 (Q.tab (fun _ => Q.sh0))] (fun _ => [(g2, (Q.tab Q.t32)), (g67, [E.i 54]), (g1, (Q.tab (fun _ => Q.sh0)))]) (fun _ => []) (Set1 (gt := g2) (go := g67) (f := Q.t31) ⟨false, false, true, false, 2, 18, 4⟩ 54 (by decide)) (by kernel_rfl) (A.pn [1, 0, 2]) (fun _ => A.pm [0, 1, 2] (by kernel_rfl) (by kernel_rfl)) (fun w _ => by kernel_rfl) (by kernel_rfl) (fun _ hd68 => E.tr (E.vl (.agg (Q.tab Q.t32).toArray) (fun w h => E.run_load h 0 rfl rfl (Q.ld_all (by kernel_rfl) (by kernel_rfl))) (E.G.store 2 (Q.tab Q.t32) rfl rfl (Q.sto_all (by kernel_rfl)) (by kernel_rfl) (E.To.code (E.C.ret (E.To.body (fn := Tryz.f102) [.agg (Q.tab Q.t32).toArray] ?_ ?_)))))))))))
 · exact ⟨⟨by kernel_rfl, _, _, 2, _, rfl, rfl, by kernel_rfl⟩, trivial⟩
 intro w h
 exact ⟨rfl, h.ch.bel (fun x hx => (hh.1 x hx).elim)⟩
theorem shapes_any (w : World) : Calls Tryz.prog 102 #[] w fun e w' => e = .returned (.agg (Q.tab Q.t32).toArray) ∧ Bel w w' := Shapes_rd w (fun _ => False) (fun _ => False) ⟨fun _ h => h, fun _ h => h⟩
theorem Sign_any (n k : Int) (h0 : 0 ≤ n) (h1 : n < 4294967296) (k0 : -9223372036854775808 ≤ k) (k1 : k ≤ 9223372036854775807) (w : World) :
    Calls Tryz.prog 86 #[.int .u32 n, .int .i64 k] w fun e w' => e = .returned (.int .u32 (W.sign n k)) ∧ Bel w w' := by
  by_cases a : k < 1
  · have HS := hid (W.sign_lo n k a)
    go_enter Tryz.func86, Tryz.ntmps86
    go_wp2
    go_ret
    exact ⟨ret_int (by rw [HS.out]), Nz.bel⟩
  by_cases b : 32 ≤ k
  · have HS := hid (W.sign_hi n k b)
    go_enter Tryz.func86, Tryz.ntmps86
    go_wp2
    go_ret
    exact ⟨ret_int (by rw [HS.out]), Nz.bel⟩
  · have HS := hid (W.sign_shift n k h0 h1 (by omega) (by omega))
    go_enter Tryz.func86, Tryz.ntmps86
    go_wp2
    go_ret
    exact ⟨ret_int (by rw [HS.out]), Nz.bel⟩
theorem rSign_any (n k : Int) (h0 : 0 ≤ n) (h1 : n < 4294967296) (k0 : -9223372036854775808 ≤ k) (k1 : k ≤ 9223372036854775807) (w : World) :
    Calls Tryz.prog 29 #[.int .u32 n, .int .i64 k] w fun e w' => e = .returned (.int .u32 (W.sign n k)) ∧ Bel w w' := by
  by_cases a : k < 1
  · have HS := hid (W.sign_lo n k a)
    go_enter Tryz.func29, Tryz.ntmps29
    go_wp2
    go_ret
    exact ⟨ret_int (by rw [HS.out]), Nz.bel⟩
  by_cases b : 32 ≤ k
  · have HS := hid (W.sign_hi n k b)
    go_enter Tryz.func29, Tryz.ntmps29
    go_wp2
    go_ret
    exact ⟨ret_int (by rw [HS.out]), Nz.bel⟩
  · obtain ⟨z, s1, s2⟩ := W.sign_mod n k h0 h1 (by omega) (by omega)
    have S1 := hid s1
    have S2 := hid s2
    clear s1 s2
    go_enter Tryz.func29, Tryz.ntmps29
    go_wp2
    · go_ret
      exact ⟨ret_int (by have := S1.out (by assumption); omega), Nz.bel⟩
    · go_ret
      exact ⟨ret_int (by rw [S2.out (by assumption)]), Nz.bel⟩
theorem Fits_any (n k : Int) (h0 : 0 ≤ n) (h1 : n < 4294967296) (k0 : -9223372036854775808 ≤ k) (k1 : k ≤ 9223372036854775807) (w : World) :
    Calls Tryz.prog 107 #[.int .u32 n, .int .i64 k] w fun e w' => e = .returned (.bool (W.sign n k == n)) ∧ Bel w w' := by
  go_enter Tryz.func107, Tryz.ntmps107
  go_wp2_with (go_at_call 86; refine (Sign_any _ _ h0 h1 k0 k1 _).mono ?_; rintro e w' ⟨rfl, hb⟩)
  go_ret
  exact ⟨rfl, Nz.bel⟩
theorem rFits_any (n k : Int) (h0 : 0 ≤ n) (h1 : n < 4294967296) (k0 : -9223372036854775808 ≤ k) (k1 : k ≤ 9223372036854775807) (w : World) :
    Calls Tryz.prog 81 #[.int .u32 n, .int .i64 k] w fun e w' => e = .returned (.bool (W.sign n k == n)) ∧ Bel w w' := by
  go_enter Tryz.func81, Tryz.ntmps81
  go_wp2_with (go_at_call 29; refine (rSign_any _ _ h0 h1 k0 k1 _).mono ?_; rintro e w' ⟨rfl, hb⟩)
  go_ret
  exact ⟨rfl, Nz.bel⟩

end Go.Proofs.YtgbndbljohpnmaaGreat
namespace Go.Proofs.YtgbndbljohpnmaaGreat.W
set_option linter.unusedVariables false
set_option linter.unusedSimpArgs false
open Go.RowKit
def b01 (b : Bool) : Int := if b = true then 1 else 0
theorem b01_bd (b : Bool) : 0 ≤ b01 b ∧ b01 b ≤ 1 := by cases b <;> simp [b01]
/-- What an operation yields. -/
def op (c a b : Int) : Int :=
  if c = 3 then (a + b) % 4294967296 else if c = 4 then (a - b) % 4294967296 else if c = 5 then bits .and .u32 a b else if c = 6 then bits .or .u32 a b
  else if c = 7 then bits .xor .u32 a b else if c = 8 then a * 2 ^ (b % 32).toNat % 4294967296 else if c = 9 then a / 2 ^ (b % 32).toNat
  else if c = 10 then sg a / 2 ^ (b % 32).toNat % 4294967296 else if c = 11 then a * b % 4294967296 else if c = 12 then a / b
  else if c = 13 then b01 (a == b) else if c = 14 then b01 (decide (a < b)) else if c = 15 then b01 (decide (sg a < sg b)) else 0
theorem op_n (c a b : Int) (h : c < 3 ∨ 15 < c) : op c a b = 0 := by
  unfold op
  iterate 13 rw [if_neg (by omega)]
theorem sg_wrap (a : Int) (h0 : 0 ≤ a) (h1 : a < 4294967296) : wrap32 a = sg a := by unfold sg wrap32; split <;> omega
theorem op_3 (a b : Int) : op 3 a b = (a + b) % 4294967296 := by simp [op]
theorem op_4 (a b : Int) : op 4 a b = (a - b) % 4294967296 := by simp [op]
theorem op_5 (a b : Int) : op 5 a b = bits .and .u32 a b := by simp [op]
theorem op_6 (a b : Int) : op 6 a b = bits .or .u32 a b := by simp [op]
theorem op_7 (a b : Int) : op 7 a b = bits .xor .u32 a b := by simp [op]
theorem op_8 (a b : Int) : op 8 a b = a * 2 ^ (b % 32).toNat % 4294967296 := by simp [op]
theorem op_9 (a b : Int) : op 9 a b = a / 2 ^ (b % 32).toNat := by simp [op]
theorem op_10 (a b : Int) : op 10 a b = sg a / 2 ^ (b % 32).toNat % 4294967296 := by simp [op]
theorem op_11 (a b : Int) : op 11 a b = a * b % 4294967296 := by simp [op]
theorem op_12 (a b : Int) : op 12 a b = a / b := by simp [op]
theorem op_13 (a b : Int) : op 13 a b = b01 (a == b) := by simp [op]
theorem op_14 (a b : Int) : op 14 a b = b01 (decide (a < b)) := by simp [op]
theorem op_15 (a b : Int) : op 15 a b = b01 (decide (sg a < sg b)) := by simp [op]
theorem bits_bd (o : BinOp) (x y : Int) : 0 ≤ bits o .u32 x y ∧ bits o .u32 x y < 4294967296 := by
  unfold bits
  rw [IntKind.wrap_u32']
  exact ⟨Int.emod_nonneg _ (by decide), Int.emod_lt_of_pos _ (by decide)⟩
def InW (x : Int) : Prop := 0 ≤ x ∧ x < 4294967296
theorem InW.ite {c : Prop} [Decidable c] {a b : Int} (h : InW a) (k : InW b) : InW (if c then a else b) := by split <;> assumption
theorem op_bd (c a b : Int) (ha : 0 ≤ a) (ha' : a < 4294967296) (hb : 0 ≤ b) : 0 ≤ op c a b ∧ op c a b < 4294967296 := by
  show InW (op c a b)
  unfold op
  repeat' (refine InW.ite ?_ ?_)
  all_goals first
    | exact bits_bd _ _ _
    | exact ⟨Int.emod_nonneg _ (by decide), Int.emod_lt_of_pos _ (by decide)⟩
    | exact ⟨by decide, by decide⟩
    | exact ⟨(b01_bd _).1, by have := (b01_bd (a == b)).2; have := (b01_bd (decide (a < b))).2; have := (b01_bd (decide (sg a < sg b))).2; omega⟩
    | exact ⟨Int.ediv_nonneg ha hb, Int.lt_of_le_of_lt (Int.ediv_le_self _ ha) ha'⟩
    | exact ⟨Int.ediv_nonneg ha (Int.le_of_lt (Int.pow_pos (by decide))), Int.lt_of_le_of_lt (Int.ediv_le_self _ ha) ha'⟩
end Go.Proofs.YtgbndbljohpnmaaGreat.W
