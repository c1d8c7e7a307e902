/- Texts of the walk, merged (3): see the remark ahead of each. -/
import Derived.Test.YtgbndbljohpnmaaZr2
import Derived.Test.YtgbndbljohpnmaaProg
import Derived.Lib.SmallJoins
import Derived.SizedLaws
import Derived.WalkKit
import Derived.ProofKit
import Derived.OpenShut
import Derived.ShutString
import Derived.ChangeOld
import Derived.Below
import Derived.Carry
import Derived.ChangeMaps5
import Derived.MapKept
/- XRf -/
namespace Go.Proofs.Ytgbndbljohpnmaa
set_option linter.unusedVariables false
set_option linter.unusedSimpArgs false
open Go.RowKit
theorem M.V.set_out {V : M.V} {a : Nat} {v : Int} (h : ¬ a / 256 < V.n) : V.set a v = V := if_neg h
theorem R.its_set {r : Nat} {s : R.Sl} {V : M.V} {a : Nat} {v : Int} (h : a / 256 < V.n) : [A.blk r (R.cells s V), A.vec .u8 s.a0 s.c0 ((R.flat V.d V.n).set a v), A.vec .u8 s.a1 s.c1 (R.flat V.i (R.len V)), A.vec .u8 s.a2 s.c2 (R.flat V.cd V.n), A.vec .u8 s.a3 s.c3 (R.flat V.ci (R.len V)), A.vec .i64 s.a4 s.c4 (R.rts V.r V.n)] = R.its r s (V.set a v) := by
  unfold R.its
  rw [← R.vs_set h, R.cells_eq (V := V.set a v) (W := V) (R.set_n _ _ _) (R.set_coh _ _ _)]
theorem R_Poke {r : Nat} {s : R.Sl} {V : M.V} (a : Nat) (ha : a < 4294967296) (b : ByteArray) (hb : b.size < 4294967296) : A.Tr Try.prog 31 #[.pointer (some ⟨r, 0, none⟩), .int .u32 ((a : Nat) : Int), .string b] (R.its r s V) (I := Unit) (fun _ => True) (fun _ => .tuple #[]) (fun _ => R.its r s (V.poke a b b.size)) := by
 intro w oo aa hh
 refine E.enter (n := 33) (S := oo) Try.func31 rfl rfl (by kernel_rfl) (A.start (L := []) hh) ?_
 refine E.sr ?_
 refine E.op (.int .i64 0) ?_
 refine E.To.code ?_
 refine E.C.block ?_
 refine E.C.loop (I := Nat) (fun i => b.size - i) (fun i => i ≤ b.size) (fun i => [(0, .pointer (some ⟨r, 0, none⟩)), (1, .int .u32 ((a : Nat) : Int)), (2, .string b), (6, .int .i64 ((i : Nat) : Int))]) (fun i => A.X w oo aa [A.blk r [.slice s.a0 (256 * (V.poke a b i).n) s.c0, .slice s.a1 (256 * R.len (V.poke a b i)) s.c1, .slice s.a2 (256 * (V.poke a b i).n) s.c2, .slice s.a3 (256 * R.len (V.poke a b i)) s.c3, .slice s.a4 ((V.poke a b i).n) s.c4, .bool ((V.poke a b i).coh)], A.vec .u8 s.a0 s.c0 (R.flat (V.poke a b i).d (V.poke a b i).n), A.vec .u8 s.a1 s.c1 (R.flat (V.poke a b i).i (R.len (V.poke a b i))), A.vec .u8 s.a2 s.c2 (R.flat (V.poke a b i).cd (V.poke a b i).n), A.vec .u8 s.a3 s.c3 (R.flat (V.poke a b i).ci (R.len (V.poke a b i))), A.vec .i64 s.a4 s.c4 (R.rts (V.poke a b i).r (V.poke a b i).n)]) (fun i => []) 0 (Nat.zero_le _) ⟨by kernel_rfl, by kernel_rfl⟩ (List.Sublist.refl _) (fun _ h => h) (fun i hk1 => ?_)
 refine E.C.seq ?_
 refine E.sr ?_
 refine E.op (.int .i64 ((i : Nat) : Int)) ?_
 refine E.op (.string b) ?_
 refine E.op (.int .i64 ((b.size : Nat) : Int)) ?_
 refine E.op (.bool (decide (((i : Nat) : Int) < ((b.size : Nat) : Int)))) ?_
 refine E.To.code ?_
 refine E.cd (decide (((i : Nat) : Int) < ((b.size : Nat) : Int))) (fun hc1 => ?_) (fun hc1 => ?_)
 ·
  refine E.C.skip (E.To.code ?_)
  refine E.C.seq ?_
  refine E.C.block ?_
  refine E.sr ?_
  refine E.op (.pointer (some ⟨r, 0, none⟩)) ?_
  refine E.op (.int .u32 ((a : Nat) : Int)) ?_
  refine E.op (.int .i64 ((i : Nat) : Int)) ?_
  refine E.vl (.int .u32 ((i : Nat) : Int)) (fun w h => E.run_as (a := .int .u32 (IntKind.wrap .u32 ((i : Nat) : Int))) (by kernel_rfl) (congrArg (Value.int .u32) (by exact Nz.w32 (x := i) (by (first | assumption | ((try simp only [Bool.or_eq_false_iff, Bool.or_eq_true, Bool.and_eq_true, Bool.and_eq_false_iff, Bool.not_eq_eq_eq_not, Bool.not_true, Bool.not_false, decide_eq_true_eq, decide_eq_false_iff_not, ge_iff_le, gt_iff_lt] at *); omega)))))) ?_
  refine E.vl (.int .u32 (((a + i) % 4294967296 : Nat) : Int)) (fun w h => E.run_as (a := .int .u32 (IntKind.wrap .u32 (((a : Nat) : Int) + ((i : Nat) : Int)))) (by kernel_rfl) (congrArg (Value.int .u32) (by exact Nz.add32 a i))) ?_
  refine E.G.call (.bool (decide (((a + i) % 4294967296) / 256 < (V.poke a b i).n))) (fun w h => A.call_rd [] (R_In ((a + i) % 4294967296) (by (first | assumption | ((try simp only [Bool.or_eq_false_iff, Bool.or_eq_true, Bool.and_eq_true, Bool.and_eq_false_iff, Bool.not_eq_eq_eq_not, Bool.not_true, Bool.not_false, decide_eq_true_eq, decide_eq_false_iff_not, ge_iff_le, gt_iff_lt] at *); omega))) (r := r) (s := s) (V := (V.poke a b i))) h (by kernel_rfl) (A.pn [0, 1, 2, 3, 4, 5])) (fun w _ => by kernel_rfl) (by kernel_rfl) ?_
  refine E.op (.bool (decide (((a + i) % 4294967296) / 256 < (V.poke a b i).n))) ?_
  refine E.tr ?_
  refine E.op (.bool (decide (((a + i) % 4294967296) / 256 < (V.poke a b i).n))) ?_
  refine E.To.code ?_
  refine E.cd (decide (((a + i) % 4294967296) / 256 < (V.poke a b i).n)) (fun hc2 => ?_) (fun hc2 => ?_)
  ·
   refine E.C.know (p := s.a0 = some ⟨A.bk s.a0, 0, none⟩) (fun w h => A.Y.ao (A.X.y h.x) (k := 1) rfl (by simp only [R.flat_len]; (first | assumption | ((try simp only [Bool.or_eq_false_iff, Bool.or_eq_true, Bool.and_eq_true, Bool.and_eq_false_iff, Bool.not_eq_eq_eq_not, Bool.not_true, Bool.not_false, decide_eq_true_eq, decide_eq_false_iff_not, ge_iff_le, gt_iff_lt] at *); omega)))) (fun hao3 => ?_)
   refine E.C.held (A.Y [A.blk r [.slice s.a0 (256 * (V.poke a b i).n) s.c0, .slice s.a1 (256 * R.len (V.poke a b i)) s.c1, .slice s.a2 (256 * (V.poke a b i).n) s.c2, .slice s.a3 (256 * R.len (V.poke a b i)) s.c3, .slice s.a4 ((V.poke a b i).n) s.c4, .bool ((V.poke a b i).coh)], A.vec .u8 s.a1 s.c1 (R.flat (V.poke a b i).i (R.len (V.poke a b i))), A.vec .u8 s.a2 s.c2 (R.flat (V.poke a b i).cd (V.poke a b i).n), A.vec .u8 s.a3 s.c3 (R.flat (V.poke a b i).ci (R.len (V.poke a b i))), A.vec .i64 s.a4 s.c4 (R.rts (V.poke a b i).r (V.poke a b i).n)]) (by kernel_rfl) ?_
   refine E.tk 0 (.pointer (some ⟨r, 0, none⟩)) rfl (fun w h => A.Y.part (p := [A.blk r [.slice s.a0 (256 * (V.poke a b i).n) s.c0, .slice s.a1 (256 * R.len (V.poke a b i)) s.c1, .slice s.a2 (256 * (V.poke a b i).n) s.c2, .slice s.a3 (256 * R.len (V.poke a b i)) s.c3, .slice s.a4 ((V.poke a b i).n) s.c4, .bool ((V.poke a b i).coh)], A.vec .u8 s.a1 s.c1 (R.flat (V.poke a b i).i (R.len (V.poke a b i))), A.vec .u8 s.a2 s.c2 (R.flat (V.poke a b i).cd (V.poke a b i).n), A.vec .u8 s.a3 s.c3 (R.flat (V.poke a b i).ci (R.len (V.poke a b i))), A.vec .i64 s.a4 s.c4 (R.rts (V.poke a b i).r (V.poke a b i).n)]) (r := [A.vec .u8 s.a0 s.c0 (R.flat (V.poke a b i).d (V.poke a b i).n)]) (A.X.y h.x) (A.pn [0, 2, 3, 4, 5, 1])) ?_
   refine E.tk 1 (.pointer (some ⟨r, 0, none⟩)) rfl (fun w h => A.Y.part (p := [A.blk r [.slice s.a0 (256 * (V.poke a b i).n) s.c0, .slice s.a1 (256 * R.len (V.poke a b i)) s.c1, .slice s.a2 (256 * (V.poke a b i).n) s.c2, .slice s.a3 (256 * R.len (V.poke a b i)) s.c3, .slice s.a4 ((V.poke a b i).n) s.c4, .bool ((V.poke a b i).coh)], A.vec .u8 s.a1 s.c1 (R.flat (V.poke a b i).i (R.len (V.poke a b i))), A.vec .u8 s.a2 s.c2 (R.flat (V.poke a b i).cd (V.poke a b i).n), A.vec .u8 s.a3 s.c3 (R.flat (V.poke a b i).ci (R.len (V.poke a b i))), A.vec .i64 s.a4 s.c4 (R.rts (V.poke a b i).r (V.poke a b i).n)]) (r := [A.vec .u8 s.a0 s.c0 (R.flat (V.poke a b i).d (V.poke a b i).n)]) (A.X.y h.x) (A.pn [0, 2, 3, 4, 5, 1])) ?_
   refine E.tk 2 (.pointer (some ⟨r, 0, none⟩)) rfl (fun w h => A.Y.part (p := [A.blk r [.slice s.a0 (256 * (V.poke a b i).n) s.c0, .slice s.a1 (256 * R.len (V.poke a b i)) s.c1, .slice s.a2 (256 * (V.poke a b i).n) s.c2, .slice s.a3 (256 * R.len (V.poke a b i)) s.c3, .slice s.a4 ((V.poke a b i).n) s.c4, .bool ((V.poke a b i).coh)], A.vec .u8 s.a1 s.c1 (R.flat (V.poke a b i).i (R.len (V.poke a b i))), A.vec .u8 s.a2 s.c2 (R.flat (V.poke a b i).cd (V.poke a b i).n), A.vec .u8 s.a3 s.c3 (R.flat (V.poke a b i).ci (R.len (V.poke a b i))), A.vec .i64 s.a4 s.c4 (R.rts (V.poke a b i).r (V.poke a b i).n)]) (r := [A.vec .u8 s.a0 s.c0 (R.flat (V.poke a b i).d (V.poke a b i).n)]) (A.X.y h.x) (A.pn [0, 2, 3, 4, 5, 1])) ?_
   refine E.tj 3 (.slice s.a0 (256 * (V.poke a b i).n) s.c0) rfl (fun w h => A.Y.part (p := [A.blk r [.slice s.a0 (256 * (V.poke a b i).n) s.c0, .slice s.a1 (256 * R.len (V.poke a b i)) s.c1, .slice s.a2 (256 * (V.poke a b i).n) s.c2, .slice s.a3 (256 * R.len (V.poke a b i)) s.c3, .slice s.a4 ((V.poke a b i).n) s.c4, .bool ((V.poke a b i).coh)], A.vec .u8 s.a1 s.c1 (R.flat (V.poke a b i).i (R.len (V.poke a b i))), A.vec .u8 s.a2 s.c2 (R.flat (V.poke a b i).cd (V.poke a b i).n), A.vec .u8 s.a3 s.c3 (R.flat (V.poke a b i).ci (R.len (V.poke a b i))), A.vec .i64 s.a4 s.c4 (R.rts (V.poke a b i).r (V.poke a b i).n)]) (r := [A.vec .u8 s.a0 s.c0 (R.flat (V.poke a b i).d (V.poke a b i).n)]) (A.X.y h.x) (A.pn [0, 2, 3, 4, 5, 1])) (fun w h => A.Y.bld h (k := 0) (j := 0) rfl (by kernel_rfl) (by kernel_rfl)) ?_
   refine E.tk 4 (.int .u32 ((a : Nat) : Int)) rfl (fun w h => A.Y.part (p := [A.blk r [.slice s.a0 (256 * (V.poke a b i).n) s.c0, .slice s.a1 (256 * R.len (V.poke a b i)) s.c1, .slice s.a2 (256 * (V.poke a b i).n) s.c2, .slice s.a3 (256 * R.len (V.poke a b i)) s.c3, .slice s.a4 ((V.poke a b i).n) s.c4, .bool ((V.poke a b i).coh)], A.vec .u8 s.a1 s.c1 (R.flat (V.poke a b i).i (R.len (V.poke a b i))), A.vec .u8 s.a2 s.c2 (R.flat (V.poke a b i).cd (V.poke a b i).n), A.vec .u8 s.a3 s.c3 (R.flat (V.poke a b i).ci (R.len (V.poke a b i))), A.vec .i64 s.a4 s.c4 (R.rts (V.poke a b i).r (V.poke a b i).n)]) (r := [A.vec .u8 s.a0 s.c0 (R.flat (V.poke a b i).d (V.poke a b i).n)]) (A.X.y h.x) (A.pn [0, 2, 3, 4, 5, 1])) ?_
   refine E.tk 5 (.int .i64 ((i : Nat) : Int)) rfl (fun w h => A.Y.part (p := [A.blk r [.slice s.a0 (256 * (V.poke a b i).n) s.c0, .slice s.a1 (256 * R.len (V.poke a b i)) s.c1, .slice s.a2 (256 * (V.poke a b i).n) s.c2, .slice s.a3 (256 * R.len (V.poke a b i)) s.c3, .slice s.a4 ((V.poke a b i).n) s.c4, .bool ((V.poke a b i).coh)], A.vec .u8 s.a1 s.c1 (R.flat (V.poke a b i).i (R.len (V.poke a b i))), A.vec .u8 s.a2 s.c2 (R.flat (V.poke a b i).cd (V.poke a b i).n), A.vec .u8 s.a3 s.c3 (R.flat (V.poke a b i).ci (R.len (V.poke a b i))), A.vec .i64 s.a4 s.c4 (R.rts (V.poke a b i).r (V.poke a b i).n)]) (r := [A.vec .u8 s.a0 s.c0 (R.flat (V.poke a b i).d (V.poke a b i).n)]) (A.X.y h.x) (A.pn [0, 2, 3, 4, 5, 1])) ?_
   refine E.tj 6 (.int .u32 ((i : Nat) : Int)) rfl (fun w h => A.Y.part (p := [A.blk r [.slice s.a0 (256 * (V.poke a b i).n) s.c0, .slice s.a1 (256 * R.len (V.poke a b i)) s.c1, .slice s.a2 (256 * (V.poke a b i).n) s.c2, .slice s.a3 (256 * R.len (V.poke a b i)) s.c3, .slice s.a4 ((V.poke a b i).n) s.c4, .bool ((V.poke a b i).coh)], A.vec .u8 s.a1 s.c1 (R.flat (V.poke a b i).i (R.len (V.poke a b i))), A.vec .u8 s.a2 s.c2 (R.flat (V.poke a b i).cd (V.poke a b i).n), A.vec .u8 s.a3 s.c3 (R.flat (V.poke a b i).ci (R.len (V.poke a b i))), A.vec .i64 s.a4 s.c4 (R.rts (V.poke a b i).r (V.poke a b i).n)]) (r := [A.vec .u8 s.a0 s.c0 (R.flat (V.poke a b i).d (V.poke a b i).n)]) (A.X.y h.x) (A.pn [0, 2, 3, 4, 5, 1])) (fun w h => E.run_as (a := .int .u32 (IntKind.wrap .u32 ((i : Nat) : Int))) (by kernel_rfl) (congrArg (Value.int .u32) (by exact Nz.w32 (x := i) (by (first | assumption | ((try simp only [Bool.or_eq_false_iff, Bool.or_eq_true, Bool.and_eq_true, Bool.and_eq_false_iff, Bool.not_eq_eq_eq_not, Bool.not_true, Bool.not_false, decide_eq_true_eq, decide_eq_false_iff_not, ge_iff_le, gt_iff_lt] at *); omega)))))) ?_
   refine E.tj 7 (.int .u32 (((a + i) % 4294967296 : Nat) : Int)) rfl (fun w h => A.Y.part (p := [A.blk r [.slice s.a0 (256 * (V.poke a b i).n) s.c0, .slice s.a1 (256 * R.len (V.poke a b i)) s.c1, .slice s.a2 (256 * (V.poke a b i).n) s.c2, .slice s.a3 (256 * R.len (V.poke a b i)) s.c3, .slice s.a4 ((V.poke a b i).n) s.c4, .bool ((V.poke a b i).coh)], A.vec .u8 s.a1 s.c1 (R.flat (V.poke a b i).i (R.len (V.poke a b i))), A.vec .u8 s.a2 s.c2 (R.flat (V.poke a b i).cd (V.poke a b i).n), A.vec .u8 s.a3 s.c3 (R.flat (V.poke a b i).ci (R.len (V.poke a b i))), A.vec .i64 s.a4 s.c4 (R.rts (V.poke a b i).r (V.poke a b i).n)]) (r := [A.vec .u8 s.a0 s.c0 (R.flat (V.poke a b i).d (V.poke a b i).n)]) (A.X.y h.x) (A.pn [0, 2, 3, 4, 5, 1])) (fun w h => E.run_as (a := .int .u32 (IntKind.wrap .u32 (((a : Nat) : Int) + ((i : Nat) : Int)))) (by kernel_rfl) (congrArg (Value.int .u32) (by exact Nz.add32 a i))) ?_
   refine E.tk 8 (.string b) rfl (fun w h => A.Y.part (p := [A.blk r [.slice s.a0 (256 * (V.poke a b i).n) s.c0, .slice s.a1 (256 * R.len (V.poke a b i)) s.c1, .slice s.a2 (256 * (V.poke a b i).n) s.c2, .slice s.a3 (256 * R.len (V.poke a b i)) s.c3, .slice s.a4 ((V.poke a b i).n) s.c4, .bool ((V.poke a b i).coh)], A.vec .u8 s.a1 s.c1 (R.flat (V.poke a b i).i (R.len (V.poke a b i))), A.vec .u8 s.a2 s.c2 (R.flat (V.poke a b i).cd (V.poke a b i).n), A.vec .u8 s.a3 s.c3 (R.flat (V.poke a b i).ci (R.len (V.poke a b i))), A.vec .i64 s.a4 s.c4 (R.rts (V.poke a b i).r (V.poke a b i).n)]) (r := [A.vec .u8 s.a0 s.c0 (R.flat (V.poke a b i).d (V.poke a b i).n)]) (A.X.y h.x) (A.pn [0, 2, 3, 4, 5, 1])) ?_
   refine E.tk 9 (.int .i64 ((i : Nat) : Int)) rfl (fun w h => A.Y.part (p := [A.blk r [.slice s.a0 (256 * (V.poke a b i).n) s.c0, .slice s.a1 (256 * R.len (V.poke a b i)) s.c1, .slice s.a2 (256 * (V.poke a b i).n) s.c2, .slice s.a3 (256 * R.len (V.poke a b i)) s.c3, .slice s.a4 ((V.poke a b i).n) s.c4, .bool ((V.poke a b i).coh)], A.vec .u8 s.a1 s.c1 (R.flat (V.poke a b i).i (R.len (V.poke a b i))), A.vec .u8 s.a2 s.c2 (R.flat (V.poke a b i).cd (V.poke a b i).n), A.vec .u8 s.a3 s.c3 (R.flat (V.poke a b i).ci (R.len (V.poke a b i))), A.vec .i64 s.a4 s.c4 (R.rts (V.poke a b i).r (V.poke a b i).n)]) (r := [A.vec .u8 s.a0 s.c0 (R.flat (V.poke a b i).d (V.poke a b i).n)]) (A.X.y h.x) (A.pn [0, 2, 3, 4, 5, 1])) ?_
   refine E.tj 10 (.int .u8 (W.byt b.data.toList i)) rfl (fun w h => A.Y.part (p := [A.blk r [.slice s.a0 (256 * (V.poke a b i).n) s.c0, .slice s.a1 (256 * R.len (V.poke a b i)) s.c1, .slice s.a2 (256 * (V.poke a b i).n) s.c2, .slice s.a3 (256 * R.len (V.poke a b i)) s.c3, .slice s.a4 ((V.poke a b i).n) s.c4, .bool ((V.poke a b i).coh)], A.vec .u8 s.a1 s.c1 (R.flat (V.poke a b i).i (R.len (V.poke a b i))), A.vec .u8 s.a2 s.c2 (R.flat (V.poke a b i).cd (V.poke a b i).n), A.vec .u8 s.a3 s.c3 (R.flat (V.poke a b i).ci (R.len (V.poke a b i))), A.vec .i64 s.a4 s.c4 (R.rts (V.poke a b i).r (V.poke a b i).n)]) (r := [A.vec .u8 s.a0 s.c0 (R.flat (V.poke a b i).d (V.poke a b i).n)]) (A.X.y h.x) (A.pn [0, 2, 3, 4, 5, 1])) (fun w h => E.run_as (a := .int .u8 (W.byt b.data.toList (((i : Nat) : Int)).toNat)) (E.sidx b .i64 ((i : Nat) : Int) (by kernel_rfl) (by kernel_rfl) (by kernel_rfl) (by (first | assumption | ((try simp only [Bool.or_eq_false_iff, Bool.or_eq_true, Bool.and_eq_true, Bool.and_eq_false_iff, Bool.not_eq_eq_eq_not, Bool.not_true, Bool.not_false, decide_eq_true_eq, decide_eq_false_iff_not, ge_iff_le, gt_iff_lt] at *); omega))) (by (first | assumption | ((try simp only [Bool.or_eq_false_iff, Bool.or_eq_true, Bool.and_eq_true, Bool.and_eq_false_iff, Bool.not_eq_eq_eq_not, Bool.not_true, Bool.not_false, decide_eq_true_eq, decide_eq_false_iff_not, ge_iff_le, gt_iff_lt] at *); omega))) w) (rfl)) ?_
   refine E.tj 11 (.pointer (some ⟨(A.bk s.a0), ((a + i) % 4294967296), none⟩)) rfl (fun w h => A.Y.part (p := [A.blk r [.slice s.a0 (256 * (V.poke a b i).n) s.c0, .slice s.a1 (256 * R.len (V.poke a b i)) s.c1, .slice s.a2 (256 * (V.poke a b i).n) s.c2, .slice s.a3 (256 * R.len (V.poke a b i)) s.c3, .slice s.a4 ((V.poke a b i).n) s.c4, .bool ((V.poke a b i).coh)], A.vec .u8 s.a1 s.c1 (R.flat (V.poke a b i).i (R.len (V.poke a b i))), A.vec .u8 s.a2 s.c2 (R.flat (V.poke a b i).cd (V.poke a b i).n), A.vec .u8 s.a3 s.c3 (R.flat (V.poke a b i).ci (R.len (V.poke a b i))), A.vec .i64 s.a4 s.c4 (R.rts (V.poke a b i).r (V.poke a b i).n)]) (r := [A.vec .u8 s.a0 s.c0 (R.flat (V.poke a b i).d (V.poke a b i).n)]) (A.X.y h.x) (A.pn [0, 2, 3, 4, 5, 1])) (fun w h => A.idxP (e := 5) (ik := .u32) (i := ((a + i) % 4294967296)) (len := (256 * (V.poke a b i).n)) (c2 := s.c0) hao3 (by kernel_rfl) (by kernel_rfl) (by kernel_rfl) (by kernel_rfl) (by (first | assumption | ((try simp only [Bool.or_eq_false_iff, Bool.or_eq_true, Bool.and_eq_true, Bool.and_eq_false_iff, Bool.not_eq_eq_eq_not, Bool.not_true, Bool.not_false, decide_eq_true_eq, decide_eq_false_iff_not, ge_iff_le, gt_iff_lt] at *); omega))) w) ?_
   refine E.al 12 rfl ?_
   refine A.G.vst (kd := .u8) (ao := s.a0) (cap := s.c0) (i := ((a + i) % 4294967296)) (xs := (R.flat (V.poke a b i).d (V.poke a b i).n)) (v := (W.byt b.data.toList i)) 1 rfl (by kernel_rfl) (by kernel_rfl) (by kernel_rfl) (by simp only [R.flat_len]; (first | assumption | ((try simp only [Bool.or_eq_false_iff, Bool.or_eq_true, Bool.and_eq_true, Bool.and_eq_false_iff, Bool.not_eq_eq_eq_not, Bool.not_true, Bool.not_false, decide_eq_true_eq, decide_eq_false_iff_not, ge_iff_le, gt_iff_lt] at *); omega))) (by kernel_rfl) (by kernel_rfl) ?_
   refine E.H.back (fun w h => A.Y.part (p := [A.blk r [.slice s.a0 (256 * (V.poke a b i).n) s.c0, .slice s.a1 (256 * R.len (V.poke a b i)) s.c1, .slice s.a2 (256 * (V.poke a b i).n) s.c2, .slice s.a3 (256 * R.len (V.poke a b i)) s.c3, .slice s.a4 ((V.poke a b i).n) s.c4, .bool ((V.poke a b i).coh)], A.vec .u8 s.a1 s.c1 (R.flat (V.poke a b i).i (R.len (V.poke a b i))), A.vec .u8 s.a2 s.c2 (R.flat (V.poke a b i).cd (V.poke a b i).n), A.vec .u8 s.a3 s.c3 (R.flat (V.poke a b i).ci (R.len (V.poke a b i))), A.vec .i64 s.a4 s.c4 (R.rts (V.poke a b i).r (V.poke a b i).n)]) (r := [A.vec .u8 s.a0 s.c0 ((R.flat (V.poke a b i).d (V.poke a b i).n).set ((a + i) % 4294967296) (W.byt b.data.toList i))]) (A.X.y h.x) (A.pn [0, 2, 3, 4, 5, 1])) ?_
   refine E.H.done (by kernel_rfl) ?_
   refine E.P.nb (E.To.code ?_)
   refine A.C.eq ([A.blk r [.slice s.a0 (256 * (V.poke a b (i + 1)).n) s.c0, .slice s.a1 (256 * R.len (V.poke a b (i + 1))) s.c1, .slice s.a2 (256 * (V.poke a b (i + 1)).n) s.c2, .slice s.a3 (256 * R.len (V.poke a b (i + 1))) s.c3, .slice s.a4 ((V.poke a b (i + 1)).n) s.c4, .bool ((V.poke a b (i + 1)).coh)], A.vec .u8 s.a0 s.c0 (R.flat (V.poke a b (i + 1)).d (V.poke a b (i + 1)).n), A.vec .u8 s.a1 s.c1 (R.flat (V.poke a b (i + 1)).i (R.len (V.poke a b (i + 1)))), A.vec .u8 s.a2 s.c2 (R.flat (V.poke a b (i + 1)).cd (V.poke a b (i + 1)).n), A.vec .u8 s.a3 s.c3 (R.flat (V.poke a b (i + 1)).ci (R.len (V.poke a b (i + 1)))), A.vec .i64 s.a4 s.c4 (R.rts (V.poke a b (i + 1)).r (V.poke a b (i + 1)).n)]) (R.its_set (by (first | assumption | ((try simp only [Bool.or_eq_false_iff, Bool.or_eq_true, Bool.and_eq_true, Bool.and_eq_false_iff, Bool.not_eq_eq_eq_not, Bool.not_true, Bool.not_false, decide_eq_true_eq, decide_eq_false_iff_not, ge_iff_le, gt_iff_lt] at *); omega)))) ?_
   refine E.C.region ?_
   refine E.op (.int .i64 ((i : Nat) : Int)) ?_
   refine E.vl (.int .i64 ((i + 1 : Nat) : Int)) (fun w h => E.run_as (a := .int .i64 (IntKind.wrap .i64 (((i : Nat) : Int) + 1))) (by kernel_rfl) (congrArg (Value.int .i64) (by exact Nz.add64 (x := i) (y := 1) (by (first | assumption | ((try simp only [Bool.or_eq_false_iff, Bool.or_eq_true, Bool.and_eq_true, Bool.and_eq_false_iff, Bool.not_eq_eq_eq_not, Bool.not_true, Bool.not_false, decide_eq_true_eq, decide_eq_false_iff_not, ge_iff_le, gt_iff_lt] at *); omega)))))) ?_
   refine E.op (.int .i64 ((i + 1 : Nat) : Int)) ?_
   exact E.To.round (i + 1) (by (first | assumption | ((try simp only [Bool.or_eq_false_iff, Bool.or_eq_true, Bool.and_eq_true, Bool.and_eq_false_iff, Bool.not_eq_eq_eq_not, Bool.not_true, Bool.not_false, decide_eq_true_eq, decide_eq_false_iff_not, ge_iff_le, gt_iff_lt] at *); omega))) (by (first | assumption | ((try simp only [Bool.or_eq_false_iff, Bool.or_eq_true, Bool.and_eq_true, Bool.and_eq_false_iff, Bool.not_eq_eq_eq_not, Bool.not_true, Bool.not_false, decide_eq_true_eq, decide_eq_false_iff_not, ge_iff_le, gt_iff_lt] at *); omega))) ⟨by kernel_rfl, by kernel_rfl⟩ (List.Sublist.refl _) (fun _ h => h)
  refine E.C.skip (E.P.nb (E.To.code ?_))
  refine A.C.eq ([A.blk r [.slice s.a0 (256 * (V.poke a b (i + 1)).n) s.c0, .slice s.a1 (256 * R.len (V.poke a b (i + 1))) s.c1, .slice s.a2 (256 * (V.poke a b (i + 1)).n) s.c2, .slice s.a3 (256 * R.len (V.poke a b (i + 1))) s.c3, .slice s.a4 ((V.poke a b (i + 1)).n) s.c4, .bool ((V.poke a b (i + 1)).coh)], A.vec .u8 s.a0 s.c0 (R.flat (V.poke a b (i + 1)).d (V.poke a b (i + 1)).n), A.vec .u8 s.a1 s.c1 (R.flat (V.poke a b (i + 1)).i (R.len (V.poke a b (i + 1)))), A.vec .u8 s.a2 s.c2 (R.flat (V.poke a b (i + 1)).cd (V.poke a b (i + 1)).n), A.vec .u8 s.a3 s.c3 (R.flat (V.poke a b (i + 1)).ci (R.len (V.poke a b (i + 1)))), A.vec .i64 s.a4 s.c4 (R.rts (V.poke a b (i + 1)).r (V.poke a b (i + 1)).n)]) (congrArg (R.its r s) (M.V.set_out (by (first | assumption | ((try simp only [Bool.or_eq_false_iff, Bool.or_eq_true, Bool.and_eq_true, Bool.and_eq_false_iff, Bool.not_eq_eq_eq_not, Bool.not_true, Bool.not_false, decide_eq_true_eq, decide_eq_false_iff_not, ge_iff_le, gt_iff_lt] at *); omega)))).symm) ?_
  refine E.C.region ?_
  refine E.op (.int .i64 ((i : Nat) : Int)) ?_
  refine E.vl (.int .i64 ((i + 1 : Nat) : Int)) (fun w h => E.run_as (a := .int .i64 (IntKind.wrap .i64 (((i : Nat) : Int) + 1))) (by kernel_rfl) (congrArg (Value.int .i64) (by exact Nz.add64 (x := i) (y := 1) (by (first | assumption | ((try simp only [Bool.or_eq_false_iff, Bool.or_eq_true, Bool.and_eq_true, Bool.and_eq_false_iff, Bool.not_eq_eq_eq_not, Bool.not_true, Bool.not_false, decide_eq_true_eq, decide_eq_false_iff_not, ge_iff_le, gt_iff_lt] at *); omega)))))) ?_
  refine E.op (.int .i64 ((i + 1 : Nat) : Int)) ?_
  exact E.To.round (i + 1) (by (first | assumption | ((try simp only [Bool.or_eq_false_iff, Bool.or_eq_true, Bool.and_eq_true, Bool.and_eq_false_iff, Bool.not_eq_eq_eq_not, Bool.not_true, Bool.not_false, decide_eq_true_eq, decide_eq_false_iff_not, ge_iff_le, gt_iff_lt] at *); omega))) (by (first | assumption | ((try simp only [Bool.or_eq_false_iff, Bool.or_eq_true, Bool.and_eq_true, Bool.and_eq_false_iff, Bool.not_eq_eq_eq_not, Bool.not_true, Bool.not_false, decide_eq_true_eq, decide_eq_false_iff_not, ge_iff_le, gt_iff_lt] at *); omega))) ⟨by kernel_rfl, by kernel_rfl⟩ (List.Sublist.refl _) (fun _ h => h)
 refine E.C.exit (E.P.et (E.P.et (E.P.eh (E.To.bodyN (fn := Try.f31) [] ?_ ?_))))
 · exact trivial
 intro w h
 obtain rfl : i = b.size := by (first | assumption | ((try simp only [Bool.or_eq_false_iff, Bool.or_eq_true, Bool.and_eq_true, Bool.and_eq_false_iff, Bool.not_eq_eq_eq_not, Bool.not_true, Bool.not_false, decide_eq_true_eq, decide_eq_false_iff_not, ge_iff_le, gt_iff_lt] at *); omega))
 exact ⟨(), trivial, rfl, A.done (q := [A.blk r [.slice s.a0 (256 * (V.poke a b b.size).n) s.c0, .slice s.a1 (256 * R.len (V.poke a b b.size)) s.c1, .slice s.a2 (256 * (V.poke a b b.size).n) s.c2, .slice s.a3 (256 * R.len (V.poke a b b.size)) s.c3, .slice s.a4 ((V.poke a b b.size).n) s.c4, .bool ((V.poke a b b.size).coh)], A.vec .u8 s.a0 s.c0 (R.flat (V.poke a b b.size).d (V.poke a b b.size).n), A.vec .u8 s.a1 s.c1 (R.flat (V.poke a b b.size).i (R.len (V.poke a b b.size))), A.vec .u8 s.a2 s.c2 (R.flat (V.poke a b b.size).cd (V.poke a b b.size).n), A.vec .u8 s.a3 s.c3 (R.flat (V.poke a b b.size).ci (R.len (V.poke a b b.size))), A.vec .i64 s.a4 s.c4 (R.rts (V.poke a b b.size).r (V.poke a b b.size).n)]) (r := []) h (by kernel_rfl) (A.pn [0, 1, 2, 3, 4, 5])⟩
end Go.Proofs.Ytgbndbljohpnmaa

/- XRg -/
namespace Go.Proofs.Ytgbndbljohpnmaa
set_option linter.unusedVariables false
set_option linter.unusedSimpArgs false
open Go.RowKit
def R.sh (v : Int) : Nat → Int
  | 0 => v
  | c + 1 => R.sh v c / 256
end Go.Proofs.Ytgbndbljohpnmaa

/- XRh -/
namespace Go.Proofs.Ytgbndbljohpnmaa
set_option linter.unusedVariables false
set_option linter.unusedSimpArgs false
open Go.RowKit
theorem R.its_img {r : Nat} {s : R.Sl} {V : M.V} {y : Nat} {v : Int} (hc : V.coh = false) (h : y / 256 < V.n) (W : M.V) (hn : W.n = V.n) (hcc : W.coh = V.coh) (hd : ∀ j, j < V.n → ∀ x, x < 256 → W.d j x = V.d j x) (hi : ∀ j, j < V.n → ∀ x, x < 256 → W.i j x = M.up V.i (y / 256) (y % 256) v j x) (hcd : W.cd = V.cd) (hci : W.ci = V.ci) (hr : W.r = V.r) :
    [A.blk r (R.cells s V), A.vec .u8 s.a0 s.c0 (R.flat V.d V.n), A.vec .u8 s.a1 s.c1 ((R.flat V.i (R.len V)).set y v), A.vec .u8 s.a2 s.c2 (R.flat V.cd V.n), A.vec .u8 s.a3 s.c3 (R.flat V.ci (R.len V)), A.vec .i64 s.a4 s.c4 (R.rts V.r V.n)] = R.its r s W := by
  have hl : R.len V = V.n := R.len_f hc
  have hl2 : R.len W = V.n := by rw [R.len_eq hn hcc, hl]
  unfold R.its R.vs
  rw [R.cells_eq (V := W) (W := V) hn hcc, hl2, hl, hn, hcd, hci, hr, R.flat_set v (by omega), R.flat_congr hd, R.flat_congr hi]
/-- The image after the first c bytes of page k have been copied. -/
def R.cpy (V : M.V) (k c : Nat) : M.V := { V with i := fun j x => if j = k ∧ x < c then V.d j x else V.i j x }
theorem R.cpy0 (V : M.V) (k : Nat) : R.cpy V k 0 = V := by unfold R.cpy; simp
theorem R.cpy_end {V : M.V} {k : Nat} (hk : k < V.n) (hc : V.coh = false) {r : Nat} {s : R.Sl} : R.its r s (R.cpy V k 256) = R.its r s (V.sync k) := by
  have e : V.sync k = { V with i := fun j x => if j = k then V.d j x else V.i j x } := if_pos ⟨hk, hc⟩
  have hl : R.len V = V.n := R.len_f hc
  unfold R.its
  rw [e, R.cells_eq (V := R.cpy V k 256) (W := { V with i := fun j x => if j = k then V.d j x else V.i j x }) rfl rfl, R.vs_eq (V := R.cpy V k 256) (W := { V with i := fun j x => if j = k then V.d j x else V.i j x }) rfl rfl rfl (R.flat_congr fun j hj x hx => ?_) rfl rfl rfl]
  show (if j = k ∧ x < 256 then V.d j x else V.i j x) = if j = k then V.d j x else V.i j x
  by_cases e : j = k
  · rw [if_pos ⟨e, hx⟩, if_pos e]
  · rw [if_neg (fun h => e h.1), if_neg e]
theorem R.cpy_next {V : M.V} {k c : Nat} (hc : V.coh = false) (hk : k < V.n) (hcc : c < 256) {r : Nat} {s : R.Sl} {v : Int} (hv : v = V.d k c) :
    [A.blk r (R.cells s (R.cpy V k c)), A.vec .u8 s.a0 s.c0 (R.flat (R.cpy V k c).d (R.cpy V k c).n), A.vec .u8 s.a1 s.c1 ((R.flat (R.cpy V k c).i (R.len (R.cpy V k c))).set (256 * k + c) v), A.vec .u8 s.a2 s.c2 (R.flat (R.cpy V k c).cd (R.cpy V k c).n), A.vec .u8 s.a3 s.c3 (R.flat (R.cpy V k c).ci (R.len (R.cpy V k c))), A.vec .i64 s.a4 s.c4 (R.rts (R.cpy V k c).r (R.cpy V k c).n)] = R.its r s (R.cpy V k (c + 1)) := by
  refine R.its_img (V := R.cpy V k c) hc (by show (256 * k + c) / 256 < V.n; omega) _ rfl rfl (fun _ _ _ _ => rfl) (fun j hj x hx => ?_) rfl rfl rfl
  rw [show (256 * k + c) / 256 = k by omega, show (256 * k + c) % 256 = c by omega]
  show (if j = k ∧ x < c + 1 then V.d j x else V.i j x) = if j = k ∧ x = c then v else (if j = k ∧ x < c then V.d j x else V.i j x)
  by_cases e : j = k
  · subst e
    by_cases e2 : x = c
    · subst e2; simp [hv]
    · have e3 : (x < c + 1) = (x < c) := propext ⟨fun _ => by omega, fun _ => by omega⟩
      simp [e2, e3]
  · simp [e]
/-- The image after the first c bytes of a string have been laid into page k. -/
def R.lay (V : M.V) (k : Nat) (b : ByteArray) (c : Nat) : M.V := { V with i := fun j x => if j = k ∧ x < c then W.byt b.data.toList x else V.i j x }
theorem R.lay0 (V : M.V) (k : Nat) (b : ByteArray) : R.lay V k b 0 = V := by unfold R.lay; simp
theorem R.lay_end {V : M.V} {k : Nat} {b : ByteArray} {c : Nat} (hk : k < V.n) (hc : V.coh = false) (h : c = Nat.min b.size 256) : R.lay V k b c = V.setc ((k : Nat) : Int) b := by
  subst h
  exact (if_pos (c := 0 ≤ ((k : Nat) : Int) ∧ ((k : Nat) : Int) < ((V.n : Nat) : Int) ∧ V.coh = false) (e := V) ⟨by omega, by omega, hc⟩).symm
theorem R.lay_next {V : M.V} {k c : Nat} {b : ByteArray} (hc : V.coh = false) (hk : k < V.n) (hcc : c < 256) {r : Nat} {s : R.Sl} :
    [A.blk r (R.cells s (R.lay V k b c)), A.vec .u8 s.a0 s.c0 (R.flat (R.lay V k b c).d (R.lay V k b c).n), A.vec .u8 s.a1 s.c1 ((R.flat (R.lay V k b c).i (R.len (R.lay V k b c))).set (256 * k + c) (W.byt b.data.toList c)), A.vec .u8 s.a2 s.c2 (R.flat (R.lay V k b c).cd (R.lay V k b c).n), A.vec .u8 s.a3 s.c3 (R.flat (R.lay V k b c).ci (R.len (R.lay V k b c))), A.vec .i64 s.a4 s.c4 (R.rts (R.lay V k b c).r (R.lay V k b c).n)] = R.its r s (R.lay V k b (c + 1)) := by
  refine R.its_img (V := R.lay V k b c) hc (by show (256 * k + c) / 256 < V.n; omega) _ rfl rfl (fun _ _ _ _ => rfl) (fun j hj x hx => ?_) rfl rfl rfl
  rw [show (256 * k + c) / 256 = k by omega, show (256 * k + c) % 256 = c by omega]
  show (if j = k ∧ x < c + 1 then W.byt b.data.toList x else V.i j x) = if j = k ∧ x = c then W.byt b.data.toList c else (if j = k ∧ x < c then W.byt b.data.toList x else V.i j x)
  by_cases e : j = k
  · subst e
    by_cases e2 : x = c
    · subst e2; simp
    · have e3 : (x < c + 1) = (x < c) := propext ⟨fun _ => by omega, fun _ => by omega⟩
      simp [e2, e3]
  · simp [e]
theorem R.its_prot {r : Nat} {s : R.Sl} {V : M.V} {m : Nat} {x : Int} (h : m < V.n) : [A.blk r (R.cells s V), A.vec .u8 s.a0 s.c0 (R.flat V.d V.n), A.vec .u8 s.a1 s.c1 (R.flat V.i (R.len V)), A.vec .u8 s.a2 s.c2 (R.flat V.cd V.n), A.vec .u8 s.a3 s.c3 (R.flat V.ci (R.len V)), A.vec .i64 s.a4 s.c4 ((R.rts V.r V.n).set m (bits .and .i64 x 7))] = R.its r s (V.prot ((m : Nat) : Int) x) := by
  have e : V.prot ((m : Nat) : Int) x = { V with r := fun j => if j = m then bits .and .i64 x 7 else V.r j } := if_pos ⟨by omega, by omega⟩
  rw [e, R.rts_set _ h]; rfl
theorem R.prot_no {V : M.V} {n x : Int} (h : ((decide (n ≥ 0)) && (decide (n < ((V.n : Nat) : Int)))) = false) : V.prot n x = V := if_neg (fun k => by
  rw [decide_eq_true (show n ≥ 0 from k.1), decide_eq_true k.2] at h; cases h)
theorem R.prot_yes {V : M.V} {n : Int} (h : ((decide (n ≥ 0)) && (decide (n < ((V.n : Nat) : Int)))) = true) : ∃ m : Nat, n = ((m : Nat) : Int) ∧ m < V.n := by
  simp only [Bool.and_eq_true, decide_eq_true_eq] at h
  obtain ⟨m, rfl⟩ := Int.eq_ofNat_of_zero_le (show 0 ≤ n from h.1)
  exact ⟨m, rfl, by omega⟩
theorem R.sync_no {V : M.V} {k : Nat} (h : ((decide (k < V.n)) && (!V.coh)) = false) : V.sync k = V := if_neg (fun q => by
  rw [decide_eq_true q.1, q.2] at h; cases h)
theorem R.setc_no {V : M.V} {n : Int} {b : ByteArray} (h : (((decide (n < 0)) || (decide (n ≥ ((V.n : Nat) : Int)))) || V.coh) = true) : V.setc n b = V := if_neg (fun q => by
  rw [q.2.2] at h
  simp only [Bool.or_eq_true, decide_eq_true_eq, Bool.false_eq_true, or_false] at h
  omega)
theorem R.setc_yes {V : M.V} {n : Int} (h : (((decide (n < 0)) || (decide (n ≥ ((V.n : Nat) : Int)))) || V.coh) = false) : ∃ m : Nat, n = ((m : Nat) : Int) ∧ m < V.n ∧ V.coh = false := by
  simp only [Bool.or_eq_false_iff, decide_eq_false_iff_not] at h
  obtain ⟨m, rfl⟩ := Int.eq_ofNat_of_zero_le (show 0 ≤ n by omega)
  exact ⟨m, rfl, by omega, h.2⟩
theorem R.min_end {b : ByteArray} {c : Nat} (h : c ≤ b.size ∧ c ≤ 256) (h2 : ((decide (((c : Nat) : Int) < ((b.size : Nat) : Int))) && (decide (((c : Nat) : Int) < 256))) = false) : c = Nat.min b.size 256 := by
  have e : Nat.min b.size 256 = if b.size ≤ 256 then b.size else 256 := rfl
  rw [e]
  simp only [Bool.and_eq_false_iff, decide_eq_false_iff_not] at h2
  split <;> omega
theorem R_Protect {r : Nat} {s : R.Sl} {V : M.V} (n x : Int) : A.Tr Try.prog 36 #[.pointer (some ⟨r, 0, none⟩), .int .i64 n, .int .i64 x] (R.its r s V) (I := Unit) (fun _ => True) (fun _ => .tuple #[]) (fun _ => R.its r s (V.prot n x)) := by
 intro w oo aa hh
 refine E.enter (n := 25) (S := oo) Try.func36 rfl rfl (by kernel_rfl) (A.start (L := []) hh) ?_
 refine E.sr ?_
 refine E.op (.int .i64 n) ?_
 refine E.op (.bool (decide (n ≥ 0))) ?_
 refine E.op (.bool (decide (n ≥ 0))) ?_
 refine E.G.cut 8 [(0, .pointer (some ⟨r, 0, none⟩)), (1, .int .i64 n), (2, .int .i64 x), (16, .bool ((decide (n ≥ 0)) && (decide (n < ((V.n : Nat) : Int)))))] (A.X w oo aa [A.blk r [.slice s.a0 (256 * V.n) s.c0, .slice s.a1 (256 * R.len V) s.c1, .slice s.a2 (256 * V.n) s.c2, .slice s.a3 (256 * R.len V) s.c3, .slice s.a4 V.n s.c4, .bool V.coh], A.vec .u8 s.a0 s.c0 (R.flat V.d V.n), A.vec .u8 s.a1 s.c1 (R.flat V.i (R.len V)), A.vec .u8 s.a2 s.c2 (R.flat V.cd V.n), A.vec .u8 s.a3 s.c3 (R.flat V.ci (R.len V)), A.vec .i64 s.a4 s.c4 (R.rts V.r V.n)]) [] ?_ ?_
 ·
  generalize hc1 : (decide (n ≥ 0)) = b2
  cases b2
  ·
   refine E.sk ?_
   refine E.sk ?_
   refine E.sk ?_
   refine E.sk ?_
   refine E.sk ?_
   refine E.sk ?_
   refine E.sk ?_
   refine E.op (.bool false) ?_
   exact E.G.end_pst ⟨by kernel_rfl, by kernel_rfl⟩ (List.Sublist.refl _) (fun _ h => h)
  refine E.op (.int .i64 n) ?_
  refine E.op (.pointer (some ⟨r, 0, none⟩)) ?_
  refine E.op (.pointer (some ⟨r, 0, none⟩)) ?_
  refine E.op (.pointer (some ⟨r, 4, none⟩)) ?_
  refine E.vl (.slice s.a4 V.n s.c4) (fun w h => A.Y.bld (A.X.y h.x) (k := 0) (j := 4) rfl (by kernel_rfl) (by kernel_rfl)) ?_
  refine E.op (.int .i64 ((V.n : Nat) : Int)) ?_
  refine E.op (.bool (decide (n < ((V.n : Nat) : Int)))) ?_
  refine E.op (.bool (decide (n < ((V.n : Nat) : Int)))) ?_
  exact E.G.end_pst ⟨by kernel_rfl, by kernel_rfl⟩ (List.Sublist.refl _) (fun _ h => h)
 refine E.To.code ?_
 refine E.cd ((decide (n ≥ 0)) && (decide (n < ((V.n : Nat) : Int)))) (fun hc3 => ?_) (fun hc3 => ?_)
 ·
  obtain ⟨m, rfl, hm⟩ := R.prot_yes hc3
  refine E.C.region ?_
  refine E.op (.pointer (some ⟨r, 0, none⟩)) ?_
  refine E.op (.pointer (some ⟨r, 0, none⟩)) ?_
  refine E.op (.pointer (some ⟨r, 4, none⟩)) ?_
  refine E.vl (.slice s.a4 V.n s.c4) (fun w h => A.Y.bld (A.X.y h.x) (k := 0) (j := 4) rfl (by kernel_rfl) (by kernel_rfl)) ?_
  refine E.op (.int .i64 ((m : Nat) : Int)) ?_
  refine E.op (.int .i64 x) ?_
  refine E.op (.int .i64 (bits .and .i64 x 7)) ?_
  refine E.vl (.pointer (some ⟨(A.bk s.a4), m, none⟩)) (fun w h => A.Y.idx (e := 3) (ik := .i64) (i := m) (len := V.n) (c2 := s.c4) (A.X.y h.x) (k := 5) rfl (by kernel_rfl) (by kernel_rfl) (by kernel_rfl) (by kernel_rfl) (by (first | assumption | ((try simp only [Bool.or_eq_false_iff, Bool.or_eq_true, Bool.and_eq_true, Bool.and_eq_false_iff, Bool.not_eq_eq_eq_not, Bool.not_true, Bool.not_false, decide_eq_true_eq, decide_eq_false_iff_not, ge_iff_le, gt_iff_lt] at *); omega))) (by simp only [R.rts_len]; (first | assumption | ((try simp only [Bool.or_eq_false_iff, Bool.or_eq_true, Bool.and_eq_true, Bool.and_eq_false_iff, Bool.not_eq_eq_eq_not, Bool.not_true, Bool.not_false, decide_eq_true_eq, decide_eq_false_iff_not, ge_iff_le, gt_iff_lt] at *); omega)))) ?_
  refine A.G.vst (kd := .i64) (ao := s.a4) (cap := s.c4) (i := m) (xs := (R.rts V.r V.n)) (v := (bits .and .i64 x 7)) 5 rfl (by kernel_rfl) (by kernel_rfl) (by kernel_rfl) (by simp only [R.rts_len]; (first | assumption | ((try simp only [Bool.or_eq_false_iff, Bool.or_eq_true, Bool.and_eq_true, Bool.and_eq_false_iff, Bool.not_eq_eq_eq_not, Bool.not_true, Bool.not_false, decide_eq_true_eq, decide_eq_false_iff_not, ge_iff_le, gt_iff_lt] at *); omega))) (by kernel_rfl) (by kernel_rfl) ?_
  refine E.To.bodyN (fn := Try.f36) [] ?_ ?_
  · exact trivial
  intro w h
  rw [← R.its_prot hm]
  exact ⟨(), trivial, rfl, A.done (q := [A.blk r [.slice s.a0 (256 * V.n) s.c0, .slice s.a1 (256 * R.len V) s.c1, .slice s.a2 (256 * V.n) s.c2, .slice s.a3 (256 * R.len V) s.c3, .slice s.a4 V.n s.c4, .bool V.coh], A.vec .u8 s.a0 s.c0 (R.flat V.d V.n), A.vec .u8 s.a1 s.c1 (R.flat V.i (R.len V)), A.vec .u8 s.a2 s.c2 (R.flat V.cd V.n), A.vec .u8 s.a3 s.c3 (R.flat V.ci (R.len V)), A.vec .i64 s.a4 s.c4 ((R.rts V.r V.n).set m (bits .and .i64 x 7))]) (r := []) h (by kernel_rfl) (A.pn [0, 1, 2, 3, 4, 5])⟩
 refine E.C.skip (E.To.bodyN (fn := Try.f36) [] ?_ ?_)
 · exact trivial
 intro w h
 rw [R.prot_no hc3]
 exact ⟨(), trivial, rfl, A.done (q := [A.blk r [.slice s.a0 (256 * V.n) s.c0, .slice s.a1 (256 * R.len V) s.c1, .slice s.a2 (256 * V.n) s.c2, .slice s.a3 (256 * R.len V) s.c3, .slice s.a4 V.n s.c4, .bool V.coh], A.vec .u8 s.a0 s.c0 (R.flat V.d V.n), A.vec .u8 s.a1 s.c1 (R.flat V.i (R.len V)), A.vec .u8 s.a2 s.c2 (R.flat V.cd V.n), A.vec .u8 s.a3 s.c3 (R.flat V.ci (R.len V)), A.vec .i64 s.a4 s.c4 (R.rts V.r V.n)]) (r := []) h (by kernel_rfl) (A.pn [0, 1, 2, 3, 4, 5])⟩
theorem R_Sync {r : Nat} {s : R.Sl} {V : M.V} (a : Nat) (ha : a < 4294967296) : A.Tr Try.prog 34 #[.pointer (some ⟨r, 0, none⟩), .int .u32 ((a : Nat) : Int)] (R.its r s V) (I := Unit) (fun _ => True) (fun _ => .bool (decide (a / 256 < V.n))) (fun _ => R.its r s (V.sync (a / 256))) := by
 intro w oo aa hh
 refine E.enter (n := 44) (S := oo) Try.func34 rfl rfl (by kernel_rfl) (A.start (L := []) hh) ?_
 refine E.sr ?_
 refine E.op (.bool false) ?_
 refine E.tr ?_
 refine E.op (.pointer (some ⟨r, 0, none⟩)) ?_
 refine E.op (.int .u32 ((a : Nat) : Int)) ?_
 refine E.G.call (.bool (decide (a / 256 < V.n))) (fun w h => A.call_rd [] (R_In a (by (first | assumption | ((try simp only [Bool.or_eq_false_iff, Bool.or_eq_true, Bool.and_eq_true, Bool.and_eq_false_iff, Bool.not_eq_eq_eq_not, Bool.not_true, Bool.not_false, decide_eq_true_eq, decide_eq_false_iff_not, ge_iff_le, gt_iff_lt] at *); omega))) (r := r) (s := s) (V := V)) h (by kernel_rfl) (A.pn [0, 1, 2, 3, 4, 5])) (fun w _ => by kernel_rfl) (by kernel_rfl) ?_
 refine E.op (.bool (decide (a / 256 < V.n))) ?_
 refine E.To.code ?_
 refine E.C.seq ?_
 refine E.sr ?_
 refine E.op (.bool (decide (a / 256 < V.n))) ?_
 refine E.op (.bool (decide (a / 256 < V.n))) ?_
 refine E.G.cut 6 [(0, .pointer (some ⟨r, 0, none⟩)), (1, .int .u32 ((a : Nat) : Int)), (4, .bool false), (5, .bool (decide (a / 256 < V.n))), (18, .bool ((decide (a / 256 < V.n)) && (!V.coh)))] (A.X w oo aa [A.blk r [.slice s.a0 (256 * V.n) s.c0, .slice s.a1 (256 * R.len V) s.c1, .slice s.a2 (256 * V.n) s.c2, .slice s.a3 (256 * R.len V) s.c3, .slice s.a4 V.n s.c4, .bool V.coh], A.vec .u8 s.a0 s.c0 (R.flat V.d V.n), A.vec .u8 s.a1 s.c1 (R.flat V.i (R.len V)), A.vec .u8 s.a2 s.c2 (R.flat V.cd V.n), A.vec .u8 s.a3 s.c3 (R.flat V.ci (R.len V)), A.vec .i64 s.a4 s.c4 (R.rts V.r V.n)]) [] ?_ ?_
 ·
  generalize hc1 : (decide (a / 256 < V.n)) = b2
  cases b2
  ·
   refine E.sk ?_
   refine E.sk ?_
   refine E.sk ?_
   refine E.sk ?_
   refine E.sk ?_
   refine E.op (.bool false) ?_
   exact E.G.end_pst ⟨by kernel_rfl, by kernel_rfl⟩ (List.Sublist.refl _) (fun _ h => h)
  refine E.op (.pointer (some ⟨r, 0, none⟩)) ?_
  refine E.op (.pointer (some ⟨r, 0, none⟩)) ?_
  refine E.op (.pointer (some ⟨r, 5, none⟩)) ?_
  refine E.vl (.bool V.coh) (fun w h => A.Y.bld (A.X.y h.x) (k := 0) (j := 5) rfl (by kernel_rfl) (by kernel_rfl)) ?_
  refine E.op (.bool (!V.coh)) ?_
  refine E.op (.bool (!V.coh)) ?_
  exact E.G.end_pst ⟨by kernel_rfl, by kernel_rfl⟩ (List.Sublist.refl _) (fun _ h => h)
 refine E.To.code ?_
 refine E.cd ((decide (a / 256 < V.n)) && (!V.coh)) (fun hc3 => ?_) (fun hc3 => ?_)
 ·
  refine E.C.seq ?_
  obtain ⟨hk, hcoh⟩ : a / 256 < V.n ∧ V.coh = false := by simpa using hc3
  have hlen := R.len_f hcoh
  have hlen2 : ∀ c, R.len (R.cpy V (a / 256) c) = V.n := fun c => hlen
  refine E.C.region ?_
  refine E.op (.int .u32 ((a : Nat) : Int)) ?_
  refine E.vl (.int .i64 ((a : Nat) : Int)) (fun w h => E.run_as (a := .int .i64 (IntKind.wrap .i64 ((a : Nat) : Int))) (by kernel_rfl) (congrArg (Value.int .i64) (by exact Nz.w64 (x := a) (by (first | assumption | ((try simp only [Bool.or_eq_false_iff, Bool.or_eq_true, Bool.and_eq_true, Bool.and_eq_false_iff, Bool.not_eq_eq_eq_not, Bool.not_true, Bool.not_false, decide_eq_true_eq, decide_eq_false_iff_not, ge_iff_le, gt_iff_lt] at *); omega)))))) ?_
  refine E.vl (.int .i64 ((a / 256 : Nat) : Int)) (fun w h => E.run_as (a := .int .i64 (IntKind.wrap .i64 (Int.tdiv ((a : Nat) : Int) 256))) (by kernel_rfl) (congrArg (Value.int .i64) (by exact Nz.quo64 (x := a) 256 (by (first | assumption | ((try simp only [Bool.or_eq_false_iff, Bool.or_eq_true, Bool.and_eq_true, Bool.and_eq_false_iff, Bool.not_eq_eq_eq_not, Bool.not_true, Bool.not_false, decide_eq_true_eq, decide_eq_false_iff_not, ge_iff_le, gt_iff_lt] at *); omega)))))) ?_
  refine E.vl (.int .i64 ((256 * (a / 256) : Nat) : Int)) (fun w h => E.run_as (a := .int .i64 (IntKind.wrap .i64 (((a / 256 : Nat) : Int) * 256))) (by kernel_rfl) (congrArg (Value.int .i64) ((Nz.mul64 (x := a / 256) (y := 256) (by omega)).trans (by rw [Nat.mul_comm])))) ?_
  refine E.op (.int .i64 ((256 * (a / 256) : Nat) : Int)) ?_
  refine E.tr ?_
  refine E.op (.int .i64 ((256 * (a / 256) : Nat) : Int)) ?_
  refine E.op (.int .i64 ((256 * (a / 256) : Nat) : Int)) ?_
  refine E.To.code ?_
  refine E.C.block ?_
  refine A.C.eq ([A.blk r [.slice s.a0 (256 * (R.cpy V (a / 256) 0).n) s.c0, .slice s.a1 (256 * R.len (R.cpy V (a / 256) 0)) s.c1, .slice s.a2 (256 * (R.cpy V (a / 256) 0).n) s.c2, .slice s.a3 (256 * R.len (R.cpy V (a / 256) 0)) s.c3, .slice s.a4 ((R.cpy V (a / 256) 0).n) s.c4, .bool ((R.cpy V (a / 256) 0).coh)], A.vec .u8 s.a0 s.c0 (R.flat (R.cpy V (a / 256) 0).d (R.cpy V (a / 256) 0).n), A.vec .u8 s.a1 s.c1 (R.flat (R.cpy V (a / 256) 0).i (R.len (R.cpy V (a / 256) 0))), A.vec .u8 s.a2 s.c2 (R.flat (R.cpy V (a / 256) 0).cd (R.cpy V (a / 256) 0).n), A.vec .u8 s.a3 s.c3 (R.flat (R.cpy V (a / 256) 0).ci (R.len (R.cpy V (a / 256) 0))), A.vec .i64 s.a4 s.c4 (R.rts (R.cpy V (a / 256) 0).r (R.cpy V (a / 256) 0).n)]) (congrArg (R.its r s) (R.cpy0 V (a / 256)).symm) ?_
  refine E.C.loop (I := Nat) (fun c => 256 - c) (fun c => c ≤ 256) (fun c => [(0, .pointer (some ⟨r, 0, none⟩)), (4, .bool false), (5, .bool (decide (a / 256 < V.n))), (6, .int .i64 ((256 * (a / 256) : Nat) : Int)), (7, .int .i64 ((256 * (a / 256) + c : Nat) : Int))]) (fun c => A.X w oo aa [A.blk r [.slice s.a0 (256 * (R.cpy V (a / 256) c).n) s.c0, .slice s.a1 (256 * R.len (R.cpy V (a / 256) c)) s.c1, .slice s.a2 (256 * (R.cpy V (a / 256) c).n) s.c2, .slice s.a3 (256 * R.len (R.cpy V (a / 256) c)) s.c3, .slice s.a4 ((R.cpy V (a / 256) c).n) s.c4, .bool ((R.cpy V (a / 256) c).coh)], A.vec .u8 s.a0 s.c0 (R.flat (R.cpy V (a / 256) c).d (R.cpy V (a / 256) c).n), A.vec .u8 s.a1 s.c1 (R.flat (R.cpy V (a / 256) c).i (R.len (R.cpy V (a / 256) c))), A.vec .u8 s.a2 s.c2 (R.flat (R.cpy V (a / 256) c).cd (R.cpy V (a / 256) c).n), A.vec .u8 s.a3 s.c3 (R.flat (R.cpy V (a / 256) c).ci (R.len (R.cpy V (a / 256) c))), A.vec .i64 s.a4 s.c4 (R.rts (R.cpy V (a / 256) c).r (R.cpy V (a / 256) c).n)]) (fun c => []) 0 (Nat.zero_le _) ⟨by kernel_rfl, by kernel_rfl⟩ (List.Sublist.refl _) (fun _ h => h) (fun c hk1 => ?_)
  refine E.C.seq ?_
  refine E.sr ?_
  refine E.op (.int .i64 ((256 * (a / 256) + c : Nat) : Int)) ?_
  refine E.op (.int .i64 ((256 * (a / 256) : Nat) : Int)) ?_
  refine E.vl (.int .i64 (((256 * (a / 256)) + 256 : Nat) : Int)) (fun w h => E.run_as (a := .int .i64 (IntKind.wrap .i64 (((256 * (a / 256) : Nat) : Int) + 256))) (by kernel_rfl) (congrArg (Value.int .i64) (by exact Nz.add64 (x := (256 * (a / 256))) (y := 256) (by (first | assumption | ((try simp only [Bool.or_eq_false_iff, Bool.or_eq_true, Bool.and_eq_true, Bool.and_eq_false_iff, Bool.not_eq_eq_eq_not, Bool.not_true, Bool.not_false, decide_eq_true_eq, decide_eq_false_iff_not, ge_iff_le, gt_iff_lt] at *); omega)))))) ?_
  refine E.op (.bool (decide (((256 * (a / 256) + c : Nat) : Int) < (((256 * (a / 256)) + 256 : Nat) : Int)))) ?_
  refine E.To.code ?_
  refine E.cd (decide (((256 * (a / 256) + c : Nat) : Int) < (((256 * (a / 256)) + 256 : Nat) : Int))) (fun hc4 => ?_) (fun hc4 => ?_)
  ·
   refine E.C.skip (E.To.code ?_)
   refine E.C.seq ?_
   refine E.C.block ?_
   have hc2 : c < 256 := by (first | assumption | ((try simp only [Bool.or_eq_false_iff, Bool.or_eq_true, Bool.and_eq_true, Bool.and_eq_false_iff, Bool.not_eq_eq_eq_not, Bool.not_true, Bool.not_false, decide_eq_true_eq, decide_eq_false_iff_not, ge_iff_le, gt_iff_lt] at *); omega))
   have hn2 : (R.cpy V (a / 256) c).n = V.n := rfl
   have hlen3 := hlen2 c
   refine E.C.know (p := s.a1 = some ⟨A.bk s.a1, 0, none⟩) (fun w h => A.Y.ao (A.X.y h.x) (k := 2) rfl (by simp only [R.flat_len]; (first | assumption | ((try simp only [Bool.or_eq_false_iff, Bool.or_eq_true, Bool.and_eq_true, Bool.and_eq_false_iff, Bool.not_eq_eq_eq_not, Bool.not_true, Bool.not_false, decide_eq_true_eq, decide_eq_false_iff_not, ge_iff_le, gt_iff_lt] at *); omega)))) (fun hao5 => ?_)
   refine E.C.held (A.Y [A.blk r [.slice s.a0 (256 * (R.cpy V (a / 256) c).n) s.c0, .slice s.a1 (256 * R.len (R.cpy V (a / 256) c)) s.c1, .slice s.a2 (256 * (R.cpy V (a / 256) c).n) s.c2, .slice s.a3 (256 * R.len (R.cpy V (a / 256) c)) s.c3, .slice s.a4 ((R.cpy V (a / 256) c).n) s.c4, .bool ((R.cpy V (a / 256) c).coh)], A.vec .u8 s.a0 s.c0 (R.flat (R.cpy V (a / 256) c).d (R.cpy V (a / 256) c).n), A.vec .u8 s.a2 s.c2 (R.flat (R.cpy V (a / 256) c).cd (R.cpy V (a / 256) c).n), A.vec .u8 s.a3 s.c3 (R.flat (R.cpy V (a / 256) c).ci (R.len (R.cpy V (a / 256) c))), A.vec .i64 s.a4 s.c4 (R.rts (R.cpy V (a / 256) c).r (R.cpy V (a / 256) c).n)]) (by kernel_rfl) ?_
   refine E.tk 0 (.pointer (some ⟨r, 0, none⟩)) rfl (fun w h => A.Y.part (p := [A.blk r [.slice s.a0 (256 * (R.cpy V (a / 256) c).n) s.c0, .slice s.a1 (256 * R.len (R.cpy V (a / 256) c)) s.c1, .slice s.a2 (256 * (R.cpy V (a / 256) c).n) s.c2, .slice s.a3 (256 * R.len (R.cpy V (a / 256) c)) s.c3, .slice s.a4 ((R.cpy V (a / 256) c).n) s.c4, .bool ((R.cpy V (a / 256) c).coh)], A.vec .u8 s.a0 s.c0 (R.flat (R.cpy V (a / 256) c).d (R.cpy V (a / 256) c).n), A.vec .u8 s.a2 s.c2 (R.flat (R.cpy V (a / 256) c).cd (R.cpy V (a / 256) c).n), A.vec .u8 s.a3 s.c3 (R.flat (R.cpy V (a / 256) c).ci (R.len (R.cpy V (a / 256) c))), A.vec .i64 s.a4 s.c4 (R.rts (R.cpy V (a / 256) c).r (R.cpy V (a / 256) c).n)]) (r := [A.vec .u8 s.a1 s.c1 (R.flat (R.cpy V (a / 256) c).i (R.len (R.cpy V (a / 256) c)))]) (A.X.y h.x) (A.pn [0, 1, 3, 4, 5, 2])) ?_
   refine E.tk 1 (.pointer (some ⟨r, 0, none⟩)) rfl (fun w h => A.Y.part (p := [A.blk r [.slice s.a0 (256 * (R.cpy V (a / 256) c).n) s.c0, .slice s.a1 (256 * R.len (R.cpy V (a / 256) c)) s.c1, .slice s.a2 (256 * (R.cpy V (a / 256) c).n) s.c2, .slice s.a3 (256 * R.len (R.cpy V (a / 256) c)) s.c3, .slice s.a4 ((R.cpy V (a / 256) c).n) s.c4, .bool ((R.cpy V (a / 256) c).coh)], A.vec .u8 s.a0 s.c0 (R.flat (R.cpy V (a / 256) c).d (R.cpy V (a / 256) c).n), A.vec .u8 s.a2 s.c2 (R.flat (R.cpy V (a / 256) c).cd (R.cpy V (a / 256) c).n), A.vec .u8 s.a3 s.c3 (R.flat (R.cpy V (a / 256) c).ci (R.len (R.cpy V (a / 256) c))), A.vec .i64 s.a4 s.c4 (R.rts (R.cpy V (a / 256) c).r (R.cpy V (a / 256) c).n)]) (r := [A.vec .u8 s.a1 s.c1 (R.flat (R.cpy V (a / 256) c).i (R.len (R.cpy V (a / 256) c)))]) (A.X.y h.x) (A.pn [0, 1, 3, 4, 5, 2])) ?_
   refine E.tk 2 (.pointer (some ⟨r, 1, none⟩)) rfl (fun w h => A.Y.part (p := [A.blk r [.slice s.a0 (256 * (R.cpy V (a / 256) c).n) s.c0, .slice s.a1 (256 * R.len (R.cpy V (a / 256) c)) s.c1, .slice s.a2 (256 * (R.cpy V (a / 256) c).n) s.c2, .slice s.a3 (256 * R.len (R.cpy V (a / 256) c)) s.c3, .slice s.a4 ((R.cpy V (a / 256) c).n) s.c4, .bool ((R.cpy V (a / 256) c).coh)], A.vec .u8 s.a0 s.c0 (R.flat (R.cpy V (a / 256) c).d (R.cpy V (a / 256) c).n), A.vec .u8 s.a2 s.c2 (R.flat (R.cpy V (a / 256) c).cd (R.cpy V (a / 256) c).n), A.vec .u8 s.a3 s.c3 (R.flat (R.cpy V (a / 256) c).ci (R.len (R.cpy V (a / 256) c))), A.vec .i64 s.a4 s.c4 (R.rts (R.cpy V (a / 256) c).r (R.cpy V (a / 256) c).n)]) (r := [A.vec .u8 s.a1 s.c1 (R.flat (R.cpy V (a / 256) c).i (R.len (R.cpy V (a / 256) c)))]) (A.X.y h.x) (A.pn [0, 1, 3, 4, 5, 2])) ?_
   refine E.tj 3 (.slice s.a1 (256 * R.len (R.cpy V (a / 256) c)) s.c1) rfl (fun w h => A.Y.part (p := [A.blk r [.slice s.a0 (256 * (R.cpy V (a / 256) c).n) s.c0, .slice s.a1 (256 * R.len (R.cpy V (a / 256) c)) s.c1, .slice s.a2 (256 * (R.cpy V (a / 256) c).n) s.c2, .slice s.a3 (256 * R.len (R.cpy V (a / 256) c)) s.c3, .slice s.a4 ((R.cpy V (a / 256) c).n) s.c4, .bool ((R.cpy V (a / 256) c).coh)], A.vec .u8 s.a0 s.c0 (R.flat (R.cpy V (a / 256) c).d (R.cpy V (a / 256) c).n), A.vec .u8 s.a2 s.c2 (R.flat (R.cpy V (a / 256) c).cd (R.cpy V (a / 256) c).n), A.vec .u8 s.a3 s.c3 (R.flat (R.cpy V (a / 256) c).ci (R.len (R.cpy V (a / 256) c))), A.vec .i64 s.a4 s.c4 (R.rts (R.cpy V (a / 256) c).r (R.cpy V (a / 256) c).n)]) (r := [A.vec .u8 s.a1 s.c1 (R.flat (R.cpy V (a / 256) c).i (R.len (R.cpy V (a / 256) c)))]) (A.X.y h.x) (A.pn [0, 1, 3, 4, 5, 2])) (fun w h => A.Y.bld h (k := 0) (j := 1) rfl (by kernel_rfl) (by kernel_rfl)) ?_
   refine E.tk 4 (.int .i64 ((256 * (a / 256) + c : Nat) : Int)) rfl (fun w h => A.Y.part (p := [A.blk r [.slice s.a0 (256 * (R.cpy V (a / 256) c).n) s.c0, .slice s.a1 (256 * R.len (R.cpy V (a / 256) c)) s.c1, .slice s.a2 (256 * (R.cpy V (a / 256) c).n) s.c2, .slice s.a3 (256 * R.len (R.cpy V (a / 256) c)) s.c3, .slice s.a4 ((R.cpy V (a / 256) c).n) s.c4, .bool ((R.cpy V (a / 256) c).coh)], A.vec .u8 s.a0 s.c0 (R.flat (R.cpy V (a / 256) c).d (R.cpy V (a / 256) c).n), A.vec .u8 s.a2 s.c2 (R.flat (R.cpy V (a / 256) c).cd (R.cpy V (a / 256) c).n), A.vec .u8 s.a3 s.c3 (R.flat (R.cpy V (a / 256) c).ci (R.len (R.cpy V (a / 256) c))), A.vec .i64 s.a4 s.c4 (R.rts (R.cpy V (a / 256) c).r (R.cpy V (a / 256) c).n)]) (r := [A.vec .u8 s.a1 s.c1 (R.flat (R.cpy V (a / 256) c).i (R.len (R.cpy V (a / 256) c)))]) (A.X.y h.x) (A.pn [0, 1, 3, 4, 5, 2])) ?_
   refine E.tk 5 (.pointer (some ⟨r, 0, none⟩)) rfl (fun w h => A.Y.part (p := [A.blk r [.slice s.a0 (256 * (R.cpy V (a / 256) c).n) s.c0, .slice s.a1 (256 * R.len (R.cpy V (a / 256) c)) s.c1, .slice s.a2 (256 * (R.cpy V (a / 256) c).n) s.c2, .slice s.a3 (256 * R.len (R.cpy V (a / 256) c)) s.c3, .slice s.a4 ((R.cpy V (a / 256) c).n) s.c4, .bool ((R.cpy V (a / 256) c).coh)], A.vec .u8 s.a0 s.c0 (R.flat (R.cpy V (a / 256) c).d (R.cpy V (a / 256) c).n), A.vec .u8 s.a2 s.c2 (R.flat (R.cpy V (a / 256) c).cd (R.cpy V (a / 256) c).n), A.vec .u8 s.a3 s.c3 (R.flat (R.cpy V (a / 256) c).ci (R.len (R.cpy V (a / 256) c))), A.vec .i64 s.a4 s.c4 (R.rts (R.cpy V (a / 256) c).r (R.cpy V (a / 256) c).n)]) (r := [A.vec .u8 s.a1 s.c1 (R.flat (R.cpy V (a / 256) c).i (R.len (R.cpy V (a / 256) c)))]) (A.X.y h.x) (A.pn [0, 1, 3, 4, 5, 2])) ?_
   refine E.tk 6 (.pointer (some ⟨r, 0, none⟩)) rfl (fun w h => A.Y.part (p := [A.blk r [.slice s.a0 (256 * (R.cpy V (a / 256) c).n) s.c0, .slice s.a1 (256 * R.len (R.cpy V (a / 256) c)) s.c1, .slice s.a2 (256 * (R.cpy V (a / 256) c).n) s.c2, .slice s.a3 (256 * R.len (R.cpy V (a / 256) c)) s.c3, .slice s.a4 ((R.cpy V (a / 256) c).n) s.c4, .bool ((R.cpy V (a / 256) c).coh)], A.vec .u8 s.a0 s.c0 (R.flat (R.cpy V (a / 256) c).d (R.cpy V (a / 256) c).n), A.vec .u8 s.a2 s.c2 (R.flat (R.cpy V (a / 256) c).cd (R.cpy V (a / 256) c).n), A.vec .u8 s.a3 s.c3 (R.flat (R.cpy V (a / 256) c).ci (R.len (R.cpy V (a / 256) c))), A.vec .i64 s.a4 s.c4 (R.rts (R.cpy V (a / 256) c).r (R.cpy V (a / 256) c).n)]) (r := [A.vec .u8 s.a1 s.c1 (R.flat (R.cpy V (a / 256) c).i (R.len (R.cpy V (a / 256) c)))]) (A.X.y h.x) (A.pn [0, 1, 3, 4, 5, 2])) ?_
   refine E.tk 7 (.pointer (some ⟨r, 0, none⟩)) rfl (fun w h => A.Y.part (p := [A.blk r [.slice s.a0 (256 * (R.cpy V (a / 256) c).n) s.c0, .slice s.a1 (256 * R.len (R.cpy V (a / 256) c)) s.c1, .slice s.a2 (256 * (R.cpy V (a / 256) c).n) s.c2, .slice s.a3 (256 * R.len (R.cpy V (a / 256) c)) s.c3, .slice s.a4 ((R.cpy V (a / 256) c).n) s.c4, .bool ((R.cpy V (a / 256) c).coh)], A.vec .u8 s.a0 s.c0 (R.flat (R.cpy V (a / 256) c).d (R.cpy V (a / 256) c).n), A.vec .u8 s.a2 s.c2 (R.flat (R.cpy V (a / 256) c).cd (R.cpy V (a / 256) c).n), A.vec .u8 s.a3 s.c3 (R.flat (R.cpy V (a / 256) c).ci (R.len (R.cpy V (a / 256) c))), A.vec .i64 s.a4 s.c4 (R.rts (R.cpy V (a / 256) c).r (R.cpy V (a / 256) c).n)]) (r := [A.vec .u8 s.a1 s.c1 (R.flat (R.cpy V (a / 256) c).i (R.len (R.cpy V (a / 256) c)))]) (A.X.y h.x) (A.pn [0, 1, 3, 4, 5, 2])) ?_
   refine E.tj 8 (.slice s.a0 (256 * (R.cpy V (a / 256) c).n) s.c0) rfl (fun w h => A.Y.part (p := [A.blk r [.slice s.a0 (256 * (R.cpy V (a / 256) c).n) s.c0, .slice s.a1 (256 * R.len (R.cpy V (a / 256) c)) s.c1, .slice s.a2 (256 * (R.cpy V (a / 256) c).n) s.c2, .slice s.a3 (256 * R.len (R.cpy V (a / 256) c)) s.c3, .slice s.a4 ((R.cpy V (a / 256) c).n) s.c4, .bool ((R.cpy V (a / 256) c).coh)], A.vec .u8 s.a0 s.c0 (R.flat (R.cpy V (a / 256) c).d (R.cpy V (a / 256) c).n), A.vec .u8 s.a2 s.c2 (R.flat (R.cpy V (a / 256) c).cd (R.cpy V (a / 256) c).n), A.vec .u8 s.a3 s.c3 (R.flat (R.cpy V (a / 256) c).ci (R.len (R.cpy V (a / 256) c))), A.vec .i64 s.a4 s.c4 (R.rts (R.cpy V (a / 256) c).r (R.cpy V (a / 256) c).n)]) (r := [A.vec .u8 s.a1 s.c1 (R.flat (R.cpy V (a / 256) c).i (R.len (R.cpy V (a / 256) c)))]) (A.X.y h.x) (A.pn [0, 1, 3, 4, 5, 2])) (fun w h => A.Y.bld h (k := 0) (j := 0) rfl (by kernel_rfl) (by kernel_rfl)) ?_
   refine E.tk 9 (.int .i64 ((256 * (a / 256) + c : Nat) : Int)) rfl (fun w h => A.Y.part (p := [A.blk r [.slice s.a0 (256 * (R.cpy V (a / 256) c).n) s.c0, .slice s.a1 (256 * R.len (R.cpy V (a / 256) c)) s.c1, .slice s.a2 (256 * (R.cpy V (a / 256) c).n) s.c2, .slice s.a3 (256 * R.len (R.cpy V (a / 256) c)) s.c3, .slice s.a4 ((R.cpy V (a / 256) c).n) s.c4, .bool ((R.cpy V (a / 256) c).coh)], A.vec .u8 s.a0 s.c0 (R.flat (R.cpy V (a / 256) c).d (R.cpy V (a / 256) c).n), A.vec .u8 s.a2 s.c2 (R.flat (R.cpy V (a / 256) c).cd (R.cpy V (a / 256) c).n), A.vec .u8 s.a3 s.c3 (R.flat (R.cpy V (a / 256) c).ci (R.len (R.cpy V (a / 256) c))), A.vec .i64 s.a4 s.c4 (R.rts (R.cpy V (a / 256) c).r (R.cpy V (a / 256) c).n)]) (r := [A.vec .u8 s.a1 s.c1 (R.flat (R.cpy V (a / 256) c).i (R.len (R.cpy V (a / 256) c)))]) (A.X.y h.x) (A.pn [0, 1, 3, 4, 5, 2])) ?_
   refine E.tj 10 (.pointer (some ⟨(A.bk s.a0), (256 * (a / 256) + c), none⟩)) rfl (fun w h => A.Y.part (p := [A.blk r [.slice s.a0 (256 * (R.cpy V (a / 256) c).n) s.c0, .slice s.a1 (256 * R.len (R.cpy V (a / 256) c)) s.c1, .slice s.a2 (256 * (R.cpy V (a / 256) c).n) s.c2, .slice s.a3 (256 * R.len (R.cpy V (a / 256) c)) s.c3, .slice s.a4 ((R.cpy V (a / 256) c).n) s.c4, .bool ((R.cpy V (a / 256) c).coh)], A.vec .u8 s.a0 s.c0 (R.flat (R.cpy V (a / 256) c).d (R.cpy V (a / 256) c).n), A.vec .u8 s.a2 s.c2 (R.flat (R.cpy V (a / 256) c).cd (R.cpy V (a / 256) c).n), A.vec .u8 s.a3 s.c3 (R.flat (R.cpy V (a / 256) c).ci (R.len (R.cpy V (a / 256) c))), A.vec .i64 s.a4 s.c4 (R.rts (R.cpy V (a / 256) c).r (R.cpy V (a / 256) c).n)]) (r := [A.vec .u8 s.a1 s.c1 (R.flat (R.cpy V (a / 256) c).i (R.len (R.cpy V (a / 256) c)))]) (A.X.y h.x) (A.pn [0, 1, 3, 4, 5, 2])) (fun w h => A.Y.idx (e := 5) (ik := .i64) (i := (256 * (a / 256) + c)) (len := (256 * (R.cpy V (a / 256) c).n)) (c2 := s.c0) h (k := 1) rfl (by kernel_rfl) (by kernel_rfl) (by kernel_rfl) (by kernel_rfl) (by (first | assumption | ((try simp only [Bool.or_eq_false_iff, Bool.or_eq_true, Bool.and_eq_true, Bool.and_eq_false_iff, Bool.not_eq_eq_eq_not, Bool.not_true, Bool.not_false, decide_eq_true_eq, decide_eq_false_iff_not, ge_iff_le, gt_iff_lt] at *); omega))) (by simp only [R.flat_len]; (first | assumption | ((try simp only [Bool.or_eq_false_iff, Bool.or_eq_true, Bool.and_eq_true, Bool.and_eq_false_iff, Bool.not_eq_eq_eq_not, Bool.not_true, Bool.not_false, decide_eq_true_eq, decide_eq_false_iff_not, ge_iff_le, gt_iff_lt] at *); omega)))) ?_
   refine E.tj 11 (.int .u8 ((R.cpy V (a / 256) c).d ((256 * (a / 256) + c) / 256) ((256 * (a / 256) + c) % 256))) rfl (fun w h => A.Y.part (p := [A.blk r [.slice s.a0 (256 * (R.cpy V (a / 256) c).n) s.c0, .slice s.a1 (256 * R.len (R.cpy V (a / 256) c)) s.c1, .slice s.a2 (256 * (R.cpy V (a / 256) c).n) s.c2, .slice s.a3 (256 * R.len (R.cpy V (a / 256) c)) s.c3, .slice s.a4 ((R.cpy V (a / 256) c).n) s.c4, .bool ((R.cpy V (a / 256) c).coh)], A.vec .u8 s.a0 s.c0 (R.flat (R.cpy V (a / 256) c).d (R.cpy V (a / 256) c).n), A.vec .u8 s.a2 s.c2 (R.flat (R.cpy V (a / 256) c).cd (R.cpy V (a / 256) c).n), A.vec .u8 s.a3 s.c3 (R.flat (R.cpy V (a / 256) c).ci (R.len (R.cpy V (a / 256) c))), A.vec .i64 s.a4 s.c4 (R.rts (R.cpy V (a / 256) c).r (R.cpy V (a / 256) c).n)]) (r := [A.vec .u8 s.a1 s.c1 (R.flat (R.cpy V (a / 256) c).i (R.len (R.cpy V (a / 256) c)))]) (A.X.y h.x) (A.pn [0, 1, 3, 4, 5, 2])) (fun w h => E.run_as (a := .int .u8 ((R.flat (R.cpy V (a / 256) c).d (R.cpy V (a / 256) c).n).getD (256 * (a / 256) + c) 0)) (A.Y.vld h (k := 1) (i := (256 * (a / 256) + c)) rfl (by kernel_rfl) (by kernel_rfl) (by simp only [R.flat_len]; (first | assumption | ((try simp only [Bool.or_eq_false_iff, Bool.or_eq_true, Bool.and_eq_true, Bool.and_eq_false_iff, Bool.not_eq_eq_eq_not, Bool.not_true, Bool.not_false, decide_eq_true_eq, decide_eq_false_iff_not, ge_iff_le, gt_iff_lt] at *); omega)))) (congrArg (Value.int .u8) (R.flat_get (by (first | assumption | ((try simp only [Bool.or_eq_false_iff, Bool.or_eq_true, Bool.and_eq_true, Bool.and_eq_false_iff, Bool.not_eq_eq_eq_not, Bool.not_true, Bool.not_false, decide_eq_true_eq, decide_eq_false_iff_not, ge_iff_le, gt_iff_lt] at *); omega)))))) ?_
   refine E.tj 12 (.pointer (some ⟨(A.bk s.a1), (256 * (a / 256) + c), none⟩)) rfl (fun w h => A.Y.part (p := [A.blk r [.slice s.a0 (256 * (R.cpy V (a / 256) c).n) s.c0, .slice s.a1 (256 * R.len (R.cpy V (a / 256) c)) s.c1, .slice s.a2 (256 * (R.cpy V (a / 256) c).n) s.c2, .slice s.a3 (256 * R.len (R.cpy V (a / 256) c)) s.c3, .slice s.a4 ((R.cpy V (a / 256) c).n) s.c4, .bool ((R.cpy V (a / 256) c).coh)], A.vec .u8 s.a0 s.c0 (R.flat (R.cpy V (a / 256) c).d (R.cpy V (a / 256) c).n), A.vec .u8 s.a2 s.c2 (R.flat (R.cpy V (a / 256) c).cd (R.cpy V (a / 256) c).n), A.vec .u8 s.a3 s.c3 (R.flat (R.cpy V (a / 256) c).ci (R.len (R.cpy V (a / 256) c))), A.vec .i64 s.a4 s.c4 (R.rts (R.cpy V (a / 256) c).r (R.cpy V (a / 256) c).n)]) (r := [A.vec .u8 s.a1 s.c1 (R.flat (R.cpy V (a / 256) c).i (R.len (R.cpy V (a / 256) c)))]) (A.X.y h.x) (A.pn [0, 1, 3, 4, 5, 2])) (fun w h => A.idxP (e := 5) (ik := .i64) (i := (256 * (a / 256) + c)) (len := (256 * R.len (R.cpy V (a / 256) c))) (c2 := s.c1) hao5 (by kernel_rfl) (by kernel_rfl) (by kernel_rfl) (by kernel_rfl) (by (first | assumption | ((try simp only [Bool.or_eq_false_iff, Bool.or_eq_true, Bool.and_eq_true, Bool.and_eq_false_iff, Bool.not_eq_eq_eq_not, Bool.not_true, Bool.not_false, decide_eq_true_eq, decide_eq_false_iff_not, ge_iff_le, gt_iff_lt] at *); omega))) w) ?_
   refine E.al 13 rfl ?_
   refine A.G.vst (kd := .u8) (ao := s.a1) (cap := s.c1) (i := (256 * (a / 256) + c)) (xs := (R.flat (R.cpy V (a / 256) c).i (R.len (R.cpy V (a / 256) c)))) (v := ((R.cpy V (a / 256) c).d ((256 * (a / 256) + c) / 256) ((256 * (a / 256) + c) % 256))) 2 rfl (by kernel_rfl) (by kernel_rfl) (by kernel_rfl) (by simp only [R.flat_len]; (first | assumption | ((try simp only [Bool.or_eq_false_iff, Bool.or_eq_true, Bool.and_eq_true, Bool.and_eq_false_iff, Bool.not_eq_eq_eq_not, Bool.not_true, Bool.not_false, decide_eq_true_eq, decide_eq_false_iff_not, ge_iff_le, gt_iff_lt] at *); omega))) (by kernel_rfl) (by kernel_rfl) ?_
   refine E.H.back (fun w h => A.Y.part (p := [A.blk r [.slice s.a0 (256 * (R.cpy V (a / 256) c).n) s.c0, .slice s.a1 (256 * R.len (R.cpy V (a / 256) c)) s.c1, .slice s.a2 (256 * (R.cpy V (a / 256) c).n) s.c2, .slice s.a3 (256 * R.len (R.cpy V (a / 256) c)) s.c3, .slice s.a4 ((R.cpy V (a / 256) c).n) s.c4, .bool ((R.cpy V (a / 256) c).coh)], A.vec .u8 s.a0 s.c0 (R.flat (R.cpy V (a / 256) c).d (R.cpy V (a / 256) c).n), A.vec .u8 s.a2 s.c2 (R.flat (R.cpy V (a / 256) c).cd (R.cpy V (a / 256) c).n), A.vec .u8 s.a3 s.c3 (R.flat (R.cpy V (a / 256) c).ci (R.len (R.cpy V (a / 256) c))), A.vec .i64 s.a4 s.c4 (R.rts (R.cpy V (a / 256) c).r (R.cpy V (a / 256) c).n)]) (r := [A.vec .u8 s.a1 s.c1 ((R.flat (R.cpy V (a / 256) c).i (R.len (R.cpy V (a / 256) c))).set (256 * (a / 256) + c) ((R.cpy V (a / 256) c).d ((256 * (a / 256) + c) / 256) ((256 * (a / 256) + c) % 256)))]) (A.X.y h.x) (A.pn [0, 1, 3, 4, 5, 2])) ?_
   refine E.H.done (by kernel_rfl) ?_
   refine E.P.nb (E.To.code ?_)
   refine A.C.eq ([A.blk r [.slice s.a0 (256 * (R.cpy V (a / 256) (c + 1)).n) s.c0, .slice s.a1 (256 * R.len (R.cpy V (a / 256) (c + 1))) s.c1, .slice s.a2 (256 * (R.cpy V (a / 256) (c + 1)).n) s.c2, .slice s.a3 (256 * R.len (R.cpy V (a / 256) (c + 1))) s.c3, .slice s.a4 ((R.cpy V (a / 256) (c + 1)).n) s.c4, .bool ((R.cpy V (a / 256) (c + 1)).coh)], A.vec .u8 s.a0 s.c0 (R.flat (R.cpy V (a / 256) (c + 1)).d (R.cpy V (a / 256) (c + 1)).n), A.vec .u8 s.a1 s.c1 (R.flat (R.cpy V (a / 256) (c + 1)).i (R.len (R.cpy V (a / 256) (c + 1)))), A.vec .u8 s.a2 s.c2 (R.flat (R.cpy V (a / 256) (c + 1)).cd (R.cpy V (a / 256) (c + 1)).n), A.vec .u8 s.a3 s.c3 (R.flat (R.cpy V (a / 256) (c + 1)).ci (R.len (R.cpy V (a / 256) (c + 1)))), A.vec .i64 s.a4 s.c4 (R.rts (R.cpy V (a / 256) (c + 1)).r (R.cpy V (a / 256) (c + 1)).n)]) (R.cpy_next hcoh hk hc2 (by show V.d ((256 * (a / 256) + c) / 256) ((256 * (a / 256) + c) % 256) = _; rw [show (256 * (a / 256) + c) / 256 = a / 256 by omega, show (256 * (a / 256) + c) % 256 = c by omega])) ?_
   refine E.C.region ?_
   refine E.op (.int .i64 ((256 * (a / 256) + c : Nat) : Int)) ?_
   refine E.vl (.int .i64 ((256 * (a / 256) + (c + 1) : Nat) : Int)) (fun w h => E.run_as (a := .int .i64 (IntKind.wrap .i64 (((256 * (a / 256) + c : Nat) : Int) + 1))) (by kernel_rfl) (congrArg (Value.int .i64) (by exact Nz.add64 (x := 256 * (a / 256) + c) (y := 1) (by omega)))) ?_
   refine E.op (.int .i64 ((256 * (a / 256) + (c + 1) : Nat) : Int)) ?_
   exact E.To.round (c + 1) (by (first | assumption | ((try simp only [Bool.or_eq_false_iff, Bool.or_eq_true, Bool.and_eq_true, Bool.and_eq_false_iff, Bool.not_eq_eq_eq_not, Bool.not_true, Bool.not_false, decide_eq_true_eq, decide_eq_false_iff_not, ge_iff_le, gt_iff_lt] at *); omega))) (by (first | assumption | ((try simp only [Bool.or_eq_false_iff, Bool.or_eq_true, Bool.and_eq_true, Bool.and_eq_false_iff, Bool.not_eq_eq_eq_not, Bool.not_true, Bool.not_false, decide_eq_true_eq, decide_eq_false_iff_not, ge_iff_le, gt_iff_lt] at *); omega))) ⟨by kernel_rfl, by kernel_rfl⟩ (List.Sublist.refl _) (fun _ h => h)
  refine E.C.exit (E.P.et (E.P.et (E.P.eh (E.To.code ?_))))
  refine E.sr ?_
  refine E.op (.bool (decide (a / 256 < V.n))) ?_
  refine E.op (.bool (decide (a / 256 < V.n))) ?_
  refine E.To.code ?_
  refine E.wk [(4, .bool (decide (a / 256 < V.n)))] [] (List.Sublist.refl _) ?_
  refine E.C.ret (E.To.body (fn := Try.f34) [.bool (decide (a / 256 < V.n))] ?_ ?_)
  · exact ⟨⟨by kernel_rfl, by kernel_rfl⟩, trivial⟩
  intro w h
  have q := of_decide_eq_false hc4
  obtain rfl : 256 = c := by omega
  have h3 := A.done (q := [A.blk r [.slice s.a0 (256 * (R.cpy V (a / 256) 256).n) s.c0, .slice s.a1 (256 * R.len (R.cpy V (a / 256) 256)) s.c1, .slice s.a2 (256 * (R.cpy V (a / 256) 256).n) s.c2, .slice s.a3 (256 * R.len (R.cpy V (a / 256) 256)) s.c3, .slice s.a4 ((R.cpy V (a / 256) 256).n) s.c4, .bool ((R.cpy V (a / 256) 256).coh)], A.vec .u8 s.a0 s.c0 (R.flat (R.cpy V (a / 256) 256).d (R.cpy V (a / 256) 256).n), A.vec .u8 s.a1 s.c1 (R.flat (R.cpy V (a / 256) 256).i (R.len (R.cpy V (a / 256) 256))), A.vec .u8 s.a2 s.c2 (R.flat (R.cpy V (a / 256) 256).cd (R.cpy V (a / 256) 256).n), A.vec .u8 s.a3 s.c3 (R.flat (R.cpy V (a / 256) 256).ci (R.len (R.cpy V (a / 256) 256))), A.vec .i64 s.a4 s.c4 (R.rts (R.cpy V (a / 256) 256).r (R.cpy V (a / 256) 256).n)]) (r := []) h (by kernel_rfl) (A.pn [0, 1, 2, 3, 4, 5])
  exact ⟨(), trivial, rfl, by rw [← R.cpy_end hk hcoh]; exact h3⟩
 refine E.C.skip (E.To.code ?_)
 refine E.sr ?_
 refine E.op (.bool (decide (a / 256 < V.n))) ?_
 refine E.op (.bool (decide (a / 256 < V.n))) ?_
 refine E.To.code ?_
 refine E.C.ret (E.To.body (fn := Try.f34) [.bool (decide (a / 256 < V.n))] ?_ ?_)
 · exact ⟨⟨by kernel_rfl, by kernel_rfl⟩, trivial⟩
 intro w h
 rw [R.sync_no hc3]
 exact ⟨(), trivial, rfl, A.done (q := [A.blk r [.slice s.a0 (256 * V.n) s.c0, .slice s.a1 (256 * R.len V) s.c1, .slice s.a2 (256 * V.n) s.c2, .slice s.a3 (256 * R.len V) s.c3, .slice s.a4 V.n s.c4, .bool V.coh], A.vec .u8 s.a0 s.c0 (R.flat V.d V.n), A.vec .u8 s.a1 s.c1 (R.flat V.i (R.len V)), A.vec .u8 s.a2 s.c2 (R.flat V.cd V.n), A.vec .u8 s.a3 s.c3 (R.flat V.ci (R.len V)), A.vec .i64 s.a4 s.c4 (R.rts V.r V.n)]) (r := []) h (by kernel_rfl) (A.pn [0, 1, 2, 3, 4, 5])⟩
theorem R_SetCode {r : Nat} {s : R.Sl} {V : M.V} (hw : R.Wf V) (n : Int) (b : ByteArray) : A.Tr Try.prog 33 #[.pointer (some ⟨r, 0, none⟩), .int .i64 n, .string b] (R.its r s V) (I := Unit) (fun _ => True) (fun _ => .tuple #[]) (fun _ => R.its r s (V.setc n b)) := by
 intro w oo aa hh
 refine E.enter (n := 46) (S := oo) Try.func33 rfl rfl (by kernel_rfl) (A.start (L := []) hh) ?_
 refine E.C.seq ?_
 refine E.sr ?_
 refine E.op (.int .i64 n) ?_
 refine E.op (.bool (decide (n < 0))) ?_
 refine E.op (.bool (decide (n < 0))) ?_
 refine E.G.cut 8 [(0, .pointer (some ⟨r, 0, none⟩)), (1, .int .i64 n), (2, .string b), (17, .bool ((decide (n < 0)) || (decide (n ≥ ((V.n : Nat) : Int)))))] (A.X w oo aa [A.blk r [.slice s.a0 (256 * V.n) s.c0, .slice s.a1 (256 * R.len V) s.c1, .slice s.a2 (256 * V.n) s.c2, .slice s.a3 (256 * R.len V) s.c3, .slice s.a4 V.n s.c4, .bool V.coh], A.vec .u8 s.a0 s.c0 (R.flat V.d V.n), A.vec .u8 s.a1 s.c1 (R.flat V.i (R.len V)), A.vec .u8 s.a2 s.c2 (R.flat V.cd V.n), A.vec .u8 s.a3 s.c3 (R.flat V.ci (R.len V)), A.vec .i64 s.a4 s.c4 (R.rts V.r V.n)]) [] ?_ ?_
 ·
  generalize hc1 : (decide (n < 0)) = b2
  cases b2
  ·
   refine E.op (.int .i64 n) ?_
   refine E.op (.pointer (some ⟨r, 0, none⟩)) ?_
   refine E.op (.pointer (some ⟨r, 0, none⟩)) ?_
   refine E.op (.pointer (some ⟨r, 4, none⟩)) ?_
   refine E.vl (.slice s.a4 V.n s.c4) (fun w h => A.Y.bld (A.X.y h.x) (k := 0) (j := 4) rfl (by kernel_rfl) (by kernel_rfl)) ?_
   refine E.op (.int .i64 ((V.n : Nat) : Int)) ?_
   refine E.op (.bool (decide (n ≥ ((V.n : Nat) : Int)))) ?_
   refine E.op (.bool (decide (n ≥ ((V.n : Nat) : Int)))) ?_
   exact E.G.end_pst ⟨by kernel_rfl, by kernel_rfl⟩ (List.Sublist.refl _) (fun _ h => h)
  refine E.sk ?_
  refine E.sk ?_
  refine E.sk ?_
  refine E.sk ?_
  refine E.sk ?_
  refine E.sk ?_
  refine E.sk ?_
  refine E.op (.bool true) ?_
  exact E.G.end_pst ⟨by kernel_rfl, by kernel_rfl⟩ (List.Sublist.refl _) (fun _ h => h)
 refine E.op (.bool ((decide (n < 0)) || (decide (n ≥ ((V.n : Nat) : Int))))) ?_
 refine E.G.cut 5 [(0, .pointer (some ⟨r, 0, none⟩)), (1, .int .i64 n), (2, .string b), (23, .bool (((decide (n < 0)) || (decide (n ≥ ((V.n : Nat) : Int)))) || V.coh))] (A.X w oo aa [A.blk r [.slice s.a0 (256 * V.n) s.c0, .slice s.a1 (256 * R.len V) s.c1, .slice s.a2 (256 * V.n) s.c2, .slice s.a3 (256 * R.len V) s.c3, .slice s.a4 V.n s.c4, .bool V.coh], A.vec .u8 s.a0 s.c0 (R.flat V.d V.n), A.vec .u8 s.a1 s.c1 (R.flat V.i (R.len V)), A.vec .u8 s.a2 s.c2 (R.flat V.cd V.n), A.vec .u8 s.a3 s.c3 (R.flat V.ci (R.len V)), A.vec .i64 s.a4 s.c4 (R.rts V.r V.n)]) [] ?_ ?_
 ·
  generalize hc3 : ((decide (n < 0)) || (decide (n ≥ ((V.n : Nat) : Int)))) = b4
  cases b4
  ·
   refine E.op (.pointer (some ⟨r, 0, none⟩)) ?_
   refine E.op (.pointer (some ⟨r, 0, none⟩)) ?_
   refine E.op (.pointer (some ⟨r, 5, none⟩)) ?_
   refine E.vl (.bool V.coh) (fun w h => A.Y.bld (A.X.y h.x) (k := 0) (j := 5) rfl (by kernel_rfl) (by kernel_rfl)) ?_
   refine E.op (.bool V.coh) ?_
   exact E.G.end_pst ⟨by kernel_rfl, by kernel_rfl⟩ (List.Sublist.refl _) (fun _ h => h)
  refine E.sk ?_
  refine E.sk ?_
  refine E.sk ?_
  refine E.sk ?_
  refine E.op (.bool true) ?_
  exact E.G.end_pst ⟨by kernel_rfl, by kernel_rfl⟩ (List.Sublist.refl _) (fun _ h => h)
 refine E.To.code ?_
 refine E.cd (((decide (n < 0)) || (decide (n ≥ ((V.n : Nat) : Int)))) || V.coh) (fun hc5 => ?_) (fun hc5 => ?_)
 ·
  refine E.C.ret (E.P.rt (E.To.body (fn := Try.f33) [] ?_ ?_))
  · exact trivial
  intro w h
  rw [R.setc_no hc5]
  exact ⟨(), trivial, rfl, A.done (q := [A.blk r [.slice s.a0 (256 * V.n) s.c0, .slice s.a1 (256 * R.len V) s.c1, .slice s.a2 (256 * V.n) s.c2, .slice s.a3 (256 * R.len V) s.c3, .slice s.a4 V.n s.c4, .bool V.coh], A.vec .u8 s.a0 s.c0 (R.flat V.d V.n), A.vec .u8 s.a1 s.c1 (R.flat V.i (R.len V)), A.vec .u8 s.a2 s.c2 (R.flat V.cd V.n), A.vec .u8 s.a3 s.c3 (R.flat V.ci (R.len V)), A.vec .i64 s.a4 s.c4 (R.rts V.r V.n)]) (r := []) h (by kernel_rfl) (A.pn [0, 1, 2, 3, 4, 5])⟩
 refine E.C.skip (E.To.code ?_)
 refine E.C.seq ?_
 obtain ⟨m, rfl, hm, hcoh⟩ := R.setc_yes hc5
 have hlen := R.len_f hcoh
 have hlen2 : ∀ c, R.len (R.lay V m b c) = V.n := fun c => hlen
 refine E.C.region ?_
 refine E.op (.int .i64 0) ?_
 refine E.To.code ?_
 refine E.C.block ?_
 refine A.C.eq ([A.blk r [.slice s.a0 (256 * (R.lay V m b 0).n) s.c0, .slice s.a1 (256 * R.len (R.lay V m b 0)) s.c1, .slice s.a2 (256 * (R.lay V m b 0).n) s.c2, .slice s.a3 (256 * R.len (R.lay V m b 0)) s.c3, .slice s.a4 ((R.lay V m b 0).n) s.c4, .bool ((R.lay V m b 0).coh)], A.vec .u8 s.a0 s.c0 (R.flat (R.lay V m b 0).d (R.lay V m b 0).n), A.vec .u8 s.a1 s.c1 (R.flat (R.lay V m b 0).i (R.len (R.lay V m b 0))), A.vec .u8 s.a2 s.c2 (R.flat (R.lay V m b 0).cd (R.lay V m b 0).n), A.vec .u8 s.a3 s.c3 (R.flat (R.lay V m b 0).ci (R.len (R.lay V m b 0))), A.vec .i64 s.a4 s.c4 (R.rts (R.lay V m b 0).r (R.lay V m b 0).n)]) (congrArg (R.its r s) (R.lay0 V m b).symm) ?_
 refine E.C.loop (I := Nat) (fun c => 256 - c) (fun c => c ≤ b.size ∧ c ≤ 256) (fun c => [(0, .pointer (some ⟨r, 0, none⟩)), (1, .int .i64 ((m : Nat) : Int)), (2, .string b), (6, .int .i64 ((c : Nat) : Int))]) (fun c => A.X w oo aa [A.blk r [.slice s.a0 (256 * (R.lay V m b c).n) s.c0, .slice s.a1 (256 * R.len (R.lay V m b c)) s.c1, .slice s.a2 (256 * (R.lay V m b c).n) s.c2, .slice s.a3 (256 * R.len (R.lay V m b c)) s.c3, .slice s.a4 ((R.lay V m b c).n) s.c4, .bool ((R.lay V m b c).coh)], A.vec .u8 s.a0 s.c0 (R.flat (R.lay V m b c).d (R.lay V m b c).n), A.vec .u8 s.a1 s.c1 (R.flat (R.lay V m b c).i (R.len (R.lay V m b c))), A.vec .u8 s.a2 s.c2 (R.flat (R.lay V m b c).cd (R.lay V m b c).n), A.vec .u8 s.a3 s.c3 (R.flat (R.lay V m b c).ci (R.len (R.lay V m b c))), A.vec .i64 s.a4 s.c4 (R.rts (R.lay V m b c).r (R.lay V m b c).n)]) (fun c => []) 0 (⟨Nat.zero_le _, Nat.zero_le _⟩) ⟨by kernel_rfl, by kernel_rfl⟩ (List.Sublist.refl _) (fun _ h => h) (fun c hk1 => ?_)
 refine E.C.seq ?_
 refine E.sr ?_
 refine E.op (.int .i64 ((c : Nat) : Int)) ?_
 refine E.op (.string b) ?_
 refine E.op (.int .i64 ((b.size : Nat) : Int)) ?_
 refine E.op (.bool (decide (((c : Nat) : Int) < ((b.size : Nat) : Int)))) ?_
 refine E.op (.bool (decide (((c : Nat) : Int) < ((b.size : Nat) : Int)))) ?_
 refine E.G.cut 3 [(0, .pointer (some ⟨r, 0, none⟩)), (1, .int .i64 ((m : Nat) : Int)), (2, .string b), (6, .int .i64 ((c : Nat) : Int)), (24, .int .i64 ((c : Nat) : Int)), (25, .string b), (26, .int .i64 ((b.size : Nat) : Int)), (27, .bool (decide (((c : Nat) : Int) < ((b.size : Nat) : Int)))), (28, .bool (decide (((c : Nat) : Int) < ((b.size : Nat) : Int)))), (31, .bool ((decide (((c : Nat) : Int) < ((b.size : Nat) : Int))) && (decide (((c : Nat) : Int) < 256))))] (A.X w oo aa [A.blk r [.slice s.a0 (256 * (R.lay V m b c).n) s.c0, .slice s.a1 (256 * R.len (R.lay V m b c)) s.c1, .slice s.a2 (256 * (R.lay V m b c).n) s.c2, .slice s.a3 (256 * R.len (R.lay V m b c)) s.c3, .slice s.a4 ((R.lay V m b c).n) s.c4, .bool ((R.lay V m b c).coh)], A.vec .u8 s.a0 s.c0 (R.flat (R.lay V m b c).d (R.lay V m b c).n), A.vec .u8 s.a1 s.c1 (R.flat (R.lay V m b c).i (R.len (R.lay V m b c))), A.vec .u8 s.a2 s.c2 (R.flat (R.lay V m b c).cd (R.lay V m b c).n), A.vec .u8 s.a3 s.c3 (R.flat (R.lay V m b c).ci (R.len (R.lay V m b c))), A.vec .i64 s.a4 s.c4 (R.rts (R.lay V m b c).r (R.lay V m b c).n)]) [] ?_ ?_
 ·
  generalize hc6 : (decide (((c : Nat) : Int) < ((b.size : Nat) : Int))) = b7
  cases b7
  ·
   refine E.sk ?_
   refine E.sk ?_
   refine E.op (.bool false) ?_
   exact E.G.end_pst ⟨by kernel_rfl, by kernel_rfl⟩ (List.Sublist.refl _) (fun _ h => h)
  refine E.op (.int .i64 ((c : Nat) : Int)) ?_
  refine E.op (.bool (decide (((c : Nat) : Int) < 256))) ?_
  refine E.op (.bool (decide (((c : Nat) : Int) < 256))) ?_
  exact E.G.end_pst ⟨by kernel_rfl, by kernel_rfl⟩ (List.Sublist.refl _) (fun _ h => h)
 refine E.To.code ?_
 refine E.cd ((decide (((c : Nat) : Int) < ((b.size : Nat) : Int))) && (decide (((c : Nat) : Int) < 256))) (fun hc8 => ?_) (fun hc8 => ?_)
 ·
  refine E.C.skip (E.To.code ?_)
  refine E.C.seq ?_
  refine E.C.block ?_
  have hc2 : c < 256 := by (first | assumption | ((try simp only [Bool.or_eq_false_iff, Bool.or_eq_true, Bool.and_eq_true, Bool.and_eq_false_iff, Bool.not_eq_eq_eq_not, Bool.not_true, Bool.not_false, decide_eq_true_eq, decide_eq_false_iff_not, ge_iff_le, gt_iff_lt] at *); omega))
  have hc3 : c < b.size := by (first | assumption | ((try simp only [Bool.or_eq_false_iff, Bool.or_eq_true, Bool.and_eq_true, Bool.and_eq_false_iff, Bool.not_eq_eq_eq_not, Bool.not_true, Bool.not_false, decide_eq_true_eq, decide_eq_false_iff_not, ge_iff_le, gt_iff_lt] at *); omega))
  have hn2 : (R.lay V m b c).n = V.n := rfl
  have hlen3 := hlen2 c
  refine E.C.know (p := s.a1 = some ⟨A.bk s.a1, 0, none⟩) (fun w h => A.Y.ao (A.X.y h.x) (k := 2) rfl (by simp only [R.flat_len]; (first | assumption | ((try simp only [Bool.or_eq_false_iff, Bool.or_eq_true, Bool.and_eq_true, Bool.and_eq_false_iff, Bool.not_eq_eq_eq_not, Bool.not_true, Bool.not_false, decide_eq_true_eq, decide_eq_false_iff_not, ge_iff_le, gt_iff_lt] at *); omega)))) (fun hao9 => ?_)
  refine E.C.held (A.Y [A.blk r [.slice s.a0 (256 * (R.lay V m b c).n) s.c0, .slice s.a1 (256 * R.len (R.lay V m b c)) s.c1, .slice s.a2 (256 * (R.lay V m b c).n) s.c2, .slice s.a3 (256 * R.len (R.lay V m b c)) s.c3, .slice s.a4 ((R.lay V m b c).n) s.c4, .bool ((R.lay V m b c).coh)], A.vec .u8 s.a0 s.c0 (R.flat (R.lay V m b c).d (R.lay V m b c).n), A.vec .u8 s.a2 s.c2 (R.flat (R.lay V m b c).cd (R.lay V m b c).n), A.vec .u8 s.a3 s.c3 (R.flat (R.lay V m b c).ci (R.len (R.lay V m b c))), A.vec .i64 s.a4 s.c4 (R.rts (R.lay V m b c).r (R.lay V m b c).n)]) (by kernel_rfl) ?_
  refine E.tk 0 (.pointer (some ⟨r, 0, none⟩)) rfl (fun w h => A.Y.part (p := [A.blk r [.slice s.a0 (256 * (R.lay V m b c).n) s.c0, .slice s.a1 (256 * R.len (R.lay V m b c)) s.c1, .slice s.a2 (256 * (R.lay V m b c).n) s.c2, .slice s.a3 (256 * R.len (R.lay V m b c)) s.c3, .slice s.a4 ((R.lay V m b c).n) s.c4, .bool ((R.lay V m b c).coh)], A.vec .u8 s.a0 s.c0 (R.flat (R.lay V m b c).d (R.lay V m b c).n), A.vec .u8 s.a2 s.c2 (R.flat (R.lay V m b c).cd (R.lay V m b c).n), A.vec .u8 s.a3 s.c3 (R.flat (R.lay V m b c).ci (R.len (R.lay V m b c))), A.vec .i64 s.a4 s.c4 (R.rts (R.lay V m b c).r (R.lay V m b c).n)]) (r := [A.vec .u8 s.a1 s.c1 (R.flat (R.lay V m b c).i (R.len (R.lay V m b c)))]) (A.X.y h.x) (A.pn [0, 1, 3, 4, 5, 2])) ?_
  refine E.tk 1 (.pointer (some ⟨r, 0, none⟩)) rfl (fun w h => A.Y.part (p := [A.blk r [.slice s.a0 (256 * (R.lay V m b c).n) s.c0, .slice s.a1 (256 * R.len (R.lay V m b c)) s.c1, .slice s.a2 (256 * (R.lay V m b c).n) s.c2, .slice s.a3 (256 * R.len (R.lay V m b c)) s.c3, .slice s.a4 ((R.lay V m b c).n) s.c4, .bool ((R.lay V m b c).coh)], A.vec .u8 s.a0 s.c0 (R.flat (R.lay V m b c).d (R.lay V m b c).n), A.vec .u8 s.a2 s.c2 (R.flat (R.lay V m b c).cd (R.lay V m b c).n), A.vec .u8 s.a3 s.c3 (R.flat (R.lay V m b c).ci (R.len (R.lay V m b c))), A.vec .i64 s.a4 s.c4 (R.rts (R.lay V m b c).r (R.lay V m b c).n)]) (r := [A.vec .u8 s.a1 s.c1 (R.flat (R.lay V m b c).i (R.len (R.lay V m b c)))]) (A.X.y h.x) (A.pn [0, 1, 3, 4, 5, 2])) ?_
  refine E.tk 2 (.pointer (some ⟨r, 1, none⟩)) rfl (fun w h => A.Y.part (p := [A.blk r [.slice s.a0 (256 * (R.lay V m b c).n) s.c0, .slice s.a1 (256 * R.len (R.lay V m b c)) s.c1, .slice s.a2 (256 * (R.lay V m b c).n) s.c2, .slice s.a3 (256 * R.len (R.lay V m b c)) s.c3, .slice s.a4 ((R.lay V m b c).n) s.c4, .bool ((R.lay V m b c).coh)], A.vec .u8 s.a0 s.c0 (R.flat (R.lay V m b c).d (R.lay V m b c).n), A.vec .u8 s.a2 s.c2 (R.flat (R.lay V m b c).cd (R.lay V m b c).n), A.vec .u8 s.a3 s.c3 (R.flat (R.lay V m b c).ci (R.len (R.lay V m b c))), A.vec .i64 s.a4 s.c4 (R.rts (R.lay V m b c).r (R.lay V m b c).n)]) (r := [A.vec .u8 s.a1 s.c1 (R.flat (R.lay V m b c).i (R.len (R.lay V m b c)))]) (A.X.y h.x) (A.pn [0, 1, 3, 4, 5, 2])) ?_
  refine E.tj 3 (.slice s.a1 (256 * R.len (R.lay V m b c)) s.c1) rfl (fun w h => A.Y.part (p := [A.blk r [.slice s.a0 (256 * (R.lay V m b c).n) s.c0, .slice s.a1 (256 * R.len (R.lay V m b c)) s.c1, .slice s.a2 (256 * (R.lay V m b c).n) s.c2, .slice s.a3 (256 * R.len (R.lay V m b c)) s.c3, .slice s.a4 ((R.lay V m b c).n) s.c4, .bool ((R.lay V m b c).coh)], A.vec .u8 s.a0 s.c0 (R.flat (R.lay V m b c).d (R.lay V m b c).n), A.vec .u8 s.a2 s.c2 (R.flat (R.lay V m b c).cd (R.lay V m b c).n), A.vec .u8 s.a3 s.c3 (R.flat (R.lay V m b c).ci (R.len (R.lay V m b c))), A.vec .i64 s.a4 s.c4 (R.rts (R.lay V m b c).r (R.lay V m b c).n)]) (r := [A.vec .u8 s.a1 s.c1 (R.flat (R.lay V m b c).i (R.len (R.lay V m b c)))]) (A.X.y h.x) (A.pn [0, 1, 3, 4, 5, 2])) (fun w h => A.Y.bld h (k := 0) (j := 1) rfl (by kernel_rfl) (by kernel_rfl)) ?_
  refine E.tk 4 (.int .i64 ((m : Nat) : Int)) rfl (fun w h => A.Y.part (p := [A.blk r [.slice s.a0 (256 * (R.lay V m b c).n) s.c0, .slice s.a1 (256 * R.len (R.lay V m b c)) s.c1, .slice s.a2 (256 * (R.lay V m b c).n) s.c2, .slice s.a3 (256 * R.len (R.lay V m b c)) s.c3, .slice s.a4 ((R.lay V m b c).n) s.c4, .bool ((R.lay V m b c).coh)], A.vec .u8 s.a0 s.c0 (R.flat (R.lay V m b c).d (R.lay V m b c).n), A.vec .u8 s.a2 s.c2 (R.flat (R.lay V m b c).cd (R.lay V m b c).n), A.vec .u8 s.a3 s.c3 (R.flat (R.lay V m b c).ci (R.len (R.lay V m b c))), A.vec .i64 s.a4 s.c4 (R.rts (R.lay V m b c).r (R.lay V m b c).n)]) (r := [A.vec .u8 s.a1 s.c1 (R.flat (R.lay V m b c).i (R.len (R.lay V m b c)))]) (A.X.y h.x) (A.pn [0, 1, 3, 4, 5, 2])) ?_
  refine E.tj 5 (.int .i64 ((256 * m : Nat) : Int)) rfl (fun w h => A.Y.part (p := [A.blk r [.slice s.a0 (256 * (R.lay V m b c).n) s.c0, .slice s.a1 (256 * R.len (R.lay V m b c)) s.c1, .slice s.a2 (256 * (R.lay V m b c).n) s.c2, .slice s.a3 (256 * R.len (R.lay V m b c)) s.c3, .slice s.a4 ((R.lay V m b c).n) s.c4, .bool ((R.lay V m b c).coh)], A.vec .u8 s.a0 s.c0 (R.flat (R.lay V m b c).d (R.lay V m b c).n), A.vec .u8 s.a2 s.c2 (R.flat (R.lay V m b c).cd (R.lay V m b c).n), A.vec .u8 s.a3 s.c3 (R.flat (R.lay V m b c).ci (R.len (R.lay V m b c))), A.vec .i64 s.a4 s.c4 (R.rts (R.lay V m b c).r (R.lay V m b c).n)]) (r := [A.vec .u8 s.a1 s.c1 (R.flat (R.lay V m b c).i (R.len (R.lay V m b c)))]) (A.X.y h.x) (A.pn [0, 1, 3, 4, 5, 2])) (fun w h => E.run_as (a := .int .i64 (IntKind.wrap .i64 (256 * ((m : Nat) : Int)))) (by kernel_rfl) (congrArg (Value.int .i64) (by exact Nz.mul64 (x := 256) (y := m) (by have := hw.n; (first | assumption | ((try simp only [Bool.or_eq_false_iff, Bool.or_eq_true, Bool.and_eq_true, Bool.and_eq_false_iff, Bool.not_eq_eq_eq_not, Bool.not_true, Bool.not_false, decide_eq_true_eq, decide_eq_false_iff_not, ge_iff_le, gt_iff_lt] at *); omega)))))) ?_
  refine E.tk 6 (.int .i64 ((c : Nat) : Int)) rfl (fun w h => A.Y.part (p := [A.blk r [.slice s.a0 (256 * (R.lay V m b c).n) s.c0, .slice s.a1 (256 * R.len (R.lay V m b c)) s.c1, .slice s.a2 (256 * (R.lay V m b c).n) s.c2, .slice s.a3 (256 * R.len (R.lay V m b c)) s.c3, .slice s.a4 ((R.lay V m b c).n) s.c4, .bool ((R.lay V m b c).coh)], A.vec .u8 s.a0 s.c0 (R.flat (R.lay V m b c).d (R.lay V m b c).n), A.vec .u8 s.a2 s.c2 (R.flat (R.lay V m b c).cd (R.lay V m b c).n), A.vec .u8 s.a3 s.c3 (R.flat (R.lay V m b c).ci (R.len (R.lay V m b c))), A.vec .i64 s.a4 s.c4 (R.rts (R.lay V m b c).r (R.lay V m b c).n)]) (r := [A.vec .u8 s.a1 s.c1 (R.flat (R.lay V m b c).i (R.len (R.lay V m b c)))]) (A.X.y h.x) (A.pn [0, 1, 3, 4, 5, 2])) ?_
  refine E.tj 7 (.int .i64 (((256 * m) + c : Nat) : Int)) rfl (fun w h => A.Y.part (p := [A.blk r [.slice s.a0 (256 * (R.lay V m b c).n) s.c0, .slice s.a1 (256 * R.len (R.lay V m b c)) s.c1, .slice s.a2 (256 * (R.lay V m b c).n) s.c2, .slice s.a3 (256 * R.len (R.lay V m b c)) s.c3, .slice s.a4 ((R.lay V m b c).n) s.c4, .bool ((R.lay V m b c).coh)], A.vec .u8 s.a0 s.c0 (R.flat (R.lay V m b c).d (R.lay V m b c).n), A.vec .u8 s.a2 s.c2 (R.flat (R.lay V m b c).cd (R.lay V m b c).n), A.vec .u8 s.a3 s.c3 (R.flat (R.lay V m b c).ci (R.len (R.lay V m b c))), A.vec .i64 s.a4 s.c4 (R.rts (R.lay V m b c).r (R.lay V m b c).n)]) (r := [A.vec .u8 s.a1 s.c1 (R.flat (R.lay V m b c).i (R.len (R.lay V m b c)))]) (A.X.y h.x) (A.pn [0, 1, 3, 4, 5, 2])) (fun w h => E.run_as (a := .int .i64 (IntKind.wrap .i64 (((256 * m : Nat) : Int) + ((c : Nat) : Int)))) (by kernel_rfl) (congrArg (Value.int .i64) (by exact Nz.add64 (x := (256 * m)) (y := c) (by have := hw.n; (first | assumption | ((try simp only [Bool.or_eq_false_iff, Bool.or_eq_true, Bool.and_eq_true, Bool.and_eq_false_iff, Bool.not_eq_eq_eq_not, Bool.not_true, Bool.not_false, decide_eq_true_eq, decide_eq_false_iff_not, ge_iff_le, gt_iff_lt] at *); omega)))))) ?_
  refine E.tk 8 (.string b) rfl (fun w h => A.Y.part (p := [A.blk r [.slice s.a0 (256 * (R.lay V m b c).n) s.c0, .slice s.a1 (256 * R.len (R.lay V m b c)) s.c1, .slice s.a2 (256 * (R.lay V m b c).n) s.c2, .slice s.a3 (256 * R.len (R.lay V m b c)) s.c3, .slice s.a4 ((R.lay V m b c).n) s.c4, .bool ((R.lay V m b c).coh)], A.vec .u8 s.a0 s.c0 (R.flat (R.lay V m b c).d (R.lay V m b c).n), A.vec .u8 s.a2 s.c2 (R.flat (R.lay V m b c).cd (R.lay V m b c).n), A.vec .u8 s.a3 s.c3 (R.flat (R.lay V m b c).ci (R.len (R.lay V m b c))), A.vec .i64 s.a4 s.c4 (R.rts (R.lay V m b c).r (R.lay V m b c).n)]) (r := [A.vec .u8 s.a1 s.c1 (R.flat (R.lay V m b c).i (R.len (R.lay V m b c)))]) (A.X.y h.x) (A.pn [0, 1, 3, 4, 5, 2])) ?_
  refine E.tk 9 (.int .i64 ((c : Nat) : Int)) rfl (fun w h => A.Y.part (p := [A.blk r [.slice s.a0 (256 * (R.lay V m b c).n) s.c0, .slice s.a1 (256 * R.len (R.lay V m b c)) s.c1, .slice s.a2 (256 * (R.lay V m b c).n) s.c2, .slice s.a3 (256 * R.len (R.lay V m b c)) s.c3, .slice s.a4 ((R.lay V m b c).n) s.c4, .bool ((R.lay V m b c).coh)], A.vec .u8 s.a0 s.c0 (R.flat (R.lay V m b c).d (R.lay V m b c).n), A.vec .u8 s.a2 s.c2 (R.flat (R.lay V m b c).cd (R.lay V m b c).n), A.vec .u8 s.a3 s.c3 (R.flat (R.lay V m b c).ci (R.len (R.lay V m b c))), A.vec .i64 s.a4 s.c4 (R.rts (R.lay V m b c).r (R.lay V m b c).n)]) (r := [A.vec .u8 s.a1 s.c1 (R.flat (R.lay V m b c).i (R.len (R.lay V m b c)))]) (A.X.y h.x) (A.pn [0, 1, 3, 4, 5, 2])) ?_
  refine E.tj 10 (.int .u8 (W.byt b.data.toList c)) rfl (fun w h => A.Y.part (p := [A.blk r [.slice s.a0 (256 * (R.lay V m b c).n) s.c0, .slice s.a1 (256 * R.len (R.lay V m b c)) s.c1, .slice s.a2 (256 * (R.lay V m b c).n) s.c2, .slice s.a3 (256 * R.len (R.lay V m b c)) s.c3, .slice s.a4 ((R.lay V m b c).n) s.c4, .bool ((R.lay V m b c).coh)], A.vec .u8 s.a0 s.c0 (R.flat (R.lay V m b c).d (R.lay V m b c).n), A.vec .u8 s.a2 s.c2 (R.flat (R.lay V m b c).cd (R.lay V m b c).n), A.vec .u8 s.a3 s.c3 (R.flat (R.lay V m b c).ci (R.len (R.lay V m b c))), A.vec .i64 s.a4 s.c4 (R.rts (R.lay V m b c).r (R.lay V m b c).n)]) (r := [A.vec .u8 s.a1 s.c1 (R.flat (R.lay V m b c).i (R.len (R.lay V m b c)))]) (A.X.y h.x) (A.pn [0, 1, 3, 4, 5, 2])) (fun w h => E.run_as (a := .int .u8 (W.byt b.data.toList (((c : Nat) : Int)).toNat)) (E.sidx b .i64 ((c : Nat) : Int) (by kernel_rfl) (by kernel_rfl) (by kernel_rfl) (by (first | assumption | ((try simp only [Bool.or_eq_false_iff, Bool.or_eq_true, Bool.and_eq_true, Bool.and_eq_false_iff, Bool.not_eq_eq_eq_not, Bool.not_true, Bool.not_false, decide_eq_true_eq, decide_eq_false_iff_not, ge_iff_le, gt_iff_lt] at *); omega))) (by (first | assumption | ((try simp only [Bool.or_eq_false_iff, Bool.or_eq_true, Bool.and_eq_true, Bool.and_eq_false_iff, Bool.not_eq_eq_eq_not, Bool.not_true, Bool.not_false, decide_eq_true_eq, decide_eq_false_iff_not, ge_iff_le, gt_iff_lt] at *); omega))) w) (rfl)) ?_
  refine E.tj 11 (.pointer (some ⟨(A.bk s.a1), ((256 * m) + c), none⟩)) rfl (fun w h => A.Y.part (p := [A.blk r [.slice s.a0 (256 * (R.lay V m b c).n) s.c0, .slice s.a1 (256 * R.len (R.lay V m b c)) s.c1, .slice s.a2 (256 * (R.lay V m b c).n) s.c2, .slice s.a3 (256 * R.len (R.lay V m b c)) s.c3, .slice s.a4 ((R.lay V m b c).n) s.c4, .bool ((R.lay V m b c).coh)], A.vec .u8 s.a0 s.c0 (R.flat (R.lay V m b c).d (R.lay V m b c).n), A.vec .u8 s.a2 s.c2 (R.flat (R.lay V m b c).cd (R.lay V m b c).n), A.vec .u8 s.a3 s.c3 (R.flat (R.lay V m b c).ci (R.len (R.lay V m b c))), A.vec .i64 s.a4 s.c4 (R.rts (R.lay V m b c).r (R.lay V m b c).n)]) (r := [A.vec .u8 s.a1 s.c1 (R.flat (R.lay V m b c).i (R.len (R.lay V m b c)))]) (A.X.y h.x) (A.pn [0, 1, 3, 4, 5, 2])) (fun w h => A.idxP (e := 5) (ik := .i64) (i := ((256 * m) + c)) (len := (256 * R.len (R.lay V m b c))) (c2 := s.c1) hao9 (by kernel_rfl) (by kernel_rfl) (by kernel_rfl) (by kernel_rfl) (by (first | assumption | ((try simp only [Bool.or_eq_false_iff, Bool.or_eq_true, Bool.and_eq_true, Bool.and_eq_false_iff, Bool.not_eq_eq_eq_not, Bool.not_true, Bool.not_false, decide_eq_true_eq, decide_eq_false_iff_not, ge_iff_le, gt_iff_lt] at *); omega))) w) ?_
  refine E.al 12 rfl ?_
  refine A.G.vst (kd := .u8) (ao := s.a1) (cap := s.c1) (i := ((256 * m) + c)) (xs := (R.flat (R.lay V m b c).i (R.len (R.lay V m b c)))) (v := (W.byt b.data.toList c)) 2 rfl (by kernel_rfl) (by kernel_rfl) (by kernel_rfl) (by simp only [R.flat_len]; (first | assumption | ((try simp only [Bool.or_eq_false_iff, Bool.or_eq_true, Bool.and_eq_true, Bool.and_eq_false_iff, Bool.not_eq_eq_eq_not, Bool.not_true, Bool.not_false, decide_eq_true_eq, decide_eq_false_iff_not, ge_iff_le, gt_iff_lt] at *); omega))) (by kernel_rfl) (by kernel_rfl) ?_
  refine E.H.back (fun w h => A.Y.part (p := [A.blk r [.slice s.a0 (256 * (R.lay V m b c).n) s.c0, .slice s.a1 (256 * R.len (R.lay V m b c)) s.c1, .slice s.a2 (256 * (R.lay V m b c).n) s.c2, .slice s.a3 (256 * R.len (R.lay V m b c)) s.c3, .slice s.a4 ((R.lay V m b c).n) s.c4, .bool ((R.lay V m b c).coh)], A.vec .u8 s.a0 s.c0 (R.flat (R.lay V m b c).d (R.lay V m b c).n), A.vec .u8 s.a2 s.c2 (R.flat (R.lay V m b c).cd (R.lay V m b c).n), A.vec .u8 s.a3 s.c3 (R.flat (R.lay V m b c).ci (R.len (R.lay V m b c))), A.vec .i64 s.a4 s.c4 (R.rts (R.lay V m b c).r (R.lay V m b c).n)]) (r := [A.vec .u8 s.a1 s.c1 ((R.flat (R.lay V m b c).i (R.len (R.lay V m b c))).set ((256 * m) + c) (W.byt b.data.toList c))]) (A.X.y h.x) (A.pn [0, 1, 3, 4, 5, 2])) ?_
  refine E.H.done (by kernel_rfl) ?_
  refine E.P.nb (E.To.code ?_)
  refine A.C.eq ([A.blk r [.slice s.a0 (256 * (R.lay V m b (c + 1)).n) s.c0, .slice s.a1 (256 * R.len (R.lay V m b (c + 1))) s.c1, .slice s.a2 (256 * (R.lay V m b (c + 1)).n) s.c2, .slice s.a3 (256 * R.len (R.lay V m b (c + 1))) s.c3, .slice s.a4 ((R.lay V m b (c + 1)).n) s.c4, .bool ((R.lay V m b (c + 1)).coh)], A.vec .u8 s.a0 s.c0 (R.flat (R.lay V m b (c + 1)).d (R.lay V m b (c + 1)).n), A.vec .u8 s.a1 s.c1 (R.flat (R.lay V m b (c + 1)).i (R.len (R.lay V m b (c + 1)))), A.vec .u8 s.a2 s.c2 (R.flat (R.lay V m b (c + 1)).cd (R.lay V m b (c + 1)).n), A.vec .u8 s.a3 s.c3 (R.flat (R.lay V m b (c + 1)).ci (R.len (R.lay V m b (c + 1)))), A.vec .i64 s.a4 s.c4 (R.rts (R.lay V m b (c + 1)).r (R.lay V m b (c + 1)).n)]) (R.lay_next hcoh hm hc2) ?_
  refine E.C.region ?_
  refine E.op (.int .i64 ((c : Nat) : Int)) ?_
  refine E.vl (.int .i64 ((c + 1 : Nat) : Int)) (fun w h => E.run_as (a := .int .i64 (IntKind.wrap .i64 (((c : Nat) : Int) + 1))) (by kernel_rfl) (congrArg (Value.int .i64) (by exact Nz.add64 (x := c) (y := 1) (by have := hw.n; (first | assumption | ((try simp only [Bool.or_eq_false_iff, Bool.or_eq_true, Bool.and_eq_true, Bool.and_eq_false_iff, Bool.not_eq_eq_eq_not, Bool.not_true, Bool.not_false, decide_eq_true_eq, decide_eq_false_iff_not, ge_iff_le, gt_iff_lt] at *); omega)))))) ?_
  refine E.op (.int .i64 ((c + 1 : Nat) : Int)) ?_
  exact E.To.round (c + 1) (by (first | assumption | ((try simp only [Bool.or_eq_false_iff, Bool.or_eq_true, Bool.and_eq_true, Bool.and_eq_false_iff, Bool.not_eq_eq_eq_not, Bool.not_true, Bool.not_false, decide_eq_true_eq, decide_eq_false_iff_not, ge_iff_le, gt_iff_lt] at *); omega))) (by (first | assumption | ((try simp only [Bool.or_eq_false_iff, Bool.or_eq_true, Bool.and_eq_true, Bool.and_eq_false_iff, Bool.not_eq_eq_eq_not, Bool.not_true, Bool.not_false, decide_eq_true_eq, decide_eq_false_iff_not, ge_iff_le, gt_iff_lt] at *); omega))) ⟨by kernel_rfl, by kernel_rfl⟩ (List.Sublist.refl _) (fun _ h => h)
 refine E.C.exit (E.P.et (E.P.et (E.P.eh (E.To.bodyN (fn := Try.f33) [] ?_ ?_))))
 · exact trivial
 intro w h
 have e : c = Nat.min b.size 256 := R.min_end hk1 hc8
 rw [← R.lay_end hm hcoh e]
 exact ⟨(), trivial, rfl, A.done (q := [A.blk r [.slice s.a0 (256 * (R.lay V m b c).n) s.c0, .slice s.a1 (256 * R.len (R.lay V m b c)) s.c1, .slice s.a2 (256 * (R.lay V m b c).n) s.c2, .slice s.a3 (256 * R.len (R.lay V m b c)) s.c3, .slice s.a4 ((R.lay V m b c).n) s.c4, .bool ((R.lay V m b c).coh)], A.vec .u8 s.a0 s.c0 (R.flat (R.lay V m b c).d (R.lay V m b c).n), A.vec .u8 s.a1 s.c1 (R.flat (R.lay V m b c).i (R.len (R.lay V m b c))), A.vec .u8 s.a2 s.c2 (R.flat (R.lay V m b c).cd (R.lay V m b c).n), A.vec .u8 s.a3 s.c3 (R.flat (R.lay V m b c).ci (R.len (R.lay V m b c))), A.vec .i64 s.a4 s.c4 (R.rts (R.lay V m b c).r (R.lay V m b c).n)]) (r := []) h (by kernel_rfl) (A.pn [0, 1, 2, 3, 4, 5])⟩
end Go.Proofs.Ytgbndbljohpnmaa

/- XRj -/
namespace Go.Proofs.Ytgbndbljohpnmaa
set_option linter.unusedVariables false
set_option linter.unusedSimpArgs false
open Go.RowKit
theorem R.np_eq (n : Int) : (if (if 4096 < n then 4096 else n) > 0 then (if 4096 < n then 4096 else n) else 0) = ((M.np n : Nat) : Int) := by unfold M.np; split <;> split <;> (try split) <;> omega
theorem R.new_t {g N : Nat} {a0 a2 a4 : Option Addr} {w : World} {o a : Nat → Prop} (h : A.Has [A.blk g [.slice a0 (256 * N) (256 * N), .slice none 0 0, .slice a2 (256 * N) (256 * N), .slice none 0 0, .slice a4 N N, .bool true], A.vec .u8 a0 (256 * N) (List.replicate (256 * N) 0), A.vec .u8 a2 (256 * N) (List.replicate (256 * N) 0), A.vec .i64 a4 N (List.replicate N 0)] w o a) : A.Has (R.its g ⟨a0, none, a2, none, a4, 256 * N, 0, 256 * N, 0, N⟩ (M.V.new N true)) w o a := by
  have h1 := A.vec0 .u8 none (A.vec0 .u8 none h)
  unfold R.its R.vs
  show A.Has [A.blk g _, A.vec .u8 a0 (256 * N) (R.flat (fun _ _ => 0) N), A.vec .u8 none 0 (R.flat (fun _ _ => 0) 0), A.vec .u8 a2 (256 * N) (R.flat (fun _ _ => 0) N), A.vec .u8 none 0 (R.flat (fun _ _ => 0) 0), A.vec .i64 a4 N (R.rts (fun _ => 0) N)] w o a
  rw [R.flat_zero, R.rts_zero]
  exact h1.perm (A.pn [2, 3, 0, 4, 1, 5])
theorem R.new_f {g N : Nat} {a0 a1 a2 a3 a4 : Option Addr} {w : World} {o a : Nat → Prop} (h : A.Has [A.blk g [.slice a0 (256 * N) (256 * N), .slice a1 (256 * N) (256 * N), .slice a2 (256 * N) (256 * N), .slice a3 (256 * N) (256 * N), .slice a4 N N, .bool false], A.vec .u8 a0 (256 * N) (List.replicate (256 * N) 0), A.vec .u8 a1 (256 * N) (List.replicate (256 * N) 0), A.vec .u8 a2 (256 * N) (List.replicate (256 * N) 0), A.vec .u8 a3 (256 * N) (List.replicate (256 * N) 0), A.vec .i64 a4 N (List.replicate N 0)] w o a) : A.Has (R.its g ⟨a0, a1, a2, a3, a4, 256 * N, 256 * N, 256 * N, 256 * N, N⟩ (M.V.new N false)) w o a := by
  unfold R.its R.vs
  show A.Has [A.blk g _, A.vec .u8 a0 (256 * N) (R.flat (fun _ _ => 0) N), A.vec .u8 a1 (256 * N) (R.flat (fun _ _ => 0) N), A.vec .u8 a2 (256 * N) (R.flat (fun _ _ => 0) N), A.vec .u8 a3 (256 * N) (R.flat (fun _ _ => 0) N), A.vec .i64 a4 N (R.rts (fun _ => 0) N)] w o a
  rw [R.flat_zero, R.rts_zero]
  exact h
theorem R_New (n : Int) (coh : Bool) : A.Tr Try.prog 45 #[.int .i64 n, .bool coh] [] (I := Nat) (fun _ => True) (fun g => .pointer (some ⟨g, 0, none⟩)) (fun g => [R.It g (M.V.new (M.np n) coh)]) := by
 intro w oo aa hh
 refine E.enter (n := 36) (S := oo) Try.func45 rfl rfl (by kernel_rfl) (A.start (L := []) hh) ?_
 refine E.sr ?_
 refine E.op (.pointer none) ?_
 refine E.tr ?_
 refine E.op (.int .i64 n) ?_
 refine E.op (.int .i64 (if 4096 < n then 4096 else n)) ?_
 refine E.vl (.int .i64 ((M.np n : Nat) : Int)) (fun w h => E.run_as (a := .int .i64 (if (if 4096 < n then 4096 else n) > 0 then (if 4096 < n then 4096 else n) else 0)) (by kernel_rfl) (congrArg (Value.int .i64) (R.np_eq n))) ?_
 refine E.op (.int .i64 ((M.np n : Nat) : Int)) ?_
 refine E.To.code ?_
 refine E.C.seq ?_
 refine E.C.held (fun _ => True) (by kernel_rfl) ?_
 refine E.tk 0 (.int .i64 ((M.np n : Nat) : Int)) rfl (fun w h => trivial) ?_
 refine E.tj 1 (.int .i64 ((256 * (M.np n) : Nat) : Int)) rfl (fun w h => trivial) (fun w h => E.run_as (a := .int .i64 (IntKind.wrap .i64 (256 * ((M.np n : Nat) : Int)))) (by kernel_rfl) (congrArg (Value.int .i64) (by exact Nz.mul64 (x := 256) (y := (M.np n)) (by have := M.np_le n; omega)))) ?_
 refine E.tk 3 (.int .i64 ((M.np n : Nat) : Int)) rfl (fun w h => trivial) ?_
 refine E.tj 4 (.int .i64 ((256 * (M.np n) : Nat) : Int)) rfl (fun w h => trivial) (fun w h => E.run_as (a := .int .i64 (IntKind.wrap .i64 (256 * ((M.np n : Nat) : Int)))) (by kernel_rfl) (congrArg (Value.int .i64) (by exact Nz.mul64 (x := 256) (y := (M.np n)) (by have := M.np_le n; omega)))) ?_
 refine E.tk 6 (.int .i64 ((M.np n : Nat) : Int)) rfl (fun w h => trivial) ?_
 refine E.tk 8 (.bool coh) rfl (fun w h => trivial) ?_
 refine E.H.all [2, 5, 7] (by kernel_rfl) (by simp) (List.forall_mem_cons.2 ⟨⟨_, rfl, ?_⟩, List.forall_mem_cons.2 ⟨⟨_, rfl, ?_⟩, List.forall_mem_cons.2 ⟨⟨_, rfl, ?_⟩, fun _ h => (List.not_mem_nil h).elim⟩⟩⟩)
 ·
  refine A.G.make (e := 5) (kd := .u8) (lk := .i64) (256 * (M.np n)) 1 (by kernel_rfl) (by kernel_rfl) (by kernel_rfl) (by have := M.np_le n; omega) (by have := M.np_le n; omega) (by kernel_rfl) (fun ao1 => ?_)
  refine E.H.back (fun w h => trivial) ?_
  refine E.H.all [5, 7] (by kernel_rfl) (by simp) (List.forall_mem_cons.2 ⟨⟨_, rfl, ?_⟩, List.forall_mem_cons.2 ⟨⟨_, rfl, ?_⟩, fun _ h => (List.not_mem_nil h).elim⟩⟩)
  ·
   refine A.G.make (e := 5) (kd := .u8) (lk := .i64) (256 * (M.np n)) 1 (by kernel_rfl) (by kernel_rfl) (by kernel_rfl) (by have := M.np_le n; omega) (by have := M.np_le n; omega) (by kernel_rfl) (fun ao2 => ?_)
   refine E.H.back (fun w h => trivial) ?_
   refine E.al 7 rfl ?_
   refine A.G.make (e := 3) (kd := .i64) (lk := .i64) (M.np n) 8 (by kernel_rfl) (by kernel_rfl) (by kernel_rfl) (by have := M.np_le n; omega) (by have := M.np_le n; omega) (by kernel_rfl) (fun ao3 => ?_)
   refine E.H.back (fun w h => trivial) ?_
   refine E.tj 9 (.agg #[.slice ao1 (256 * (M.np n)) (256 * (M.np n)), .slice none 0 0, .slice ao2 (256 * (M.np n)) (256 * (M.np n)), .slice none 0 0, .slice ao3 (M.np n) (M.np n), .bool coh]) rfl (fun w h => trivial) (fun w h => E.run_build #[.slice ao1 (256 * (M.np n)) (256 * (M.np n)), .slice none 0 0, .slice ao2 (256 * (M.np n)) (256 * (M.np n)), .slice none 0 0, .slice ao3 (M.np n) (M.np n), .bool coh] (by kernel_rfl) w) ?_
   refine E.al 10 rfl ?_
   refine E.G.new (fun g => .pointer (some ⟨g, 0, none⟩)) [.slice ao1 (256 * (M.np n)) (256 * (M.np n)), .slice none 0 0, .slice ao2 (256 * (M.np n)) (256 * (M.np n)), .slice none 0 0, .slice ao3 (M.np n) (M.np n), .bool coh] 107 (fun w => by kernel_rfl) (by kernel_rfl) (fun g4 => ?_)
   refine E.H.back (fun w h => trivial) ?_
   refine E.tk 11 (.pointer (some ⟨g4, 0, none⟩)) rfl (fun w h => trivial) ?_
   refine E.H.done (by kernel_rfl) ?_
   refine E.To.code ?_
   refine E.wk [(1, .bool coh), (4, .pointer none), (5, .int .i64 ((M.np n : Nat) : Int)), (6, .pointer (some ⟨g4, 0, none⟩))] [(g4, [.slice ao1 (256 * (M.np n)) (256 * (M.np n)), .slice none 0 0, .slice ao2 (256 * (M.np n)) (256 * (M.np n)), .slice none 0 0, .slice ao3 (M.np n) (M.np n), .bool coh])] (List.Sublist.refl _) ?_
   refine E.C.seq ?_
   refine E.sr ?_
   refine E.op (.bool coh) ?_
   refine E.op (.bool (!coh)) ?_
   refine E.To.code ?_
   refine E.cd (!coh) (fun hc5 => ?_) (fun hc5 => ?_)
   ·
    refine E.sr ?_
    refine E.op (.pointer (some ⟨g4, 0, none⟩)) ?_
    refine E.op (.int .i64 ((M.np n : Nat) : Int)) ?_
    refine E.vl (.int .i64 ((256 * (M.np n) : Nat) : Int)) (fun w h => E.run_as (a := .int .i64 (IntKind.wrap .i64 (256 * ((M.np n : Nat) : Int)))) (by kernel_rfl) (congrArg (Value.int .i64) (by exact Nz.mul64 (x := 256) (y := (M.np n)) (by have := M.np_le n; omega)))) ?_
    refine A.G.make (e := 5) (kd := .u8) (lk := .i64) (256 * (M.np n)) 1 (by kernel_rfl) (by kernel_rfl) (by kernel_rfl) (by have := M.np_le n; omega) (by have := M.np_le n; omega) (by kernel_rfl) (fun ao6 => ?_)
    refine E.op (.pointer (some ⟨g4, 0, none⟩)) ?_
    refine E.op (.pointer (some ⟨g4, 1, none⟩)) ?_
    refine E.st 0 [.slice ao1 (256 * (M.np n)) (256 * (M.np n)), .slice ao6 (256 * (M.np n)) (256 * (M.np n)), .slice ao2 (256 * (M.np n)) (256 * (M.np n)), .slice none 0 0, .slice ao3 (M.np n) (M.np n), .bool coh] rfl rfl ?_
    refine E.To.code ?_
    refine E.wk [(4, .pointer none), (5, .int .i64 ((M.np n : Nat) : Int)), (6, .pointer (some ⟨g4, 0, none⟩))] [(g4, [.slice ao1 (256 * (M.np n)) (256 * (M.np n)), .slice ao6 (256 * (M.np n)) (256 * (M.np n)), .slice ao2 (256 * (M.np n)) (256 * (M.np n)), .slice none 0 0, .slice ao3 (M.np n) (M.np n), .bool coh])] (List.Sublist.refl _) ?_
    refine E.C.region ?_
    refine E.op (.pointer (some ⟨g4, 0, none⟩)) ?_
    refine E.op (.int .i64 ((M.np n : Nat) : Int)) ?_
    refine E.vl (.int .i64 ((256 * (M.np n) : Nat) : Int)) (fun w h => E.run_as (a := .int .i64 (IntKind.wrap .i64 (256 * ((M.np n : Nat) : Int)))) (by kernel_rfl) (congrArg (Value.int .i64) (by exact Nz.mul64 (x := 256) (y := (M.np n)) (by have := M.np_le n; omega)))) ?_
    refine A.G.make (e := 5) (kd := .u8) (lk := .i64) (256 * (M.np n)) 1 (by kernel_rfl) (by kernel_rfl) (by kernel_rfl) (by have := M.np_le n; omega) (by have := M.np_le n; omega) (by kernel_rfl) (fun ao7 => ?_)
    refine E.op (.pointer (some ⟨g4, 0, none⟩)) ?_
    refine E.op (.pointer (some ⟨g4, 3, none⟩)) ?_
    refine E.st 0 [.slice ao1 (256 * (M.np n)) (256 * (M.np n)), .slice ao6 (256 * (M.np n)) (256 * (M.np n)), .slice ao2 (256 * (M.np n)) (256 * (M.np n)), .slice ao7 (256 * (M.np n)) (256 * (M.np n)), .slice ao3 (M.np n) (M.np n), .bool coh] rfl rfl ?_
    refine E.tr ?_
    refine E.op (.pointer (some ⟨g4, 0, none⟩)) ?_
    refine E.op (.pointer (some ⟨g4, 0, none⟩)) ?_
    refine E.To.code ?_
    refine E.wk [(4, .pointer (some ⟨g4, 0, none⟩))] [(g4, [.slice ao1 (256 * (M.np n)) (256 * (M.np n)), .slice ao6 (256 * (M.np n)) (256 * (M.np n)), .slice ao2 (256 * (M.np n)) (256 * (M.np n)), .slice ao7 (256 * (M.np n)) (256 * (M.np n)), .slice ao3 (M.np n) (M.np n), .bool coh])] (List.Sublist.refl _) ?_
    refine E.C.ret (E.To.body (fn := Try.f45) [.pointer (some ⟨g4, 0, none⟩)] ?_ ?_)
    · exact ⟨⟨by kernel_rfl, by kernel_rfl⟩, trivial⟩
    intro w h
    obtain rfl : coh = false := by simpa using hc5
    obtain ⟨o1, a1, hq, hc, hg⟩ := A.done (q := [A.blk g4 ([.slice ao1 (256 * (M.np n)) (256 * (M.np n)), .slice ao6 (256 * (M.np n)) (256 * (M.np n)), .slice ao2 (256 * (M.np n)) (256 * (M.np n)), .slice ao7 (256 * (M.np n)) (256 * (M.np n)), .slice ao3 (M.np n) (M.np n), .bool false]), A.vec .u8 ao1 (256 * (M.np n)) (List.replicate (256 * (M.np n)) 0), A.vec .u8 ao6 (256 * (M.np n)) (List.replicate (256 * (M.np n)) 0), A.vec .u8 ao2 (256 * (M.np n)) (List.replicate (256 * (M.np n)) 0), A.vec .u8 ao7 (256 * (M.np n)) (List.replicate (256 * (M.np n)) 0), A.vec .i64 ao3 (M.np n) (List.replicate (M.np n) 0)]) (r := []) h (by kernel_rfl) (A.pn [0, 5, 2, 4, 1, 3])
    exact ⟨g4, trivial, rfl, o1, a1, A.Has.one ⟨R.Wf.new (M.np_le n) _, _, R.new_f hq⟩, hc, hg⟩
   refine E.C.skip (E.To.code ?_)
   refine E.sr ?_
   refine E.op (.pointer (some ⟨g4, 0, none⟩)) ?_
   refine E.op (.pointer (some ⟨g4, 0, none⟩)) ?_
   refine E.To.code ?_
   refine E.C.ret (E.To.body (fn := Try.f45) [.pointer (some ⟨g4, 0, none⟩)] ?_ ?_)
   · exact ⟨⟨by kernel_rfl, by kernel_rfl⟩, trivial⟩
   intro w h
   obtain rfl : coh = true := by simpa using hc5
   obtain ⟨o1, a1, hq, hc, hg⟩ := A.done (q := [A.blk g4 ([.slice ao1 (256 * (M.np n)) (256 * (M.np n)), .slice none 0 0, .slice ao2 (256 * (M.np n)) (256 * (M.np n)), .slice none 0 0, .slice ao3 (M.np n) (M.np n), .bool true]), A.vec .u8 ao1 (256 * (M.np n)) (List.replicate (256 * (M.np n)) 0), A.vec .u8 ao2 (256 * (M.np n)) (List.replicate (256 * (M.np n)) 0), A.vec .i64 ao3 (M.np n) (List.replicate (M.np n) 0)]) (r := []) h (by kernel_rfl) (A.pn [0, 3, 2, 1])
   exact ⟨g4, trivial, rfl, o1, a1, A.Has.one ⟨R.Wf.new (M.np_le n) _, _, R.new_t hq⟩, hc, hg⟩
  refine A.G.make (e := 3) (kd := .i64) (lk := .i64) (M.np n) 8 (by kernel_rfl) (by kernel_rfl) (by kernel_rfl) (by have := M.np_le n; omega) (by have := M.np_le n; omega) (by kernel_rfl) (fun ao8 => ?_)
  refine E.H.back (fun w h => trivial) ?_
  refine E.al 5 rfl ?_
  refine A.G.make (e := 5) (kd := .u8) (lk := .i64) (256 * (M.np n)) 1 (by kernel_rfl) (by kernel_rfl) (by kernel_rfl) (by have := M.np_le n; omega) (by have := M.np_le n; omega) (by kernel_rfl) (fun ao9 => ?_)
  refine E.H.back (fun w h => trivial) ?_
  refine E.tj 9 (.agg #[.slice ao1 (256 * (M.np n)) (256 * (M.np n)), .slice none 0 0, .slice ao9 (256 * (M.np n)) (256 * (M.np n)), .slice none 0 0, .slice ao8 (M.np n) (M.np n), .bool coh]) rfl (fun w h => trivial) (fun w h => E.run_build #[.slice ao1 (256 * (M.np n)) (256 * (M.np n)), .slice none 0 0, .slice ao9 (256 * (M.np n)) (256 * (M.np n)), .slice none 0 0, .slice ao8 (M.np n) (M.np n), .bool coh] (by kernel_rfl) w) ?_
  refine E.al 10 rfl ?_
  refine E.G.new (fun g => .pointer (some ⟨g, 0, none⟩)) [.slice ao1 (256 * (M.np n)) (256 * (M.np n)), .slice none 0 0, .slice ao9 (256 * (M.np n)) (256 * (M.np n)), .slice none 0 0, .slice ao8 (M.np n) (M.np n), .bool coh] 107 (fun w => by kernel_rfl) (by kernel_rfl) (fun g10 => ?_)
  refine E.H.back (fun w h => trivial) ?_
  refine E.tk 11 (.pointer (some ⟨g10, 0, none⟩)) rfl (fun w h => trivial) ?_
  refine E.H.done (by kernel_rfl) ?_
  refine E.To.code ?_
  refine E.wk [(1, .bool coh), (4, .pointer none), (5, .int .i64 ((M.np n : Nat) : Int)), (6, .pointer (some ⟨g10, 0, none⟩))] [(g10, [.slice ao1 (256 * (M.np n)) (256 * (M.np n)), .slice none 0 0, .slice ao9 (256 * (M.np n)) (256 * (M.np n)), .slice none 0 0, .slice ao8 (M.np n) (M.np n), .bool coh])] (List.Sublist.refl _) ?_
  refine E.C.seq ?_
  refine E.sr ?_
  refine E.op (.bool coh) ?_
  refine E.op (.bool (!coh)) ?_
  refine E.To.code ?_
  refine E.cd (!coh) (fun hc11 => ?_) (fun hc11 => ?_)
  ·
   refine E.sr ?_
   refine E.op (.pointer (some ⟨g10, 0, none⟩)) ?_
   refine E.op (.int .i64 ((M.np n : Nat) : Int)) ?_
   refine E.vl (.int .i64 ((256 * (M.np n) : Nat) : Int)) (fun w h => E.run_as (a := .int .i64 (IntKind.wrap .i64 (256 * ((M.np n : Nat) : Int)))) (by kernel_rfl) (congrArg (Value.int .i64) (by exact Nz.mul64 (x := 256) (y := (M.np n)) (by have := M.np_le n; omega)))) ?_
   refine A.G.make (e := 5) (kd := .u8) (lk := .i64) (256 * (M.np n)) 1 (by kernel_rfl) (by kernel_rfl) (by kernel_rfl) (by have := M.np_le n; omega) (by have := M.np_le n; omega) (by kernel_rfl) (fun ao12 => ?_)
   refine E.op (.pointer (some ⟨g10, 0, none⟩)) ?_
   refine E.op (.pointer (some ⟨g10, 1, none⟩)) ?_
   refine E.st 0 [.slice ao1 (256 * (M.np n)) (256 * (M.np n)), .slice ao12 (256 * (M.np n)) (256 * (M.np n)), .slice ao9 (256 * (M.np n)) (256 * (M.np n)), .slice none 0 0, .slice ao8 (M.np n) (M.np n), .bool coh] rfl rfl ?_
   refine E.To.code ?_
   refine E.wk [(4, .pointer none), (5, .int .i64 ((M.np n : Nat) : Int)), (6, .pointer (some ⟨g10, 0, none⟩))] [(g10, [.slice ao1 (256 * (M.np n)) (256 * (M.np n)), .slice ao12 (256 * (M.np n)) (256 * (M.np n)), .slice ao9 (256 * (M.np n)) (256 * (M.np n)), .slice none 0 0, .slice ao8 (M.np n) (M.np n), .bool coh])] (List.Sublist.refl _) ?_
   refine E.C.region ?_
   refine E.op (.pointer (some ⟨g10, 0, none⟩)) ?_
   refine E.op (.int .i64 ((M.np n : Nat) : Int)) ?_
   refine E.vl (.int .i64 ((256 * (M.np n) : Nat) : Int)) (fun w h => E.run_as (a := .int .i64 (IntKind.wrap .i64 (256 * ((M.np n : Nat) : Int)))) (by kernel_rfl) (congrArg (Value.int .i64) (by exact Nz.mul64 (x := 256) (y := (M.np n)) (by have := M.np_le n; omega)))) ?_
   refine A.G.make (e := 5) (kd := .u8) (lk := .i64) (256 * (M.np n)) 1 (by kernel_rfl) (by kernel_rfl) (by kernel_rfl) (by have := M.np_le n; omega) (by have := M.np_le n; omega) (by kernel_rfl) (fun ao13 => ?_)
   refine E.op (.pointer (some ⟨g10, 0, none⟩)) ?_
   refine E.op (.pointer (some ⟨g10, 3, none⟩)) ?_
   refine E.st 0 [.slice ao1 (256 * (M.np n)) (256 * (M.np n)), .slice ao12 (256 * (M.np n)) (256 * (M.np n)), .slice ao9 (256 * (M.np n)) (256 * (M.np n)), .slice ao13 (256 * (M.np n)) (256 * (M.np n)), .slice ao8 (M.np n) (M.np n), .bool coh] rfl rfl ?_
   refine E.tr ?_
   refine E.op (.pointer (some ⟨g10, 0, none⟩)) ?_
   refine E.op (.pointer (some ⟨g10, 0, none⟩)) ?_
   refine E.To.code ?_
   refine E.wk [(4, .pointer (some ⟨g10, 0, none⟩))] [(g10, [.slice ao1 (256 * (M.np n)) (256 * (M.np n)), .slice ao12 (256 * (M.np n)) (256 * (M.np n)), .slice ao9 (256 * (M.np n)) (256 * (M.np n)), .slice ao13 (256 * (M.np n)) (256 * (M.np n)), .slice ao8 (M.np n) (M.np n), .bool coh])] (List.Sublist.refl _) ?_
   refine E.C.ret (E.To.body (fn := Try.f45) [.pointer (some ⟨g10, 0, none⟩)] ?_ ?_)
   · exact ⟨⟨by kernel_rfl, by kernel_rfl⟩, trivial⟩
   intro w h
   obtain rfl : coh = false := by simpa using hc11
   obtain ⟨o1, a1, hq, hc, hg⟩ := A.done (q := [A.blk g10 ([.slice ao1 (256 * (M.np n)) (256 * (M.np n)), .slice ao12 (256 * (M.np n)) (256 * (M.np n)), .slice ao9 (256 * (M.np n)) (256 * (M.np n)), .slice ao13 (256 * (M.np n)) (256 * (M.np n)), .slice ao8 (M.np n) (M.np n), .bool false]), A.vec .u8 ao1 (256 * (M.np n)) (List.replicate (256 * (M.np n)) 0), A.vec .u8 ao12 (256 * (M.np n)) (List.replicate (256 * (M.np n)) 0), A.vec .u8 ao9 (256 * (M.np n)) (List.replicate (256 * (M.np n)) 0), A.vec .u8 ao13 (256 * (M.np n)) (List.replicate (256 * (M.np n)) 0), A.vec .i64 ao8 (M.np n) (List.replicate (M.np n) 0)]) (r := []) h (by kernel_rfl) (A.pn [0, 5, 2, 3, 1, 4])
   exact ⟨g10, trivial, rfl, o1, a1, A.Has.one ⟨R.Wf.new (M.np_le n) _, _, R.new_f hq⟩, hc, hg⟩
  refine E.C.skip (E.To.code ?_)
  refine E.sr ?_
  refine E.op (.pointer (some ⟨g10, 0, none⟩)) ?_
  refine E.op (.pointer (some ⟨g10, 0, none⟩)) ?_
  refine E.To.code ?_
  refine E.C.ret (E.To.body (fn := Try.f45) [.pointer (some ⟨g10, 0, none⟩)] ?_ ?_)
  · exact ⟨⟨by kernel_rfl, by kernel_rfl⟩, trivial⟩
  intro w h
  obtain rfl : coh = true := by simpa using hc11
  obtain ⟨o1, a1, hq, hc, hg⟩ := A.done (q := [A.blk g10 ([.slice ao1 (256 * (M.np n)) (256 * (M.np n)), .slice none 0 0, .slice ao9 (256 * (M.np n)) (256 * (M.np n)), .slice none 0 0, .slice ao8 (M.np n) (M.np n), .bool true]), A.vec .u8 ao1 (256 * (M.np n)) (List.replicate (256 * (M.np n)) 0), A.vec .u8 ao9 (256 * (M.np n)) (List.replicate (256 * (M.np n)) 0), A.vec .i64 ao8 (M.np n) (List.replicate (M.np n) 0)]) (r := []) h (by kernel_rfl) (A.pn [0, 3, 1, 2])
  exact ⟨g10, trivial, rfl, o1, a1, A.Has.one ⟨R.Wf.new (M.np_le n) _, _, R.new_t hq⟩, hc, hg⟩
 ·
  refine A.G.make (e := 5) (kd := .u8) (lk := .i64) (256 * (M.np n)) 1 (by kernel_rfl) (by kernel_rfl) (by kernel_rfl) (by have := M.np_le n; omega) (by have := M.np_le n; omega) (by kernel_rfl) (fun ao14 => ?_)
  refine E.H.back (fun w h => trivial) ?_
  refine E.H.all [2, 7] (by kernel_rfl) (by simp) (List.forall_mem_cons.2 ⟨⟨_, rfl, ?_⟩, List.forall_mem_cons.2 ⟨⟨_, rfl, ?_⟩, fun _ h => (List.not_mem_nil h).elim⟩⟩)
  ·
   refine A.G.make (e := 5) (kd := .u8) (lk := .i64) (256 * (M.np n)) 1 (by kernel_rfl) (by kernel_rfl) (by kernel_rfl) (by have := M.np_le n; omega) (by have := M.np_le n; omega) (by kernel_rfl) (fun ao15 => ?_)
   refine E.H.back (fun w h => trivial) ?_
   refine E.al 7 rfl ?_
   refine A.G.make (e := 3) (kd := .i64) (lk := .i64) (M.np n) 8 (by kernel_rfl) (by kernel_rfl) (by kernel_rfl) (by have := M.np_le n; omega) (by have := M.np_le n; omega) (by kernel_rfl) (fun ao16 => ?_)
   refine E.H.back (fun w h => trivial) ?_
   refine E.tj 9 (.agg #[.slice ao15 (256 * (M.np n)) (256 * (M.np n)), .slice none 0 0, .slice ao14 (256 * (M.np n)) (256 * (M.np n)), .slice none 0 0, .slice ao16 (M.np n) (M.np n), .bool coh]) rfl (fun w h => trivial) (fun w h => E.run_build #[.slice ao15 (256 * (M.np n)) (256 * (M.np n)), .slice none 0 0, .slice ao14 (256 * (M.np n)) (256 * (M.np n)), .slice none 0 0, .slice ao16 (M.np n) (M.np n), .bool coh] (by kernel_rfl) w) ?_
   refine E.al 10 rfl ?_
   refine E.G.new (fun g => .pointer (some ⟨g, 0, none⟩)) [.slice ao15 (256 * (M.np n)) (256 * (M.np n)), .slice none 0 0, .slice ao14 (256 * (M.np n)) (256 * (M.np n)), .slice none 0 0, .slice ao16 (M.np n) (M.np n), .bool coh] 107 (fun w => by kernel_rfl) (by kernel_rfl) (fun g17 => ?_)
   refine E.H.back (fun w h => trivial) ?_
   refine E.tk 11 (.pointer (some ⟨g17, 0, none⟩)) rfl (fun w h => trivial) ?_
   refine E.H.done (by kernel_rfl) ?_
   refine E.To.code ?_
   refine E.wk [(1, .bool coh), (4, .pointer none), (5, .int .i64 ((M.np n : Nat) : Int)), (6, .pointer (some ⟨g17, 0, none⟩))] [(g17, [.slice ao15 (256 * (M.np n)) (256 * (M.np n)), .slice none 0 0, .slice ao14 (256 * (M.np n)) (256 * (M.np n)), .slice none 0 0, .slice ao16 (M.np n) (M.np n), .bool coh])] (List.Sublist.refl _) ?_
   refine E.C.seq ?_
   refine E.sr ?_
   refine E.op (.bool coh) ?_
   refine E.op (.bool (!coh)) ?_
   refine E.To.code ?_
   refine E.cd (!coh) (fun hc18 => ?_) (fun hc18 => ?_)
   ·
    refine E.sr ?_
    refine E.op (.pointer (some ⟨g17, 0, none⟩)) ?_
    refine E.op (.int .i64 ((M.np n : Nat) : Int)) ?_
    refine E.vl (.int .i64 ((256 * (M.np n) : Nat) : Int)) (fun w h => E.run_as (a := .int .i64 (IntKind.wrap .i64 (256 * ((M.np n : Nat) : Int)))) (by kernel_rfl) (congrArg (Value.int .i64) (by exact Nz.mul64 (x := 256) (y := (M.np n)) (by have := M.np_le n; omega)))) ?_
    refine A.G.make (e := 5) (kd := .u8) (lk := .i64) (256 * (M.np n)) 1 (by kernel_rfl) (by kernel_rfl) (by kernel_rfl) (by have := M.np_le n; omega) (by have := M.np_le n; omega) (by kernel_rfl) (fun ao19 => ?_)
    refine E.op (.pointer (some ⟨g17, 0, none⟩)) ?_
    refine E.op (.pointer (some ⟨g17, 1, none⟩)) ?_
    refine E.st 0 [.slice ao15 (256 * (M.np n)) (256 * (M.np n)), .slice ao19 (256 * (M.np n)) (256 * (M.np n)), .slice ao14 (256 * (M.np n)) (256 * (M.np n)), .slice none 0 0, .slice ao16 (M.np n) (M.np n), .bool coh] rfl rfl ?_
    refine E.To.code ?_
    refine E.wk [(4, .pointer none), (5, .int .i64 ((M.np n : Nat) : Int)), (6, .pointer (some ⟨g17, 0, none⟩))] [(g17, [.slice ao15 (256 * (M.np n)) (256 * (M.np n)), .slice ao19 (256 * (M.np n)) (256 * (M.np n)), .slice ao14 (256 * (M.np n)) (256 * (M.np n)), .slice none 0 0, .slice ao16 (M.np n) (M.np n), .bool coh])] (List.Sublist.refl _) ?_
    refine E.C.region ?_
    refine E.op (.pointer (some ⟨g17, 0, none⟩)) ?_
    refine E.op (.int .i64 ((M.np n : Nat) : Int)) ?_
    refine E.vl (.int .i64 ((256 * (M.np n) : Nat) : Int)) (fun w h => E.run_as (a := .int .i64 (IntKind.wrap .i64 (256 * ((M.np n : Nat) : Int)))) (by kernel_rfl) (congrArg (Value.int .i64) (by exact Nz.mul64 (x := 256) (y := (M.np n)) (by have := M.np_le n; omega)))) ?_
    refine A.G.make (e := 5) (kd := .u8) (lk := .i64) (256 * (M.np n)) 1 (by kernel_rfl) (by kernel_rfl) (by kernel_rfl) (by have := M.np_le n; omega) (by have := M.np_le n; omega) (by kernel_rfl) (fun ao20 => ?_)
    refine E.op (.pointer (some ⟨g17, 0, none⟩)) ?_
    refine E.op (.pointer (some ⟨g17, 3, none⟩)) ?_
    refine E.st 0 [.slice ao15 (256 * (M.np n)) (256 * (M.np n)), .slice ao19 (256 * (M.np n)) (256 * (M.np n)), .slice ao14 (256 * (M.np n)) (256 * (M.np n)), .slice ao20 (256 * (M.np n)) (256 * (M.np n)), .slice ao16 (M.np n) (M.np n), .bool coh] rfl rfl ?_
    refine E.tr ?_
    refine E.op (.pointer (some ⟨g17, 0, none⟩)) ?_
    refine E.op (.pointer (some ⟨g17, 0, none⟩)) ?_
    refine E.To.code ?_
    refine E.wk [(4, .pointer (some ⟨g17, 0, none⟩))] [(g17, [.slice ao15 (256 * (M.np n)) (256 * (M.np n)), .slice ao19 (256 * (M.np n)) (256 * (M.np n)), .slice ao14 (256 * (M.np n)) (256 * (M.np n)), .slice ao20 (256 * (M.np n)) (256 * (M.np n)), .slice ao16 (M.np n) (M.np n), .bool coh])] (List.Sublist.refl _) ?_
    refine E.C.ret (E.To.body (fn := Try.f45) [.pointer (some ⟨g17, 0, none⟩)] ?_ ?_)
    · exact ⟨⟨by kernel_rfl, by kernel_rfl⟩, trivial⟩
    intro w h
    obtain rfl : coh = false := by simpa using hc18
    obtain ⟨o1, a1, hq, hc, hg⟩ := A.done (q := [A.blk g17 ([.slice ao15 (256 * (M.np n)) (256 * (M.np n)), .slice ao19 (256 * (M.np n)) (256 * (M.np n)), .slice ao14 (256 * (M.np n)) (256 * (M.np n)), .slice ao20 (256 * (M.np n)) (256 * (M.np n)), .slice ao16 (M.np n) (M.np n), .bool false]), A.vec .u8 ao15 (256 * (M.np n)) (List.replicate (256 * (M.np n)) 0), A.vec .u8 ao19 (256 * (M.np n)) (List.replicate (256 * (M.np n)) 0), A.vec .u8 ao14 (256 * (M.np n)) (List.replicate (256 * (M.np n)) 0), A.vec .u8 ao20 (256 * (M.np n)) (List.replicate (256 * (M.np n)) 0), A.vec .i64 ao16 (M.np n) (List.replicate (M.np n) 0)]) (r := []) h (by kernel_rfl) (A.pn [0, 4, 2, 5, 1, 3])
    exact ⟨g17, trivial, rfl, o1, a1, A.Has.one ⟨R.Wf.new (M.np_le n) _, _, R.new_f hq⟩, hc, hg⟩
   refine E.C.skip (E.To.code ?_)
   refine E.sr ?_
   refine E.op (.pointer (some ⟨g17, 0, none⟩)) ?_
   refine E.op (.pointer (some ⟨g17, 0, none⟩)) ?_
   refine E.To.code ?_
   refine E.C.ret (E.To.body (fn := Try.f45) [.pointer (some ⟨g17, 0, none⟩)] ?_ ?_)
   · exact ⟨⟨by kernel_rfl, by kernel_rfl⟩, trivial⟩
   intro w h
   obtain rfl : coh = true := by simpa using hc18
   obtain ⟨o1, a1, hq, hc, hg⟩ := A.done (q := [A.blk g17 ([.slice ao15 (256 * (M.np n)) (256 * (M.np n)), .slice none 0 0, .slice ao14 (256 * (M.np n)) (256 * (M.np n)), .slice none 0 0, .slice ao16 (M.np n) (M.np n), .bool true]), A.vec .u8 ao15 (256 * (M.np n)) (List.replicate (256 * (M.np n)) 0), A.vec .u8 ao14 (256 * (M.np n)) (List.replicate (256 * (M.np n)) 0), A.vec .i64 ao16 (M.np n) (List.replicate (M.np n) 0)]) (r := []) h (by kernel_rfl) (A.pn [0, 2, 3, 1])
   exact ⟨g17, trivial, rfl, o1, a1, A.Has.one ⟨R.Wf.new (M.np_le n) _, _, R.new_t hq⟩, hc, hg⟩
  refine A.G.make (e := 3) (kd := .i64) (lk := .i64) (M.np n) 8 (by kernel_rfl) (by kernel_rfl) (by kernel_rfl) (by have := M.np_le n; omega) (by have := M.np_le n; omega) (by kernel_rfl) (fun ao21 => ?_)
  refine E.H.back (fun w h => trivial) ?_
  refine E.al 2 rfl ?_
  refine A.G.make (e := 5) (kd := .u8) (lk := .i64) (256 * (M.np n)) 1 (by kernel_rfl) (by kernel_rfl) (by kernel_rfl) (by have := M.np_le n; omega) (by have := M.np_le n; omega) (by kernel_rfl) (fun ao22 => ?_)
  refine E.H.back (fun w h => trivial) ?_
  refine E.tj 9 (.agg #[.slice ao22 (256 * (M.np n)) (256 * (M.np n)), .slice none 0 0, .slice ao14 (256 * (M.np n)) (256 * (M.np n)), .slice none 0 0, .slice ao21 (M.np n) (M.np n), .bool coh]) rfl (fun w h => trivial) (fun w h => E.run_build #[.slice ao22 (256 * (M.np n)) (256 * (M.np n)), .slice none 0 0, .slice ao14 (256 * (M.np n)) (256 * (M.np n)), .slice none 0 0, .slice ao21 (M.np n) (M.np n), .bool coh] (by kernel_rfl) w) ?_
  refine E.al 10 rfl ?_
  refine E.G.new (fun g => .pointer (some ⟨g, 0, none⟩)) [.slice ao22 (256 * (M.np n)) (256 * (M.np n)), .slice none 0 0, .slice ao14 (256 * (M.np n)) (256 * (M.np n)), .slice none 0 0, .slice ao21 (M.np n) (M.np n), .bool coh] 107 (fun w => by kernel_rfl) (by kernel_rfl) (fun g23 => ?_)
  refine E.H.back (fun w h => trivial) ?_
  refine E.tk 11 (.pointer (some ⟨g23, 0, none⟩)) rfl (fun w h => trivial) ?_
  refine E.H.done (by kernel_rfl) ?_
  refine E.To.code ?_
  refine E.wk [(1, .bool coh), (4, .pointer none), (5, .int .i64 ((M.np n : Nat) : Int)), (6, .pointer (some ⟨g23, 0, none⟩))] [(g23, [.slice ao22 (256 * (M.np n)) (256 * (M.np n)), .slice none 0 0, .slice ao14 (256 * (M.np n)) (256 * (M.np n)), .slice none 0 0, .slice ao21 (M.np n) (M.np n), .bool coh])] (List.Sublist.refl _) ?_
  refine E.C.seq ?_
  refine E.sr ?_
  refine E.op (.bool coh) ?_
  refine E.op (.bool (!coh)) ?_
  refine E.To.code ?_
  refine E.cd (!coh) (fun hc24 => ?_) (fun hc24 => ?_)
  ·
   refine E.sr ?_
   refine E.op (.pointer (some ⟨g23, 0, none⟩)) ?_
   refine E.op (.int .i64 ((M.np n : Nat) : Int)) ?_
   refine E.vl (.int .i64 ((256 * (M.np n) : Nat) : Int)) (fun w h => E.run_as (a := .int .i64 (IntKind.wrap .i64 (256 * ((M.np n : Nat) : Int)))) (by kernel_rfl) (congrArg (Value.int .i64) (by exact Nz.mul64 (x := 256) (y := (M.np n)) (by have := M.np_le n; omega)))) ?_
   refine A.G.make (e := 5) (kd := .u8) (lk := .i64) (256 * (M.np n)) 1 (by kernel_rfl) (by kernel_rfl) (by kernel_rfl) (by have := M.np_le n; omega) (by have := M.np_le n; omega) (by kernel_rfl) (fun ao25 => ?_)
   refine E.op (.pointer (some ⟨g23, 0, none⟩)) ?_
   refine E.op (.pointer (some ⟨g23, 1, none⟩)) ?_
   refine E.st 0 [.slice ao22 (256 * (M.np n)) (256 * (M.np n)), .slice ao25 (256 * (M.np n)) (256 * (M.np n)), .slice ao14 (256 * (M.np n)) (256 * (M.np n)), .slice none 0 0, .slice ao21 (M.np n) (M.np n), .bool coh] rfl rfl ?_
   refine E.To.code ?_
   refine E.wk [(4, .pointer none), (5, .int .i64 ((M.np n : Nat) : Int)), (6, .pointer (some ⟨g23, 0, none⟩))] [(g23, [.slice ao22 (256 * (M.np n)) (256 * (M.np n)), .slice ao25 (256 * (M.np n)) (256 * (M.np n)), .slice ao14 (256 * (M.np n)) (256 * (M.np n)), .slice none 0 0, .slice ao21 (M.np n) (M.np n), .bool coh])] (List.Sublist.refl _) ?_
   refine E.C.region ?_
   refine E.op (.pointer (some ⟨g23, 0, none⟩)) ?_
   refine E.op (.int .i64 ((M.np n : Nat) : Int)) ?_
   refine E.vl (.int .i64 ((256 * (M.np n) : Nat) : Int)) (fun w h => E.run_as (a := .int .i64 (IntKind.wrap .i64 (256 * ((M.np n : Nat) : Int)))) (by kernel_rfl) (congrArg (Value.int .i64) (by exact Nz.mul64 (x := 256) (y := (M.np n)) (by have := M.np_le n; omega)))) ?_
   refine A.G.make (e := 5) (kd := .u8) (lk := .i64) (256 * (M.np n)) 1 (by kernel_rfl) (by kernel_rfl) (by kernel_rfl) (by have := M.np_le n; omega) (by have := M.np_le n; omega) (by kernel_rfl) (fun ao26 => ?_)
   refine E.op (.pointer (some ⟨g23, 0, none⟩)) ?_
   refine E.op (.pointer (some ⟨g23, 3, none⟩)) ?_
   refine E.st 0 [.slice ao22 (256 * (M.np n)) (256 * (M.np n)), .slice ao25 (256 * (M.np n)) (256 * (M.np n)), .slice ao14 (256 * (M.np n)) (256 * (M.np n)), .slice ao26 (256 * (M.np n)) (256 * (M.np n)), .slice ao21 (M.np n) (M.np n), .bool coh] rfl rfl ?_
   refine E.tr ?_
   refine E.op (.pointer (some ⟨g23, 0, none⟩)) ?_
   refine E.op (.pointer (some ⟨g23, 0, none⟩)) ?_
   refine E.To.code ?_
   refine E.wk [(4, .pointer (some ⟨g23, 0, none⟩))] [(g23, [.slice ao22 (256 * (M.np n)) (256 * (M.np n)), .slice ao25 (256 * (M.np n)) (256 * (M.np n)), .slice ao14 (256 * (M.np n)) (256 * (M.np n)), .slice ao26 (256 * (M.np n)) (256 * (M.np n)), .slice ao21 (M.np n) (M.np n), .bool coh])] (List.Sublist.refl _) ?_
   refine E.C.ret (E.To.body (fn := Try.f45) [.pointer (some ⟨g23, 0, none⟩)] ?_ ?_)
   · exact ⟨⟨by kernel_rfl, by kernel_rfl⟩, trivial⟩
   intro w h
   obtain rfl : coh = false := by simpa using hc24
   obtain ⟨o1, a1, hq, hc, hg⟩ := A.done (q := [A.blk g23 ([.slice ao22 (256 * (M.np n)) (256 * (M.np n)), .slice ao25 (256 * (M.np n)) (256 * (M.np n)), .slice ao14 (256 * (M.np n)) (256 * (M.np n)), .slice ao26 (256 * (M.np n)) (256 * (M.np n)), .slice ao21 (M.np n) (M.np n), .bool false]), A.vec .u8 ao22 (256 * (M.np n)) (List.replicate (256 * (M.np n)) 0), A.vec .u8 ao25 (256 * (M.np n)) (List.replicate (256 * (M.np n)) 0), A.vec .u8 ao14 (256 * (M.np n)) (List.replicate (256 * (M.np n)) 0), A.vec .u8 ao26 (256 * (M.np n)) (List.replicate (256 * (M.np n)) 0), A.vec .i64 ao21 (M.np n) (List.replicate (M.np n) 0)]) (r := []) h (by kernel_rfl) (A.pn [0, 3, 2, 5, 1, 4])
   exact ⟨g23, trivial, rfl, o1, a1, A.Has.one ⟨R.Wf.new (M.np_le n) _, _, R.new_f hq⟩, hc, hg⟩
  refine E.C.skip (E.To.code ?_)
  refine E.sr ?_
  refine E.op (.pointer (some ⟨g23, 0, none⟩)) ?_
  refine E.op (.pointer (some ⟨g23, 0, none⟩)) ?_
  refine E.To.code ?_
  refine E.C.ret (E.To.body (fn := Try.f45) [.pointer (some ⟨g23, 0, none⟩)] ?_ ?_)
  · exact ⟨⟨by kernel_rfl, by kernel_rfl⟩, trivial⟩
  intro w h
  obtain rfl : coh = true := by simpa using hc24
  obtain ⟨o1, a1, hq, hc, hg⟩ := A.done (q := [A.blk g23 ([.slice ao22 (256 * (M.np n)) (256 * (M.np n)), .slice none 0 0, .slice ao14 (256 * (M.np n)) (256 * (M.np n)), .slice none 0 0, .slice ao21 (M.np n) (M.np n), .bool true]), A.vec .u8 ao22 (256 * (M.np n)) (List.replicate (256 * (M.np n)) 0), A.vec .u8 ao14 (256 * (M.np n)) (List.replicate (256 * (M.np n)) 0), A.vec .i64 ao21 (M.np n) (List.replicate (M.np n) 0)]) (r := []) h (by kernel_rfl) (A.pn [0, 1, 3, 2])
  exact ⟨g23, trivial, rfl, o1, a1, A.Has.one ⟨R.Wf.new (M.np_le n) _, _, R.new_t hq⟩, hc, hg⟩
 refine A.G.make (e := 3) (kd := .i64) (lk := .i64) (M.np n) 8 (by kernel_rfl) (by kernel_rfl) (by kernel_rfl) (by have := M.np_le n; omega) (by have := M.np_le n; omega) (by kernel_rfl) (fun ao27 => ?_)
 refine E.H.back (fun w h => trivial) ?_
 refine E.H.all [2, 5] (by kernel_rfl) (by simp) (List.forall_mem_cons.2 ⟨⟨_, rfl, ?_⟩, List.forall_mem_cons.2 ⟨⟨_, rfl, ?_⟩, fun _ h => (List.not_mem_nil h).elim⟩⟩)
 ·
  refine A.G.make (e := 5) (kd := .u8) (lk := .i64) (256 * (M.np n)) 1 (by kernel_rfl) (by kernel_rfl) (by kernel_rfl) (by have := M.np_le n; omega) (by have := M.np_le n; omega) (by kernel_rfl) (fun ao28 => ?_)
  refine E.H.back (fun w h => trivial) ?_
  refine E.al 5 rfl ?_
  refine A.G.make (e := 5) (kd := .u8) (lk := .i64) (256 * (M.np n)) 1 (by kernel_rfl) (by kernel_rfl) (by kernel_rfl) (by have := M.np_le n; omega) (by have := M.np_le n; omega) (by kernel_rfl) (fun ao29 => ?_)
  refine E.H.back (fun w h => trivial) ?_
  refine E.tj 9 (.agg #[.slice ao28 (256 * (M.np n)) (256 * (M.np n)), .slice none 0 0, .slice ao29 (256 * (M.np n)) (256 * (M.np n)), .slice none 0 0, .slice ao27 (M.np n) (M.np n), .bool coh]) rfl (fun w h => trivial) (fun w h => E.run_build #[.slice ao28 (256 * (M.np n)) (256 * (M.np n)), .slice none 0 0, .slice ao29 (256 * (M.np n)) (256 * (M.np n)), .slice none 0 0, .slice ao27 (M.np n) (M.np n), .bool coh] (by kernel_rfl) w) ?_
  refine E.al 10 rfl ?_
  refine E.G.new (fun g => .pointer (some ⟨g, 0, none⟩)) [.slice ao28 (256 * (M.np n)) (256 * (M.np n)), .slice none 0 0, .slice ao29 (256 * (M.np n)) (256 * (M.np n)), .slice none 0 0, .slice ao27 (M.np n) (M.np n), .bool coh] 107 (fun w => by kernel_rfl) (by kernel_rfl) (fun g30 => ?_)
  refine E.H.back (fun w h => trivial) ?_
  refine E.tk 11 (.pointer (some ⟨g30, 0, none⟩)) rfl (fun w h => trivial) ?_
  refine E.H.done (by kernel_rfl) ?_
  refine E.To.code ?_
  refine E.wk [(1, .bool coh), (4, .pointer none), (5, .int .i64 ((M.np n : Nat) : Int)), (6, .pointer (some ⟨g30, 0, none⟩))] [(g30, [.slice ao28 (256 * (M.np n)) (256 * (M.np n)), .slice none 0 0, .slice ao29 (256 * (M.np n)) (256 * (M.np n)), .slice none 0 0, .slice ao27 (M.np n) (M.np n), .bool coh])] (List.Sublist.refl _) ?_
  refine E.C.seq ?_
  refine E.sr ?_
  refine E.op (.bool coh) ?_
  refine E.op (.bool (!coh)) ?_
  refine E.To.code ?_
  refine E.cd (!coh) (fun hc31 => ?_) (fun hc31 => ?_)
  ·
   refine E.sr ?_
   refine E.op (.pointer (some ⟨g30, 0, none⟩)) ?_
   refine E.op (.int .i64 ((M.np n : Nat) : Int)) ?_
   refine E.vl (.int .i64 ((256 * (M.np n) : Nat) : Int)) (fun w h => E.run_as (a := .int .i64 (IntKind.wrap .i64 (256 * ((M.np n : Nat) : Int)))) (by kernel_rfl) (congrArg (Value.int .i64) (by exact Nz.mul64 (x := 256) (y := (M.np n)) (by have := M.np_le n; omega)))) ?_
   refine A.G.make (e := 5) (kd := .u8) (lk := .i64) (256 * (M.np n)) 1 (by kernel_rfl) (by kernel_rfl) (by kernel_rfl) (by have := M.np_le n; omega) (by have := M.np_le n; omega) (by kernel_rfl) (fun ao32 => ?_)
   refine E.op (.pointer (some ⟨g30, 0, none⟩)) ?_
   refine E.op (.pointer (some ⟨g30, 1, none⟩)) ?_
   refine E.st 0 [.slice ao28 (256 * (M.np n)) (256 * (M.np n)), .slice ao32 (256 * (M.np n)) (256 * (M.np n)), .slice ao29 (256 * (M.np n)) (256 * (M.np n)), .slice none 0 0, .slice ao27 (M.np n) (M.np n), .bool coh] rfl rfl ?_
   refine E.To.code ?_
   refine E.wk [(4, .pointer none), (5, .int .i64 ((M.np n : Nat) : Int)), (6, .pointer (some ⟨g30, 0, none⟩))] [(g30, [.slice ao28 (256 * (M.np n)) (256 * (M.np n)), .slice ao32 (256 * (M.np n)) (256 * (M.np n)), .slice ao29 (256 * (M.np n)) (256 * (M.np n)), .slice none 0 0, .slice ao27 (M.np n) (M.np n), .bool coh])] (List.Sublist.refl _) ?_
   refine E.C.region ?_
   refine E.op (.pointer (some ⟨g30, 0, none⟩)) ?_
   refine E.op (.int .i64 ((M.np n : Nat) : Int)) ?_
   refine E.vl (.int .i64 ((256 * (M.np n) : Nat) : Int)) (fun w h => E.run_as (a := .int .i64 (IntKind.wrap .i64 (256 * ((M.np n : Nat) : Int)))) (by kernel_rfl) (congrArg (Value.int .i64) (by exact Nz.mul64 (x := 256) (y := (M.np n)) (by have := M.np_le n; omega)))) ?_
   refine A.G.make (e := 5) (kd := .u8) (lk := .i64) (256 * (M.np n)) 1 (by kernel_rfl) (by kernel_rfl) (by kernel_rfl) (by have := M.np_le n; omega) (by have := M.np_le n; omega) (by kernel_rfl) (fun ao33 => ?_)
   refine E.op (.pointer (some ⟨g30, 0, none⟩)) ?_
   refine E.op (.pointer (some ⟨g30, 3, none⟩)) ?_
   refine E.st 0 [.slice ao28 (256 * (M.np n)) (256 * (M.np n)), .slice ao32 (256 * (M.np n)) (256 * (M.np n)), .slice ao29 (256 * (M.np n)) (256 * (M.np n)), .slice ao33 (256 * (M.np n)) (256 * (M.np n)), .slice ao27 (M.np n) (M.np n), .bool coh] rfl rfl ?_
   refine E.tr ?_
   refine E.op (.pointer (some ⟨g30, 0, none⟩)) ?_
   refine E.op (.pointer (some ⟨g30, 0, none⟩)) ?_
   refine E.To.code ?_
   refine E.wk [(4, .pointer (some ⟨g30, 0, none⟩))] [(g30, [.slice ao28 (256 * (M.np n)) (256 * (M.np n)), .slice ao32 (256 * (M.np n)) (256 * (M.np n)), .slice ao29 (256 * (M.np n)) (256 * (M.np n)), .slice ao33 (256 * (M.np n)) (256 * (M.np n)), .slice ao27 (M.np n) (M.np n), .bool coh])] (List.Sublist.refl _) ?_
   refine E.C.ret (E.To.body (fn := Try.f45) [.pointer (some ⟨g30, 0, none⟩)] ?_ ?_)
   · exact ⟨⟨by kernel_rfl, by kernel_rfl⟩, trivial⟩
   intro w h
   obtain rfl : coh = false := by simpa using hc31
   obtain ⟨o1, a1, hq, hc, hg⟩ := A.done (q := [A.blk g30 ([.slice ao28 (256 * (M.np n)) (256 * (M.np n)), .slice ao32 (256 * (M.np n)) (256 * (M.np n)), .slice ao29 (256 * (M.np n)) (256 * (M.np n)), .slice ao33 (256 * (M.np n)) (256 * (M.np n)), .slice ao27 (M.np n) (M.np n), .bool false]), A.vec .u8 ao28 (256 * (M.np n)) (List.replicate (256 * (M.np n)) 0), A.vec .u8 ao32 (256 * (M.np n)) (List.replicate (256 * (M.np n)) 0), A.vec .u8 ao29 (256 * (M.np n)) (List.replicate (256 * (M.np n)) 0), A.vec .u8 ao33 (256 * (M.np n)) (List.replicate (256 * (M.np n)) 0), A.vec .i64 ao27 (M.np n) (List.replicate (M.np n) 0)]) (r := []) h (by kernel_rfl) (A.pn [0, 4, 2, 3, 1, 5])
   exact ⟨g30, trivial, rfl, o1, a1, A.Has.one ⟨R.Wf.new (M.np_le n) _, _, R.new_f hq⟩, hc, hg⟩
  refine E.C.skip (E.To.code ?_)
  refine E.sr ?_
  refine E.op (.pointer (some ⟨g30, 0, none⟩)) ?_
  refine E.op (.pointer (some ⟨g30, 0, none⟩)) ?_
  refine E.To.code ?_
  refine E.C.ret (E.To.body (fn := Try.f45) [.pointer (some ⟨g30, 0, none⟩)] ?_ ?_)
  · exact ⟨⟨by kernel_rfl, by kernel_rfl⟩, trivial⟩
  intro w h
  obtain rfl : coh = true := by simpa using hc31
  obtain ⟨o1, a1, hq, hc, hg⟩ := A.done (q := [A.blk g30 ([.slice ao28 (256 * (M.np n)) (256 * (M.np n)), .slice none 0 0, .slice ao29 (256 * (M.np n)) (256 * (M.np n)), .slice none 0 0, .slice ao27 (M.np n) (M.np n), .bool true]), A.vec .u8 ao28 (256 * (M.np n)) (List.replicate (256 * (M.np n)) 0), A.vec .u8 ao29 (256 * (M.np n)) (List.replicate (256 * (M.np n)) 0), A.vec .i64 ao27 (M.np n) (List.replicate (M.np n) 0)]) (r := []) h (by kernel_rfl) (A.pn [0, 2, 1, 3])
  exact ⟨g30, trivial, rfl, o1, a1, A.Has.one ⟨R.Wf.new (M.np_le n) _, _, R.new_t hq⟩, hc, hg⟩
 refine A.G.make (e := 5) (kd := .u8) (lk := .i64) (256 * (M.np n)) 1 (by kernel_rfl) (by kernel_rfl) (by kernel_rfl) (by have := M.np_le n; omega) (by have := M.np_le n; omega) (by kernel_rfl) (fun ao34 => ?_)
 refine E.H.back (fun w h => trivial) ?_
 refine E.al 2 rfl ?_
 refine A.G.make (e := 5) (kd := .u8) (lk := .i64) (256 * (M.np n)) 1 (by kernel_rfl) (by kernel_rfl) (by kernel_rfl) (by have := M.np_le n; omega) (by have := M.np_le n; omega) (by kernel_rfl) (fun ao35 => ?_)
 refine E.H.back (fun w h => trivial) ?_
 refine E.tj 9 (.agg #[.slice ao35 (256 * (M.np n)) (256 * (M.np n)), .slice none 0 0, .slice ao34 (256 * (M.np n)) (256 * (M.np n)), .slice none 0 0, .slice ao27 (M.np n) (M.np n), .bool coh]) rfl (fun w h => trivial) (fun w h => E.run_build #[.slice ao35 (256 * (M.np n)) (256 * (M.np n)), .slice none 0 0, .slice ao34 (256 * (M.np n)) (256 * (M.np n)), .slice none 0 0, .slice ao27 (M.np n) (M.np n), .bool coh] (by kernel_rfl) w) ?_
 refine E.al 10 rfl ?_
 refine E.G.new (fun g => .pointer (some ⟨g, 0, none⟩)) [.slice ao35 (256 * (M.np n)) (256 * (M.np n)), .slice none 0 0, .slice ao34 (256 * (M.np n)) (256 * (M.np n)), .slice none 0 0, .slice ao27 (M.np n) (M.np n), .bool coh] 107 (fun w => by kernel_rfl) (by kernel_rfl) (fun g36 => ?_)
 refine E.H.back (fun w h => trivial) ?_
 refine E.tk 11 (.pointer (some ⟨g36, 0, none⟩)) rfl (fun w h => trivial) ?_
 refine E.H.done (by kernel_rfl) ?_
 refine E.To.code ?_
 refine E.wk [(1, .bool coh), (4, .pointer none), (5, .int .i64 ((M.np n : Nat) : Int)), (6, .pointer (some ⟨g36, 0, none⟩))] [(g36, [.slice ao35 (256 * (M.np n)) (256 * (M.np n)), .slice none 0 0, .slice ao34 (256 * (M.np n)) (256 * (M.np n)), .slice none 0 0, .slice ao27 (M.np n) (M.np n), .bool coh])] (List.Sublist.refl _) ?_
 refine E.C.seq ?_
 refine E.sr ?_
 refine E.op (.bool coh) ?_
 refine E.op (.bool (!coh)) ?_
 refine E.To.code ?_
 refine E.cd (!coh) (fun hc37 => ?_) (fun hc37 => ?_)
 ·
  refine E.sr ?_
  refine E.op (.pointer (some ⟨g36, 0, none⟩)) ?_
  refine E.op (.int .i64 ((M.np n : Nat) : Int)) ?_
  refine E.vl (.int .i64 ((256 * (M.np n) : Nat) : Int)) (fun w h => E.run_as (a := .int .i64 (IntKind.wrap .i64 (256 * ((M.np n : Nat) : Int)))) (by kernel_rfl) (congrArg (Value.int .i64) (by exact Nz.mul64 (x := 256) (y := (M.np n)) (by have := M.np_le n; omega)))) ?_
  refine A.G.make (e := 5) (kd := .u8) (lk := .i64) (256 * (M.np n)) 1 (by kernel_rfl) (by kernel_rfl) (by kernel_rfl) (by have := M.np_le n; omega) (by have := M.np_le n; omega) (by kernel_rfl) (fun ao38 => ?_)
  refine E.op (.pointer (some ⟨g36, 0, none⟩)) ?_
  refine E.op (.pointer (some ⟨g36, 1, none⟩)) ?_
  refine E.st 0 [.slice ao35 (256 * (M.np n)) (256 * (M.np n)), .slice ao38 (256 * (M.np n)) (256 * (M.np n)), .slice ao34 (256 * (M.np n)) (256 * (M.np n)), .slice none 0 0, .slice ao27 (M.np n) (M.np n), .bool coh] rfl rfl ?_
  refine E.To.code ?_
  refine E.wk [(4, .pointer none), (5, .int .i64 ((M.np n : Nat) : Int)), (6, .pointer (some ⟨g36, 0, none⟩))] [(g36, [.slice ao35 (256 * (M.np n)) (256 * (M.np n)), .slice ao38 (256 * (M.np n)) (256 * (M.np n)), .slice ao34 (256 * (M.np n)) (256 * (M.np n)), .slice none 0 0, .slice ao27 (M.np n) (M.np n), .bool coh])] (List.Sublist.refl _) ?_
  refine E.C.region ?_
  refine E.op (.pointer (some ⟨g36, 0, none⟩)) ?_
  refine E.op (.int .i64 ((M.np n : Nat) : Int)) ?_
  refine E.vl (.int .i64 ((256 * (M.np n) : Nat) : Int)) (fun w h => E.run_as (a := .int .i64 (IntKind.wrap .i64 (256 * ((M.np n : Nat) : Int)))) (by kernel_rfl) (congrArg (Value.int .i64) (by exact Nz.mul64 (x := 256) (y := (M.np n)) (by have := M.np_le n; omega)))) ?_
  refine A.G.make (e := 5) (kd := .u8) (lk := .i64) (256 * (M.np n)) 1 (by kernel_rfl) (by kernel_rfl) (by kernel_rfl) (by have := M.np_le n; omega) (by have := M.np_le n; omega) (by kernel_rfl) (fun ao39 => ?_)
  refine E.op (.pointer (some ⟨g36, 0, none⟩)) ?_
  refine E.op (.pointer (some ⟨g36, 3, none⟩)) ?_
  refine E.st 0 [.slice ao35 (256 * (M.np n)) (256 * (M.np n)), .slice ao38 (256 * (M.np n)) (256 * (M.np n)), .slice ao34 (256 * (M.np n)) (256 * (M.np n)), .slice ao39 (256 * (M.np n)) (256 * (M.np n)), .slice ao27 (M.np n) (M.np n), .bool coh] rfl rfl ?_
  refine E.tr ?_
  refine E.op (.pointer (some ⟨g36, 0, none⟩)) ?_
  refine E.op (.pointer (some ⟨g36, 0, none⟩)) ?_
  refine E.To.code ?_
  refine E.wk [(4, .pointer (some ⟨g36, 0, none⟩))] [(g36, [.slice ao35 (256 * (M.np n)) (256 * (M.np n)), .slice ao38 (256 * (M.np n)) (256 * (M.np n)), .slice ao34 (256 * (M.np n)) (256 * (M.np n)), .slice ao39 (256 * (M.np n)) (256 * (M.np n)), .slice ao27 (M.np n) (M.np n), .bool coh])] (List.Sublist.refl _) ?_
  refine E.C.ret (E.To.body (fn := Try.f45) [.pointer (some ⟨g36, 0, none⟩)] ?_ ?_)
  · exact ⟨⟨by kernel_rfl, by kernel_rfl⟩, trivial⟩
  intro w h
  obtain rfl : coh = false := by simpa using hc37
  obtain ⟨o1, a1, hq, hc, hg⟩ := A.done (q := [A.blk g36 ([.slice ao35 (256 * (M.np n)) (256 * (M.np n)), .slice ao38 (256 * (M.np n)) (256 * (M.np n)), .slice ao34 (256 * (M.np n)) (256 * (M.np n)), .slice ao39 (256 * (M.np n)) (256 * (M.np n)), .slice ao27 (M.np n) (M.np n), .bool false]), A.vec .u8 ao35 (256 * (M.np n)) (List.replicate (256 * (M.np n)) 0), A.vec .u8 ao38 (256 * (M.np n)) (List.replicate (256 * (M.np n)) 0), A.vec .u8 ao34 (256 * (M.np n)) (List.replicate (256 * (M.np n)) 0), A.vec .u8 ao39 (256 * (M.np n)) (List.replicate (256 * (M.np n)) 0), A.vec .i64 ao27 (M.np n) (List.replicate (M.np n) 0)]) (r := []) h (by kernel_rfl) (A.pn [0, 3, 2, 4, 1, 5])
  exact ⟨g36, trivial, rfl, o1, a1, A.Has.one ⟨R.Wf.new (M.np_le n) _, _, R.new_f hq⟩, hc, hg⟩
 refine E.C.skip (E.To.code ?_)
 refine E.sr ?_
 refine E.op (.pointer (some ⟨g36, 0, none⟩)) ?_
 refine E.op (.pointer (some ⟨g36, 0, none⟩)) ?_
 refine E.To.code ?_
 refine E.C.ret (E.To.body (fn := Try.f45) [.pointer (some ⟨g36, 0, none⟩)] ?_ ?_)
 · exact ⟨⟨by kernel_rfl, by kernel_rfl⟩, trivial⟩
 intro w h
 obtain rfl : coh = true := by simpa using hc37
 obtain ⟨o1, a1, hq, hc, hg⟩ := A.done (q := [A.blk g36 ([.slice ao35 (256 * (M.np n)) (256 * (M.np n)), .slice none 0 0, .slice ao34 (256 * (M.np n)) (256 * (M.np n)), .slice none 0 0, .slice ao27 (M.np n) (M.np n), .bool true]), A.vec .u8 ao35 (256 * (M.np n)) (List.replicate (256 * (M.np n)) 0), A.vec .u8 ao34 (256 * (M.np n)) (List.replicate (256 * (M.np n)) 0), A.vec .i64 ao27 (M.np n) (List.replicate (M.np n) 0)]) (r := []) h (by kernel_rfl) (A.pn [0, 1, 2, 3])
 exact ⟨g36, trivial, rfl, o1, a1, A.Has.one ⟨R.Wf.new (M.np_le n) _, _, R.new_t hq⟩, hc, hg⟩
end Go.Proofs.Ytgbndbljohpnmaa

/- XNf -/
namespace Go.Proofs.Ytgbndbljohpnmaa
set_option linter.unusedVariables false
set_option linter.unusedSimpArgs false
open Go.RowKit
theorem B_Pages {r : Nat} {V : M.V}  : A.Rd Try.prog 57 #[.pointer (some ⟨r, 0, none⟩)] [R.It r V] (.int .i64 ((V.n : Nat) : Int)) := R.rd fun hw s => R_Pages
theorem B_Peek {r : Nat} {V : M.V} (a : Nat) (ha : a < 4294967296) : A.Rd Try.prog 37 #[.pointer (some ⟨r, 0, none⟩), .int .u32 ((a : Nat) : Int)] [R.It r V] (.int .u8 (V.peek a)) := R.rd fun hw s => R_Peek a ha
theorem B_Code {r : Nat} {V : M.V} (a : Nat) (ha : a < 4294967296) : A.Rd Try.prog 39 #[.pointer (some ⟨r, 0, none⟩), .int .u32 ((a : Nat) : Int)] [R.It r V] (.int .u8 (V.code a)) := R.rd fun hw s => R_Code hw a ha
theorem B_RightsOf {r : Nat} {V : M.V} (n : Int) : A.Rd Try.prog 41 #[.pointer (some ⟨r, 0, none⟩), .int .i64 n] [R.It r V] (.int .i64 (V.rt n)) := R.rd fun hw s => R_RightsOf n
theorem B_Sync {r : Nat} {V : M.V} (a : Nat) (ha : a < 4294967296) : A.Tr Try.prog 34 #[.pointer (some ⟨r, 0, none⟩), .int .u32 ((a : Nat) : Int)] [R.It r V] (I := Unit) (fun _ => True) (fun _ => .bool (decide (a / 256 < V.n))) (fun _ => [R.It r (V.sync (a / 256))]) := R.wr (fun hw s => R_Sync a ha) (fun hw => hw.sync _)
theorem B_Poke {r : Nat} {V : M.V} (a : Nat) (ha : a < 4294967296) (b : ByteArray) (hb : b.size < 4294967296) : A.Tr Try.prog 31 #[.pointer (some ⟨r, 0, none⟩), .int .u32 ((a : Nat) : Int), .string b] [R.It r V] (I := Unit) (fun _ => True) (fun _ => .tuple #[]) (fun _ => [R.It r (V.poke a b b.size)]) := R.wr (fun hw s => R_Poke a ha b hb) (fun hw => hw.poke _ _ _)
theorem B_SetCode {r : Nat} {V : M.V} (n : Int) (b : ByteArray) : A.Tr Try.prog 33 #[.pointer (some ⟨r, 0, none⟩), .int .i64 n, .string b] [R.It r V] (I := Unit) (fun _ => True) (fun _ => .tuple #[]) (fun _ => [R.It r (V.setc n b)]) := R.wr (fun hw s => R_SetCode hw n b) (fun hw => hw.setc _ _)
theorem B_Protect {r : Nat} {V : M.V} (n x : Int) : A.Tr Try.prog 36 #[.pointer (some ⟨r, 0, none⟩), .int .i64 n, .int .i64 x] [R.It r V] (I := Unit) (fun _ => True) (fun _ => .tuple #[]) (fun _ => [R.It r (V.prot n x)]) := R.wr (fun hw s => R_Protect n x) (fun hw => hw.prot _ _)
/-- What is known of cells that nobody owns. -/
def A.facts (F : Addr → Value → Prop) : A.It where
  t w o a := (∀ ad v, F ad v → w.cell? ad = some v) ∧ (∀ x, ¬ o x) ∧ ∀ x, a x ↔ ∃ ad v, F ad v ∧ ad.block = x
  sub := fun h x hx => (h.2.1 x hx).elim
  lt := fun h x hx => by
    obtain ⟨ad, v, hf, rfl⟩ := (h.2.2 x).1 hx
    exact M.cell_lt (h.1 ad v hf)
  keep := fun {w w' o a} h hk => ⟨fun ad v hf => by
    have hc := h.1 ad v hf
    have hb := hk ad.block ((h.2.2 _).2 ⟨ad, v, hf, rfl⟩)
    rw [World.cell?] at hc ⊢; rw [hb]; exact hc, h.2⟩
  apart := fun {w w2 o a o2 a2 x} h h2 _ hz hx => by
    obtain ⟨ad, v, hf, rfl⟩ := (h.2.2 x).1 hx
    have hc := h2.1 ad v hf
    cases hs : ad.spot with
    | none =>
      have e : ad = ⟨ad.block, ad.off, none⟩ := by cases ad; simp at hs ⊢; exact hs
      rw [e, hz] at hc; cases hc
    | some sp =>
      rw [World.cell?] at hc
      split at hc
      · simp [hs] at hc
      · cases hc
theorem A.facts_has {F : Addr → Value → Prop} {w : World} (h : ∀ ad v, F ad v → w.cell? ad = some v) : A.Has [A.facts F] w (fun _ => False) (fun x => ∃ ad v, F ad v ∧ ad.block = x) :=
  ⟨_, _, fun _ => False, fun _ => False, ⟨h, fun _ h => h, fun _ => Iff.rfl⟩, ⟨fun _ h => h, fun _ h => h⟩, fun _ h => h.elim, fun _ h => h.elim, fun x => by simp, fun x => by simp⟩
theorem A.hpY {w0 w : World} {o0 a0 : Nat → Prop} {its p r : List A.It} {L : List (Nat × List Value)} (h : E.Hp o0 w0 (A.X w0 o0 a0 its) L w) (hne : A.ne L = true) (h1 : (A.bl L ++ its).Perm (p ++ r)) : A.Y p w := by
  obtain ⟨o, a, hh, _⟩ := A.hp_has hne h
  exact A.Y.part ⟨o, a, hh⟩ h1
theorem A.Y.fact {w : World} {its : List A.It} {F : Addr → Value → Prop} {k : Nat} (h : A.Y its w) (hk : its[k]? = some (A.facts F)) {ad : Addr} {v : Value} (hf : F ad v) : w.cell? ad = some v := by
  obtain ⟨o1, a1, hv⟩ := h.get hk
  exact hv.1 ad v hf
end Go.Proofs.Ytgbndbljohpnmaa

/- XQae -/
namespace Go.Proofs.Ytgbndbljohpnmaa
set_option linter.unusedVariables false
set_option linter.unusedSimpArgs false
open Go.RowKit
/-- The cells of a slice of rows of K integers. -/
def M.rowF (K : Nat) (ad : Addr) (n : Nat) (q : Nat → Nat → Int) : Addr → Value → Prop := fun a v => ∃ i j, i < n ∧ j < K ∧ a = (ad.add (i * K)).add j ∧ v = .int .i64 (q i j)
section
variable {fr : E.Fr} {d : Option Nat} {T : TypeId} {pos : String} {af : Array Edge} {gd : Option (Nat × Bool)} {P : Program} {w : World} {its : List A.It}
theorem A.idxR {t e : TypeId} {x ix : Operand} (ad : Addr) (ao : Option Addr) (len cap esz : Nat) (k : IntKind) (i : Nat) (hao : 0 < len → ao = some ad) (hu : P.underlying t = some (.slice e)) (hs : (P.info? e).map (·.size) = some esz) (hx : E.ev fr x = .slice ao len cap) (hi : E.ev fr ix = .int k ((i : Nat) : Int))
    (h1 : i < len) (w : World) : (execOp (E.ev fr) ⟨d, .indexAddr t x ix, T, pos, af, gd⟩).run P w = .ok (.value (.pointer (some (ad.add (i * esz))))) w := by
  obtain rfl := hao (by omega)
  cases hi0 : P.info? e with
  | none => rw [hi0] at hs; cases hs
  | some ie =>
    rw [hi0] at hs
    simp only [Option.map_some, Option.some.injEq] at hs
    subst hs
    show (do let r ← Instr.indexAt t (E.ev fr x) (E.ev fr ix); pure (Next.value r) : Sem Next).run P w = _
    rw [hx, hi]
    simp [Instr.indexAt, asIntOf, underlying, hu, Instr.sureAddr, sizeOf, typeInfo, hi0, h1]
theorem A.loadRI {t : TypeId} {x : Operand} {K n k i j : Nat} {ad : Addr} {q : Nat → Nat → Int} (h : A.Y its w) (hk : its[k]? = some (A.facts (M.rowF K ad n q))) (hu : P.underlying t = some (.int .i64)) (hx : E.ev fr x = .pointer (some ((ad.add (i * K)).add j))) (hi : i < n) (hj : j < K) :
    (execOp (E.ev fr) ⟨d, .load t x, T, pos, af, gd⟩).run P w = .ok (.value (.int .i64 (q i j))) w := by
  have hc := h.fact hk (ad := (ad.add (i * K)).add j) (v := .int .i64 (q i j)) ⟨i, j, hi, hj, rfl, rfl⟩
  have ha : (isAgg t).run P w = .ok false w := by simp [isAgg, underlying, hu]
  show (do let r ← Instr.loadAt t (E.ev fr x); pure (Next.value r) : Sem Next).run P w = _
  rw [hx]
  simp [Instr.loadAt, Instr.sureAddr, loadVar, ha, Go.load, Sem.run, hc]
end
theorem A.none1 {F : Addr → Value → Prop} {w : World} {o a : Nat → Prop} (h : A.Has [A.facts F] w o a) (x : Nat) : ¬ o x := fun hx => by
  obtain ⟨p1, q1, p2, q2, h1, h2, _, _, ho, _⟩ := h
  rcases (ho x).1 hx with k | k
  · exact h1.2.1 x k
  · exact h2.1 x k
end Go.Proofs.Ytgbndbljohpnmaa

/- XFw -/
namespace Go.Proofs.Ytgbndbljohpnmaa
set_option linter.unusedVariables false
set_option linter.unusedSimpArgs false
open Go.Joins Go.ChangeShapes Go.WideShapes Go.ChangeAt Go.RowKit Go.Deep
theorem M.row_one {l : List Value} {i : Nat} {v : Value} (h : (l.drop i).take 1 = [v]) : l[i]? = some v := by
  have h1 := congrArg (fun (l : List Value) => l[0]?) h
  simpa using h1
theorem M.arg_rows {H : Type} {enc : TypeId × Value → H} {P : Program} {w : World} {base : Nat} {spare : Nat → Bool} {held : Bool} {r : Reach} {b0 K : Nat} {t e u : TypeId} {v : Value} {d : DataW H} {ps : List MemPlace}
    (ht : P.underlying t = some (.slice e)) (he : P.underlying e = some (.array K u)) (hu : P.underlying u = some (.int .i64)) (hc : P.cellsOf u = 1) (hce : P.cellsOf e = K) (hval : Value.okWide P w r b0 t v) (hd : DataW.Trod enc P w base spare held t v d ps) :
    ∃ ao ad n cap q, v = .slice ao n cap ∧ (0 < n → ao = some ad) ∧ (∀ i j, -9223372036854775808 ≤ q i j ∧ q i j < 9223372036854775808) ∧ ∀ a x, M.rowF K ad n q a x → w.cell? a = some x := by
  obtain ⟨fuel, hf⟩ := hd
  obtain ⟨a, len, cap, rfl⟩ := okWide_slice ht hval
  rcases open_slice ht hf with ⟨hcs, _⟩ | ⟨ad, len', cap', m, n, D, Pl, hcs, hb, hl, hm, hmm, _, hi⟩
  · exact ⟨none, ⟨0, 0, none⟩, 0, 0, fun _ _ => 0, by simpa [Value.cells] using hcs, fun h => absurd h (by omega), fun _ _ => by show (-9223372036854775808 : Int) ≤ 0 ∧ (0 : Int) < 9223372036854775808; decide, fun a x ⟨i, j, hi, _⟩ => absurd hi (by omega)⟩
  · have e1 : (.slice a len cap : Value) = .slice (some ad) len' cap' := by simpa [Value.cells] using hcs
    have key : ∀ i, i < len' → ∃ f : Nat → Int, (∀ j, -9223372036854775808 ≤ f j ∧ f j < 9223372036854775808) ∧ ∀ j, j < K → w.cell? ((ad.add (i * K)).add j) = some (.int .i64 (f j)) := by
      intro i hil
      obtain ⟨cs', hc', ht'⟩ := hi i (by rw [hmm]; split <;> omega)
      rw [hce] at hc'
      obtain ⟨_, hlen, hat⟩ := World.cells?_some hc'
      obtain ⟨xs, mm, _, _, _, hx, hel⟩ := DataW.trod_array he ht'
      have k2 : ∀ j, j < K → ∃ x, (-9223372036854775808 ≤ x ∧ x < 9223372036854775808) ∧ w.cell? ((ad.add (i * K)).add j) = some (.int .i64 x) := by
        intro j hj
        have h0 := hel j hj
        rw [hc, Nat.mul_one, List.getElem?_eq_getElem (by omega)] at h0
        obtain ⟨x, ex, _, wx⟩ := DataW.trod_int hu h0
        have bx := bounds_i64 wx
        refine ⟨x, ⟨bx.1, by have := bx.2; omega⟩, ?_⟩
        rw [hat j hj]
        exact M.row_one ex
      exact ⟨fun j => if h : j < K then (k2 j h).choose else 0, fun j => by
        by_cases h : j < K
        · have := (k2 j h).choose_spec.1
          simp only [h, dif_pos]; exact this
        · simp only [h, dif_neg, not_false_eq_true]; decide, fun j hj => by
        have := (k2 j hj).choose_spec.2
        simp only [hj, dif_pos]; exact this⟩
    refine ⟨some ad, ad, len', cap', fun i => if h : i < len' then (key i h).choose else fun _ => 0, e1, fun _ => rfl, fun i j => ?_, fun a x ⟨i, j, hil, hj, ha, hv⟩ => ?_⟩
    · by_cases h : i < len'
      · have := (key i h).choose_spec.1 j
        simp only [h, dif_pos]; exact this
      · simp only [h, dif_neg, not_false_eq_true]; decide
    · subst ha; subst hv
      have := (key i hil).choose_spec.2 j hj
      simp only [hil, dif_pos]; exact this
end Go.Proofs.Ytgbndbljohpnmaa

/- XQa -/
namespace Go.Proofs.Ytgbndbljohpnmaa
set_option linter.unusedVariables false
set_option linter.unusedSimpArgs false
open Go.RowKit
section rules
variable {P : Program} {fr : E.Fr}
variable {T : TypeId} {d : Option Nat} {pos : String} {af : Array Edge} {gd : Option (Nat × Bool)}
/-- A shift to the right by a number that is a letter. -/
theorem E.shrN {t u : TypeId} {x y : Operand} {k k2 : IntKind} (a : Int) (c b : Nat) (hb : k.bits = b) (hx : E.ev fr x = .int k a) (hy : E.ev fr y = .int k2 ((c : Nat) : Int)) (w : World) :
    (execOp (E.ev fr) ⟨d, .binOp .shr t x y u, T, pos, af, gd⟩).run P w = .ok (.value (.int k (Int.fdiv a (2 ^ (min c b))))) w := by
  subst hb
  show (do let r ← (do eqGuard .shr t x y (E.ev fr x) (E.ev fr y); binOp .shr t (E.ev fr x) (E.ev fr y)); pure (Next.value r) : Sem Next).run P w = _
  rw [hx, hy]
  have h : ¬ ((c : Nat) : Int) < 0 := by omega
  simp [eqGuard, binOp, Op.shift, h]
theorem E.shlN {t u : TypeId} {x y : Operand} {k k2 : IntKind} (a : Int) (c b : Nat) (hb : k.bits = b) (hx : E.ev fr x = .int k a) (hy : E.ev fr y = .int k2 ((c : Nat) : Int)) (w : World) :
    (execOp (E.ev fr) ⟨d, .binOp .shl t x y u, T, pos, af, gd⟩).run P w = .ok (.value (.int k (k.wrap (a * 2 ^ (min c b))))) w := by
  subst hb
  show (do let r ← (do eqGuard .shl t x y (E.ev fr x) (E.ev fr y); binOp .shl t (E.ev fr x) (E.ev fr y)); pure (Next.value r) : Sem Next).run P w = _
  rw [hx, hy]
  have h : ¬ ((c : Nat) : Int) < 0 := by omega
  simp [eqGuard, binOp, Op.shift, h]
end rules
/-- A machine's state. -/
structure Q.S where
  pc : Int
  r : Nat → Int
  f : Int
  c : Nat → Int
  st : Int
  du : Int
def Q.S.cells (s : Q.S) : List Value := [.int .u32 s.pc, .int .u32 (s.r 0), .int .u32 (s.r 1), .int .u32 (s.r 2), .int .u32 (s.r 3), .int .u32 (s.r 4), .int .u32 (s.r 5), .int .u32 (s.r 6), .int .u32 (s.r 7), .int .u32 (s.r 8), .int .u32 (s.r 9), .int .u32 (s.r 10), .int .u32 (s.r 11), .int .u32 (s.r 12), .int .u32 (s.r 13), .int .u32 (s.r 14), .int .u32 (s.r 15), .int .u32 s.f, .int .u32 (s.c 0), .int .u32 (s.c 1), .int .u32 (s.c 2), .int .u32 (s.c 3), .int .i64 s.st, .int .i64 s.du]
def Q.S.val (s : Q.S) : Value := .agg #[.int .u32 s.pc, .int .u32 (s.r 0), .int .u32 (s.r 1), .int .u32 (s.r 2), .int .u32 (s.r 3), .int .u32 (s.r 4), .int .u32 (s.r 5), .int .u32 (s.r 6), .int .u32 (s.r 7), .int .u32 (s.r 8), .int .u32 (s.r 9), .int .u32 (s.r 10), .int .u32 (s.r 11), .int .u32 (s.r 12), .int .u32 (s.r 13), .int .u32 (s.r 14), .int .u32 (s.r 15), .int .u32 s.f, .int .u32 (s.c 0), .int .u32 (s.c 1), .int .u32 (s.c 2), .int .u32 (s.c 3), .int .i64 s.st, .int .i64 s.du]
def Q.up (f : Nat → Int) (d : Nat) (v : Int) : Nat → Int := fun k => if k = d then v else f k
theorem Q.ld_r {P : Program} {t : TypeId} {s : Q.S} {D : Nat} (hu : P.underlying t = some (.int .u32)) (h : D < 16) : E.ld P t s.cells (1 + D) = some (.int .u32 (s.r D)) := by
  rw [E.ld_one hu]
  rcases (by omega : D = 0 ∨ D = 1 ∨ D = 2 ∨ D = 3 ∨ D = 4 ∨ D = 5 ∨ D = 6 ∨ D = 7 ∨ D = 8 ∨ D = 9 ∨ D = 10 ∨ D = 11 ∨ D = 12 ∨ D = 13 ∨ D = 14 ∨ D = 15) with rfl | rfl | rfl | rfl | rfl | rfl | rfl | rfl | rfl | rfl | rfl | rfl | rfl | rfl | rfl | rfl <;> rfl
theorem Q.ld_c {P : Program} {t : TypeId} {s : Q.S} {D : Nat} (hu : P.underlying t = some (.int .u32)) (h : D < 4) : E.ld P t s.cells (18 + D) = some (.int .u32 (s.c D)) := by
  rw [E.ld_one hu]
  rcases (by omega : D = 0 ∨ D = 1 ∨ D = 2 ∨ D = 3) with rfl | rfl | rfl | rfl <;> rfl
theorem E.sto_one {P : Program} {t : TypeId} {cs : List Value} {j : Nat} {k : IntKind} {v : Int} (hi : (P.info? t).map (·.size) = some 1) (h : j < cs.length) : E.sto P t cs j (.int k v) = some (cs.set j (.int k v)) := by
  unfold E.sto
  cases hi0 : P.info? t with
  | none => rw [hi0] at hi; cases hi
  | some i =>
    rw [hi0] at hi
    simp only [Option.map_some, Option.some.injEq] at hi
    show (bif Nat.beq 1 i.size && Nat.ble (j + i.size) cs.length && true then some (cs.set j (.int k v)) else none) = _
    rw [hi, show Nat.ble (j + 1) cs.length = true from Nat.ble_eq_true_of_le h]; rfl
theorem Q.sto_r {P : Program} {t : TypeId} {s : Q.S} {D : Nat} {v : Int} (hi : (P.info? t).map (·.size) = some 1) (h : D < 16) : E.sto P t s.cells (1 + D) (.int .u32 v) = some ({ s with r := Q.up s.r D v } : Q.S).cells := by
  rw [E.sto_one hi (by show 1 + D < 24; omega)]
  rcases (by omega : D = 0 ∨ D = 1 ∨ D = 2 ∨ D = 3 ∨ D = 4 ∨ D = 5 ∨ D = 6 ∨ D = 7 ∨ D = 8 ∨ D = 9 ∨ D = 10 ∨ D = 11 ∨ D = 12 ∨ D = 13 ∨ D = 14 ∨ D = 15) with rfl | rfl | rfl | rfl | rfl | rfl | rfl | rfl | rfl | rfl | rfl | rfl | rfl | rfl | rfl | rfl <;> rfl
theorem Q.sto_c {P : Program} {t : TypeId} {s : Q.S} {D : Nat} {v : Int} (hi : (P.info? t).map (·.size) = some 1) (h : D < 4) : E.sto P t s.cells (18 + D) (.int .u32 v) = some ({ s with c := Q.up s.c D v } : Q.S).cells := by
  rw [E.sto_one hi (by show 18 + D < 24; omega)]
  rcases (by omega : D = 0 ∨ D = 1 ∨ D = 2 ∨ D = 3) with rfl | rfl | rfl | rfl <;> rfl
end Go.Proofs.Ytgbndbljohpnmaa

/- XQe -/
namespace Go.Proofs.Ytgbndbljohpnmaa
set_option linter.unusedVariables false
set_option linter.unusedSimpArgs false
open Go.RowKit
theorem E.idxI {P : Program} {fr : E.Fr} {T : TypeId} {d : Option Nat} {pos : String} {af : Array Edge} {gd : Option (Nat × Bool)} {t e : TypeId} {x ix : Operand} (g j len : Nat) (k : IntKind) (i : Int) (hu : P.underlying t = some (.array len e)) (hs : (P.info? e).map (·.size) = some 1) (hx : E.ev fr x = .pointer (some ⟨g, j, none⟩)) (hi : E.ev fr ix = .int k i)
    (h1 : 0 ≤ i ∧ i < len) (w : World) : (execOp (E.ev fr) ⟨d, .indexAddr t x ix, T, pos, af, gd⟩).run P w = .ok (.value (.pointer (some ⟨g, j + i.toNat, none⟩))) w := by
  have := E.idxA (P := P) (fr := fr) (T := T) (d := d) (pos := pos) (af := af) (gd := gd) g j len 1 k i hu hs hx hi h1.1 (by omega) w
  rwa [Nat.mul_one] at this
theorem Q.up_bd {f : Nat → Int} {d : Nat} {v : Int} (hf : ∀ k, 0 ≤ f k ∧ f k < 4294967296) (hv : 0 ≤ v ∧ v < 4294967296) (k : Nat) : 0 ≤ Q.up f d v k ∧ Q.up f d v k < 4294967296 := by
  unfold Q.up; split
  · exact hv
  · exact hf k
theorem I_Fetch {m : Nat} {V : M.V} {xs : List Value} (x : Int) (hx : 0 ≤ x ∧ x < 4294967296) : A.Rd Try.prog 115 #[.pointer (some ⟨m, 0, none⟩), .int .u32 x] [M.It m V xs] (.tuple #[.int .u8 (V.fetch x.toNat).1, .bool (V.fetch x.toNat).2]) := by
  obtain ⟨a, rfl⟩ := Int.eq_ofNat_of_zero_le hx.1
  exact A_Fetch a (by omega)
theorem I_Peek {m : Nat} {V : M.V} {xs : List Value} (x : Int) (hx : 0 ≤ x ∧ x < 4294967296) : A.Rd Try.prog 26 #[.pointer (some ⟨m, 0, none⟩), .int .u32 x] [M.It m V xs] (.int .u8 (V.peek x.toNat)) := by
  obtain ⟨a, rfl⟩ := Int.eq_ofNat_of_zero_le hx.1
  exact A_Peek a (by omega)
theorem I_Code {m : Nat} {V : M.V} {xs : List Value} (x : Int) (hx : 0 ≤ x ∧ x < 4294967296) : A.Rd Try.prog 38 #[.pointer (some ⟨m, 0, none⟩), .int .u32 x] [M.It m V xs] (.int .u8 (V.code x.toNat)) := by
  obtain ⟨a, rfl⟩ := Int.eq_ofNat_of_zero_le hx.1
  exact A_Code a (by omega)
theorem I_Load {m : Nat} {V : M.V} {xs : List Value} (x : Int) (n : Int) (hx : 0 ≤ x ∧ x < 4294967296) : A.Rd Try.prog 116 #[.pointer (some ⟨m, 0, none⟩), .int .u32 x, .int .i64 n] [M.It m V xs] (.tuple #[.int .u32 (V.load x.toNat n).1, .int .u32 (V.load x.toNat n).2.1, .bool (V.load x.toNat n).2.2]) := by
  obtain ⟨a, rfl⟩ := Int.eq_ofNat_of_zero_le hx.1
  exact A_Load a n (by omega)
theorem I_Store {m : Nat} {V : M.V} {xs : List Value} (x : Int) (n v : Int) (hx : 0 ≤ x ∧ x < 4294967296) : A.Tr Try.prog 117 #[.pointer (some ⟨m, 0, none⟩), .int .u32 x, .int .i64 n, .int .u32 v] [M.It m V xs] (I := Unit) (fun _ => True) (fun _ => .tuple #[.int .u32 (V.chk x.toNat 2 n).1, .bool (V.chk x.toNat 2 n).2]) (fun _ => [M.It m (V.sto x.toNat n v) xs]) := by
  obtain ⟨a, rfl⟩ := Int.eq_ofNat_of_zero_le hx.1
  exact A_Store a n v (by omega)
theorem I_Sync {m : Nat} {V : M.V} {xs : List Value} (x : Int) (hx : 0 ≤ x ∧ x < 4294967296) : A.Tr Try.prog 25 #[.pointer (some ⟨m, 0, none⟩), .int .u32 x] [M.It m V xs] (I := Unit) (fun _ => True) (fun _ => .bool (decide (x.toNat / 256 < V.n))) (fun _ => [M.It m (V.sync (x.toNat / 256)) xs]) := by
  obtain ⟨a, rfl⟩ := Int.eq_ofNat_of_zero_le hx.1
  exact A_Sync a (by omega)
theorem I_Poke {m : Nat} {V : M.V} {xs : List Value} (x : Int) (s : ByteArray) (hx : 0 ≤ x ∧ x < 4294967296) (hs : s.size < 4294967296) : A.Tr Try.prog 23 #[.pointer (some ⟨m, 0, none⟩), .int .u32 x, .string s] [M.It m V xs] (I := Unit) (fun _ => True) (fun _ => .tuple #[]) (fun _ => [M.It m (V.poke x.toNat s s.size) xs]) := by
  obtain ⟨a, rfl⟩ := Int.eq_ofNat_of_zero_le hx.1
  exact A_Poke a s (by omega) hs
theorem J_Peek {m : Nat} {V : M.V} (x : Int) (hx : 0 ≤ x ∧ x < 4294967296) : A.Rd Try.prog 37 #[.pointer (some ⟨m, 0, none⟩), .int .u32 x] [R.It m V] (.int .u8 (V.peek x.toNat)) := by
  obtain ⟨a, rfl⟩ := Int.eq_ofNat_of_zero_le hx.1
  exact B_Peek a (by omega)
theorem J_Code {m : Nat} {V : M.V} (x : Int) (hx : 0 ≤ x ∧ x < 4294967296) : A.Rd Try.prog 39 #[.pointer (some ⟨m, 0, none⟩), .int .u32 x] [R.It m V] (.int .u8 (V.code x.toNat)) := by
  obtain ⟨a, rfl⟩ := Int.eq_ofNat_of_zero_le hx.1
  exact B_Code a (by omega)
theorem J_Sync {m : Nat} {V : M.V} (x : Int) (hx : 0 ≤ x ∧ x < 4294967296) : A.Tr Try.prog 34 #[.pointer (some ⟨m, 0, none⟩), .int .u32 x] [R.It m V] (I := Unit) (fun _ => True) (fun _ => .bool (decide (x.toNat / 256 < V.n))) (fun _ => [R.It m (V.sync (x.toNat / 256))]) := by
  obtain ⟨a, rfl⟩ := Int.eq_ofNat_of_zero_le hx.1
  exact B_Sync a (by omega)
theorem J_Poke {m : Nat} {V : M.V} (x : Int) (s : ByteArray) (hx : 0 ≤ x ∧ x < 4294967296) (hs : s.size < 4294967296) : A.Tr Try.prog 31 #[.pointer (some ⟨m, 0, none⟩), .int .u32 x, .string s] [R.It m V] (I := Unit) (fun _ => True) (fun _ => .tuple #[]) (fun _ => [R.It m (V.poke x.toNat s s.size)]) := by
  obtain ⟨a, rfl⟩ := Int.eq_ofNat_of_zero_le hx.1
  exact B_Poke a (by omega) s hs
end Go.Proofs.Ytgbndbljohpnmaa

/- XQj -/
namespace Go.Proofs.Ytgbndbljohpnmaa
set_option linter.unusedVariables false
set_option linter.unusedSimpArgs false
open Go.RowKit
def M.hdr (b : M.Obj) : List Value := [.slice b.ao b.sl.length b.cap, .bool b.coh]
/-- The blocks of a memory but its header. -/
def M.bdy (b : M.Obj) (x : Nat) : Prop := (0 < b.sl.length ∧ x = b.b) ∨ M.Pg b.sl x
theorem M.ow_bdy {b : M.Obj} {x : Nat} (h : M.ow b x) : M.bdy b x := by
  rcases h with h | ⟨i, hi, _, rfl⟩ | ⟨i, hi, _, hc⟩
  · exact .inl h
  · exact .inr (M.pg_d hi)
  · exact .inr (M.pg_c hi hc)
/-- A memory but its header. -/
structure M.BdP (b : M.Obj) (V : M.V) (w : World) : Prop where
  ha : 0 < b.sl.length → b.ao = some ⟨b.b, 0, none⟩
  cs : ∀ i v, (M.cells b.sl)[i]? = some v → w.cell? ⟨b.b, i, none⟩ = some v
  pg : ∀ p, M.Pg b.sl p → ∀ i, i < 256 → w.cell? ⟨p, i, none⟩ = some (.int .u8 (b.C p i))
  lt : b.sl.length ≤ 4096
  pm : ∀ p, M.Pg b.sl p → p ≠ b.b
  od : ∀ i j, i < b.sl.length → j < b.sl.length → (b.at i).od = true → ((b.at j).d = (b.at i).d → j = i) ∧ (b.at j).c ≠ some (b.at i).d ∧ (b.at j).cd ≠ (b.at i).d ∧ (b.at j).cc ≠ some (b.at i).d
  oc : ∀ i j p, i < b.sl.length → j < b.sl.length → (b.at i).oc = true → (b.at i).c = some p → ((b.at j).c = some p → j = i) ∧ (b.at j).d ≠ p ∧ (b.at j).cd ≠ p ∧ (b.at j).cc ≠ some p
  co : ∀ i, i < b.sl.length → (b.at i).c.isNone = b.coh ∧ (b.at i).cc.isNone = b.coh
  by_ : ∀ p, M.Pg b.sl p → ∀ i, i < 256 → 0 ≤ b.C p i ∧ b.C p i < 256
  rb : ∀ i, i < b.sl.length → 0 ≤ (b.at i).r ∧ (b.at i).r < 8
  fz : ∀ x, M.bdy b x → ∀ i, w.frozen? ⟨x, i, none⟩ = false
  sh : M.Sh b V
theorem M.cells_pos {l : List M.Slot} {i : Nat} {v : Value} (h : (M.cells l)[i]? = some v) : 0 < l.length := by
  cases l with
  | nil => simp [M.cells] at h
  | cons => simp
def M.Bd (b : M.Obj) (V : M.V) : A.It where
  t w o a := M.BdP b V w ∧ (∀ x, o x ↔ M.ow b x) ∧ ∀ x, a x ↔ M.bdy b x
  sub := fun h x hx => (h.2.2 x).2 (M.ow_bdy ((h.2.1 x).1 hx))
  lt := fun {w o a} h x hx => by
    rcases (h.2.2 x).1 hx with ⟨hn, rfl⟩ | hp
    · obtain ⟨v, hv⟩ : ∃ v, (M.cells b.sl)[0]? = some v := ⟨_, List.getElem?_eq_getElem (by rw [M.cells_len]; omega)⟩
      exact M.cell_lt (h.1.cs 0 v hv)
    · exact M.cell_lt (h.1.pg x hp 0 (by decide))
  keep := fun {w w' o a} h hk => by
    have key : ∀ {p : Addr} {v : Value}, a p.block → w.cell? p = some v → w'.cell? p = some v := fun {p v} hp hv => by
      rw [World.cell?] at hv ⊢; rw [hk _ hp]; exact hv
    exact ⟨⟨h.1.ha, fun i v hv => key ((h.2.2 _).2 (.inl ⟨M.cells_pos hv, rfl⟩)) (h.1.cs i v hv), fun p hp i hi => key ((h.2.2 _).2 (.inr hp)) (h.1.pg p hp i hi), h.1.lt, h.1.pm, h.1.od, h.1.oc, h.1.co, h.1.by_, h.1.rb, fun x hx i => by
      have := h.1.fz x hx i
      rw [World.frozen?] at this ⊢; rw [hk x ((h.2.2 x).2 hx)]; exact this, h.1.sh⟩, h.2⟩
  apart := fun {w w2 o a o2 a2 x} h h2 _ hz hx => by
    rcases (h.2.2 x).1 hx with ⟨hn, rfl⟩ | hp
    · obtain ⟨v, hv⟩ : ∃ v, (M.cells b.sl)[0]? = some v := ⟨_, List.getElem?_eq_getElem (by rw [M.cells_len]; omega)⟩
      have := h2.1.cs 0 v hv; rw [hz] at this; cases this
    · have := h2.1.pg x hp 0 (by decide); rw [hz] at this; cases this
theorem M.It.open_ {m : Nat} {V : M.V} {xs : List Value} {w : World} {o a : Nat → Prop} (h : (M.It m V xs).t w o a) : ∃ b : M.Obj, A.Has [A.blk m (M.hdr b ++ xs), M.Bd b V] w o a := by
  obtain ⟨b, hm, hs, hV, hx, ho, ha⟩ := h
  subst hm
  have hn : ∀ x, M.bdy b x → x ≠ b.m := fun x hx => by
    rcases hx with ⟨hn, rfl⟩ | hp
    · exact (hs.inv.mb hn).symm
    · exact (hs.inv.pm x hp).1
  refine ⟨b, fun x => x = b.m, fun x => x = b.m, fun x => M.ow b x, fun x => M.bdy b x, ⟨fun i v hv => ?_, fun i => hs.fz _ (.inl rfl) i, hs.at_.alive (.inl rfl), fun _ => Iff.rfl, fun _ => Iff.rfl, by unfold M.hdr; simp⟩,
    A.Has.one (it := M.Bd b V) ⟨⟨hs.at_.ha, hs.at_.cs, hs.at_.pg, hs.at_.lt, fun p hp => (hs.inv.pm p hp).2, hs.inv.od, hs.inv.oc, hs.inv.co, hs.inv.by_, hs.inv.rb, fun x hx i => hs.fz x (.inr hx) i, hV⟩, fun _ => Iff.rfl, fun _ => Iff.rfl⟩, fun x hx hk => hn x hk hx, fun x hx hk => hn x (M.ow_bdy hx) hk, ho, ha⟩
  match i, hv with
  | 0, hv => obtain rfl := Option.some.inj hv; exact hs.at_.c0
  | 1, hv => obtain rfl := Option.some.inj hv; exact hs.at_.c1
  | i + 2, hv => have := hx i v hv; rwa [Nat.add_comm] at this
theorem M.It.close_ {m : Nat} {b : M.Obj} {V : M.V} {xs : List Value} {w : World} {o a : Nat → Prop} (h : A.Has [A.blk m (M.hdr b ++ xs), M.Bd b V] w o a) : (M.It m V xs).t w o a := by
  obtain ⟨o1, a1, o2, a2, h1, h2, d1, d2, ho, ha⟩ := h
  obtain ⟨o3, a3, ⟨hB, ho3, ha3⟩, e3, e4⟩ := A.Has.one' h2
  have hn : ¬ M.bdy b m := fun hk => d1 m ((h1.2.2.2.1 m).2 rfl) ((e4 m).1 ((ha3 m).2 hk))
  refine ⟨{ b with m := m }, rfl, ⟨⟨h1.1 0 _ rfl, h1.1 1 _ rfl, hB.ha, hB.cs, hB.pg, hB.lt⟩, ⟨fun hk e => hn (.inl ⟨hk, e⟩), fun p hp => ⟨fun e => hn (.inr (by have e : p = m := e; rw [← e]; exact hp)), hB.pm p hp⟩, hB.od, hB.oc, hB.co, hB.by_, hB.rb⟩, fun x hx i => ?_⟩, ⟨hB.sh.n, hB.sh.coh, hB.sh.d, hB.sh.i, hB.sh.cd, hB.sh.ci, hB.sh.r⟩, fun i v hv => ?_, fun x => ?_, fun x => ?_⟩
  · rcases hx with rfl | hx
    · exact h1.2.1 i
    · exact hB.fz x hx i
  · have := h1.1 (2 + i) v (by rw [List.getElem?_append_right (by unfold M.hdr; simp)]; unfold M.hdr; simpa using hv)
    exact this
  · rw [ho, h1.2.2.2.1]; exact or_congr Iff.rfl ((e3 x).symm.trans (ho3 x))
  · rw [ha, h1.2.2.2.2.1]; exact or_congr Iff.rfl ((e4 x).symm.trans (ha3 x))
theorem A.openHp {w0 w : World} {o0 a0 : Nat → Prop} {its r : List A.It} {L : List (Nat × List Value)} {m : Nat} {V : M.V} {xs : List Value} (L2 : M.Obj → List (Nat × List Value)) (its2 : M.Obj → List A.It) (hne : A.ne L = true) (h1 : (A.bl L ++ its).Perm (M.It m V xs :: r)) (h2 : ∀ b, (A.blk m (M.hdr b ++ xs) :: M.Bd b V :: r).Perm (A.bl (L2 b) ++ its2 b))
    (h : E.Hp o0 w0 (A.X w0 o0 a0 its) L w) : ∃ b, E.Hp o0 w0 (A.X w0 o0 a0 (its2 b)) (L2 b) w := by
  obtain ⟨o, a, hh, hg⟩ := A.hp_has hne h
  obtain ⟨o1, a1, o2, a2, k1, k2, d1, d2, ho, ha⟩ := hh.perm h1
  obtain ⟨b, hb⟩ := M.It.open_ k1
  exact ⟨b, A.has_hp h.x.1 (((hb.join k2 d1 d2).iff ho ha).perm (h2 b)) hg h.ch⟩
theorem A.closeHp {w0 w : World} {o0 a0 : Nat → Prop} {its r its2 : List A.It} {L L2 : List (Nat × List Value)} {m : Nat} {b : M.Obj} {V : M.V} {xs : List Value} (hne : A.ne L = true) (h1 : (A.bl L ++ its).Perm (A.blk m (M.hdr b ++ xs) :: M.Bd b V :: r)) (h2 : (M.It m V xs :: r).Perm (A.bl L2 ++ its2))
    (h : E.Hp o0 w0 (A.X w0 o0 a0 its) L w) : E.Hp o0 w0 (A.X w0 o0 a0 its2) L2 w := by
  obtain ⟨o, a, hh, hg⟩ := A.hp_has hne h
  obtain ⟨o1, a1, o2, a2, k1, k2, d1, d2, ho, ha⟩ := A.Has.append (l := [A.blk m (M.hdr b ++ xs), M.Bd b V]) (m := r) (hh.perm h1)
  have k3 := M.It.close_ k1
  exact A.has_hp h.x.1 (A.Has.perm h2 ⟨o1, a1, o2, a2, k3, k2, d1, d2, ho, ha⟩) hg h.ch
section
variable {P : Program} {n : Nat} {ops : Array Oper} {Q : Exit → Act → World → Prop} {w0 : World} {o0 a0 : Nat → Prop} {its r : List A.It} {L : List (Nat × List Value)} {l : List Oper} {fr : E.Fr} {c : Code} {m : Nat} {V : M.V} {xs : List Value}
theorem A.G.openM (L2 : M.Obj → List (Nat × List Value)) (its2 : M.Obj → List A.It) (r : List A.It) (hne : A.ne L = true) (h1 : (A.bl L ++ its).Perm (M.It m V xs :: r)) (h2 : ∀ b, (A.blk m (M.hdr b ++ xs) :: M.Bd b V :: r).Perm (A.bl (L2 b) ++ its2 b))
    (k : ∀ b, E.G P n ops Q l fr o0 w0 (A.X w0 o0 a0 (its2 b)) (L2 b)) : E.G P n ops Q l fr o0 w0 (A.X w0 o0 a0 its) L := fun a w hs h => by
  obtain ⟨b, hb⟩ := A.openHp L2 its2 hne h1 h2 h
  exact k b a w hs hb
theorem A.G.closeM (L2 : List (Nat × List Value)) (its2 r : List A.It) {b : M.Obj} (hne : A.ne L = true) (h1 : (A.bl L ++ its).Perm (A.blk m (M.hdr b ++ xs) :: M.Bd b V :: r)) (h2 : (M.It m V xs :: r).Perm (A.bl L2 ++ its2))
    (k : E.G P n ops Q l fr o0 w0 (A.X w0 o0 a0 its2) L2) : E.G P n ops Q l fr o0 w0 (A.X w0 o0 a0 its) L := fun a w hs h => k a w hs (A.closeHp hne h1 h2 h)
end
theorem E.ld_run_at {P : Program} {w : World} {g b j : Nat} {cs : List Value} {t : TypeId} {v : Value} (hm : ∀ i v, cs[i]? = some v → w.cell? ⟨g, b + i, none⟩ = some v) (h : E.ld P t cs j = some v) :
    (Instr.loadAt t (.pointer (some ⟨g, b + j, none⟩))).run P w = .ok v w := by
  unfold E.ld at h
  have agg : ∀ i : TypeInfo, P.info? t = some i → (∃ d, P.underlying t = some d ∧ (isAgg t).run P w = .ok true w) → (bif Nat.ble (j + i.size) cs.length then some (.agg ((cs.drop j).take i.size).toArray) else none) = some v → (Instr.loadAt t (.pointer (some ⟨g, b + j, none⟩))).run P w = .ok v w := by
    intro i hi ⟨d, hd, ha⟩ hv
    cases hb : Nat.ble (j + i.size) cs.length with
    | false => rw [hb] at hv; cases hv
    | true =>
      rw [hb] at hv
      simp only [cond_true, Option.some.injEq] at hv
      subst hv
      have hle : j + i.size ≤ cs.length := by simpa using hb
      have hl := E.run_loadFrom (P := P) w g ((cs.drop j).take i.size) (b + j) 0 #[] (fun k v hk => by
        rw [List.getElem?_take] at hk
        split at hk
        · rw [List.getElem?_drop] at hk; have := hm (j + k) v hk; rwa [show b + j + 0 + k = b + (j + k) by omega]
        · cases hk)
      have hlen : ((cs.drop j).take i.size).length = i.size := by simp; omega
      rw [hlen] at hl
      have hs : (sizeOf t).run P w = .ok i.size w := by simp [sizeOf, typeInfo, hi]
      simp [Instr.loadAt, Instr.sureAddr, loadVar, ha, hs, loadCells, hl]
  have one : (isAgg t).run P w = .ok false w → cs[j]? = some v → (Instr.loadAt t (.pointer (some ⟨g, b + j, none⟩))).run P w = .ok v w := by
    intro ha hv
    simp [Instr.loadAt, Instr.sureAddr, loadVar, ha, load, Sem.run, hm j v hv]
  cases hu : P.underlying t with
  | none => rw [hu] at h; cases h
  | some d =>
    rw [hu] at h
    cases d
    case struct fs =>
      cases hi : P.info? t with
      | none => rw [hi] at h; simp only at h; exact absurd hu (by unfold Program.underlying; rw [hi]; simp)
      | some i => rw [hi] at h; exact agg i hi ⟨_, hu, by simp [isAgg, underlying, hu]⟩ h
    case array n e =>
      cases hi : P.info? t with
      | none => rw [hi] at h; simp only at h; exact absurd hu (by unfold Program.underlying; rw [hi]; simp)
      | some i => rw [hi] at h; exact agg i hi ⟨_, hu, by simp [isAgg, underlying, hu]⟩ h
    all_goals exact one (by simp [isAgg, underlying, hu]) h
theorem A.Y.xld {P : Program} {fr : E.Fr} {d : Option Nat} {T t : TypeId} {pos : String} {af : Array Edge} {gd : Option (Nat × Bool)} {its : List A.It} {w : World} {x : Operand} {m j : Nat} {V : M.V} {xs : List Value} {v : Value} {k : Nat} (h : A.Y its w) (hk : its[k]? = some (M.It m V xs)) (hx : E.ev fr x = .pointer (some ⟨m, 2 + j, none⟩)) (hv : E.ld P t xs j = some v) :
    (execOp (E.ev fr) ⟨d, .load t x, T, pos, af, gd⟩).run P w = .ok (.value v) w := by
  obtain ⟨o1, a1, b, hm, hs, hV, hc, _⟩ := h.get hk
  have := E.ld_run_at (P := P) (w := w) (t := t) hc hv
  show (do let r ← Instr.loadAt t (E.ev fr x); pure (Next.value r)).run P w = _
  rw [hx]; simp [this]
end Go.Proofs.Ytgbndbljohpnmaa

/- XMap -/
namespace Go.Proofs.Ytgbndbljohpnmaa
set_option linter.unusedVariables false
set_option linter.unusedSimpArgs false
open Go.RowKit
theorem alloc_set (w : World) (o o' : Obj) : { heap := (w.alloc o).heap.setIfInBounds w.heap.size o', tape := w.tape, drawn := w.drawn, os := (w.alloc o).os, output := (w.alloc o).output : World } = w.alloc o' := by
  show ({ heap := (w.heap.push o).setIfInBounds w.heap.size o', tape := w.tape, drawn := w.drawn, os := w.os, output := w.output } : World) = { heap := w.heap.push o', tape := w.tape, drawn := w.drawn, os := w.os, output := w.output }
  congr 1
  apply Array.ext_getElem?
  intro i
  simp only [Array.getElem?_setIfInBounds, Array.getElem?_push, Array.size_push]
  by_cases h : w.heap.size = i
  · subst h; simp
  · simp [h, Ne.symm h]
theorem run_mapUpdate_new {P : Program} (w : World) (mt kt et : TypeId) (k : IntKind) (es : Array MapEntry) (clock : Nat) (a : Int) (v : Value)
    (hm : P.underlying mt = some (.map kt et)) (hk : P.underlying kt = some (.int k)) (hn : Instr.findNow (.int k) (.int k a) es.toList 0 = some none) :
    (Instr.mapUpdate mt (.map (some w.heap.size)) (.int k a) v).run P (w.alloc (.map es clock)) = .ok () (w.alloc (.map (es.push ⟨.int k a, v, clock⟩) (clock + 1))) := by
  have hb : (w.alloc (.map es clock)).heap[w.heap.size]? = some (.map es clock) := (MapKept.heap_alloc w _).1
  have hc : (Instr.checkKey false 10000 kt (.int k a)).run P (w.alloc (.map es clock)) = .ok () (w.alloc (.map es clock)) := MapKept.run_checkKey hk (by exact rfl) false 9999
  have hf := MapKept.run_findKey (P := P) (w := w.alloc (.map es clock)) hk (k := .int k a) hn
  unfold Instr.mapUpdate
  simp [run_underlying hm, MapKept.run_getObj_map hb, MapKept.run_setObj_map _ hb, hc, hf, Result.andThen]
  exact alloc_set w _ _
theorem run_lookup_hit {P : Program} (w : World) (mt kt et : TypeId) (k : IntKind) (r : Nat) (es : Array MapEntry) (clock : Nat) (a : Int) (v : Value) (i : Nat)
    (hm : P.underlying mt = some (.map kt et)) (hk : P.underlying kt = some (.int k)) (hb : w.heap[r]? = some (.map es clock)) (hn : Instr.findNow (.int k) (.int k a) es.toList 0 = some (some (i, v))) :
    (Instr.lookup mt (.map (some r)) (.int k a) true).run P w = .ok (.tuple #[v, .bool true]) w := by
  have hc : (Instr.checkKey es.isEmpty 10000 kt (.int k a)).run P w = .ok () w := MapKept.run_checkKey hk (by exact rfl) es.isEmpty 9999
  have hf := MapKept.run_findKey (P := P) (w := w) hk (k := .int k a) hn
  unfold Instr.lookup
  simp [run_underlying hm, MapKept.run_getObj_map hb, hc, hf, Result.andThen]
theorem run_lookup_miss {P : Program} (w : World) (mt kt et : TypeId) (k : IntKind) (r : Nat) (es : Array MapEntry) (clock : Nat) (a : Int) (z : Value)
    (hm : P.underlying mt = some (.map kt et)) (hk : P.underlying kt = some (.int k)) (hz : (zeroValue et).run P w = .ok z w) (hb : w.heap[r]? = some (.map es clock)) (hn : Instr.findNow (.int k) (.int k a) es.toList 0 = some none) :
    (Instr.lookup mt (.map (some r)) (.int k a) true).run P w = .ok (.tuple #[z, .bool false]) w := by
  have hc : (Instr.checkKey es.isEmpty 10000 kt (.int k a)).run P w = .ok () w := MapKept.run_checkKey hk (by exact rfl) es.isEmpty 9999
  have hf := MapKept.run_findKey (P := P) (w := w) hk (k := .int k a) hn
  unfold Instr.lookup
  simp [run_underlying hm, MapKept.run_getObj_map hb, hc, hf, hz, Result.andThen]
end Go.Proofs.Ytgbndbljohpnmaa

/- XQf -/
namespace Go.Proofs.Ytgbndbljohpnmaa
set_option linter.unusedVariables false
set_option linter.unusedSimpArgs false
open Go.RowKit
/-- The map at g has these entries. -/
def E.Mp (g : Nat) (es : Array MapEntry) (c : Nat) (w : World) : Prop := w.heap[g]? = some (.map es c)
section
variable {P : Program} {n : Nat} {ops : Array Oper} {Q : Exit → Act → World → Prop} {S : Nat → Prop} {w0 : World} {X : World → Prop} {L : List (Nat × List Value)} {l : List Oper} {fr : E.Fr}
variable {T : TypeId} {d : Nat} {pos : String} {af : Array Edge} {gd : Option (Nat × Bool)}
/-- A map under construction, in slot d. -/
def E.M (P : Program) (n : Nat) (ops : Array Oper) (Q : Exit → Act → World → Prop) (l : List Oper) (d : Nat) (fr : E.Fr) (S : Nat → Prop) (w0 : World) (X : World → Prop) (L : List (Nat × List Value)) (es : Array MapEntry) (c : Nat) : Prop :=
  ∀ a w, E.St n ((d, .map (some w.heap.size)) :: fr) a → E.Hp S w0 X L w → wpList P ops Q l a (w.alloc (.map es c))
theorem E.M.make {t : TypeId} (hck : E.ck n ops fr ⟨some d, .makeMap t none, T, pos, af, gd⟩ = true) (k : E.M P n ops Q l d fr S w0 X L #[] 0) : E.G P n ops Q (⟨some d, .makeMap t none, T, pos, af, gd⟩ :: l) fr S w0 X L := by
  intro a w hs hh
  refine E.step (hs.want (E.ck_w hck)) ?_
  unfold Oper.wp
  rw [hs.exec (E.ck_k hck)]
  have : (execOp (E.ev fr) ⟨some d, .makeMap t none, T, pos, af, gd⟩).run P w = .ok (.value (.map (some w.heap.size))) (w.alloc (.map #[] 0)) := by
    show (do let r ← Instr.makeMap t none; pure (Next.value r) : Sem Next).run P w = _
    rw [Sem.run_bind, run_makeMap]; rfl
  rw [this]
  exact k _ _ (hs.put (E.ck_f hck) _) hh
theorem E.M.insert {mt kt et : TypeId} {x y z : Operand} {kd : IntKind} {i : Int} {v : Value} {es : Array MapEntry} {c : Nat} (hm : P.underlying mt = some (.map kt et)) (hk : P.underlying kt = some (.int kd)) (hck : ∀ g, E.ck n ops ((d, .map (some g)) :: fr) ⟨none, .insert mt x y z, T, pos, af, gd⟩ = true)
    (hx : ∀ g, E.ev ((d, .map (some g)) :: fr) x = .map (some g)) (hy : ∀ g, E.ev ((d, .map (some g)) :: fr) y = .int kd i) (hz : ∀ g, E.ev ((d, .map (some g)) :: fr) z = v) (hn : Instr.findNow (.int kd) (.int kd i) es.toList 0 = some none)
    (k : E.M P n ops Q l d fr S w0 X L (es.push ⟨.int kd i, v, c⟩) (c + 1)) : E.M P n ops Q (⟨none, .insert mt x y z, T, pos, af, gd⟩ :: l) d fr S w0 X L es c := by
  intro a w hs hh
  have hck := hck w.heap.size
  refine E.step (hs.want (E.ck_w hck)) ?_
  unfold Oper.wp
  rw [hs.exec (E.ck_k hck)]
  have h1 := run_mapUpdate_new (P := P) w mt kt et kd es c i v hm hk hn
  have : (execOp (E.ev ((d, .map (some w.heap.size)) :: fr)) ⟨none, .insert mt x y z, T, pos, af, gd⟩).run P (w.alloc (.map es c)) = .ok .skip (w.alloc (.map (es.push ⟨.int kd i, v, c⟩) (c + 1))) := by
    show (do Instr.mapUpdate mt (E.ev _ x) (E.ev _ y) (E.ev _ z); pure Next.skip : Sem Next).run P _ = _
    rw [hx, hy, hz, Sem.run_bind, h1]; rfl
  rw [this]
  exact k _ _ (hs.put (E.ck_f hck) _) hh
theorem E.M.done {es : Array MapEntry} {c : Nat} (k : ∀ g, E.G P n ops Q l ((d, .map (some g)) :: fr) S w0 (fun w => X w ∧ E.Mp g es c w) L) : E.M P n ops Q l d fr S w0 X L es c := by
  intro a w hs hh
  refine k w.heap.size _ _ hs ((hh.bel (Bel.alloc (Bel.refl _) _)).addX fun w' h1 h2 => ?_)
  have hsz : (w.alloc (.map es c)).heap.size = w.heap.size + 1 := by unfold World.alloc; simp
  unfold E.Mp
  rw [h2 w.heap.size (by omega) fun hm => by obtain ⟨p, hp, e⟩ := List.mem_map.1 hm; have := hh.lt p hp; omega]
  exact (MapKept.heap_alloc w _).1
theorem E.G.monoX {X' : World → Prop} (hx : ∀ w, X w → X' w) (k : E.G P n ops Q l fr S w0 X' L) : E.G P n ops Q l fr S w0 X L := fun a w h1 h2 => k a w h1 (h2.monoX hx)
theorem E.lookup {t : TypeId} {x ix : Operand} {kd : IntKind} {i : Int} {g : Nat} {v : Value} {w : World} {dd : Option Nat} (hx : E.ev fr x = .map (some g)) (hi : E.ev fr ix = .int kd i) (hr : (Instr.lookup t (.map (some g)) (.int kd i) true).run P w = .ok v w) :
    (execOp (E.ev fr) ⟨dd, .lookup t x ix true, T, pos, af, gd⟩).run P w = .ok (.value v) w := by
  show (do let r ← Instr.lookup t (E.ev fr x) (E.ev fr ix) true; pure (Next.value r) : Sem Next).run P w = _
  rw [hx, hi, Sem.run_bind, hr]; rfl
end
def Q.arE : Array MapEntry := ((((((((((((((((((((#[] : Array MapEntry).push ⟨.int .i64 1, .int .i64 3, 0⟩).push ⟨.int .i64 2, .int .i64 4, 1⟩).push ⟨.int .i64 3, .int .i64 5, 2⟩).push ⟨.int .i64 4, .int .i64 6, 3⟩).push ⟨.int .i64 5, .int .i64 7, 4⟩).push ⟨.int .i64 6, .int .i64 8, 5⟩).push ⟨.int .i64 7, .int .i64 9, 6⟩).push ⟨.int .i64 8, .int .i64 10, 7⟩).push ⟨.int .i64 9, .int .i64 11, 8⟩).push ⟨.int .i64 10, .int .i64 12, 9⟩).push ⟨.int .i64 11, .int .i64 14, 10⟩).push ⟨.int .i64 12, .int .i64 15, 11⟩).push ⟨.int .i64 16, .int .i64 3, 12⟩).push ⟨.int .i64 17, .int .i64 5, 13⟩).push ⟨.int .i64 18, .int .i64 6, 14⟩).push ⟨.int .i64 19, .int .i64 7, 15⟩).push ⟨.int .i64 20, .int .i64 8, 16⟩).push ⟨.int .i64 21, .int .i64 9, 17⟩).push ⟨.int .i64 22, .int .i64 10, 18⟩)
theorem arithmetic_any  (w : World) : Calls Try.prog 60 #[] w fun e w' => ∃ g, e = .returned (.map (some g)) ∧ E.Mp g Q.arE 19 w' ∧ Bel w w' := by
 refine E.enter (n := 3) (S := fun _ => False) Try.func60 rfl rfl (by kernel_rfl) (E.Hp.start w) ?_
 refine E.sr ?_
 refine E.op (.map none) ?_
 refine E.tr ?_
 refine E.M.make (by kernel_rfl) ?_
 refine E.M.insert (kt := 3) (et := 3) (by kernel_rfl) (by kernel_rfl) (fun _ => by kernel_rfl) (fun _ => rfl) (fun _ => rfl) (fun _ => rfl) (by rfl) ?_
 refine E.M.insert (kt := 3) (et := 3) (by kernel_rfl) (by kernel_rfl) (fun _ => by kernel_rfl) (fun _ => rfl) (fun _ => rfl) (fun _ => rfl) (by rfl) ?_
 refine E.M.insert (kt := 3) (et := 3) (by kernel_rfl) (by kernel_rfl) (fun _ => by kernel_rfl) (fun _ => rfl) (fun _ => rfl) (fun _ => rfl) (by rfl) ?_
 refine E.M.insert (kt := 3) (et := 3) (by kernel_rfl) (by kernel_rfl) (fun _ => by kernel_rfl) (fun _ => rfl) (fun _ => rfl) (fun _ => rfl) (by rfl) ?_
 refine E.M.insert (kt := 3) (et := 3) (by kernel_rfl) (by kernel_rfl) (fun _ => by kernel_rfl) (fun _ => rfl) (fun _ => rfl) (fun _ => rfl) (by rfl) ?_
 refine E.M.insert (kt := 3) (et := 3) (by kernel_rfl) (by kernel_rfl) (fun _ => by kernel_rfl) (fun _ => rfl) (fun _ => rfl) (fun _ => rfl) (by rfl) ?_
 refine E.M.insert (kt := 3) (et := 3) (by kernel_rfl) (by kernel_rfl) (fun _ => by kernel_rfl) (fun _ => rfl) (fun _ => rfl) (fun _ => rfl) (by rfl) ?_
 refine E.M.insert (kt := 3) (et := 3) (by kernel_rfl) (by kernel_rfl) (fun _ => by kernel_rfl) (fun _ => rfl) (fun _ => rfl) (fun _ => rfl) (by rfl) ?_
 refine E.M.insert (kt := 3) (et := 3) (by kernel_rfl) (by kernel_rfl) (fun _ => by kernel_rfl) (fun _ => rfl) (fun _ => rfl) (fun _ => rfl) (by rfl) ?_
 refine E.M.insert (kt := 3) (et := 3) (by kernel_rfl) (by kernel_rfl) (fun _ => by kernel_rfl) (fun _ => rfl) (fun _ => rfl) (fun _ => rfl) (by rfl) ?_
 refine E.M.insert (kt := 3) (et := 3) (by kernel_rfl) (by kernel_rfl) (fun _ => by kernel_rfl) (fun _ => rfl) (fun _ => rfl) (fun _ => rfl) (by rfl) ?_
 refine E.M.insert (kt := 3) (et := 3) (by kernel_rfl) (by kernel_rfl) (fun _ => by kernel_rfl) (fun _ => rfl) (fun _ => rfl) (fun _ => rfl) (by rfl) ?_
 refine E.M.insert (kt := 3) (et := 3) (by kernel_rfl) (by kernel_rfl) (fun _ => by kernel_rfl) (fun _ => rfl) (fun _ => rfl) (fun _ => rfl) (by rfl) ?_
 refine E.M.insert (kt := 3) (et := 3) (by kernel_rfl) (by kernel_rfl) (fun _ => by kernel_rfl) (fun _ => rfl) (fun _ => rfl) (fun _ => rfl) (by rfl) ?_
 refine E.M.insert (kt := 3) (et := 3) (by kernel_rfl) (by kernel_rfl) (fun _ => by kernel_rfl) (fun _ => rfl) (fun _ => rfl) (fun _ => rfl) (by rfl) ?_
 refine E.M.insert (kt := 3) (et := 3) (by kernel_rfl) (by kernel_rfl) (fun _ => by kernel_rfl) (fun _ => rfl) (fun _ => rfl) (fun _ => rfl) (by rfl) ?_
 refine E.M.insert (kt := 3) (et := 3) (by kernel_rfl) (by kernel_rfl) (fun _ => by kernel_rfl) (fun _ => rfl) (fun _ => rfl) (fun _ => rfl) (by rfl) ?_
 refine E.M.insert (kt := 3) (et := 3) (by kernel_rfl) (by kernel_rfl) (fun _ => by kernel_rfl) (fun _ => rfl) (fun _ => rfl) (fun _ => rfl) (by rfl) ?_
 refine E.M.insert (kt := 3) (et := 3) (by kernel_rfl) (by kernel_rfl) (fun _ => by kernel_rfl) (fun _ => rfl) (fun _ => rfl) (fun _ => rfl) (by rfl) ?_
 refine E.M.done (fun g1 => ?_)
 refine E.op (.map (some g1)) ?_
 refine E.op (.map (some g1)) ?_
 refine E.To.code ?_
 refine E.C.ret (E.To.body (fn := Try.f60) [.map (some g1)] ?_ ?_)
 · exact ⟨⟨by kernel_rfl, by kernel_rfl⟩, trivial⟩
 intro w h
 exact ⟨g1, rfl, h.x.2, h.ch.bel (fun _ h => h.elim)⟩
def Q.ar (x : Int) : Int × Bool := if x = 1 then (3, true) else if x = 2 then (4, true) else if x = 3 then (5, true) else if x = 4 then (6, true) else if x = 5 then (7, true) else if x = 6 then (8, true) else if x = 7 then (9, true) else if x = 8 then (10, true) else if x = 9 then (11, true) else if x = 10 then (12, true) else if x = 11 then (14, true) else if x = 12 then (15, true) else if x = 16 then (3, true) else if x = 17 then (5, true) else if x = 18 then (6, true) else if x = 19 then (7, true) else if x = 20 then (8, true) else if x = 21 then (9, true) else if x = 22 then (10, true) else (0, false)
theorem E.find_none {kd : IntKind} (x : Int) : ∀ (l : List MapEntry) (i : Nat), (l.all fun e => match e.key with | .int k y => (k == kd) && !(y == x) | _ => false) = true → Instr.findNow (.int kd) (.int kd x) l i = some none
  | [], _, _ => rfl
  | e :: l, i, h => by
    rw [List.all_cons, Bool.and_eq_true] at h
    unfold Instr.findNow
    cases hk : e.key with
    | int k y =>
      rw [hk] at h
      have h1 := h.1
      simp only [Bool.and_eq_true, beq_iff_eq, Bool.not_eq_true', beq_eq_false_iff_ne] at h1
      obtain ⟨rfl, hne⟩ := h1
      have hs : Instr.sameNow (.int k) (.int k x) (.int k y) = some false := by
        show (if k = k then some (x == y) else none) = some false
        rw [if_pos rfl, beq_eq_false_iff_ne.2 (Ne.symm hne)]
      rw [hs]
      exact E.find_none x l (i + 1) h.2
    | _ => rw [hk] at h; cases h.1
theorem Q.ar_miss (x : Int) (h : x < 1 ∨ (12 < x ∧ x < 16) ∨ 22 < x) : Instr.findNow (.int .i64) (.int .i64 x) Q.arE.toList 0 = some none := by
  have e : ∀ k : Int, (1 ≤ k ∧ k ≤ 12) ∨ (16 ≤ k ∧ k ≤ 22) → (k == x) = false := fun k _ => beq_eq_false_iff_ne.2 (by omega)
  refine E.find_none x _ 0 (List.all_eq_true.2 fun en hen => ?_)
  have hl : Q.arE.toList = [⟨.int .i64 1, .int .i64 3, 0⟩, ⟨.int .i64 2, .int .i64 4, 1⟩, ⟨.int .i64 3, .int .i64 5, 2⟩, ⟨.int .i64 4, .int .i64 6, 3⟩, ⟨.int .i64 5, .int .i64 7, 4⟩, ⟨.int .i64 6, .int .i64 8, 5⟩, ⟨.int .i64 7, .int .i64 9, 6⟩, ⟨.int .i64 8, .int .i64 10, 7⟩, ⟨.int .i64 9, .int .i64 11, 8⟩, ⟨.int .i64 10, .int .i64 12, 9⟩, ⟨.int .i64 11, .int .i64 14, 10⟩, ⟨.int .i64 12, .int .i64 15, 11⟩, ⟨.int .i64 16, .int .i64 3, 12⟩, ⟨.int .i64 17, .int .i64 5, 13⟩, ⟨.int .i64 18, .int .i64 6, 14⟩, ⟨.int .i64 19, .int .i64 7, 15⟩, ⟨.int .i64 20, .int .i64 8, 16⟩, ⟨.int .i64 21, .int .i64 9, 17⟩, ⟨.int .i64 22, .int .i64 10, 18⟩] := by rfl
  rw [hl] at hen
  simp only [List.mem_cons, List.not_mem_nil, or_false] at hen
  rcases hen with rfl | rfl | rfl | rfl | rfl | rfl | rfl | rfl | rfl | rfl | rfl | rfl | rfl | rfl | rfl | rfl | rfl | rfl | rfl <;> (show (true && !(_ == x)) = true; rw [e _ (by decide)]; rfl)
theorem Q.ar_look {g : Nat} {w : World} (h : E.Mp g Q.arE 19 w) (x : Int) : (Instr.lookup 115 (.map (some g)) (.int .i64 x) true).run Try.prog w = .ok (.tuple #[.int .i64 (Q.ar x).1, .bool (Q.ar x).2]) w := by
  have hm : Try.prog.underlying 115 = some (.map 3 3) := by kernel_rfl
  have hk : Try.prog.underlying 3 = some (.int .i64) := by kernel_rfl
  rcases (by omega : x = 1 ∨ x = 2 ∨ x = 3 ∨ x = 4 ∨ x = 5 ∨ x = 6 ∨ x = 7 ∨ x = 8 ∨ x = 9 ∨ x = 10 ∨ x = 11 ∨ x = 12 ∨ x = 16 ∨ x = 17 ∨ x = 18 ∨ x = 19 ∨ x = 20 ∨ x = 21 ∨ x = 22 ∨ (x < 1 ∨ (12 < x ∧ x < 16) ∨ 22 < x)) with rfl | rfl | rfl | rfl | rfl | rfl | rfl | rfl | rfl | rfl | rfl | rfl | rfl | rfl | rfl | rfl | rfl | rfl | rfl | hx
  · exact run_lookup_hit w _ _ _ .i64 g Q.arE 19 1 (.int .i64 3) 0 hm hk h rfl
  · exact run_lookup_hit w _ _ _ .i64 g Q.arE 19 2 (.int .i64 4) 1 hm hk h rfl
  · exact run_lookup_hit w _ _ _ .i64 g Q.arE 19 3 (.int .i64 5) 2 hm hk h rfl
  · exact run_lookup_hit w _ _ _ .i64 g Q.arE 19 4 (.int .i64 6) 3 hm hk h rfl
  · exact run_lookup_hit w _ _ _ .i64 g Q.arE 19 5 (.int .i64 7) 4 hm hk h rfl
  · exact run_lookup_hit w _ _ _ .i64 g Q.arE 19 6 (.int .i64 8) 5 hm hk h rfl
  · exact run_lookup_hit w _ _ _ .i64 g Q.arE 19 7 (.int .i64 9) 6 hm hk h rfl
  · exact run_lookup_hit w _ _ _ .i64 g Q.arE 19 8 (.int .i64 10) 7 hm hk h rfl
  · exact run_lookup_hit w _ _ _ .i64 g Q.arE 19 9 (.int .i64 11) 8 hm hk h rfl
  · exact run_lookup_hit w _ _ _ .i64 g Q.arE 19 10 (.int .i64 12) 9 hm hk h rfl
  · exact run_lookup_hit w _ _ _ .i64 g Q.arE 19 11 (.int .i64 14) 10 hm hk h rfl
  · exact run_lookup_hit w _ _ _ .i64 g Q.arE 19 12 (.int .i64 15) 11 hm hk h rfl
  · exact run_lookup_hit w _ _ _ .i64 g Q.arE 19 16 (.int .i64 3) 12 hm hk h rfl
  · exact run_lookup_hit w _ _ _ .i64 g Q.arE 19 17 (.int .i64 5) 13 hm hk h rfl
  · exact run_lookup_hit w _ _ _ .i64 g Q.arE 19 18 (.int .i64 6) 14 hm hk h rfl
  · exact run_lookup_hit w _ _ _ .i64 g Q.arE 19 19 (.int .i64 7) 15 hm hk h rfl
  · exact run_lookup_hit w _ _ _ .i64 g Q.arE 19 20 (.int .i64 8) 16 hm hk h rfl
  · exact run_lookup_hit w _ _ _ .i64 g Q.arE 19 21 (.int .i64 9) 17 hm hk h rfl
  · exact run_lookup_hit w _ _ _ .i64 g Q.arE 19 22 (.int .i64 10) 18 hm hk h rfl
  · have e : Q.ar x = (0, false) := by unfold Q.ar; iterate 19 rw [if_neg (by omega)]
    rw [e]
    exact run_lookup_miss w _ _ _ .i64 g Q.arE 19 x (.int .i64 0) hm hk (by kernel_rfl) h (Q.ar_miss x hx)
end Go.Proofs.Ytgbndbljohpnmaa
