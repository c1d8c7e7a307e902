/- Texts of the walk, merged (6): see the remark ahead of each. -/
import Derived.Test.YtglidnmmeclneaaGreatKe5
import Derived.Test.YtglidnmmeclneaaGreatProg
import Derived.Lib.SmallJoins
import Derived.SizedLaws
namespace Go.Proofs.YtglidnmmeclneaaGreat
set_option linter.unusedVariables false
set_option linter.unusedSimpArgs false
open Go.RowKit
section rules
variable {P : Program} {fr : E.Fr} {its : List A.It}
variable {T : TypeId} {d : Option Nat} {pos : String} {af : Array Edge} {gd : Option (Nat × Bool)}
/-- A whole slice of bytes of known length, as a string. -/
theorem A.Y.strN {w : World} {x : Operand} {a b e : TypeId} {ao : Option Addr} {cap c2 : Nat} {l : List Int} {k n : Nat} (h : A.Y its w) (hk : its[k]? = some (A.vec .u8 ao cap l)) (hs : P.underlying a = some (.slice e)) (he : P.underlying e = some (.int .u8)) (hb : P.underlying b = some .string)
    (hx : E.ev fr x = .slice ao n c2) (hn : l.length = n) (hl : 0 < n) :
    (execOp (E.ev fr) ⟨d, .convert a b x, T, pos, af, gd⟩).run P w = .ok (.value (.string (strOfNums l))) w := by
  subst hn
  exact A.Y.strAll h hk hs he hb hx hl
end rules
def K.fs (z : Int) : Nat → Int
  | 0 => z
  | k + 1 => IntKind.wrap .u32 (IntKind.wrap .u32 (K.fs z k * 1664525) + 1013904223)
def K.fl (z : Int) : Nat → List Int
  | 0 => List.replicate 1024 0
  | k + 1 => (K.fl z k).set k (IntKind.wrap .u8 (Int.fdiv (K.fs z (k + 1)) (2 ^ 24)))
theorem K.fl_len (z : Int) : ∀ k, (K.fl z k).length = 1024
  | 0 => List.length_replicate
  | k + 1 => by rw [K.fl, List.length_set]; exact K.fl_len z k
/-- What Fill returns. -/
def K.fill (z : Int) : ByteArray := strOfNums (K.fl z 1024)
theorem K.fill_size (z : Int) : (K.fill z).size = 1024 := by unfold K.fill; rw [strOfNums_size, K.fl_len]
theorem K.fill_eq {z : Int} {k : Nat} (hk : k ≤ 1024) (h : decide (((k : Nat) : Int) < 1024) = false) : strOfNums (K.fl z k) = K.fill z := by
  have : k = 1024 := by have := of_decide_eq_false h; omega
  subst this; rfl
def K.cl (V : M.V) : Nat → List Int
  | 0 => List.replicate 1024 0
  | k + 1 => (K.cl V k).set k (V.peek k)
/-- What content returns. -/
def K.cs (V : M.V) : ByteArray := strOfNums (K.cl V 1024)
theorem Fill5 (z : Int) : A.Tr Tryz.prog 44 #[.int .u32 z, .int .i64 1024] [] (I := Unit) (fun _ => True) (fun _ => .string (K.fill z)) (fun _ => []) := by
 intro w oo aa hh
 refine E.enter (n := 27) (S := oo) Tryz.func44 rfl rfl (by kernel_rfl) (A.start (L := []) hh) (E.sr (E.op (.string (⟨#[]⟩ : ByteArray)) (E.tr (E.op (E.i 1024) (E.vl (E.i ((1024 : Nat) : Int)) (fun w h => E.run_as (a := E.i (if 1024 > 0 then 1024 else 0)) (by kernel_rfl) (rfl)) (A.G.make (e := 5) (kd := .u8) (lk := .i64) 1024 1 (by kernel_rfl) (by kernel_rfl) (by kernel_rfl) Nz.pom Nz.pom (by kernel_rfl) (fun ao1 => E.op (.slice ao1 1024 1024) (E.To.code (E.C.seq (E.sr (E.op (E.i 0) ?_)))))))))))
 refine E.To.code (E.C.block (E.C.loop (I := Nat) (fun k => 1024 - k) (fun k => k ≤ 1024) (fun k => [(0, E.u (K.fs z k)), (4, .string (⟨#[]⟩ : ByteArray)), (5, .slice ao1 1024 1024), (6, E.i ((k : Nat) : Int))]) (fun k => A.X w oo aa [A.vec .u8 ao1 1024 (K.fl z k)]) (fun k => []) 0 (Nat.zero_le _) ⟨by kernel_rfl, by kernel_rfl⟩ Nz.sub (fun _ h => h) (fun k hk1 => E.C.seq (E.sr (E.op (E.i ((k : Nat) : Int)) (E.op (.slice ao1 1024 1024) (E.op (E.i 1024) (E.op (.bool (decide (((k : Nat) : Int) < 1024))) (E.To.code (E.cd (decide (((k : Nat) : Int) < 1024)) (fun hc2 => ?_) (fun hc2 => ?_)))))))))))
 ·
  refine E.C.skip (E.To.code (E.C.seq (E.C.block (E.sr (E.op (E.u (K.fs z k)) (E.op (E.u (IntKind.wrap .u32 ((K.fs z k) * 1664525))) (E.op (E.u (IntKind.wrap .u32 ((IntKind.wrap .u32 ((K.fs z k) * 1664525)) + 1013904223))) (E.op (E.u (IntKind.wrap .u32 ((IntKind.wrap .u32 ((K.fs z k) * 1664525)) + 1013904223))) (E.ur (E.op (.slice ao1 1024 1024) (E.op (E.i ((k : Nat) : Int)) (E.op (E.u (IntKind.wrap .u32 ((IntKind.wrap .u32 ((K.fs z k) * 1664525)) + 1013904223))) ?_))))))))))))
  exact E.op (E.u (Int.fdiv (IntKind.wrap .u32 ((IntKind.wrap .u32 ((K.fs z k) * 1664525)) + 1013904223)) (2 ^ 24))) (E.op (.int .u8 (IntKind.wrap .u8 (Int.fdiv (IntKind.wrap .u32 ((IntKind.wrap .u32 ((K.fs z k) * 1664525)) + 1013904223)) (2 ^ 24)))) (E.vl (.pointer (some ⟨(A.bk ao1), k, none⟩)) (fun w h => A.Y.idx (e := 5) (ik := .i64) (i := k) (len := 1024) (c2 := 1024) (A.X.y h.x) (k := 0) rfl (by kernel_rfl) (by kernel_rfl) (by kernel_rfl) (by kernel_rfl) Nz.pom (by rw [K.fl_len]; exact Nz.pom)) (A.G.vst (kd := .u8) (ao := ao1) (cap := 1024) (i := k) (xs := (K.fl z k)) (v := (IntKind.wrap .u8 (Int.fdiv (IntKind.wrap .u32 ((IntKind.wrap .u32 ((K.fs z k) * 1664525)) + 1013904223)) (2 ^ 24)))) 0 rfl (by kernel_rfl) (by kernel_rfl) (by kernel_rfl) (by rw [K.fl_len]; exact Nz.pom) (by kernel_rfl) (by kernel_rfl) (E.P.nb (E.To.code (E.C.region (E.op (E.i ((k : Nat) : Int)) (E.vl (E.i ((k + 1 : Nat) : Int)) (fun w h => E.run_as (a := E.i (IntKind.wrap .i64 (((k : Nat) : Int) + 1))) (by kernel_rfl) (congrArg (Value.int .i64) (by exact Nz.add64 (x := k) (y := 1) Nz.pom))) (E.op (E.i ((k + 1 : Nat) : Int)) (E.To.round (k + 1) Nz.pom Nz.pom ⟨by kernel_rfl, by kernel_rfl⟩ Nz.sub (fun _ h => h)))))))))))
 exact E.C.exit (E.P.et (E.P.et (E.P.eh (E.To.code (E.sr (E.op (.slice ao1 1024 1024) (E.vl (.string (K.fill z)) (fun w h => E.run_as (a := .string (strOfNums (K.fl z k))) (A.Y.strN (e := 5) (n := 1024) (c2 := 1024) (A.X.y h.x) (k := 0) rfl (by kernel_rfl) (by kernel_rfl) (by kernel_rfl) (by kernel_rfl) (K.fl_len _ _) (by decide)) (congrArg Value.string (K.fill_eq hk1 (by assumption)))) (E.op (.string (K.fill z)) (E.To.code (E.wk [(4, .string (K.fill z))] [] Nz.sub (E.C.ret (E.bd Tryz.f44 [.string (K.fill z)] (fun w h => ⟨(), trivial, rfl, A.dq [] [0] h⟩)))))))))))))
def K.cut (s : ByteArray) : ByteArray := s.extract 0 (if 400 < ((s.size : Nat) : Int) then (400 : Int) else ((s.size : Nat) : Int)).toNat
theorem K.cut_ok (s : ByteArray) : 0 ≤ (if 400 < ((s.size : Nat) : Int) then (400 : Int) else ((s.size : Nat) : Int)) ∧ (if 400 < ((s.size : Nat) : Int) then (400 : Int) else ((s.size : Nat) : Int)) ≤ ((s.size : Nat) : Int) := by split <;> omega
theorem K.cut_size (s : ByteArray) : (K.cut s).size ≤ 400 := by
  unfold K.cut
  rw [ByteArray.size_extract]
  split <;> omega
def K.bW (z a : Int) (s : ByteArray) : M.V := ((M.V.new (M.np 4) true).poke (0 : Int).toNat (K.fill z) (K.fill z).size).poke (a).toNat (K.cut s) (K.cut s).size
/-- The memory that both makes. -/
def K.bV (x0 x1 x2 x3 z a : Int) (s : ByteArray) : M.V := ((((K.bW z a s).prot 0 x0).prot 1 x1).prot 2 x2).prot 3 x3
theorem K.bW_wf (z a : Int) (s : ByteArray) : R.Wf (K.bW z a s) := R.Wf.poke (R.Wf.poke (R.Wf.new (M.np_le _) _) _ _ _) _ _ _
theorem K.bV_wf (x0 x1 x2 x3 z a : Int) (s : ByteArray) : R.Wf (K.bV x0 x1 x2 x3 z a s) := R.Wf.prot (R.Wf.prot (R.Wf.prot (R.Wf.prot (K.bW_wf z a s) _ _) _ _) _ _) _ _
theorem CNew5 (n : Int) : A.Tr Tryz.prog 43 #[.int .i64 n] [] (I := Nat × Nat) (fun _ => True) (fun i => .pointer (some ⟨i.1, 0, none⟩)) (fun i => [A.blk i.1 (Q.S.cells Q.z0 ++ [.pointer (some ⟨i.2, 0, none⟩)]), R.It i.2 (M.V.new (M.np n) true)]) := by
 intro w oo aa hh
 exact E.enter (n := 7) (S := oo) Tryz.func43 rfl rfl (by kernel_rfl) (A.start (L := []) hh) (E.sr (E.op (.pointer none) (E.tr (E.op (E.i n) (A.G.call (I := Nat) (D := fun r1 => True) (V := fun r1 => E.pt r1) (q := fun r1 => [R.It r1 (M.V.new (M.np n) true)]) [] (fun r1 => []) (fun r1 => [R.It r1 (M.V.new (M.np n) true)]) (R_New n true) (by kernel_rfl) (A.pn []) (fun r1 => A.pm [0] (by kernel_rfl) (by kernel_rfl)) (fun w _ => by kernel_rfl) (by kernel_rfl) (fun r1 hd2 => E.vl (.agg #[E.u 0, E.u 0, E.u 0, E.u 0, E.u 0, E.u 0, E.u 0, E.u 0, E.u 0, E.u 0, E.u 0, E.u 0, E.u 0, E.u 0, E.u 0, E.u 0, E.u 0, E.u 0, E.u 0, E.u 0, E.u 0, E.u 0, E.i 0, E.i 0, E.pt r1]) (fun w h => E.run_build #[E.u 0, E.u 0, E.u 0, E.u 0, E.u 0, E.u 0, E.u 0, E.u 0, E.u 0, E.u 0, E.u 0, E.u 0, E.u 0, E.u 0, E.u 0, E.u 0, E.u 0, E.u 0, E.u 0, E.u 0, E.u 0, E.u 0, E.i 0, E.i 0, E.pt r1] (by kernel_rfl) w) (E.nw (Q.S.cells Q.z0 ++ [E.pt r1]) 44 (fun g3 => E.op (E.pt g3) (E.To.code (E.C.ret (E.bd Tryz.f43 [E.pt g3] (fun w h => ⟨(g3, r1), trivial, rfl, A.dq [0, 1] [] h⟩))))))))))))
def K5.norm (s : Q.S) : Q.S := ⟨s.pc, (Q.up (Q.up (Q.up (Q.up (Q.up (Q.up (Q.up (Q.up s.r 8 0) 9 0) 10 0) 11 0) 12 0) 13 0) 14 0) 15 0), (Int.tmod s.f 16), s.c, (if 0 > s.st then 0 else s.st), (if 0 > s.du then 0 else s.du)⟩
theorem Normal5 (s : Q.S)  : A.Rd Tryz.prog 47 #[Q.S.val s] [] (Q.S.val (K5.norm s)) := by
 intro w oo aa hh
 refine E.enter (n := 24) (S := fun _ => False) Tryz.func47 rfl rfl (by kernel_rfl) (A.startY hh) (E.sr (E.nw (Q.S.cells s) 26 (fun g1 => E.nw (Q.S.cells Q.z0) 26 (fun g2 => E.To.code (E.C.seq (E.sr (E.op (E.i 8) (E.To.code (E.C.block (E.C.rounds 9 (E.C.seq ?_)))))))))))
 refine E.sr (E.op (E.i 8) (E.op (.bool true) (E.To.code (E.C.condT (by kernel_rfl) (by kernel_rfl) (E.C.skip (E.To.code (E.C.seq (E.C.block (E.C.region (E.op (E.i 8) (E.op (.pointer (some ⟨g1, 1, none⟩)) (E.op (.pointer (some ⟨g1, 9, none⟩)) ?_))))))))))))
 refine E.st 1 (Q.S.cells (⟨s.pc, (Q.up s.r 8 0), s.f, s.c, s.st, s.du⟩)) rfl rfl (E.P.nb (E.To.code (E.C.region (E.op (E.i 8) (E.op (E.i 9) (E.op (E.i 9) (E.To.rounds 8 (E.wk [(1, E.pt g1), (2, E.pt g2), (3, E.i 9), (4, E.i 8), (5, .bool true), (6, E.i 8), (7, E.i 9), (8, E.i 8), (9, .pointer (some ⟨g1, 1, none⟩)), (10, .pointer (some ⟨g1, 9, none⟩))] [(g2, (Q.S.cells Q.z0)), (g1, (Q.S.cells (⟨s.pc, (Q.up s.r 8 0), s.f, s.c, s.st, s.du⟩)))] Nz.sub (E.C.seq (E.sr (E.op (E.i 9) (E.op (.bool true) ?_))))))))))))
 refine E.To.code (E.C.condT (by kernel_rfl) (by kernel_rfl) (E.C.skip (E.To.code (E.C.seq (E.C.block (E.C.region (E.op (E.i 9) (E.op (.pointer (some ⟨g1, 1, none⟩)) (E.op (.pointer (some ⟨g1, 10, none⟩)) (E.st 1 (Q.S.cells (⟨s.pc, (Q.up (Q.up s.r 8 0) 9 0), s.f, s.c, s.st, s.du⟩)) rfl rfl (E.P.nb (E.To.code (E.C.region ?_)))))))))))))
 refine E.op (E.i 9) (E.op (E.i 10) (E.op (E.i 10) (E.To.rounds 7 (E.wk [(1, E.pt g1), (2, E.pt g2), (3, E.i 10), (4, E.i 9), (5, .bool true), (6, E.i 9), (7, E.i 10), (8, E.i 9), (9, .pointer (some ⟨g1, 1, none⟩)), (10, .pointer (some ⟨g1, 10, none⟩))] [(g2, (Q.S.cells Q.z0)), (g1, (Q.S.cells (⟨s.pc, (Q.up (Q.up s.r 8 0) 9 0), s.f, s.c, s.st, s.du⟩)))] Nz.sub (E.C.seq (E.sr (E.op (E.i 10) (E.op (.bool true) (E.To.code (E.C.condT (by kernel_rfl) (by kernel_rfl) (E.C.skip (E.To.code ?_))))))))))))
 refine E.C.seq (E.C.block (E.C.region (E.op (E.i 10) (E.op (.pointer (some ⟨g1, 1, none⟩)) (E.op (.pointer (some ⟨g1, 11, none⟩)) (E.st 1 (Q.S.cells (⟨s.pc, (Q.up (Q.up (Q.up s.r 8 0) 9 0) 10 0), s.f, s.c, s.st, s.du⟩)) rfl rfl (E.P.nb (E.To.code (E.C.region (E.op (E.i 10) (E.op (E.i 11) (E.op (E.i 11) ?_))))))))))))
 refine E.To.rounds 6 (E.wk [(1, E.pt g1), (2, E.pt g2), (3, E.i 11), (4, E.i 10), (5, .bool true), (6, E.i 10), (7, E.i 11), (8, E.i 10), (9, .pointer (some ⟨g1, 1, none⟩)), (10, .pointer (some ⟨g1, 11, none⟩))] [(g2, (Q.S.cells Q.z0)), (g1, (Q.S.cells (⟨s.pc, (Q.up (Q.up (Q.up s.r 8 0) 9 0) 10 0), s.f, s.c, s.st, s.du⟩)))] Nz.sub (E.C.seq (E.sr (E.op (E.i 11) (E.op (.bool true) (E.To.code (E.C.condT (by kernel_rfl) (by kernel_rfl) (E.C.skip (E.To.code (E.C.seq (E.C.block (E.C.region ?_))))))))))))
 refine E.op (E.i 11) (E.op (.pointer (some ⟨g1, 1, none⟩)) (E.op (.pointer (some ⟨g1, 12, none⟩)) (E.st 1 (Q.S.cells (⟨s.pc, (Q.up (Q.up (Q.up (Q.up s.r 8 0) 9 0) 10 0) 11 0), s.f, s.c, s.st, s.du⟩)) rfl rfl (E.P.nb (E.To.code (E.C.region (E.op (E.i 11) (E.op (E.i 12) (E.op (E.i 12) (E.To.rounds 5 (E.wk [(1, E.pt g1), (2, E.pt g2), (3, E.i 12), (4, E.i 11), (5, .bool true), (6, E.i 11), (7, E.i 12), (8, E.i 11), (9, .pointer (some ⟨g1, 1, none⟩)), (10, .pointer (some ⟨g1, 12, none⟩))] [(g2, (Q.S.cells Q.z0)), (g1, (Q.S.cells (⟨s.pc, (Q.up (Q.up (Q.up (Q.up s.r 8 0) 9 0) 10 0) 11 0), s.f, s.c, s.st, s.du⟩)))] Nz.sub (E.C.seq ?_))))))))))))
 refine E.sr (E.op (E.i 12) (E.op (.bool true) (E.To.code (E.C.condT (by kernel_rfl) (by kernel_rfl) (E.C.skip (E.To.code (E.C.seq (E.C.block (E.C.region (E.op (E.i 12) (E.op (.pointer (some ⟨g1, 1, none⟩)) (E.op (.pointer (some ⟨g1, 13, none⟩)) ?_))))))))))))
 refine E.st 1 (Q.S.cells (⟨s.pc, (Q.up (Q.up (Q.up (Q.up (Q.up s.r 8 0) 9 0) 10 0) 11 0) 12 0), s.f, s.c, s.st, s.du⟩)) rfl rfl (E.P.nb (E.To.code (E.C.region (E.op (E.i 12) (E.op (E.i 13) (E.op (E.i 13) (E.To.rounds 4 (E.wk [(1, E.pt g1), (2, E.pt g2), (3, E.i 13), (4, E.i 12), (5, .bool true), (6, E.i 12), (7, E.i 13), (8, E.i 12), (9, .pointer (some ⟨g1, 1, none⟩)), (10, .pointer (some ⟨g1, 13, none⟩))] [(g2, (Q.S.cells Q.z0)), (g1, (Q.S.cells (⟨s.pc, (Q.up (Q.up (Q.up (Q.up (Q.up s.r 8 0) 9 0) 10 0) 11 0) 12 0), s.f, s.c, s.st, s.du⟩)))] Nz.sub (E.C.seq (E.sr (E.op (E.i 13) (E.op (.bool true) ?_))))))))))))
 refine E.To.code (E.C.condT (by kernel_rfl) (by kernel_rfl) (E.C.skip (E.To.code (E.C.seq (E.C.block (E.C.region (E.op (E.i 13) (E.op (.pointer (some ⟨g1, 1, none⟩)) (E.op (.pointer (some ⟨g1, 14, none⟩)) (E.st 1 (Q.S.cells (⟨s.pc, (Q.up (Q.up (Q.up (Q.up (Q.up (Q.up s.r 8 0) 9 0) 10 0) 11 0) 12 0) 13 0), s.f, s.c, s.st, s.du⟩)) rfl rfl (E.P.nb (E.To.code (E.C.region ?_)))))))))))))
 refine E.op (E.i 13) (E.op (E.i 14) (E.op (E.i 14) (E.To.rounds 3 (E.wk [(1, E.pt g1), (2, E.pt g2), (3, E.i 14), (4, E.i 13), (5, .bool true), (6, E.i 13), (7, E.i 14), (8, E.i 13), (9, .pointer (some ⟨g1, 1, none⟩)), (10, .pointer (some ⟨g1, 14, none⟩))] [(g2, (Q.S.cells Q.z0)), (g1, (Q.S.cells (⟨s.pc, (Q.up (Q.up (Q.up (Q.up (Q.up (Q.up s.r 8 0) 9 0) 10 0) 11 0) 12 0) 13 0), s.f, s.c, s.st, s.du⟩)))] Nz.sub (E.C.seq (E.sr (E.op (E.i 14) (E.op (.bool true) (E.To.code (E.C.condT (by kernel_rfl) (by kernel_rfl) (E.C.skip (E.To.code ?_))))))))))))
 refine E.C.seq (E.C.block (E.C.region (E.op (E.i 14) (E.op (.pointer (some ⟨g1, 1, none⟩)) (E.op (.pointer (some ⟨g1, 15, none⟩)) (E.st 1 (Q.S.cells (⟨s.pc, (Q.up (Q.up (Q.up (Q.up (Q.up (Q.up (Q.up s.r 8 0) 9 0) 10 0) 11 0) 12 0) 13 0) 14 0), s.f, s.c, s.st, s.du⟩)) rfl rfl (E.P.nb (E.To.code (E.C.region (E.op (E.i 14) (E.op (E.i 15) (E.op (E.i 15) ?_))))))))))))
 refine E.To.rounds 2 (E.wk [(1, E.pt g1), (2, E.pt g2), (3, E.i 15), (4, E.i 14), (5, .bool true), (6, E.i 14), (7, E.i 15), (8, E.i 14), (9, .pointer (some ⟨g1, 1, none⟩)), (10, .pointer (some ⟨g1, 15, none⟩))] [(g2, (Q.S.cells Q.z0)), (g1, (Q.S.cells (⟨s.pc, (Q.up (Q.up (Q.up (Q.up (Q.up (Q.up (Q.up s.r 8 0) 9 0) 10 0) 11 0) 12 0) 13 0) 14 0), s.f, s.c, s.st, s.du⟩)))] Nz.sub (E.C.seq (E.sr (E.op (E.i 15) (E.op (.bool true) (E.To.code (E.C.condT (by kernel_rfl) (by kernel_rfl) (E.C.skip (E.To.code (E.C.seq (E.C.block (E.C.region ?_))))))))))))
 refine E.op (E.i 15) (E.op (.pointer (some ⟨g1, 1, none⟩)) (E.op (.pointer (some ⟨g1, 16, none⟩)) (E.st 1 (Q.S.cells (⟨s.pc, (Q.up (Q.up (Q.up (Q.up (Q.up (Q.up (Q.up (Q.up s.r 8 0) 9 0) 10 0) 11 0) 12 0) 13 0) 14 0) 15 0), s.f, s.c, s.st, s.du⟩)) rfl rfl (E.P.nb (E.To.code (E.C.region (E.op (E.i 15) (E.op (E.i 16) (E.op (E.i 16) (E.To.rounds 1 (E.wk [(1, E.pt g1), (2, E.pt g2), (3, E.i 16), (4, E.i 15), (5, .bool true), (6, E.i 15), (7, E.i 16), (8, E.i 15), (9, .pointer (some ⟨g1, 1, none⟩)), (10, .pointer (some ⟨g1, 16, none⟩))] [(g2, (Q.S.cells Q.z0)), (g1, (Q.S.cells (⟨s.pc, (Q.up (Q.up (Q.up (Q.up (Q.up (Q.up (Q.up (Q.up s.r 8 0) 9 0) 10 0) 11 0) 12 0) 13 0) 14 0) 15 0), s.f, s.c, s.st, s.du⟩)))] Nz.sub (E.C.seq ?_))))))))))))
 refine E.sr (E.op (E.i 16) (E.op (.bool false) (E.To.code (E.C.condF (by kernel_rfl) (by kernel_rfl) (E.C.exit (E.P.et (E.P.et (E.P.eh (E.To.code (E.wk [(1, E.pt g1), (2, E.pt g2)] [(g2, (Q.S.cells Q.z0)), (g1, (Q.S.cells (⟨s.pc, (Q.up (Q.up (Q.up (Q.up (Q.up (Q.up (Q.up (Q.up s.r 8 0) 9 0) 10 0) 11 0) 12 0) 13 0) 14 0) 15 0), s.f, s.c, s.st, s.du⟩)))] Nz.sub (E.sr (E.op (.pointer (some ⟨g1, 17, none⟩)) (E.li (E.u s.f) 1 rfl rfl (E.op (E.u (Int.tmod s.f 16)) (E.op (.pointer (some ⟨g1, 17, none⟩)) ?_)))))))))))))))
 refine E.st 1 (Q.S.cells (⟨s.pc, (Q.up (Q.up (Q.up (Q.up (Q.up (Q.up (Q.up (Q.up s.r 8 0) 9 0) 10 0) 11 0) 12 0) 13 0) 14 0) 15 0), (Int.tmod s.f 16), s.c, s.st, s.du⟩)) rfl rfl (E.tr (E.op (.pointer (some ⟨g1, 22, none⟩)) (E.li (E.i s.st) 1 rfl rfl (E.op (E.i (if 0 > s.st then 0 else s.st)) (E.op (.pointer (some ⟨g1, 22, none⟩)) (E.st 1 (Q.S.cells (⟨s.pc, (Q.up (Q.up (Q.up (Q.up (Q.up (Q.up (Q.up (Q.up s.r 8 0) 9 0) 10 0) 11 0) 12 0) 13 0) 14 0) 15 0), (Int.tmod s.f 16), s.c, (if 0 > s.st then 0 else s.st), s.du⟩)) rfl rfl (E.To.code (E.wk [(1, E.pt g1), (2, E.pt g2)] [(g2, (Q.S.cells Q.z0)), (g1, (Q.S.cells (⟨s.pc, (Q.up (Q.up (Q.up (Q.up (Q.up (Q.up (Q.up (Q.up s.r 8 0) 9 0) 10 0) 11 0) 12 0) 13 0) 14 0) 15 0), (Int.tmod s.f 16), s.c, (if 0 > s.st then 0 else s.st), s.du⟩)))] Nz.sub (E.sr (E.op (.pointer (some ⟨g1, 23, none⟩)) (E.li (E.i s.du) 1 rfl rfl ?_)))))))))))
 exact E.op (E.i (if 0 > s.du then 0 else s.du)) (E.op (.pointer (some ⟨g1, 23, none⟩)) (E.st 1 (Q.S.cells (⟨s.pc, (Q.up (Q.up (Q.up (Q.up (Q.up (Q.up (Q.up (Q.up s.r 8 0) 9 0) 10 0) 11 0) 12 0) 13 0) 14 0) 15 0), (Int.tmod s.f 16), s.c, (if 0 > s.st then 0 else s.st), (if 0 > s.du then 0 else s.du)⟩)) rfl rfl (E.tr (E.li (Q.S.val (⟨s.pc, (Q.up (Q.up (Q.up (Q.up (Q.up (Q.up (Q.up (Q.up s.r 8 0) 9 0) 10 0) 11 0) 12 0) 13 0) 14 0) 15 0), (Int.tmod s.f 16), s.c, (if 0 > s.st then 0 else s.st), (if 0 > s.du then 0 else s.du)⟩)) 1 rfl rfl (E.st 0 (Q.S.cells (⟨s.pc, (Q.up (Q.up (Q.up (Q.up (Q.up (Q.up (Q.up (Q.up s.r 8 0) 9 0) 10 0) 11 0) 12 0) 13 0) 14 0) 15 0), (Int.tmod s.f 16), s.c, (if 0 > s.st then 0 else s.st), (if 0 > s.du then 0 else s.du)⟩)) rfl rfl (E.To.code (E.C.ret (E.b0 Tryz.f47 [Q.S.val (⟨s.pc, (Q.up (Q.up (Q.up (Q.up (Q.up (Q.up (Q.up (Q.up s.r 8 0) 9 0) 10 0) 11 0) 12 0) 13 0) 14 0) 15 0), (Int.tmod s.f 16), s.c, (if 0 > s.st then 0 else s.st), (if 0 > s.du then 0 else s.du)⟩)] (fun w h => ⟨rfl, h.ch.bel (fun _ h => h.elim)⟩)))))))))
set_option maxHeartbeats 4000000 in
set_option maxHeartbeats 4000000 in
theorem Both (s : Q.S) (x0 x1 x2 x3 z a : Int) (code : ByteArray) (ha : 0 ≤ a ∧ a < 4294967296) (hx0 : 0 ≤ x0 ∧ x0 < 256) (hx1 : 0 ≤ x1 ∧ x1 < 256) (hx2 : 0 ≤ x2 ∧ x2 < 256) (hx3 : 0 ≤ x3 ∧ x3 < 256) : A.Tr Tryz.prog 16 #[.agg (Q.S.cells s ++ [Value.int .u8 x0, Value.int .u8 x1, Value.int .u8 x2, Value.int .u8 x3, Value.int .u32 z, Value.int .u32 a, Value.string code]).toArray] [] (I := (Nat × Nat) × (Nat × Nat)) (fun _ => True) (fun i => .tuple #[.pointer (some ⟨i.1.1, 0, none⟩), .pointer (some ⟨i.2.1, 0, none⟩)]) (fun i => [A.blk i.1.1 (.pointer (some ⟨i.1.2, 0, none⟩) :: Q.S.cells (K.norm s)), M.It i.1.2 (K.bV x0 x1 x2 x3 z a code) [], A.blk i.2.1 (Q.S.cells (K5.norm s) ++ [.pointer (some ⟨i.2.2, 0, none⟩)]), R.It i.2.2 (K.bV x0 x1 x2 x3 z a code)]) := by
 intro w oo aa hh
 refine E.enter (n := 78) (S := oo) Tryz.func16 rfl rfl (by kernel_rfl) (A.start (L := []) hh) (E.sr (E.nw (Q.S.cells s ++ [.int .u8 x0, .int .u8 x1, .int .u8 x2, .int .u8 x3, E.u z, E.u a, .string code]) 29 (fun g1 => E.op (.pointer none) (E.op (.pointer none) (E.tr (A.G.call (I := Nat × Nat) (D := fun i2 => True) (V := fun i2 => E.pt i2.1) (q := fun i2 => [A.blk i2.1 (E.pt i2.2 :: Q.S.cells Q.z0), M.It i2.2 (M.V.new (M.np 4) true) ([])]) [A.blk g1 (Q.S.cells s ++ [.int .u8 x0, .int .u8 x1, .int .u8 x2, .int .u8 x3, E.u z, E.u a, .string code])] (fun i2 => [(i2.1, (E.pt i2.2 :: Q.S.cells Q.z0)), (g1, (Q.S.cells s ++ [.int .u8 x0, .int .u8 x1, .int .u8 x2, .int .u8 x3, E.u z, E.u a, .string code]))]) (fun i2 => [M.It i2.2 (M.V.new (M.np 4) true) ([])]) (CNew 4) (by kernel_rfl) (A.pn [0]) (fun i2 => A.pm [0, 2, 1] (by kernel_rfl) (by kernel_rfl)) (fun w _ => by kernel_rfl) (by kernel_rfl) (fun i2 hd3 => E.op (E.pt i2.1) (E.tr (A.G.call (I := Nat × Nat) (D := fun j4 => True) (V := fun j4 => E.pt j4.1) (q := fun j4 => [A.blk j4.1 (Q.S.cells Q.z0 ++ [E.pt j4.2]), R.It j4.2 (M.V.new (M.np 4) true)]) [A.blk i2.1 (E.pt i2.2 :: Q.S.cells Q.z0), A.blk g1 (Q.S.cells s ++ [.int .u8 x0, .int .u8 x1, .int .u8 x2, .int .u8 x3, E.u z, E.u a, .string code]), M.It i2.2 (M.V.new (M.np 4) true) ([])] (fun j4 => [(j4.1, (Q.S.cells Q.z0 ++ [E.pt j4.2])), (i2.1, (E.pt i2.2 :: Q.S.cells Q.z0)), (g1, (Q.S.cells s ++ [.int .u8 x0, .int .u8 x1, .int .u8 x2, .int .u8 x3, E.u z, E.u a, .string code]))]) (fun j4 => [R.It j4.2 (M.V.new (M.np 4) true), M.It i2.2 (M.V.new (M.np 4) true) ([])]) (CNew5 4) (by kernel_rfl) (A.pn [0, 1, 2]) (fun j4 => A.pm [0, 2, 3, 1, 4] (by kernel_rfl) (by kernel_rfl)) (fun w _ => by kernel_rfl) (by kernel_rfl) (fun j4 hd5 => E.op (E.pt j4.1) (E.tr ?_)))))))))))
 refine E.op (.pointer (some ⟨g1, 28, none⟩)) (E.li (E.u z) 2 rfl rfl (A.G.call (I := Unit) (D := fun _ => True) (V := fun _ => .string (K.fill z)) (q := fun _ => []) [A.blk j4.1 (Q.S.cells Q.z0 ++ [E.pt j4.2]), A.blk i2.1 (E.pt i2.2 :: Q.S.cells Q.z0), A.blk g1 (Q.S.cells s ++ [.int .u8 x0, .int .u8 x1, .int .u8 x2, .int .u8 x3, E.u z, E.u a, .string code]), R.It j4.2 (M.V.new (M.np 4) true), M.It i2.2 (M.V.new (M.np 4) true) ([])] (fun _ => [(j4.1, (Q.S.cells Q.z0 ++ [E.pt j4.2])), (i2.1, (E.pt i2.2 :: Q.S.cells Q.z0)), (g1, (Q.S.cells s ++ [.int .u8 x0, .int .u8 x1, .int .u8 x2, .int .u8 x3, E.u z, E.u a, .string code]))]) (fun _ => [R.It j4.2 (M.V.new (M.np 4) true), M.It i2.2 (M.V.new (M.np 4) true) ([])]) (Fill5 z) (by kernel_rfl) (A.pn [0, 1, 2, 3, 4]) (fun _ => A.pm [0, 1, 2, 3, 4] (by kernel_rfl) (by kernel_rfl)) (fun w _ => by kernel_rfl) (by kernel_rfl) (fun _ hd6 => E.op (.string (K.fill z)) (E.tr (E.op (.pointer (some ⟨g1, 30, none⟩)) (E.li (.string code) 2 rfl rfl (E.op (.pointer (some ⟨g1, 30, none⟩)) (E.li (.string code) 2 rfl rfl (E.op (E.i ((code.size : Nat) : Int)) (E.op (E.i (if 400 < ((code.size : Nat) : Int) then 400 else ((code.size : Nat) : Int))) (E.vl (.string (K.cut code)) (fun w h => E.slTo code .i64 (if 400 < ((code.size : Nat) : Int) then 400 else ((code.size : Nat) : Int)) (by kernel_rfl) (by kernel_rfl) (by kernel_rfl) (K.cut_ok _).1 (K.cut_ok _).2 w) ?_)))))))))))
 refine E.op (.string (K.cut code)) (E.To.code (E.wk [(1, E.pt g1), (2, .pointer none), (3, .pointer none), (4, E.pt i2.1), (5, E.pt j4.1), (6, .string (K.fill z)), (7, .string (K.cut code))] [(j4.1, (Q.S.cells Q.z0 ++ [E.pt j4.2])), (i2.1, (E.pt i2.2 :: Q.S.cells Q.z0)), (g1, (Q.S.cells s ++ [.int .u8 x0, .int .u8 x1, .int .u8 x2, .int .u8 x3, E.u z, E.u a, .string code]))] Nz.sub (E.sr (E.op (E.pt i2.1) (E.op (.string (K.fill z)) (A.G.call (I := Unit) (D := fun _ => True) (V := fun _ => .tuple #[]) (q := fun _ => [A.blk i2.1 (E.pt i2.2 :: Q.S.cells Q.z0), M.It i2.2 ((M.V.new (M.np 4) true).poke (0 : Int).toNat (K.fill z) (K.fill z).size) ([])]) [A.blk j4.1 (Q.S.cells Q.z0 ++ [E.pt j4.2]), A.blk g1 (Q.S.cells s ++ [.int .u8 x0, .int .u8 x1, .int .u8 x2, .int .u8 x3, E.u z, E.u a, .string code]), R.It j4.2 (M.V.new (M.np 4) true)] (fun _ => [(i2.1, (E.pt i2.2 :: Q.S.cells Q.z0)), (j4.1, (Q.S.cells Q.z0 ++ [E.pt j4.2])), (g1, (Q.S.cells s ++ [.int .u8 x0, .int .u8 x1, .int .u8 x2, .int .u8 x3, E.u z, E.u a, .string code]))]) (fun _ => [R.It j4.2 (M.V.new (M.np 4) true), M.It i2.2 ((M.V.new (M.np 4) true).poke (0 : Int).toNat (K.fill z) (K.fill z).size) ([])]) (KPoke 0 (by decide) (K.fill z) (by rw [K.fill_size]; decide) (c := i2.1) (m := i2.2) (s := Q.z0) (V := (M.V.new (M.np 4) true))) (by kernel_rfl) (A.pn [1, 4, 0, 2, 3]) (fun _ => A.pm [0, 2, 3, 4, 1] (by kernel_rfl) (by kernel_rfl)) (fun w _ => by kernel_rfl) (by kernel_rfl) (fun _ hd7 => E.tr (E.op (E.pt j4.1) (E.op (E.pt j4.1) (E.op (.pointer (some ⟨j4.1, 24, none⟩)) (E.li (E.pt j4.2) 1 rfl rfl ?_)))))))))))
 refine E.op (.string (K.fill z)) (A.G.call (I := Unit) (D := fun _ => True) (V := fun _ => .tuple #[]) (q := fun _ => [R.It j4.2 ((M.V.new (M.np 4) true).poke (0 : Int).toNat (K.fill z) (K.fill z).size)]) [A.blk i2.1 (E.pt i2.2 :: Q.S.cells Q.z0), A.blk j4.1 (Q.S.cells Q.z0 ++ [E.pt j4.2]), A.blk g1 (Q.S.cells s ++ [.int .u8 x0, .int .u8 x1, .int .u8 x2, .int .u8 x3, E.u z, E.u a, .string code]), M.It i2.2 ((M.V.new (M.np 4) true).poke (0 : Int).toNat (K.fill z) (K.fill z).size) ([])] (fun _ => [(i2.1, (E.pt i2.2 :: Q.S.cells Q.z0)), (j4.1, (Q.S.cells Q.z0 ++ [E.pt j4.2])), (g1, (Q.S.cells s ++ [.int .u8 x0, .int .u8 x1, .int .u8 x2, .int .u8 x3, E.u z, E.u a, .string code]))]) (fun _ => [R.It j4.2 ((M.V.new (M.np 4) true).poke (0 : Int).toNat (K.fill z) (K.fill z).size), M.It i2.2 ((M.V.new (M.np 4) true).poke (0 : Int).toNat (K.fill z) (K.fill z).size) ([])]) (J_Poke 0 (K.fill z) (by decide) (by rw [K.fill_size]; decide) (m := j4.2) (V := (M.V.new (M.np 4) true))) (by kernel_rfl) (A.pn [3, 0, 1, 2, 4]) (fun _ => A.pm [1, 2, 3, 0, 4] (by kernel_rfl) (by kernel_rfl)) (fun w _ => by kernel_rfl) (by kernel_rfl) (fun _ hd8 => E.To.code (E.wk [(1, E.pt g1), (2, .pointer none), (3, .pointer none), (4, E.pt i2.1), (5, E.pt j4.1), (7, .string (K.cut code))] [(i2.1, (E.pt i2.2 :: Q.S.cells Q.z0)), (j4.1, (Q.S.cells Q.z0 ++ [E.pt j4.2])), (g1, (Q.S.cells s ++ [.int .u8 x0, .int .u8 x1, .int .u8 x2, .int .u8 x3, E.u z, E.u a, .string code]))] Nz.sub (E.sr (E.op (E.pt i2.1) (E.op (.pointer (some ⟨g1, 29, none⟩)) (E.li (E.u a) 2 rfl rfl (E.op (.string (K.cut code)) (A.G.call (I := Unit) (D := fun _ => True) (V := fun _ => .tuple #[]) (q := fun _ => [A.blk i2.1 (E.pt i2.2 :: Q.S.cells Q.z0), M.It i2.2 (K.bW z a code) ([])]) [A.blk j4.1 (Q.S.cells Q.z0 ++ [E.pt j4.2]), A.blk g1 (Q.S.cells s ++ [.int .u8 x0, .int .u8 x1, .int .u8 x2, .int .u8 x3, E.u z, E.u a, .string code]), R.It j4.2 ((M.V.new (M.np 4) true).poke (0 : Int).toNat (K.fill z) (K.fill z).size)] (fun _ => [(i2.1, (E.pt i2.2 :: Q.S.cells Q.z0)), (j4.1, (Q.S.cells Q.z0 ++ [E.pt j4.2])), (g1, (Q.S.cells s ++ [.int .u8 x0, .int .u8 x1, .int .u8 x2, .int .u8 x3, E.u z, E.u a, .string code]))]) (fun _ => [R.It j4.2 ((M.V.new (M.np 4) true).poke (0 : Int).toNat (K.fill z) (K.fill z).size), M.It i2.2 (K.bW z a code) ([])]) (KPoke a ha (K.cut code) (by have := K.cut_size code; omega) (c := i2.1) (m := i2.2) (s := Q.z0) (V := ((M.V.new (M.np 4) true).poke (0 : Int).toNat (K.fill z) (K.fill z).size))) (by kernel_rfl) (A.pn [0, 4, 1, 2, 3]) (fun _ => A.pm [0, 2, 3, 4, 1] (by kernel_rfl) (by kernel_rfl)) (fun w _ => by kernel_rfl) (by kernel_rfl) (fun _ hd9 => E.To.code (E.C.joint (fun J up dn => ?_))))))))))))
 have rest : J [(1, E.pt g1), (2, .pointer none), (3, .pointer none), (4, E.pt i2.1), (5, E.pt j4.1)] (A.X w oo aa [R.It j4.2 (K.bW z a code), M.It i2.2 (K.bW z a code) ([])]) [(i2.1, (E.pt i2.2 :: Q.S.cells Q.z0)), (j4.1, (Q.S.cells Q.z0 ++ [E.pt j4.2])), (g1, (Q.S.cells s ++ [.int .u8 x0, .int .u8 x1, .int .u8 x2, .int .u8 x3, E.u z, E.u a, .string code]))] := by
  refine up _ _ _ (E.C.seq (E.sr (E.op (E.i 0) (E.To.code (E.C.block (E.C.rounds 4 (E.C.seq (E.sr (E.op (E.i 0) (E.op (.bool true) (E.To.code ?_)))))))))))
  refine E.C.condT (by kernel_rfl) (by kernel_rfl) (E.C.skip (E.To.code (E.C.seq (E.C.block (E.sr (E.op (E.pt i2.1) (E.op (E.i 0) (E.op (E.i 0) (E.op (.pointer (some ⟨g1, 24, none⟩)) (E.op (.pointer (some ⟨g1, 24, none⟩)) (E.li (.int .u8 x0) 2 rfl rfl (E.vl (E.i x0) (fun w h => E.run_as (a := E.i (IntKind.wrap .i64 x0)) (by kernel_rfl) (congrArg (Value.int .i64) (IntWalk.i64_in _ (by omega)))) ?_))))))))))))
  refine A.G.call (I := Unit) (D := fun _ => True) (V := fun _ => .tuple #[]) (q := fun _ => [A.blk i2.1 (E.pt i2.2 :: Q.S.cells Q.z0), M.It i2.2 ((K.bW z a code).prot 0 x0) ([])]) [A.blk j4.1 (Q.S.cells Q.z0 ++ [E.pt j4.2]), A.blk g1 (Q.S.cells s ++ [.int .u8 x0, .int .u8 x1, .int .u8 x2, .int .u8 x3, E.u z, E.u a, .string code]), R.It j4.2 (K.bW z a code)] (fun _ => [(i2.1, (E.pt i2.2 :: Q.S.cells Q.z0)), (j4.1, (Q.S.cells Q.z0 ++ [E.pt j4.2])), (g1, (Q.S.cells s ++ [.int .u8 x0, .int .u8 x1, .int .u8 x2, .int .u8 x3, E.u z, E.u a, .string code]))]) (fun _ => [R.It j4.2 (K.bW z a code), M.It i2.2 ((K.bW z a code).prot 0 x0) ([])]) (KProtect 0 x0 (c := i2.1) (m := i2.2) (s := Q.z0) (V := (K.bW z a code))) (by kernel_rfl) (A.pn [0, 4, 1, 2, 3]) (fun _ => A.pm [0, 2, 3, 4, 1] (by kernel_rfl) (by kernel_rfl)) (fun w _ => by kernel_rfl) (by kernel_rfl) (fun _ hd10 => E.To.code (E.C.held (A.Y [A.blk j4.1 (Q.S.cells Q.z0 ++ [E.pt j4.2]), A.blk g1 (Q.S.cells s ++ [.int .u8 x0, .int .u8 x1, .int .u8 x2, .int .u8 x3, E.u z, E.u a, .string code])]) (by kernel_rfl) (E.tk 0 (E.pt j4.1) rfl (fun w h => A.hq [1, 2] [0, 3, 4] h) (E.tk 1 (E.pt j4.1) rfl (fun w h => A.hq [1, 2] [0, 3, 4] h) (E.tk 2 (.pointer (some ⟨j4.1, 24, none⟩)) rfl (fun w h => A.hq [1, 2] [0, 3, 4] h) (E.tj 3 (E.pt j4.2) rfl (fun w h => A.hq [1, 2] [0, 3, 4] h) (fun w h => A.Y.bld h (k := 0) (j := 24) rfl (by kernel_rfl) (by kernel_rfl)) (E.tk 4 (E.i 0) rfl (fun w h => A.hq [1, 2] [0, 3, 4] h) (E.tk 5 (E.i 0) rfl (fun w h => A.hq [1, 2] [0, 3, 4] h) (E.tk 6 (.pointer (some ⟨g1, 24, none⟩)) rfl (fun w h => A.hq [1, 2] [0, 3, 4] h) (E.tk 7 (.pointer (some ⟨g1, 24, none⟩)) rfl (fun w h => A.hq [1, 2] [0, 3, 4] h) (E.tj 8 (.int .u8 x0) rfl (fun w h => A.hq [1, 2] [0, 3, 4] h) (fun w h => A.Y.bld h (k := 1) (j := 24) rfl (by kernel_rfl) (by kernel_rfl)) ?_)))))))))))
  refine E.tj 9 (E.i x0) rfl (fun w h => A.hq [1, 2] [0, 3, 4] h) (fun w h => E.run_as (a := E.i (IntKind.wrap .i64 x0)) (by kernel_rfl) (congrArg (Value.int .i64) (IntWalk.i64_in _ (by omega)))) (E.al 10 rfl (A.G.call (I := Unit) (D := fun _ => True) (V := fun _ => .tuple #[]) (q := fun _ => [R.It j4.2 ((K.bW z a code).prot 0 x0)]) [A.blk i2.1 (E.pt i2.2 :: Q.S.cells Q.z0), A.blk j4.1 (Q.S.cells Q.z0 ++ [E.pt j4.2]), A.blk g1 (Q.S.cells s ++ [.int .u8 x0, .int .u8 x1, .int .u8 x2, .int .u8 x3, E.u z, E.u a, .string code]), M.It i2.2 ((K.bW z a code).prot 0 x0) ([])] (fun _ => [(i2.1, (E.pt i2.2 :: Q.S.cells Q.z0)), (j4.1, (Q.S.cells Q.z0 ++ [E.pt j4.2])), (g1, (Q.S.cells s ++ [.int .u8 x0, .int .u8 x1, .int .u8 x2, .int .u8 x3, E.u z, E.u a, .string code]))]) (fun _ => [R.It j4.2 ((K.bW z a code).prot 0 x0), M.It i2.2 ((K.bW z a code).prot 0 x0) ([])]) (B_Protect 0 x0 (r := j4.2) (V := (K.bW z a code))) (by kernel_rfl) (A.pn [3, 0, 1, 2, 4]) (fun _ => A.pm [1, 2, 3, 0, 4] (by kernel_rfl) (by kernel_rfl)) (fun w _ => by kernel_rfl) (by kernel_rfl) (fun _ hd11 => E.H.back (fun w h => A.hq [1, 2] [0, 3, 4] h) (E.H.done (by kernel_rfl) (E.P.nb (E.To.code (E.C.region (E.op (E.i 0) (E.op (E.i 1) (E.op (E.i 1) (E.To.rounds 3 (E.wk [(1, E.pt g1), (2, .pointer none), (3, .pointer none), (4, E.pt i2.1), (5, E.pt j4.1), (8, E.i 1), (43, E.i 0), (44, .bool true), (45, E.i 0), (46, E.i 1), (47, E.pt i2.1), (48, E.i 0), (49, E.i 0), (50, .pointer (some ⟨g1, 24, none⟩)), (51, .pointer (some ⟨g1, 24, none⟩)), (52, .int .u8 x0), (53, E.i x0), (55, E.pt j4.1), (56, E.pt j4.1), (57, .pointer (some ⟨j4.1, 24, none⟩)), (58, E.pt j4.2), (59, E.i 0), (60, E.i 0), (61, .pointer (some ⟨g1, 24, none⟩)), (62, .pointer (some ⟨g1, 24, none⟩)), (63, .int .u8 x0), (64, E.i x0)] [(i2.1, (E.pt i2.2 :: Q.S.cells Q.z0)), (j4.1, (Q.S.cells Q.z0 ++ [E.pt j4.2])), (g1, (Q.S.cells s ++ [.int .u8 x0, .int .u8 x1, .int .u8 x2, .int .u8 x3, E.u z, E.u a, .string code]))] Nz.sub ?_))))))))))))
  refine E.C.seq (E.sr (E.op (E.i 1) (E.op (.bool true) (E.To.code (E.C.condT (by kernel_rfl) (by kernel_rfl) (E.C.skip (E.To.code (E.C.seq (E.C.block (E.sr (E.op (E.pt i2.1) (E.op (E.i 1) ?_))))))))))))
  refine E.op (E.i 1) (E.op (.pointer (some ⟨g1, 24, none⟩)) (E.op (.pointer (some ⟨g1, 25, none⟩)) (E.li (.int .u8 x1) 2 rfl rfl (E.vl (E.i x1) (fun w h => E.run_as (a := E.i (IntKind.wrap .i64 x1)) (by kernel_rfl) (congrArg (Value.int .i64) (IntWalk.i64_in _ (by omega)))) (A.G.call (I := Unit) (D := fun _ => True) (V := fun _ => .tuple #[]) (q := fun _ => [A.blk i2.1 (E.pt i2.2 :: Q.S.cells Q.z0), M.It i2.2 (((K.bW z a code).prot 0 x0).prot 1 x1) ([])]) [A.blk j4.1 (Q.S.cells Q.z0 ++ [E.pt j4.2]), A.blk g1 (Q.S.cells s ++ [.int .u8 x0, .int .u8 x1, .int .u8 x2, .int .u8 x3, E.u z, E.u a, .string code]), R.It j4.2 ((K.bW z a code).prot 0 x0)] (fun _ => [(i2.1, (E.pt i2.2 :: Q.S.cells Q.z0)), (j4.1, (Q.S.cells Q.z0 ++ [E.pt j4.2])), (g1, (Q.S.cells s ++ [.int .u8 x0, .int .u8 x1, .int .u8 x2, .int .u8 x3, E.u z, E.u a, .string code]))]) (fun _ => [R.It j4.2 ((K.bW z a code).prot 0 x0), M.It i2.2 (((K.bW z a code).prot 0 x0).prot 1 x1) ([])]) (KProtect 1 x1 (c := i2.1) (m := i2.2) (s := Q.z0) (V := ((K.bW z a code).prot 0 x0))) (by kernel_rfl) (A.pn [0, 4, 1, 2, 3]) (fun _ => A.pm [0, 2, 3, 4, 1] (by kernel_rfl) (by kernel_rfl)) (fun w _ => by kernel_rfl) (by kernel_rfl) (fun _ hd12 => E.To.code (E.C.held (A.Y [A.blk j4.1 (Q.S.cells Q.z0 ++ [E.pt j4.2]), A.blk g1 (Q.S.cells s ++ [.int .u8 x0, .int .u8 x1, .int .u8 x2, .int .u8 x3, E.u z, E.u a, .string code])]) (by kernel_rfl) (E.tk 0 (E.pt j4.1) rfl (fun w h => A.hq [1, 2] [0, 3, 4] h) (E.tk 1 (E.pt j4.1) rfl (fun w h => A.hq [1, 2] [0, 3, 4] h) (E.tk 2 (.pointer (some ⟨j4.1, 24, none⟩)) rfl (fun w h => A.hq [1, 2] [0, 3, 4] h) (E.tj 3 (E.pt j4.2) rfl (fun w h => A.hq [1, 2] [0, 3, 4] h) (fun w h => A.Y.bld h (k := 0) (j := 24) rfl (by kernel_rfl) (by kernel_rfl)) ?_)))))))))))
  refine E.tk 4 (E.i 1) rfl (fun w h => A.hq [1, 2] [0, 3, 4] h) (E.tk 5 (E.i 1) rfl (fun w h => A.hq [1, 2] [0, 3, 4] h) (E.tk 6 (.pointer (some ⟨g1, 24, none⟩)) rfl (fun w h => A.hq [1, 2] [0, 3, 4] h) (E.tk 7 (.pointer (some ⟨g1, 25, none⟩)) rfl (fun w h => A.hq [1, 2] [0, 3, 4] h) (E.tj 8 (.int .u8 x1) rfl (fun w h => A.hq [1, 2] [0, 3, 4] h) (fun w h => A.Y.bld h (k := 1) (j := 25) rfl (by kernel_rfl) (by kernel_rfl)) (E.tj 9 (E.i x1) rfl (fun w h => A.hq [1, 2] [0, 3, 4] h) (fun w h => E.run_as (a := E.i (IntKind.wrap .i64 x1)) (by kernel_rfl) (congrArg (Value.int .i64) (IntWalk.i64_in _ (by omega)))) (E.al 10 rfl (A.G.call (I := Unit) (D := fun _ => True) (V := fun _ => .tuple #[]) (q := fun _ => [R.It j4.2 (((K.bW z a code).prot 0 x0).prot 1 x1)]) [A.blk i2.1 (E.pt i2.2 :: Q.S.cells Q.z0), A.blk j4.1 (Q.S.cells Q.z0 ++ [E.pt j4.2]), A.blk g1 (Q.S.cells s ++ [.int .u8 x0, .int .u8 x1, .int .u8 x2, .int .u8 x3, E.u z, E.u a, .string code]), M.It i2.2 (((K.bW z a code).prot 0 x0).prot 1 x1) ([])] (fun _ => [(i2.1, (E.pt i2.2 :: Q.S.cells Q.z0)), (j4.1, (Q.S.cells Q.z0 ++ [E.pt j4.2])), (g1, (Q.S.cells s ++ [.int .u8 x0, .int .u8 x1, .int .u8 x2, .int .u8 x3, E.u z, E.u a, .string code]))]) (fun _ => [R.It j4.2 (((K.bW z a code).prot 0 x0).prot 1 x1), M.It i2.2 (((K.bW z a code).prot 0 x0).prot 1 x1) ([])]) (B_Protect 1 x1 (r := j4.2) (V := ((K.bW z a code).prot 0 x0))) (by kernel_rfl) (A.pn [3, 0, 1, 2, 4]) (fun _ => A.pm [1, 2, 3, 0, 4] (by kernel_rfl) (by kernel_rfl)) (fun w _ => by kernel_rfl) (by kernel_rfl) (fun _ hd13 => E.H.back (fun w h => A.hq [1, 2] [0, 3, 4] h) (E.H.done (by kernel_rfl) (E.P.nb (E.To.code (E.C.region ?_))))))))))))
  refine E.op (E.i 1) (E.op (E.i 2) (E.op (E.i 2) (E.To.rounds 2 (E.wk [(1, E.pt g1), (2, .pointer none), (3, .pointer none), (4, E.pt i2.1), (5, E.pt j4.1), (8, E.i 2), (43, E.i 1), (44, .bool true), (45, E.i 1), (46, E.i 2), (47, E.pt i2.1), (48, E.i 1), (49, E.i 1), (50, .pointer (some ⟨g1, 24, none⟩)), (51, .pointer (some ⟨g1, 25, none⟩)), (52, .int .u8 x1), (53, E.i x1), (55, E.pt j4.1), (56, E.pt j4.1), (57, .pointer (some ⟨j4.1, 24, none⟩)), (58, E.pt j4.2), (59, E.i 1), (60, E.i 1), (61, .pointer (some ⟨g1, 24, none⟩)), (62, .pointer (some ⟨g1, 25, none⟩)), (63, .int .u8 x1), (64, E.i x1)] [(i2.1, (E.pt i2.2 :: Q.S.cells Q.z0)), (j4.1, (Q.S.cells Q.z0 ++ [E.pt j4.2])), (g1, (Q.S.cells s ++ [.int .u8 x0, .int .u8 x1, .int .u8 x2, .int .u8 x3, E.u z, E.u a, .string code]))] Nz.sub (E.C.seq (E.sr (E.op (E.i 2) (E.op (.bool true) (E.To.code (E.C.condT (by kernel_rfl) (by kernel_rfl) (E.C.skip (E.To.code ?_))))))))))))
  refine E.C.seq (E.C.block (E.sr (E.op (E.pt i2.1) (E.op (E.i 2) (E.op (E.i 2) (E.op (.pointer (some ⟨g1, 24, none⟩)) (E.op (.pointer (some ⟨g1, 26, none⟩)) (E.li (.int .u8 x2) 2 rfl rfl (E.vl (E.i x2) (fun w h => E.run_as (a := E.i (IntKind.wrap .i64 x2)) (by kernel_rfl) (congrArg (Value.int .i64) (IntWalk.i64_in _ (by omega)))) (A.G.call (I := Unit) (D := fun _ => True) (V := fun _ => .tuple #[]) (q := fun _ => [A.blk i2.1 (E.pt i2.2 :: Q.S.cells Q.z0), M.It i2.2 ((((K.bW z a code).prot 0 x0).prot 1 x1).prot 2 x2) ([])]) [A.blk j4.1 (Q.S.cells Q.z0 ++ [E.pt j4.2]), A.blk g1 (Q.S.cells s ++ [.int .u8 x0, .int .u8 x1, .int .u8 x2, .int .u8 x3, E.u z, E.u a, .string code]), R.It j4.2 (((K.bW z a code).prot 0 x0).prot 1 x1)] (fun _ => [(i2.1, (E.pt i2.2 :: Q.S.cells Q.z0)), (j4.1, (Q.S.cells Q.z0 ++ [E.pt j4.2])), (g1, (Q.S.cells s ++ [.int .u8 x0, .int .u8 x1, .int .u8 x2, .int .u8 x3, E.u z, E.u a, .string code]))]) (fun _ => [R.It j4.2 (((K.bW z a code).prot 0 x0).prot 1 x1), M.It i2.2 ((((K.bW z a code).prot 0 x0).prot 1 x1).prot 2 x2) ([])]) (KProtect 2 x2 (c := i2.1) (m := i2.2) (s := Q.z0) (V := (((K.bW z a code).prot 0 x0).prot 1 x1))) (by kernel_rfl) (A.pn [0, 4, 1, 2, 3]) (fun _ => A.pm [0, 2, 3, 4, 1] (by kernel_rfl) (by kernel_rfl)) (fun w _ => by kernel_rfl) (by kernel_rfl) (fun _ hd14 => E.To.code ?_)))))))))))
  refine E.C.held (A.Y [A.blk j4.1 (Q.S.cells Q.z0 ++ [E.pt j4.2]), A.blk g1 (Q.S.cells s ++ [.int .u8 x0, .int .u8 x1, .int .u8 x2, .int .u8 x3, E.u z, E.u a, .string code])]) (by kernel_rfl) (E.tk 0 (E.pt j4.1) rfl (fun w h => A.hq [1, 2] [0, 3, 4] h) (E.tk 1 (E.pt j4.1) rfl (fun w h => A.hq [1, 2] [0, 3, 4] h) (E.tk 2 (.pointer (some ⟨j4.1, 24, none⟩)) rfl (fun w h => A.hq [1, 2] [0, 3, 4] h) (E.tj 3 (E.pt j4.2) rfl (fun w h => A.hq [1, 2] [0, 3, 4] h) (fun w h => A.Y.bld h (k := 0) (j := 24) rfl (by kernel_rfl) (by kernel_rfl)) (E.tk 4 (E.i 2) rfl (fun w h => A.hq [1, 2] [0, 3, 4] h) (E.tk 5 (E.i 2) rfl (fun w h => A.hq [1, 2] [0, 3, 4] h) (E.tk 6 (.pointer (some ⟨g1, 24, none⟩)) rfl (fun w h => A.hq [1, 2] [0, 3, 4] h) (E.tk 7 (.pointer (some ⟨g1, 26, none⟩)) rfl (fun w h => A.hq [1, 2] [0, 3, 4] h) (E.tj 8 (.int .u8 x2) rfl (fun w h => A.hq [1, 2] [0, 3, 4] h) (fun w h => A.Y.bld h (k := 1) (j := 26) rfl (by kernel_rfl) (by kernel_rfl)) (E.tj 9 (E.i x2) rfl (fun w h => A.hq [1, 2] [0, 3, 4] h) (fun w h => E.run_as (a := E.i (IntKind.wrap .i64 x2)) (by kernel_rfl) (congrArg (Value.int .i64) (IntWalk.i64_in _ (by omega)))) (E.al 10 rfl ?_)))))))))))
  refine A.G.call (I := Unit) (D := fun _ => True) (V := fun _ => .tuple #[]) (q := fun _ => [R.It j4.2 ((((K.bW z a code).prot 0 x0).prot 1 x1).prot 2 x2)]) [A.blk i2.1 (E.pt i2.2 :: Q.S.cells Q.z0), A.blk j4.1 (Q.S.cells Q.z0 ++ [E.pt j4.2]), A.blk g1 (Q.S.cells s ++ [.int .u8 x0, .int .u8 x1, .int .u8 x2, .int .u8 x3, E.u z, E.u a, .string code]), M.It i2.2 ((((K.bW z a code).prot 0 x0).prot 1 x1).prot 2 x2) ([])] (fun _ => [(i2.1, (E.pt i2.2 :: Q.S.cells Q.z0)), (j4.1, (Q.S.cells Q.z0 ++ [E.pt j4.2])), (g1, (Q.S.cells s ++ [.int .u8 x0, .int .u8 x1, .int .u8 x2, .int .u8 x3, E.u z, E.u a, .string code]))]) (fun _ => [R.It j4.2 ((((K.bW z a code).prot 0 x0).prot 1 x1).prot 2 x2), M.It i2.2 ((((K.bW z a code).prot 0 x0).prot 1 x1).prot 2 x2) ([])]) (B_Protect 2 x2 (r := j4.2) (V := (((K.bW z a code).prot 0 x0).prot 1 x1))) (by kernel_rfl) (A.pn [3, 0, 1, 2, 4]) (fun _ => A.pm [1, 2, 3, 0, 4] (by kernel_rfl) (by kernel_rfl)) (fun w _ => by kernel_rfl) (by kernel_rfl) (fun _ hd15 => E.H.back (fun w h => A.hq [1, 2] [0, 3, 4] h) (E.H.done (by kernel_rfl) (E.P.nb (E.To.code (E.C.region (E.op (E.i 2) (E.op (E.i 3) (E.op (E.i 3) (E.To.rounds 1 (E.wk [(1, E.pt g1), (2, .pointer none), (3, .pointer none), (4, E.pt i2.1), (5, E.pt j4.1), (8, E.i 3), (43, E.i 2), (44, .bool true), (45, E.i 2), (46, E.i 3), (47, E.pt i2.1), (48, E.i 2), (49, E.i 2), (50, .pointer (some ⟨g1, 24, none⟩)), (51, .pointer (some ⟨g1, 26, none⟩)), (52, .int .u8 x2), (53, E.i x2), (55, E.pt j4.1), (56, E.pt j4.1), (57, .pointer (some ⟨j4.1, 24, none⟩)), (58, E.pt j4.2), (59, E.i 2), (60, E.i 2), (61, .pointer (some ⟨g1, 24, none⟩)), (62, .pointer (some ⟨g1, 26, none⟩)), (63, .int .u8 x2), (64, E.i x2)] [(i2.1, (E.pt i2.2 :: Q.S.cells Q.z0)), (j4.1, (Q.S.cells Q.z0 ++ [E.pt j4.2])), (g1, (Q.S.cells s ++ [.int .u8 x0, .int .u8 x1, .int .u8 x2, .int .u8 x3, E.u z, E.u a, .string code]))] Nz.sub (E.C.seq (E.sr ?_))))))))))))
  refine E.op (E.i 3) (E.op (.bool true) (E.To.code (E.C.condT (by kernel_rfl) (by kernel_rfl) (E.C.skip (E.To.code (E.C.seq (E.C.block (E.sr (E.op (E.pt i2.1) (E.op (E.i 3) (E.op (E.i 3) (E.op (.pointer (some ⟨g1, 24, none⟩)) ?_))))))))))))
  refine E.op (.pointer (some ⟨g1, 27, none⟩)) (E.li (.int .u8 x3) 2 rfl rfl (E.vl (E.i x3) (fun w h => E.run_as (a := E.i (IntKind.wrap .i64 x3)) (by kernel_rfl) (congrArg (Value.int .i64) (IntWalk.i64_in _ (by omega)))) (A.G.call (I := Unit) (D := fun _ => True) (V := fun _ => .tuple #[]) (q := fun _ => [A.blk i2.1 (E.pt i2.2 :: Q.S.cells Q.z0), M.It i2.2 (K.bV x0 x1 x2 x3 z a code) ([])]) [A.blk j4.1 (Q.S.cells Q.z0 ++ [E.pt j4.2]), A.blk g1 (Q.S.cells s ++ [.int .u8 x0, .int .u8 x1, .int .u8 x2, .int .u8 x3, E.u z, E.u a, .string code]), R.It j4.2 ((((K.bW z a code).prot 0 x0).prot 1 x1).prot 2 x2)] (fun _ => [(i2.1, (E.pt i2.2 :: Q.S.cells Q.z0)), (j4.1, (Q.S.cells Q.z0 ++ [E.pt j4.2])), (g1, (Q.S.cells s ++ [.int .u8 x0, .int .u8 x1, .int .u8 x2, .int .u8 x3, E.u z, E.u a, .string code]))]) (fun _ => [R.It j4.2 ((((K.bW z a code).prot 0 x0).prot 1 x1).prot 2 x2), M.It i2.2 (K.bV x0 x1 x2 x3 z a code) ([])]) (KProtect 3 x3 (c := i2.1) (m := i2.2) (s := Q.z0) (V := ((((K.bW z a code).prot 0 x0).prot 1 x1).prot 2 x2))) (by kernel_rfl) (A.pn [0, 4, 1, 2, 3]) (fun _ => A.pm [0, 2, 3, 4, 1] (by kernel_rfl) (by kernel_rfl)) (fun w _ => by kernel_rfl) (by kernel_rfl) (fun _ hd16 => E.To.code (E.C.held (A.Y [A.blk j4.1 (Q.S.cells Q.z0 ++ [E.pt j4.2]), A.blk g1 (Q.S.cells s ++ [.int .u8 x0, .int .u8 x1, .int .u8 x2, .int .u8 x3, E.u z, E.u a, .string code])]) (by kernel_rfl) (E.tk 0 (E.pt j4.1) rfl (fun w h => A.hq [1, 2] [0, 3, 4] h) (E.tk 1 (E.pt j4.1) rfl (fun w h => A.hq [1, 2] [0, 3, 4] h) (E.tk 2 (.pointer (some ⟨j4.1, 24, none⟩)) rfl (fun w h => A.hq [1, 2] [0, 3, 4] h) (E.tj 3 (E.pt j4.2) rfl (fun w h => A.hq [1, 2] [0, 3, 4] h) (fun w h => A.Y.bld h (k := 0) (j := 24) rfl (by kernel_rfl) (by kernel_rfl)) (E.tk 4 (E.i 3) rfl (fun w h => A.hq [1, 2] [0, 3, 4] h) (E.tk 5 (E.i 3) rfl (fun w h => A.hq [1, 2] [0, 3, 4] h) ?_)))))))))))
  refine E.tk 6 (.pointer (some ⟨g1, 24, none⟩)) rfl (fun w h => A.hq [1, 2] [0, 3, 4] h) (E.tk 7 (.pointer (some ⟨g1, 27, none⟩)) rfl (fun w h => A.hq [1, 2] [0, 3, 4] h) (E.tj 8 (.int .u8 x3) rfl (fun w h => A.hq [1, 2] [0, 3, 4] h) (fun w h => A.Y.bld h (k := 1) (j := 27) rfl (by kernel_rfl) (by kernel_rfl)) (E.tj 9 (E.i x3) rfl (fun w h => A.hq [1, 2] [0, 3, 4] h) (fun w h => E.run_as (a := E.i (IntKind.wrap .i64 x3)) (by kernel_rfl) (congrArg (Value.int .i64) (IntWalk.i64_in _ (by omega)))) (E.al 10 rfl (A.G.call (I := Unit) (D := fun _ => True) (V := fun _ => .tuple #[]) (q := fun _ => [R.It j4.2 (K.bV x0 x1 x2 x3 z a code)]) [A.blk i2.1 (E.pt i2.2 :: Q.S.cells Q.z0), A.blk j4.1 (Q.S.cells Q.z0 ++ [E.pt j4.2]), A.blk g1 (Q.S.cells s ++ [.int .u8 x0, .int .u8 x1, .int .u8 x2, .int .u8 x3, E.u z, E.u a, .string code]), M.It i2.2 (K.bV x0 x1 x2 x3 z a code) ([])] (fun _ => [(i2.1, (E.pt i2.2 :: Q.S.cells Q.z0)), (j4.1, (Q.S.cells Q.z0 ++ [E.pt j4.2])), (g1, (Q.S.cells s ++ [.int .u8 x0, .int .u8 x1, .int .u8 x2, .int .u8 x3, E.u z, E.u a, .string code]))]) (fun _ => [R.It j4.2 (K.bV x0 x1 x2 x3 z a code), M.It i2.2 (K.bV x0 x1 x2 x3 z a code) ([])]) (B_Protect 3 x3 (r := j4.2) (V := ((((K.bW z a code).prot 0 x0).prot 1 x1).prot 2 x2))) (by kernel_rfl) (A.pn [3, 0, 1, 2, 4]) (fun _ => A.pm [1, 2, 3, 0, 4] (by kernel_rfl) (by kernel_rfl)) (fun w _ => by kernel_rfl) (by kernel_rfl) (fun _ hd17 => E.H.back (fun w h => A.hq [1, 2] [0, 3, 4] h) (E.H.done (by kernel_rfl) (E.P.nb (E.To.code (E.C.region (E.op (E.i 3) (E.op (E.i 4) ?_))))))))))))
  refine E.op (E.i 4) (E.To.rounds 0 (E.wk [(1, E.pt g1), (2, .pointer none), (3, .pointer none), (4, E.pt i2.1), (5, E.pt j4.1), (8, E.i 4), (43, E.i 3), (44, .bool true), (45, E.i 3), (46, E.i 4), (47, E.pt i2.1), (48, E.i 3), (49, E.i 3), (50, .pointer (some ⟨g1, 24, none⟩)), (51, .pointer (some ⟨g1, 27, none⟩)), (52, .int .u8 x3), (53, E.i x3), (55, E.pt j4.1), (56, E.pt j4.1), (57, .pointer (some ⟨j4.1, 24, none⟩)), (58, E.pt j4.2), (59, E.i 3), (60, E.i 3), (61, .pointer (some ⟨g1, 24, none⟩)), (62, .pointer (some ⟨g1, 27, none⟩)), (63, .int .u8 x3), (64, E.i x3)] [(i2.1, (E.pt i2.2 :: Q.S.cells Q.z0)), (j4.1, (Q.S.cells Q.z0 ++ [E.pt j4.2])), (g1, (Q.S.cells s ++ [.int .u8 x0, .int .u8 x1, .int .u8 x2, .int .u8 x3, E.u z, E.u a, .string code]))] Nz.sub (E.C.seq (E.sr (E.op (E.i 4) (E.op (.bool false) (E.To.code (E.C.condF (by kernel_rfl) (by kernel_rfl) (E.C.exit (E.P.et (E.P.et (E.P.eh (E.To.code (E.wk [(1, E.pt g1), (2, .pointer none), (3, .pointer none), (4, E.pt i2.1), (5, E.pt j4.1)] [(i2.1, (E.pt i2.2 :: Q.S.cells Q.z0)), (j4.1, (Q.S.cells Q.z0 ++ [E.pt j4.2])), (g1, (Q.S.cells s ++ [.int .u8 x0, .int .u8 x1, .int .u8 x2, .int .u8 x3, E.u z, E.u a, .string code]))] Nz.sub (E.sr ?_)))))))))))))))
  refine E.op (E.pt i2.1) (E.op (E.pt g1) (E.li (Q.S.val s) 2 rfl rfl (A.G.call (I := Unit) (D := fun _ => True) (V := fun _ => .tuple #[]) (q := fun _ => [A.blk i2.1 (E.pt i2.2 :: Q.S.cells (K.norm s))]) [A.blk j4.1 (Q.S.cells Q.z0 ++ [E.pt j4.2]), A.blk g1 (Q.S.cells s ++ [.int .u8 x0, .int .u8 x1, .int .u8 x2, .int .u8 x3, E.u z, E.u a, .string code]), R.It j4.2 (K.bV x0 x1 x2 x3 z a code), M.It i2.2 (K.bV x0 x1 x2 x3 z a code) ([])] (fun _ => [(i2.1, (E.pt i2.2 :: Q.S.cells (K.norm s))), (j4.1, (Q.S.cells Q.z0 ++ [E.pt j4.2])), (g1, (Q.S.cells s ++ [.int .u8 x0, .int .u8 x1, .int .u8 x2, .int .u8 x3, E.u z, E.u a, .string code]))]) (fun _ => [R.It j4.2 (K.bV x0 x1 x2 x3 z a code), M.It i2.2 (K.bV x0 x1 x2 x3 z a code) ([])]) (CSet (c := i2.1) (m := i2.2) (s0 := Q.z0) s) (by kernel_rfl) (A.pn [0, 1, 2, 3, 4]) (fun _ => A.pm [0, 1, 2, 3, 4] (by kernel_rfl) (by kernel_rfl)) (fun w _ => by kernel_rfl) (by kernel_rfl) (fun _ hd18 => E.tr (E.op (E.pt j4.1) (E.op (E.pt g1) (E.li (Q.S.val s) 2 rfl rfl (E.ca (Q.S.val (K5.norm s)) (fun w h => A.cq [] [0, 1, 2, 3, 4] (Normal5 s) h) (E.op (E.pt j4.1) (E.op (E.pt j4.1) (E.st 1 (Q.S.cells (K5.norm s) ++ [E.pt j4.2]) rfl rfl ?_)))))))))))
  refine E.To.code (E.wk [(2, .pointer none), (3, .pointer none), (4, E.pt i2.1), (5, E.pt j4.1)] [(i2.1, (E.pt i2.2 :: Q.S.cells (K.norm s))), (j4.1, (Q.S.cells (K5.norm s) ++ [E.pt j4.2]))] Nz.sub (E.sr (E.op (E.pt i2.1) (E.op (E.pt j4.1) (E.op (E.pt i2.1) (E.op (E.pt j4.1) (E.To.code (E.C.ret (E.To.body (fn := Tryz.f16) [E.pt i2.1, E.pt j4.1] ?_ ?_)))))))))
  · exact ⟨⟨by kernel_rfl, by kernel_rfl⟩, ⟨by kernel_rfl, by kernel_rfl⟩, trivial⟩
  intro w h
  exact ⟨((i2.1, i2.2), (j4.1, j4.2)), trivial, rfl, A.dq [0, 3, 1, 2] [] h⟩
 refine E.C.held (A.Y [A.blk j4.1 (Q.S.cells Q.z0 ++ [E.pt j4.2]), A.blk g1 (Q.S.cells s ++ [.int .u8 x0, .int .u8 x1, .int .u8 x2, .int .u8 x3, E.u z, E.u a, .string code])]) (by kernel_rfl) (E.tk 0 (E.pt j4.1) rfl (fun w h => A.hq [1, 2] [0, 3, 4] h) (E.tk 1 (E.pt j4.1) rfl (fun w h => A.hq [1, 2] [0, 3, 4] h) (E.tk 2 (.pointer (some ⟨j4.1, 24, none⟩)) rfl (fun w h => A.hq [1, 2] [0, 3, 4] h) (E.tj 3 (E.pt j4.2) rfl (fun w h => A.hq [1, 2] [0, 3, 4] h) (fun w h => A.Y.bld h (k := 0) (j := 24) rfl (by kernel_rfl) (by kernel_rfl)) (E.tk 4 (.pointer (some ⟨g1, 29, none⟩)) rfl (fun w h => A.hq [1, 2] [0, 3, 4] h) (E.tj 5 (E.u a) rfl (fun w h => A.hq [1, 2] [0, 3, 4] h) (fun w h => A.Y.bld h (k := 1) (j := 29) rfl (by kernel_rfl) (by kernel_rfl)) (E.tk 6 (.string (K.cut code)) rfl (fun w h => A.hq [1, 2] [0, 3, 4] h) (E.al 7 rfl (A.G.call (I := Unit) (D := fun _ => True) (V := fun _ => .tuple #[]) (q := fun _ => [R.It j4.2 (K.bW z a code)]) [A.blk i2.1 (E.pt i2.2 :: Q.S.cells Q.z0), A.blk j4.1 (Q.S.cells Q.z0 ++ [E.pt j4.2]), A.blk g1 (Q.S.cells s ++ [.int .u8 x0, .int .u8 x1, .int .u8 x2, .int .u8 x3, E.u z, E.u a, .string code]), M.It i2.2 (K.bW z a code) ([])] (fun _ => [(i2.1, (E.pt i2.2 :: Q.S.cells Q.z0)), (j4.1, (Q.S.cells Q.z0 ++ [E.pt j4.2])), (g1, (Q.S.cells s ++ [.int .u8 x0, .int .u8 x1, .int .u8 x2, .int .u8 x3, E.u z, E.u a, .string code]))]) (fun _ => [R.It j4.2 (K.bW z a code), M.It i2.2 (K.bW z a code) ([])]) (J_Poke a (K.cut code) ha (by have := K.cut_size code; omega) (m := j4.2) (V := ((M.V.new (M.np 4) true).poke (0 : Int).toNat (K.fill z) (K.fill z).size))) (by kernel_rfl) (A.pn [3, 0, 1, 2, 4]) (fun _ => A.pm [1, 2, 3, 0, 4] (by kernel_rfl) (by kernel_rfl)) (fun w _ => by kernel_rfl) (by kernel_rfl) (fun _ hd10 => E.H.back (fun w h => A.hq [1, 2] [0, 3, 4] h) (E.H.done (by kernel_rfl) ?_)))))))))))
 exact fun a w h1 h2 => dn _ _ _ rest a w (h1.sub ⟨by kernel_rfl, by kernel_rfl⟩) (h2.less Nz.sub)
/-- What a step in progress keeps: the count of steps; a trap leaves the memory. -/
structure K.tp (t : Int) (V : M.V) (y : K.W × M.V) : Prop where
  st : y.1.s.st = t
  k : 0 ≤ y.1.k ∧ y.1.k ≤ 7 ∧ y.1.k ≠ 1
  mem : (y.1.k != 0) = true → y.2 = V
section
variable {x : K.W} {V : M.V} {t : Int} (hk : x.k = 0) (ht : x.s.st = t)
include hk ht
end
/-- What a step's trap may be; a trap leaves state and memory, every other step counts. -/
structure K.trp (s : Q.S) (V : M.V) (x : Q.S × Int × Int × M.V) : Prop where
  k : 0 ≤ x.2.1 ∧ x.2.1 ≤ 7 ∧ x.2.1 ≠ 1
  mem : (x.2.1 != 0) = true → x.2.2.2 = V
  st : (x.2.1 != 0) = false → x.1.st = IntKind.wrap .i64 (s.st + 1)
theorem K.trp.one {s : Q.S} {V : M.V} {x : Q.S × Int × Int × M.V} (h : K.trp s V x) : x.2.1 ≠ 1 := h.k.2.2
/-- The count of a run only matters by what is left. -/
theorem K.run_shift {a b : Int} : ∀ (f n m : Nat) {s : Q.S} {V : M.V}, a - ((n : Nat) : Int) = b - ((m : Nat) : Int) → K.run a f n s V = K.run b f m s V
  | 0, _, _, _, _, _ => rfl
  | f + 1, n, m, s, V, h => by
    rw [K.run, K.run, show decide (((n : Nat) : Int) ≥ a) = decide (((m : Nat) : Int) ≥ b) by rw [decide_eq_decide]; omega]
    have ih := K.run_shift (a := a) (b := b) f (n + 1) (m + 1) (s := (K.step s V).1) (V := (K.step s V).2.2.2) (by omega)
    rw [ih]
theorem A.tr_drop {P : Program} {f : FuncId} {args : Array Value} {I : Type} {p : List A.It} {D : I → Prop} {v : I → Value} {q r : I → List A.It} (h : A.Tr P f args p D v (fun i => q i ++ r i)) : A.Tr P f args p D v q := by
  intro w oo aa hh
  refine (h w oo aa hh).mono fun e w' ⟨i, hD, he, o', a', k, hc, hg⟩ => ?_
  obtain ⟨o1, a1, o2, a2, k1, k2, _, _, ho, ha⟩ := k.append
  exact ⟨i, hD, he, o1, a1, k1, hc, fun x hx hk => hg.1 x hx ((ho x).2 (.inl hk)), fun x hx hk => hg.2 x hx ((ha x).2 (.inl hk))⟩
theorem Both1 (s : Q.S) (x0 x1 x2 x3 z a : Int) (code : ByteArray) (ha : 0 ≤ a ∧ a < 4294967296) (h0 : 0 ≤ x0 ∧ x0 < 256) (h1 : 0 ≤ x1 ∧ x1 < 256) (h2 : 0 ≤ x2 ∧ x2 < 256) (h3 : 0 ≤ x3 ∧ x3 < 256) {S : Q.S} {V : M.V} (hS : K.norm s = S) (hV : K.bV x0 x1 x2 x3 z a code = V) : A.Tr Tryz.prog 16 #[.agg (Q.S.cells s ++ [Value.int .u8 x0, Value.int .u8 x1, Value.int .u8 x2, Value.int .u8 x3, Value.int .u32 z, Value.int .u32 a, Value.string code]).toArray] [] (I := (Nat × Nat) × (Nat × Nat)) (fun _ => True) (fun i => .tuple #[.pointer (some ⟨i.1.1, 0, none⟩), .pointer (some ⟨i.2.1, 0, none⟩)]) (fun i => [A.blk i.1.1 (.pointer (some ⟨i.1.2, 0, none⟩) :: Q.S.cells S), M.It i.1.2 V []]) := by
  subst hS; subst hV
  exact A.tr_drop (I := (Nat × Nat) × (Nat × Nat)) (q := fun i => [A.blk i.1.1 (Value.pointer (some ⟨i.1.2, 0, none⟩) :: Q.S.cells (K.norm s)), M.It i.1.2 (K.bV x0 x1 x2 x3 z a code) []]) (r := fun i => [A.blk i.2.1 (Q.S.cells (K5.norm s) ++ [Value.pointer (some ⟨i.2.2, 0, none⟩)]), R.It i.2.2 (K.bV x0 x1 x2 x3 z a code)]) (Both s x0 x1 x2 x3 z a code ha h0 h1 h2 h3)
def K.fmtB (n : Nat) : Bool :=
  (K.fmt n == none && R2.Format n == 0) || (K.fmt n == some 0 && R2.Format n == 1 && decide (n ≤ 4)) || (K.fmt n == some 1 && R2.Format n == 2 && decide (16 ≤ n ∧ n ≤ 21)) || (K.fmt n == some 2 && R2.Format n == 3 && decide (32 ≤ n ∧ n ≤ 46)) ||
  (K.fmt n == some 3 && R2.Format n == 4 && decide (48 ≤ n ∧ n ≤ 62)) || (K.fmt n == some 4 && R2.Format n == 5 && decide (64 ≤ n ∧ n ≤ 78)) || (K.fmt n == some 5 && R2.Format n == 6 && decide (80 ≤ n ∧ n ≤ 86)) ||
  (K.fmt n == some 6 && R2.Format n == 7 && decide (88 ≤ n ∧ n ≤ 94)) || (K.fmt n == some 7 && R2.Format n == 8 && decide (96 ≤ n ∧ n ≤ 109)) || (K.fmt n == some 8 && R2.Format n == 9 && decide (112 ≤ n ∧ n ≤ 113)) ||
  (K.fmt n == some 9 && R2.Format n == 10 && decide (n = 128)) || (K.fmt n == some 10 && R2.Format n == 11 && decide (n = 129)) || (K.fmt n == some 10 && R2.Format n == 12 && decide (n = 130))
theorem K.fmtB_all : ∀ n : Fin 131, K.fmtB n.val = true := by decide +kernel
theorem K.fmtF_none (op : Int) (h : op < 0 ∨ 130 < op) : ∀ m k, k + m ≤ 11 → K.fmtF op m k = none
  | 0, _, _ => rfl
  | m + 1, k, hk => by
    have hb : 0 ≤ K.lo k ∧ K.hi k ≤ 130 := by
      rcases (by omega : k = 0 ∨ k = 1 ∨ k = 2 ∨ k = 3 ∨ k = 4 ∨ k = 5 ∨ k = 6 ∨ k = 7 ∨ k = 8 ∨ k = 9 ∨ k = 10) with rfl | rfl | rfl | rfl | rfl | rfl | rfl | rfl | rfl | rfl | rfl <;> decide
    unfold K.fmtF
    rw [if_neg (by omega)]
    exact K.fmtF_none op h m (k + 1) (by omega)
theorem R2.Format_none (op : Int) (h : op < 0 ∨ 130 < op) : R2.Format op = 0 := by
  have hd : ∀ a b : Int, 0 ≤ a → b ≤ 130 → (decide (op ≥ a) && decide (op ≤ b)) = false := fun a b ha hb => by simp; omega
  have he : ((op == 112) || (op == 113)) = false := by simp; omega
  unfold R2.Format
  rw [hd 0 4 (by decide) (by decide), hd 16 21 (by decide) (by decide), hd 32 46 (by decide) (by decide), hd 48 62 (by decide) (by decide), hd 64 78 (by decide) (by decide), hd 80 86 (by decide) (by decide), hd 88 94 (by decide) (by decide), hd 96 109 (by decide) (by decide), hd 128 130 (by decide) (by decide), he]
  rfl
/-- The format of a number, in the program's count and in the reference's. -/
theorem K.fmt_cases (op : Int) : (K.fmt op = none ∧ R2.Format op = 0) ∨ (K.fmt op = some 0 ∧ R2.Format op = 1 ∧ 0 ≤ op ∧ op ≤ 4) ∨ (K.fmt op = some 1 ∧ R2.Format op = 2 ∧ 16 ≤ op ∧ op ≤ 21) ∨ (K.fmt op = some 2 ∧ R2.Format op = 3 ∧ 32 ≤ op ∧ op ≤ 46) ∨
    (K.fmt op = some 3 ∧ R2.Format op = 4 ∧ 48 ≤ op ∧ op ≤ 62) ∨ (K.fmt op = some 4 ∧ R2.Format op = 5 ∧ 64 ≤ op ∧ op ≤ 78) ∨ (K.fmt op = some 5 ∧ R2.Format op = 6 ∧ 80 ≤ op ∧ op ≤ 86) ∨ (K.fmt op = some 6 ∧ R2.Format op = 7 ∧ 88 ≤ op ∧ op ≤ 94) ∨
    (K.fmt op = some 7 ∧ R2.Format op = 8 ∧ 96 ≤ op ∧ op ≤ 109) ∨ (K.fmt op = some 8 ∧ R2.Format op = 9 ∧ 112 ≤ op ∧ op ≤ 113) ∨ (K.fmt op = some 9 ∧ R2.Format op = 10 ∧ op = 128) ∨ (K.fmt op = some 10 ∧ R2.Format op = 11 ∧ op = 129) ∨ (K.fmt op = some 10 ∧ R2.Format op = 12 ∧ op = 130) := by
  by_cases h : op < 0 ∨ 130 < op
  · exact .inl ⟨K.fmtF_none op h 11 0 (by omega), R2.Format_none op h⟩
  · obtain ⟨n, rfl⟩ := Int.eq_ofNat_of_zero_le (by omega : 0 ≤ op)
    have := K.fmtB_all ⟨n, by omega⟩
    unfold K.fmtB at this
    simp only [Bool.or_eq_true, Bool.and_eq_true, beq_iff_eq, decide_eq_true_eq] at this
    rcases this with ((((((((((((h | h) | h) | h) | h) | h) | h) | h) | h) | h) | h) | h) | h)
    · exact .inl h
    all_goals
      obtain ⟨⟨a, b⟩, c⟩ := h
      simp only [a, b]
      simp
      omega
def K.ser (k : Nat) (i : K.Ins) : List Int := IntKind.wrap .u8 i.op :: K.wr k i
theorem K.ser_str (k : Nat) (i : K.Ins) : strOfNums [IntKind.wrap .u8 i.op] ++ strOfNums (K.wr k i) = strOfNums (K.ser k i) := K.app _ _
theorem K.u8_bd (n : Int) : 0 ≤ IntKind.wrap .u8 n ∧ IntKind.wrap .u8 n < 256 := by
  have e : IntKind.wrap .u8 n = n % 256 := rfl
  rw [e]; omega
theorem K.wr_bd (k : Nat) (hk : k < 11) (i : K.Ins) (hi : K.In i) : ∀ x ∈ K.wr k i, 0 ≤ x ∧ x < 256 := by
  obtain ⟨d0, d1, s0, s1, x0, x1, c0, c1, i0, i1⟩ := hi
  have hR : ∀ x ∈ K.p_Reg i, 0 ≤ x ∧ x < 256 := by intro x hx; simp [K.p_Reg] at hx; omega
  have hB : ∀ x ∈ K.p_Byte i, 0 ≤ x ∧ x < 256 := by intro x hx; simp [K.p_Byte] at hx; omega
  have hP : ∀ x ∈ K.p_Pair i, 0 ≤ x ∧ x < 256 := by intro x hx; simp [K.p_Pair] at hx; omega
  have hF : ∀ x ∈ K.p_Full i, 0 ≤ x ∧ x < 256 := by intro x hx; simp [K.p_Full] at hx; omega
  have hX : ∀ x ∈ K.p_Index i, 0 ≤ x ∧ x < 256 := by
    intro x hx; simp [K.p_Index] at hx; split at hx <;> omega
  have hA : ∀ {a b : List Int}, (∀ x ∈ a, 0 ≤ x ∧ x < 256) → (∀ x ∈ b, 0 ≤ x ∧ x < 256) → ∀ x ∈ a ++ b, 0 ≤ x ∧ x < 256 := fun ha hb x hx => (List.mem_append.1 hx).elim (ha x) (hb x)
  rcases (by omega : k = 0 ∨ k = 1 ∨ k = 2 ∨ k = 3 ∨ k = 4 ∨ k = 5 ∨ k = 6 ∨ k = 7 ∨ k = 8 ∨ k = 9 ∨ k = 10) with rfl | rfl | rfl | rfl | rfl | rfl | rfl | rfl | rfl | rfl | rfl
  · intro x hx; exact absurd hx (by show x ∉ ([] : List Int); simp)
  · exact hR
  · exact hP
  · exact hA hR hB
  · exact hA hR hF
  · exact hA hP hB
  · exact hA (hA hP hX) hF
  · exact hB
  · exact hF
  · exact hB
  · exact hP
theorem K.ser_bd (k : Nat) (hk : k < 11) (i : K.Ins) (hi : K.In i) : ∀ x ∈ K.ser k i, 0 ≤ x ∧ x < 256 := fun x hx => (List.mem_cons.1 hx).elim (fun e => e ▸ K.u8_bd _) (K.wr_bd k hk i hi x)
theorem K.byt_ser (k : Nat) (hk : k < 11) (i : K.Ins) (hi : K.In i) (j : Nat) : W.byt (strOfNums (K.ser k i)).data.toList j = (K.ser k i).getD j 0 := W.byt_nums _ j (K.ser_bd k hk i hi)
theorem K.v1_0 (i : K.Ins) (hop : 0 ≤ i.op ∧ i.op < 256) (hm : 0 ≤ i.imm ∧ i.imm < 4294967296) : K.valid1 0 i = true ↔ (i.sz = 1 ∧ K.rng i = true ∧ i.d = 0 ∧ i.s = 0 ∧ i.ix = -1 ∧ i.sc = 0 ∧ i.imm = 0) := by
  unfold K.valid1
  have hl : K.len 0 = 1 := rfl
  have hw : IntKind.wrap .u8 i.op = i.op := by show i.op % 256 = i.op; omega
  cases hq : ((i.sz != (K.len 0)) || (!(K.rng i))) with
  | true =>
    rw [hl] at hq
    simp at hq ⊢
    intro h1 h2; rcases hq with hq | hq
    · exact absurd h1 hq
    · rw [h2] at hq; cases hq
  | false =>
    have hi := K.in_of hm hq
    rw [hl] at hq
    simp at hq
    rw [cond_false, K.ser_str]
    have hb := K.byt_ser 0 (by decide) i hi
    have e : K.ser 0 i = [i.op] := by unfold K.ser; rw [hw]; rfl
    rw [e] at hb
    obtain ⟨d0, d1, s0, s1, x0, x1, c0, c1, i0, i1⟩ := hi
    rw [e]
    generalize (strOfNums _).data.toList = l at *
    have hb0 := hb 0
    have hb1 := hb 1
    have hb2 := hb 2
    have hb3 := hb 3
    have hb4 := hb 4
    have hb5 := hb 5
    have hb6 := hb 6
    simp at hb0 hb1 hb2 hb3 hb4 hb5 hb6
    simp [K.rd, K.i0, K.t_none, K.t_reg, K.t_pair, K.t_small, K.t_full, K.t_plain, K.t_index, K.four, hl, hb0, hb1, hb2, hb3, hb4, hb5, hb6, hq]
    omega
theorem K.v1_1 (i : K.Ins) (hop : 0 ≤ i.op ∧ i.op < 256) (hm : 0 ≤ i.imm ∧ i.imm < 4294967296) : K.valid1 1 i = true ↔ (i.sz = 2 ∧ K.rng i = true ∧ i.s = 0 ∧ i.ix = -1 ∧ i.sc = 0 ∧ i.imm = 0) := by
  unfold K.valid1
  have hl : K.len 1 = 2 := rfl
  have hw : IntKind.wrap .u8 i.op = i.op := by show i.op % 256 = i.op; omega
  cases hq : ((i.sz != (K.len 1)) || (!(K.rng i))) with
  | true =>
    rw [hl] at hq
    simp at hq ⊢
    intro h1 h2; rcases hq with hq | hq
    · exact absurd h1 hq
    · rw [h2] at hq; cases hq
  | false =>
    have hi := K.in_of hm hq
    rw [hl] at hq
    simp at hq
    rw [cond_false, K.ser_str]
    have hb := K.byt_ser 1 (by decide) i hi
    have e : K.ser 1 i = [i.op, i.d] := by unfold K.ser; rw [hw]; rfl
    rw [e] at hb
    obtain ⟨d0, d1, s0, s1, x0, x1, c0, c1, i0, i1⟩ := hi
    rw [e]
    generalize (strOfNums _).data.toList = l at *
    have hb0 := hb 0
    have hb1 := hb 1
    have hb2 := hb 2
    have hb3 := hb 3
    have hb4 := hb 4
    have hb5 := hb 5
    have hb6 := hb 6
    simp at hb0 hb1 hb2 hb3 hb4 hb5 hb6
    simp [K.rd, K.i0, K.t_none, K.t_reg, K.t_pair, K.t_small, K.t_full, K.t_plain, K.t_index, K.four, hl, hb0, hb1, hb2, hb3, hb4, hb5, hb6, hq]
    omega
theorem K.v1_2 (i : K.Ins) (hop : 0 ≤ i.op ∧ i.op < 256) (hm : 0 ≤ i.imm ∧ i.imm < 4294967296) : K.valid1 2 i = true ↔ (i.sz = 2 ∧ K.rng i = true ∧ i.ix = -1 ∧ i.sc = 0 ∧ i.imm = 0) := by
  unfold K.valid1
  have hl : K.len 2 = 2 := rfl
  have hw : IntKind.wrap .u8 i.op = i.op := by show i.op % 256 = i.op; omega
  cases hq : ((i.sz != (K.len 2)) || (!(K.rng i))) with
  | true =>
    rw [hl] at hq
    simp at hq ⊢
    intro h1 h2; rcases hq with hq | hq
    · exact absurd h1 hq
    · rw [h2] at hq; cases hq
  | false =>
    have hi := K.in_of hm hq
    rw [hl] at hq
    simp at hq
    rw [cond_false, K.ser_str]
    have hb := K.byt_ser 2 (by decide) i hi
    have e : K.ser 2 i = [i.op, i.d * 16 + i.s] := by unfold K.ser; rw [hw]; rfl
    rw [e] at hb
    obtain ⟨d0, d1, s0, s1, x0, x1, c0, c1, i0, i1⟩ := hi
    rw [e]
    generalize (strOfNums _).data.toList = l at *
    have hb0 := hb 0
    have hb1 := hb 1
    have hb2 := hb 2
    have hb3 := hb 3
    have hb4 := hb 4
    have hb5 := hb 5
    have hb6 := hb 6
    simp at hb0 hb1 hb2 hb3 hb4 hb5 hb6
    simp [K.rd, K.i0, K.t_none, K.t_reg, K.t_pair, K.t_small, K.t_full, K.t_plain, K.t_index, K.four, hl, hb0, hb1, hb2, hb3, hb4, hb5, hb6, hq]
    omega
theorem K.v1_3 (i : K.Ins) (hop : 0 ≤ i.op ∧ i.op < 256) (hm : 0 ≤ i.imm ∧ i.imm < 4294967296) : K.valid1 3 i = true ↔ (i.sz = 3 ∧ K.rng i = true ∧ i.s = 0 ∧ i.ix = -1 ∧ i.sc = 0 ∧ W.sign (i.imm % 256) 8 = i.imm) := by
  unfold K.valid1
  have hl : K.len 3 = 3 := rfl
  have hw : IntKind.wrap .u8 i.op = i.op := by show i.op % 256 = i.op; omega
  cases hq : ((i.sz != (K.len 3)) || (!(K.rng i))) with
  | true =>
    rw [hl] at hq
    simp at hq ⊢
    intro h1 h2; rcases hq with hq | hq
    · exact absurd h1 hq
    · rw [h2] at hq; cases hq
  | false =>
    have hi := K.in_of hm hq
    rw [hl] at hq
    simp at hq
    rw [cond_false, K.ser_str]
    have hb := K.byt_ser 3 (by decide) i hi
    have e : K.ser 3 i = [i.op, i.d, i.imm % 256] := by unfold K.ser; rw [hw]; rfl
    rw [e] at hb
    obtain ⟨d0, d1, s0, s1, x0, x1, c0, c1, i0, i1⟩ := hi
    rw [e]
    generalize (strOfNums _).data.toList = l at *
    have hb0 := hb 0
    have hb1 := hb 1
    have hb2 := hb 2
    have hb3 := hb 3
    have hb4 := hb 4
    have hb5 := hb 5
    have hb6 := hb 6
    simp at hb0 hb1 hb2 hb3 hb4 hb5 hb6
    simp [K.rd, K.i0, K.t_none, K.t_reg, K.t_pair, K.t_small, K.t_full, K.t_plain, K.t_index, K.four, hl, hb0, hb1, hb2, hb3, hb4, hb5, hb6, hq]
    omega
theorem K.v1_4 (i : K.Ins) (hop : 0 ≤ i.op ∧ i.op < 256) (hm : 0 ≤ i.imm ∧ i.imm < 4294967296) : K.valid1 4 i = true ↔ (i.sz = 6 ∧ K.rng i = true ∧ i.s = 0 ∧ i.ix = -1 ∧ i.sc = 0) := by
  unfold K.valid1
  have hl : K.len 4 = 6 := rfl
  have hw : IntKind.wrap .u8 i.op = i.op := by show i.op % 256 = i.op; omega
  cases hq : ((i.sz != (K.len 4)) || (!(K.rng i))) with
  | true =>
    rw [hl] at hq
    simp at hq ⊢
    intro h1 h2; rcases hq with hq | hq
    · exact absurd h1 hq
    · rw [h2] at hq; cases hq
  | false =>
    have hi := K.in_of hm hq
    rw [hl] at hq
    simp at hq
    rw [cond_false, K.ser_str]
    have hb := K.byt_ser 4 (by decide) i hi
    have e : K.ser 4 i = [i.op, i.d, i.imm % 256, i.imm / 256 % 256, i.imm / 65536 % 256, i.imm / 16777216 % 256] := by unfold K.ser; rw [hw]; rfl
    rw [e] at hb
    obtain ⟨d0, d1, s0, s1, x0, x1, c0, c1, i0, i1⟩ := hi
    rw [e]
    generalize (strOfNums _).data.toList = l at *
    have hb0 := hb 0
    have hb1 := hb 1
    have hb2 := hb 2
    have hb3 := hb 3
    have hb4 := hb 4
    have hb5 := hb 5
    have hb6 := hb 6
    simp at hb0 hb1 hb2 hb3 hb4 hb5 hb6
    simp [K.rd, K.i0, K.t_none, K.t_reg, K.t_pair, K.t_small, K.t_full, K.t_plain, K.t_index, K.four, hl, hb0, hb1, hb2, hb3, hb4, hb5, hb6, hq]
    omega
theorem K.v1_5 (i : K.Ins) (hop : 0 ≤ i.op ∧ i.op < 256) (hm : 0 ≤ i.imm ∧ i.imm < 4294967296) : K.valid1 5 i = true ↔ (i.sz = 3 ∧ K.rng i = true ∧ i.ix = -1 ∧ i.sc = 0 ∧ W.sign (i.imm % 256) 8 = i.imm) := by
  unfold K.valid1
  have hl : K.len 5 = 3 := rfl
  have hw : IntKind.wrap .u8 i.op = i.op := by show i.op % 256 = i.op; omega
  cases hq : ((i.sz != (K.len 5)) || (!(K.rng i))) with
  | true =>
    rw [hl] at hq
    simp at hq ⊢
    intro h1 h2; rcases hq with hq | hq
    · exact absurd h1 hq
    · rw [h2] at hq; cases hq
  | false =>
    have hi := K.in_of hm hq
    rw [hl] at hq
    simp at hq
    rw [cond_false, K.ser_str]
    have hb := K.byt_ser 5 (by decide) i hi
    have e : K.ser 5 i = [i.op, i.d * 16 + i.s, i.imm % 256] := by unfold K.ser; rw [hw]; rfl
    rw [e] at hb
    obtain ⟨d0, d1, s0, s1, x0, x1, c0, c1, i0, i1⟩ := hi
    rw [e]
    generalize (strOfNums _).data.toList = l at *
    have hb0 := hb 0
    have hb1 := hb 1
    have hb2 := hb 2
    have hb3 := hb 3
    have hb4 := hb 4
    have hb5 := hb 5
    have hb6 := hb 6
    simp at hb0 hb1 hb2 hb3 hb4 hb5 hb6
    simp [K.rd, K.i0, K.t_none, K.t_reg, K.t_pair, K.t_small, K.t_full, K.t_plain, K.t_index, K.four, hl, hb0, hb1, hb2, hb3, hb4, hb5, hb6, hq]
    omega
theorem K.v1_6 (i : K.Ins) (hop : 0 ≤ i.op ∧ i.op < 256) (hm : 0 ≤ i.imm ∧ i.imm < 4294967296) : K.valid1 6 i = true ↔ (i.sz = 7 ∧ K.rng i = true ∧ (i.ix = -1 → i.sc = 0)) := by
  unfold K.valid1
  have hl : K.len 6 = 7 := rfl
  have hw : IntKind.wrap .u8 i.op = i.op := by show i.op % 256 = i.op; omega
  cases hq : ((i.sz != (K.len 6)) || (!(K.rng i))) with
  | true =>
    rw [hl] at hq
    simp at hq ⊢
    intro h1 h2; rcases hq with hq | hq
    · exact absurd h1 hq
    · rw [h2] at hq; cases hq
  | false =>
    have hi := K.in_of hm hq
    rw [hl] at hq
    simp at hq
    rw [cond_false, K.ser_str]
    have hb := K.byt_ser 6 (by decide) i hi
    have e : K.ser 6 i = [i.op, i.d * 16 + i.s, if i.ix < 0 then 8 else i.sc * 16 + i.ix, i.imm % 256, i.imm / 256 % 256, i.imm / 65536 % 256, i.imm / 16777216 % 256] := by unfold K.ser; rw [hw]; rfl
    rw [e] at hb
    obtain ⟨d0, d1, s0, s1, x0, x1, c0, c1, i0, i1⟩ := hi
    rw [e]
    generalize (strOfNums _).data.toList = l at *
    have hb0 := hb 0
    have hb1 := hb 1
    have hb2 := hb 2
    have hb3 := hb 3
    have hb4 := hb 4
    have hb5 := hb 5
    have hb6 := hb 6
    simp at hb0 hb1 hb2 hb3 hb4 hb5 hb6
    by_cases hx : i.ix < 0
    · rw [if_pos hx] at hb2
      have hx' : i.ix = -1 := by omega
      simp [K.rd, K.i0, K.t_none, K.t_reg, K.t_pair, K.t_small, K.t_full, K.t_plain, K.t_index, K.four, hl, hb0, hb1, hb2, hb3, hb4, hb5, hb6, hq]
      omega
    · rw [if_neg hx] at hb2
      have h8 : ¬ (i.sc * 16 + i.ix = 8) := by omega
      simp [K.rd, K.i0, K.t_none, K.t_reg, K.t_pair, K.t_small, K.t_full, K.t_plain, K.t_index, K.four, hl, hb0, hb1, hb2, hb3, hb4, hb5, hb6, hq, h8]
      omega
theorem K.v1_7 (i : K.Ins) (hop : 0 ≤ i.op ∧ i.op < 256) (hm : 0 ≤ i.imm ∧ i.imm < 4294967296) : K.valid1 7 i = true ↔ (i.sz = 2 ∧ K.rng i = true ∧ i.d = 0 ∧ i.s = 0 ∧ i.ix = -1 ∧ i.sc = 0 ∧ W.sign (i.imm % 256) 8 = i.imm) := by
  unfold K.valid1
  have hl : K.len 7 = 2 := rfl
  have hw : IntKind.wrap .u8 i.op = i.op := by show i.op % 256 = i.op; omega
  cases hq : ((i.sz != (K.len 7)) || (!(K.rng i))) with
  | true =>
    rw [hl] at hq
    simp at hq ⊢
    intro h1 h2; rcases hq with hq | hq
    · exact absurd h1 hq
    · rw [h2] at hq; cases hq
  | false =>
    have hi := K.in_of hm hq
    rw [hl] at hq
    simp at hq
    rw [cond_false, K.ser_str]
    have hb := K.byt_ser 7 (by decide) i hi
    have e : K.ser 7 i = [i.op, i.imm % 256] := by unfold K.ser; rw [hw]; rfl
    rw [e] at hb
    obtain ⟨d0, d1, s0, s1, x0, x1, c0, c1, i0, i1⟩ := hi
    rw [e]
    generalize (strOfNums _).data.toList = l at *
    have hb0 := hb 0
    have hb1 := hb 1
    have hb2 := hb 2
    have hb3 := hb 3
    have hb4 := hb 4
    have hb5 := hb 5
    have hb6 := hb 6
    simp at hb0 hb1 hb2 hb3 hb4 hb5 hb6
    simp [K.rd, K.i0, K.t_none, K.t_reg, K.t_pair, K.t_small, K.t_full, K.t_plain, K.t_index, K.four, hl, hb0, hb1, hb2, hb3, hb4, hb5, hb6, hq]
    omega
theorem K.v1_8 (i : K.Ins) (hop : 0 ≤ i.op ∧ i.op < 256) (hm : 0 ≤ i.imm ∧ i.imm < 4294967296) : K.valid1 8 i = true ↔ (i.sz = 5 ∧ K.rng i = true ∧ i.d = 0 ∧ i.s = 0 ∧ i.ix = -1 ∧ i.sc = 0) := by
  unfold K.valid1
  have hl : K.len 8 = 5 := rfl
  have hw : IntKind.wrap .u8 i.op = i.op := by show i.op % 256 = i.op; omega
  cases hq : ((i.sz != (K.len 8)) || (!(K.rng i))) with
  | true =>
    rw [hl] at hq
    simp at hq ⊢
    intro h1 h2; rcases hq with hq | hq
    · exact absurd h1 hq
    · rw [h2] at hq; cases hq
  | false =>
    have hi := K.in_of hm hq
    rw [hl] at hq
    simp at hq
    rw [cond_false, K.ser_str]
    have hb := K.byt_ser 8 (by decide) i hi
    have e : K.ser 8 i = [i.op, i.imm % 256, i.imm / 256 % 256, i.imm / 65536 % 256, i.imm / 16777216 % 256] := by unfold K.ser; rw [hw]; rfl
    rw [e] at hb
    obtain ⟨d0, d1, s0, s1, x0, x1, c0, c1, i0, i1⟩ := hi
    rw [e]
    generalize (strOfNums _).data.toList = l at *
    have hb0 := hb 0
    have hb1 := hb 1
    have hb2 := hb 2
    have hb3 := hb 3
    have hb4 := hb 4
    have hb5 := hb 5
    have hb6 := hb 6
    simp at hb0 hb1 hb2 hb3 hb4 hb5 hb6
    simp [K.rd, K.i0, K.t_none, K.t_reg, K.t_pair, K.t_small, K.t_full, K.t_plain, K.t_index, K.four, hl, hb0, hb1, hb2, hb3, hb4, hb5, hb6, hq]
    omega
theorem K.v1_9 (i : K.Ins) (hop : 0 ≤ i.op ∧ i.op < 256) (hm : 0 ≤ i.imm ∧ i.imm < 4294967296) : K.valid1 9 i = true ↔ (i.sz = 2 ∧ K.rng i = true ∧ i.d = 0 ∧ i.s = 0 ∧ i.ix = -1 ∧ i.sc = 0 ∧ i.imm < 256) := by
  unfold K.valid1
  have hl : K.len 9 = 2 := rfl
  have hw : IntKind.wrap .u8 i.op = i.op := by show i.op % 256 = i.op; omega
  cases hq : ((i.sz != (K.len 9)) || (!(K.rng i))) with
  | true =>
    rw [hl] at hq
    simp at hq ⊢
    intro h1 h2; rcases hq with hq | hq
    · exact absurd h1 hq
    · rw [h2] at hq; cases hq
  | false =>
    have hi := K.in_of hm hq
    rw [hl] at hq
    simp at hq
    rw [cond_false, K.ser_str]
    have hb := K.byt_ser 9 (by decide) i hi
    have e : K.ser 9 i = [i.op, i.imm % 256] := by unfold K.ser; rw [hw]; rfl
    rw [e] at hb
    obtain ⟨d0, d1, s0, s1, x0, x1, c0, c1, i0, i1⟩ := hi
    rw [e]
    generalize (strOfNums _).data.toList = l at *
    have hb0 := hb 0
    have hb1 := hb 1
    have hb2 := hb 2
    have hb3 := hb 3
    have hb4 := hb 4
    have hb5 := hb 5
    have hb6 := hb 6
    simp at hb0 hb1 hb2 hb3 hb4 hb5 hb6
    simp [K.rd, K.i0, K.t_none, K.t_reg, K.t_pair, K.t_small, K.t_full, K.t_plain, K.t_index, K.four, hl, hb0, hb1, hb2, hb3, hb4, hb5, hb6, hq]
    omega
theorem K.v1_10 (i : K.Ins) (hop : 0 ≤ i.op ∧ i.op < 256) (hm : 0 ≤ i.imm ∧ i.imm < 4294967296) : K.valid1 10 i = true ↔ (i.sz = 2 ∧ K.rng i = true ∧ i.ix = -1 ∧ i.sc = 0 ∧ i.imm = 0) := by
  unfold K.valid1
  have hl : K.len 10 = 2 := rfl
  have hw : IntKind.wrap .u8 i.op = i.op := by show i.op % 256 = i.op; omega
  cases hq : ((i.sz != (K.len 10)) || (!(K.rng i))) with
  | true =>
    rw [hl] at hq
    simp at hq ⊢
    intro h1 h2; rcases hq with hq | hq
    · exact absurd h1 hq
    · rw [h2] at hq; cases hq
  | false =>
    have hi := K.in_of hm hq
    rw [hl] at hq
    simp at hq
    rw [cond_false, K.ser_str]
    have hb := K.byt_ser 10 (by decide) i hi
    have e : K.ser 10 i = [i.op, i.d * 16 + i.s] := by unfold K.ser; rw [hw]; rfl
    rw [e] at hb
    obtain ⟨d0, d1, s0, s1, x0, x1, c0, c1, i0, i1⟩ := hi
    rw [e]
    generalize (strOfNums _).data.toList = l at *
    have hb0 := hb 0
    have hb1 := hb 1
    have hb2 := hb 2
    have hb3 := hb 3
    have hb4 := hb 4
    have hb5 := hb 5
    have hb6 := hb 6
    simp at hb0 hb1 hb2 hb3 hb4 hb5 hb6
    simp [K.rd, K.i0, K.t_none, K.t_reg, K.t_pair, K.t_small, K.t_full, K.t_plain, K.t_index, K.four, hl, hb0, hb1, hb2, hb3, hb4, hb5, hb6, hq]
    omega
theorem K.sign8F : ∀ n : Fin 256, W.sign (n.val : Int) 8 = if n.val < 128 then (n.val : Int) else n.val + 4294967040 := by decide +kernel
theorem K.sign8 (b : Int) (h0 : 0 ≤ b) (h1 : b < 256) : W.sign b 8 = if b < 128 then b else b + 4294967040 := by
  obtain ⟨n, rfl⟩ := Int.eq_ofNat_of_zero_le h0
  have := K.sign8F ⟨n, by omega⟩
  simp only at this
  rw [this]
  by_cases h : n < 128
  · rw [if_pos h, if_pos (by omega)]
  · rw [if_neg h, if_neg (by omega)]
theorem K.sign_iff (n : Int) (h0 : 0 ≤ n) (h1 : n < 4294967296) : W.sign (n % 256) 8 = n ↔ R2.signed n = true := by
  rw [K.sign8 _ (by omega) (by omega)]
  unfold R2.signed
  simp only [Bool.or_eq_true, decide_eq_true_eq]
  split <;> omega
theorem K.w8 (n : Int) (h0 : 0 ≤ n) (h1 : n < 256) : IntKind.wrap .u8 n = n := by show n % 256 = n; omega
theorem K.w64 (n : Int) (h0 : -9223372036854775808 ≤ n) (h1 : n < 9223372036854775808) : IntKind.wrap .i64 n = n := IntWalk.i64_in n (by omega)
theorem K.valid_eq (i : K.Ins) (hm : 0 ≤ i.imm ∧ i.imm < 4294967296) : K.valid i = R2.Valid i := by
  rw [Bool.eq_iff_iff]
  have hsg := K.sign_iff i.imm hm.1 hm.2
  unfold K.valid
  rcases K.fmt_cases i.op with ⟨hk, hf⟩ | ⟨hk, hf, h1, h2⟩ | ⟨hk, hf, h1, h2⟩ | ⟨hk, hf, h1, h2⟩ | ⟨hk, hf, h1, h2⟩ | ⟨hk, hf, h1, h2⟩ | ⟨hk, hf, h1, h2⟩ | ⟨hk, hf, h1, h2⟩ | ⟨hk, hf, h1, h2⟩ | ⟨hk, hf, h1, h2⟩ | ⟨hk, hf, h1⟩ | ⟨hk, hf, h1⟩ | ⟨hk, hf, h1⟩
  · rw [hk]; unfold R2.Valid; rw [hf]; simp
  · rw [hk]
    have e1 := K.w8 i.op (by omega) (by omega)
    have e2 := K.w64 i.op (by omega) (by omega)
    have hz : R2.Size (IntKind.wrap .u8 i.op) = 1 := by unfold R2.Size; rw [e1, e2, hf]; rfl
    have hmo : K.most i.op = 7 := by unfold K.most; rw [if_neg (by omega), if_neg (by omega)]
    show K.valid1 0 i = true ↔ _
    rw [K.v1_0 i ⟨by omega, by omega⟩ hm]
    unfold K.rng R2.Valid R2.reg
    rw [hf, hz, hmo]
    simp only [K.in_one, hsg]
    cases R2.signed i.imm <;> simp <;> omega
  · rw [hk]
    have e1 := K.w8 i.op (by omega) (by omega)
    have e2 := K.w64 i.op (by omega) (by omega)
    have hz : R2.Size (IntKind.wrap .u8 i.op) = 2 := by unfold R2.Size; rw [e1, e2, hf]; rfl
    have hmo : K.most i.op = 7 := by unfold K.most; rw [if_neg (by omega), if_neg (by omega)]
    show K.valid1 1 i = true ↔ _
    rw [K.v1_1 i ⟨by omega, by omega⟩ hm]
    unfold K.rng R2.Valid R2.reg
    rw [hf, hz, hmo]
    simp only [K.in_one, hsg]
    cases R2.signed i.imm <;> simp <;> omega
  · rw [hk]
    have e1 := K.w8 i.op (by omega) (by omega)
    have e2 := K.w64 i.op (by omega) (by omega)
    have hz : R2.Size (IntKind.wrap .u8 i.op) = 2 := by unfold R2.Size; rw [e1, e2, hf]; rfl
    have hmo : K.most i.op = 7 := by unfold K.most; rw [if_neg (by omega), if_neg (by omega)]
    show K.valid1 2 i = true ↔ _
    rw [K.v1_2 i ⟨by omega, by omega⟩ hm]
    unfold K.rng R2.Valid R2.reg
    rw [hf, hz, hmo]
    simp only [K.in_one, hsg]
    cases R2.signed i.imm <;> simp <;> omega
  · rw [hk]
    have e1 := K.w8 i.op (by omega) (by omega)
    have e2 := K.w64 i.op (by omega) (by omega)
    have hz : R2.Size (IntKind.wrap .u8 i.op) = 3 := by unfold R2.Size; rw [e1, e2, hf]; rfl
    have hmo : K.most i.op = 7 := by unfold K.most; rw [if_neg (by omega), if_neg (by omega)]
    show K.valid1 3 i = true ↔ _
    rw [K.v1_3 i ⟨by omega, by omega⟩ hm]
    unfold K.rng R2.Valid R2.reg
    rw [hf, hz, hmo]
    simp only [K.in_one, hsg]
    cases R2.signed i.imm <;> simp <;> omega
  · rw [hk]
    have e1 := K.w8 i.op (by omega) (by omega)
    have e2 := K.w64 i.op (by omega) (by omega)
    have hz : R2.Size (IntKind.wrap .u8 i.op) = 6 := by unfold R2.Size; rw [e1, e2, hf]; rfl
    have hmo : K.most i.op = 7 := by unfold K.most; rw [if_neg (by omega), if_neg (by omega)]
    show K.valid1 4 i = true ↔ _
    rw [K.v1_4 i ⟨by omega, by omega⟩ hm]
    unfold K.rng R2.Valid R2.reg
    rw [hf, hz, hmo]
    simp only [K.in_one, hsg]
    cases R2.signed i.imm <;> simp <;> omega
  · rw [hk]
    have e1 := K.w8 i.op (by omega) (by omega)
    have e2 := K.w64 i.op (by omega) (by omega)
    have hz : R2.Size (IntKind.wrap .u8 i.op) = 3 := by unfold R2.Size; rw [e1, e2, hf]; rfl
    have hmo : K.most i.op = 7 := by unfold K.most; rw [if_neg (by omega), if_neg (by omega)]
    show K.valid1 5 i = true ↔ _
    rw [K.v1_5 i ⟨by omega, by omega⟩ hm]
    unfold K.rng R2.Valid R2.reg
    rw [hf, hz, hmo]
    simp only [K.in_one, hsg]
    cases R2.signed i.imm <;> simp <;> omega
  · rw [hk]
    have e1 := K.w8 i.op (by omega) (by omega)
    have e2 := K.w64 i.op (by omega) (by omega)
    have hz : R2.Size (IntKind.wrap .u8 i.op) = 7 := by unfold R2.Size; rw [e1, e2, hf]; rfl
    have hmo : K.most i.op = 7 := by unfold K.most; rw [if_neg (by omega), if_neg (by omega)]
    show K.valid1 6 i = true ↔ _
    rw [K.v1_6 i ⟨by omega, by omega⟩ hm]
    unfold K.rng R2.Valid R2.reg
    rw [hf, hz, hmo]
    simp only [K.in_one, hsg]
    by_cases hx : i.ix = -1
    · simp [hx]; omega
    · simp [hx]; omega
  · rw [hk]
    have e1 := K.w8 i.op (by omega) (by omega)
    have e2 := K.w64 i.op (by omega) (by omega)
    have hz : R2.Size (IntKind.wrap .u8 i.op) = 2 := by unfold R2.Size; rw [e1, e2, hf]; rfl
    have hmo : K.most i.op = 7 := by unfold K.most; rw [if_neg (by omega), if_neg (by omega)]
    show K.valid1 7 i = true ↔ _
    rw [K.v1_7 i ⟨by omega, by omega⟩ hm]
    unfold K.rng R2.Valid R2.reg
    rw [hf, hz, hmo]
    simp only [K.in_one, hsg]
    cases R2.signed i.imm <;> simp <;> omega
  · rw [hk]
    have e1 := K.w8 i.op (by omega) (by omega)
    have e2 := K.w64 i.op (by omega) (by omega)
    have hz : R2.Size (IntKind.wrap .u8 i.op) = 5 := by unfold R2.Size; rw [e1, e2, hf]; rfl
    have hmo : K.most i.op = 7 := by unfold K.most; rw [if_neg (by omega), if_neg (by omega)]
    show K.valid1 8 i = true ↔ _
    rw [K.v1_8 i ⟨by omega, by omega⟩ hm]
    unfold K.rng R2.Valid R2.reg
    rw [hf, hz, hmo]
    simp only [K.in_one, hsg]
    cases R2.signed i.imm <;> simp <;> omega
  · rw [hk]
    have e1 := K.w8 i.op (by omega) (by omega)
    have e2 := K.w64 i.op (by omega) (by omega)
    have hz : R2.Size (IntKind.wrap .u8 i.op) = 2 := by unfold R2.Size; rw [e1, e2, hf]; rfl
    have hmo : K.most i.op = 7 := by unfold K.most; rw [if_neg (by omega), if_neg (by omega)]
    show K.valid1 9 i = true ↔ _
    rw [K.v1_9 i ⟨by omega, by omega⟩ hm]
    unfold K.rng R2.Valid R2.reg
    rw [hf, hz, hmo]
    simp only [K.in_one, hsg]
    cases R2.signed i.imm <;> simp <;> omega
  · rw [hk]
    have e1 := K.w8 i.op (by omega) (by omega)
    have e2 := K.w64 i.op (by omega) (by omega)
    have hz : R2.Size (IntKind.wrap .u8 i.op) = 2 := by unfold R2.Size; rw [e1, e2, hf]; rfl
    have hmo : K.most i.op = 3 := by unfold K.most; rw [if_pos h1]
    show K.valid1 10 i = true ↔ _
    rw [K.v1_10 i ⟨by omega, by omega⟩ hm]
    unfold K.rng R2.Valid R2.reg
    rw [hf, hz, hmo]
    simp only [K.in_one, hsg]
    cases R2.signed i.imm <;> simp <;> omega
  · rw [hk]
    have e1 := K.w8 i.op (by omega) (by omega)
    have e2 := K.w64 i.op (by omega) (by omega)
    have hz : R2.Size (IntKind.wrap .u8 i.op) = 2 := by unfold R2.Size; rw [e1, e2, hf]; rfl
    have hmo : K.most i.op = 4 := by unfold K.most; rw [if_neg (by omega), if_pos h1]
    show K.valid1 10 i = true ↔ _
    rw [K.v1_10 i ⟨by omega, by omega⟩ hm]
    unfold K.rng R2.Valid R2.reg
    rw [hf, hz, hmo]
    simp only [K.in_one, hsg]
    cases R2.signed i.imm <;> simp <;> omega
theorem K.wu8 (n : Int) : IntKind.wrap .u8 n = n % 256 := rfl
theorem K.wu32 (n : Int) : IntKind.wrap .u32 n = n % 4294967296 := rfl
theorem K.str_congr {a b : List Int} (h : a = b) : strOfNums a = strOfNums b := by rw [h]
theorem K.encode_eq (i : K.Ins) (hm : 0 ≤ i.imm ∧ i.imm < 4294967296) : K.encode i = R2.Encode i := by
  have hv := K.valid_eq i hm
  unfold K.valid at hv
  unfold K.encode
  rcases K.fmt_cases i.op with ⟨hk, hf⟩ | ⟨hk, hf, h1, h2⟩ | ⟨hk, hf, h1, h2⟩ | ⟨hk, hf, h1, h2⟩ | ⟨hk, hf, h1, h2⟩ | ⟨hk, hf, h1, h2⟩ | ⟨hk, hf, h1, h2⟩ | ⟨hk, hf, h1, h2⟩ | ⟨hk, hf, h1, h2⟩ | ⟨hk, hf, h1, h2⟩ | ⟨hk, hf, h1⟩ | ⟨hk, hf, h1⟩ | ⟨hk, hf, h1⟩
  · rw [hk] at hv ⊢
    have hv : false = R2.Valid i := hv
    unfold K.encode0 R2.Encode; rw [← hv]; rfl
  · rw [hk] at hv ⊢
    have hv : K.valid1 0 i = R2.Valid i := hv
    show K.encode1 0 i = _
    unfold K.encode1 R2.Encode
    rw [← hv]
    cases hq : (!(K.valid1 0 i)) with
    | true => rfl
    | false =>
      obtain ⟨d0, d1, s0, s1, x0, x1, c0, c1, i0, i1⟩ := K.in_valid hm hq
      have e1 := K.w8 i.op (by omega) (by omega)
      have e2 := K.w64 (16 * i.d) (by omega) (by omega)
      have e3 := K.w64 (16 * i.d + i.s) (by omega) (by omega)
      have e4 := K.w64 (16 * i.sc) (by omega) (by omega)
      have e : K.ser 0 i = [i.op] := by unfold K.ser; rw [e1]; rfl
      rw [cond_false, cond_false, K.ser_str, e, hf]
      simp only [e1, e2, e3, K.wu8, K.wu32, Int.tdiv_eq_ediv_of_nonneg i0, Int.reduceBEq, cond_false, cond_true]
      all_goals (refine congrArg (·, 0) (K.str_congr ?_); simp only [List.cons.injEq, and_true, true_and] <;> omega)
  · rw [hk] at hv ⊢
    have hv : K.valid1 1 i = R2.Valid i := hv
    show K.encode1 1 i = _
    unfold K.encode1 R2.Encode
    rw [← hv]
    cases hq : (!(K.valid1 1 i)) with
    | true => rfl
    | false =>
      obtain ⟨d0, d1, s0, s1, x0, x1, c0, c1, i0, i1⟩ := K.in_valid hm hq
      have e1 := K.w8 i.op (by omega) (by omega)
      have e2 := K.w64 (16 * i.d) (by omega) (by omega)
      have e3 := K.w64 (16 * i.d + i.s) (by omega) (by omega)
      have e4 := K.w64 (16 * i.sc) (by omega) (by omega)
      have e : K.ser 1 i = [i.op, i.d] := by unfold K.ser; rw [e1]; rfl
      rw [cond_false, cond_false, K.ser_str, e, hf]
      simp only [e1, e2, e3, K.wu8, K.wu32, Int.tdiv_eq_ediv_of_nonneg i0, Int.reduceBEq, cond_false, cond_true]
      all_goals (refine congrArg (·, 0) (K.str_congr ?_); simp only [List.cons.injEq, and_true, true_and] <;> omega)
  · rw [hk] at hv ⊢
    have hv : K.valid1 2 i = R2.Valid i := hv
    show K.encode1 2 i = _
    unfold K.encode1 R2.Encode
    rw [← hv]
    cases hq : (!(K.valid1 2 i)) with
    | true => rfl
    | false =>
      obtain ⟨d0, d1, s0, s1, x0, x1, c0, c1, i0, i1⟩ := K.in_valid hm hq
      have e1 := K.w8 i.op (by omega) (by omega)
      have e2 := K.w64 (16 * i.d) (by omega) (by omega)
      have e3 := K.w64 (16 * i.d + i.s) (by omega) (by omega)
      have e4 := K.w64 (16 * i.sc) (by omega) (by omega)
      have e : K.ser 2 i = [i.op, i.d * 16 + i.s] := by unfold K.ser; rw [e1]; rfl
      rw [cond_false, cond_false, K.ser_str, e, hf]
      simp only [e1, e2, e3, K.wu8, K.wu32, Int.tdiv_eq_ediv_of_nonneg i0, Int.reduceBEq, cond_false, cond_true]
      all_goals (refine congrArg (·, 0) (K.str_congr ?_); simp only [List.cons.injEq, and_true, true_and] <;> omega)
  · rw [hk] at hv ⊢
    have hv : K.valid1 3 i = R2.Valid i := hv
    show K.encode1 3 i = _
    unfold K.encode1 R2.Encode
    rw [← hv]
    cases hq : (!(K.valid1 3 i)) with
    | true => rfl
    | false =>
      obtain ⟨d0, d1, s0, s1, x0, x1, c0, c1, i0, i1⟩ := K.in_valid hm hq
      have e1 := K.w8 i.op (by omega) (by omega)
      have e2 := K.w64 (16 * i.d) (by omega) (by omega)
      have e3 := K.w64 (16 * i.d + i.s) (by omega) (by omega)
      have e4 := K.w64 (16 * i.sc) (by omega) (by omega)
      have e : K.ser 3 i = [i.op, i.d, i.imm % 256] := by unfold K.ser; rw [e1]; rfl
      rw [cond_false, cond_false, K.ser_str, e, hf]
      simp only [e1, e2, e3, K.wu8, K.wu32, Int.tdiv_eq_ediv_of_nonneg i0, Int.reduceBEq, cond_false, cond_true]
      all_goals (refine congrArg (·, 0) (K.str_congr ?_); simp only [List.cons.injEq, and_true, true_and] <;> omega)
  · rw [hk] at hv ⊢
    have hv : K.valid1 4 i = R2.Valid i := hv
    show K.encode1 4 i = _
    unfold K.encode1 R2.Encode
    rw [← hv]
    cases hq : (!(K.valid1 4 i)) with
    | true => rfl
    | false =>
      obtain ⟨d0, d1, s0, s1, x0, x1, c0, c1, i0, i1⟩ := K.in_valid hm hq
      have e1 := K.w8 i.op (by omega) (by omega)
      have e2 := K.w64 (16 * i.d) (by omega) (by omega)
      have e3 := K.w64 (16 * i.d + i.s) (by omega) (by omega)
      have e4 := K.w64 (16 * i.sc) (by omega) (by omega)
      have e : K.ser 4 i = [i.op, i.d, i.imm % 256, i.imm / 256 % 256, i.imm / 65536 % 256, i.imm / 16777216 % 256] := by unfold K.ser; rw [e1]; rfl
      rw [cond_false, cond_false, K.ser_str, e, hf]
      simp only [e1, e2, e3, K.wu8, K.wu32, Int.tdiv_eq_ediv_of_nonneg i0, Int.reduceBEq, cond_false, cond_true]
      all_goals (refine congrArg (·, 0) (K.str_congr ?_); simp only [List.cons.injEq, and_true, true_and] <;> omega)
  · rw [hk] at hv ⊢
    have hv : K.valid1 5 i = R2.Valid i := hv
    show K.encode1 5 i = _
    unfold K.encode1 R2.Encode
    rw [← hv]
    cases hq : (!(K.valid1 5 i)) with
    | true => rfl
    | false =>
      obtain ⟨d0, d1, s0, s1, x0, x1, c0, c1, i0, i1⟩ := K.in_valid hm hq
      have e1 := K.w8 i.op (by omega) (by omega)
      have e2 := K.w64 (16 * i.d) (by omega) (by omega)
      have e3 := K.w64 (16 * i.d + i.s) (by omega) (by omega)
      have e4 := K.w64 (16 * i.sc) (by omega) (by omega)
      have e : K.ser 5 i = [i.op, i.d * 16 + i.s, i.imm % 256] := by unfold K.ser; rw [e1]; rfl
      rw [cond_false, cond_false, K.ser_str, e, hf]
      simp only [e1, e2, e3, K.wu8, K.wu32, Int.tdiv_eq_ediv_of_nonneg i0, Int.reduceBEq, cond_false, cond_true]
      all_goals (refine congrArg (·, 0) (K.str_congr ?_); simp only [List.cons.injEq, and_true, true_and] <;> omega)
  · rw [hk] at hv ⊢
    have hv : K.valid1 6 i = R2.Valid i := hv
    show K.encode1 6 i = _
    unfold K.encode1 R2.Encode
    rw [← hv]
    cases hq : (!(K.valid1 6 i)) with
    | true => rfl
    | false =>
      obtain ⟨d0, d1, s0, s1, x0, x1, c0, c1, i0, i1⟩ := K.in_valid hm hq
      have e1 := K.w8 i.op (by omega) (by omega)
      have e2 := K.w64 (16 * i.d) (by omega) (by omega)
      have e3 := K.w64 (16 * i.d + i.s) (by omega) (by omega)
      have e4 := K.w64 (16 * i.sc) (by omega) (by omega)
      have e : K.ser 6 i = [i.op, i.d * 16 + i.s, if i.ix < 0 then 8 else i.sc * 16 + i.ix, i.imm % 256, i.imm / 256 % 256, i.imm / 65536 % 256, i.imm / 16777216 % 256] := by unfold K.ser; rw [e1]; rfl
      rw [cond_false, cond_false, K.ser_str, e, hf]
      simp only [e1, e2, e3, K.wu8, K.wu32, Int.tdiv_eq_ediv_of_nonneg i0, Int.reduceBEq, cond_false, cond_true]
      by_cases hx : i.ix < 0
      · rw [if_pos hx, show decide (i.ix ≥ 0) = false by simp; omega, cond_false]
        refine congrArg (·, 0) (K.str_congr ?_)
        simp only [List.cons.injEq, and_true, true_and] <;> omega
      · have e5 := K.w64 (i.ix + 16 * i.sc) (by omega) (by omega)
        rw [if_neg hx, show decide (i.ix ≥ 0) = true by simp; omega, cond_true]
        simp only [e4, e5]
        refine congrArg (·, 0) (K.str_congr ?_)
        simp only [List.cons.injEq, and_true, true_and] <;> omega
  · rw [hk] at hv ⊢
    have hv : K.valid1 7 i = R2.Valid i := hv
    show K.encode1 7 i = _
    unfold K.encode1 R2.Encode
    rw [← hv]
    cases hq : (!(K.valid1 7 i)) with
    | true => rfl
    | false =>
      obtain ⟨d0, d1, s0, s1, x0, x1, c0, c1, i0, i1⟩ := K.in_valid hm hq
      have e1 := K.w8 i.op (by omega) (by omega)
      have e2 := K.w64 (16 * i.d) (by omega) (by omega)
      have e3 := K.w64 (16 * i.d + i.s) (by omega) (by omega)
      have e4 := K.w64 (16 * i.sc) (by omega) (by omega)
      have e : K.ser 7 i = [i.op, i.imm % 256] := by unfold K.ser; rw [e1]; rfl
      rw [cond_false, cond_false, K.ser_str, e, hf]
      simp only [e1, e2, e3, K.wu8, K.wu32, Int.tdiv_eq_ediv_of_nonneg i0, Int.reduceBEq, cond_false, cond_true]
      all_goals (refine congrArg (·, 0) (K.str_congr ?_); simp only [List.cons.injEq, and_true, true_and] <;> omega)
  · rw [hk] at hv ⊢
    have hv : K.valid1 8 i = R2.Valid i := hv
    show K.encode1 8 i = _
    unfold K.encode1 R2.Encode
    rw [← hv]
    cases hq : (!(K.valid1 8 i)) with
    | true => rfl
    | false =>
      obtain ⟨d0, d1, s0, s1, x0, x1, c0, c1, i0, i1⟩ := K.in_valid hm hq
      have e1 := K.w8 i.op (by omega) (by omega)
      have e2 := K.w64 (16 * i.d) (by omega) (by omega)
      have e3 := K.w64 (16 * i.d + i.s) (by omega) (by omega)
      have e4 := K.w64 (16 * i.sc) (by omega) (by omega)
      have e : K.ser 8 i = [i.op, i.imm % 256, i.imm / 256 % 256, i.imm / 65536 % 256, i.imm / 16777216 % 256] := by unfold K.ser; rw [e1]; rfl
      rw [cond_false, cond_false, K.ser_str, e, hf]
      simp only [e1, e2, e3, K.wu8, K.wu32, Int.tdiv_eq_ediv_of_nonneg i0, Int.reduceBEq, cond_false, cond_true]
      all_goals (refine congrArg (·, 0) (K.str_congr ?_); simp only [List.cons.injEq, and_true, true_and] <;> omega)
  · rw [hk] at hv ⊢
    have hv : K.valid1 9 i = R2.Valid i := hv
    show K.encode1 9 i = _
    unfold K.encode1 R2.Encode
    rw [← hv]
    cases hq : (!(K.valid1 9 i)) with
    | true => rfl
    | false =>
      obtain ⟨d0, d1, s0, s1, x0, x1, c0, c1, i0, i1⟩ := K.in_valid hm hq
      have e1 := K.w8 i.op (by omega) (by omega)
      have e2 := K.w64 (16 * i.d) (by omega) (by omega)
      have e3 := K.w64 (16 * i.d + i.s) (by omega) (by omega)
      have e4 := K.w64 (16 * i.sc) (by omega) (by omega)
      have e : K.ser 9 i = [i.op, i.imm % 256] := by unfold K.ser; rw [e1]; rfl
      rw [cond_false, cond_false, K.ser_str, e, hf]
      simp only [e1, e2, e3, K.wu8, K.wu32, Int.tdiv_eq_ediv_of_nonneg i0, Int.reduceBEq, cond_false, cond_true]
      all_goals (refine congrArg (·, 0) (K.str_congr ?_); simp only [List.cons.injEq, and_true, true_and] <;> omega)
  · rw [hk] at hv ⊢
    have hv : K.valid1 10 i = R2.Valid i := hv
    show K.encode1 10 i = _
    unfold K.encode1 R2.Encode
    rw [← hv]
    cases hq : (!(K.valid1 10 i)) with
    | true => rfl
    | false =>
      obtain ⟨d0, d1, s0, s1, x0, x1, c0, c1, i0, i1⟩ := K.in_valid hm hq
      have e1 := K.w8 i.op (by omega) (by omega)
      have e2 := K.w64 (16 * i.d) (by omega) (by omega)
      have e3 := K.w64 (16 * i.d + i.s) (by omega) (by omega)
      have e4 := K.w64 (16 * i.sc) (by omega) (by omega)
      have e : K.ser 10 i = [i.op, i.d * 16 + i.s] := by unfold K.ser; rw [e1]; rfl
      rw [cond_false, cond_false, K.ser_str, e, hf]
      simp only [e1, e2, e3, K.wu8, K.wu32, Int.tdiv_eq_ediv_of_nonneg i0, Int.reduceBEq, cond_false, cond_true]
      all_goals (refine congrArg (·, 0) (K.str_congr ?_); simp only [List.cons.injEq, and_true, true_and] <;> omega)
  · rw [hk] at hv ⊢
    have hv : K.valid1 10 i = R2.Valid i := hv
    show K.encode1 10 i = _
    unfold K.encode1 R2.Encode
    rw [← hv]
    cases hq : (!(K.valid1 10 i)) with
    | true => rfl
    | false =>
      obtain ⟨d0, d1, s0, s1, x0, x1, c0, c1, i0, i1⟩ := K.in_valid hm hq
      have e1 := K.w8 i.op (by omega) (by omega)
      have e2 := K.w64 (16 * i.d) (by omega) (by omega)
      have e3 := K.w64 (16 * i.d + i.s) (by omega) (by omega)
      have e4 := K.w64 (16 * i.sc) (by omega) (by omega)
      have e : K.ser 10 i = [i.op, i.d * 16 + i.s] := by unfold K.ser; rw [e1]; rfl
      rw [cond_false, cond_false, K.ser_str, e, hf]
      simp only [e1, e2, e3, K.wu8, K.wu32, Int.tdiv_eq_ediv_of_nonneg i0, Int.reduceBEq, cond_false, cond_true]
      all_goals (refine congrArg (·, 0) (K.str_congr ?_); simp only [List.cons.injEq, and_true, true_and] <;> omega)
theorem R2.byt_from (s : ByteArray) (m j : Nat) (hm : m ≤ s.size) : W.byt (s.extract m s.size).data.toList j = W.byt s.data.toList (m + j) := by
  unfold W.byt
  congr 2
  have e : (s.extract m s.size).data.toList = s.data.toList.drop m := by
    rw [ByteArray.data_extract, Array.toList_extract]
    have : s.size = s.data.toList.length := by rw [Array.length_toList]; rfl
    rw [this, List.extract_eq_take_drop]
    rw [List.take_of_length_le (by simp)]
  rw [e]; simp [List.getD, List.getElem?_drop]
theorem R2.extend_eq (x : Int) (h0 : 0 ≤ x) (h1 : x < 256) : R2.extend x = W.sign x 8 := by
  rw [K.sign8 x h0 h1]
  unfold R2.extend
  simp only [K.wu32, Bool.cond_eq_ite, decide_eq_true_eq]
  split <;> split <;> omega
theorem R2.long_eq (s : ByteArray) (m : Nat) (hm : m + 4 ≤ s.size) : R2.long (s.extract m s.size) = K.four s.data.toList m := by
  unfold R2.long K.four
  have b0 := W.byt_bd s.data.toList m
  have b1 := W.byt_bd s.data.toList (m + 1)
  have b2 := W.byt_bd s.data.toList (m + 2)
  have b3 := W.byt_bd s.data.toList (m + 3)
  simp only [R2.byt_from s m _ (by omega : m ≤ s.size), K.wu32, Nat.add_zero]
  omega
theorem K.wb (l : List UInt8) (n : Nat) : IntKind.wrap .i64 (W.byt l n) = W.byt l n := K.w64 _ (by have := W.byt_bd l n; omega) (by have := W.byt_bd l n; omega)
theorem K.wb2 (l : List UInt8) (n : Nat) : IntKind.wrap .i64 (W.byt l n / 16) = W.byt l n / 16 := K.w64 _ (by have := W.byt_bd l n; omega) (by have := W.byt_bd l n; omega)
theorem K.tdb (l : List UInt8) (n : Nat) : Int.tdiv (W.byt l n) 16 = W.byt l n / 16 := Int.tdiv_eq_ediv_of_nonneg (W.byt_bd l n).1
theorem K.tmb (l : List UInt8) (n : Nat) : Int.tmod (W.byt l n) 16 = W.byt l n % 16 := Int.tmod_eq_emod_of_nonneg (W.byt_bd l n).1
theorem K.exb (l : List UInt8) (n : Nat) : R2.extend (W.byt l n) = W.sign (W.byt l n) 8 := R2.extend_eq _ (W.byt_bd l n).1 (W.byt_bd l n).2
theorem K.read_1 (s : ByteArray) (hs : s.size = 1) (hf : R2.Format (W.byt s.data.toList 0) = 1) : R2.read s = K.rd 0 s.data.toList 1 := by
  have hd : decide (((s.size : Nat) : Int) > 1) = false := by simp; omega
  unfold R2.read
  simp only [K.wb, K.wb2, K.tdb, K.tmb, K.exb, hf, hd]
  rw [show ((s.size : Nat) : Int) = 1 by omega]
  have hb : W.byt s.data.toList 1 % 4294967296 = W.byt s.data.toList 1 := by have := W.byt_bd s.data.toList 1; omega
  simp [K.rd, K.t_none, K.t_reg, K.t_pair, K.t_small, K.t_full, K.t_plain, K.i0, K.wu32, hb]
theorem K.read_2 (s : ByteArray) (hs : s.size = 2) (hf : R2.Format (W.byt s.data.toList 0) = 2) : R2.read s = K.rd 1 s.data.toList 2 := by
  have hd : decide (((s.size : Nat) : Int) > 1) = true := by simp; omega
  unfold R2.read
  simp only [K.wb, K.wb2, K.tdb, K.tmb, K.exb, hf, hd]
  rw [show ((s.size : Nat) : Int) = 2 by omega]
  have hb : W.byt s.data.toList 1 % 4294967296 = W.byt s.data.toList 1 := by have := W.byt_bd s.data.toList 1; omega
  simp [K.rd, K.t_none, K.t_reg, K.t_pair, K.t_small, K.t_full, K.t_plain, K.i0, K.wu32, hb]
theorem K.read_3 (s : ByteArray) (hs : s.size = 2) (hf : R2.Format (W.byt s.data.toList 0) = 3) : R2.read s = K.rd 2 s.data.toList 2 := by
  have hd : decide (((s.size : Nat) : Int) > 1) = true := by simp; omega
  unfold R2.read
  simp only [K.wb, K.wb2, K.tdb, K.tmb, K.exb, hf, hd]
  rw [show ((s.size : Nat) : Int) = 2 by omega]
  have hb : W.byt s.data.toList 1 % 4294967296 = W.byt s.data.toList 1 := by have := W.byt_bd s.data.toList 1; omega
  simp [K.rd, K.t_none, K.t_reg, K.t_pair, K.t_small, K.t_full, K.t_plain, K.i0, K.wu32, hb]
theorem K.read_4 (s : ByteArray) (hs : s.size = 3) (hf : R2.Format (W.byt s.data.toList 0) = 4) : R2.read s = K.rd 3 s.data.toList 3 := by
  have hd : decide (((s.size : Nat) : Int) > 1) = true := by simp; omega
  unfold R2.read
  simp only [K.wb, K.wb2, K.tdb, K.tmb, K.exb, hf, hd]
  rw [show ((s.size : Nat) : Int) = 3 by omega]
  have hb : W.byt s.data.toList 1 % 4294967296 = W.byt s.data.toList 1 := by have := W.byt_bd s.data.toList 1; omega
  simp [K.rd, K.t_none, K.t_reg, K.t_pair, K.t_small, K.t_full, K.t_plain, K.i0, K.wu32, hb]
theorem K.read_5 (s : ByteArray) (hs : s.size = 6) (hf : R2.Format (W.byt s.data.toList 0) = 5) : R2.read s = K.rd 4 s.data.toList 6 := by
  have hd : decide (((s.size : Nat) : Int) > 1) = true := by simp; omega
  unfold R2.read
  simp only [K.wb, K.wb2, K.tdb, K.tmb, K.exb, hf, hd, R2.long_eq s 2 (by omega)]
  rw [show ((s.size : Nat) : Int) = 6 by omega]
  have hb : W.byt s.data.toList 1 % 4294967296 = W.byt s.data.toList 1 := by have := W.byt_bd s.data.toList 1; omega
  simp [K.rd, K.t_none, K.t_reg, K.t_pair, K.t_small, K.t_full, K.t_plain, K.i0, K.wu32, hb]
theorem K.read_6 (s : ByteArray) (hs : s.size = 3) (hf : R2.Format (W.byt s.data.toList 0) = 6) : R2.read s = K.rd 5 s.data.toList 3 := by
  have hd : decide (((s.size : Nat) : Int) > 1) = true := by simp; omega
  unfold R2.read
  simp only [K.wb, K.wb2, K.tdb, K.tmb, K.exb, hf, hd]
  rw [show ((s.size : Nat) : Int) = 3 by omega]
  have hb : W.byt s.data.toList 1 % 4294967296 = W.byt s.data.toList 1 := by have := W.byt_bd s.data.toList 1; omega
  simp [K.rd, K.t_none, K.t_reg, K.t_pair, K.t_small, K.t_full, K.t_plain, K.i0, K.wu32, hb]
theorem K.read_7 (s : ByteArray) (hs : s.size = 7) (hf : R2.Format (W.byt s.data.toList 0) = 7) : R2.read s = K.rd 6 s.data.toList 7 := by
  have hd : decide (((s.size : Nat) : Int) > 1) = true := by simp; omega
  unfold R2.read
  simp only [K.wb, K.wb2, K.tdb, K.tmb, K.exb, hf, hd, R2.long_eq s 3 (by omega)]
  rw [show ((s.size : Nat) : Int) = 7 by omega]
  cases h8 : (W.byt s.data.toList 2 != 8) with
  | true =>
    have h8' : ¬ W.byt s.data.toList 2 = 8 := by simpa using h8
    simp [K.rd, K.t_full, K.t_index, K.t_pair, K.i0, h8']
  | false =>
    have h8' : W.byt s.data.toList 2 = 8 := by simpa using h8
    simp [K.rd, K.t_full, K.t_index, K.t_pair, K.i0, h8']
theorem K.read_8 (s : ByteArray) (hs : s.size = 2) (hf : R2.Format (W.byt s.data.toList 0) = 8) : R2.read s = K.rd 7 s.data.toList 2 := by
  have hd : decide (((s.size : Nat) : Int) > 1) = true := by simp; omega
  unfold R2.read
  simp only [K.wb, K.wb2, K.tdb, K.tmb, K.exb, hf, hd]
  rw [show ((s.size : Nat) : Int) = 2 by omega]
  have hb : W.byt s.data.toList 1 % 4294967296 = W.byt s.data.toList 1 := by have := W.byt_bd s.data.toList 1; omega
  simp [K.rd, K.t_none, K.t_reg, K.t_pair, K.t_small, K.t_full, K.t_plain, K.i0, K.wu32, hb]
theorem K.read_9 (s : ByteArray) (hs : s.size = 5) (hf : R2.Format (W.byt s.data.toList 0) = 9) : R2.read s = K.rd 8 s.data.toList 5 := by
  have hd : decide (((s.size : Nat) : Int) > 1) = true := by simp; omega
  unfold R2.read
  simp only [K.wb, K.wb2, K.tdb, K.tmb, K.exb, hf, hd, R2.long_eq s 1 (by omega)]
  rw [show ((s.size : Nat) : Int) = 5 by omega]
  have hb : W.byt s.data.toList 1 % 4294967296 = W.byt s.data.toList 1 := by have := W.byt_bd s.data.toList 1; omega
  simp [K.rd, K.t_none, K.t_reg, K.t_pair, K.t_small, K.t_full, K.t_plain, K.i0, K.wu32, hb]
theorem K.read_10 (s : ByteArray) (hs : s.size = 2) (hf : R2.Format (W.byt s.data.toList 0) = 10) : R2.read s = K.rd 9 s.data.toList 2 := by
  have hd : decide (((s.size : Nat) : Int) > 1) = true := by simp; omega
  unfold R2.read
  simp only [K.wb, K.wb2, K.tdb, K.tmb, K.exb, hf, hd]
  rw [show ((s.size : Nat) : Int) = 2 by omega]
  have hb : W.byt s.data.toList 1 % 4294967296 = W.byt s.data.toList 1 := by have := W.byt_bd s.data.toList 1; omega
  simp [K.rd, K.t_none, K.t_reg, K.t_pair, K.t_small, K.t_full, K.t_plain, K.i0, K.wu32, hb]
theorem K.read_11 (s : ByteArray) (hs : s.size = 2) (hf : R2.Format (W.byt s.data.toList 0) = 11) : R2.read s = K.rd 10 s.data.toList 2 := by
  have hd : decide (((s.size : Nat) : Int) > 1) = true := by simp; omega
  unfold R2.read
  simp only [K.wb, K.wb2, K.tdb, K.tmb, K.exb, hf, hd]
  rw [show ((s.size : Nat) : Int) = 2 by omega]
  have hb : W.byt s.data.toList 1 % 4294967296 = W.byt s.data.toList 1 := by have := W.byt_bd s.data.toList 1; omega
  simp [K.rd, K.t_none, K.t_reg, K.t_pair, K.t_small, K.t_full, K.t_plain, K.i0, K.wu32, hb]
theorem K.read_12 (s : ByteArray) (hs : s.size = 2) (hf : R2.Format (W.byt s.data.toList 0) = 12) : R2.read s = K.rd 10 s.data.toList 2 := by
  have hd : decide (((s.size : Nat) : Int) > 1) = true := by simp; omega
  unfold R2.read
  simp only [K.wb, K.wb2, K.tdb, K.tmb, K.exb, hf, hd]
  rw [show ((s.size : Nat) : Int) = 2 by omega]
  have hb : W.byt s.data.toList 1 % 4294967296 = W.byt s.data.toList 1 := by have := W.byt_bd s.data.toList 1; omega
  simp [K.rd, K.t_none, K.t_reg, K.t_pair, K.t_small, K.t_full, K.t_plain, K.i0, K.wu32, hb]
set_option maxHeartbeats 2000000 in
theorem K.decode_eq (s : ByteArray) (hs : s.size ≤ maxLen) : K.decode s = R2.Decode s := by
  have hb0 := W.byt_bd s.data.toList 0
  have hw := K.wb s.data.toList 0
  unfold K.decode R2.Decode
  rw [hw]
  rcases K.fmt_cases (W.byt s.data.toList 0) with ⟨hk, hf⟩ | ⟨hk, hf, h1, h2⟩ | ⟨hk, hf, h1, h2⟩ | ⟨hk, hf, h1, h2⟩ | ⟨hk, hf, h1, h2⟩ | ⟨hk, hf, h1, h2⟩ | ⟨hk, hf, h1, h2⟩ | ⟨hk, hf, h1, h2⟩ | ⟨hk, hf, h1, h2⟩ | ⟨hk, hf, h1, h2⟩ | ⟨hk, hf, h1⟩ | ⟨hk, hf, h1⟩ | ⟨hk, hf, h1⟩
  · have hz : R2.Size (W.byt s.data.toList 0) = 0 := by unfold R2.Size; rw [hw, hf]; rfl
    rw [hk, hz]
    show K.decode0 s = _
    unfold K.decode0; rfl
  · have hz : R2.Size (W.byt s.data.toList 0) = 1 := by unfold R2.Size; rw [hw, hf]; rfl
    have hl : K.len 0 = 1 := rfl
    rw [hk, hz]
    show K.decode1 0 s = _
    unfold K.decode1
    rw [hl]
    cases h1 : (s.toList == (⟨#[]⟩ : ByteArray).toList) with
    | true => rfl
    | false =>
      rw [cond_false, cond_false, show ((1 : Int) == 0) = false from rfl, cond_false]
      cases h2 : decide (((s.size : Nat) : Int) < 1) with
      | true => rfl
      | false =>
        have h3 : 1 ≤ s.size := by simp at h2; omega
        have e : ((1 : Int).toNat) = 1 := rfl
        have ez : (s.extract 0 1).size = 1 := by rw [ByteArray.size_extract]; omega
        have er := K.read_1 (s.extract 0 1) ez (by rw [R2.byt_extract s 1 0 (by omega) h3]; exact hf)
        rw [cond_false, cond_false, e, er, K.valid_eq _ (K.rd_imm 0 (by decide) _ _)]
  · have hz : R2.Size (W.byt s.data.toList 0) = 2 := by unfold R2.Size; rw [hw, hf]; rfl
    have hl : K.len 1 = 2 := rfl
    rw [hk, hz]
    show K.decode1 1 s = _
    unfold K.decode1
    rw [hl]
    cases h1 : (s.toList == (⟨#[]⟩ : ByteArray).toList) with
    | true => rfl
    | false =>
      rw [cond_false, cond_false, show ((2 : Int) == 0) = false from rfl, cond_false]
      cases h2 : decide (((s.size : Nat) : Int) < 2) with
      | true => rfl
      | false =>
        have h3 : 2 ≤ s.size := by simp at h2; omega
        have e : ((2 : Int).toNat) = 2 := rfl
        have ez : (s.extract 0 2).size = 2 := by rw [ByteArray.size_extract]; omega
        have er := K.read_2 (s.extract 0 2) ez (by rw [R2.byt_extract s 2 0 (by omega) h3]; exact hf)
        rw [cond_false, cond_false, e, er, K.valid_eq _ (K.rd_imm 1 (by decide) _ _)]
  · have hz : R2.Size (W.byt s.data.toList 0) = 2 := by unfold R2.Size; rw [hw, hf]; rfl
    have hl : K.len 2 = 2 := rfl
    rw [hk, hz]
    show K.decode1 2 s = _
    unfold K.decode1
    rw [hl]
    cases h1 : (s.toList == (⟨#[]⟩ : ByteArray).toList) with
    | true => rfl
    | false =>
      rw [cond_false, cond_false, show ((2 : Int) == 0) = false from rfl, cond_false]
      cases h2 : decide (((s.size : Nat) : Int) < 2) with
      | true => rfl
      | false =>
        have h3 : 2 ≤ s.size := by simp at h2; omega
        have e : ((2 : Int).toNat) = 2 := rfl
        have ez : (s.extract 0 2).size = 2 := by rw [ByteArray.size_extract]; omega
        have er := K.read_3 (s.extract 0 2) ez (by rw [R2.byt_extract s 2 0 (by omega) h3]; exact hf)
        rw [cond_false, cond_false, e, er, K.valid_eq _ (K.rd_imm 2 (by decide) _ _)]
  · have hz : R2.Size (W.byt s.data.toList 0) = 3 := by unfold R2.Size; rw [hw, hf]; rfl
    have hl : K.len 3 = 3 := rfl
    rw [hk, hz]
    show K.decode1 3 s = _
    unfold K.decode1
    rw [hl]
    cases h1 : (s.toList == (⟨#[]⟩ : ByteArray).toList) with
    | true => rfl
    | false =>
      rw [cond_false, cond_false, show ((3 : Int) == 0) = false from rfl, cond_false]
      cases h2 : decide (((s.size : Nat) : Int) < 3) with
      | true => rfl
      | false =>
        have h3 : 3 ≤ s.size := by simp at h2; omega
        have e : ((3 : Int).toNat) = 3 := rfl
        have ez : (s.extract 0 3).size = 3 := by rw [ByteArray.size_extract]; omega
        have er := K.read_4 (s.extract 0 3) ez (by rw [R2.byt_extract s 3 0 (by omega) h3]; exact hf)
        rw [cond_false, cond_false, e, er, K.valid_eq _ (K.rd_imm 3 (by decide) _ _)]
  · have hz : R2.Size (W.byt s.data.toList 0) = 6 := by unfold R2.Size; rw [hw, hf]; rfl
    have hl : K.len 4 = 6 := rfl
    rw [hk, hz]
    show K.decode1 4 s = _
    unfold K.decode1
    rw [hl]
    cases h1 : (s.toList == (⟨#[]⟩ : ByteArray).toList) with
    | true => rfl
    | false =>
      rw [cond_false, cond_false, show ((6 : Int) == 0) = false from rfl, cond_false]
      cases h2 : decide (((s.size : Nat) : Int) < 6) with
      | true => rfl
      | false =>
        have h3 : 6 ≤ s.size := by simp at h2; omega
        have e : ((6 : Int).toNat) = 6 := rfl
        have ez : (s.extract 0 6).size = 6 := by rw [ByteArray.size_extract]; omega
        have er := K.read_5 (s.extract 0 6) ez (by rw [R2.byt_extract s 6 0 (by omega) h3]; exact hf)
        rw [cond_false, cond_false, e, er, K.valid_eq _ (K.rd_imm 4 (by decide) _ _)]
  · have hz : R2.Size (W.byt s.data.toList 0) = 3 := by unfold R2.Size; rw [hw, hf]; rfl
    have hl : K.len 5 = 3 := rfl
    rw [hk, hz]
    show K.decode1 5 s = _
    unfold K.decode1
    rw [hl]
    cases h1 : (s.toList == (⟨#[]⟩ : ByteArray).toList) with
    | true => rfl
    | false =>
      rw [cond_false, cond_false, show ((3 : Int) == 0) = false from rfl, cond_false]
      cases h2 : decide (((s.size : Nat) : Int) < 3) with
      | true => rfl
      | false =>
        have h3 : 3 ≤ s.size := by simp at h2; omega
        have e : ((3 : Int).toNat) = 3 := rfl
        have ez : (s.extract 0 3).size = 3 := by rw [ByteArray.size_extract]; omega
        have er := K.read_6 (s.extract 0 3) ez (by rw [R2.byt_extract s 3 0 (by omega) h3]; exact hf)
        rw [cond_false, cond_false, e, er, K.valid_eq _ (K.rd_imm 5 (by decide) _ _)]
  · have hz : R2.Size (W.byt s.data.toList 0) = 7 := by unfold R2.Size; rw [hw, hf]; rfl
    have hl : K.len 6 = 7 := rfl
    rw [hk, hz]
    show K.decode1 6 s = _
    unfold K.decode1
    rw [hl]
    cases h1 : (s.toList == (⟨#[]⟩ : ByteArray).toList) with
    | true => rfl
    | false =>
      rw [cond_false, cond_false, show ((7 : Int) == 0) = false from rfl, cond_false]
      cases h2 : decide (((s.size : Nat) : Int) < 7) with
      | true => rfl
      | false =>
        have h3 : 7 ≤ s.size := by simp at h2; omega
        have e : ((7 : Int).toNat) = 7 := rfl
        have ez : (s.extract 0 7).size = 7 := by rw [ByteArray.size_extract]; omega
        have er := K.read_7 (s.extract 0 7) ez (by rw [R2.byt_extract s 7 0 (by omega) h3]; exact hf)
        rw [cond_false, cond_false, e, er, K.valid_eq _ (K.rd_imm 6 (by decide) _ _)]
  · have hz : R2.Size (W.byt s.data.toList 0) = 2 := by unfold R2.Size; rw [hw, hf]; rfl
    have hl : K.len 7 = 2 := rfl
    rw [hk, hz]
    show K.decode1 7 s = _
    unfold K.decode1
    rw [hl]
    cases h1 : (s.toList == (⟨#[]⟩ : ByteArray).toList) with
    | true => rfl
    | false =>
      rw [cond_false, cond_false, show ((2 : Int) == 0) = false from rfl, cond_false]
      cases h2 : decide (((s.size : Nat) : Int) < 2) with
      | true => rfl
      | false =>
        have h3 : 2 ≤ s.size := by simp at h2; omega
        have e : ((2 : Int).toNat) = 2 := rfl
        have ez : (s.extract 0 2).size = 2 := by rw [ByteArray.size_extract]; omega
        have er := K.read_8 (s.extract 0 2) ez (by rw [R2.byt_extract s 2 0 (by omega) h3]; exact hf)
        rw [cond_false, cond_false, e, er, K.valid_eq _ (K.rd_imm 7 (by decide) _ _)]
  · have hz : R2.Size (W.byt s.data.toList 0) = 5 := by unfold R2.Size; rw [hw, hf]; rfl
    have hl : K.len 8 = 5 := rfl
    rw [hk, hz]
    show K.decode1 8 s = _
    unfold K.decode1
    rw [hl]
    cases h1 : (s.toList == (⟨#[]⟩ : ByteArray).toList) with
    | true => rfl
    | false =>
      rw [cond_false, cond_false, show ((5 : Int) == 0) = false from rfl, cond_false]
      cases h2 : decide (((s.size : Nat) : Int) < 5) with
      | true => rfl
      | false =>
        have h3 : 5 ≤ s.size := by simp at h2; omega
        have e : ((5 : Int).toNat) = 5 := rfl
        have ez : (s.extract 0 5).size = 5 := by rw [ByteArray.size_extract]; omega
        have er := K.read_9 (s.extract 0 5) ez (by rw [R2.byt_extract s 5 0 (by omega) h3]; exact hf)
        rw [cond_false, cond_false, e, er, K.valid_eq _ (K.rd_imm 8 (by decide) _ _)]
  · have hz : R2.Size (W.byt s.data.toList 0) = 2 := by unfold R2.Size; rw [hw, hf]; rfl
    have hl : K.len 9 = 2 := rfl
    rw [hk, hz]
    show K.decode1 9 s = _
    unfold K.decode1
    rw [hl]
    cases h1 : (s.toList == (⟨#[]⟩ : ByteArray).toList) with
    | true => rfl
    | false =>
      rw [cond_false, cond_false, show ((2 : Int) == 0) = false from rfl, cond_false]
      cases h2 : decide (((s.size : Nat) : Int) < 2) with
      | true => rfl
      | false =>
        have h3 : 2 ≤ s.size := by simp at h2; omega
        have e : ((2 : Int).toNat) = 2 := rfl
        have ez : (s.extract 0 2).size = 2 := by rw [ByteArray.size_extract]; omega
        have er := K.read_10 (s.extract 0 2) ez (by rw [R2.byt_extract s 2 0 (by omega) h3]; exact hf)
        rw [cond_false, cond_false, e, er, K.valid_eq _ (K.rd_imm 9 (by decide) _ _)]
  · have hz : R2.Size (W.byt s.data.toList 0) = 2 := by unfold R2.Size; rw [hw, hf]; rfl
    have hl : K.len 10 = 2 := rfl
    rw [hk, hz]
    show K.decode1 10 s = _
    unfold K.decode1
    rw [hl]
    cases h1 : (s.toList == (⟨#[]⟩ : ByteArray).toList) with
    | true => rfl
    | false =>
      rw [cond_false, cond_false, show ((2 : Int) == 0) = false from rfl, cond_false]
      cases h2 : decide (((s.size : Nat) : Int) < 2) with
      | true => rfl
      | false =>
        have h3 : 2 ≤ s.size := by simp at h2; omega
        have e : ((2 : Int).toNat) = 2 := rfl
        have ez : (s.extract 0 2).size = 2 := by rw [ByteArray.size_extract]; omega
        have er := K.read_11 (s.extract 0 2) ez (by rw [R2.byt_extract s 2 0 (by omega) h3]; exact hf)
        rw [cond_false, cond_false, e, er, K.valid_eq _ (K.rd_imm 10 (by decide) _ _)]
  · have hz : R2.Size (W.byt s.data.toList 0) = 2 := by unfold R2.Size; rw [hw, hf]; rfl
    have hl : K.len 10 = 2 := rfl
    rw [hk, hz]
    show K.decode1 10 s = _
    unfold K.decode1
    rw [hl]
    cases h1 : (s.toList == (⟨#[]⟩ : ByteArray).toList) with
    | true => rfl
    | false =>
      rw [cond_false, cond_false, show ((2 : Int) == 0) = false from rfl, cond_false]
      cases h2 : decide (((s.size : Nat) : Int) < 2) with
      | true => rfl
      | false =>
        have h3 : 2 ≤ s.size := by simp at h2; omega
        have e : ((2 : Int).toNat) = 2 := rfl
        have ez : (s.extract 0 2).size = 2 := by rw [ByteArray.size_extract]; omega
        have er := K.read_12 (s.extract 0 2) ez (by rw [R2.byt_extract s 2 0 (by omega) h3]; exact hf)
        rw [cond_false, cond_false, e, er, K.valid_eq _ (K.rd_imm 10 (by decide) _ _)]
/-- A valid instruction. -/
structure K.Good (i : K.Ins) : Prop where
  val : R2.Valid i = true
  i0 : 0 ≤ i.imm
  i1 : i.imm < 4294967296
def K.bytes (i : K.Ins) : ByteArray := (R2.Encode i).1
structure K.Enc (i : K.Ins) (k : Nat) : Prop where
  fmt : K.fmt i.op = some k
  lt : k < 11
  inn : K.In i
  sz : i.sz = K.len k
  enc : R2.Encode i = (strOfNums (K.ser k i), 0)
  v1 : K.valid1 k i = true
theorem K.good_enc {i : K.Ins} (h : K.Good i) : ∃ k, K.Enc i k := by
  have hm := And.intro h.i0 h.i1
  have hv := K.valid_eq i hm
  rw [h.val] at hv
  have he := K.encode_eq i hm
  unfold K.valid at hv
  unfold K.encode at he
  cases hk : K.fmt i.op with
  | none => rw [hk] at hv; cases hv
  | some k =>
    rw [hk] at hv he
    have hv : K.valid1 k i = true := hv
    have he : K.encode1 k i = R2.Encode i := he
    have hin := K.in_valid (k := k) hm (by rw [hv]; rfl)
    refine ⟨k, hk, K.fmt_lt hk, hin, ?_, ?_, hv⟩
    · unfold K.valid1 at hv
      cases hq : ((i.sz != (K.len k)) || (!(K.rng i))) with
      | true => rw [hq] at hv; simp at hv
      | false => simp at hq; exact hq.1
    · rw [← he]; unfold K.encode1; rw [hv]; simp only [Bool.not_true, cond_false, K.ser_str]
theorem K.ser_len (k : Nat) (hk : k < 11) (i : K.Ins) : ((K.ser k i).length : Int) = K.len k := by
  unfold K.ser; rw [List.length_cons]; have := K.wr_len k hk i; push_cast; omega
theorem K.bytes_eq {i : K.Ins} {k : Nat} (h : K.Enc i k) : K.bytes i = strOfNums (K.ser k i) := by unfold K.bytes; rw [h.enc]
theorem K.bytes_size {i : K.Ins} {k : Nat} (h : K.Enc i k) : ((K.bytes i).size : Int) = K.len k := by rw [K.bytes_eq h, strOfNums_size, K.ser_len k h.lt]
theorem K.good_size {i : K.Ins} (h : K.Good i) : ((K.bytes i).size : Int) = i.sz ∧ 1 ≤ i.sz ∧ i.sz ≤ 7 := by
  obtain ⟨k, hk⟩ := K.good_enc h
  have := K.len_bd k hk.lt
  rw [K.bytes_size hk, hk.sz]; exact ⟨rfl, this.1, this.2⟩
theorem K.rt {i : K.Ins} {k : Nat} (h : K.Enc i k) : K.rd k (strOfNums (K.ser k i)).data.toList (K.len k) = i := by
  have hv := h.v1
  unfold K.valid1 at hv
  cases hq : ((i.sz != (K.len k)) || (!(K.rng i))) with
  | true => rw [hq] at hv; cases hv
  | false =>
    rw [hq, cond_false, K.ser_str] at hv
    generalize K.rd k (strOfNums (K.ser k i)).data.toList (K.len k) = r at *
    simp only [Bool.and_eq_true, beq_iff_eq] at hv
    obtain ⟨⟨⟨⟨⟨⟨a, b⟩, c⟩, d⟩, e⟩, f⟩, g⟩ := hv
    cases r; cases i; simp_all
theorem K.rd_congr (k : Nat) (hk : k < 11) (l1 l2 : List UInt8) (sz : Int) (h : ∀ j : Nat, (j : Int) < K.len k → W.byt l1 j = W.byt l2 j) : K.rd k l1 sz = K.rd k l2 sz := by
  rcases (by omega : k = 0 ∨ k = 1 ∨ k = 2 ∨ k = 3 ∨ k = 4 ∨ k = 5 ∨ k = 6 ∨ k = 7 ∨ k = 8 ∨ k = 9 ∨ k = 10) with rfl | rfl | rfl | rfl | rfl | rfl | rfl | rfl | rfl | rfl | rfl
  · have h0 := h 0 (by decide); simp [K.rd, K.i0, K.t_none, h0]
  · have h0 := h 0 (by decide); have h1 := h 1 (by decide); simp [K.rd, K.i0, K.t_reg, h0, h1]
  · have h0 := h 0 (by decide); have h1 := h 1 (by decide); simp [K.rd, K.i0, K.t_pair, h0, h1]
  · have h0 := h 0 (by decide); have h1 := h 1 (by decide); have h2 := h 2 (by decide); simp [K.rd, K.i0, K.t_reg, K.t_small, h0, h1, h2]
  · have h0 := h 0 (by decide); have h1 := h 1 (by decide); have h2 := h 2 (by decide); have h3 := h 3 (by decide); have h4 := h 4 (by decide); have h5 := h 5 (by decide); simp [K.rd, K.i0, K.t_reg, K.t_full, K.four, h0, h1, h2, h3, h4, h5]
  · have h0 := h 0 (by decide); have h1 := h 1 (by decide); have h2 := h 2 (by decide); simp [K.rd, K.i0, K.t_pair, K.t_small, h0, h1, h2]
  · have h0 := h 0 (by decide); have h1 := h 1 (by decide); have h2 := h 2 (by decide); have h3 := h 3 (by decide); have h4 := h 4 (by decide); have h5 := h 5 (by decide); have h6 := h 6 (by decide); simp [K.rd, K.i0, K.t_pair, K.t_index, K.t_full, K.four, h0, h1, h2, h3, h4, h5, h6]
  · have h0 := h 0 (by decide); have h1 := h 1 (by decide); simp [K.rd, K.i0, K.t_small, h0, h1]
  · have h0 := h 0 (by decide); have h1 := h 1 (by decide); have h2 := h 2 (by decide); have h3 := h 3 (by decide); have h4 := h 4 (by decide); simp [K.rd, K.i0, K.t_full, K.four, h0, h1, h2, h3, h4]
  · have h0 := h 0 (by decide); have h1 := h 1 (by decide); simp [K.rd, K.i0, K.t_plain, h0, h1]
  · have h0 := h 0 (by decide); have h1 := h 1 (by decide); simp [K.rd, K.i0, K.t_pair, h0, h1]
theorem K.not_empty {s : ByteArray} (h : 0 < s.size) : (s.toList == (⟨#[]⟩ : ByteArray).toList) = false := by
  cases hq : (s.toList == (⟨#[]⟩ : ByteArray).toList) with
  | false => rfl
  | true =>
    exfalso
    have e : s = ⟨#[]⟩ := by
      have h1 : s.toList = (⟨#[]⟩ : ByteArray).toList := by simpa using hq
      rw [ByteArray.toList_eq, ByteArray.toList_eq] at h1
      exact ByteArray.ext (Array.toList_inj.1 h1)
    rw [e] at h; exact absurd h (by decide)
/-- What Decode comes to where a format is known. -/
theorem K.dec_of (s : ByteArray) (k : Nat) (hk : K.fmt (W.byt s.data.toList 0) = some k) (h0 : 0 < s.size) (hs : s.size ≤ maxLen) :
    R2.Decode s = bif decide ((s.size : Int) < K.len k) then (⟨0, 0, 0, 0, 0, 0, 0⟩, 10) else bif !(R2.Valid (K.rd k s.data.toList (K.len k))) then (⟨0, 0, 0, 0, 0, 0, 0⟩, 12) else (K.rd k s.data.toList (K.len k), 0) := by
  rw [← K.decode_eq s hs]
  unfold K.decode
  rw [K.wb, hk]
  show K.decode1 k s = _
  unfold K.decode1
  rw [K.not_empty h0, cond_false]
  cases h2 : decide (((s.size : Nat) : Int) < K.len k) with
  | true => rfl
  | false =>
    have h3 : K.len k ≤ s.size := by simp at h2; omega
    have hl := K.len_bd k (K.fmt_lt hk)
    rw [K.rd_congr k (K.fmt_lt hk) (s.extract 0 (K.len k).toNat).data.toList s.data.toList (K.len k) (fun j hj => R2.byt_extract s _ j (by omega) (by omega))]
    rw [K.valid_eq _ (K.rd_imm k (K.fmt_lt hk) _ _)]
theorem K.byt_app (a b : ByteArray) (j : Nat) (h : j < a.size) : W.byt (a ++ b).data.toList j = W.byt a.data.toList j := by
  unfold W.byt
  congr 2
  have e : (a ++ b).data.toList = a.data.toList ++ b.data.toList := by simp [ByteArray.data_append]
  have : j < a.data.toList.length := by rw [Array.length_toList]; exact h
  rw [e]; simp only [List.getD, List.getElem?_append_left this]
theorem K.op_wrap {i : K.Ins} {k : Nat} (h : K.Enc i k) : IntKind.wrap .u8 i.op = i.op := by
  have hk := h.fmt
  rcases K.fmt_cases i.op with ⟨hk', _⟩ | ⟨_, _, a, b⟩ | ⟨_, _, a, b⟩ | ⟨_, _, a, b⟩ | ⟨_, _, a, b⟩ | ⟨_, _, a, b⟩ | ⟨_, _, a, b⟩ | ⟨_, _, a, b⟩ | ⟨_, _, a, b⟩ | ⟨_, _, a, b⟩ | ⟨_, _, a⟩ | ⟨_, _, a⟩ | ⟨_, _, a⟩ <;> first | (rw [hk] at hk'; cases hk') | exact K.w8 _ (by omega) (by omega)
theorem K.byt_bytes {i : K.Ins} {k : Nat} (h : K.Enc i k) (j : Nat) : W.byt (K.bytes i).data.toList j = (K.ser k i).getD j 0 := by rw [K.bytes_eq h]; exact K.byt_ser k h.lt i h.inn j
theorem K.byt_0 {i : K.Ins} {k : Nat} (h : K.Enc i k) : W.byt (K.bytes i).data.toList 0 = i.op := by
  rw [K.byt_bytes h]; show IntKind.wrap .u8 i.op = _; exact K.op_wrap h
/-- Decode inverts Encode, whatever follows. -/
theorem K.dec_app {i : K.Ins} (h : K.Good i) (more : ByteArray) (hs : (K.bytes i ++ more).size ≤ maxLen) : R2.Decode (K.bytes i ++ more) = (i, 0) := by
  obtain ⟨k, hk⟩ := K.good_enc h
  have hl := K.len_bd k hk.lt
  have hz := K.bytes_size hk
  have ha : (K.bytes i ++ more).size = (K.bytes i).size + more.size := ByteArray.size_append
  have e0 : W.byt (K.bytes i ++ more).data.toList 0 = i.op := by rw [K.byt_app _ _ 0 (by omega), K.byt_0 hk]
  have er : K.rd k (K.bytes i ++ more).data.toList (K.len k) = i := by
    rw [K.rd_congr k hk.lt _ (K.bytes i).data.toList _ (fun j hj => K.byt_app _ _ j (by omega)), K.bytes_eq hk, K.rt hk]
  rw [K.dec_of _ k (by rw [e0]; exact hk.fmt) (by omega) hs, er, h.val, show decide (((K.bytes i ++ more).size : Int) < K.len k) = false by simp; omega]
  rfl
theorem K.append_empty (a : ByteArray) : a ++ (⟨#[]⟩ : ByteArray) = a := by
  apply ByteArray.ext; simp [ByteArray.data_append]
theorem K.dec_bytes {i : K.Ins} (h : K.Good i) : R2.Decode (K.bytes i) = (i, 0) := by
  have := K.dec_app h ⟨#[]⟩ (by rw [K.append_empty]; have := K.good_size h; unfold maxLen; omega)
  rwa [K.append_empty] at this
theorem K.str_inj {a b : ByteArray} (h : a.data.toList = b.data.toList) : a = b := ByteArray.ext (Array.toList_inj.1 h)
theorem K.fetch_at {V : M.V} {p : Int} {i : K.Ins} (h : K.Good i) (hp : 0 ≤ p ∧ p < 4294967288) (hA : ∀ j : Nat, j < (K.bytes i).size → V.fetch (p.toNat + j) = (W.byt (K.bytes i).data.toList j, true)) : K.fetch V p = (i, 0, 0) := by
  obtain ⟨k, he⟩ := K.good_enc h
  obtain ⟨z1, z2, z3⟩ := K.good_size h
  have h0 : K.b0 V p = W.byt (K.bytes i).data.toList 0 := by
    unfold K.b0; have := hA 0 (by omega); rw [Nat.add_zero] at this; rw [this]
  have h1 : K.o0 V p = true := by
    unfold K.o0; have := hA 0 (by omega); rw [Nat.add_zero] at this; rw [this]
  have hb : ∀ j : Nat, j < 8 → j < (K.bytes i).size → K.b V p ((j : Nat) : Int) = W.byt (K.bytes i).data.toList j ∧ K.o V p ((j : Nat) : Int) = true := fun j h8 hj => by
    have e : (IntKind.wrap .u32 (p + ((j : Nat) : Int))).toNat = p.toNat + j := by
      show ((p + ((j : Nat) : Int)) % 4294967296).toNat = _
      omega
    unfold K.b K.o; rw [e, hA j hj]; exact ⟨rfl, rfl⟩
  have hop : W.byt (K.bytes i).data.toList 0 = i.op := K.byt_0 he
  have hz : K.size (K.b0 V p) = i.sz := by
    have hbd := W.byt_bd (K.bytes i).data.toList 0
    rw [h0]
    unfold K.size
    rw [hop] at hbd ⊢
    rw [IntWalk.i64_in _ (by omega), he.fmt]
    exact he.sz.symm
  have hl : (K.ser k i).length = (K.bytes i).size := by
    have := K.ser_len k he.lt i
    have := K.bytes_size he
    omega
  have hd : ∀ n : Nat, (K.bytes i).size = n → K.dc V p n = (i, 0) := fun n hn => by
    have e : K.bl V p n = K.ser k i := by
      show List.take n [K.b0 V p, K.b V p 1, K.b V p 2, K.b V p 3, K.b V p 4, K.b V p 5, K.b V p 6] = _
      apply List.ext_getElem
      · rw [List.length_take, hl, hn]; show min n 7 = n; omega
      · intro j j1 j2
        have hj : j < (K.bytes i).size := by omega
        have e2 : (K.ser k i)[j] = W.byt (K.bytes i).data.toList j := by rw [K.byt_bytes he j, List.getD_eq_getElem?_getD, List.getElem?_eq_getElem j2]; rfl
        rw [e2, List.getElem_take]
        rcases (by omega : j = 0 ∨ j = 1 ∨ j = 2 ∨ j = 3 ∨ j = 4 ∨ j = 5 ∨ j = 6) with rfl | rfl | rfl | rfl | rfl | rfl | rfl
        · exact h0
        · exact (hb 1 (by decide) hj).1
        · exact (hb 2 (by decide) hj).1
        · exact (hb 3 (by decide) hj).1
        · exact (hb 4 (by decide) hj).1
        · exact (hb 5 (by decide) hj).1
        · exact (hb 6 (by decide) hj).1
    unfold K.dc
    rw [e, ← K.bytes_eq he, K.decode_eq _ (by have : (8 : Nat) ≤ maxLen := by decide
                                              omega), K.dec_bytes h]
  have o1 : 1 < (K.bytes i).size → K.o V p 1 = true := fun h => (hb 1 (by decide) h).2
  have o2 : 2 < (K.bytes i).size → K.o V p 2 = true := fun h => (hb 2 (by decide) h).2
  have o3 : 3 < (K.bytes i).size → K.o V p 3 = true := fun h => (hb 3 (by decide) h).2
  have o4 : 4 < (K.bytes i).size → K.o V p 4 = true := fun h => (hb 4 (by decide) h).2
  have o5 : 5 < (K.bytes i).size → K.o V p 5 = true := fun h => (hb 5 (by decide) h).2
  have o6 : 6 < (K.bytes i).size → K.o V p 6 = true := fun h => (hb 6 (by decide) h).2
  unfold K.fetch
  rw [h1, hz]
  rcases (by omega : i.sz = 1 ∨ i.sz = 2 ∨ i.sz = 3 ∨ i.sz = 4 ∨ i.sz = 5 ∨ i.sz = 6 ∨ i.sz = 7) with e | e | e | e | e | e | e
  · rw [e, hd 1 (by omega)]; rfl
  · rw [e, o1 (by omega), hd 2 (by omega)]; rfl
  · rw [e, o1 (by omega), o2 (by omega), hd 3 (by omega)]; rfl
  · rw [e, o1 (by omega), o2 (by omega), o3 (by omega), hd 4 (by omega)]; rfl
  · rw [e, o1 (by omega), o2 (by omega), o3 (by omega), o4 (by omega), hd 5 (by omega)]; rfl
  · rw [e, o1 (by omega), o2 (by omega), o3 (by omega), o4 (by omega), o5 (by omega), hd 6 (by omega)]; rfl
  · rw [e, o1 (by omega), o2 (by omega), o3 (by omega), o4 (by omega), o5 (by omega), o6 (by omega), hd 7 (by omega)]; rfl
theorem K.step_at {s : Q.S} {V : M.V} {i : K.Ins} (h : K.fetch V s.pc = (i, 0, 0)) : K.step s V = K.stepI i 0 0 s V := by unfold K.step; rw [h]
/-- No timer is due. -/
abbrev K.nd (s : Q.S) : Prop := (decide (s.du > 0) && decide (s.st ≥ s.du)) = false
theorem K.nd0 {s : Q.S} (h : s.du ≤ 0) : K.nd s := by unfold K.nd; rw [decide_eq_false (by omega : ¬ s.du > 0)]; rfl
theorem K.nd1 {s : Q.S} (h : s.st < s.du) : K.nd s := by unfold K.nd; rw [decide_eq_false (by omega : ¬ s.st ≥ s.du), Bool.and_false]
theorem K.runs_z {s : Q.S} {V : M.V} (h : K.nd s) : K.runs 0 s V = (s, 1, 0, V) := by
  show K.run 0 1 0 s V = _
  rw [K.run, h]; rfl
theorem K.runs_s (k : Nat) {s s' : Q.S} {V V' : M.V} {t : Int} (h : K.nd s) (hs : K.step s V = (s', 0, t, V')) : K.runs (((k + 1 : Nat)) : Int) s V = K.runs ((k : Nat) : Int) s' V' := by
  show K.run (((k + 1 : Nat)) : Int) ((((k + 1 : Nat)) : Int).toNat + 1) 0 s V = K.run ((k : Nat) : Int) (((k : Nat) : Int).toNat + 1) 0 s' V'
  rw [show (((k + 1 : Nat)) : Int).toNat + 1 = (k + 1) + 1 by omega, show ((k : Nat) : Int).toNat + 1 = k + 1 by omega, K.run, h, cond_false, decide_eq_false (by omega : ¬ (((0 : Nat) : Int) ≥ (((k + 1 : Nat)) : Int))), cond_false, hs]
  show K.run (((k + 1 : Nat)) : Int) (k + 1) (0 + 1) s' V' = _
  exact K.run_shift _ _ _ (by omega)
theorem K.runs_1 {s s' : Q.S} {V V' : M.V} {t : Int} (h : K.nd s) (hs : K.step s V = (s', 0, t, V')) (h2 : K.nd s') : K.runs 1 s V = (s', 1, 0, V') := (K.runs_s 0 h hs).trans (K.runs_z h2)
theorem K.runs_t {n : Int} (hn : 1 ≤ n) {s : Q.S} {V : M.V} {k t : Int} (h : K.nd s) (hs : K.step s V = (s, k, t, V)) (hk : (k != 0) = true) : K.runs n s V = (s, k, t, V) := by
  show K.run n (n.toNat + 1) 0 s V = _
  rw [K.run, h, cond_false, decide_eq_false (by omega : ¬ (((0 : Nat) : Int) ≥ n)), cond_false, hs]
  show (bif (k != 0) then _ else _) = _
  rw [hk]; rfl
/-- A memory of four pages that shows the bytes f and the rights r. -/
structure K.Mem (V : M.V) (f : Nat → Int) (r : Nat → Int) : Prop where
  n : V.n = 4
  co : V.coh = true
  d : ∀ x, x < 1024 → V.d (x / 256) (x % 256) = f x
  i : ∀ x, x < 1024 → V.i (x / 256) (x % 256) = f x
  r : ∀ j, j < 4 → V.r j = r j
theorem K.Mem.eq {V : M.V} {f g r : Nat → Int} (h : K.Mem V f r) (e : ∀ x, x < 1024 → f x = g x) : K.Mem V g r := ⟨h.n, h.co, fun x hx => (h.d x hx).trans (e x hx), fun x hx => (h.i x hx).trans (e x hx), h.r⟩
theorem K.Mem.set {V : M.V} {f r : Nat → Int} (h : K.Mem V f r) (a : Nat) (v : Int) : K.Mem (V.set a v) (fun x => if x = a then v else f x) r := by
  unfold M.V.set
  by_cases ha : a / 256 < V.n
  · rw [if_pos ha]
    refine ⟨h.n, h.co, fun x hx => ?_, fun x hx => ?_, h.r⟩
    · show M.up V.d (a / 256) (a % 256) v (x / 256) (x % 256) = _
      unfold M.up
      by_cases e : x = a
      · subst e; rw [if_pos ⟨rfl, rfl⟩, if_pos rfl]
      · rw [if_neg (by omega), if_neg e]; exact h.d x hx
    · show (if V.coh = true then M.up V.i (a / 256) (a % 256) v else V.i) (x / 256) (x % 256) = _
      rw [if_pos h.co]
      unfold M.up
      by_cases e : x = a
      · subst e; rw [if_pos ⟨rfl, rfl⟩, if_pos rfl]
      · rw [if_neg (by omega), if_neg e]; exact h.i x hx
  · rw [if_neg ha]
    have := h.n
    exact h.eq fun x hx => by rw [if_neg (by omega)]
theorem K.Mem.poke {V : M.V} {f r : Nat → Int} (h : K.Mem V f r) (a : Nat) (s : ByteArray) : ∀ c, a + c ≤ 4294967296 → K.Mem (V.poke a s c) (fun x => if a ≤ x ∧ x < a + c then W.byt s.data.toList (x - a) else f x) r
  | 0, _ => h.eq fun x hx => by rw [if_neg (by omega)]
  | c + 1, hc => by
    have ih := K.Mem.poke h a s c (by omega)
    have h2 := ih.set ((a + c) % 4294967296) (W.byt s.data.toList c)
    rw [Nat.mod_eq_of_lt (by omega : a + c < 4294967296)] at h2
    show K.Mem ((V.poke a s c).set ((a + c) % 4294967296) (W.byt s.data.toList c)) _ _
    rw [Nat.mod_eq_of_lt (by omega : a + c < 4294967296)]
    refine h2.eq fun x hx => ?_
    by_cases e : x = a + c
    · rw [if_pos e, if_pos (by omega), show x - a = c by omega]
    · rw [if_neg e]
      by_cases e2 : a ≤ x ∧ x < a + c
      · rw [if_pos e2, if_pos (by omega)]
      · rw [if_neg e2, if_neg (by omega)]
theorem K.Mem.put {V : M.V} {f r : Nat → Int} (h : K.Mem V f r) (a : Nat) (v : Int) : ∀ c, a + c ≤ 4294967296 → K.Mem (V.put a v c) (fun x => if a ≤ x ∧ x < a + c then IntKind.wrap .u8 (Int.fdiv v (2 ^ (8 * (x - a)))) else f x) r
  | 0, _ => h.eq fun x hx => by rw [if_neg (by omega)]
  | c + 1, hc => by
    have ih := K.Mem.put h a v c (by omega)
    have h2 := ih.set ((a + c) % 4294967296) (IntKind.wrap .u8 (Int.fdiv v (2 ^ (8 * c))))
    rw [Nat.mod_eq_of_lt (by omega : a + c < 4294967296)] at h2
    show K.Mem ((V.put a v c).set ((a + c) % 4294967296) (IntKind.wrap .u8 (Int.fdiv v (2 ^ (8 * c))))) _ _
    rw [Nat.mod_eq_of_lt (by omega : a + c < 4294967296)]
    refine h2.eq fun x hx => ?_
    by_cases e : x = a + c
    · rw [if_pos e, if_pos (by omega), show x - a = c by omega]
    · rw [if_neg e]
      by_cases e2 : a ≤ x ∧ x < a + c
      · rw [if_pos e2, if_pos (by omega)]
      · rw [if_neg e2, if_neg (by omega)]
theorem K.Mem.prot {V : M.V} {f r : Nat → Int} (h : K.Mem V f r) (k : Int) (p : Int) (hk : 0 ≤ k ∧ k < 4) : K.Mem (V.prot k p) f (fun j => if j = k.toNat then bits .and .i64 p 7 else r j) := by
  unfold M.V.prot
  have := h.n
  rw [if_pos (by omega)]
  refine ⟨h.n, h.co, h.d, h.i, fun j hj => ?_⟩
  show (if j = k.toNat then bits .and .i64 p 7 else V.r j) = _
  by_cases e : j = k.toNat
  · rw [if_pos e, if_pos e]
  · rw [if_neg e, if_neg e]; exact h.r j hj
theorem K.Mem.ok {V : M.V} {f r : Nat → Int} (h : K.Mem V f r) (a : Nat) (q : Int) (ha : a < 1024) : V.ok a q = !(bits .and .i64 (r (a / 256)) q == 0) := by
  have e2 : a / 256 < V.n := by rw [h.n]; omega
  have e3 : V.r (a / 256) = r (a / 256) := h.r _ (by omega)
  unfold M.V.ok
  rw [decide_eq_true e2, Bool.true_and, e3]
theorem K.Mem.peek {V : M.V} {f r : Nat → Int} (h : K.Mem V f r) {a : Nat} (ha : a < 1024) : V.peek a = f a := by
  unfold M.V.peek; rw [if_pos (by rw [h.n]; omega)]; exact h.d a ha
theorem K.Mem.fetch {V : M.V} {f r : Nat → Int} (h : K.Mem V f r) {a : Nat} (ha : a < 1024) (hr : (bits .and .i64 (r (a / 256)) 4 == 0) = false) : V.fetch a = (f a, true) := by
  unfold M.V.fetch M.V.code
  rw [h.ok a 4 ha, hr, if_pos (by rfl : (!false) = true), if_pos (by rw [h.n]; omega), h.i a ha]
/-- The memory of both, as bytes and rights. -/
def K.bf (z a : Int) (s : ByteArray) (x : Nat) : Int := if a.toNat ≤ x ∧ x < a.toNat + (K.cut s).size then W.byt (K.cut s).data.toList (x - a.toNat) else W.byt (K.fill z).data.toList x
def K.br (x0 x1 x2 x3 : Int) (j : Nat) : Int := bits .and .i64 (if j = 3 then x3 else if j = 2 then x2 else if j = 1 then x1 else x0) 7
theorem K.bV_mem (x0 x1 x2 x3 z a : Int) (s : ByteArray) (ha : 0 ≤ a ∧ a < 4294966000) : K.Mem (K.bV x0 x1 x2 x3 z a s) (K.bf z a s) (K.br x0 x1 x2 x3) := by
  have hs := K.cut_size s
  have h0 : K.Mem (M.V.new (M.np 4) true) (fun _ => 0) (fun _ => 0) := ⟨by kernel_rfl, rfl, fun _ _ => rfl, fun _ _ => rfl, fun _ _ => rfl⟩
  have h1 := h0.poke (0 : Int).toNat (K.fill z) (K.fill z).size (by rw [K.fill_size]; decide)
  have h2 := h1.poke a.toNat (K.cut s) (K.cut s).size (by omega)
  have h3 := (((h2.prot 0 x0 (by decide)).prot 1 x1 (by decide)).prot 2 x2 (by decide)).prot 3 x3 (by decide)
  have h4 : K.Mem (K.bV x0 x1 x2 x3 z a s) _ _ := h3
  refine ⟨h4.n, h4.co, fun x hx => ?_, fun x hx => ?_, fun j hj => ?_⟩
  · rw [h4.d x hx]
    unfold K.bf
    by_cases e : a.toNat ≤ x ∧ x < a.toNat + (K.cut s).size
    · rw [if_pos e, if_pos e]
    · rw [if_neg e, if_neg e, K.fill_size, if_pos (by show 0 ≤ x ∧ x < 0 + 1024; omega)]; rfl
  · rw [h4.i x hx]
    unfold K.bf
    by_cases e : a.toNat ≤ x ∧ x < a.toNat + (K.cut s).size
    · rw [if_pos e, if_pos e]
    · rw [if_neg e, if_neg e, K.fill_size, if_pos (by show 0 ≤ x ∧ x < 0 + 1024; omega)]; rfl
  · rw [h4.r j hj]
    unfold K.br
    rcases (by omega : j = 0 ∨ j = 1 ∨ j = 2 ∨ j = 3) with rfl | rfl | rfl | rfl <;> rfl
theorem K.cut_all {s : ByteArray} (h : s.size ≤ 400) : K.cut s = s := by
  unfold K.cut
  rw [if_neg (by omega)]
  apply K.str_inj
  rw [ByteArray.data_extract, Array.toList_extract]
  show ((s.data.toList.drop 0).take (s.size - 0)) = _
  rw [List.drop_zero, Nat.sub_zero]
  exact List.take_of_length_le (by rw [Array.length_toList]; exact Nat.le_refl _)
/-- An instruction that lies in the code, behind more bytes. -/
theorem K.code_fetch {V : M.V} {r : Nat → Int} {z a p : Int} {s : ByteArray} {i : K.Ins} (h : K.Good i) (hm : K.Mem V (K.bf z a s) r) (hs : s.size ≤ 400) (o : Nat) (ha : 0 ≤ a) (hp : p = a + ((o : Nat) : Int)) (hlt : p + 7 ≤ 1024)
    (hr : ∀ j : Nat, (bits .and .i64 (r ((p.toNat + j) / 256)) 4 == 0) = false ∨ 7 ≤ j) (hin : o + (K.bytes i).size ≤ s.size) (hb : ∀ j : Nat, j < (K.bytes i).size → W.byt s.data.toList (o + j) = W.byt (K.bytes i).data.toList j) : K.fetch V p = (i, 0, 0) := by
  obtain ⟨z1, z2, z3⟩ := K.good_size h
  refine K.fetch_at h (by omega) fun j hj => ?_
  rw [hm.fetch (by omega) ((hr j).resolve_right (by omega))]
  unfold K.bf
  rw [K.cut_all hs, if_pos (by omega), show p.toNat + j - a.toNat = o + j by omega, hb j hj]
theorem A.trAs {P : Program} {f : FuncId} {args : Array Value} {p : List A.It} {v v' : Value} {q q' : List A.It} (h : A.Tr P f args p (I := Unit) (fun _ => True) (fun _ => v) (fun _ => q)) (e : v = v') (e2 : q = q') : A.Tr P f args p (I := Unit) (fun _ => True) (fun _ => v') (fun _ => q') := e2 ▸ e ▸ h
theorem E.api_State_nsame {fr : E.Fr} {x y : Operand} {u T : TypeId} {d : Option Nat} {pos : String} {af : Array Edge} {gd : Option (Nat × Bool)} {s t : Q.S} {w : World} (e : s = t)
    (hx : E.ev fr x = s.val) (hy : E.ev fr y = t.val) :
    (execOp (E.ev fr) ⟨d, .binOp .neq 26 x y u, T, pos, af, gd⟩).run Tryz.prog w = .ok (.value (.bool false)) w := by
  subst e; exact E.api_State_nself s hx hy
theorem K.w32 {x : Int} (h : 0 ≤ x ∧ x < 4294967296) : IntKind.wrap .u32 x = x := by show x % 4294967296 = x; omega
theorem K.norm_id {s : Q.S} (hr : ∀ k, 8 ≤ k → k < 16 → s.r k = 0) (hf : 0 ≤ s.f ∧ s.f < 16) (h1 : 0 ≤ s.st) (h2 : 0 ≤ s.du) : K.norm s = s := by
  obtain ⟨pc, r, f, c, st, du⟩ := s
  have hr : ∀ k, 8 ≤ k → k < 16 → r k = 0 := hr
  have hf : 0 ≤ f ∧ f < 16 := hf
  have h1 : 0 ≤ st := h1
  have h2 : 0 ≤ du := h2
  have er : (Q.up (Q.up (Q.up (Q.up (Q.up (Q.up (Q.up (Q.up r 8 0) 9 0) 10 0) 11 0) 12 0) 13 0) 14 0) 15 0) = r := funext fun k => by
    unfold Q.up
    by_cases h : 8 ≤ k ∧ k < 16
    · rw [hr k h.1 h.2]; simp
    · simp only [if_neg (by omega : ¬ k = 8), if_neg (by omega : ¬ k = 9), if_neg (by omega : ¬ k = 10), if_neg (by omega : ¬ k = 11), if_neg (by omega : ¬ k = 12), if_neg (by omega : ¬ k = 13), if_neg (by omega : ¬ k = 14), if_neg (by omega : ¬ k = 15)]
  have ef : bits .and .u32 f 15 = f := by rw [show bits .and .u32 f 15 = f % 16 from W.and15 f hf.1 (by omega)]; omega
  show (⟨pc, (Q.up (Q.up (Q.up (Q.up (Q.up (Q.up (Q.up (Q.up r 8 0) 9 0) 10 0) 11 0) 12 0) 13 0) 14 0) 15 0), (bits .and .u32 f 15), c, (if 0 > st then 0 else st), (if 0 > du then 0 else du)⟩ : Q.S) = _
  rw [er, ef, if_neg (by omega), if_neg (by omega)]
/-- Registers 8 to 15 of a list of sixteen that ends so. -/
theorem K.tail8 {a b c d e f g h : Int} (k : Nat) (h1 : 8 ≤ k) (h2 : k < 16) : ([a, b, c, d, e, f, g, h, 0, 0, 0, 0, 0, 0, 0, 0] : List Int).getD k 0 = 0 := by
  rcases (by omega : k = 8 ∨ k = 9 ∨ k = 10 ∨ k = 11 ∨ k = 12 ∨ k = 13 ∨ k = 14 ∨ k = 15) with rfl | rfl | rfl | rfl | rfl | rfl | rfl | rfl <;> rfl
theorem K.row_bd {a b c d e f g h : Int} (ha : 0 ≤ a ∧ a < 4294967296) (hb : 0 ≤ b ∧ b < 4294967296) (hc : 0 ≤ c ∧ c < 4294967296) (hd : 0 ≤ d ∧ d < 4294967296) (he : 0 ≤ e ∧ e < 4294967296) (hf : 0 ≤ f ∧ f < 4294967296) (hg : 0 ≤ g ∧ g < 4294967296) (hh : 0 ≤ h ∧ h < 4294967296) (k : Nat) : 0 ≤ ([a, b, c, d, e, f, g, h, 0, 0, 0, 0, 0, 0, 0, 0] : List Int).getD k 0 ∧ ([a, b, c, d, e, f, g, h, 0, 0, 0, 0, 0, 0, 0, 0] : List Int).getD k 0 < 4294967296 := by
  refine K.lst_bd _ (fun x hx => ?_) k
  simp only [List.mem_cons, List.not_mem_nil, or_false] at hx
  rcases hx with rfl | rfl | rfl | rfl | rfl | rfl | rfl | rfl | rfl | rfl | rfl | rfl | rfl | rfl | rfl | rfl <;> first | assumption | decide
theorem K.z32 : (0 : Int) ≤ 0 ∧ (0 : Int) < 4294967296 := by decide
/-- Code of one instruction at the page's address a. -/
theorem K.fetch_one {i : K.Ins} {x0 x1 x2 x3 z a : Int} (h : K.Good i) (ha : 0 ≤ a ∧ a + 7 ≤ 1024) (hx : ∀ j, (j = a.toNat / 256 ∨ j = (a.toNat + 6) / 256) → (bits .and .i64 (K.br x0 x1 x2 x3 j) 4 == 0) = false) : K.fetch (K.bV x0 x1 x2 x3 z a (K.bytes i)) a = (i, 0, 0) := by
  obtain ⟨z1, z2, z3⟩ := K.good_size h
  refine K.code_fetch h (K.bV_mem x0 x1 x2 x3 z a (K.bytes i) (by omega)) (by omega) 0 ha.1 (by omega) (by omega) (fun j => ?_) (by omega) (fun j hj => by rw [Nat.zero_add])
  by_cases hj : j < 7
  · refine .inl (hx _ ?_)
    omega
  · exact .inr (by omega)
theorem rOp_3 (a b : Int) (ha : 0 ≤ a) (ha' : a < 4294967296) (hb : 0 ≤ b) (hb' : b < 4294967296) (w : World) :
    Calls Tryz.prog 68 #[.int .i64 3, .int .u32 a, .int .u32 b] w fun e w' => e = .returned (.int .u32 (W.op 3 a b)) ∧ Bel w w' := by
  go_enter Tryz.func68, Tryz.ntmps68
  go_wp2_with (first | (go_at_call 103; refine (rbit_any _ _).mono ?_; rintro e w' ⟨rfl, hb⟩) | (go_at_call 102; refine (rsigned_any _ (by assumption) (by assumption) _).mono ?_; rintro e w' ⟨rfl, hb⟩))
  go_ret
  exact ⟨ret_int (by rw [W.op_3]), Nz.bel⟩
theorem rOp_4 (a b : Int) (ha : 0 ≤ a) (ha' : a < 4294967296) (hb : 0 ≤ b) (hb' : b < 4294967296) (w : World) :
    Calls Tryz.prog 68 #[.int .i64 4, .int .u32 a, .int .u32 b] w fun e w' => e = .returned (.int .u32 (W.op 4 a b)) ∧ Bel w w' := by
  go_enter Tryz.func68, Tryz.ntmps68
  go_wp2_with (first | (go_at_call 103; refine (rbit_any _ _).mono ?_; rintro e w' ⟨rfl, hb⟩) | (go_at_call 102; refine (rsigned_any _ (by assumption) (by assumption) _).mono ?_; rintro e w' ⟨rfl, hb⟩))
  go_ret
  exact ⟨ret_int (by rw [W.op_4]), Nz.bel⟩
theorem rOp_5 (a b : Int) (ha : 0 ≤ a) (ha' : a < 4294967296) (hb : 0 ≤ b) (hb' : b < 4294967296) (w : World) :
    Calls Tryz.prog 68 #[.int .i64 5, .int .u32 a, .int .u32 b] w fun e w' => e = .returned (.int .u32 (W.op 5 a b)) ∧ Bel w w' := by
  go_enter Tryz.func68, Tryz.ntmps68
  go_wp2_with (first | (go_at_call 103; refine (rbit_any _ _).mono ?_; rintro e w' ⟨rfl, hb⟩) | (go_at_call 102; refine (rsigned_any _ (by assumption) (by assumption) _).mono ?_; rintro e w' ⟨rfl, hb⟩))
  go_ret
  exact ⟨ret_int (by rw [W.op_5]), Nz.bel⟩
theorem rOp_6 (a b : Int) (ha : 0 ≤ a) (ha' : a < 4294967296) (hb : 0 ≤ b) (hb' : b < 4294967296) (w : World) :
    Calls Tryz.prog 68 #[.int .i64 6, .int .u32 a, .int .u32 b] w fun e w' => e = .returned (.int .u32 (W.op 6 a b)) ∧ Bel w w' := by
  go_enter Tryz.func68, Tryz.ntmps68
  go_wp2_with (first | (go_at_call 103; refine (rbit_any _ _).mono ?_; rintro e w' ⟨rfl, hb⟩) | (go_at_call 102; refine (rsigned_any _ (by assumption) (by assumption) _).mono ?_; rintro e w' ⟨rfl, hb⟩))
  go_ret
  exact ⟨ret_int (by rw [W.op_6]), Nz.bel⟩
theorem rOp_7 (a b : Int) (ha : 0 ≤ a) (ha' : a < 4294967296) (hb : 0 ≤ b) (hb' : b < 4294967296) (w : World) :
    Calls Tryz.prog 68 #[.int .i64 7, .int .u32 a, .int .u32 b] w fun e w' => e = .returned (.int .u32 (W.op 7 a b)) ∧ Bel w w' := by
  go_enter Tryz.func68, Tryz.ntmps68
  go_wp2_with (first | (go_at_call 103; refine (rbit_any _ _).mono ?_; rintro e w' ⟨rfl, hb⟩) | (go_at_call 102; refine (rsigned_any _ (by assumption) (by assumption) _).mono ?_; rintro e w' ⟨rfl, hb⟩))
  go_ret
  exact ⟨ret_int (by rw [W.op_7]), Nz.bel⟩
theorem rOp_8 (a b : Int) (ha : 0 ≤ a) (ha' : a < 4294967296) (hb : 0 ≤ b) (hb' : b < 4294967296) (w : World) :
    Calls Tryz.prog 68 #[.int .i64 8, .int .u32 a, .int .u32 b] w fun e w' => e = .returned (.int .u32 (W.op 8 a b)) ∧ Bel w w' := by
  have hd : 0 ≤ b % 32 ∧ b % 32 < 32 := by omega
  go_enter Tryz.func68, Tryz.ntmps68
  go_wp2_with (first | (go_at_call 103; refine (rbit_any _ _).mono ?_; rintro e w' ⟨rfl, hb⟩) | (go_at_call 102; refine (rsigned_any _ (by assumption) (by assumption) _).mono ?_; rintro e w' ⟨rfl, hb⟩))
  go_ret
  exact ⟨ret_int (by rw [W.op_8]), Nz.bel⟩
theorem rOp_9 (a b : Int) (ha : 0 ≤ a) (ha' : a < 4294967296) (hb : 0 ≤ b) (hb' : b < 4294967296) (w : World) :
    Calls Tryz.prog 68 #[.int .i64 9, .int .u32 a, .int .u32 b] w fun e w' => e = .returned (.int .u32 (W.op 9 a b)) ∧ Bel w w' := by
  have hd : 0 ≤ b % 32 ∧ b % 32 < 32 := by omega
  go_enter Tryz.func68, Tryz.ntmps68
  go_wp2_with (first | (go_at_call 103; refine (rbit_any _ _).mono ?_; rintro e w' ⟨rfl, hb⟩) | (go_at_call 102; refine (rsigned_any _ (by assumption) (by assumption) _).mono ?_; rintro e w' ⟨rfl, hb⟩))
  go_ret
  exact ⟨ret_int (by rw [W.op_9]), Nz.bel⟩
theorem rOp_10 (a b : Int) (ha : 0 ≤ a) (ha' : a < 4294967296) (hb : 0 ≤ b) (hb' : b < 4294967296) (w : World) :
    Calls Tryz.prog 68 #[.int .i64 10, .int .u32 a, .int .u32 b] w fun e w' => e = .returned (.int .u32 (W.op 10 a b)) ∧ Bel w w' := by
  have hd : 0 ≤ b % 32 ∧ b % 32 < 32 := by omega
  have hs := W.sg_bd a ha ha'
  have hs' := W.sg_bd b hb hb'
  go_enter Tryz.func68, Tryz.ntmps68
  go_wp2_with (first | (go_at_call 103; refine (rbit_any _ _).mono ?_; rintro e w' ⟨rfl, hb⟩) | (go_at_call 102; refine (rsigned_any _ (by assumption) (by assumption) _).mono ?_; rintro e w' ⟨rfl, hb⟩))
  go_ret
  exact ⟨ret_int (by rw [W.op_10]), Nz.bel⟩
theorem rOp_11 (a b : Int) (ha : 0 ≤ a) (ha' : a < 4294967296) (hb : 0 ≤ b) (hb' : b < 4294967296) (w : World) :
    Calls Tryz.prog 68 #[.int .i64 11, .int .u32 a, .int .u32 b] w fun e w' => e = .returned (.int .u32 (W.op 11 a b)) ∧ Bel w w' := by
  go_enter Tryz.func68, Tryz.ntmps68
  go_wp2_with (first | (go_at_call 103; refine (rbit_any _ _).mono ?_; rintro e w' ⟨rfl, hb⟩) | (go_at_call 102; refine (rsigned_any _ (by assumption) (by assumption) _).mono ?_; rintro e w' ⟨rfl, hb⟩))
  go_ret
  exact ⟨ret_int (by rw [W.op_11]), Nz.bel⟩
theorem rOp_12 (a b : Int) (ha : 0 ≤ a) (ha' : a < 4294967296) (hb : 0 ≤ b) (hb' : b < 4294967296) (w : World) :
    Calls Tryz.prog 68 #[.int .i64 12, .int .u32 a, .int .u32 b] w fun e w' => e = .returned (.int .u32 (W.op 12 a b)) ∧ Bel w w' := by
  by_cases h : b = 0
  · subst h
    go_enter Tryz.func68, Tryz.ntmps68
    go_wp2_with (first | (go_at_call 103; refine (rbit_any _ _).mono ?_; rintro e w' ⟨rfl, hb⟩) | (go_at_call 102; refine (rsigned_any _ (by assumption) (by assumption) _).mono ?_; rintro e w' ⟨rfl, hb⟩))
    go_ret
    exact ⟨ret_int (by rw [W.op_12]; simp), Nz.bel⟩
  · have h0 : (b == 0) = false := by simp [h]
    go_enter Tryz.func68, Tryz.ntmps68
    go_wp2_with (first | (go_at_call 103; refine (rbit_any _ _).mono ?_; rintro e w' ⟨rfl, hb⟩) | (go_at_call 102; refine (rsigned_any _ (by assumption) (by assumption) _).mono ?_; rintro e w' ⟨rfl, hb⟩))
    go_ret
    exact ⟨ret_int (by rw [W.op_12]), Nz.bel⟩
theorem rOp_13 (a b : Int) (ha : 0 ≤ a) (ha' : a < 4294967296) (hb : 0 ≤ b) (hb' : b < 4294967296) (w : World) :
    Calls Tryz.prog 68 #[.int .i64 13, .int .u32 a, .int .u32 b] w fun e w' => e = .returned (.int .u32 (W.op 13 a b)) ∧ Bel w w' := by
  go_enter Tryz.func68, Tryz.ntmps68
  go_wp2_with (first | (go_at_call 103; refine (rbit_any _ _).mono ?_; rintro e w' ⟨rfl, hb⟩) | (go_at_call 102; refine (rsigned_any _ (by assumption) (by assumption) _).mono ?_; rintro e w' ⟨rfl, hb⟩))
  go_ret
  exact ⟨ret_int (by rw [W.op_13]), Nz.bel⟩
theorem rOp_14 (a b : Int) (ha : 0 ≤ a) (ha' : a < 4294967296) (hb : 0 ≤ b) (hb' : b < 4294967296) (w : World) :
    Calls Tryz.prog 68 #[.int .i64 14, .int .u32 a, .int .u32 b] w fun e w' => e = .returned (.int .u32 (W.op 14 a b)) ∧ Bel w w' := by
  go_enter Tryz.func68, Tryz.ntmps68
  go_wp2_with (first | (go_at_call 103; refine (rbit_any _ _).mono ?_; rintro e w' ⟨rfl, hb⟩) | (go_at_call 102; refine (rsigned_any _ (by assumption) (by assumption) _).mono ?_; rintro e w' ⟨rfl, hb⟩))
  go_ret
  exact ⟨ret_int (by rw [W.op_14]), Nz.bel⟩
theorem rOp_15 (a b : Int) (ha : 0 ≤ a) (ha' : a < 4294967296) (hb : 0 ≤ b) (hb' : b < 4294967296) (w : World) :
    Calls Tryz.prog 68 #[.int .i64 15, .int .u32 a, .int .u32 b] w fun e w' => e = .returned (.int .u32 (W.op 15 a b)) ∧ Bel w w' := by
  have hs := W.sg_bd a ha ha'
  have hs' := W.sg_bd b hb hb'
  go_enter Tryz.func68, Tryz.ntmps68
  go_wp2_with (first | (go_at_call 103; refine (rbit_any _ _).mono ?_; rintro e w' ⟨rfl, hb⟩) | (go_at_call 102; refine (rsigned_any _ (by assumption) (by assumption) _).mono ?_; rintro e w' ⟨rfl, hb⟩))
  go_ret
  exact ⟨ret_int (by rw [W.op_15]), Nz.bel⟩
theorem rOp_n (c a b : Int) (hc : c < 3 ∨ 15 < c) (w : World) :
    Calls Tryz.prog 68 #[.int .i64 c, .int .u32 a, .int .u32 b] w fun e w' => e = .returned (.int .u32 (W.op c a b)) ∧ Bel w w' := by
  have HN := hid (W.op_n c a b hc)
  have h3 : (c == 3) = false := by simp; omega
  have h4 : (c == 4) = false := by simp; omega
  have h5 : (c == 5) = false := by simp; omega
  have h6 : (c == 6) = false := by simp; omega
  have h7 : (c == 7) = false := by simp; omega
  have h8 : (c == 8) = false := by simp; omega
  have h9 : (c == 9) = false := by simp; omega
  have h10 : (c == 10) = false := by simp; omega
  have h11 : (c == 11) = false := by simp; omega
  have h12 : (c == 12) = false := by simp; omega
  have h13 : (c == 13) = false := by simp; omega
  have h14 : (c == 14) = false := by simp; omega
  have h15 : (c == 15) = false := by simp; omega
  go_enter Tryz.func68, Tryz.ntmps68
  go_wp2_with fail
  go_ret
  exact ⟨ret_int (by rw [HN.out]), Nz.bel⟩
theorem rOp_any (c a b : Int) (ha : 0 ≤ a) (ha' : a < 4294967296) (hb : 0 ≤ b) (hb' : b < 4294967296) (w : World) :
    Calls Tryz.prog 68 #[.int .i64 c, .int .u32 a, .int .u32 b] w fun e w' => e = .returned (.int .u32 (W.op c a b)) ∧ Bel w w' := by
  rcases (by omega : c = 3 ∨ c = 4 ∨ c = 5 ∨ c = 6 ∨ c = 7 ∨ c = 8 ∨ c = 9 ∨ c = 10 ∨ c = 11 ∨ c = 12 ∨ c = 13 ∨ c = 14 ∨ c = 15 ∨ (c < 3 ∨ 15 < c)) with rfl | rfl | rfl | rfl | rfl | rfl | rfl | rfl | rfl | rfl | rfl | rfl | rfl | h
  · exact rOp_3 a b ha ha' hb hb' w
  · exact rOp_4 a b ha ha' hb hb' w
  · exact rOp_5 a b ha ha' hb hb' w
  · exact rOp_6 a b ha ha' hb hb' w
  · exact rOp_7 a b ha ha' hb hb' w
  · exact rOp_8 a b ha ha' hb hb' w
  · exact rOp_9 a b ha ha' hb hb' w
  · exact rOp_10 a b ha ha' hb hb' w
  · exact rOp_11 a b ha ha' hb hb' w
  · exact rOp_12 a b ha ha' hb hb' w
  · exact rOp_13 a b ha ha' hb hb' w
  · exact rOp_14 a b ha ha' hb hb' w
  · exact rOp_15 a b ha ha' hb hb' w
  · exact rOp_n c a b h w
/-- A quotient of integers. -/
theorem E.quoI {P : Program} {fr : E.Fr} {T : TypeId} {d : Option Nat} {pos : String} {af : Array Edge} {gd : Option (Nat × Bool)} {t u : TypeId} {x y : Operand} {k : IntKind} (a b : Int) (hx : E.ev fr x = .int k a) (hy : E.ev fr y = .int k b) (hb : b ≠ 0) (w : World) :
    (execOp (E.ev fr) ⟨d, .binOp .quo t x y u, T, pos, af, gd⟩).run P w = .ok (.value (.int k (k.wrap (Int.tdiv a b)))) w := by
  show (do let r ← (do eqGuard .quo t x y (E.ev fr x) (E.ev fr y); binOp .quo t (E.ev fr x) (E.ev fr y)); pure (Next.value r) : Sem Next).run P w = _
  rw [hx, hy]
  simp [eqGuard, binOp, Op.intDiv, hb]
theorem rFlags_all (k a b : Int) (ha : 0 ≤ a ∧ a < 4294967296) (hb : 0 ≤ b ∧ b < 4294967296) (w : World) : Calls Tryz.prog 66 #[.int .i64 k, .int .u32 a, .int .u32 b] w fun e w' => e = .returned (.int .u32 (W.flags k a b)) ∧ Bel w w' := rFlags_any k a b ha.1 ha.2 hb.1 hb.2 w
theorem rOp_all (c a b : Int) (ha : 0 ≤ a ∧ a < 4294967296) (hb : 0 ≤ b ∧ b < 4294967296) (w : World) : Calls Tryz.prog 68 #[.int .i64 c, .int .u32 a, .int .u32 b] w fun e w' => e = .returned (.int .u32 (W.op c a b)) ∧ Bel w w' := rOp_any c a b ha.1 ha.2 hb.1 hb.2 w
structure K5.A where
  v : Int
  f : Int
  st : Bool
  se : Bool
  z : Bool
def K5.logic (v : Int) (t : Bool) : K5.A := ⟨v, (W.flags 5 v 0), t, true, false⟩
theorem Logic5 (v : Int) (t : Bool) (hv : 0 ≤ v ∧ v < 4294967296) (w : World) : Calls Tryz.prog 67 #[.int .u32 v, .bool t] w fun e w' => e = .returned (.agg #[.int .u32 ((K5.logic v t).v), .int .u32 ((K5.logic v t).f), .bool ((K5.logic v t).st), .bool ((K5.logic v t).se), .bool ((K5.logic v t).z)]) ∧ Bel w w' := by
 exact E.enter (n := 10) (S := fun _ => False) Tryz.func67 rfl rfl (by kernel_rfl) (E.Hp.start w) (E.sr (E.nw [E.u 0, E.u 0, .bool false, .bool false, .bool false] 63 (fun g1 => E.tr (E.op (E.u v) (E.op (E.u v) (E.ca (E.u (W.flags 5 v 0)) (fun w h => rFlags_all 5 v 0 (by assumption) (by decide) w) (E.op (.bool t) (E.vl (.agg #[E.u v, E.u (W.flags 5 v 0), .bool t, .bool true, .bool false]) (fun w h => E.run_build #[E.u v, E.u (W.flags 5 v 0), .bool t, .bool true, .bool false] (by kernel_rfl) w) (E.st 0 [E.u v, E.u (W.flags 5 v 0), .bool t, .bool true, .bool false] rfl rfl (E.To.code (E.C.ret (E.b0 Tryz.f67 [.agg #[E.u v, E.u (W.flags 5 v 0), .bool t, .bool true, .bool false]] (fun w h => ⟨rfl, h.ch.bel (fun _ h => h.elim)⟩)))))))))))))
def K5.alu (op a b f : Int) : K5.A := (bif (op == 32) then ⟨b, 0, true, false, false⟩ else (bif (op == 33) then ⟨(IntKind.wrap .u32 (a + b)), (W.flags 1 a b), true, true, false⟩ else (bif (op == 35) then ⟨(IntKind.wrap .u32 ((IntKind.wrap .u32 (a + b)) + (Int.tmod (IntKind.wrap .u32 (Int.tdiv f 2)) 2))), (W.flags (IntKind.wrap .i64 (1 + (IntKind.wrap .i64 (Int.tmod (IntKind.wrap .u32 (Int.tdiv f 2)) 2)))) a b), true, true, false⟩ else (bif ((op == 34) || (op == 40)) then ⟨(IntKind.wrap .u32 (a - b)), (W.flags 3 a b), (op == 34), true, false⟩ else (bif (op == 36) then ⟨(IntKind.wrap .u32 ((IntKind.wrap .u32 (a - b)) - (IntKind.wrap .u32 (1 - (Int.tmod (IntKind.wrap .u32 (Int.tdiv f 2)) 2))))), (W.flags (IntKind.wrap .i64 (4 - (IntKind.wrap .i64 (Int.tmod (IntKind.wrap .u32 (Int.tdiv f 2)) 2)))) a b), true, true, false⟩ else (bif ((op == 37) || (op == 41)) then (K5.logic (bits .and .u32 a b) (op == 37)) else (bif (op == 38) then (K5.logic (bits .or .u32 a b) true) else (bif (op == 39) then (K5.logic (bits .xor .u32 a b) true) else (bif (op == 42) then (K5.logic (IntKind.wrap .u32 (a * b)) true) else (bif (op == 43) then (bif (b == 0) then ⟨0, 0, false, false, true⟩ else (K5.logic (IntKind.wrap .u32 (Int.tdiv a b)) true)) else (bif (op == 44) then (K5.logic (W.op 8 a b) true) else (bif (op == 45) then (K5.logic (W.op 9 a b) true) else (K5.logic (W.op 10 a b) true)))))))))))))
theorem Alu5 (op a b f : Int) (ha : 0 ≤ a ∧ a < 4294967296) (hb : 0 ≤ b ∧ b < 4294967296) (w : World) : Calls Tryz.prog 28 #[.int .i64 op, .int .u32 a, .int .u32 b, .int .u32 f] w fun e w' => e = .returned (.agg #[.int .u32 ((K5.alu op a b f).v), .int .u32 ((K5.alu op a b f).f), .bool ((K5.alu op a b f).st), .bool ((K5.alu op a b f).se), .bool ((K5.alu op a b f).z)]) ∧ Bel w w' := by
 refine E.enter (n := 120) (S := fun _ => False) Tryz.func28 rfl rfl (by kernel_rfl) (E.Hp.start w) (E.sr (E.nw [E.u 0, E.u 0, .bool false, .bool false, .bool false] 63 (fun g1 => E.tr (E.op (E.u f) (E.op (E.u (IntKind.wrap .u32 (Int.tdiv f 2))) (E.op (E.u (Int.tmod (IntKind.wrap .u32 (Int.tdiv f 2)) 2)) (E.op (E.u (Int.tmod (IntKind.wrap .u32 (Int.tdiv f 2)) 2)) (E.To.code (E.C.seq (E.sr (E.op (E.i op) ?_)))))))))))
 refine E.To.code (E.C.block (E.sr (E.op (.bool (op == 32)) (E.op (.bool (op == 32)) (E.To.code (E.cd (op == 32) (fun hc2 => ?_) (fun hc2 => ?_)))))))
 ·
  exact E.sr (E.op (E.u b) (E.vl (.agg #[E.u b, E.u 0, .bool true, .bool false, .bool false]) (fun w h => E.run_build #[E.u b, E.u 0, .bool true, .bool false, .bool false] (by kernel_rfl) w) (E.st 0 [E.u b, E.u 0, .bool true, .bool false, .bool false] rfl rfl (E.To.code (E.wk [(1, E.u a), (2, E.u b), (8, E.pt g1)] [(g1, [E.u b, E.u 0, .bool true, .bool false, .bool false])] Nz.sub (E.C.ret (E.P.rb (E.P.rt (E.b0 Tryz.f28 [.agg #[E.u b, E.u 0, .bool true, .bool false, .bool false]] (fun w h => ⟨by unfold K5.alu; rw [hc2, cond_true] <;> rfl, h.ch.bel (fun _ h => h.elim)⟩))))))))))
 refine E.sr (E.op (.bool (op == 33)) (E.op (.bool (op == 33)) (E.To.code (E.cd (op == 33) (fun hc3 => ?_) (fun hc3 => ?_)))))
 ·
  exact E.sr (E.op (E.u a) (E.op (E.u b) (E.op (E.u (IntKind.wrap .u32 (a + b))) (E.op (E.u a) (E.op (E.u b) (E.ca (E.u (W.flags 1 a b)) (fun w h => rFlags_all 1 a b (by assumption) (by assumption) w) (E.vl (.agg #[E.u (IntKind.wrap .u32 (a + b)), E.u (W.flags 1 a b), .bool true, .bool true, .bool false]) (fun w h => E.run_build #[E.u (IntKind.wrap .u32 (a + b)), E.u (W.flags 1 a b), .bool true, .bool true, .bool false] (by kernel_rfl) w) (E.st 0 [E.u (IntKind.wrap .u32 (a + b)), E.u (W.flags 1 a b), .bool true, .bool true, .bool false] rfl rfl (E.To.code (E.wk [(1, E.u a), (2, E.u b), (8, E.pt g1)] [(g1, [E.u (IntKind.wrap .u32 (a + b)), E.u (W.flags 1 a b), .bool true, .bool true, .bool false])] Nz.sub (E.C.ret (E.P.rb (E.P.rt (E.b0 Tryz.f28 [.agg #[E.u (IntKind.wrap .u32 (a + b)), E.u (W.flags 1 a b), .bool true, .bool true, .bool false]] (fun w h => ⟨by unfold K5.alu; rw [hc2, cond_false, hc3, cond_true] <;> rfl, h.ch.bel (fun _ h => h.elim)⟩)))))))))))))))
 refine E.sr (E.op (.bool (op == 35)) (E.op (.bool (op == 35)) (E.To.code (E.wk [(0, E.i op), (1, E.u a), (2, E.u b), (8, E.pt g1), (9, E.u (Int.tmod (IntKind.wrap .u32 (Int.tdiv f 2)) 2)), (13, E.i op), (27, .bool (op == 35))] [(g1, [E.u 0, E.u 0, .bool false, .bool false, .bool false])] Nz.sub (E.cd (op == 35) (fun hc4 => ?_) (fun hc4 => ?_))))))
 ·
  refine E.sr (E.op (E.u a) (E.op (E.u b) (E.op (E.u (IntKind.wrap .u32 (a + b))) (E.op (E.u (Int.tmod (IntKind.wrap .u32 (Int.tdiv f 2)) 2)) (E.op (E.u (IntKind.wrap .u32 ((IntKind.wrap .u32 (a + b)) + (Int.tmod (IntKind.wrap .u32 (Int.tdiv f 2)) 2)))) (E.op (E.u (Int.tmod (IntKind.wrap .u32 (Int.tdiv f 2)) 2)) (E.op (E.i (IntKind.wrap .i64 (Int.tmod (IntKind.wrap .u32 (Int.tdiv f 2)) 2))) (E.op (E.i (IntKind.wrap .i64 (1 + (IntKind.wrap .i64 (Int.tmod (IntKind.wrap .u32 (Int.tdiv f 2)) 2))))) (E.op (E.u a) (E.op (E.u b) (E.ca (E.u (W.flags (IntKind.wrap .i64 (1 + (IntKind.wrap .i64 (Int.tmod (IntKind.wrap .u32 (Int.tdiv f 2)) 2)))) a b)) (fun w h => rFlags_all (IntKind.wrap .i64 (1 + (IntKind.wrap .i64 (Int.tmod (IntKind.wrap .u32 (Int.tdiv f 2)) 2)))) a b (by assumption) (by assumption) w) ?_)))))))))))
  exact E.vl (.agg #[E.u (IntKind.wrap .u32 ((IntKind.wrap .u32 (a + b)) + (Int.tmod (IntKind.wrap .u32 (Int.tdiv f 2)) 2))), E.u (W.flags (IntKind.wrap .i64 (1 + (IntKind.wrap .i64 (Int.tmod (IntKind.wrap .u32 (Int.tdiv f 2)) 2)))) a b), .bool true, .bool true, .bool false]) (fun w h => E.run_build #[E.u (IntKind.wrap .u32 ((IntKind.wrap .u32 (a + b)) + (Int.tmod (IntKind.wrap .u32 (Int.tdiv f 2)) 2))), E.u (W.flags (IntKind.wrap .i64 (1 + (IntKind.wrap .i64 (Int.tmod (IntKind.wrap .u32 (Int.tdiv f 2)) 2)))) a b), .bool true, .bool true, .bool false] (by kernel_rfl) w) (E.st 0 [E.u (IntKind.wrap .u32 ((IntKind.wrap .u32 (a + b)) + (Int.tmod (IntKind.wrap .u32 (Int.tdiv f 2)) 2))), E.u (W.flags (IntKind.wrap .i64 (1 + (IntKind.wrap .i64 (Int.tmod (IntKind.wrap .u32 (Int.tdiv f 2)) 2)))) a b), .bool true, .bool true, .bool false] rfl rfl (E.To.code (E.wk [(1, E.u a), (2, E.u b), (8, E.pt g1)] [(g1, [E.u (IntKind.wrap .u32 ((IntKind.wrap .u32 (a + b)) + (Int.tmod (IntKind.wrap .u32 (Int.tdiv f 2)) 2))), E.u (W.flags (IntKind.wrap .i64 (1 + (IntKind.wrap .i64 (Int.tmod (IntKind.wrap .u32 (Int.tdiv f 2)) 2)))) a b), .bool true, .bool true, .bool false])] Nz.sub (E.C.ret (E.P.rb (E.P.rt (E.b0 Tryz.f28 [.agg #[E.u (IntKind.wrap .u32 ((IntKind.wrap .u32 (a + b)) + (Int.tmod (IntKind.wrap .u32 (Int.tdiv f 2)) 2))), E.u (W.flags (IntKind.wrap .i64 (1 + (IntKind.wrap .i64 (Int.tmod (IntKind.wrap .u32 (Int.tdiv f 2)) 2)))) a b), .bool true, .bool true, .bool false]] (fun w h => ⟨by unfold K5.alu; rw [hc2, cond_false, hc3, cond_false, hc4, cond_true] <;> rfl, h.ch.bel (fun _ h => h.elim)⟩))))))))
 refine E.C.seq (E.sr (E.op (.bool (op == 34)) (E.op (.bool (op == 34)) (E.To.code (E.C.thencut [(0, E.i op), (1, E.u a), (2, E.u b), (8, E.pt g1), (9, E.u (Int.tmod (IntKind.wrap .u32 (Int.tdiv f 2)) 2)), (13, E.i op), (41, .bool ((op == 34) || (op == 40)))] (fun _ => True) [(g1, [E.u 0, E.u 0, .bool false, .bool false, .bool false])] ?_ ?_)))))
 ·
  generalize hc5 : (op == 34) = b6
  cases b6
  ·
   exact E.C.condF (by kernel_rfl) (by kernel_rfl) (E.C.region (E.op (.bool (op == 40)) (E.op (.bool (op == 40)) (E.To.pst ⟨by kernel_rfl, by kernel_rfl⟩ Nz.sub (fun _ h => h)))))
  exact E.C.condT (by kernel_rfl) (by kernel_rfl) (E.C.skip (E.To.pst ⟨by kernel_rfl, by kernel_rfl⟩ Nz.sub (fun _ h => h)))
 refine E.cd ((op == 34) || (op == 40)) (fun hc7 => ?_) (fun hc7 => ?_)
 ·
  refine E.sr (E.op (E.u a) (E.op (E.u b) (E.op (E.u (IntKind.wrap .u32 (a - b))) (E.op (E.u a) (E.op (E.u b) (E.ca (E.u (W.flags 3 a b)) (fun w h => rFlags_all 3 a b (by assumption) (by assumption) w) (E.op (E.i op) (E.op (.bool (op == 34)) (E.vl (.agg #[E.u (IntKind.wrap .u32 (a - b)), E.u (W.flags 3 a b), .bool (op == 34), .bool true, .bool false]) (fun w h => E.run_build #[E.u (IntKind.wrap .u32 (a - b)), E.u (W.flags 3 a b), .bool (op == 34), .bool true, .bool false] (by kernel_rfl) w) (E.st 0 [E.u (IntKind.wrap .u32 (a - b)), E.u (W.flags 3 a b), .bool (op == 34), .bool true, .bool false] rfl rfl (E.To.code ?_)))))))))))
  exact E.wk [(1, E.u a), (2, E.u b), (8, E.pt g1)] [(g1, [E.u (IntKind.wrap .u32 (a - b)), E.u (W.flags 3 a b), .bool (op == 34), .bool true, .bool false])] Nz.sub (E.C.ret (E.P.rb (E.P.rt (E.b0 Tryz.f28 [.agg #[E.u (IntKind.wrap .u32 (a - b)), E.u (W.flags 3 a b), .bool (op == 34), .bool true, .bool false]] (fun w h => ⟨by unfold K5.alu; rw [hc2, cond_false, hc3, cond_false, hc4, cond_false, hc7, cond_true] <;> rfl, h.ch.bel (fun _ h => h.elim)⟩)))))
 refine E.sr (E.op (.bool (op == 36)) (E.op (.bool (op == 36)) (E.To.code (E.cd (op == 36) (fun hc8 => ?_) (fun hc8 => ?_)))))
 ·
  refine E.sr (E.op (E.u a) (E.op (E.u b) (E.op (E.u (IntKind.wrap .u32 (a - b))) (E.op (E.u (Int.tmod (IntKind.wrap .u32 (Int.tdiv f 2)) 2)) (E.op (E.u (IntKind.wrap .u32 (1 - (Int.tmod (IntKind.wrap .u32 (Int.tdiv f 2)) 2)))) (E.op (E.u (IntKind.wrap .u32 ((IntKind.wrap .u32 (a - b)) - (IntKind.wrap .u32 (1 - (Int.tmod (IntKind.wrap .u32 (Int.tdiv f 2)) 2)))))) (E.op (E.u (Int.tmod (IntKind.wrap .u32 (Int.tdiv f 2)) 2)) (E.op (E.i (IntKind.wrap .i64 (Int.tmod (IntKind.wrap .u32 (Int.tdiv f 2)) 2))) (E.op (E.i (IntKind.wrap .i64 (4 - (IntKind.wrap .i64 (Int.tmod (IntKind.wrap .u32 (Int.tdiv f 2)) 2))))) (E.op (E.u a) (E.op (E.u b) ?_)))))))))))
  exact E.ca (E.u (W.flags (IntKind.wrap .i64 (4 - (IntKind.wrap .i64 (Int.tmod (IntKind.wrap .u32 (Int.tdiv f 2)) 2)))) a b)) (fun w h => rFlags_all (IntKind.wrap .i64 (4 - (IntKind.wrap .i64 (Int.tmod (IntKind.wrap .u32 (Int.tdiv f 2)) 2)))) a b (by assumption) (by assumption) w) (E.vl (.agg #[E.u (IntKind.wrap .u32 ((IntKind.wrap .u32 (a - b)) - (IntKind.wrap .u32 (1 - (Int.tmod (IntKind.wrap .u32 (Int.tdiv f 2)) 2))))), E.u (W.flags (IntKind.wrap .i64 (4 - (IntKind.wrap .i64 (Int.tmod (IntKind.wrap .u32 (Int.tdiv f 2)) 2)))) a b), .bool true, .bool true, .bool false]) (fun w h => E.run_build #[E.u (IntKind.wrap .u32 ((IntKind.wrap .u32 (a - b)) - (IntKind.wrap .u32 (1 - (Int.tmod (IntKind.wrap .u32 (Int.tdiv f 2)) 2))))), E.u (W.flags (IntKind.wrap .i64 (4 - (IntKind.wrap .i64 (Int.tmod (IntKind.wrap .u32 (Int.tdiv f 2)) 2)))) a b), .bool true, .bool true, .bool false] (by kernel_rfl) w) (E.st 0 [E.u (IntKind.wrap .u32 ((IntKind.wrap .u32 (a - b)) - (IntKind.wrap .u32 (1 - (Int.tmod (IntKind.wrap .u32 (Int.tdiv f 2)) 2))))), E.u (W.flags (IntKind.wrap .i64 (4 - (IntKind.wrap .i64 (Int.tmod (IntKind.wrap .u32 (Int.tdiv f 2)) 2)))) a b), .bool true, .bool true, .bool false] rfl rfl (E.To.code (E.wk [(1, E.u a), (2, E.u b), (8, E.pt g1)] [(g1, [E.u (IntKind.wrap .u32 ((IntKind.wrap .u32 (a - b)) - (IntKind.wrap .u32 (1 - (Int.tmod (IntKind.wrap .u32 (Int.tdiv f 2)) 2))))), E.u (W.flags (IntKind.wrap .i64 (4 - (IntKind.wrap .i64 (Int.tmod (IntKind.wrap .u32 (Int.tdiv f 2)) 2)))) a b), .bool true, .bool true, .bool false])] Nz.sub (E.C.ret (E.P.rb (E.P.rt (E.b0 Tryz.f28 [.agg #[E.u (IntKind.wrap .u32 ((IntKind.wrap .u32 (a - b)) - (IntKind.wrap .u32 (1 - (Int.tmod (IntKind.wrap .u32 (Int.tdiv f 2)) 2))))), E.u (W.flags (IntKind.wrap .i64 (4 - (IntKind.wrap .i64 (Int.tmod (IntKind.wrap .u32 (Int.tdiv f 2)) 2)))) a b), .bool true, .bool true, .bool false]] (fun w h => ⟨by unfold K5.alu; rw [hc2, cond_false, hc3, cond_false, hc4, cond_false, hc7, cond_false, hc8, cond_true] <;> rfl, h.ch.bel (fun _ h => h.elim)⟩)))))))))
 refine E.C.seq (E.sr (E.op (.bool (op == 37)) (E.op (.bool (op == 37)) (E.To.code (E.C.thencut [(0, E.i op), (1, E.u a), (2, E.u b), (8, E.pt g1), (13, E.i op), (68, .bool ((op == 37) || (op == 41)))] (fun _ => True) [(g1, [E.u 0, E.u 0, .bool false, .bool false, .bool false])] ?_ ?_)))))
 ·
  generalize hc9 : (op == 37) = b10
  cases b10
  ·
   exact E.C.condF (by kernel_rfl) (by kernel_rfl) (E.C.region (E.op (.bool (op == 41)) (E.op (.bool (op == 41)) (E.To.pst ⟨by kernel_rfl, by kernel_rfl⟩ Nz.sub (fun _ h => h)))))
  exact E.C.condT (by kernel_rfl) (by kernel_rfl) (E.C.skip (E.To.pst ⟨by kernel_rfl, by kernel_rfl⟩ Nz.sub (fun _ h => h)))
 refine E.cd ((op == 37) || (op == 41)) (fun hc11 => ?_) (fun hc11 => ?_)
 ·
  exact E.sr (E.op (E.u a) (E.op (E.u b) (E.op (E.u (bits .and .u32 a b)) (E.op (E.i op) (E.op (.bool (op == 37)) (E.ca (.agg #[E.u ((K5.logic (bits .and .u32 a b) (op == 37)).v), E.u ((K5.logic (bits .and .u32 a b) (op == 37)).f), .bool ((K5.logic (bits .and .u32 a b) (op == 37)).st), .bool ((K5.logic (bits .and .u32 a b) (op == 37)).se), .bool ((K5.logic (bits .and .u32 a b) (op == 37)).z)]) (fun w h => Logic5 (bits .and .u32 a b) (op == 37) (W.bits_bd _ _ _) w) (E.st 0 [E.u ((K5.logic (bits .and .u32 a b) (op == 37)).v), E.u ((K5.logic (bits .and .u32 a b) (op == 37)).f), .bool ((K5.logic (bits .and .u32 a b) (op == 37)).st), .bool ((K5.logic (bits .and .u32 a b) (op == 37)).se), .bool ((K5.logic (bits .and .u32 a b) (op == 37)).z)] rfl rfl (E.To.code (E.wk [(1, E.u a), (2, E.u b), (8, E.pt g1)] [(g1, [E.u ((K5.logic (bits .and .u32 a b) (op == 37)).v), E.u ((K5.logic (bits .and .u32 a b) (op == 37)).f), .bool ((K5.logic (bits .and .u32 a b) (op == 37)).st), .bool ((K5.logic (bits .and .u32 a b) (op == 37)).se), .bool ((K5.logic (bits .and .u32 a b) (op == 37)).z)])] Nz.sub (E.C.ret (E.P.rb (E.P.rt (E.b0 Tryz.f28 [.agg #[E.u ((K5.logic (bits .and .u32 a b) (op == 37)).v), E.u ((K5.logic (bits .and .u32 a b) (op == 37)).f), .bool ((K5.logic (bits .and .u32 a b) (op == 37)).st), .bool ((K5.logic (bits .and .u32 a b) (op == 37)).se), .bool ((K5.logic (bits .and .u32 a b) (op == 37)).z)]] (fun w h => ⟨by unfold K5.alu; rw [hc2, cond_false, hc3, cond_false, hc4, cond_false, hc7, cond_false, hc8, cond_false, hc11, cond_true] <;> rfl, h.ch.bel (fun _ h => h.elim)⟩))))))))))))))
 refine E.sr (E.op (.bool (op == 38)) (E.op (.bool (op == 38)) (E.To.code (E.cd (op == 38) (fun hc12 => ?_) (fun hc12 => ?_)))))
 ·
  exact E.sr (E.op (E.u a) (E.op (E.u b) (E.op (E.u (bits .or .u32 a b)) (E.ca (.agg #[E.u ((K5.logic (bits .or .u32 a b) true).v), E.u ((K5.logic (bits .or .u32 a b) true).f), .bool ((K5.logic (bits .or .u32 a b) true).st), .bool ((K5.logic (bits .or .u32 a b) true).se), .bool ((K5.logic (bits .or .u32 a b) true).z)]) (fun w h => Logic5 (bits .or .u32 a b) true (W.bits_bd _ _ _) w) (E.st 0 [E.u ((K5.logic (bits .or .u32 a b) true).v), E.u ((K5.logic (bits .or .u32 a b) true).f), .bool ((K5.logic (bits .or .u32 a b) true).st), .bool ((K5.logic (bits .or .u32 a b) true).se), .bool ((K5.logic (bits .or .u32 a b) true).z)] rfl rfl (E.To.code (E.wk [(1, E.u a), (2, E.u b), (8, E.pt g1)] [(g1, [E.u ((K5.logic (bits .or .u32 a b) true).v), E.u ((K5.logic (bits .or .u32 a b) true).f), .bool ((K5.logic (bits .or .u32 a b) true).st), .bool ((K5.logic (bits .or .u32 a b) true).se), .bool ((K5.logic (bits .or .u32 a b) true).z)])] Nz.sub (E.C.ret (E.P.rb (E.P.rt (E.b0 Tryz.f28 [.agg #[E.u ((K5.logic (bits .or .u32 a b) true).v), E.u ((K5.logic (bits .or .u32 a b) true).f), .bool ((K5.logic (bits .or .u32 a b) true).st), .bool ((K5.logic (bits .or .u32 a b) true).se), .bool ((K5.logic (bits .or .u32 a b) true).z)]] (fun w h => ⟨by unfold K5.alu; rw [hc2, cond_false, hc3, cond_false, hc4, cond_false, hc7, cond_false, hc8, cond_false, hc11, cond_false, hc12, cond_true] <;> rfl, h.ch.bel (fun _ h => h.elim)⟩))))))))))))
 refine E.sr (E.op (.bool (op == 39)) (E.op (.bool (op == 39)) (E.To.code (E.cd (op == 39) (fun hc13 => ?_) (fun hc13 => ?_)))))
 ·
  exact E.sr (E.op (E.u a) (E.op (E.u b) (E.op (E.u (bits .xor .u32 a b)) (E.ca (.agg #[E.u ((K5.logic (bits .xor .u32 a b) true).v), E.u ((K5.logic (bits .xor .u32 a b) true).f), .bool ((K5.logic (bits .xor .u32 a b) true).st), .bool ((K5.logic (bits .xor .u32 a b) true).se), .bool ((K5.logic (bits .xor .u32 a b) true).z)]) (fun w h => Logic5 (bits .xor .u32 a b) true (W.bits_bd _ _ _) w) (E.st 0 [E.u ((K5.logic (bits .xor .u32 a b) true).v), E.u ((K5.logic (bits .xor .u32 a b) true).f), .bool ((K5.logic (bits .xor .u32 a b) true).st), .bool ((K5.logic (bits .xor .u32 a b) true).se), .bool ((K5.logic (bits .xor .u32 a b) true).z)] rfl rfl (E.To.code (E.wk [(1, E.u a), (2, E.u b), (8, E.pt g1)] [(g1, [E.u ((K5.logic (bits .xor .u32 a b) true).v), E.u ((K5.logic (bits .xor .u32 a b) true).f), .bool ((K5.logic (bits .xor .u32 a b) true).st), .bool ((K5.logic (bits .xor .u32 a b) true).se), .bool ((K5.logic (bits .xor .u32 a b) true).z)])] Nz.sub (E.C.ret (E.P.rb (E.P.rt (E.b0 Tryz.f28 [.agg #[E.u ((K5.logic (bits .xor .u32 a b) true).v), E.u ((K5.logic (bits .xor .u32 a b) true).f), .bool ((K5.logic (bits .xor .u32 a b) true).st), .bool ((K5.logic (bits .xor .u32 a b) true).se), .bool ((K5.logic (bits .xor .u32 a b) true).z)]] (fun w h => ⟨by unfold K5.alu; rw [hc2, cond_false, hc3, cond_false, hc4, cond_false, hc7, cond_false, hc8, cond_false, hc11, cond_false, hc12, cond_false, hc13, cond_true] <;> rfl, h.ch.bel (fun _ h => h.elim)⟩))))))))))))
 refine E.sr (E.op (.bool (op == 42)) (E.op (.bool (op == 42)) (E.To.code (E.cd (op == 42) (fun hc14 => ?_) (fun hc14 => ?_)))))
 ·
  exact E.sr (E.op (E.u a) (E.op (E.u b) (E.op (E.u (IntKind.wrap .u32 (a * b))) (E.ca (.agg #[E.u ((K5.logic (IntKind.wrap .u32 (a * b)) true).v), E.u ((K5.logic (IntKind.wrap .u32 (a * b)) true).f), .bool ((K5.logic (IntKind.wrap .u32 (a * b)) true).st), .bool ((K5.logic (IntKind.wrap .u32 (a * b)) true).se), .bool ((K5.logic (IntKind.wrap .u32 (a * b)) true).z)]) (fun w h => Logic5 (IntKind.wrap .u32 (a * b)) true (Q.wrap_bd _) w) (E.st 0 [E.u ((K5.logic (IntKind.wrap .u32 (a * b)) true).v), E.u ((K5.logic (IntKind.wrap .u32 (a * b)) true).f), .bool ((K5.logic (IntKind.wrap .u32 (a * b)) true).st), .bool ((K5.logic (IntKind.wrap .u32 (a * b)) true).se), .bool ((K5.logic (IntKind.wrap .u32 (a * b)) true).z)] rfl rfl (E.To.code (E.wk [(1, E.u a), (2, E.u b), (8, E.pt g1)] [(g1, [E.u ((K5.logic (IntKind.wrap .u32 (a * b)) true).v), E.u ((K5.logic (IntKind.wrap .u32 (a * b)) true).f), .bool ((K5.logic (IntKind.wrap .u32 (a * b)) true).st), .bool ((K5.logic (IntKind.wrap .u32 (a * b)) true).se), .bool ((K5.logic (IntKind.wrap .u32 (a * b)) true).z)])] Nz.sub (E.C.ret (E.P.rb (E.P.rt (E.b0 Tryz.f28 [.agg #[E.u ((K5.logic (IntKind.wrap .u32 (a * b)) true).v), E.u ((K5.logic (IntKind.wrap .u32 (a * b)) true).f), .bool ((K5.logic (IntKind.wrap .u32 (a * b)) true).st), .bool ((K5.logic (IntKind.wrap .u32 (a * b)) true).se), .bool ((K5.logic (IntKind.wrap .u32 (a * b)) true).z)]] (fun w h => ⟨by unfold K5.alu; rw [hc2, cond_false, hc3, cond_false, hc4, cond_false, hc7, cond_false, hc8, cond_false, hc11, cond_false, hc12, cond_false, hc13, cond_false, hc14, cond_true] <;> rfl, h.ch.bel (fun _ h => h.elim)⟩))))))))))))
 refine E.sr (E.op (.bool (op == 43)) (E.op (.bool (op == 43)) (E.To.code (E.wk [(1, E.u a), (2, E.u b), (8, E.pt g1), (13, E.i op), (95, .bool (op == 43))] [(g1, [E.u 0, E.u 0, .bool false, .bool false, .bool false])] Nz.sub (E.cd (op == 43) (fun hc15 => ?_) (fun hc15 => ?_))))))
 ·
  refine E.C.seq (E.sr (E.op (E.u b) (E.op (.bool (b == 0)) (E.To.code (E.cd (b == 0) (fun hc16 => ?_) (fun hc16 => ?_))))))
  ·
   exact E.sr (E.vl (.agg #[E.u 0, E.u 0, .bool false, .bool false, .bool true]) (fun w h => E.run_build #[E.u 0, E.u 0, .bool false, .bool false, .bool true] (by kernel_rfl) w) (E.st 0 [E.u 0, E.u 0, .bool false, .bool false, .bool true] rfl rfl (E.To.code (E.C.ret (E.P.rt (E.P.rb (E.P.rt (E.b0 Tryz.f28 [.agg #[E.u 0, E.u 0, .bool false, .bool false, .bool true]] (fun w h => ⟨by unfold K5.alu; rw [hc2, cond_false, hc3, cond_false, hc4, cond_false, hc7, cond_false, hc8, cond_false, hc11, cond_false, hc12, cond_false, hc13, cond_false, hc14, cond_false, hc15, cond_true, hc16, cond_true] <;> rfl, h.ch.bel (fun _ h => h.elim)⟩)))))))))
  exact E.C.skip (E.To.code (E.sr (E.op (E.u a) (E.op (E.u b) (E.vl (E.u (IntKind.wrap .u32 (Int.tdiv a b))) (fun w h => E.quoI a b (by kernel_rfl) (by kernel_rfl) (by intro e; rw [e] at hc16; cases hc16) w) (E.ca (.agg #[E.u ((K5.logic (IntKind.wrap .u32 (Int.tdiv a b)) true).v), E.u ((K5.logic (IntKind.wrap .u32 (Int.tdiv a b)) true).f), .bool ((K5.logic (IntKind.wrap .u32 (Int.tdiv a b)) true).st), .bool ((K5.logic (IntKind.wrap .u32 (Int.tdiv a b)) true).se), .bool ((K5.logic (IntKind.wrap .u32 (Int.tdiv a b)) true).z)]) (fun w h => Logic5 (IntKind.wrap .u32 (Int.tdiv a b)) true (Q.wrap_bd _) w) (E.st 0 [E.u ((K5.logic (IntKind.wrap .u32 (Int.tdiv a b)) true).v), E.u ((K5.logic (IntKind.wrap .u32 (Int.tdiv a b)) true).f), .bool ((K5.logic (IntKind.wrap .u32 (Int.tdiv a b)) true).st), .bool ((K5.logic (IntKind.wrap .u32 (Int.tdiv a b)) true).se), .bool ((K5.logic (IntKind.wrap .u32 (Int.tdiv a b)) true).z)] rfl rfl (E.To.code (E.wk [(1, E.u a), (2, E.u b), (8, E.pt g1)] [(g1, [E.u ((K5.logic (IntKind.wrap .u32 (Int.tdiv a b)) true).v), E.u ((K5.logic (IntKind.wrap .u32 (Int.tdiv a b)) true).f), .bool ((K5.logic (IntKind.wrap .u32 (Int.tdiv a b)) true).st), .bool ((K5.logic (IntKind.wrap .u32 (Int.tdiv a b)) true).se), .bool ((K5.logic (IntKind.wrap .u32 (Int.tdiv a b)) true).z)])] Nz.sub (E.C.ret (E.P.rb (E.P.rt (E.b0 Tryz.f28 [.agg #[E.u ((K5.logic (IntKind.wrap .u32 (Int.tdiv a b)) true).v), E.u ((K5.logic (IntKind.wrap .u32 (Int.tdiv a b)) true).f), .bool ((K5.logic (IntKind.wrap .u32 (Int.tdiv a b)) true).st), .bool ((K5.logic (IntKind.wrap .u32 (Int.tdiv a b)) true).se), .bool ((K5.logic (IntKind.wrap .u32 (Int.tdiv a b)) true).z)]] (fun w h => ⟨by unfold K5.alu; rw [hc2, cond_false, hc3, cond_false, hc4, cond_false, hc7, cond_false, hc8, cond_false, hc11, cond_false, hc12, cond_false, hc13, cond_false, hc14, cond_false, hc15, cond_true, hc16, cond_false] <;> rfl, h.ch.bel (fun _ h => h.elim)⟩))))))))))))))
 refine E.sr (E.op (.bool (op == 44)) (E.op (.bool (op == 44)) (E.To.code (E.cd (op == 44) (fun hc17 => ?_) (fun hc17 => ?_)))))
 ·
  exact E.sr (E.op (E.u a) (E.op (E.u b) (E.ca (E.u (W.op 8 a b)) (fun w h => rOp_all 8 a b (by assumption) (by assumption) w) (E.ca (.agg #[E.u ((K5.logic (W.op 8 a b) true).v), E.u ((K5.logic (W.op 8 a b) true).f), .bool ((K5.logic (W.op 8 a b) true).st), .bool ((K5.logic (W.op 8 a b) true).se), .bool ((K5.logic (W.op 8 a b) true).z)]) (fun w h => Logic5 (W.op 8 a b) true (W.op_bd _ _ _ ha.1 ha.2 hb.1) w) (E.st 0 [E.u ((K5.logic (W.op 8 a b) true).v), E.u ((K5.logic (W.op 8 a b) true).f), .bool ((K5.logic (W.op 8 a b) true).st), .bool ((K5.logic (W.op 8 a b) true).se), .bool ((K5.logic (W.op 8 a b) true).z)] rfl rfl (E.To.code (E.wk [(1, E.u a), (2, E.u b), (8, E.pt g1)] [(g1, [E.u ((K5.logic (W.op 8 a b) true).v), E.u ((K5.logic (W.op 8 a b) true).f), .bool ((K5.logic (W.op 8 a b) true).st), .bool ((K5.logic (W.op 8 a b) true).se), .bool ((K5.logic (W.op 8 a b) true).z)])] Nz.sub (E.C.ret (E.P.rb (E.P.rt (E.b0 Tryz.f28 [.agg #[E.u ((K5.logic (W.op 8 a b) true).v), E.u ((K5.logic (W.op 8 a b) true).f), .bool ((K5.logic (W.op 8 a b) true).st), .bool ((K5.logic (W.op 8 a b) true).se), .bool ((K5.logic (W.op 8 a b) true).z)]] (fun w h => ⟨by unfold K5.alu; rw [hc2, cond_false, hc3, cond_false, hc4, cond_false, hc7, cond_false, hc8, cond_false, hc11, cond_false, hc12, cond_false, hc13, cond_false, hc14, cond_false, hc15, cond_false, hc17, cond_true] <;> rfl, h.ch.bel (fun _ h => h.elim)⟩))))))))))))
 refine E.sr (E.op (.bool (op == 45)) (E.op (.bool (op == 45)) (E.To.code (E.cd (op == 45) (fun hc18 => ?_) (fun hc18 => ?_)))))
 ·
  exact E.sr (E.op (E.u a) (E.op (E.u b) (E.ca (E.u (W.op 9 a b)) (fun w h => rOp_all 9 a b (by assumption) (by assumption) w) (E.ca (.agg #[E.u ((K5.logic (W.op 9 a b) true).v), E.u ((K5.logic (W.op 9 a b) true).f), .bool ((K5.logic (W.op 9 a b) true).st), .bool ((K5.logic (W.op 9 a b) true).se), .bool ((K5.logic (W.op 9 a b) true).z)]) (fun w h => Logic5 (W.op 9 a b) true (W.op_bd _ _ _ ha.1 ha.2 hb.1) w) (E.st 0 [E.u ((K5.logic (W.op 9 a b) true).v), E.u ((K5.logic (W.op 9 a b) true).f), .bool ((K5.logic (W.op 9 a b) true).st), .bool ((K5.logic (W.op 9 a b) true).se), .bool ((K5.logic (W.op 9 a b) true).z)] rfl rfl (E.To.code (E.wk [(1, E.u a), (2, E.u b), (8, E.pt g1)] [(g1, [E.u ((K5.logic (W.op 9 a b) true).v), E.u ((K5.logic (W.op 9 a b) true).f), .bool ((K5.logic (W.op 9 a b) true).st), .bool ((K5.logic (W.op 9 a b) true).se), .bool ((K5.logic (W.op 9 a b) true).z)])] Nz.sub (E.C.ret (E.P.rb (E.P.rt (E.b0 Tryz.f28 [.agg #[E.u ((K5.logic (W.op 9 a b) true).v), E.u ((K5.logic (W.op 9 a b) true).f), .bool ((K5.logic (W.op 9 a b) true).st), .bool ((K5.logic (W.op 9 a b) true).se), .bool ((K5.logic (W.op 9 a b) true).z)]] (fun w h => ⟨by unfold K5.alu; rw [hc2, cond_false, hc3, cond_false, hc4, cond_false, hc7, cond_false, hc8, cond_false, hc11, cond_false, hc12, cond_false, hc13, cond_false, hc14, cond_false, hc15, cond_false, hc17, cond_false, hc18, cond_true] <;> rfl, h.ch.bel (fun _ h => h.elim)⟩))))))))))))
 exact E.C.skip (E.P.nb (E.To.code (E.sr (E.op (E.u a) (E.op (E.u b) (E.ca (E.u (W.op 10 a b)) (fun w h => rOp_all 10 a b (by assumption) (by assumption) w) (E.ca (.agg #[E.u ((K5.logic (W.op 10 a b) true).v), E.u ((K5.logic (W.op 10 a b) true).f), .bool ((K5.logic (W.op 10 a b) true).st), .bool ((K5.logic (W.op 10 a b) true).se), .bool ((K5.logic (W.op 10 a b) true).z)]) (fun w h => Logic5 (W.op 10 a b) true (W.op_bd _ _ _ ha.1 ha.2 hb.1) w) (E.st 0 [E.u ((K5.logic (W.op 10 a b) true).v), E.u ((K5.logic (W.op 10 a b) true).f), .bool ((K5.logic (W.op 10 a b) true).st), .bool ((K5.logic (W.op 10 a b) true).se), .bool ((K5.logic (W.op 10 a b) true).z)] rfl rfl (E.To.code (E.wk [(8, E.pt g1)] [(g1, [E.u ((K5.logic (W.op 10 a b) true).v), E.u ((K5.logic (W.op 10 a b) true).f), .bool ((K5.logic (W.op 10 a b) true).st), .bool ((K5.logic (W.op 10 a b) true).se), .bool ((K5.logic (W.op 10 a b) true).z)])] Nz.sub (E.C.ret (E.b0 Tryz.f28 [.agg #[E.u ((K5.logic (W.op 10 a b) true).v), E.u ((K5.logic (W.op 10 a b) true).f), .bool ((K5.logic (W.op 10 a b) true).st), .bool ((K5.logic (W.op 10 a b) true).se), .bool ((K5.logic (W.op 10 a b) true).z)]] (fun w h => ⟨by unfold K5.alu; rw [hc2, cond_false, hc3, cond_false, hc4, cond_false, hc7, cond_false, hc8, cond_false, hc11, cond_false, hc12, cond_false, hc13, cond_false, hc14, cond_false, hc15, cond_false, hc17, cond_false, hc18, cond_false] <;> rfl, h.ch.bel (fun _ h => h.elim)⟩)))))))))))))
end Go.Proofs.YtglidnmmeclneaaGreat
namespace Go.Proofs.YtglidnmmeclneaaGreat
set_option linter.unusedVariables false
set_option linter.unusedSimpArgs false
open Go.Joins Go.ChangeShapes Go.WideShapes Go.ChangeAt Go.RowKit Go.Deep
section
variable {H : Type} {enc : TypeId × Value → H} {P : Program} {w : World} {base : Nat} {spare : Nat → Bool} {held : Bool} {fuel : Nat} {t e : TypeId} {k : IntKind} {n : Nat} {cs : List Value} {x : DataW H × List MemPlace}
end
/-- A state's facts. -/
structure K.sok (s : Q.S) : Prop where
  wf : Q.wf s
  f : 0 ≤ s.f ∧ s.f < 4294967296
  st : -9223372036854775808 ≤ s.st ∧ s.st < 9223372036854775808
  du : -9223372036854775808 ≤ s.du ∧ s.du < 9223372036854775808
section
variable {H : Type} {enc : TypeId × Value → H} {w : World} {base : Nat} {spare : Nat → Bool} {held : Bool} {fuel : Nat} {x : DataW H × List MemPlace}
end
end Go.Proofs.YtglidnmmeclneaaGreat
namespace Go.Proofs.YtglidnmmeclneaaGreat
set_option linter.unusedVariables false
set_option linter.unusedSimpArgs false
open Go.RowKit
theorem K.drop {P : Program} {n : Nat} {Q : Exit → Act → World → Prop} {w0 : World} {o0 a0 : Nat → Prop} {its : List A.It} {L : List (Nat × List Value)} {fr : E.Fr} {c : Code} (l r : List A.It) (hp : its.Perm (l ++ r)) (k : E.C P n Q c fr o0 w0 (A.X w0 o0 a0 l) L) : E.C P n Q c fr o0 w0 (A.X w0 o0 a0 its) L :=
  fun a w h1 h2 => k a w h1 (h2.monoX fun w ⟨hs, o, a, hh, hg⟩ => by
    obtain ⟨o1, a1, o2, a2, k1, k2, _, _, ho, ha⟩ := (hh.perm hp).append
    exact ⟨hs, o1, a1, k1, fun x hx hk => hg.1 x hx ((ho x).2 (.inl hk)), fun x hx hk => hg.2 x hx ((ha x).2 (.inl hk))⟩)
/-- The three forms of an operation. -/
def K.arI (o b : Int) (i : Nat) : K.Ins := if i = 0 then ⟨o, 1, 2, -1, 0, 0, 2⟩ else if i = 1 then ⟨o + 32, 1, 0, -1, 0, b, 6⟩ else ⟨o + 16, 1, 0, -1, 0, b, 3⟩
def K.arL (o b : Int) : List Value := [.int .i64 o, .int .i64 1, .int .i64 2, .int .i64 (-1), .int .i64 0, .int .u32 0, .int .i64 2, .int .i64 (o + 32), .int .i64 1, .int .i64 0, .int .i64 (-1), .int .i64 0, .int .u32 b, .int .i64 6, .int .i64 (o + 16), .int .i64 1, .int .i64 0, .int .i64 (-1), .int .i64 0, .int .u32 b, .int .i64 3]
theorem K.i3 {i : Nat} (h : (decide (((i : Nat) : Int) < 3)) = true) : ((i : Nat) : Int) < 3 := of_decide_eq_true h
theorem K.i3s {i : Nat} (h : ((i : Nat) : Int) < 3) : IntKind.wrap .i64 (((i : Nat) : Int) + 1) = ((i + 1 : Nat) : Int) := by rw [IntWalk.i64_in _ (by omega)]; omega
theorem K.arI_ld {o b : Int} {i : Nat} (h : ((i : Nat) : Int) < 3) : E.ld Tryz.prog 66 (K.arL o b) (0 + (((i : Nat) : Int)).toNat * 7) = some (.agg #[.int .i64 (K.arI o b i).op, .int .i64 (K.arI o b i).d, .int .i64 (K.arI o b i).s, .int .i64 (K.arI o b i).ix, .int .i64 (K.arI o b i).sc, .int .u32 (K.arI o b i).imm, .int .i64 (K.arI o b i).sz]) := by
  rcases (by omega : i = 0 ∨ i = 1 ∨ i = 2) with rfl | rfl | rfl <;> kernel_rfl
theorem K.arI_sz {o b : Int} {i : Nat} (h : ((i : Nat) : Int) < 3) : E.ld Tryz.prog 3 (K.arL o b) ((0 + (((i : Nat) : Int)).toNat * 7) + 6) = some (.int .i64 (K.arI o b i).sz) := by
  rcases (by omega : i = 0 ∨ i = 1 ∨ i = 2) with rfl | rfl | rfl <;> kernel_rfl
theorem KcpuArith_rd (p a b f o q : Int) (h0 : 0 ≤ a ∧ a < 4294967296) (h1 : 0 ≤ b ∧ b < 4294967296) (ho : IntKind.wrap .i64 (32 + (IntKind.wrap .i64 (Int.tmod p 15))) = o) (ho0 : 32 ≤ o ∧ o ≤ 46) (hq : IntKind.wrap .u32 (Int.tmod f 16) = q) (S : Q.S) (VF : Nat → M.V) (RN : Nat → Q.S × Int × Int × M.V) (hS : K.norm (⟨5, (fun k => [9, a, b, 8, 0, 0, 0, 0, 0, 0, 0, 0, 0, 0, 0, 0].getD k 0), q, (fun k => [1, 2, 3, 4].getD k 0), 0, 0⟩ : Q.S) = S) (hwS : Q.wf S) (hV : ∀ i, K.bV 4 0 0 0 0 5 (R2.Encode (K.arI o b i)).1 = VF i) (hwV : ∀ i, R.Wf (VF i)) (hrn : ∀ i, K.runs 1 S (VF i) = RN i) (hwR : ∀ i, Q.wf (RN i).1 ∧ R.Wf (RN i).2.2.2) (hzr : ∀ i : Nat, ((i : Nat) : Int) < 3 → ((R2.Encode (K.arI o b i)).2 != 0) = false → (K5.alu o a b q).z = true → (RN i).1 = (⟨5, (fun k => [9, a, b, 8, 0, 0, 0, 0, 0, 0, 0, 0, 0, 0, 0, 0].getD k 0), q, (fun k => [1, 2, 3, 4].getD k 0), 0, 0⟩ : Q.S) ∧ (RN i).2.1 = 6 ∧ (RN i).2.2.1 = 0) (hok : ∀ i : Nat, ((i : Nat) : Int) < 3 → ((R2.Encode (K.arI o b i)).2 != 0) = false → (K5.alu o a b q).z = false → (RN i).1 = (⟨(IntKind.wrap .u32 (5 + (IntKind.wrap .u32 (K.arI o b i).sz))), (bif (K5.alu o a b q).st then (Q.up (fun k => [9, a, b, 8, 0, 0, 0, 0, 0, 0, 0, 0, 0, 0, 0, 0].getD k 0) 1 (K5.alu o a b q).v) else (fun k => [9, a, b, 8, 0, 0, 0, 0, 0, 0, 0, 0, 0, 0, 0, 0].getD k 0)), (bif (K5.alu o a b q).se then (K5.alu o a b q).f else q), (fun k => [1, 2, 3, 4].getD k 0), 1, 0⟩ : Q.S) ∧ (RN i).2.1 = 1 ∧ (RN i).2.2.1 = 0) : A.Rd Tryz.prog 5 #[.int .u8 p, .agg #[.int .u32 a, .int .u32 b], .int .u8 f] [] (.bool true) := by
 intro w oo aa hh
 refine E.enter (n := 116) (S := oo) Tryz.func5 rfl rfl (by kernel_rfl) (A.start (L := []) hh) (E.sr (E.nw [E.u a, E.u b] 61 (fun g1 => E.op (.bool false) (E.tr (E.ca (.bool true) (fun w h => A.cq [] [0] (San5) h) (E.op (.bool true) (E.tr (E.op (.int .u8 p) (E.op (.int .u8 (Int.tmod p 15)) (E.op (E.i (IntKind.wrap .i64 (Int.tmod p 15))) (E.vl (E.i o) (fun w h => E.run_as (a := E.i (IntKind.wrap .i64 (32 + (IntKind.wrap .i64 (Int.tmod p 15))))) (by kernel_rfl) (congrArg (Value.int .i64) ho)) ?_)))))))))))
 refine E.op (E.i o) (E.tr (E.op (E.i o) (E.op (E.pt g1) (E.li (E.u a) 0 rfl rfl (E.op (.pointer (some ⟨g1, 1, none⟩)) (E.li (E.u b) 0 rfl rfl (E.op (.int .u8 f) (E.op (.int .u8 (Int.tmod f 16)) (E.vl (E.u q) (fun w h => E.run_as (a := E.u (IntKind.wrap .u32 (Int.tmod f 16))) (by kernel_rfl) (congrArg (Value.int .u32) hq)) (E.ca (.agg #[E.u ((K5.alu o a b q).v), E.u ((K5.alu o a b q).f), .bool ((K5.alu o a b q).st), .bool ((K5.alu o a b q).se), .bool ((K5.alu o a b q).z)]) (fun w h => Alu5 o a b q h0 h1 w) (E.nw [E.u 0, E.u 0, .bool false, .bool false, .bool false] 63 (fun g2 => ?_))))))))))))
 refine E.st 0 [E.u ((K5.alu o a b q).v), E.u ((K5.alu o a b q).f), .bool ((K5.alu o a b q).st), .bool ((K5.alu o a b q).se), .bool ((K5.alu o a b q).z)] rfl rfl (E.To.code (E.wk [(2, .int .u8 f), (4, E.pt g1), (6, .bool false), (7, .bool true), (8, E.i o), (9, E.pt g2)] [(g2, [E.u ((K5.alu o a b q).v), E.u ((K5.alu o a b q).f), .bool ((K5.alu o a b q).st), .bool ((K5.alu o a b q).se), .bool ((K5.alu o a b q).z)]), (g1, [E.u a, E.u b])] Nz.sub (E.sr (E.op (E.i o) (E.vl (.agg #[E.i o, E.i 1, E.i 2, E.i (-1), E.i 0, E.u 0, E.i 2]) (fun w h => E.run_build #[E.i o, E.i 1, E.i 2, E.i (-1), E.i 0, E.u 0, E.i 2] (by kernel_rfl) w) (E.op (E.i o) (E.vl (E.i (o + 32)) (fun w h => E.run_as (a := E.i (IntKind.wrap .i64 (o + 32))) (by kernel_rfl) (congrArg (Value.int .i64) (IntWalk.i64_in _ (by omega)))) (E.op (.pointer (some ⟨g1, 1, none⟩)) (E.li (E.u b) 1 rfl rfl (E.vl (.agg #[E.i (o + 32), E.i 1, E.i 0, E.i (-1), E.i 0, E.u b, E.i 6]) (fun w h => E.run_build #[E.i (o + 32), E.i 1, E.i 0, E.i (-1), E.i 0, E.u b, E.i 6] (by kernel_rfl) w) (E.op (E.i o) ?_)))))))))))
 refine E.vl (E.i (o + 16)) (fun w h => E.run_as (a := E.i (IntKind.wrap .i64 (o + 16))) (by kernel_rfl) (congrArg (Value.int .i64) (IntWalk.i64_in _ (by omega)))) (E.op (.pointer (some ⟨g1, 1, none⟩)) (E.li (E.u b) 1 rfl rfl (E.vl (.agg #[E.i (o + 16), E.i 1, E.i 0, E.i (-1), E.i 0, E.u b, E.i 3]) (fun w h => E.run_build #[E.i (o + 16), E.i 1, E.i 0, E.i (-1), E.i 0, E.u b, E.i 3] (by kernel_rfl) w) (E.vl (.agg #[E.i o, E.i 1, E.i 2, E.i (-1), E.i 0, E.u 0, E.i 2, E.i (o + 32), E.i 1, E.i 0, E.i (-1), E.i 0, E.u b, E.i 6, E.i (o + 16), E.i 1, E.i 0, E.i (-1), E.i 0, E.u b, E.i 3]) (fun w h => E.run_build #[E.i o, E.i 1, E.i 2, E.i (-1), E.i 0, E.u 0, E.i 2, E.i (o + 32), E.i 1, E.i 0, E.i (-1), E.i 0, E.u b, E.i 6, E.i (o + 16), E.i 1, E.i 0, E.i (-1), E.i 0, E.u b, E.i 3] (by kernel_rfl) w) (E.nw [E.i 0, E.i 0, E.i 0, E.i 0, E.i 0, E.u 0, E.i 0, E.i 0, E.i 0, E.i 0, E.i 0, E.i 0, E.u 0, E.i 0, E.i 0, E.i 0, E.i 0, E.i 0, E.i 0, E.u 0, E.i 0] 67 (fun g3 => E.st 0 [E.i o, E.i 1, E.i 2, E.i (-1), E.i 0, E.u 0, E.i 2, E.i (o + 32), E.i 1, E.i 0, E.i (-1), E.i 0, E.u b, E.i 6, E.i (o + 16), E.i 1, E.i 0, E.i (-1), E.i 0, E.u b, E.i 3] rfl rfl (E.To.code (E.wk [(2, .int .u8 f), (4, E.pt g1), (6, .bool false), (7, .bool true), (9, E.pt g2), (10, E.pt g3)] [(g3, [E.i o, E.i 1, E.i 2, E.i (-1), E.i 0, E.u 0, E.i 2, E.i (o + 32), E.i 1, E.i 0, E.i (-1), E.i 0, E.u b, E.i 6, E.i (o + 16), E.i 1, E.i 0, E.i (-1), E.i 0, E.u b, E.i 3]), (g2, [E.u ((K5.alu o a b q).v), E.u ((K5.alu o a b q).f), .bool ((K5.alu o a b q).st), .bool ((K5.alu o a b q).se), .bool ((K5.alu o a b q).z)]), (g1, [E.u a, E.u b])] Nz.sub (E.C.seq (E.sr (E.op (E.i 0) ?_)))))))))))
 refine E.To.code (E.C.block (E.C.loop (I := Nat) (fun i => 3 - i) (fun i => i ≤ 3) (fun i => [(2, .int .u8 f), (4, E.pt g1), (6, .bool false), (7, .bool true), (9, E.pt g2), (10, E.pt g3), (11, E.i ((i : Nat) : Int))]) (fun i => A.X w oo aa []) (fun i => [(g3, [E.i o, E.i 1, E.i 2, E.i (-1), E.i 0, E.u 0, E.i 2, E.i (o + 32), E.i 1, E.i 0, E.i (-1), E.i 0, E.u b, E.i 6, E.i (o + 16), E.i 1, E.i 0, E.i (-1), E.i 0, E.u b, E.i 3]), (g2, [E.u ((K5.alu o a b q).v), E.u ((K5.alu o a b q).f), .bool ((K5.alu o a b q).st), .bool ((K5.alu o a b q).se), .bool ((K5.alu o a b q).z)]), (g1, [E.u a, E.u b])]) 0 (Nat.zero_le _) ⟨by kernel_rfl, by kernel_rfl⟩ Nz.sub (fun _ h => h) (fun i hk1 => E.C.seq (E.sr (E.op (E.i ((i : Nat) : Int)) (E.op (.bool (decide (((i : Nat) : Int) < 3))) (E.To.code (E.cd (decide (((i : Nat) : Int) < 3)) (fun hc4 => ?_) (fun hc4 => ?_)))))))))
 ·
  refine E.C.skip (E.To.code (E.C.seq (E.C.block (E.sr (E.op (E.i ((i : Nat) : Int)) (E.vl (.pointer (some ⟨g3, 0 + (((i : Nat) : Int)).toNat * 7, none⟩)) (fun w h => E.idxA (e := 66) g3 0 3 7 .i64 ((i : Nat) : Int) (by kernel_rfl) (by kernel_rfl) (by kernel_rfl) (by kernel_rfl) (Int.natCast_nonneg _) (K.i3 hc4) w) (E.vl (.agg #[E.i ((K.arI o b i).op), E.i ((K.arI o b i).d), E.i ((K.arI o b i).s), E.i ((K.arI o b i).ix), E.i ((K.arI o b i).sc), E.u ((K.arI o b i).imm), E.i ((K.arI o b i).sz)]) (fun w h => E.run_load h 0 rfl rfl (K.arI_ld (K.i3 hc4))) (E.ca (.agg #[.string ((R2.Encode (K.arI o b i)).1), E.i ((R2.Encode (K.arI o b i)).2)]) (fun w h => R2_Encode (K.arI o b i) w) (E.nw [.string (⟨#[]⟩ : ByteArray), E.i 0] 70 (fun g5 => E.st 0 [.string ((R2.Encode (K.arI o b i)).1), E.i ((R2.Encode (K.arI o b i)).2)] rfl rfl (E.To.code (E.C.seq ?_))))))))))))
  refine E.sr (E.op (.pointer (some ⟨g5, 1, none⟩)) (E.li (E.i ((R2.Encode (K.arI o b i)).2)) 0 rfl rfl (E.op (.bool (((R2.Encode (K.arI o b i)).2) != 0)) (E.To.code (E.cd (((R2.Encode (K.arI o b i)).2) != 0) (fun hc6 => ?_) (fun hc6 => ?_))))))
  ·
   exact E.C.exit (E.P.et (E.P.eh (E.To.code (E.C.region (E.op (E.i ((i : Nat) : Int)) (E.vl (E.i ((i + 1 : Nat) : Int)) (fun w h => E.run_as (a := E.i (IntKind.wrap .i64 (((i : Nat) : Int) + 1))) (by kernel_rfl) (congrArg (Value.int .i64) (K.i3s (K.i3 hc4)))) (E.op (E.i ((i + 1 : Nat) : Int)) (E.To.round (i + 1) (by have := K.i3 hc4; show 3 - (i + 1) < 3 - i; omega) (by have := K.i3 hc4; show i + 1 ≤ 3; omega) ⟨by kernel_rfl, by kernel_rfl⟩ Nz.sub (fun _ h => h)))))))))
  refine E.C.skip (E.To.code (E.sr (E.op (E.pt g1) (E.li (E.u a) 3 rfl rfl (E.op (.pointer (some ⟨g1, 1, none⟩)) (E.li (E.u b) 3 rfl rfl (E.vl (.agg #[E.u 9, E.u a, E.u b, E.u 8, E.u 0, E.u 0, E.u 0, E.u 0, E.u 0, E.u 0, E.u 0, E.u 0, E.u 0, E.u 0, E.u 0, E.u 0]) (fun w h => E.run_build #[E.u 9, E.u a, E.u b, E.u 8, E.u 0, E.u 0, E.u 0, E.u 0, E.u 0, E.u 0, E.u 0, E.u 0, E.u 0, E.u 0, E.u 0, E.u 0] (by kernel_rfl) w) (E.op (.int .u8 f) (E.op (.int .u8 (Int.tmod f 16)) (E.vl (E.u q) (fun w h => E.run_as (a := E.u (IntKind.wrap .u32 (Int.tmod f 16))) (by kernel_rfl) (congrArg (Value.int .u32) hq)) (E.vl (.agg #[E.u 1, E.u 2, E.u 3, E.u 4]) (fun w h => E.run_build #[E.u 1, E.u 2, E.u 3, E.u 4] (by kernel_rfl) w) (E.vl (Q.S.val (⟨5, (fun k => [9, a, b, 8, 0, 0, 0, 0, 0, 0, 0, 0, 0, 0, 0, 0].getD k 0), q, (fun k => [1, 2, 3, 4].getD k 0), 0, 0⟩)) (fun w h => E.run_build (Q.S.cells ⟨5, (fun k => [9, a, b, 8, 0, 0, 0, 0, 0, 0, 0, 0, 0, 0, 0, 0].getD k 0), q, (fun k => [1, 2, 3, 4].getD k 0), 0, 0⟩).toArray (by kernel_rfl) w) ?_))))))))))))
  refine E.nw (Q.S.cells Q.z0) 26 (fun g7 => E.st 0 (Q.S.cells (⟨5, (fun k => [9, a, b, 8, 0, 0, 0, 0, 0, 0, 0, 0, 0, 0, 0, 0].getD k 0), q, (fun k => [1, 2, 3, 4].getD k 0), 0, 0⟩)) rfl rfl (E.tr (E.li (Q.S.val (⟨5, (fun k => [9, a, b, 8, 0, 0, 0, 0, 0, 0, 0, 0, 0, 0, 0, 0].getD k 0), q, (fun k => [1, 2, 3, 4].getD k 0), 0, 0⟩)) 0 rfl rfl (E.vl (.agg #[.int .u8 4, .int .u8 0, .int .u8 0, .int .u8 0]) (fun w h => E.run_build #[.int .u8 4, .int .u8 0, .int .u8 0, .int .u8 0] (by kernel_rfl) w) (E.op (E.pt g5) (E.li (.string ((R2.Encode (K.arI o b i)).1)) 1 rfl rfl (E.vl (.agg (Q.S.cells (⟨5, (fun k => [9, a, b, 8, 0, 0, 0, 0, 0, 0, 0, 0, 0, 0, 0, 0].getD k 0), q, (fun k => [1, 2, 3, 4].getD k 0), 0, 0⟩ : Q.S) ++ [Value.int .u8 4, Value.int .u8 0, Value.int .u8 0, Value.int .u8 0, Value.int .u32 0, Value.int .u32 5, Value.string ((R2.Encode (K.arI o b i)).1)]).toArray) (fun w h => E.run_build (Q.S.cells (⟨5, (fun k => [9, a, b, 8, 0, 0, 0, 0, 0, 0, 0, 0, 0, 0, 0, 0].getD k 0), q, (fun k => [1, 2, 3, 4].getD k 0), 0, 0⟩ : Q.S) ++ [Value.int .u8 4, Value.int .u8 0, Value.int .u8 0, Value.int .u8 0, Value.int .u32 0, Value.int .u32 5, Value.string ((R2.Encode (K.arI o b i)).1)]).toArray (by kernel_rfl) w) (A.G.call (I := (Nat × Nat) × (Nat × Nat)) (D := fun i8 => True) (V := fun i8 => .tuple #[E.pt i8.1.1, E.pt i8.2.1]) (q := fun i8 => [A.blk i8.1.1 (E.pt i8.1.2 :: Q.S.cells S), M.It i8.1.2 (VF i) ([])]) [A.blk g7 (Q.S.cells (⟨5, (fun k => [9, a, b, 8, 0, 0, 0, 0, 0, 0, 0, 0, 0, 0, 0, 0].getD k 0), q, (fun k => [1, 2, 3, 4].getD k 0), 0, 0⟩)), A.blk g5 ([.string ((R2.Encode (K.arI o b i)).1), E.i ((R2.Encode (K.arI o b i)).2)]), A.blk g3 ([E.i o, E.i 1, E.i 2, E.i (-1), E.i 0, E.u 0, E.i 2, E.i (o + 32), E.i 1, E.i 0, E.i (-1), E.i 0, E.u b, E.i 6, E.i (o + 16), E.i 1, E.i 0, E.i (-1), E.i 0, E.u b, E.i 3]), A.blk g2 ([E.u ((K5.alu o a b q).v), E.u ((K5.alu o a b q).f), .bool ((K5.alu o a b q).st), .bool ((K5.alu o a b q).se), .bool ((K5.alu o a b q).z)]), A.blk g1 ([E.u a, E.u b])] (fun i8 => [(i8.1.1, (E.pt i8.1.2 :: Q.S.cells S)), (g7, (Q.S.cells (⟨5, (fun k => [9, a, b, 8, 0, 0, 0, 0, 0, 0, 0, 0, 0, 0, 0, 0].getD k 0), q, (fun k => [1, 2, 3, 4].getD k 0), 0, 0⟩))), (g5, [.string ((R2.Encode (K.arI o b i)).1), E.i ((R2.Encode (K.arI o b i)).2)]), (g3, [E.i o, E.i 1, E.i 2, E.i (-1), E.i 0, E.u 0, E.i 2, E.i (o + 32), E.i 1, E.i 0, E.i (-1), E.i 0, E.u b, E.i 6, E.i (o + 16), E.i 1, E.i 0, E.i (-1), E.i 0, E.u b, E.i 3]), (g2, [E.u ((K5.alu o a b q).v), E.u ((K5.alu o a b q).f), .bool ((K5.alu o a b q).st), .bool ((K5.alu o a b q).se), .bool ((K5.alu o a b q).z)]), (g1, [E.u a, E.u b])]) (fun i8 => [M.It i8.1.2 (VF i) ([])]) (Both1 (⟨5, (fun k => [9, a, b, 8, 0, 0, 0, 0, 0, 0, 0, 0, 0, 0, 0, 0].getD k 0), q, (fun k => [1, 2, 3, 4].getD k 0), 0, 0⟩ : Q.S) 4 0 0 0 0 5 ((R2.Encode (K.arI o b i)).1) (by decide) (by decide) (by decide) (by decide) (by decide) hS (hV i)) (by kernel_rfl) (A.pn [0, 1, 2, 3, 4]) (fun i8 => A.pm [0, 2, 3, 4, 5, 6, 1] (by kernel_rfl) (by kernel_rfl)) (fun w _ => by kernel_rfl) (by kernel_rfl) (fun i8 hd9 => E.op (.tuple #[E.pt i8.1.1, E.pt i8.2.1]) (E.op (E.pt i8.1.1) (E.op (E.pt i8.2.1) ?_)))))))))))
  refine E.op (E.pt i8.1.1) (E.op (E.pt i8.2.1) (E.tr (E.op (E.pt i8.1.1) (A.G.call (I := Unit) (D := fun _ => True) (V := fun _ => .agg #[E.i ((RN i).2.1), E.u ((RN i).2.2.1)]) (q := fun _ => [A.blk i8.1.1 (E.pt i8.1.2 :: Q.S.cells ((RN i).1)), M.It i8.1.2 ((RN i).2.2.2) ([])]) [A.blk g7 (Q.S.cells (⟨5, (fun k => [9, a, b, 8, 0, 0, 0, 0, 0, 0, 0, 0, 0, 0, 0, 0].getD k 0), q, (fun k => [1, 2, 3, 4].getD k 0), 0, 0⟩)), A.blk g5 ([.string ((R2.Encode (K.arI o b i)).1), E.i ((R2.Encode (K.arI o b i)).2)]), A.blk g3 ([E.i o, E.i 1, E.i 2, E.i (-1), E.i 0, E.u 0, E.i 2, E.i (o + 32), E.i 1, E.i 0, E.i (-1), E.i 0, E.u b, E.i 6, E.i (o + 16), E.i 1, E.i 0, E.i (-1), E.i 0, E.u b, E.i 3]), A.blk g2 ([E.u ((K5.alu o a b q).v), E.u ((K5.alu o a b q).f), .bool ((K5.alu o a b q).st), .bool ((K5.alu o a b q).se), .bool ((K5.alu o a b q).z)]), A.blk g1 ([E.u a, E.u b])] (fun _ => [(i8.1.1, (E.pt i8.1.2 :: Q.S.cells ((RN i).1))), (g7, (Q.S.cells (⟨5, (fun k => [9, a, b, 8, 0, 0, 0, 0, 0, 0, 0, 0, 0, 0, 0, 0].getD k 0), q, (fun k => [1, 2, 3, 4].getD k 0), 0, 0⟩))), (g5, [.string ((R2.Encode (K.arI o b i)).1), E.i ((R2.Encode (K.arI o b i)).2)]), (g3, [E.i o, E.i 1, E.i 2, E.i (-1), E.i 0, E.u 0, E.i 2, E.i (o + 32), E.i 1, E.i 0, E.i (-1), E.i 0, E.u b, E.i 6, E.i (o + 16), E.i 1, E.i 0, E.i (-1), E.i 0, E.u b, E.i 3]), (g2, [E.u ((K5.alu o a b q).v), E.u ((K5.alu o a b q).f), .bool ((K5.alu o a b q).st), .bool ((K5.alu o a b q).se), .bool ((K5.alu o a b q).z)]), (g1, [E.u a, E.u b])]) (fun _ => [M.It i8.1.2 ((RN i).2.2.2) ([])]) (A.trAs (CRun (c := i8.1.1) (m := i8.1.2) 1 S (VF i) (by decide) hwS (hwV i)) (by rw [hrn i] <;> rfl) (by rw [hrn i] <;> rfl)) (by kernel_rfl) (A.pn [0, 6, 1, 2, 3, 4, 5]) (fun _ => A.pm [0, 2, 3, 4, 5, 6, 1] (by kernel_rfl) (by kernel_rfl)) (fun w _ => by kernel_rfl) (by kernel_rfl) (fun _ hd10 => E.nw [E.i 0, E.u 0] 47 (fun g11 => E.st 0 [E.i ((RN i).2.1), E.u ((RN i).2.2.1)] rfl rfl (E.To.code (E.C.seq (E.sr (E.op (.pointer (some ⟨g2, 4, none⟩)) (E.li (.bool ((K5.alu o a b q).z)) 5 rfl rfl ?_)))))))))))
  refine E.To.code (E.cd ((K5.alu o a b q).z) (fun hc12 => ?_) (fun hc12 => ?_))
  ·
   refine E.C.seq (E.C.seq (E.C.held (A.Y [A.blk g11 ([E.i ((RN i).2.1), E.u ((RN i).2.2.1)]), A.blk g7 (Q.S.cells (⟨5, (fun k => [9, a, b, 8, 0, 0, 0, 0, 0, 0, 0, 0, 0, 0, 0, 0].getD k 0), q, (fun k => [1, 2, 3, 4].getD k 0), 0, 0⟩)), A.blk g5 ([.string ((R2.Encode (K.arI o b i)).1), E.i ((R2.Encode (K.arI o b i)).2)]), A.blk g3 ([E.i o, E.i 1, E.i 2, E.i (-1), E.i 0, E.u 0, E.i 2, E.i (o + 32), E.i 1, E.i 0, E.i (-1), E.i 0, E.u b, E.i 6, E.i (o + 16), E.i 1, E.i 0, E.i (-1), E.i 0, E.u b, E.i 3]), A.blk g2 ([E.u ((K5.alu o a b q).v), E.u ((K5.alu o a b q).f), .bool ((K5.alu o a b q).st), .bool ((K5.alu o a b q).se), .bool ((K5.alu o a b q).z)]), A.blk g1 ([E.u a, E.u b])]) (by kernel_rfl) (E.tj 0 (.agg #[E.i ((RN i).2.1), E.u ((RN i).2.2.1)]) rfl (fun w h => A.hq [0, 2, 3, 4, 5, 6] [1, 7] h) (fun w h => A.Y.bld h (k := 0) (j := 0) rfl (by kernel_rfl) (by kernel_rfl)) (E.tj 1 (.agg #[E.i 6, E.u 0]) rfl (fun w h => A.hq [0, 2, 3, 4, 5, 6] [1, 7] h) (fun w h => E.run_build #[E.i 6, E.u 0] (by kernel_rfl) w) (E.al 2 rfl (E.vl (.bool false) (fun w h => E.run_as (a := .bool (!(((RN i).2.1 == 6) && ((RN i).2.2.1 == 0)))) (E.api_Trap_neq (by kernel_rfl) (by kernel_rfl)) (congrArg Value.bool (by have h := (hzr i (K.i3 hc4) hc6 hc12).2; rw [h.1, h.2]; rfl))) (E.H.back (fun w h => A.hq [0, 2, 3, 4, 5, 6] [1, 7] h) (E.tk 3 (.bool false) rfl (fun w h => A.hq [0, 2, 3, 4, 5, 6] [1, 7] h) (E.tk 4 (E.pt i8.1.1) rfl (fun w h => A.hq [0, 2, 3, 4, 5, 6] [1, 7] h) (E.tj 6 (Q.S.val (⟨5, (fun k => [9, a, b, 8, 0, 0, 0, 0, 0, 0, 0, 0, 0, 0, 0, 0].getD k 0), q, (fun k => [1, 2, 3, 4].getD k 0), 0, 0⟩)) rfl (fun w h => A.hq [0, 2, 3, 4, 5, 6] [1, 7] h) (fun w h => A.Y.bld h (k := 1) (j := 0) rfl (by kernel_rfl) (by kernel_rfl)) (E.al 5 rfl ?_)))))))))))
   refine E.ca (Q.S.val ((RN i).1)) (fun w h => A.cq [1] [0, 2, 3, 4, 5, 6, 7] (CState (c := i8.1.1) (m := i8.1.2) ((RN i).1)) h) (E.H.back (fun w h => A.hq [0, 2, 3, 4, 5, 6] [1, 7] h) (E.al 7 rfl (E.vl (.bool false) (fun w h => E.api_State_nsame ((hzr i (K.i3 hc4) hc6 hc12).1) (by kernel_rfl) (by kernel_rfl)) (E.H.back (fun w h => A.hq [0, 2, 3, 4, 5, 6] [1, 7] h) (E.tk 8 (.bool false) rfl (fun w h => A.hq [0, 2, 3, 4, 5, 6] [1, 7] h) (E.H.done (by kernel_rfl) (E.To.code (E.C.condF (by kernel_rfl) (by kernel_rfl) (E.C.skip (E.To.code (E.C.exit (E.P.et (E.P.eh (E.To.code (K.drop [] [M.It i8.1.2 ((RN i).2.2.2) ([])] (A.pn [0]) ?_)))))))))))))))
   exact E.C.region (E.op (E.i ((i : Nat) : Int)) (E.vl (E.i ((i + 1 : Nat) : Int)) (fun w h => E.run_as (a := E.i (IntKind.wrap .i64 (((i : Nat) : Int) + 1))) (by kernel_rfl) (congrArg (Value.int .i64) (K.i3s (K.i3 hc4)))) (E.op (E.i ((i + 1 : Nat) : Int)) (E.To.round (i + 1) (by have := K.i3 hc4; show 3 - (i + 1) < 3 - i; omega) (by have := K.i3 hc4; show i + 1 ≤ 3; omega) ⟨by kernel_rfl, by kernel_rfl⟩ Nz.sub (fun _ h => h)))))
  refine E.C.skip (E.To.code (E.sr (E.op (.pointer (some ⟨g7, 22, none⟩)) (E.st 2 (Q.S.cells (⟨5, (fun k => [9, a, b, 8, 0, 0, 0, 0, 0, 0, 0, 0, 0, 0, 0, 0].getD k 0), q, (fun k => [1, 2, 3, 4].getD k 0), 1, 0⟩)) rfl rfl (E.tr (E.op (E.i ((i : Nat) : Int)) (E.vl (.pointer (some ⟨g3, 0 + (((i : Nat) : Int)).toNat * 7, none⟩)) (fun w h => E.idxA (e := 66) g3 0 3 7 .i64 ((i : Nat) : Int) (by kernel_rfl) (by kernel_rfl) (by kernel_rfl) (by kernel_rfl) (Int.natCast_nonneg _) (K.i3 hc4) w) (E.op (.pointer (some ⟨g3, (0 + (((i : Nat) : Int)).toNat * 7) + 6, none⟩)) (E.vl (E.i ((K.arI o b i).sz)) (fun w h => E.run_load h 4 rfl rfl (K.arI_sz (K.i3 hc4))) (E.op (E.u (IntKind.wrap .u32 ((K.arI o b i).sz))) (E.op (E.u (IntKind.wrap .u32 (5 + (IntKind.wrap .u32 ((K.arI o b i).sz))))) (E.op (E.pt g7) ?_))))))))))))
  refine E.st 2 (Q.S.cells (⟨(IntKind.wrap .u32 (5 + (IntKind.wrap .u32 ((K.arI o b i).sz)))), (fun k => [9, a, b, 8, 0, 0, 0, 0, 0, 0, 0, 0, 0, 0, 0, 0].getD k 0), q, (fun k => [1, 2, 3, 4].getD k 0), 1, 0⟩)) rfl rfl (E.To.code (E.C.seq (E.sr (E.op (.pointer (some ⟨g2, 2, none⟩)) (E.li (.bool ((K5.alu o a b q).st)) 5 rfl rfl (E.To.code (E.C.thencut [(2, .int .u8 f), (4, E.pt g1), (6, .bool false), (7, .bool true), (9, E.pt g2), (10, E.pt g3), (11, E.i ((i : Nat) : Int)), (12, E.pt g5), (13, E.pt g7), (14, E.pt i8.1.1), (16, E.pt g11), (44, E.i ((i : Nat) : Int)), (45, .bool (decide (((i : Nat) : Int) < 3))), (48, E.i ((i : Nat) : Int)), (49, .pointer (some ⟨g3, 0 + (((i : Nat) : Int)).toNat * 7, none⟩)), (50, .agg #[E.i ((K.arI o b i).op), E.i ((K.arI o b i).d), E.i ((K.arI o b i).s), E.i ((K.arI o b i).ix), E.i ((K.arI o b i).sc), E.u ((K.arI o b i).imm), E.i ((K.arI o b i).sz)]), (51, .agg #[.string ((R2.Encode (K.arI o b i)).1), E.i ((R2.Encode (K.arI o b i)).2)]), (52, .pointer (some ⟨g5, 1, none⟩)), (53, E.i ((R2.Encode (K.arI o b i)).2)), (54, .bool (((R2.Encode (K.arI o b i)).2) != 0)), (55, E.pt g1), (56, E.u a), (57, .pointer (some ⟨g1, 1, none⟩)), (58, E.u b), (59, .agg #[E.u 9, E.u a, E.u b, E.u 8, E.u 0, E.u 0, E.u 0, E.u 0, E.u 0, E.u 0, E.u 0, E.u 0, E.u 0, E.u 0, E.u 0, E.u 0]), (60, .int .u8 f), (61, .int .u8 (Int.tmod f 16)), (62, E.u q), (63, .agg #[E.u 1, E.u 2, E.u 3, E.u 4]), (64, Q.S.val (⟨5, (fun k => [9, a, b, 8, 0, 0, 0, 0, 0, 0, 0, 0, 0, 0, 0, 0].getD k 0), q, (fun k => [1, 2, 3, 4].getD k 0), 0, 0⟩)), (65, .tuple #[E.pt i8.1.1, E.pt i8.2.1]), (66, Q.S.val (⟨5, (fun k => [9, a, b, 8, 0, 0, 0, 0, 0, 0, 0, 0, 0, 0, 0, 0].getD k 0), q, (fun k => [1, 2, 3, 4].getD k 0), 0, 0⟩)), (67, .agg #[.int .u8 4, .int .u8 0, .int .u8 0, .int .u8 0]), (68, E.pt g5), (69, .string ((R2.Encode (K.arI o b i)).1)), (70, .agg (Q.S.cells (⟨5, (fun k => [9, a, b, 8, 0, 0, 0, 0, 0, 0, 0, 0, 0, 0, 0, 0].getD k 0), q, (fun k => [1, 2, 3, 4].getD k 0), 0, 0⟩ : Q.S) ++ [Value.int .u8 4, Value.int .u8 0, Value.int .u8 0, Value.int .u8 0, Value.int .u32 0, Value.int .u32 5, Value.string ((R2.Encode (K.arI o b i)).1)]).toArray), (71, .tuple #[E.pt i8.1.1, E.pt i8.2.1]), (72, E.pt i8.1.1), (73, E.pt i8.2.1), (74, E.pt i8.1.1), (75, .agg #[E.i ((RN i).2.1), E.u ((RN i).2.2.1)]), (76, .pointer (some ⟨g2, 4, none⟩)), (77, .bool ((K5.alu o a b q).z)), (87, .pointer (some ⟨g7, 22, none⟩)), (88, E.i ((i : Nat) : Int)), (89, .pointer (some ⟨g3, 0 + (((i : Nat) : Int)).toNat * 7, none⟩)), (90, .pointer (some ⟨g3, (0 + (((i : Nat) : Int)).toNat * 7) + 6, none⟩)), (91, E.i ((K.arI o b i).sz)), (92, E.u (IntKind.wrap .u32 ((K.arI o b i).sz))), (93, E.u (IntKind.wrap .u32 (5 + (IntKind.wrap .u32 ((K.arI o b i).sz))))), (94, E.pt g7), (95, .pointer (some ⟨g2, 2, none⟩)), (96, .bool (((K5.alu o a b q).st) && true))] (A.X w oo aa [M.It i8.1.2 ((RN i).2.2.2) ([])]) [(g11, [E.i ((RN i).2.1), E.u ((RN i).2.2.1)]), (i8.1.1, (E.pt i8.1.2 :: Q.S.cells ((RN i).1))), (g7, (Q.S.cells (⟨(IntKind.wrap .u32 (5 + (IntKind.wrap .u32 ((K.arI o b i).sz)))), (bif (K5.alu o a b q).st then (Q.up (fun k => [9, a, b, 8, 0, 0, 0, 0, 0, 0, 0, 0, 0, 0, 0, 0].getD k 0) 1 ((K5.alu o a b q).v)) else (fun k => [9, a, b, 8, 0, 0, 0, 0, 0, 0, 0, 0, 0, 0, 0, 0].getD k 0)), q, (fun k => [1, 2, 3, 4].getD k 0), 1, 0⟩))), (g5, [.string ((R2.Encode (K.arI o b i)).1), E.i ((R2.Encode (K.arI o b i)).2)]), (g3, [E.i o, E.i 1, E.i 2, E.i (-1), E.i 0, E.u 0, E.i 2, E.i (o + 32), E.i 1, E.i 0, E.i (-1), E.i 0, E.u b, E.i 6, E.i (o + 16), E.i 1, E.i 0, E.i (-1), E.i 0, E.u b, E.i 3]), (g2, [E.u ((K5.alu o a b q).v), E.u ((K5.alu o a b q).f), .bool ((K5.alu o a b q).st), .bool ((K5.alu o a b q).se), .bool ((K5.alu o a b q).z)]), (g1, [E.u a, E.u b])] ?_ ?_)))))))
  ·
   generalize hc13 : (K5.alu o a b q).st = b14
   cases b14
   ·
    exact E.C.condF (by kernel_rfl) (by kernel_rfl) (E.C.skip (E.To.pst ⟨by kernel_rfl, by kernel_rfl⟩ Nz.sub (fun _ h => h)))
   exact E.C.condT (by kernel_rfl) (by kernel_rfl) (E.C.region (E.op (E.pt g2) (E.li (E.u ((K5.alu o a b q).v)) 5 rfl rfl (E.op (.pointer (some ⟨g7, 1, none⟩)) (E.op (.pointer (some ⟨g7, 2, none⟩)) (E.st 2 (Q.S.cells (⟨(IntKind.wrap .u32 (5 + (IntKind.wrap .u32 ((K.arI o b i).sz)))), (Q.up (fun k => [9, a, b, 8, 0, 0, 0, 0, 0, 0, 0, 0, 0, 0, 0, 0].getD k 0) 1 ((K5.alu o a b q).v)), q, (fun k => [1, 2, 3, 4].getD k 0), 1, 0⟩)) rfl rfl (E.To.pst ⟨by kernel_rfl, by kernel_rfl⟩ Nz.sub (fun _ h => h))))))))
  refine E.C.seq (E.sr (E.op (.pointer (some ⟨g2, 3, none⟩)) (E.li (.bool ((K5.alu o a b q).se)) 5 rfl rfl (E.To.code (E.C.thencut [(2, .int .u8 f), (4, E.pt g1), (6, .bool false), (7, .bool true), (9, E.pt g2), (10, E.pt g3), (11, E.i ((i : Nat) : Int)), (12, E.pt g5), (13, E.pt g7), (14, E.pt i8.1.1), (16, E.pt g11), (44, E.i ((i : Nat) : Int)), (45, .bool (decide (((i : Nat) : Int) < 3))), (48, E.i ((i : Nat) : Int)), (49, .pointer (some ⟨g3, 0 + (((i : Nat) : Int)).toNat * 7, none⟩)), (50, .agg #[E.i ((K.arI o b i).op), E.i ((K.arI o b i).d), E.i ((K.arI o b i).s), E.i ((K.arI o b i).ix), E.i ((K.arI o b i).sc), E.u ((K.arI o b i).imm), E.i ((K.arI o b i).sz)]), (51, .agg #[.string ((R2.Encode (K.arI o b i)).1), E.i ((R2.Encode (K.arI o b i)).2)]), (52, .pointer (some ⟨g5, 1, none⟩)), (53, E.i ((R2.Encode (K.arI o b i)).2)), (54, .bool (((R2.Encode (K.arI o b i)).2) != 0)), (55, E.pt g1), (56, E.u a), (57, .pointer (some ⟨g1, 1, none⟩)), (58, E.u b), (59, .agg #[E.u 9, E.u a, E.u b, E.u 8, E.u 0, E.u 0, E.u 0, E.u 0, E.u 0, E.u 0, E.u 0, E.u 0, E.u 0, E.u 0, E.u 0, E.u 0]), (60, .int .u8 f), (61, .int .u8 (Int.tmod f 16)), (62, E.u q), (63, .agg #[E.u 1, E.u 2, E.u 3, E.u 4]), (64, Q.S.val (⟨5, (fun k => [9, a, b, 8, 0, 0, 0, 0, 0, 0, 0, 0, 0, 0, 0, 0].getD k 0), q, (fun k => [1, 2, 3, 4].getD k 0), 0, 0⟩)), (65, .tuple #[E.pt i8.1.1, E.pt i8.2.1]), (66, Q.S.val (⟨5, (fun k => [9, a, b, 8, 0, 0, 0, 0, 0, 0, 0, 0, 0, 0, 0, 0].getD k 0), q, (fun k => [1, 2, 3, 4].getD k 0), 0, 0⟩)), (67, .agg #[.int .u8 4, .int .u8 0, .int .u8 0, .int .u8 0]), (68, E.pt g5), (69, .string ((R2.Encode (K.arI o b i)).1)), (70, .agg (Q.S.cells (⟨5, (fun k => [9, a, b, 8, 0, 0, 0, 0, 0, 0, 0, 0, 0, 0, 0, 0].getD k 0), q, (fun k => [1, 2, 3, 4].getD k 0), 0, 0⟩ : Q.S) ++ [Value.int .u8 4, Value.int .u8 0, Value.int .u8 0, Value.int .u8 0, Value.int .u32 0, Value.int .u32 5, Value.string ((R2.Encode (K.arI o b i)).1)]).toArray), (71, .tuple #[E.pt i8.1.1, E.pt i8.2.1]), (72, E.pt i8.1.1), (73, E.pt i8.2.1), (74, E.pt i8.1.1), (75, .agg #[E.i ((RN i).2.1), E.u ((RN i).2.2.1)]), (76, .pointer (some ⟨g2, 4, none⟩)), (77, .bool ((K5.alu o a b q).z)), (87, .pointer (some ⟨g7, 22, none⟩)), (88, E.i ((i : Nat) : Int)), (89, .pointer (some ⟨g3, 0 + (((i : Nat) : Int)).toNat * 7, none⟩)), (90, .pointer (some ⟨g3, (0 + (((i : Nat) : Int)).toNat * 7) + 6, none⟩)), (91, E.i ((K.arI o b i).sz)), (92, E.u (IntKind.wrap .u32 ((K.arI o b i).sz))), (93, E.u (IntKind.wrap .u32 (5 + (IntKind.wrap .u32 ((K.arI o b i).sz))))), (94, E.pt g7), (95, .pointer (some ⟨g2, 2, none⟩)), (96, .bool (((K5.alu o a b q).st) && true)), (101, .pointer (some ⟨g2, 3, none⟩)), (102, .bool (((K5.alu o a b q).se) && true))] (A.X w oo aa [M.It i8.1.2 ((RN i).2.2.2) ([])]) [(g11, [E.i ((RN i).2.1), E.u ((RN i).2.2.1)]), (i8.1.1, (E.pt i8.1.2 :: Q.S.cells ((RN i).1))), (g7, (Q.S.cells (⟨(IntKind.wrap .u32 (5 + (IntKind.wrap .u32 ((K.arI o b i).sz)))), (bif (K5.alu o a b q).st then (Q.up (fun k => [9, a, b, 8, 0, 0, 0, 0, 0, 0, 0, 0, 0, 0, 0, 0].getD k 0) 1 ((K5.alu o a b q).v)) else (fun k => [9, a, b, 8, 0, 0, 0, 0, 0, 0, 0, 0, 0, 0, 0, 0].getD k 0)), (bif (K5.alu o a b q).se then (K5.alu o a b q).f else q), (fun k => [1, 2, 3, 4].getD k 0), 1, 0⟩))), (g5, [.string ((R2.Encode (K.arI o b i)).1), E.i ((R2.Encode (K.arI o b i)).2)]), (g3, [E.i o, E.i 1, E.i 2, E.i (-1), E.i 0, E.u 0, E.i 2, E.i (o + 32), E.i 1, E.i 0, E.i (-1), E.i 0, E.u b, E.i 6, E.i (o + 16), E.i 1, E.i 0, E.i (-1), E.i 0, E.u b, E.i 3]), (g2, [E.u ((K5.alu o a b q).v), E.u ((K5.alu o a b q).f), .bool ((K5.alu o a b q).st), .bool ((K5.alu o a b q).se), .bool ((K5.alu o a b q).z)]), (g1, [E.u a, E.u b])] ?_ ?_)))))
  ·
   generalize hc15 : (K5.alu o a b q).se = b16
   cases b16
   ·
    exact E.C.condF (by kernel_rfl) (by kernel_rfl) (E.C.skip (E.To.pst ⟨by kernel_rfl, by kernel_rfl⟩ Nz.sub (fun _ h => h)))
   exact E.C.condT (by kernel_rfl) (by kernel_rfl) (E.C.region (E.op (.pointer (some ⟨g2, 1, none⟩)) (E.li (E.u ((K5.alu o a b q).f)) 5 rfl rfl (E.op (.pointer (some ⟨g7, 17, none⟩)) (E.st 2 (Q.S.cells (⟨(IntKind.wrap .u32 (5 + (IntKind.wrap .u32 ((K.arI o b i).sz)))), (bif (K5.alu o a b q).st then (Q.up (fun k => [9, a, b, 8, 0, 0, 0, 0, 0, 0, 0, 0, 0, 0, 0, 0].getD k 0) 1 ((K5.alu o a b q).v)) else (fun k => [9, a, b, 8, 0, 0, 0, 0, 0, 0, 0, 0, 0, 0, 0, 0].getD k 0)), (K5.alu o a b q).f, (fun k => [1, 2, 3, 4].getD k 0), 1, 0⟩)) rfl rfl (E.To.pst ⟨by kernel_rfl, by kernel_rfl⟩ Nz.sub (fun _ h => h)))))))
  refine E.C.seq (E.C.held (A.Y [A.blk g11 ([E.i ((RN i).2.1), E.u ((RN i).2.2.1)]), A.blk g7 (Q.S.cells (⟨(IntKind.wrap .u32 (5 + (IntKind.wrap .u32 ((K.arI o b i).sz)))), (bif (K5.alu o a b q).st then (Q.up (fun k => [9, a, b, 8, 0, 0, 0, 0, 0, 0, 0, 0, 0, 0, 0, 0].getD k 0) 1 ((K5.alu o a b q).v)) else (fun k => [9, a, b, 8, 0, 0, 0, 0, 0, 0, 0, 0, 0, 0, 0, 0].getD k 0)), (bif (K5.alu o a b q).se then (K5.alu o a b q).f else q), (fun k => [1, 2, 3, 4].getD k 0), 1, 0⟩)), A.blk g5 ([.string ((R2.Encode (K.arI o b i)).1), E.i ((R2.Encode (K.arI o b i)).2)]), A.blk g3 ([E.i o, E.i 1, E.i 2, E.i (-1), E.i 0, E.u 0, E.i 2, E.i (o + 32), E.i 1, E.i 0, E.i (-1), E.i 0, E.u b, E.i 6, E.i (o + 16), E.i 1, E.i 0, E.i (-1), E.i 0, E.u b, E.i 3]), A.blk g2 ([E.u ((K5.alu o a b q).v), E.u ((K5.alu o a b q).f), .bool ((K5.alu o a b q).st), .bool ((K5.alu o a b q).se), .bool ((K5.alu o a b q).z)]), A.blk g1 ([E.u a, E.u b])]) (by kernel_rfl) (E.tj 0 (.agg #[E.i ((RN i).2.1), E.u ((RN i).2.2.1)]) rfl (fun w h => A.hq [0, 2, 3, 4, 5, 6] [1, 7] h) (fun w h => A.Y.bld h (k := 0) (j := 0) rfl (by kernel_rfl) (by kernel_rfl)) (E.tj 1 (.agg #[E.i 1, E.u 0]) rfl (fun w h => A.hq [0, 2, 3, 4, 5, 6] [1, 7] h) (fun w h => E.run_build #[E.i 1, E.u 0] (by kernel_rfl) w) (E.al 2 rfl (E.vl (.bool false) (fun w h => E.run_as (a := .bool (!(((RN i).2.1 == 1) && ((RN i).2.2.1 == 0)))) (E.api_Trap_neq (by kernel_rfl) (by kernel_rfl)) (congrArg Value.bool (by have h := (hok i (K.i3 hc4) hc6 hc12).2; rw [h.1, h.2]; rfl))) (E.H.back (fun w h => A.hq [0, 2, 3, 4, 5, 6] [1, 7] h) (E.tk 3 (.bool false) rfl (fun w h => A.hq [0, 2, 3, 4, 5, 6] [1, 7] h) (E.tk 4 (E.pt i8.1.1) rfl (fun w h => A.hq [0, 2, 3, 4, 5, 6] [1, 7] h) (E.tj 6 (Q.S.val (⟨(IntKind.wrap .u32 (5 + (IntKind.wrap .u32 ((K.arI o b i).sz)))), (bif (K5.alu o a b q).st then (Q.up (fun k => [9, a, b, 8, 0, 0, 0, 0, 0, 0, 0, 0, 0, 0, 0, 0].getD k 0) 1 ((K5.alu o a b q).v)) else (fun k => [9, a, b, 8, 0, 0, 0, 0, 0, 0, 0, 0, 0, 0, 0, 0].getD k 0)), (bif (K5.alu o a b q).se then (K5.alu o a b q).f else q), (fun k => [1, 2, 3, 4].getD k 0), 1, 0⟩)) rfl (fun w h => A.hq [0, 2, 3, 4, 5, 6] [1, 7] h) (fun w h => A.Y.bld h (k := 1) (j := 0) rfl (by kernel_rfl) (by kernel_rfl)) (E.al 5 rfl (E.ca (Q.S.val ((RN i).1)) (fun w h => A.cq [1] [0, 2, 3, 4, 5, 6, 7] (CState (c := i8.1.1) (m := i8.1.2) ((RN i).1)) h) ?_)))))))))))
  refine E.H.back (fun w h => A.hq [0, 2, 3, 4, 5, 6] [1, 7] h) (E.al 7 rfl (E.vl (.bool false) (fun w h => E.api_State_nsame ((hok i (K.i3 hc4) hc6 hc12).1) (by kernel_rfl) (by kernel_rfl)) (E.H.back (fun w h => A.hq [0, 2, 3, 4, 5, 6] [1, 7] h) (E.tk 8 (.bool false) rfl (fun w h => A.hq [0, 2, 3, 4, 5, 6] [1, 7] h) (E.H.done (by kernel_rfl) (E.To.code (E.C.condF (by kernel_rfl) (by kernel_rfl) (E.C.skip (E.P.nb (E.To.code (K.drop [] [M.It i8.1.2 ((RN i).2.2.2) ([])] (A.pn [0]) (E.C.region (E.op (E.i ((i : Nat) : Int)) ?_)))))))))))))
  exact E.vl (E.i ((i + 1 : Nat) : Int)) (fun w h => E.run_as (a := E.i (IntKind.wrap .i64 (((i : Nat) : Int) + 1))) (by kernel_rfl) (congrArg (Value.int .i64) (K.i3s (K.i3 hc4)))) (E.op (E.i ((i + 1 : Nat) : Int)) (E.To.round (i + 1) (by have := K.i3 hc4; show 3 - (i + 1) < 3 - i; omega) (by have := K.i3 hc4; show i + 1 ≤ 3; omega) ⟨by kernel_rfl, by kernel_rfl⟩ Nz.sub (fun _ h => h)))
 exact E.C.exit (E.P.et (E.P.et (E.P.eh (E.To.code (E.wk [(6, .bool false), (7, .bool true)] [] Nz.sub (E.sr (E.op (.bool true) (E.op (.bool true) (E.To.code (E.C.ret (E.bd Tryz.f5 [.bool true] (fun w h => ⟨rfl, h.ch.bel (fun x hx => (hh.1 x hx).elim)⟩))))))))))))
theorem K5.carry {f : Int} (hf : 0 ≤ f ∧ f < 4294967296) : IntKind.wrap .i64 (bits .and .u32 (Int.fdiv f (2 ^ 1)) 1) = f / 2 % 2 ∧ Int.tmod (IntKind.wrap .u32 (Int.tdiv f 2)) 2 = f / 2 % 2 := by
  have e1 : Int.fdiv f (2 ^ 1) = f / 2 := Int.fdiv_eq_ediv_of_nonneg f (by decide)
  have e2 : bits .and .u32 (f / 2) 1 = f / 2 % 2 := W.and_mask 1 (by decide) (f / 2) (by omega) (by omega)
  have e3 : Int.tdiv f 2 = f / 2 := Int.tdiv_eq_ediv_of_nonneg hf.1
  have e4 : IntKind.wrap .u32 (f / 2) = f / 2 := by show (f / 2) % 4294967296 = f / 2; omega
  refine ⟨?_, ?_⟩
  · rw [e1, e2, IntWalk.i64_in _ (by omega)]
  · rw [e3, e4, Int.tmod_eq_emod_of_nonneg (by omega)]
theorem K5.divw {a b : Int} (ha : 0 ≤ a ∧ a < 4294967296) (hb : 0 ≤ b ∧ b < 4294967296) : IntKind.wrap .u32 (Int.tdiv a b) = a / b := by
  rw [Int.tdiv_eq_ediv_of_nonneg ha.1]
  show (a / b) % 4294967296 = a / b
  have h1 : 0 ≤ a / b := Int.ediv_nonneg ha.1 hb.1
  have h2 : a / b ≤ a := Int.ediv_le_self b ha.1
  omega
/-- What an operation of the reference makes of a step. -/
def K5.app (x : K.W) (A : K5.A) : K.W := bif A.z then ⟨x.u, x.s, x.i, 6, 0⟩ else ⟨x.u, ⟨x.s.pc, bif A.st then Q.up x.s.r x.i.d.toNat A.v else x.s.r, bif A.se then A.f else x.s.f, x.s.c, x.s.st, x.s.du⟩, x.i, x.k, x.t⟩
theorem K.arith_eq (x : K.W) {o b : Int} (ho : 32 ≤ o ∧ o ≤ 46) (ha : 0 ≤ x.s.r x.i.d.toNat ∧ x.s.r x.i.d.toNat < 4294967296) (hb : 0 ≤ b ∧ b < 4294967296) (hf : 0 ≤ x.u.f ∧ x.u.f < 4294967296) : K.arith x o b = K5.app x (K5.alu o (x.s.r x.i.d.toNat) b x.u.f) := by
  obtain ⟨q1, q2⟩ := K5.carry hf
  have hc : x.u.f / 2 % 2 = 0 ∨ x.u.f / 2 % 2 = 1 := by omega
  unfold K.arith K5.alu
  rw [q1, q2, K5.divw ha hb]
  generalize x.u.f / 2 % 2 = c at hc
  generalize (b == 0) = z
  rcases hc with rfl | rfl <;> cases z
  all_goals
    rcases (by omega : o = 32 ∨ o = 33 ∨ o = 34 ∨ o = 35 ∨ o = 36 ∨ o = 37 ∨ o = 38 ∨ o = 39 ∨ o = 40 ∨ o = 41 ∨ o = 42 ∨ o = 43 ∨ o = 44 ∨ o = 45 ∨ o = 46) with rfl | rfl | rfl | rfl | rfl | rfl | rfl | rfl | rfl | rfl | rfl | rfl | rfl | rfl | rfl
    all_goals (show _ = _; kernel_rfl)
/-- What Encode accepts is a good instruction. -/
theorem K.good_of {i : K.Ins} (h : ((R2.Encode i).2 != 0) = false) (h0 : 0 ≤ i.imm) (h1 : i.imm < 4294967296) : K.Good i := by
  refine ⟨?_, h0, h1⟩
  cases hv : R2.Valid i with
  | true => rfl
  | false =>
    unfold R2.Encode at h
    rw [hv] at h
    cases h
theorem K.step_ar {o a b q : Int} {i : Nat} (hi : ((i : Nat) : Int) < 3) (ho : 32 ≤ o ∧ o ≤ 46) {s : Q.S} (h2 : s.r 2 = b) (V : M.V) : K.stepI (K.arI o b i) 0 0 s V = (fun y : K.W => bif (y.k != 0) then (s, y.k, y.t, V) else (y.s, y.k, y.t, V)) (K.arith (K.w0 s (K.arI o b i)) o b) := by
  subst h2
  rcases (by omega : i = 0 ∨ i = 1 ∨ i = 2) with rfl | rfl | rfl <;> rcases (by omega : o = 32 ∨ o = 33 ∨ o = 34 ∨ o = 35 ∨ o = 36 ∨ o = 37 ∨ o = 38 ∨ o = 39 ∨ o = 40 ∨ o = 41 ∨ o = 42 ∨ o = 43 ∨ o = 44 ∨ o = 45 ∨ o = 46) with rfl | rfl | rfl | rfl | rfl | rfl | rfl | rfl | rfl | rfl | rfl | rfl | rfl | rfl | rfl
  all_goals (show _ = _; kernel_rfl)
theorem K.apage (j : Nat) (h : j = (5 : Int).toNat / 256 ∨ j = ((5 : Int).toNat + 6) / 256) : (bits .and .i64 (K.br 4 0 0 0 j) 4 == 0) = false := by
  have : j = 0 := by rcases h with rfl | rfl <;> rfl
  subst this; rfl
theorem KcpuArith_law (p a b f : Int) (hp : 0 ≤ p ∧ p < 256) (h0 : 0 ≤ a ∧ a < 4294967296) (h1 : 0 ≤ b ∧ b < 4294967296) (hf : 0 ≤ f ∧ f < 256) (w : World) : Calls Tryz.prog 5 #[.int .u8 p, .agg #[.int .u32 a, .int .u32 b], .int .u8 f] w fun e w' => e = .returned (.bool true) ∧ Bel w w' := by
  obtain ⟨o, ho⟩ : ∃ o, IntKind.wrap .i64 (32 + (IntKind.wrap .i64 (Int.tmod p 15))) = o := ⟨_, rfl⟩
  obtain ⟨q, hq⟩ : ∃ q, IntKind.wrap .u32 (Int.tmod f 16) = q := ⟨_, rfl⟩
  have ep : Int.tmod p 15 = p % 15 := Int.tmod_eq_emod_of_nonneg hp.1
  have ef : Int.tmod f 16 = f % 16 := Int.tmod_eq_emod_of_nonneg hf.1
  have ho0 : 32 ≤ o ∧ o ≤ 46 := by rw [ep, IntWalk.i64_in (p % 15) (by omega), IntWalk.i64_in _ (by omega)] at ho; omega
  have hq0 : 0 ≤ q ∧ q < 16 := by rw [ef, K.w32 (by omega)] at hq; omega
  obtain ⟨S, hS0⟩ : ∃ S : Q.S, (⟨5, (fun k => [9, a, b, 8, 0, 0, 0, 0, 0, 0, 0, 0, 0, 0, 0, 0].getD k 0), q, (fun k => [1, 2, 3, 4].getD k 0), 0, 0⟩ : Q.S) = S := ⟨_, rfl⟩
  have hrow : ∀ k, 0 ≤ ([9, a, b, 8, 0, 0, 0, 0, 0, 0, 0, 0, 0, 0, 0, 0] : List Int).getD k 0 ∧ ([9, a, b, 8, 0, 0, 0, 0, 0, 0, 0, 0, 0, 0, 0, 0] : List Int).getD k 0 < 4294967296 := K.row_bd (by decide) h0 h1 (by decide) K.z32 K.z32 K.z32 K.z32
  have hS : K.norm S = S := by
    subst hS0
    exact K.norm_id (fun k h1 h2 => K.tail8 k h1 h2) hq0 (Int.le_refl 0) (Int.le_refl 0)
  have hwS : Q.wf S := by subst hS0; exact ⟨by show (0 : Int) ≤ 5 ∧ (5 : Int) < 4294967296; decide, hrow, K.lst_bd _ (by decide)⟩
  have n0 : K.nd S := K.nd0 (by subst hS0; exact Int.le_refl 0)
  have s2 : S.r 2 = b := by subst hS0; rfl
  have s1 : S.r 1 = a := by subst hS0; rfl
  have sf : S.f = q := by subst hS0; rfl
  have imm : ∀ i : Nat, 0 ≤ (K.arI o b i).imm ∧ (K.arI o b i).imm < 4294967296 := fun i => by
    unfold K.arI
    split
    · exact K.z32
    · split <;> exact h1
  have wfV : ∀ i : Nat, R.Wf (K.bV 4 0 0 0 0 5 (R2.Encode (K.arI o b i)).1) := fun i => K.bV_wf _ _ _ _ _ _ _
  -- what the step makes
  have step : ∀ i : Nat, ((i : Nat) : Int) < 3 → ((R2.Encode (K.arI o b i)).2 != 0) = false → ∀ V : M.V, K.fetch V 5 = (K.arI o b i, 0, 0) → K.step S V = (fun y : K.W => bif (y.k != 0) then (S, y.k, y.t, V) else (y.s, y.k, y.t, V)) (K5.app (K.w0 S (K.arI o b i)) (K5.alu o a b q)) := fun i hi he V hF => by
    have e := K.step_ar (a := a) (q := q) hi ho0 s2 V
    have hd : (K.arI o b i).d.toNat = 1 := by
      unfold K.arI
      split
      · rfl
      · split <;> rfl
    have ea := K.arith_eq (K.w0 S (K.arI o b i)) (o := o) (b := b) ho0 (by show 0 ≤ S.r (K.arI o b i).d.toNat ∧ S.r (K.arI o b i).d.toNat < 4294967296; rw [hd, s1]; exact h0) h1 (by show 0 ≤ S.f ∧ S.f < 4294967296; rw [sf]; omega)
    rw [show (K.w0 S (K.arI o b i)).s.r (K.w0 S (K.arI o b i)).i.d.toNat = a from by show S.r (K.arI o b i).d.toNat = a; rw [hd, s1], show (K.w0 S (K.arI o b i)).u.f = q from sf] at ea
    rw [ea] at e
    refine (K.step_at (i := K.arI o b i) ?_).trans e
    subst hS0; exact hF
  refine KcpuArith_rd p a b f o q h0 h1 ho ho0 hq S (fun i => K.bV 4 0 0 0 0 5 (R2.Encode (K.arI o b i)).1) (fun i => K.runs 1 S (K.bV 4 0 0 0 0 5 (R2.Encode (K.arI o b i)).1)) (by rw [hS0]; exact hS) hwS (fun _ => rfl) wfV (fun _ => rfl) (fun i => K.runs_wf hwS (wfV i)) (fun i hi he hz => ?_) (fun i hi he hz => ?_) w _ _ ⟨fun _ h => h, fun _ h => h⟩
  · have hF : K.fetch (K.bV 4 0 0 0 0 5 (R2.Encode (K.arI o b i)).1) 5 = (K.arI o b i, 0, 0) := K.fetch_one (K.good_of he (imm i).1 (imm i).2) ⟨by decide, by decide⟩ K.apage
    have st := step i hi he _ hF
    generalize K.bV 4 0 0 0 0 5 (R2.Encode (K.arI o b i)).1 = V at st
    have e : K.step S V = (S, 6, 0, V) := by
      refine st.trans ?_
      unfold K5.app
      rw [hz]; rfl
    show (K.runs 1 S V).1 = _ ∧ (K.runs 1 S V).2.1 = 6 ∧ (K.runs 1 S V).2.2.1 = 0
    rw [K.runs_t (by decide) n0 e (by decide)]
    exact ⟨hS0.symm, rfl, rfl⟩
  · have hF : K.fetch (K.bV 4 0 0 0 0 5 (R2.Encode (K.arI o b i)).1) 5 = (K.arI o b i, 0, 0) := K.fetch_one (K.good_of he (imm i).1 (imm i).2) ⟨by decide, by decide⟩ K.apage
    have st := step i hi he _ hF
    generalize K.bV 4 0 0 0 0 5 (R2.Encode (K.arI o b i)).1 = V at st
    have hd : (K.arI o b i).d.toNat = 1 := by
      unfold K.arI
      split
      · rfl
      · split <;> rfl
    obtain ⟨T, hT⟩ : ∃ T : Q.S, (⟨(IntKind.wrap .u32 (5 + (IntKind.wrap .u32 (K.arI o b i).sz))), (bif (K5.alu o a b q).st then (Q.up (fun k => [9, a, b, 8, 0, 0, 0, 0, 0, 0, 0, 0, 0, 0, 0, 0].getD k 0) 1 (K5.alu o a b q).v) else (fun k => [9, a, b, 8, 0, 0, 0, 0, 0, 0, 0, 0, 0, 0, 0, 0].getD k 0)), (bif (K5.alu o a b q).se then (K5.alu o a b q).f else q), (fun k => [1, 2, 3, 4].getD k 0), 1, 0⟩ : Q.S) = T := ⟨_, rfl⟩
    have e : K.step S V = (T, 0, 0, V) := by
      refine st.trans ?_
      unfold K5.app
      rw [hz, show (K.w0 S (K.arI o b i)).i.d.toNat = 1 from hd]
      subst hT; subst hS0
      show _ = _
      kernel_rfl
    show (K.runs 1 S V).1 = _ ∧ (K.runs 1 S V).2.1 = 1 ∧ (K.runs 1 S V).2.2.1 = 0
    rw [K.runs_1 n0 e (K.nd0 (by subst hT; exact Int.le_refl 0))]
    exact ⟨hT.symm, rfl, rfl⟩
end Go.Proofs.YtglidnmmeclneaaGreat
