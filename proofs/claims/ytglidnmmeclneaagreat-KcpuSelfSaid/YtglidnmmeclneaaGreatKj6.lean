/- Texts of the walk, merged (6): see the remark ahead of each. -/
import Derived.Test.YtglidnmmeclneaaGreatKj5
import Derived.Test.YtglidnmmeclneaaGreatProg
import Derived.ChangeKeysEq
namespace Go.Proofs.YtglidnmmeclneaaGreat
set_option linter.unusedVariables false
set_option linter.unusedSimpArgs false
open Go.RowKit
/-- The step as it begins. -/
def K.w0 (s : Q.S) (i : K.Ins) : K.W := ⟨s, ⟨(IntKind.wrap .u32 (s.pc + (IntKind.wrap .u32 i.sz))), s.r, s.f, s.c, (IntKind.wrap .i64 (s.st + 1)), s.du⟩, i, 0, 0⟩
theorem K.w0_wf {s : Q.S} {i : K.Ins} (h : Q.wf s) : K.wf (K.w0 s i) := ⟨h, ⟨Q.wrap_bd _, h.r, h.c⟩⟩
theorem K.eq0 {k : Int} (h : (k != 0) = false) : (k == 0) = true := by rw [bne] at h; cases e : (k == 0) with
  | true => rfl
  | false => rw [e] at h; cases h
theorem K.rg0 {o : Int} (h : ((decide (o ≥ 32)) && (decide (o ≤ 46))) = true) : 32 ≤ o ∧ o ≤ 46 := by
  rw [Bool.and_eq_true, decide_eq_true_eq, decide_eq_true_eq] at h; exact h
theorem K.rng16 {o : Int} (h : ((decide (o ≥ 48)) && (decide (o ≤ 62))) = true) : 32 ≤ IntKind.wrap .i64 (o - 16) ∧ IntKind.wrap .i64 (o - 16) ≤ 46 := by
  rw [Bool.and_eq_true, decide_eq_true_eq, decide_eq_true_eq] at h
  rw [IntWalk.i64_in _ (by omega)]; omega
theorem K.rng32 {o : Int} (h : ((decide (o ≥ 64)) && (decide (o ≤ 78))) = true) : 32 ≤ IntKind.wrap .i64 (o - 32) ∧ IntKind.wrap .i64 (o - 32) ≤ 46 := by
  rw [Bool.and_eq_true, decide_eq_true_eq, decide_eq_true_eq] at h
  rw [IntWalk.i64_in _ (by omega)]; omega
theorem A.rdAs {P : Program} {f : FuncId} {args : Array Value} {p : List A.It} {v v' : Value} (h : A.Rd P f args p v) (e : v = v') : A.Rd P f args p v' := e ▸ h
def K.stepI (i : K.Ins) (k t : Int) (s : Q.S) (V : M.V) : Q.S × Int × Int × M.V := (bif (k != 0) then (s, k, t, V) else (bif ((decide (i.op ≥ 32)) && (decide (i.op ≤ 46))) then (bif (((K.arith (K.w0 s i) i.op (s.r ((i.s).toNat))).k) != 0) then (s, (K.arith (K.w0 s i) i.op (s.r ((i.s).toNat))).k, (K.arith (K.w0 s i) i.op (s.r ((i.s).toNat))).t, V) else (((K.arith (K.w0 s i) i.op (s.r ((i.s).toNat))).s), (K.arith (K.w0 s i) i.op (s.r ((i.s).toNat))).k, (K.arith (K.w0 s i) i.op (s.r ((i.s).toNat))).t, V)) else (bif ((decide (i.op ≥ 48)) && (decide (i.op ≤ 62))) then (bif (((K.arith (K.w0 s i) (IntKind.wrap .i64 (i.op - 16)) i.imm).k) != 0) then (s, (K.arith (K.w0 s i) (IntKind.wrap .i64 (i.op - 16)) i.imm).k, (K.arith (K.w0 s i) (IntKind.wrap .i64 (i.op - 16)) i.imm).t, V) else (((K.arith (K.w0 s i) (IntKind.wrap .i64 (i.op - 16)) i.imm).s), (K.arith (K.w0 s i) (IntKind.wrap .i64 (i.op - 16)) i.imm).k, (K.arith (K.w0 s i) (IntKind.wrap .i64 (i.op - 16)) i.imm).t, V)) else (bif ((decide (i.op ≥ 64)) && (decide (i.op ≤ 78))) then (bif (((K.arith (K.w0 s i) (IntKind.wrap .i64 (i.op - 32)) i.imm).k) != 0) then (s, (K.arith (K.w0 s i) (IntKind.wrap .i64 (i.op - 32)) i.imm).k, (K.arith (K.w0 s i) (IntKind.wrap .i64 (i.op - 32)) i.imm).t, V) else (((K.arith (K.w0 s i) (IntKind.wrap .i64 (i.op - 32)) i.imm).s), (K.arith (K.w0 s i) (IntKind.wrap .i64 (i.op - 32)) i.imm).k, (K.arith (K.w0 s i) (IntKind.wrap .i64 (i.op - 32)) i.imm).t, V)) else (bif ((decide (i.op ≥ 80)) && (decide (i.op ≤ 86))) then (bif ((((K.access (K.w0 s i) V i.op).1).k) != 0) then (s, ((K.access (K.w0 s i) V i.op).1).k, ((K.access (K.w0 s i) V i.op).1).t, (K.access (K.w0 s i) V i.op).2) else ((((K.access (K.w0 s i) V i.op).1).s), ((K.access (K.w0 s i) V i.op).1).k, ((K.access (K.w0 s i) V i.op).1).t, (K.access (K.w0 s i) V i.op).2)) else (bif ((decide (i.op ≥ 88)) && (decide (i.op ≤ 94))) then (bif ((((K.access (K.w0 s i) V (IntKind.wrap .i64 (i.op - 8))).1).k) != 0) then (s, ((K.access (K.w0 s i) V (IntKind.wrap .i64 (i.op - 8))).1).k, ((K.access (K.w0 s i) V (IntKind.wrap .i64 (i.op - 8))).1).t, (K.access (K.w0 s i) V (IntKind.wrap .i64 (i.op - 8))).2) else ((((K.access (K.w0 s i) V (IntKind.wrap .i64 (i.op - 8))).1).s), ((K.access (K.w0 s i) V (IntKind.wrap .i64 (i.op - 8))).1).k, ((K.access (K.w0 s i) V (IntKind.wrap .i64 (i.op - 8))).1).t, (K.access (K.w0 s i) V (IntKind.wrap .i64 (i.op - 8))).2)) else (bif ((decide (i.op ≥ 16)) && (decide (i.op ≤ 21))) then (bif ((((K.single (K.w0 s i) V).1).k) != 0) then (s, ((K.single (K.w0 s i) V).1).k, ((K.single (K.w0 s i) V).1).t, (K.single (K.w0 s i) V).2) else ((((K.single (K.w0 s i) V).1).s), ((K.single (K.w0 s i) V).1).k, ((K.single (K.w0 s i) V).1).t, (K.single (K.w0 s i) V).2)) else (bif ((decide (i.op ≥ 96)) && (decide (i.op < 110))) then (bif (W.cond (IntKind.wrap .i64 (i.op - 96)) s.f) then (bif (((K.w0 s i).k) != 0) then (s, (K.w0 s i).k, (K.w0 s i).t, V) else (⟨(IntKind.wrap .u32 ((((K.w0 s i).s).pc) + i.imm)), ((K.w0 s i).s).r, ((K.w0 s i).s).f, ((K.w0 s i).s).c, ((K.w0 s i).s).st, ((K.w0 s i).s).du⟩, (K.w0 s i).k, (K.w0 s i).t, V)) else (bif (((K.w0 s i).k) != 0) then (s, (K.w0 s i).k, (K.w0 s i).t, V) else (((K.w0 s i).s), (K.w0 s i).k, (K.w0 s i).t, V))) else (bif ((((K.control (K.w0 s i) V).1).k) != 0) then (s, ((K.control (K.w0 s i) V).1).k, ((K.control (K.w0 s i) V).1).t, (K.control (K.w0 s i) V).2) else ((((K.control (K.w0 s i) V).1).s), ((K.control (K.w0 s i) V).1).k, ((K.control (K.w0 s i) V).1).t, (K.control (K.w0 s i) V).2))))))))))
abbrev Zo5za (i : K.Ins) : List Value := [E.i i.op, E.i i.d, E.i i.s, E.i i.ix, E.i i.sc, E.u i.imm, E.i i.sz]
abbrev Zo5zb (i : K.Ins) : Array Value := #[E.i i.op, E.i i.d, E.i i.s, E.i i.ix, E.i i.sc, E.u i.imm, E.i i.sz]
abbrev Zo5zc : List Value := [E.i 0, E.i 0, E.i 0, E.i 0, E.i 0, E.u 0, E.i 0]
abbrev Zo5zd (i : K.Ins) := IntKind.wrap .i64 (i.op - 8)
set_option maxHeartbeats 4000000 in
theorem Step_i {m : Nat} {xs : List Value} (i : K.Ins) (k t : Int) (s : Q.S) (V : M.V) (hf : K.fetch V s.pc = (i, k, t)) (hi : (k == 0) = true → K.iok i) (hs : Q.wf s) (hV : R.Wf V) : A.Tr Tryz.prog 20 #[Q.S.val s, .iface 35 (.pointer (some ⟨m, 0, none⟩))] [M.It m V xs] (I := Unit) (fun _ => True) (fun _ => .tuple #[Q.S.val ((K.stepI i k t s V).1), .agg #[.int .i64 ((K.stepI i k t s V).2.1), .int .u32 ((K.stepI i k t s V).2.2.1)]]) (fun _ => [M.It m (K.stepI i k t s V).2.2.2 xs]) := by
 intro w oo aa hh
 refine E.enter (n := 173) (S := oo) Tryz.func20 rfl rfl Nz.k (A.start (L := []) hh) (E.sr (E.nw (Q.S.cells s) 26 (fun g1 => E.nw (Q.S.cells Q.z0) 26 (fun g2 => E.nw [E.i 0, E.u 0] 47 (fun g3 => E.To.code (E.C.seq (E.C.held (A.Y [A.blk g3 ([E.i 0, E.u 0]), A.blk g2 (Q.S.cells Q.z0), A.blk g1 (Q.S.cells s)]) Nz.k (E.H.gen (fun H up dn => ?_)))))))))
 have nd4 : ∀ (α β : Nat), H 0 (E.bits 13 8191) [(1, .iface 35 (E.pt m)), (2, E.pt g1), (4, E.pt g2), (5, E.pt g3), (6, E.pt α), (7, E.pt β)] (A.X w oo aa [M.It m V xs]) [(α, (Zo5za i)), (β, [E.i k, E.u t]), (g3, [E.i 0, E.u 0]), (g2, (Q.S.cells Q.z0)), (g1, (Q.S.cells s))] := by
  intro α β
  refine up _ _ _ _ _ (E.H.done Nz.k (E.To.code (E.C.seq (E.sr (E.op (E.pt β) (E.li (E.i k) 1 rfl rfl (E.op (.bool (k != 0)) (E.To.code (E.cd (k != 0) (fun hc4 => ?_) (fun hc4 => ?_))))))))))
  ·
   refine E.C.seq (E.C.held (E.Hp (oo) w (A.X w oo aa [M.It m V xs]) [(α, (Zo5za i)), (β, [E.i k, E.u t]), (g1, (Q.S.cells s))]) Nz.k (E.tb 0 (Q.S.val s) rfl (fun w h => E.run_load h 2 rfl rfl Nz.k) (E.tb 1 (.agg #[E.i k, E.u t]) rfl (fun w h => E.run_load h 1 rfl rfl Nz.k) (E.al 2 rfl (E.st 3 (Q.S.cells s) rfl rfl (E.bk (E.al 3 rfl (E.st 2 [E.i k, E.u t] rfl rfl (E.bk (E.H.done Nz.k (E.To.code ?_)))))))))))
   refine E.C.ret (E.P.rt (E.To.body (fn := Tryz.f20) [Q.S.val s, .agg #[E.i k, E.u t]] ?_ ?_))
   · exact ⟨⟨Nz.k, _, _, 3, _, rfl, rfl, Nz.k⟩, ⟨Nz.k, _, _, 2, _, rfl, rfl, Nz.k⟩, trivial⟩
   intro w h
   have e : (K.stepI i k t s V) = (s, k, t, V) := by unfold K.stepI; rw [hc4, N1] <;> rfl
   rw [e]
   exact ⟨(), trivial, rfl, A.dq [5] [0, 1, 2, 3, 4] h⟩
  refine E.C.skip (E.To.code (E.C.seq (E.C.held (E.Hp (oo) w (A.X w oo aa [M.It m V xs]) [(α, (Zo5za i)), (β, [E.i k, E.u t]), (g3, [E.i 0, E.u 0]), (g2, (Q.S.cells Q.z0)), (g1, (Q.S.cells s))]) Nz.k (E.tj 0 (Q.S.val s) rfl (fun w h => h) (fun w h => E.run_load h 4 rfl rfl Nz.k) (E.tj 1 (Q.S.val s) rfl (fun w h => h) (fun w h => E.run_load h 4 rfl rfl Nz.k) (E.tj 2 (.agg (Zo5zb i)) rfl (fun w h => h) (fun w h => E.run_load h 0 rfl rfl Nz.k) (E.tk 3 (.iface 35 (E.pt m)) rfl (fun w h => h) (E.tk 4 (.iface 35 (E.pt m)) rfl (fun w h => h) (E.tk 5 (.func (.method "Load") #[.iface 35 (E.pt m)] #[]) rfl (fun w h => h) (E.tk 6 (.iface 35 (E.pt m)) rfl (fun w h => h) (E.tk 7 (.iface 35 (E.pt m)) rfl (fun w h => h) (E.tk 8 (.func (.method "Store") #[.iface 35 (E.pt m)] #[]) rfl (fun w h => h) ?_))))))))))))
  refine E.tj 9 (.agg (K.wk (⟨s, s, i, 0, 0⟩) m).toArray) rfl (fun w h => h) (fun w h => E.run_build (K.wk (⟨s, s, i, 0, 0⟩) m).toArray Nz.k w) (E.al 10 rfl (E.nw (K.wk (⟨s, s, i, 0, 0⟩) m) 117 (fun g5 => E.bk (E.ta 11 (E.pt g5) rfl (E.H.done Nz.k (E.To.code (E.wk [(2, E.pt g1), (4, E.pt g2), (5, E.pt g3), (6, E.pt α), (8, E.pt g5)] [(g5, (K.wk (⟨s, s, i, 0, 0⟩) m)), (α, (Zo5za i)), (g3, [E.i 0, E.u 0]), (g2, (Q.S.cells Q.z0)), (g1, (Q.S.cells s))] Nz.sub (E.C.seq (E.C.held (E.Hp (oo) w (A.X w oo aa [M.It m V xs]) [(α, (Zo5za i)), (g3, [E.i 0, E.u 0]), (g2, (Q.S.cells Q.z0)), (g1, (Q.S.cells s))]) Nz.k (E.ta 0 (E.pt g5) rfl (E.ta 1 (E.pt g5) rfl ?_)))))))))))
  refine E.ta 2 (E.pj g5 24) rfl (E.ta 3 (E.pj g5 24) rfl (E.ta 5 (E.pj α 6) rfl (E.tb 6 (E.i i.sz) rfl (fun w h => E.run_load h 0 rfl rfl Nz.k) (E.ta 7 (E.u (IntKind.wrap .u32 i.sz)) rfl (E.al 4 rfl (E.li (E.u s.pc) 0 rfl rfl (E.bk (E.ta 8 (E.u (IntKind.wrap .u32 (s.pc + (IntKind.wrap .u32 i.sz)))) rfl (E.ta 9 (E.pt g5) rfl (E.ta 10 (E.pj g5 24) rfl (E.ta 11 (E.pj g5 24) rfl ?_)))))))))))
  refine E.al 12 rfl (E.st 0 (K.wk (⟨s, ⟨(IntKind.wrap .u32 (s.pc + (IntKind.wrap .u32 i.sz))), s.r, s.f, s.c, s.st, s.du⟩, i, 0, 0⟩) m) rfl rfl (E.bk (E.H.done Nz.k (E.To.code (E.wk [(2, E.pt g1), (4, E.pt g2), (5, E.pt g3), (6, E.pt α), (8, E.pt g5)] [(g5, (K.wk (⟨s, ⟨(IntKind.wrap .u32 (s.pc + (IntKind.wrap .u32 i.sz))), s.r, s.f, s.c, s.st, s.du⟩, i, 0, 0⟩) m)), (α, (Zo5za i)), (g3, [E.i 0, E.u 0]), (g2, (Q.S.cells Q.z0)), (g1, (Q.S.cells s))] Nz.sub (E.sr (E.op (E.pt g5) (E.op (E.pt g5) (E.op (E.pj g5 24) (E.op (E.pj g5 46) (E.li (E.i s.st) 0 rfl rfl ?_)))))))))))
  refine E.op (E.i (IntKind.wrap .i64 (s.st + 1))) (E.op (E.pt g5) (E.op (E.pj g5 24) (E.op (E.pj g5 46) (E.st 0 (K.wk (K.w0 s i) m) rfl rfl (E.To.code (E.wk [(2, E.pt g1), (4, E.pt g2), (5, E.pt g3), (6, E.pt α), (8, E.pt g5)] [(g5, (K.wk (K.w0 s i) m)), (α, (Zo5za i)), (g3, [E.i 0, E.u 0]), (g2, (Q.S.cells Q.z0)), (g1, (Q.S.cells s))] Nz.sub (E.C.seq (E.sr (E.op (E.pt α) (E.li (E.i i.op) 1 rfl rfl (E.op (E.i i.op) ?_)))))))))))
  refine E.To.code (E.C.jn (fun J up dn => ?_))
  have rest : ∀ (y : K.W × M.V), K.stepI i k t s V = (bif (y.1.k != 0) then (s, y.1.k, y.1.t, y.2) else (y.1.s, y.1.k, y.1.t, y.2)) → J [(2, E.pt g1), (4, E.pt g2), (5, E.pt g3), (8, E.pt g5)] (A.X w oo aa [M.It m y.2 xs]) [(g5, (K.wk y.1 m)), (g3, [E.i 0, E.u 0]), (g2, (Q.S.cells Q.z0)), (g1, (Q.S.cells s))] := by
   intro y hy
   refine up _ _ _ (E.C.seq (E.sr (E.op (E.pt g5) (E.op (E.pt g5) (E.op (E.pj g5 55) (E.op (E.pj g5 55) (E.li (E.i y.1.k) 0 rfl rfl (E.op (.bool (y.1.k != 0)) (E.To.code (E.cd (y.1.k != 0) (fun hc6 => ?_) (fun hc6 => ?_)))))))))))
   ·
    refine E.C.seq (E.C.held (E.Hp (oo) w (A.X w oo aa [M.It m y.2 xs]) [(g5, (K.wk y.1 m)), (g1, (Q.S.cells s))]) Nz.k (E.tb 0 (Q.S.val s) rfl (fun w h => E.run_load h 1 rfl rfl Nz.k) (E.ta 1 (E.pt g5) rfl (E.ta 2 (E.pt g5) rfl (E.ta 3 (E.pj g5 55) rfl (E.tb 4 (.agg #[E.i y.1.k, E.u y.1.t]) rfl (fun w h => E.run_load h 0 rfl rfl Nz.k) (E.al 5 rfl (E.st 2 (Q.S.cells s) rfl rfl (E.bk (E.al 6 rfl (E.st 1 [E.i y.1.k, E.u y.1.t] rfl rfl ?_)))))))))))
    refine E.bk (E.H.done Nz.k (E.To.code (E.wk [(4, E.pt g2), (5, E.pt g3), (8, E.pt g5)] [(g5, (K.wk y.1 m)), (g3, [E.i y.1.k, E.u y.1.t]), (g2, (Q.S.cells s))] Nz.sub (E.C.ret (E.P.rt (E.To.body (fn := Tryz.f20) [Q.S.val s, .agg #[E.i y.1.k, E.u y.1.t]] ?_ ?_))))))
    · exact ⟨⟨Nz.k, _, _, 2, _, rfl, rfl, Nz.k⟩, ⟨Nz.k, _, _, 1, _, rfl, rfl, Nz.k⟩, trivial⟩
    intro w h
    have e : (K.stepI i k t s V) = (s, y.1.k, y.1.t, y.2) := by rw [hy, hc6, N1]
    rw [e]
    exact ⟨(), trivial, rfl, A.dq [3] [0, 1, 2] h⟩
   refine E.C.skip (E.To.code (E.C.seq (E.C.held (E.Hp (oo) w (A.X w oo aa [M.It m y.2 xs]) [(g5, (K.wk y.1 m)), (g1, (Q.S.cells s))]) Nz.k (E.ta 0 (E.pt g5) rfl (E.ta 1 (E.pt g5) rfl (E.ta 2 (E.pj g5 24) rfl (E.tb 3 (Q.S.val y.1.s) rfl (fun w h => E.run_load h 0 rfl rfl Nz.k) (E.ta 4 (E.pt g5) rfl (E.ta 5 (E.pt g5) rfl (E.ta 6 (E.pj g5 55) rfl (E.tb 7 (.agg #[E.i y.1.k, E.u y.1.t]) rfl (fun w h => E.run_load h 0 rfl rfl Nz.k) (E.al 8 rfl ?_))))))))))))
   refine E.st 2 (Q.S.cells y.1.s) rfl rfl (E.bk (E.al 9 rfl (E.st 1 [E.i y.1.k, E.u y.1.t] rfl rfl (E.bk (E.H.done Nz.k (E.To.code (E.wk [(4, E.pt g2), (5, E.pt g3)] [(g3, [E.i y.1.k, E.u y.1.t]), (g2, (Q.S.cells y.1.s))] Nz.sub (E.C.ret (E.To.body (fn := Tryz.f20) [Q.S.val y.1.s, .agg #[E.i y.1.k, E.u y.1.t]] ?_ ?_)))))))))
   · exact ⟨⟨Nz.k, _, _, 1, _, rfl, rfl, Nz.k⟩, ⟨Nz.k, _, _, 0, _, rfl, rfl, Nz.k⟩, trivial⟩
   intro w h
   have e : (K.stepI i k t s V) = (y.1.s, y.1.k, y.1.t, y.2) := by rw [hy, hc6, N0]
   rw [e]
   exact ⟨(), trivial, rfl, A.dq [2] [0, 1] h⟩
  refine E.C.block (E.sr (E.op (E.i i.op) (E.op (.bool (decide (i.op ≥ 32))) (E.op (.bool (decide (i.op ≥ 32))) (E.G.cut 3 [(2, E.pt g1), (4, E.pt g2), (5, E.pt g3), (6, E.pt α), (8, E.pt g5), (9, E.i i.op), (66, .bool ((decide (i.op ≥ 32)) && (decide (i.op ≤ 46))))] (A.X w oo aa [M.It m V xs]) [(g5, (K.wk (K.w0 s i) m)), (α, (Zo5za i)), (g3, [E.i 0, E.u 0]), (g2, (Q.S.cells Q.z0)), (g1, (Q.S.cells s))] ?_ ?_)))))
  ·
   generalize hc7 : (decide (i.op ≥ 32)) = b8
   cases b8
   ·
    exact E.sk (E.sk (E.op (.bool false) E.ep))
   exact E.op (E.i i.op) (E.op (.bool (decide (i.op ≤ 46))) (E.op (.bool (decide (i.op ≤ 46))) E.ep))
  refine E.op (.bool ((decide (i.op ≥ 32)) && (decide (i.op ≤ 46)))) (E.To.code (E.cd ((decide (i.op ≥ 32)) && (decide (i.op ≤ 46))) (fun hc9 => ?_) (fun hc9 => ?_)))
  ·
   exact E.C.region (E.op (E.pt g5) (E.op (E.i i.op) (E.op (E.pj α 2) (E.li (E.i i.s) 1 rfl rfl (E.op (E.pj g1 1) (E.vl (E.pj g1 (1 + (i.s).toNat)) (fun w h => E.idxI (e := 22) g1 1 16 .i64 i.s Nz.k Nz.k Nz.k Nz.k (by have := (hi (K.eq0 hc4)).s; omega) w) (E.vl (E.u (s.r ((i.s).toNat))) (fun w h => E.run_load h 4 rfl rfl (Q.ld_r Nz.k (by have := (hi (K.eq0 hc4)).s; omega))) (A.gc (fun _ => .tuple #[]) (Arith_w (b := g5) (m := m) (K.w0 s i) i.op (s.r ((i.s).toNat)) (K.rg0 hc9) (hs.r _) (K.w0_wf hs) (hi (K.eq0 hc4))) [0] [1, 2, 3, 4, 5] [0, 1, 2, 3, 4, 5] (fun _ => [(g5, (K.wk (K.arith (K.w0 s i) i.op (s.r ((i.s).toNat))) m)), (α, (Zo5za i)), (g3, [E.i 0, E.u 0]), (g2, (Q.S.cells Q.z0)), (g1, (Q.S.cells s))]) (fun _ => [M.It m V xs]) (fun _ hd10 => E.P.nb (fun a w h1 h2 => dn _ _ _ (rest (K.arith (K.w0 s i) i.op (s.r ((i.s).toNat)), V) (by unfold K.stepI; rw [hc4, N0, hc9, N1] <;> rfl)) a w (h1.sub ⟨Nz.k, Nz.k⟩) (h2.less Nz.sub)))))))))))
  refine E.sr (E.op (E.i i.op) (E.op (.bool (decide (i.op ≥ 48))) (E.op (.bool (decide (i.op ≥ 48))) (E.G.cut 3 [(2, E.pt g1), (4, E.pt g2), (5, E.pt g3), (6, E.pt α), (8, E.pt g5), (9, E.i i.op), (81, .bool ((decide (i.op ≥ 48)) && (decide (i.op ≤ 62))))] (A.X w oo aa [M.It m V xs]) [(g5, (K.wk (K.w0 s i) m)), (α, (Zo5za i)), (g3, [E.i 0, E.u 0]), (g2, (Q.S.cells Q.z0)), (g1, (Q.S.cells s))] ?_ ?_))))
  ·
   generalize hc11 : (decide (i.op ≥ 48)) = b12
   cases b12
   ·
    exact E.sk (E.sk (E.op (.bool false) E.ep))
   exact E.op (E.i i.op) (E.op (.bool (decide (i.op ≤ 62))) (E.op (.bool (decide (i.op ≤ 62))) E.ep))
  refine E.op (.bool ((decide (i.op ≥ 48)) && (decide (i.op ≤ 62)))) (E.To.code (E.cd ((decide (i.op ≥ 48)) && (decide (i.op ≤ 62))) (fun hc13 => ?_) (fun hc13 => ?_)))
  ·
   exact E.C.region (E.op (E.pt g5) (E.op (E.i i.op) (E.op (E.i (IntKind.wrap .i64 (i.op - 16))) (E.op (E.pj α 5) (E.li (E.u i.imm) 1 rfl rfl (A.gc (fun _ => .tuple #[]) (Arith_w (b := g5) (m := m) (K.w0 s i) (IntKind.wrap .i64 (i.op - 16)) i.imm (K.rng16 hc13) (hi (K.eq0 hc4)).imm (K.w0_wf hs) (hi (K.eq0 hc4))) [0] [1, 2, 3, 4, 5] [0, 1, 2, 3, 4, 5] (fun _ => [(g5, (K.wk (K.arith (K.w0 s i) (IntKind.wrap .i64 (i.op - 16)) i.imm) m)), (α, (Zo5za i)), (g3, [E.i 0, E.u 0]), (g2, (Q.S.cells Q.z0)), (g1, (Q.S.cells s))]) (fun _ => [M.It m V xs]) (fun _ hd14 => E.P.nb (fun a w h1 h2 => dn _ _ _ (rest (K.arith (K.w0 s i) (IntKind.wrap .i64 (i.op - 16)) i.imm, V) (by unfold K.stepI; rw [hc4, N0, hc9, N0, hc13, N1] <;> rfl)) a w (h1.sub ⟨Nz.k, Nz.k⟩) (h2.less Nz.sub)))))))))
  refine E.sr (E.op (E.i i.op) (E.op (.bool (decide (i.op ≥ 64))) (E.op (.bool (decide (i.op ≥ 64))) (E.G.cut 3 [(2, E.pt g1), (4, E.pt g2), (5, E.pt g3), (6, E.pt α), (8, E.pt g5), (9, E.i i.op), (94, .bool ((decide (i.op ≥ 64)) && (decide (i.op ≤ 78))))] (A.X w oo aa [M.It m V xs]) [(g5, (K.wk (K.w0 s i) m)), (α, (Zo5za i)), (g3, [E.i 0, E.u 0]), (g2, (Q.S.cells Q.z0)), (g1, (Q.S.cells s))] ?_ ?_))))
  ·
   generalize hc15 : (decide (i.op ≥ 64)) = b16
   cases b16
   ·
    exact E.sk (E.sk (E.op (.bool false) E.ep))
   exact E.op (E.i i.op) (E.op (.bool (decide (i.op ≤ 78))) (E.op (.bool (decide (i.op ≤ 78))) E.ep))
  refine E.op (.bool ((decide (i.op ≥ 64)) && (decide (i.op ≤ 78)))) (E.To.code (E.cd ((decide (i.op ≥ 64)) && (decide (i.op ≤ 78))) (fun hc17 => ?_) (fun hc17 => ?_)))
  ·
   exact E.C.region (E.op (E.pt g5) (E.op (E.i i.op) (E.op (E.i (IntKind.wrap .i64 (i.op - 32))) (E.op (E.pj α 5) (E.li (E.u i.imm) 1 rfl rfl (A.gc (fun _ => .tuple #[]) (Arith_w (b := g5) (m := m) (K.w0 s i) (IntKind.wrap .i64 (i.op - 32)) i.imm (K.rng32 hc17) (hi (K.eq0 hc4)).imm (K.w0_wf hs) (hi (K.eq0 hc4))) [0] [1, 2, 3, 4, 5] [0, 1, 2, 3, 4, 5] (fun _ => [(g5, (K.wk (K.arith (K.w0 s i) (IntKind.wrap .i64 (i.op - 32)) i.imm) m)), (α, (Zo5za i)), (g3, [E.i 0, E.u 0]), (g2, (Q.S.cells Q.z0)), (g1, (Q.S.cells s))]) (fun _ => [M.It m V xs]) (fun _ hd18 => E.P.nb (fun a w h1 h2 => dn _ _ _ (rest (K.arith (K.w0 s i) (IntKind.wrap .i64 (i.op - 32)) i.imm, V) (by unfold K.stepI; rw [hc4, N0, hc9, N0, hc13, N0, hc17, N1] <;> rfl)) a w (h1.sub ⟨Nz.k, Nz.k⟩) (h2.less Nz.sub)))))))))
  refine E.sr (E.op (E.i i.op) (E.op (.bool (decide (i.op ≥ 80))) (E.op (.bool (decide (i.op ≥ 80))) (E.G.cut 3 [(2, E.pt g1), (4, E.pt g2), (5, E.pt g3), (6, E.pt α), (8, E.pt g5), (9, E.i i.op), (107, .bool ((decide (i.op ≥ 80)) && (decide (i.op ≤ 86))))] (A.X w oo aa [M.It m V xs]) [(g5, (K.wk (K.w0 s i) m)), (α, (Zo5za i)), (g3, [E.i 0, E.u 0]), (g2, (Q.S.cells Q.z0)), (g1, (Q.S.cells s))] ?_ ?_))))
  ·
   generalize hc19 : (decide (i.op ≥ 80)) = b20
   cases b20
   ·
    exact E.sk (E.sk (E.op (.bool false) E.ep))
   exact E.op (E.i i.op) (E.op (.bool (decide (i.op ≤ 86))) (E.op (.bool (decide (i.op ≤ 86))) E.ep))
  refine E.op (.bool ((decide (i.op ≥ 80)) && (decide (i.op ≤ 86)))) (E.To.code (E.cd ((decide (i.op ≥ 80)) && (decide (i.op ≤ 86))) (fun hc21 => ?_) (fun hc21 => ?_)))
  ·
   exact E.C.region (E.op (E.pt g5) (E.op (E.i i.op) (A.gc (fun _ => .tuple #[]) (Access_w (b := g5) (m := m) (xs := xs) (K.w0 s i) V i.op (K.w0_wf hs) (hi (K.eq0 hc4)) hV) [0, 5] [1, 2, 3, 4] [0, 2, 3, 4, 5, 1] (fun _ => [(g5, (K.wk ((K.access (K.w0 s i) V i.op).1) m)), (α, (Zo5za i)), (g3, [E.i 0, E.u 0]), (g2, (Q.S.cells Q.z0)), (g1, (Q.S.cells s))]) (fun _ => [M.It m ((K.access (K.w0 s i) V i.op).2) xs]) (fun _ hd22 => E.P.nb (fun a w h1 h2 => dn _ _ _ (rest ((K.access (K.w0 s i) V i.op).1, (K.access (K.w0 s i) V i.op).2) (by unfold K.stepI; rw [hc4, N0, hc9, N0, hc13, N0, hc17, N0, hc21, N1] <;> rfl)) a w (h1.sub ⟨Nz.k, Nz.k⟩) (h2.less Nz.sub))))))
  refine E.sr (E.op (E.i i.op) (E.op (.bool (decide (i.op ≥ 88))) (E.op (.bool (decide (i.op ≥ 88))) (E.G.cut 3 [(2, E.pt g1), (4, E.pt g2), (5, E.pt g3), (6, E.pt α), (8, E.pt g5), (9, E.i i.op), (117, .bool ((decide (i.op ≥ 88)) && (decide (i.op ≤ 94))))] (A.X w oo aa [M.It m V xs]) [(g5, (K.wk (K.w0 s i) m)), (α, (Zo5za i)), (g3, [E.i 0, E.u 0]), (g2, (Q.S.cells Q.z0)), (g1, (Q.S.cells s))] ?_ ?_))))
  ·
   generalize hc23 : (decide (i.op ≥ 88)) = b24
   cases b24
   ·
    exact E.sk (E.sk (E.op (.bool false) E.ep))
   exact E.op (E.i i.op) (E.op (.bool (decide (i.op ≤ 94))) (E.op (.bool (decide (i.op ≤ 94))) E.ep))
  refine E.op (.bool ((decide (i.op ≥ 88)) && (decide (i.op ≤ 94)))) (E.To.code (E.cd ((decide (i.op ≥ 88)) && (decide (i.op ≤ 94))) (fun hc25 => ?_) (fun hc25 => ?_)))
  ·
   exact E.C.region (E.op (E.pt g5) (E.op (E.i i.op) (E.op (E.i (Zo5zd i)) (A.gc (fun _ => .tuple #[]) (Access_w (b := g5) (m := m) (xs := xs) (K.w0 s i) V (Zo5zd i) (K.w0_wf hs) (hi (K.eq0 hc4)) hV) [0, 5] [1, 2, 3, 4] [0, 2, 3, 4, 5, 1] (fun _ => [(g5, (K.wk ((K.access (K.w0 s i) V (Zo5zd i)).1) m)), (α, (Zo5za i)), (g3, [E.i 0, E.u 0]), (g2, (Q.S.cells Q.z0)), (g1, (Q.S.cells s))]) (fun _ => [M.It m ((K.access (K.w0 s i) V (Zo5zd i)).2) xs]) (fun _ hd26 => E.P.nb (fun a w h1 h2 => dn _ _ _ (rest ((K.access (K.w0 s i) V (Zo5zd i)).1, (K.access (K.w0 s i) V (Zo5zd i)).2) (by unfold K.stepI; rw [hc4, N0, hc9, N0, hc13, N0, hc17, N0, hc21, N0, hc25, N1] <;> rfl)) a w (h1.sub ⟨Nz.k, Nz.k⟩) (h2.less Nz.sub)))))))
  refine E.sr (E.op (E.i i.op) (E.op (.bool (decide (i.op ≥ 16))) (E.op (.bool (decide (i.op ≥ 16))) (E.G.cut 3 [(2, E.pt g1), (4, E.pt g2), (5, E.pt g3), (6, E.pt α), (8, E.pt g5), (9, E.i i.op), (128, .bool ((decide (i.op ≥ 16)) && (decide (i.op ≤ 21))))] (A.X w oo aa [M.It m V xs]) [(g5, (K.wk (K.w0 s i) m)), (α, (Zo5za i)), (g3, [E.i 0, E.u 0]), (g2, (Q.S.cells Q.z0)), (g1, (Q.S.cells s))] ?_ ?_))))
  ·
   generalize hc27 : (decide (i.op ≥ 16)) = b28
   cases b28
   ·
    exact E.sk (E.sk (E.op (.bool false) E.ep))
   exact E.op (E.i i.op) (E.op (.bool (decide (i.op ≤ 21))) (E.op (.bool (decide (i.op ≤ 21))) E.ep))
  refine E.op (.bool ((decide (i.op ≥ 16)) && (decide (i.op ≤ 21)))) (E.To.code (E.cd ((decide (i.op ≥ 16)) && (decide (i.op ≤ 21))) (fun hc29 => ?_) (fun hc29 => ?_)))
  ·
   exact E.C.region (E.op (E.pt g5) (A.gc (fun _ => .tuple #[]) (Single_w (b := g5) (m := m) (xs := xs) (K.w0 s i) V (K.w0_wf hs) (hi (K.eq0 hc4)) hV) [0, 5] [1, 2, 3, 4] [0, 2, 3, 4, 5, 1] (fun _ => [(g5, (K.wk ((K.single (K.w0 s i) V).1) m)), (α, (Zo5za i)), (g3, [E.i 0, E.u 0]), (g2, (Q.S.cells Q.z0)), (g1, (Q.S.cells s))]) (fun _ => [M.It m ((K.single (K.w0 s i) V).2) xs]) (fun _ hd30 => E.P.nb (fun a w h1 h2 => dn _ _ _ (rest ((K.single (K.w0 s i) V).1, (K.single (K.w0 s i) V).2) (by unfold K.stepI; rw [hc4, N0, hc9, N0, hc13, N0, hc17, N0, hc21, N0, hc25, N0, hc29, N1] <;> rfl)) a w (h1.sub ⟨Nz.k, Nz.k⟩) (h2.less Nz.sub)))))
  refine E.sr (E.op (E.i i.op) (E.op (.bool (decide (i.op ≥ 96))) (E.op (.bool (decide (i.op ≥ 96))) (E.G.cut 3 [(2, E.pt g1), (4, E.pt g2), (5, E.pt g3), (6, E.pt α), (8, E.pt g5), (9, E.i i.op), (137, .bool ((decide (i.op ≥ 96)) && (decide (i.op < 110))))] (A.X w oo aa [M.It m V xs]) [(g5, (K.wk (K.w0 s i) m)), (α, (Zo5za i)), (g3, [E.i 0, E.u 0]), (g2, (Q.S.cells Q.z0)), (g1, (Q.S.cells s))] ?_ ?_))))
  ·
   generalize hc31 : (decide (i.op ≥ 96)) = b32
   cases b32
   ·
    exact E.sk (E.sk (E.op (.bool false) E.ep))
   exact E.op (E.i i.op) (E.op (.bool (decide (i.op < 110))) (E.op (.bool (decide (i.op < 110))) E.ep))
  refine E.op (.bool ((decide (i.op ≥ 96)) && (decide (i.op < 110)))) (E.To.code (E.cd ((decide (i.op ≥ 96)) && (decide (i.op < 110))) (fun hc33 => ?_) (fun hc33 => ?_)))
  ·
   refine E.sr (E.op (E.i i.op) (E.op (E.i (IntKind.wrap .i64 (i.op - 96))) (E.op (E.pj g1 17) (E.li (E.u s.f) 4 rfl rfl (E.ca (.bool (W.cond (IntKind.wrap .i64 (i.op - 96)) s.f)) (fun w h => Cond_any (IntKind.wrap .i64 (i.op - 96)) s.f w) (E.To.code (E.cd (W.cond (IntKind.wrap .i64 (i.op - 96)) s.f) (fun hc34 => ?_) (fun hc34 => ?_))))))))
   ·
    refine E.C.held (E.Hp (oo) w (A.X w oo aa [M.It m V xs]) [(α, (Zo5za i)), (g3, [E.i 0, E.u 0]), (g2, (Q.S.cells Q.z0)), (g1, (Q.S.cells s))]) Nz.k (E.ta 0 (E.pt g5) rfl (E.ta 1 (E.pt g5) rfl (E.ta 2 (E.pj g5 24) rfl (E.ta 3 (E.pj g5 24) rfl (E.ta 5 (E.pj α 5) rfl (E.tb 6 (E.u i.imm) rfl (fun w h => E.run_load h 0 rfl rfl Nz.k) (E.al 4 rfl (E.li (E.u (((K.w0 s i).s).pc)) 0 rfl rfl (E.bk (E.ta 7 (E.u (IntKind.wrap .u32 ((((K.w0 s i).s).pc) + i.imm))) rfl (E.ta 8 (E.pt g5) rfl ?_)))))))))))
    exact E.ta 9 (E.pj g5 24) rfl (E.ta 10 (E.pj g5 24) rfl (E.al 11 rfl (E.st 0 (K.wk (⟨((K.w0 s i).u), ⟨(IntKind.wrap .u32 ((((K.w0 s i).s).pc) + i.imm)), ((K.w0 s i).s).r, ((K.w0 s i).s).f, ((K.w0 s i).s).c, ((K.w0 s i).s).st, ((K.w0 s i).s).du⟩, ((K.w0 s i).i), (K.w0 s i).k, (K.w0 s i).t⟩) m) rfl rfl (E.bk (E.H.done Nz.k (E.P.nb (fun a w h1 h2 => dn _ _ _ (rest (⟨((K.w0 s i).u), ⟨(IntKind.wrap .u32 ((((K.w0 s i).s).pc) + i.imm)), ((K.w0 s i).s).r, ((K.w0 s i).s).f, ((K.w0 s i).s).c, ((K.w0 s i).s).st, ((K.w0 s i).s).du⟩, ((K.w0 s i).i), (K.w0 s i).k, (K.w0 s i).t⟩, V) (by unfold K.stepI; rw [hc4, N0, hc9, N0, hc13, N0, hc17, N0, hc21, N0, hc25, N0, hc29, N0, hc33, N1, hc34, N1] <;> rfl)) a w (h1.sub ⟨Nz.k, Nz.k⟩) (h2.less Nz.sub))))))))
   exact E.C.skip (E.P.nb (fun a w h1 h2 => dn _ _ _ (rest (K.w0 s i, V) (by unfold K.stepI; rw [hc4, N0, hc9, N0, hc13, N0, hc17, N0, hc21, N0, hc25, N0, hc29, N0, hc33, N1, hc34, N0] <;> rfl)) a w (h1.sub ⟨Nz.k, Nz.k⟩) (h2.less Nz.sub)))
  exact E.C.region (E.op (E.pt g5) (A.gc (fun _ => .tuple #[]) (Control_w (b := g5) (m := m) (xs := xs) (K.w0 s i) V (K.w0_wf hs) (hi (K.eq0 hc4)) hV) [0, 5] [1, 2, 3, 4] [0, 2, 3, 4, 5, 1] (fun _ => [(g5, (K.wk ((K.control (K.w0 s i) V).1) m)), (α, (Zo5za i)), (g3, [E.i 0, E.u 0]), (g2, (Q.S.cells Q.z0)), (g1, (Q.S.cells s))]) (fun _ => [M.It m ((K.control (K.w0 s i) V).2) xs]) (fun _ hd35 => E.P.nb (fun a w h1 h2 => dn _ _ _ (rest ((K.control (K.w0 s i) V).1, (K.control (K.w0 s i) V).2) (by unfold K.stepI; rw [hc4, N0, hc9, N0, hc13, N0, hc17, N0, hc21, N0, hc25, N0, hc29, N0, hc33, N0] <;> rfl)) a w (h1.sub ⟨Nz.k, Nz.k⟩) (h2.less Nz.sub)))))
 have nd3 : ∀ (α β : Nat), H 1 (E.bits 13 4095) [(1, .iface 35 (E.pt m)), (2, E.pt g1), (4, E.pt g2), (5, E.pt g3), (6, E.pt α), (7, E.pt β), (18, .agg #[E.i k, E.u t])] (A.X w oo aa [M.It m V xs]) [(α, (Zo5za i)), (β, [E.i 0, E.u 0]), (g3, [E.i 0, E.u 0]), (g2, (Q.S.cells Q.z0)), (g1, (Q.S.cells s))] := by
  intro α β
  exact up _ _ _ _ _ (E.al 12 rfl (E.st 1 [E.i k, E.u t] rfl rfl (E.H.back (fun w h => A.hq [2, 3, 4] [0, 1, 5] h) (E.ho (dn _ _ _ _ _ (nd4 α β))))))
 have nd2 : ∀ (α β : Nat), H 2 (E.bits 13 2047) [(1, .iface 35 (E.pt m)), (2, E.pt g1), (4, E.pt g2), (5, E.pt g3), (6, E.pt α), (7, E.pt β), (17, .agg (Zo5zb i)), (18, .agg #[E.i k, E.u t])] (A.X w oo aa [M.It m V xs]) [(α, Zo5zc), (β, [E.i 0, E.u 0]), (g3, [E.i 0, E.u 0]), (g2, (Q.S.cells Q.z0)), (g1, (Q.S.cells s))] := by
  intro α β
  exact up _ _ _ _ _ (E.al 11 rfl (E.st 0 (Zo5za i) rfl rfl (E.H.back (fun w h => A.hq [2, 3, 4] [0, 1, 5] h) (E.ho (dn _ _ _ _ _ (nd3 α β))))))
 have nd1 : ∀ (α : Nat), H 3 (E.bits 13 1023) [(1, .iface 35 (E.pt m)), (2, E.pt g1), (4, E.pt g2), (5, E.pt g3), (6, E.pt α), (17, .agg (Zo5zb i)), (18, .agg #[E.i k, E.u t])] (A.X w oo aa [M.It m V xs]) [(α, Zo5zc), (g3, [E.i 0, E.u 0]), (g2, (Q.S.cells Q.z0)), (g1, (Q.S.cells s))] := by
  intro α
  exact up _ _ _ _ _ (E.al 10 rfl (E.nw [E.i 0, E.u 0] 47 (fun β => E.H.back (fun w h => A.hq [2, 3, 4] [0, 1, 5] h) (E.H.toP _ _ [(α, Zo5zc), (β, [E.i 0, E.u 0]), (g3, [E.i 0, E.u 0]), (g2, (Q.S.cells Q.z0)), (g1, (Q.S.cells s))] Nz.k ⟨Nz.k, Nz.k⟩ (A.pn [1, 0, 2, 3, 4]) (dn _ _ _ _ _ (nd2 α β))))))
 have nd5 : ∀ (β : Nat), H 3 (E.bits 13 1535) [(1, .iface 35 (E.pt m)), (2, E.pt g1), (4, E.pt g2), (5, E.pt g3), (7, E.pt β), (17, .agg (Zo5zb i)), (18, .agg #[E.i k, E.u t])] (A.X w oo aa [M.It m V xs]) [(β, [E.i 0, E.u 0]), (g3, [E.i 0, E.u 0]), (g2, (Q.S.cells Q.z0)), (g1, (Q.S.cells s))] := by
  intro β
  exact up _ _ _ _ _ (E.al 9 rfl (E.nw Zo5zc 66 (fun α => E.H.back (fun w h => A.hq [2, 3, 4] [0, 1, 5] h) (E.ho (dn _ _ _ _ _ (nd2 α β))))))
 have nd0 : H 7 (E.bits 13 63) [(1, .iface 35 (E.pt m)), (2, E.pt g1), (4, E.pt g2), (5, E.pt g3), (16, .tuple #[.agg (Zo5zb i), .agg #[E.i k, E.u t]])] (A.X w oo aa [M.It m V xs]) [(g3, [E.i 0, E.u 0]), (g2, (Q.S.cells Q.z0)), (g1, (Q.S.cells s))] := by
  refine up _ _ _ _ _ (E.tk 6 (.tuple #[.agg (Zo5zb i), .agg #[E.i k, E.u t]]) rfl (fun w h => A.hpY0 h Nz.k) (E.tk 7 (.agg (Zo5zb i)) rfl (fun w h => A.hpY0 h Nz.k) (E.tk 8 (.agg #[E.i k, E.u t]) rfl (fun w h => A.hpY0 h Nz.k) (E.al2 9 10 rfl rfl ?_ ?_))))
  ·
   exact E.nw Zo5zc 66 (fun α => E.H.back (fun w h => A.hq [1, 2, 3] [0, 4] h) (E.ho (dn _ _ _ _ _ (nd1 α))))
  exact E.nw [E.i 0, E.u 0] 47 (fun β => E.H.back (fun w h => A.hq [1, 2, 3] [0, 4] h) (E.ho (dn _ _ _ _ _ (nd5 β))))
 have nd7 : ∀ (α : Nat), H 6 (E.bits 13 575) [(1, .iface 35 (E.pt m)), (2, E.pt g1), (4, E.pt g2), (5, E.pt g3), (6, E.pt α), (16, .tuple #[.agg (Zo5zb i), .agg #[E.i k, E.u t]])] (A.X w oo aa [M.It m V xs]) [(α, Zo5zc), (g3, [E.i 0, E.u 0]), (g2, (Q.S.cells Q.z0)), (g1, (Q.S.cells s))] := by
  intro α
  exact up _ _ _ _ _ (E.tk 6 (.tuple #[.agg (Zo5zb i), .agg #[E.i k, E.u t]]) rfl (fun w h => A.hq [1, 2, 3] [0, 4] h) (E.tk 7 (.agg (Zo5zb i)) rfl (fun w h => A.hq [1, 2, 3] [0, 4] h) (E.tk 8 (.agg #[E.i k, E.u t]) rfl (fun w h => A.hq [1, 2, 3] [0, 4] h) (E.al 10 rfl (E.nw [E.i 0, E.u 0] 47 (fun β => E.H.back (fun w h => A.hq [2, 3, 4] [0, 1, 5] h) (E.H.toP _ _ [(α, Zo5zc), (β, [E.i 0, E.u 0]), (g3, [E.i 0, E.u 0]), (g2, (Q.S.cells Q.z0)), (g1, (Q.S.cells s))] Nz.k ⟨Nz.k, Nz.k⟩ (A.pn [1, 0, 2, 3, 4]) (dn _ _ _ _ _ (nd2 α β)))))))))
 have nd9 : ∀ (α β : Nat), H 5 (E.bits 13 1599) [(1, .iface 35 (E.pt m)), (2, E.pt g1), (4, E.pt g2), (5, E.pt g3), (6, E.pt α), (7, E.pt β), (16, .tuple #[.agg (Zo5zb i), .agg #[E.i k, E.u t]])] (A.X w oo aa [M.It m V xs]) [(α, Zo5zc), (β, [E.i 0, E.u 0]), (g3, [E.i 0, E.u 0]), (g2, (Q.S.cells Q.z0)), (g1, (Q.S.cells s))] := by
  intro α β
  exact up _ _ _ _ _ (E.tk 6 (.tuple #[.agg (Zo5zb i), .agg #[E.i k, E.u t]]) rfl (fun w h => A.hq [2, 3, 4] [0, 1, 5] h) (E.tk 7 (.agg (Zo5zb i)) rfl (fun w h => A.hq [2, 3, 4] [0, 1, 5] h) (E.tk 8 (.agg #[E.i k, E.u t]) rfl (fun w h => A.hq [2, 3, 4] [0, 1, 5] h) (E.al 11 rfl (E.st 0 (Zo5za i) rfl rfl (E.H.back (fun w h => A.hq [2, 3, 4] [0, 1, 5] h) (E.ho (dn _ _ _ _ _ (nd3 α β)))))))))
 have nd8 : ∀ (α β : Nat), H 6 (E.bits 13 1567) [(1, .iface 35 (E.pt m)), (2, E.pt g1), (4, E.pt g2), (5, E.pt g3), (6, E.pt α), (7, E.pt β), (12, E.u s.pc), (15, .func (.method "Fetch") #[.iface 35 (E.pt m)] #[])] (A.X w oo aa [M.It m V xs]) [(α, Zo5zc), (β, [E.i 0, E.u 0]), (g3, [E.i 0, E.u 0]), (g2, (Q.S.cells Q.z0)), (g1, (Q.S.cells s))] := by
  intro α β
  exact up _ _ _ _ _ (E.al 5 rfl (E.ca (.tuple #[.agg (Zo5zb i), .agg #[E.i k, E.u t]]) (fun w h => A.cq [5] [0, 1, 2, 3, 4] (A.rdAs (v' := .tuple #[.agg (Zo5zb i), .agg #[E.i k, E.u t]]) (Fetch_rd (m := m) (xs := xs) V s.pc hs.pc) (by rw [hf] <;> rfl)) h) (E.H.back (fun w h => A.hq [2, 3, 4] [0, 1, 5] h) (E.ho (dn _ _ _ _ _ (nd9 α β))))))
 have nd6 : ∀ (α : Nat), H 7 (E.bits 13 543) [(1, .iface 35 (E.pt m)), (2, E.pt g1), (4, E.pt g2), (5, E.pt g3), (6, E.pt α), (12, E.u s.pc), (15, .func (.method "Fetch") #[.iface 35 (E.pt m)] #[])] (A.X w oo aa [M.It m V xs]) [(α, Zo5zc), (g3, [E.i 0, E.u 0]), (g2, (Q.S.cells Q.z0)), (g1, (Q.S.cells s))] := by
  intro α
  refine up _ _ _ _ _ (E.al2 5 10 rfl rfl ?_ ?_)
  ·
   exact E.ca (.tuple #[.agg (Zo5zb i), .agg #[E.i k, E.u t]]) (fun w h => A.cq [4] [0, 1, 2, 3] (A.rdAs (v' := .tuple #[.agg (Zo5zb i), .agg #[E.i k, E.u t]]) (Fetch_rd (m := m) (xs := xs) V s.pc hs.pc) (by rw [hf] <;> rfl)) h) (E.H.back (fun w h => A.hq [1, 2, 3] [0, 4] h) (E.ho (dn _ _ _ _ _ (nd7 α))))
  exact E.nw [E.i 0, E.u 0] 47 (fun β => E.H.back (fun w h => A.hq [2, 3, 4] [0, 1, 5] h) (E.H.toP _ _ [(α, Zo5zc), (β, [E.i 0, E.u 0]), (g3, [E.i 0, E.u 0]), (g2, (Q.S.cells Q.z0)), (g1, (Q.S.cells s))] Nz.k ⟨Nz.k, Nz.k⟩ (A.pn [1, 0, 2, 3, 4]) (dn _ _ _ _ _ (nd8 α β))))
 have nd11 : ∀ (β : Nat), H 6 (E.bits 13 1087) [(1, .iface 35 (E.pt m)), (2, E.pt g1), (4, E.pt g2), (5, E.pt g3), (7, E.pt β), (16, .tuple #[.agg (Zo5zb i), .agg #[E.i k, E.u t]])] (A.X w oo aa [M.It m V xs]) [(β, [E.i 0, E.u 0]), (g3, [E.i 0, E.u 0]), (g2, (Q.S.cells Q.z0)), (g1, (Q.S.cells s))] := by
  intro β
  exact up _ _ _ _ _ (E.tk 6 (.tuple #[.agg (Zo5zb i), .agg #[E.i k, E.u t]]) rfl (fun w h => A.hq [1, 2, 3] [0, 4] h) (E.tk 7 (.agg (Zo5zb i)) rfl (fun w h => A.hq [1, 2, 3] [0, 4] h) (E.tk 8 (.agg #[E.i k, E.u t]) rfl (fun w h => A.hq [1, 2, 3] [0, 4] h) (E.al 9 rfl (E.nw Zo5zc 66 (fun α => E.H.back (fun w h => A.hq [2, 3, 4] [0, 1, 5] h) (E.ho (dn _ _ _ _ _ (nd2 α β)))))))))
 have nd10 : ∀ (β : Nat), H 7 (E.bits 13 1055) [(1, .iface 35 (E.pt m)), (2, E.pt g1), (4, E.pt g2), (5, E.pt g3), (7, E.pt β), (12, E.u s.pc), (15, .func (.method "Fetch") #[.iface 35 (E.pt m)] #[])] (A.X w oo aa [M.It m V xs]) [(β, [E.i 0, E.u 0]), (g3, [E.i 0, E.u 0]), (g2, (Q.S.cells Q.z0)), (g1, (Q.S.cells s))] := by
  intro β
  refine up _ _ _ _ _ (E.al2 5 9 rfl rfl ?_ ?_)
  ·
   exact E.ca (.tuple #[.agg (Zo5zb i), .agg #[E.i k, E.u t]]) (fun w h => A.cq [4] [0, 1, 2, 3] (A.rdAs (v' := .tuple #[.agg (Zo5zb i), .agg #[E.i k, E.u t]]) (Fetch_rd (m := m) (xs := xs) V s.pc hs.pc) (by rw [hf] <;> rfl)) h) (E.H.back (fun w h => A.hq [1, 2, 3] [0, 4] h) (E.ho (dn _ _ _ _ _ (nd11 β))))
  exact E.nw Zo5zc 66 (fun α => E.H.back (fun w h => A.hq [2, 3, 4] [0, 1, 5] h) (E.ho (dn _ _ _ _ _ (nd8 α β))))
 refine up _ _ _ _ _ (E.tk 0 (E.pt g1) rfl (fun w h => A.hpY0 h Nz.k) (E.tj 1 (E.u s.pc) rfl (fun w h => A.hpY0 h Nz.k) (fun w h => A.Y.bld h (k := 2) (j := 0) rfl Nz.k Nz.k) (E.tk 2 (.iface 35 (E.pt m)) rfl (fun w h => A.hpY0 h Nz.k) (E.tk 3 (.iface 35 (E.pt m)) rfl (fun w h => A.hpY0 h Nz.k) (E.tk 4 (.func (.method "Fetch") #[.iface 35 (E.pt m)] #[]) rfl (fun w h => A.hpY0 h Nz.k) (E.al3 5 9 10 rfl rfl rfl ?_ ?_ ?_))))))
 ·
  exact E.ca (.tuple #[.agg (Zo5zb i), .agg #[E.i k, E.u t]]) (fun w h => A.cq [3] [0, 1, 2] (A.rdAs (v' := .tuple #[.agg (Zo5zb i), .agg #[E.i k, E.u t]]) (Fetch_rd (m := m) (xs := xs) V s.pc hs.pc) (by rw [hf] <;> rfl)) h) (E.hb (dn _ _ _ _ _ (nd0)))
 ·
  exact E.nw Zo5zc 66 (fun α => E.H.back (fun w h => A.hq [1, 2, 3] [0, 4] h) (E.ho (dn _ _ _ _ _ (nd6 α))))
 exact E.nw [E.i 0, E.u 0] 47 (fun β => E.H.back (fun w h => A.hq [1, 2, 3] [0, 4] h) (E.ho (dn _ _ _ _ _ (nd10 β))))
theorem K.valid_ok {i : K.Ins} (hm : 0 ≤ i.imm ∧ i.imm < 4294967296) (h : K.valid i = true) : K.iok i := by
  have hr : K.rng i = true := by
    unfold K.valid at h
    split at h
    · exact Bool.noConfusion (show false = true from h)
    · unfold K.valid1 at h
      cases hq : K.rng i
      · rw [hq] at h; simp at h
      · rfl
  unfold K.rng at hr
  simp only [K.in_one, Bool.and_eq_true, decide_eq_true_eq] at hr
  obtain ⟨⟨a0, a1⟩, ⟨b0, b1⟩, ⟨c0, c1⟩, d0, d1⟩ := hr
  have hmo : K.most i.op ≤ 7 := by unfold K.most; split <;> (try split) <;> omega
  refine ⟨⟨a0, by omega⟩, ⟨b0, by omega⟩, ⟨c0, by omega⟩, ⟨d0, by omega⟩, hm, fun hg => ?_⟩
  have e : i.op = 129 := by simpa using hg
  rw [e] at b1
  have : K.most 129 = 3 := rfl
  omega
theorem K.decode_ok {s : ByteArray} (h : ((K.decode s).2 != 0) = false) : K.iok (K.decode s).1 := by
  unfold K.decode at h ⊢
  split at h
  · unfold K.decode0 at h
    cases hb : (s.toList == (⟨#[]⟩ : ByteArray).toList) <;> rw [hb] at h <;> cases h
  · next k hk =>
    show K.iok (K.decode1 k s).1
    unfold K.decode1 at h ⊢
    revert h
    refine Q.bifP (p := fun x : K.Ins × Int => (x.2 != 0) = false → K.iok x.1) (fun _ h => nomatch h) fun _ => ?_
    refine Q.bifP (p := fun x : K.Ins × Int => (x.2 != 0) = false → K.iok x.1) (fun _ h => nomatch h) fun _ => ?_
    refine Q.bifP (p := fun x : K.Ins × Int => (x.2 != 0) = false → K.iok x.1) (fun _ h => nomatch h) fun hv _ => ?_
    exact K.valid_ok (K.rd_imm k (K.fmt_lt hk) _ _) (by rw [Bool.not_eq_false'] at hv; exact hv)
theorem K.fetch_ok {V : M.V} {p : Int} (h : ((K.fetch V p).2.1 == 0) = true) : K.iok (K.fetch V p).1 := by
  unfold K.fetch at h ⊢
  revert h
  repeat' (first
    | (exact fun h => absurd h (by decide : ¬ (((5 : Int) == 0) = true)))
    | (exact fun h => absurd h (by decide : ¬ (((7 : Int) == 0) = true)))
    | (refine Q.bifP (p := fun x : K.Ins × Int × Int => (x.2.1 == 0) = true → K.iok x.1) (fun _ h => absurd h (by decide : ¬ (((7 : Int) == 0) = true))) (fun hd _ => K.decode_ok hd))
    | (refine Q.bifP (p := fun x : K.Ins × Int × Int => (x.2.1 == 0) = true → K.iok x.1) (fun _ => ?_) (fun _ => ?_)))
theorem Q.wf_sto {V : M.V} (h : R.Wf V) (a : Nat) (n v : Int) : R.Wf (V.sto a n v) := by
  unfold M.V.sto; split
  · exact h.put _ _ _
  · exact h
abbrev K.wf2 (y : K.W × M.V) : Prop := K.wf y.1 ∧ R.Wf y.2
section
variable {x : K.W} {V : M.V} (hx : K.wf x) (hV : R.Wf V)
theorem K.wf.pc (hx : K.wf x) {p : Int} (hp : 0 ≤ p ∧ p < 4294967296) {f st du k t : Int} {i : K.Ins} : K.wf ⟨x.u, ⟨p, x.s.r, f, x.s.c, st, du⟩, i, k, t⟩ := ⟨hx.u, ⟨hp, hx.s.r, hx.s.c⟩⟩
theorem K.wf.up (hx : K.wf x) {D : Nat} {v : Int} (hv : 0 ≤ v ∧ v < 4294967296) {f st du k t : Int} {i : K.Ins} : K.wf ⟨x.u, ⟨x.s.pc, Q.up x.s.r D v, f, x.s.c, st, du⟩, i, k, t⟩ := ⟨hx.u, ⟨hx.s.pc, Q.up_bd hx.s.r hv, hx.s.c⟩⟩
theorem K.wf.uc (hx : K.wf x) {D : Nat} {v : Int} (hv : 0 ≤ v ∧ v < 4294967296) {f st du k t : Int} {i : K.Ins} : K.wf ⟨x.u, ⟨x.s.pc, x.s.r, f, Q.up x.s.c D v, st, du⟩, i, k, t⟩ := ⟨hx.u, ⟨hx.s.pc, hx.s.r, Q.up_bd hx.s.c hv⟩⟩
theorem K.wf.any (hx : K.wf x) {f st du k t : Int} {i : K.Ins} : K.wf ⟨x.u, ⟨x.s.pc, x.s.r, f, x.s.c, st, du⟩, i, k, t⟩ := ⟨hx.u, ⟨hx.s.pc, hx.s.r, hx.s.c⟩⟩
theorem K.wf.fl (hx : K.wf x) (k p q : Int) : K.wf (K.flags x k p q) := ⟨hx.u, ⟨hx.s.pc, hx.s.r, hx.s.c⟩⟩
include hx hV
theorem K.put_wf (a n v : Int) : K.wf2 (K.put x V a n v) := Q.bifP (p := K.wf2) (fun _ => ⟨⟨hx.u, hx.s⟩, Q.wf_sto hV _ _ _⟩) (fun _ => ⟨hx, Q.wf_sto hV _ _ _⟩)
theorem K.ga1_wf (a n D : Int) : K.wf2 (K.ga1 x V a n D) := Q.bifP (p := K.wf2) (fun _ => ⟨⟨hx.u, hx.s⟩, hV⟩) (fun _ => ⟨hx.up (M.load_bd hV _ _), hV⟩)
theorem K.ga2_wf (a n D : Int) : K.wf2 (K.ga2 x V a n D) := Q.bifP (p := K.wf2) (fun _ => ⟨⟨hx.u, hx.s⟩, hV⟩) (fun _ => ⟨hx.up (M.load_bd hV _ _), hV⟩)
theorem K.gs1_wf (a n D : Int) : K.wf2 (K.gs1 x V a n D) := Q.bifP (p := K.wf2) (fun _ => ⟨⟨hx.u, hx.s⟩, hV⟩) (fun _ => ⟨hx.up (M.load_bd hV _ _), hV⟩)
theorem K.gc1_wf (a n : Int) : K.wf2 (K.gc1 x V a n) := Q.bifP (p := K.wf2) (fun _ => ⟨⟨hx.u, hx.s⟩, hV⟩) (fun _ => ⟨hx.pc (M.load_bd hV _ _), hV⟩)
theorem K.ga3_wf (a n D p : Int) : K.wf2 (K.ga3 x V a n D p) := Q.bifP (p := K.wf2) (fun _ => ⟨⟨hx.u, hx.s⟩, hV⟩) (fun _ => ⟨hx.up (Q.wrap_bd _), hV⟩)
theorem K.ga4_wf (a n p : Int) : K.wf2 (K.ga4 x V a n p) := Q.bifP (p := K.wf2) (fun _ => ⟨⟨hx.u, hx.s⟩, hV⟩) (fun _ => K.put_wf (hx.fl _ _ _) hV _ _ _)
theorem K.push_wf (v : Int) : K.wf2 (K.push x V v) := K.put_wf (hx.up (Q.wrap_bd _)) hV _ _ _
theorem K.ps1_wf (D : Int) : K.wf2 (K.ps1 x V D) := K.gs1_wf (hx.up (Q.wrap_bd _)) hV _ _ _
theorem K.pc1_wf : K.wf2 (K.pc1 x V) := K.gc1_wf (hx.up (Q.wrap_bd _)) hV _ _
theorem K.single_wf : K.wf2 (K.single x V) := by
  unfold K.single
  refine Q.bifP (p := K.wf2) (fun _ => K.push_wf hx hV _) fun _ => ?_
  refine Q.bifP (p := K.wf2) (fun _ => K.ps1_wf hx hV _) fun _ => ?_
  refine Q.bifP (p := K.wf2) (fun _ => ⟨hx.up (Q.wrap_bd _), hV⟩) fun _ => ?_
  refine Q.bifP (p := K.wf2) (fun _ => ⟨hx.up (W.bits_bd _ _ _), hV⟩) fun _ => ?_
  refine Q.bifP (p := K.wf2) (fun _ => ⟨(K.push_wf hx hV _).1.pc (hx.s.r _), (K.push_wf hx hV _).2⟩) fun _ => ?_
  exact Q.bifP (p := K.wf2) (fun _ => ⟨hx.pc (hx.s.r _), hV⟩) fun _ => ⟨hx, hV⟩
theorem K.control_wf (hi : K.iok x.i) : K.wf2 (K.control x V) := by
  unfold K.control
  refine Q.bifP (p := K.wf2) (fun _ => K.pc1_wf hx hV) fun _ => ?_
  refine Q.bifP (p := K.wf2) (fun _ => ⟨hx.any, hV⟩) fun _ => ?_
  refine Q.bifP (p := K.wf2) (fun _ => ⟨hx.any, hV⟩) fun _ => ?_
  refine Q.bifP (p := K.wf2) (fun _ => ⟨hx.pc (hx.s.c _), hV⟩) fun _ => ?_
  refine Q.bifP (p := K.wf2) (fun _ => ⟨(K.push_wf hx hV _).1.pc (Q.wrap_bd _), (K.push_wf hx hV _).2⟩) fun _ => ?_
  refine Q.bifP (p := K.wf2) (fun _ => ⟨hx.pc (Q.wrap_bd _), hV⟩) fun _ => ?_
  refine Q.bifP (p := K.wf2) (fun _ => ⟨hx.any, hV⟩) fun _ => ?_
  refine Q.bifP (p := K.wf2) (fun _ => ⟨hx.up (hx.s.c _), hV⟩) fun _ => ?_
  refine Q.bifP (p := K.wf2) (fun _ => ?_) fun _ => ⟨hx, hV⟩
  refine Q.bifP (p := K.wf2) (fun _ => ⟨hx.uc (hx.s.r _), hV⟩) fun _ => ?_
  refine Q.bifP (p := K.wf2) (fun _ => ⟨hx.uc (hx.s.r _), hV⟩) fun _ => ?_
  refine Q.bifP (p := K.wf2) (fun _ => ?_) fun _ => ⟨hx, hV⟩
  exact Q.bifP (p := K.wf2) (fun _ => ⟨hx.any, hV⟩) fun _ => ⟨hx.any, hV⟩
theorem K.access_wf (o : Int) : K.wf2 (K.access x V o) := by
  unfold K.access
  refine Q.bifP (p := K.wf2) (fun _ => K.ga1_wf hx hV _ _ _) fun _ => ?_
  refine Q.bifP (p := K.wf2) (fun _ => K.ga2_wf hx hV _ _ _) fun _ => ?_
  refine Q.bifP (p := K.wf2) (fun _ => K.put_wf hx hV _ _ _) fun _ => ?_
  refine Q.bifP (p := K.wf2) (fun _ => K.put_wf hx hV _ _ _) fun _ => ?_
  refine Q.bifP (p := K.wf2) (fun _ => ⟨hx.up (Q.bif_bd (Q.wrap_bd _) (Q.wrap_bd _)), hV⟩) fun _ => ?_
  refine Q.bifP (p := K.wf2) (fun _ => K.ga3_wf hx hV _ _ _ _) fun _ => ?_
  exact Q.bifP (p := K.wf2) (fun _ => K.ga4_wf hx hV _ _ _) fun _ => ⟨hx, hV⟩
omit hV hx in
theorem K.res_v {o a b q : Int} (ha : 0 ≤ a ∧ a < 4294967296) (hb : 0 ≤ b ∧ b < 4294967296) : 0 ≤ (K.res o a b q).v ∧ (K.res o a b q).v < 4294967296 := by
  let p : K.R → Prop := fun r => 0 ≤ r.v ∧ r.v < 4294967296
  have it : ∀ {c : Prop} [Decidable c] {x y : K.R}, p x → p y → p (if c then x else y) := fun hx hy => by split <;> assumption
  show p (K.res o a b q)
  unfold K.res
  exact it hb (it (Q.wrap_bd _) (it (Q.wrap_bd _) (it (Q.wrap_bd _) (it (Q.wrap_bd _) (it ha (it ha (W.op_bd _ _ _ ha.1 ha.2 hb.1)))))))
omit hV in
theorem K.arith_wf {o b : Int} (hb : 0 ≤ b ∧ b < 4294967296) : K.wf (K.arith x o b) := by
  unfold K.arith
  refine Q.bifP (p := K.wf) (fun _ => ⟨hx.u, hx.s⟩) fun _ => ?_
  refine Q.bifP (p := K.wf) (fun _ => ?_) fun _ => ?_
  · exact Q.bifP (p := K.wf) (fun _ => (hx.up (K.res_v (hx.s.r _) hb)).fl _ _ _) fun _ => hx.up (K.res_v (hx.s.r _) hb)
  · exact Q.bifP (p := K.wf) (fun _ => hx.fl _ _ _) fun _ => hx
end
theorem K.stepI_wf {i : K.Ins} {k t : Int} {s : Q.S} {V : M.V} (hi : (k == 0) = true → K.iok i) (hs : Q.wf s) (hV : R.Wf V) : Q.wf (K.stepI i k t s V).1 ∧ R.Wf (K.stepI i k t s V).2.2.2 := by
  let p : Q.S × Int × Int × M.V → Prop := fun x => Q.wf x.1 ∧ R.Wf x.2.2.2
  show p (K.stepI i k t s V)
  unfold K.stepI
  have hx : K.wf (K.w0 s i) := K.w0_wf hs
  refine Q.bifP (p := p) (fun _ => ⟨hs, hV⟩) fun hk => ?_
  have hI := hi (K.eq0 hk)
  have hA := fun o b (hb : 0 ≤ b ∧ b < 4294967296) => (K.arith_wf (o := o) hx hb).s
  have hb2 : ∀ {c : Bool} {y : K.W × M.V}, K.wf2 y → p (bif c then (s, y.1.k, y.1.t, y.2) else (y.1.s, y.1.k, y.1.t, y.2)) := fun h => Q.bifP (p := p) (fun _ => ⟨hs, h.2⟩) fun _ => ⟨h.1.s, h.2⟩
  refine Q.bifP (p := p) (fun _ => Q.bifP (p := p) (fun _ => ⟨hs, hV⟩) fun _ => ⟨hA _ _ (hs.r _), hV⟩) fun _ => ?_
  refine Q.bifP (p := p) (fun _ => Q.bifP (p := p) (fun _ => ⟨hs, hV⟩) fun _ => ⟨hA _ _ hI.imm, hV⟩) fun _ => ?_
  refine Q.bifP (p := p) (fun _ => Q.bifP (p := p) (fun _ => ⟨hs, hV⟩) fun _ => ⟨hA _ _ hI.imm, hV⟩) fun _ => ?_
  refine Q.bifP (p := p) (fun _ => hb2 (K.access_wf hx hV _)) fun _ => ?_
  refine Q.bifP (p := p) (fun _ => hb2 (K.access_wf hx hV _)) fun _ => ?_
  refine Q.bifP (p := p) (fun _ => hb2 (K.single_wf hx hV)) fun _ => ?_
  refine Q.bifP (p := p) (fun _ => ?_) fun _ => hb2 (K.control_wf hx hV hI)
  refine Q.bifP (p := p) (fun _ => Q.bifP (p := p) (fun _ => ⟨hs, hV⟩) fun _ => ⟨⟨Q.wrap_bd _, hx.s.r, hx.s.c⟩, hV⟩) fun _ => ?_
  exact Q.bifP (p := p) (fun _ => ⟨hs, hV⟩) fun _ => ⟨hx.s, hV⟩
/-- One step: the state behind it, the trap, the memory. -/
def K.step (s : Q.S) (V : M.V) : Q.S × Int × Int × M.V := K.stepI (K.fetch V s.pc).1 (K.fetch V s.pc).2.1 (K.fetch V s.pc).2.2 s V
theorem K.step_wf {s : Q.S} {V : M.V} (hs : Q.wf s) (hV : R.Wf V) : Q.wf (K.step s V).1 ∧ R.Wf (K.step s V).2.2.2 := K.stepI_wf K.fetch_ok hs hV
/-- A run: at n instructions of most, with fuel. -/
def K.run (most : Int) : Nat → Nat → Q.S → M.V → Q.S × Int × Int × M.V
  | 0, _, s, V => (s, 1, 0, V)
  | f + 1, n, s, V => bif (decide (s.du > 0) && decide (s.st ≥ s.du)) then (s, 8, 0, V) else bif (decide (((n : Nat) : Int) ≥ most)) then (s, 1, 0, V) else
    bif ((K.step s V).2.1 != 0) then (s, (K.step s V).2.1, (K.step s V).2.2.1, (K.step s V).2.2.2) else K.run most f (n + 1) (K.step s V).1 (K.step s V).2.2.2
/-- All of a run. -/
def K.runs (most : Int) (s : Q.S) (V : M.V) : Q.S × Int × Int × M.V := K.run most (most.toNat + 1) 0 s V
theorem Step_any {m : Nat} {xs : List Value} (s : Q.S) (V : M.V) (hs : Q.wf s) (hV : R.Wf V) : A.Tr Tryz.prog 20 #[Q.S.val s, .iface 35 (.pointer (some ⟨m, 0, none⟩))] [M.It m V xs] (I := Unit) (fun _ => True) (fun _ => .tuple #[Q.S.val ((K.step s V).1), .agg #[.int .i64 ((K.step s V).2.1), .int .u32 ((K.step s V).2.2.1)]]) (fun _ => [M.It m (K.step s V).2.2.2 xs]) := Step_i _ _ _ s V rfl K.fetch_ok hs hV
section
variable {most : Int} {F n : Nat} {s : Q.S} {V : M.V}
theorem K.run_f (h : n < F) : ∃ f, F - n = f + 1 ∧ F - (n + 1) = f := ⟨F - (n + 1), by omega, rfl⟩
theorem K.run_t (h : n < F) (h1 : (decide (s.du > 0) && decide (s.st ≥ s.du)) = true) : K.run most (F - n) n s V = (s, 8, 0, V) := by
  obtain ⟨f, e, _⟩ := K.run_f h
  rw [e, K.run, h1]; rfl
theorem K.run_b (h : n < F) (h1 : (decide (s.du > 0) && decide (s.st ≥ s.du)) = false) (h2 : decide (((n : Nat) : Int) ≥ most) = true) : K.run most (F - n) n s V = (s, 1, 0, V) := by
  obtain ⟨f, e, _⟩ := K.run_f h
  rw [e, K.run, h1, h2]; rfl
theorem K.run_s (h : n < F) (h1 : (decide (s.du > 0) && decide (s.st ≥ s.du)) = false) (h2 : decide (((n : Nat) : Int) ≥ most) = false) (h3 : ((K.step s V).2.1 != 0) = true) : K.run most (F - n) n s V = (s, (K.step s V).2.1, (K.step s V).2.2.1, (K.step s V).2.2.2) := by
  obtain ⟨f, e, _⟩ := K.run_f h
  rw [e, K.run, h1, h2, h3]; rfl
theorem K.run_n (h : n < F) (h1 : (decide (s.du > 0) && decide (s.st ≥ s.du)) = false) (h2 : decide (((n : Nat) : Int) ≥ most) = false) (h3 : ((K.step s V).2.1 != 0) = false) : K.run most (F - n) n s V = K.run most (F - (n + 1)) (n + 1) (K.step s V).1 (K.step s V).2.2.2 := by
  obtain ⟨f, e, e2⟩ := K.run_f h
  rw [e2, e, K.run, h1, h2, h3]; rfl
theorem K.run_lt (hm : most < 9223372036854775808) (h2 : decide (((n : Nat) : Int) ≥ most) = false) : n + 1 < most.toNat + 1 ∧ IntKind.wrap .i64 (((n : Nat) : Int) + 1) = ((n + 1 : Nat) : Int) := by
  have := of_decide_eq_false h2
  rw [IntKind.wrap_i64]
  omega
end
/-- The cells of a step of the reference in progress. -/
def K5.tail (i : K.Ins) (k t : Int) (m : Nat) : List Value := [.pointer (some ⟨m, 0, none⟩), .int .i64 i.op, .int .i64 i.d, .int .i64 i.s, .int .i64 i.ix, .int .i64 i.sc, .int .u32 i.imm, .int .i64 i.sz, .int .i64 k, .int .u32 t]
def K5.lk (x : K.W) (V : M.V) (a n : Int) : Int × Int := (bif (!((V.load (a).toNat n).2.2)) then (5, (V.load (a).toNat n).2.1) else (x.k, x.t))
def K5.sk (x : K.W) (V : M.V) (a n v : Int) : Int × Int × M.V := (bif (x.k != 0) then (x.k, x.t, V) else (bif (!((V.chk (a).toNat 2 n).2)) then (5, (V.chk (a).toNat 2 n).1, (V.sto (a).toNat n v)) else (x.k, x.t, (V.sto (a).toNat n v))))
def K5.puk (x : K.W) (V : M.V) (v : Int) : Int × Int × M.V := ((K5.sk x V (IntKind.wrap .u32 ((x.u.r 7) - 4)) 4 v).1, (K5.sk x V (IntKind.wrap .u32 ((x.u.r 7) - 4)) 4 v).2.1, (K5.sk x V (IntKind.wrap .u32 ((x.u.r 7) - 4)) 4 v).2.2)
def K5.pok (x : K.W) (V : M.V)  : Int × Int := ((K5.lk x V (x.u.r 7) 4).1, (K5.lk x V (x.u.r 7) 4).2)
structure K5.A where
  v : Int
  f : Int
  st : Bool
  se : Bool
  z : Bool
def K5.logic (v : Int) (t : Bool) : K5.A := ⟨v, (W.flags 5 v 0), t, true, false⟩
def K5.alu (op a b f : Int) : K5.A := (bif (op == 32) then ⟨b, 0, true, false, false⟩ else (bif (op == 33) then ⟨(IntKind.wrap .u32 (a + b)), (W.flags 1 a b), true, true, false⟩ else (bif (op == 35) then ⟨(IntKind.wrap .u32 ((IntKind.wrap .u32 (a + b)) + (Int.tmod (IntKind.wrap .u32 (Int.tdiv f 2)) 2))), (W.flags (IntKind.wrap .i64 (1 + (IntKind.wrap .i64 (Int.tmod (IntKind.wrap .u32 (Int.tdiv f 2)) 2)))) a b), true, true, false⟩ else (bif ((op == 34) || (op == 40)) then ⟨(IntKind.wrap .u32 (a - b)), (W.flags 3 a b), (op == 34), true, false⟩ else (bif (op == 36) then ⟨(IntKind.wrap .u32 ((IntKind.wrap .u32 (a - b)) - (IntKind.wrap .u32 (1 - (Int.tmod (IntKind.wrap .u32 (Int.tdiv f 2)) 2))))), (W.flags (IntKind.wrap .i64 (4 - (IntKind.wrap .i64 (Int.tmod (IntKind.wrap .u32 (Int.tdiv f 2)) 2)))) a b), true, true, false⟩ else (bif ((op == 37) || (op == 41)) then (K5.logic (bits .and .u32 a b) (op == 37)) else (bif (op == 38) then (K5.logic (bits .or .u32 a b) true) else (bif (op == 39) then (K5.logic (bits .xor .u32 a b) true) else (bif (op == 42) then (K5.logic (IntKind.wrap .u32 (a * b)) true) else (bif (op == 43) then (bif (b == 0) then ⟨0, 0, false, false, true⟩ else (K5.logic (IntKind.wrap .u32 (Int.tdiv a b)) true)) else (bif (op == 44) then (K5.logic (W.op 8 a b) true) else (bif (op == 45) then (K5.logic (W.op 9 a b) true) else (K5.logic (W.op 10 a b) true)))))))))))))
def K5.ea (x : K.W) : Int := (bif (decide (x.i.ix ≥ 0)) then (IntKind.wrap .u32 ((IntKind.wrap .u32 ((x.u.r ((x.i.s).toNat)) + x.i.imm)) + (IntKind.wrap .u32 ((x.u.r ((x.i.ix).toNat)) * 2 ^ (min (x.i.sc).toNat 32))))) else (IntKind.wrap .u32 ((x.u.r ((x.i.s).toNat)) + x.i.imm)))
def K5.arith (x : K.W) (o p : Int) : K.W := (bif (K5.alu o (x.u.r ((x.i.d).toNat)) p x.u.f).z then (bif (K5.alu o (x.u.r ((x.i.d).toNat)) p x.u.f).st then (bif (K5.alu o (x.u.r ((x.i.d).toNat)) p x.u.f).se then ⟨x.u, ⟨x.s.pc, (Q.up x.s.r (x.i.d).toNat ((K5.alu o (x.u.r ((x.i.d).toNat)) p x.u.f).v)), (K5.alu o (x.u.r ((x.i.d).toNat)) p x.u.f).f, x.s.c, x.s.st, x.s.du⟩, x.i, 6, 0⟩ else ⟨x.u, ⟨x.s.pc, (Q.up x.s.r (x.i.d).toNat ((K5.alu o (x.u.r ((x.i.d).toNat)) p x.u.f).v)), x.s.f, x.s.c, x.s.st, x.s.du⟩, x.i, 6, 0⟩) else (bif (K5.alu o (x.u.r ((x.i.d).toNat)) p x.u.f).se then ⟨x.u, ⟨x.s.pc, x.s.r, (K5.alu o (x.u.r ((x.i.d).toNat)) p x.u.f).f, x.s.c, x.s.st, x.s.du⟩, x.i, 6, 0⟩ else ⟨x.u, x.s, x.i, 6, 0⟩)) else (bif (K5.alu o (x.u.r ((x.i.d).toNat)) p x.u.f).st then (bif (K5.alu o (x.u.r ((x.i.d).toNat)) p x.u.f).se then ⟨x.u, ⟨x.s.pc, (Q.up x.s.r (x.i.d).toNat ((K5.alu o (x.u.r ((x.i.d).toNat)) p x.u.f).v)), (K5.alu o (x.u.r ((x.i.d).toNat)) p x.u.f).f, x.s.c, x.s.st, x.s.du⟩, x.i, x.k, x.t⟩ else ⟨x.u, ⟨x.s.pc, (Q.up x.s.r (x.i.d).toNat ((K5.alu o (x.u.r ((x.i.d).toNat)) p x.u.f).v)), x.s.f, x.s.c, x.s.st, x.s.du⟩, x.i, x.k, x.t⟩) else (bif (K5.alu o (x.u.r ((x.i.d).toNat)) p x.u.f).se then ⟨x.u, ⟨x.s.pc, x.s.r, (K5.alu o (x.u.r ((x.i.d).toNat)) p x.u.f).f, x.s.c, x.s.st, x.s.du⟩, x.i, x.k, x.t⟩ else x)))
def K5.memory (x : K.W) (V : M.V) (o : Int) : K.W × M.V := (bif (o == 80) then (⟨x.u, ⟨x.s.pc, (Q.up x.s.r (x.i.d).toNat ((V.load ((K5.ea x)).toNat 4).1)), x.s.f, x.s.c, x.s.st, x.s.du⟩, x.i, (K5.lk x V (K5.ea x) 4).1, (K5.lk x V (K5.ea x) 4).2⟩, V) else (bif (o == 82) then (⟨x.u, ⟨x.s.pc, (Q.up x.s.r (x.i.d).toNat ((V.load ((K5.ea x)).toNat 1).1)), x.s.f, x.s.c, x.s.st, x.s.du⟩, x.i, (K5.lk x V (K5.ea x) 1).1, (K5.lk x V (K5.ea x) 1).2⟩, V) else (bif (o == 81) then (⟨x.u, x.s, x.i, (K5.sk x V (K5.ea x) 4 (x.u.r ((x.i.d).toNat))).1, (K5.sk x V (K5.ea x) 4 (x.u.r ((x.i.d).toNat))).2.1⟩, (K5.sk x V (K5.ea x) 4 (x.u.r ((x.i.d).toNat))).2.2) else (bif (o == 83) then (⟨x.u, x.s, x.i, (K5.sk x V (K5.ea x) 1 (x.u.r ((x.i.d).toNat))).1, (K5.sk x V (K5.ea x) 1 (x.u.r ((x.i.d).toNat))).2.1⟩, (K5.sk x V (K5.ea x) 1 (x.u.r ((x.i.d).toNat))).2.2) else (bif (o == 86) then (⟨x.u, ⟨x.s.pc, (Q.up x.s.r (x.i.d).toNat (K5.ea x)), x.s.f, x.s.c, x.s.st, x.s.du⟩, x.i, x.k, x.t⟩, V) else (bif (o == 84) then (⟨x.u, ⟨x.s.pc, (Q.up x.s.r (x.i.d).toNat (IntKind.wrap .u32 ((x.u.r ((x.i.d).toNat)) + ((V.load ((K5.ea x)).toNat 4).1)))), (W.flags 1 (x.u.r ((x.i.d).toNat)) ((V.load ((K5.ea x)).toNat 4).1)), x.s.c, x.s.st, x.s.du⟩, x.i, (K5.lk x V (K5.ea x) 4).1, (K5.lk x V (K5.ea x) 4).2⟩, V) else (bif (o == 85) then (⟨x.u, ⟨x.s.pc, x.s.r, (W.flags 1 ((V.load ((K5.ea x)).toNat 4).1) (x.u.r ((x.i.d).toNat))), x.s.c, x.s.st, x.s.du⟩, x.i, (K5.sk (⟨x.u, x.s, x.i, (K5.lk x V (K5.ea x) 4).1, (K5.lk x V (K5.ea x) 4).2⟩ : K.W) V (K5.ea x) 4 (IntKind.wrap .u32 (((V.load ((K5.ea x)).toNat 4).1) + (x.u.r ((x.i.d).toNat))))).1, (K5.sk (⟨x.u, x.s, x.i, (K5.lk x V (K5.ea x) 4).1, (K5.lk x V (K5.ea x) 4).2⟩ : K.W) V (K5.ea x) 4 (IntKind.wrap .u32 (((V.load ((K5.ea x)).toNat 4).1) + (x.u.r ((x.i.d).toNat))))).2.1⟩, (K5.sk (⟨x.u, x.s, x.i, (K5.lk x V (K5.ea x) 4).1, (K5.lk x V (K5.ea x) 4).2⟩ : K.W) V (K5.ea x) 4 (IntKind.wrap .u32 (((V.load ((K5.ea x)).toNat 4).1) + (x.u.r ((x.i.d).toNat))))).2.2) else (x, V))))))))
def K5.single (x : K.W) (V : M.V)  : K.W × M.V := (bif (x.i.op == 16) then (⟨x.u, ⟨x.s.pc, (Q.up x.s.r 7 (IntKind.wrap .u32 ((x.u.r 7) - 4))), x.s.f, x.s.c, x.s.st, x.s.du⟩, x.i, (K5.puk x V (x.u.r ((x.i.d).toNat))).1, (K5.puk x V (x.u.r ((x.i.d).toNat))).2.1⟩, (K5.puk x V (x.u.r ((x.i.d).toNat))).2.2) else (bif (x.i.op == 17) then (⟨x.u, ⟨x.s.pc, (Q.up (Q.up x.s.r 7 (IntKind.wrap .u32 ((x.u.r 7) + 4))) (x.i.d).toNat ((V.load (x.u.r 7).toNat 4).1)), x.s.f, x.s.c, x.s.st, x.s.du⟩, x.i, (K5.pok x V).1, (K5.pok x V).2⟩, V) else (bif (x.i.op == 18) then (⟨x.u, ⟨x.s.pc, (Q.up x.s.r (x.i.d).toNat (IntKind.wrap .u32 (0 - (x.u.r ((x.i.d).toNat))))), (W.flags 3 0 (x.u.r ((x.i.d).toNat))), x.s.c, x.s.st, x.s.du⟩, x.i, x.k, x.t⟩, V) else (bif (x.i.op == 19) then (⟨x.u, ⟨x.s.pc, (Q.up x.s.r (x.i.d).toNat (bits .xor .u32 4294967295 (x.u.r ((x.i.d).toNat)))), (W.flags 5 (bits .xor .u32 4294967295 (x.u.r ((x.i.d).toNat))) 0), x.s.c, x.s.st, x.s.du⟩, x.i, x.k, x.t⟩, V) else (bif (x.i.op == 20) then (⟨x.u, ⟨(x.u.r ((x.i.d).toNat)), x.s.r, x.s.f, x.s.c, x.s.st, x.s.du⟩, x.i, x.k, x.t⟩, V) else (bif (x.i.op == 21) then (⟨x.u, ⟨(x.u.r ((x.i.d).toNat)), (Q.up x.s.r 7 (IntKind.wrap .u32 ((x.u.r 7) - 4))), x.s.f, x.s.c, x.s.st, x.s.du⟩, x.i, (K5.puk x V x.s.pc).1, (K5.puk x V x.s.pc).2.1⟩, (K5.puk x V x.s.pc).2.2) else (x, V)))))))
def K5.control (x : K.W) (V : M.V)  : K.W × M.V := (bif (x.i.op == 1) then (⟨x.u, ⟨(V.load (x.u.r 7).toNat 4).1, (Q.up x.s.r 7 (IntKind.wrap .u32 ((x.u.r 7) + 4))), x.s.f, x.s.c, x.s.st, x.s.du⟩, x.i, (K5.pok x V).1, (K5.pok x V).2⟩, V) else (bif (x.i.op == 2) then (⟨x.u, x.s, x.i, 2, 0⟩, V) else (bif (x.i.op == 3) then (⟨x.u, x.s, x.i, 3, 0⟩, V) else (bif (x.i.op == 4) then (⟨x.u, ⟨(x.u.c 1), x.s.r, x.s.f, x.s.c, x.s.st, x.s.du⟩, x.i, x.k, x.t⟩, V) else (bif (x.i.op == 112) then (⟨x.u, ⟨(IntKind.wrap .u32 (x.s.pc + x.i.imm)), x.s.r, x.s.f, x.s.c, x.s.st, x.s.du⟩, x.i, x.k, x.t⟩, V) else (bif (x.i.op == 113) then (⟨x.u, ⟨(IntKind.wrap .u32 (x.s.pc + x.i.imm)), (Q.up x.s.r 7 (IntKind.wrap .u32 ((x.u.r 7) - 4))), x.s.f, x.s.c, x.s.st, x.s.du⟩, x.i, (K5.puk x V x.s.pc).1, (K5.puk x V x.s.pc).2.1⟩, (K5.puk x V x.s.pc).2.2) else (bif (x.i.op == 128) then (⟨x.u, x.s, x.i, 4, x.i.imm⟩, V) else (bif (x.i.op == 129) then (⟨x.u, ⟨x.s.pc, (Q.up x.s.r (x.i.d).toNat (x.u.c ((x.i.s).toNat))), x.s.f, x.s.c, x.s.st, x.s.du⟩, x.i, x.k, x.t⟩, V) else (bif (x.i.op == 130) then (bif ((x.i.s == 0) || (x.i.s == 1)) then (bif (x.i.s == 4) then (bif ((x.u.r ((x.i.d).toNat)) != 0) then (⟨x.u, ⟨x.s.pc, x.s.r, x.s.f, (Q.up x.s.c (x.i.s).toNat (x.u.r ((x.i.d).toNat))), x.s.st, (IntKind.wrap .i64 ((IntKind.wrap .i64 (x.u.st + 1)) + (IntKind.wrap .i64 (x.u.r ((x.i.d).toNat)))))⟩, x.i, x.k, x.t⟩, V) else (⟨x.u, ⟨x.s.pc, x.s.r, x.s.f, (Q.up x.s.c (x.i.s).toNat (x.u.r ((x.i.d).toNat))), x.s.st, 0⟩, x.i, x.k, x.t⟩, V)) else (⟨x.u, ⟨x.s.pc, x.s.r, x.s.f, (Q.up x.s.c (x.i.s).toNat (x.u.r ((x.i.d).toNat))), x.s.st, x.s.du⟩, x.i, x.k, x.t⟩, V)) else (bif (x.i.s == 4) then (bif ((x.u.r ((x.i.d).toNat)) != 0) then (⟨x.u, ⟨x.s.pc, x.s.r, x.s.f, x.s.c, x.s.st, (IntKind.wrap .i64 ((IntKind.wrap .i64 (x.u.st + 1)) + (IntKind.wrap .i64 (x.u.r ((x.i.d).toNat)))))⟩, x.i, x.k, x.t⟩, V) else (⟨x.u, ⟨x.s.pc, x.s.r, x.s.f, x.s.c, x.s.st, 0⟩, x.i, x.k, x.t⟩, V)) else (x, V))) else (x, V))))))))))
def K.fmtB (n : Nat) : Bool :=
  (K.fmt n == none && R2.Format n == 0) || (K.fmt n == some 0 && R2.Format n == 1 && decide (n ≤ 4)) || (K.fmt n == some 1 && R2.Format n == 2 && decide (16 ≤ n ∧ n ≤ 21)) || (K.fmt n == some 2 && R2.Format n == 3 && decide (32 ≤ n ∧ n ≤ 46)) ||
  (K.fmt n == some 3 && R2.Format n == 4 && decide (48 ≤ n ∧ n ≤ 62)) || (K.fmt n == some 4 && R2.Format n == 5 && decide (64 ≤ n ∧ n ≤ 78)) || (K.fmt n == some 5 && R2.Format n == 6 && decide (80 ≤ n ∧ n ≤ 86)) ||
  (K.fmt n == some 6 && R2.Format n == 7 && decide (88 ≤ n ∧ n ≤ 94)) || (K.fmt n == some 7 && R2.Format n == 8 && decide (96 ≤ n ∧ n ≤ 109)) || (K.fmt n == some 8 && R2.Format n == 9 && decide (112 ≤ n ∧ n ≤ 113)) ||
  (K.fmt n == some 9 && R2.Format n == 10 && decide (n = 128)) || (K.fmt n == some 10 && R2.Format n == 11 && decide (n = 129)) || (K.fmt n == some 10 && R2.Format n == 12 && decide (n = 130))
theorem K.fmtB_all : ∀ n : Fin 131, K.fmtB n.val = true := by decide +kernel
theorem K.fmtF_none (op : Int) (h : op < 0 ∨ 130 < op) : ∀ m k, k + m ≤ 11 → K.fmtF op m k = none
  | 0, _, _ => rfl
  | m + 1, k, hk => by
    have hb : 0 ≤ K.lo k ∧ K.hi k ≤ 130 := by
      rcases (by omega : k = 0 ∨ k = 1 ∨ k = 2 ∨ k = 3 ∨ k = 4 ∨ k = 5 ∨ k = 6 ∨ k = 7 ∨ k = 8 ∨ k = 9 ∨ k = 10) with rfl | rfl | rfl | rfl | rfl | rfl | rfl | rfl | rfl | rfl | rfl <;> decide
    unfold K.fmtF
    rw [if_neg (by omega)]
    exact K.fmtF_none op h m (k + 1) (by omega)
theorem R2.Format_none (op : Int) (h : op < 0 ∨ 130 < op) : R2.Format op = 0 := by
  have hd : ∀ a b : Int, 0 ≤ a → b ≤ 130 → (decide (op ≥ a) && decide (op ≤ b)) = false := fun a b ha hb => by simp; omega
  have he : ((op == 112) || (op == 113)) = false := by simp; omega
  unfold R2.Format
  rw [hd 0 4 (by decide) (by decide), hd 16 21 (by decide) (by decide), hd 32 46 (by decide) (by decide), hd 48 62 (by decide) (by decide), hd 64 78 (by decide) (by decide), hd 80 86 (by decide) (by decide), hd 88 94 (by decide) (by decide), hd 96 109 (by decide) (by decide), hd 128 130 (by decide) (by decide), he]
  rfl
/-- The format of a number, in the program's count and in the reference's. -/
theorem K.fmt_cases (op : Int) : (K.fmt op = none ∧ R2.Format op = 0) ∨ (K.fmt op = some 0 ∧ R2.Format op = 1 ∧ 0 ≤ op ∧ op ≤ 4) ∨ (K.fmt op = some 1 ∧ R2.Format op = 2 ∧ 16 ≤ op ∧ op ≤ 21) ∨ (K.fmt op = some 2 ∧ R2.Format op = 3 ∧ 32 ≤ op ∧ op ≤ 46) ∨
    (K.fmt op = some 3 ∧ R2.Format op = 4 ∧ 48 ≤ op ∧ op ≤ 62) ∨ (K.fmt op = some 4 ∧ R2.Format op = 5 ∧ 64 ≤ op ∧ op ≤ 78) ∨ (K.fmt op = some 5 ∧ R2.Format op = 6 ∧ 80 ≤ op ∧ op ≤ 86) ∨ (K.fmt op = some 6 ∧ R2.Format op = 7 ∧ 88 ≤ op ∧ op ≤ 94) ∨
    (K.fmt op = some 7 ∧ R2.Format op = 8 ∧ 96 ≤ op ∧ op ≤ 109) ∨ (K.fmt op = some 8 ∧ R2.Format op = 9 ∧ 112 ≤ op ∧ op ≤ 113) ∨ (K.fmt op = some 9 ∧ R2.Format op = 10 ∧ op = 128) ∨ (K.fmt op = some 10 ∧ R2.Format op = 11 ∧ op = 129) ∨ (K.fmt op = some 10 ∧ R2.Format op = 12 ∧ op = 130) := by
  by_cases h : op < 0 ∨ 130 < op
  · exact .inl ⟨K.fmtF_none op h 11 0 (by omega), R2.Format_none op h⟩
  · obtain ⟨n, rfl⟩ := Int.eq_ofNat_of_zero_le (by omega : 0 ≤ op)
    have := K.fmtB_all ⟨n, by omega⟩
    unfold K.fmtB at this
    simp only [Bool.or_eq_true, Bool.and_eq_true, beq_iff_eq, decide_eq_true_eq] at this
    rcases this with ((((((((((((h | h) | h) | h) | h) | h) | h) | h) | h) | h) | h) | h) | h)
    · exact .inl h
    all_goals
      obtain ⟨⟨a, b⟩, c⟩ := h
      simp only [a, b]
      simp
      omega
def K.ser (k : Nat) (i : K.Ins) : List Int := IntKind.wrap .u8 i.op :: K.wr k i
theorem K.ser_str (k : Nat) (i : K.Ins) : strOfNums [IntKind.wrap .u8 i.op] ++ strOfNums (K.wr k i) = strOfNums (K.ser k i) := K.app _ _
theorem K.u8_bd (n : Int) : 0 ≤ IntKind.wrap .u8 n ∧ IntKind.wrap .u8 n < 256 := by
  have e : IntKind.wrap .u8 n = n % 256 := rfl
  rw [e]; omega
theorem K.wr_bd (k : Nat) (hk : k < 11) (i : K.Ins) (hi : K.In i) : ∀ x ∈ K.wr k i, 0 ≤ x ∧ x < 256 := by
  obtain ⟨d0, d1, s0, s1, x0, x1, c0, c1, i0, i1⟩ := hi
  have hR : ∀ x ∈ K.p_Reg i, 0 ≤ x ∧ x < 256 := by intro x hx; simp [K.p_Reg] at hx; omega
  have hB : ∀ x ∈ K.p_Byte i, 0 ≤ x ∧ x < 256 := by intro x hx; simp [K.p_Byte] at hx; omega
  have hP : ∀ x ∈ K.p_Pair i, 0 ≤ x ∧ x < 256 := by intro x hx; simp [K.p_Pair] at hx; omega
  have hF : ∀ x ∈ K.p_Full i, 0 ≤ x ∧ x < 256 := by intro x hx; simp [K.p_Full] at hx; omega
  have hX : ∀ x ∈ K.p_Index i, 0 ≤ x ∧ x < 256 := by
    intro x hx; simp [K.p_Index] at hx; split at hx <;> omega
  have hA : ∀ {a b : List Int}, (∀ x ∈ a, 0 ≤ x ∧ x < 256) → (∀ x ∈ b, 0 ≤ x ∧ x < 256) → ∀ x ∈ a ++ b, 0 ≤ x ∧ x < 256 := fun ha hb x hx => (List.mem_append.1 hx).elim (ha x) (hb x)
  rcases (by omega : k = 0 ∨ k = 1 ∨ k = 2 ∨ k = 3 ∨ k = 4 ∨ k = 5 ∨ k = 6 ∨ k = 7 ∨ k = 8 ∨ k = 9 ∨ k = 10) with rfl | rfl | rfl | rfl | rfl | rfl | rfl | rfl | rfl | rfl | rfl
  · intro x hx; exact absurd hx (by show x ∉ ([] : List Int); simp)
  · exact hR
  · exact hP
  · exact hA hR hB
  · exact hA hR hF
  · exact hA hP hB
  · exact hA (hA hP hX) hF
  · exact hB
  · exact hF
  · exact hB
  · exact hP
theorem K.ser_bd (k : Nat) (hk : k < 11) (i : K.Ins) (hi : K.In i) : ∀ x ∈ K.ser k i, 0 ≤ x ∧ x < 256 := fun x hx => (List.mem_cons.1 hx).elim (fun e => e ▸ K.u8_bd _) (K.wr_bd k hk i hi x)
theorem K.byt_ser (k : Nat) (hk : k < 11) (i : K.Ins) (hi : K.In i) (j : Nat) : W.byt (strOfNums (K.ser k i)).data.toList j = (K.ser k i).getD j 0 := W.byt_nums _ j (K.ser_bd k hk i hi)
theorem K.v1_0 (i : K.Ins) (hop : 0 ≤ i.op ∧ i.op < 256) (hm : 0 ≤ i.imm ∧ i.imm < 4294967296) : K.valid1 0 i = true ↔ (i.sz = 1 ∧ K.rng i = true ∧ i.d = 0 ∧ i.s = 0 ∧ i.ix = -1 ∧ i.sc = 0 ∧ i.imm = 0) := by
  unfold K.valid1
  have hl : K.len 0 = 1 := rfl
  have hw : IntKind.wrap .u8 i.op = i.op := by show i.op % 256 = i.op; omega
  cases hq : ((i.sz != (K.len 0)) || (!(K.rng i))) with
  | true =>
    rw [hl] at hq
    simp at hq ⊢
    intro h1 h2; rcases hq with hq | hq
    · exact absurd h1 hq
    · rw [h2] at hq; cases hq
  | false =>
    have hi := K.in_of hm hq
    rw [hl] at hq
    simp at hq
    rw [cond_false, K.ser_str]
    have hb := K.byt_ser 0 (by decide) i hi
    have e : K.ser 0 i = [i.op] := by unfold K.ser; rw [hw]; rfl
    rw [e] at hb
    obtain ⟨d0, d1, s0, s1, x0, x1, c0, c1, i0, i1⟩ := hi
    rw [e]
    generalize (strOfNums _).data.toList = l at *
    have hb0 := hb 0
    have hb1 := hb 1
    have hb2 := hb 2
    have hb3 := hb 3
    have hb4 := hb 4
    have hb5 := hb 5
    have hb6 := hb 6
    simp at hb0 hb1 hb2 hb3 hb4 hb5 hb6
    simp [K.rd, K.i0, K.t_none, K.t_reg, K.t_pair, K.t_small, K.t_full, K.t_plain, K.t_index, K.four, hl, hb0, hb1, hb2, hb3, hb4, hb5, hb6, hq]
    omega
theorem K.v1_1 (i : K.Ins) (hop : 0 ≤ i.op ∧ i.op < 256) (hm : 0 ≤ i.imm ∧ i.imm < 4294967296) : K.valid1 1 i = true ↔ (i.sz = 2 ∧ K.rng i = true ∧ i.s = 0 ∧ i.ix = -1 ∧ i.sc = 0 ∧ i.imm = 0) := by
  unfold K.valid1
  have hl : K.len 1 = 2 := rfl
  have hw : IntKind.wrap .u8 i.op = i.op := by show i.op % 256 = i.op; omega
  cases hq : ((i.sz != (K.len 1)) || (!(K.rng i))) with
  | true =>
    rw [hl] at hq
    simp at hq ⊢
    intro h1 h2; rcases hq with hq | hq
    · exact absurd h1 hq
    · rw [h2] at hq; cases hq
  | false =>
    have hi := K.in_of hm hq
    rw [hl] at hq
    simp at hq
    rw [cond_false, K.ser_str]
    have hb := K.byt_ser 1 (by decide) i hi
    have e : K.ser 1 i = [i.op, i.d] := by unfold K.ser; rw [hw]; rfl
    rw [e] at hb
    obtain ⟨d0, d1, s0, s1, x0, x1, c0, c1, i0, i1⟩ := hi
    rw [e]
    generalize (strOfNums _).data.toList = l at *
    have hb0 := hb 0
    have hb1 := hb 1
    have hb2 := hb 2
    have hb3 := hb 3
    have hb4 := hb 4
    have hb5 := hb 5
    have hb6 := hb 6
    simp at hb0 hb1 hb2 hb3 hb4 hb5 hb6
    simp [K.rd, K.i0, K.t_none, K.t_reg, K.t_pair, K.t_small, K.t_full, K.t_plain, K.t_index, K.four, hl, hb0, hb1, hb2, hb3, hb4, hb5, hb6, hq]
    omega
theorem K.v1_2 (i : K.Ins) (hop : 0 ≤ i.op ∧ i.op < 256) (hm : 0 ≤ i.imm ∧ i.imm < 4294967296) : K.valid1 2 i = true ↔ (i.sz = 2 ∧ K.rng i = true ∧ i.ix = -1 ∧ i.sc = 0 ∧ i.imm = 0) := by
  unfold K.valid1
  have hl : K.len 2 = 2 := rfl
  have hw : IntKind.wrap .u8 i.op = i.op := by show i.op % 256 = i.op; omega
  cases hq : ((i.sz != (K.len 2)) || (!(K.rng i))) with
  | true =>
    rw [hl] at hq
    simp at hq ⊢
    intro h1 h2; rcases hq with hq | hq
    · exact absurd h1 hq
    · rw [h2] at hq; cases hq
  | false =>
    have hi := K.in_of hm hq
    rw [hl] at hq
    simp at hq
    rw [cond_false, K.ser_str]
    have hb := K.byt_ser 2 (by decide) i hi
    have e : K.ser 2 i = [i.op, i.d * 16 + i.s] := by unfold K.ser; rw [hw]; rfl
    rw [e] at hb
    obtain ⟨d0, d1, s0, s1, x0, x1, c0, c1, i0, i1⟩ := hi
    rw [e]
    generalize (strOfNums _).data.toList = l at *
    have hb0 := hb 0
    have hb1 := hb 1
    have hb2 := hb 2
    have hb3 := hb 3
    have hb4 := hb 4
    have hb5 := hb 5
    have hb6 := hb 6
    simp at hb0 hb1 hb2 hb3 hb4 hb5 hb6
    simp [K.rd, K.i0, K.t_none, K.t_reg, K.t_pair, K.t_small, K.t_full, K.t_plain, K.t_index, K.four, hl, hb0, hb1, hb2, hb3, hb4, hb5, hb6, hq]
    omega
theorem K.v1_3 (i : K.Ins) (hop : 0 ≤ i.op ∧ i.op < 256) (hm : 0 ≤ i.imm ∧ i.imm < 4294967296) : K.valid1 3 i = true ↔ (i.sz = 3 ∧ K.rng i = true ∧ i.s = 0 ∧ i.ix = -1 ∧ i.sc = 0 ∧ W.sign (i.imm % 256) 8 = i.imm) := by
  unfold K.valid1
  have hl : K.len 3 = 3 := rfl
  have hw : IntKind.wrap .u8 i.op = i.op := by show i.op % 256 = i.op; omega
  cases hq : ((i.sz != (K.len 3)) || (!(K.rng i))) with
  | true =>
    rw [hl] at hq
    simp at hq ⊢
    intro h1 h2; rcases hq with hq | hq
    · exact absurd h1 hq
    · rw [h2] at hq; cases hq
  | false =>
    have hi := K.in_of hm hq
    rw [hl] at hq
    simp at hq
    rw [cond_false, K.ser_str]
    have hb := K.byt_ser 3 (by decide) i hi
    have e : K.ser 3 i = [i.op, i.d, i.imm % 256] := by unfold K.ser; rw [hw]; rfl
    rw [e] at hb
    obtain ⟨d0, d1, s0, s1, x0, x1, c0, c1, i0, i1⟩ := hi
    rw [e]
    generalize (strOfNums _).data.toList = l at *
    have hb0 := hb 0
    have hb1 := hb 1
    have hb2 := hb 2
    have hb3 := hb 3
    have hb4 := hb 4
    have hb5 := hb 5
    have hb6 := hb 6
    simp at hb0 hb1 hb2 hb3 hb4 hb5 hb6
    simp [K.rd, K.i0, K.t_none, K.t_reg, K.t_pair, K.t_small, K.t_full, K.t_plain, K.t_index, K.four, hl, hb0, hb1, hb2, hb3, hb4, hb5, hb6, hq]
    omega
theorem K.v1_4 (i : K.Ins) (hop : 0 ≤ i.op ∧ i.op < 256) (hm : 0 ≤ i.imm ∧ i.imm < 4294967296) : K.valid1 4 i = true ↔ (i.sz = 6 ∧ K.rng i = true ∧ i.s = 0 ∧ i.ix = -1 ∧ i.sc = 0) := by
  unfold K.valid1
  have hl : K.len 4 = 6 := rfl
  have hw : IntKind.wrap .u8 i.op = i.op := by show i.op % 256 = i.op; omega
  cases hq : ((i.sz != (K.len 4)) || (!(K.rng i))) with
  | true =>
    rw [hl] at hq
    simp at hq ⊢
    intro h1 h2; rcases hq with hq | hq
    · exact absurd h1 hq
    · rw [h2] at hq; cases hq
  | false =>
    have hi := K.in_of hm hq
    rw [hl] at hq
    simp at hq
    rw [cond_false, K.ser_str]
    have hb := K.byt_ser 4 (by decide) i hi
    have e : K.ser 4 i = [i.op, i.d, i.imm % 256, i.imm / 256 % 256, i.imm / 65536 % 256, i.imm / 16777216 % 256] := by unfold K.ser; rw [hw]; rfl
    rw [e] at hb
    obtain ⟨d0, d1, s0, s1, x0, x1, c0, c1, i0, i1⟩ := hi
    rw [e]
    generalize (strOfNums _).data.toList = l at *
    have hb0 := hb 0
    have hb1 := hb 1
    have hb2 := hb 2
    have hb3 := hb 3
    have hb4 := hb 4
    have hb5 := hb 5
    have hb6 := hb 6
    simp at hb0 hb1 hb2 hb3 hb4 hb5 hb6
    simp [K.rd, K.i0, K.t_none, K.t_reg, K.t_pair, K.t_small, K.t_full, K.t_plain, K.t_index, K.four, hl, hb0, hb1, hb2, hb3, hb4, hb5, hb6, hq]
    omega
theorem K.v1_5 (i : K.Ins) (hop : 0 ≤ i.op ∧ i.op < 256) (hm : 0 ≤ i.imm ∧ i.imm < 4294967296) : K.valid1 5 i = true ↔ (i.sz = 3 ∧ K.rng i = true ∧ i.ix = -1 ∧ i.sc = 0 ∧ W.sign (i.imm % 256) 8 = i.imm) := by
  unfold K.valid1
  have hl : K.len 5 = 3 := rfl
  have hw : IntKind.wrap .u8 i.op = i.op := by show i.op % 256 = i.op; omega
  cases hq : ((i.sz != (K.len 5)) || (!(K.rng i))) with
  | true =>
    rw [hl] at hq
    simp at hq ⊢
    intro h1 h2; rcases hq with hq | hq
    · exact absurd h1 hq
    · rw [h2] at hq; cases hq
  | false =>
    have hi := K.in_of hm hq
    rw [hl] at hq
    simp at hq
    rw [cond_false, K.ser_str]
    have hb := K.byt_ser 5 (by decide) i hi
    have e : K.ser 5 i = [i.op, i.d * 16 + i.s, i.imm % 256] := by unfold K.ser; rw [hw]; rfl
    rw [e] at hb
    obtain ⟨d0, d1, s0, s1, x0, x1, c0, c1, i0, i1⟩ := hi
    rw [e]
    generalize (strOfNums _).data.toList = l at *
    have hb0 := hb 0
    have hb1 := hb 1
    have hb2 := hb 2
    have hb3 := hb 3
    have hb4 := hb 4
    have hb5 := hb 5
    have hb6 := hb 6
    simp at hb0 hb1 hb2 hb3 hb4 hb5 hb6
    simp [K.rd, K.i0, K.t_none, K.t_reg, K.t_pair, K.t_small, K.t_full, K.t_plain, K.t_index, K.four, hl, hb0, hb1, hb2, hb3, hb4, hb5, hb6, hq]
    omega
theorem K.v1_6 (i : K.Ins) (hop : 0 ≤ i.op ∧ i.op < 256) (hm : 0 ≤ i.imm ∧ i.imm < 4294967296) : K.valid1 6 i = true ↔ (i.sz = 7 ∧ K.rng i = true ∧ (i.ix = -1 → i.sc = 0)) := by
  unfold K.valid1
  have hl : K.len 6 = 7 := rfl
  have hw : IntKind.wrap .u8 i.op = i.op := by show i.op % 256 = i.op; omega
  cases hq : ((i.sz != (K.len 6)) || (!(K.rng i))) with
  | true =>
    rw [hl] at hq
    simp at hq ⊢
    intro h1 h2; rcases hq with hq | hq
    · exact absurd h1 hq
    · rw [h2] at hq; cases hq
  | false =>
    have hi := K.in_of hm hq
    rw [hl] at hq
    simp at hq
    rw [cond_false, K.ser_str]
    have hb := K.byt_ser 6 (by decide) i hi
    have e : K.ser 6 i = [i.op, i.d * 16 + i.s, if i.ix < 0 then 8 else i.sc * 16 + i.ix, i.imm % 256, i.imm / 256 % 256, i.imm / 65536 % 256, i.imm / 16777216 % 256] := by unfold K.ser; rw [hw]; rfl
    rw [e] at hb
    obtain ⟨d0, d1, s0, s1, x0, x1, c0, c1, i0, i1⟩ := hi
    rw [e]
    generalize (strOfNums _).data.toList = l at *
    have hb0 := hb 0
    have hb1 := hb 1
    have hb2 := hb 2
    have hb3 := hb 3
    have hb4 := hb 4
    have hb5 := hb 5
    have hb6 := hb 6
    simp at hb0 hb1 hb2 hb3 hb4 hb5 hb6
    by_cases hx : i.ix < 0
    · rw [if_pos hx] at hb2
      have hx' : i.ix = -1 := by omega
      simp [K.rd, K.i0, K.t_none, K.t_reg, K.t_pair, K.t_small, K.t_full, K.t_plain, K.t_index, K.four, hl, hb0, hb1, hb2, hb3, hb4, hb5, hb6, hq]
      omega
    · rw [if_neg hx] at hb2
      have h8 : ¬ (i.sc * 16 + i.ix = 8) := by omega
      simp [K.rd, K.i0, K.t_none, K.t_reg, K.t_pair, K.t_small, K.t_full, K.t_plain, K.t_index, K.four, hl, hb0, hb1, hb2, hb3, hb4, hb5, hb6, hq, h8]
      omega
theorem K.v1_7 (i : K.Ins) (hop : 0 ≤ i.op ∧ i.op < 256) (hm : 0 ≤ i.imm ∧ i.imm < 4294967296) : K.valid1 7 i = true ↔ (i.sz = 2 ∧ K.rng i = true ∧ i.d = 0 ∧ i.s = 0 ∧ i.ix = -1 ∧ i.sc = 0 ∧ W.sign (i.imm % 256) 8 = i.imm) := by
  unfold K.valid1
  have hl : K.len 7 = 2 := rfl
  have hw : IntKind.wrap .u8 i.op = i.op := by show i.op % 256 = i.op; omega
  cases hq : ((i.sz != (K.len 7)) || (!(K.rng i))) with
  | true =>
    rw [hl] at hq
    simp at hq ⊢
    intro h1 h2; rcases hq with hq | hq
    · exact absurd h1 hq
    · rw [h2] at hq; cases hq
  | false =>
    have hi := K.in_of hm hq
    rw [hl] at hq
    simp at hq
    rw [cond_false, K.ser_str]
    have hb := K.byt_ser 7 (by decide) i hi
    have e : K.ser 7 i = [i.op, i.imm % 256] := by unfold K.ser; rw [hw]; rfl
    rw [e] at hb
    obtain ⟨d0, d1, s0, s1, x0, x1, c0, c1, i0, i1⟩ := hi
    rw [e]
    generalize (strOfNums _).data.toList = l at *
    have hb0 := hb 0
    have hb1 := hb 1
    have hb2 := hb 2
    have hb3 := hb 3
    have hb4 := hb 4
    have hb5 := hb 5
    have hb6 := hb 6
    simp at hb0 hb1 hb2 hb3 hb4 hb5 hb6
    simp [K.rd, K.i0, K.t_none, K.t_reg, K.t_pair, K.t_small, K.t_full, K.t_plain, K.t_index, K.four, hl, hb0, hb1, hb2, hb3, hb4, hb5, hb6, hq]
    omega
theorem K.v1_8 (i : K.Ins) (hop : 0 ≤ i.op ∧ i.op < 256) (hm : 0 ≤ i.imm ∧ i.imm < 4294967296) : K.valid1 8 i = true ↔ (i.sz = 5 ∧ K.rng i = true ∧ i.d = 0 ∧ i.s = 0 ∧ i.ix = -1 ∧ i.sc = 0) := by
  unfold K.valid1
  have hl : K.len 8 = 5 := rfl
  have hw : IntKind.wrap .u8 i.op = i.op := by show i.op % 256 = i.op; omega
  cases hq : ((i.sz != (K.len 8)) || (!(K.rng i))) with
  | true =>
    rw [hl] at hq
    simp at hq ⊢
    intro h1 h2; rcases hq with hq | hq
    · exact absurd h1 hq
    · rw [h2] at hq; cases hq
  | false =>
    have hi := K.in_of hm hq
    rw [hl] at hq
    simp at hq
    rw [cond_false, K.ser_str]
    have hb := K.byt_ser 8 (by decide) i hi
    have e : K.ser 8 i = [i.op, i.imm % 256, i.imm / 256 % 256, i.imm / 65536 % 256, i.imm / 16777216 % 256] := by unfold K.ser; rw [hw]; rfl
    rw [e] at hb
    obtain ⟨d0, d1, s0, s1, x0, x1, c0, c1, i0, i1⟩ := hi
    rw [e]
    generalize (strOfNums _).data.toList = l at *
    have hb0 := hb 0
    have hb1 := hb 1
    have hb2 := hb 2
    have hb3 := hb 3
    have hb4 := hb 4
    have hb5 := hb 5
    have hb6 := hb 6
    simp at hb0 hb1 hb2 hb3 hb4 hb5 hb6
    simp [K.rd, K.i0, K.t_none, K.t_reg, K.t_pair, K.t_small, K.t_full, K.t_plain, K.t_index, K.four, hl, hb0, hb1, hb2, hb3, hb4, hb5, hb6, hq]
    omega
theorem K.v1_9 (i : K.Ins) (hop : 0 ≤ i.op ∧ i.op < 256) (hm : 0 ≤ i.imm ∧ i.imm < 4294967296) : K.valid1 9 i = true ↔ (i.sz = 2 ∧ K.rng i = true ∧ i.d = 0 ∧ i.s = 0 ∧ i.ix = -1 ∧ i.sc = 0 ∧ i.imm < 256) := by
  unfold K.valid1
  have hl : K.len 9 = 2 := rfl
  have hw : IntKind.wrap .u8 i.op = i.op := by show i.op % 256 = i.op; omega
  cases hq : ((i.sz != (K.len 9)) || (!(K.rng i))) with
  | true =>
    rw [hl] at hq
    simp at hq ⊢
    intro h1 h2; rcases hq with hq | hq
    · exact absurd h1 hq
    · rw [h2] at hq; cases hq
  | false =>
    have hi := K.in_of hm hq
    rw [hl] at hq
    simp at hq
    rw [cond_false, K.ser_str]
    have hb := K.byt_ser 9 (by decide) i hi
    have e : K.ser 9 i = [i.op, i.imm % 256] := by unfold K.ser; rw [hw]; rfl
    rw [e] at hb
    obtain ⟨d0, d1, s0, s1, x0, x1, c0, c1, i0, i1⟩ := hi
    rw [e]
    generalize (strOfNums _).data.toList = l at *
    have hb0 := hb 0
    have hb1 := hb 1
    have hb2 := hb 2
    have hb3 := hb 3
    have hb4 := hb 4
    have hb5 := hb 5
    have hb6 := hb 6
    simp at hb0 hb1 hb2 hb3 hb4 hb5 hb6
    simp [K.rd, K.i0, K.t_none, K.t_reg, K.t_pair, K.t_small, K.t_full, K.t_plain, K.t_index, K.four, hl, hb0, hb1, hb2, hb3, hb4, hb5, hb6, hq]
    omega
theorem K.v1_10 (i : K.Ins) (hop : 0 ≤ i.op ∧ i.op < 256) (hm : 0 ≤ i.imm ∧ i.imm < 4294967296) : K.valid1 10 i = true ↔ (i.sz = 2 ∧ K.rng i = true ∧ i.ix = -1 ∧ i.sc = 0 ∧ i.imm = 0) := by
  unfold K.valid1
  have hl : K.len 10 = 2 := rfl
  have hw : IntKind.wrap .u8 i.op = i.op := by show i.op % 256 = i.op; omega
  cases hq : ((i.sz != (K.len 10)) || (!(K.rng i))) with
  | true =>
    rw [hl] at hq
    simp at hq ⊢
    intro h1 h2; rcases hq with hq | hq
    · exact absurd h1 hq
    · rw [h2] at hq; cases hq
  | false =>
    have hi := K.in_of hm hq
    rw [hl] at hq
    simp at hq
    rw [cond_false, K.ser_str]
    have hb := K.byt_ser 10 (by decide) i hi
    have e : K.ser 10 i = [i.op, i.d * 16 + i.s] := by unfold K.ser; rw [hw]; rfl
    rw [e] at hb
    obtain ⟨d0, d1, s0, s1, x0, x1, c0, c1, i0, i1⟩ := hi
    rw [e]
    generalize (strOfNums _).data.toList = l at *
    have hb0 := hb 0
    have hb1 := hb 1
    have hb2 := hb 2
    have hb3 := hb 3
    have hb4 := hb 4
    have hb5 := hb 5
    have hb6 := hb 6
    simp at hb0 hb1 hb2 hb3 hb4 hb5 hb6
    simp [K.rd, K.i0, K.t_none, K.t_reg, K.t_pair, K.t_small, K.t_full, K.t_plain, K.t_index, K.four, hl, hb0, hb1, hb2, hb3, hb4, hb5, hb6, hq]
    omega
theorem K.sign8F : ∀ n : Fin 256, W.sign (n.val : Int) 8 = if n.val < 128 then (n.val : Int) else n.val + 4294967040 := by decide +kernel
theorem K.sign8 (b : Int) (h0 : 0 ≤ b) (h1 : b < 256) : W.sign b 8 = if b < 128 then b else b + 4294967040 := by
  obtain ⟨n, rfl⟩ := Int.eq_ofNat_of_zero_le h0
  have := K.sign8F ⟨n, by omega⟩
  simp only at this
  rw [this]
  by_cases h : n < 128
  · rw [if_pos h, if_pos (by omega)]
  · rw [if_neg h, if_neg (by omega)]
theorem K.sign_iff (n : Int) (h0 : 0 ≤ n) (h1 : n < 4294967296) : W.sign (n % 256) 8 = n ↔ R2.signed n = true := by
  rw [K.sign8 _ (by omega) (by omega)]
  unfold R2.signed
  simp only [Bool.or_eq_true, decide_eq_true_eq]
  split <;> omega
theorem K.w8 (n : Int) (h0 : 0 ≤ n) (h1 : n < 256) : IntKind.wrap .u8 n = n := by show n % 256 = n; omega
theorem K.w64 (n : Int) (h0 : -9223372036854775808 ≤ n) (h1 : n < 9223372036854775808) : IntKind.wrap .i64 n = n := IntWalk.i64_in n (by omega)
theorem K.valid_eq (i : K.Ins) (hm : 0 ≤ i.imm ∧ i.imm < 4294967296) : K.valid i = R2.Valid i := by
  rw [Bool.eq_iff_iff]
  have hsg := K.sign_iff i.imm hm.1 hm.2
  unfold K.valid
  rcases K.fmt_cases i.op with ⟨hk, hf⟩ | ⟨hk, hf, h1, h2⟩ | ⟨hk, hf, h1, h2⟩ | ⟨hk, hf, h1, h2⟩ | ⟨hk, hf, h1, h2⟩ | ⟨hk, hf, h1, h2⟩ | ⟨hk, hf, h1, h2⟩ | ⟨hk, hf, h1, h2⟩ | ⟨hk, hf, h1, h2⟩ | ⟨hk, hf, h1, h2⟩ | ⟨hk, hf, h1⟩ | ⟨hk, hf, h1⟩ | ⟨hk, hf, h1⟩
  · rw [hk]; unfold R2.Valid; rw [hf]; simp
  · rw [hk]
    have e1 := K.w8 i.op (by omega) (by omega)
    have e2 := K.w64 i.op (by omega) (by omega)
    have hz : R2.Size (IntKind.wrap .u8 i.op) = 1 := by unfold R2.Size; rw [e1, e2, hf]; rfl
    have hmo : K.most i.op = 7 := by unfold K.most; rw [if_neg (by omega), if_neg (by omega)]
    show K.valid1 0 i = true ↔ _
    rw [K.v1_0 i ⟨by omega, by omega⟩ hm]
    unfold K.rng R2.Valid R2.reg
    rw [hf, hz, hmo]
    simp only [K.in_one, hsg]
    cases R2.signed i.imm <;> simp <;> omega
  · rw [hk]
    have e1 := K.w8 i.op (by omega) (by omega)
    have e2 := K.w64 i.op (by omega) (by omega)
    have hz : R2.Size (IntKind.wrap .u8 i.op) = 2 := by unfold R2.Size; rw [e1, e2, hf]; rfl
    have hmo : K.most i.op = 7 := by unfold K.most; rw [if_neg (by omega), if_neg (by omega)]
    show K.valid1 1 i = true ↔ _
    rw [K.v1_1 i ⟨by omega, by omega⟩ hm]
    unfold K.rng R2.Valid R2.reg
    rw [hf, hz, hmo]
    simp only [K.in_one, hsg]
    cases R2.signed i.imm <;> simp <;> omega
  · rw [hk]
    have e1 := K.w8 i.op (by omega) (by omega)
    have e2 := K.w64 i.op (by omega) (by omega)
    have hz : R2.Size (IntKind.wrap .u8 i.op) = 2 := by unfold R2.Size; rw [e1, e2, hf]; rfl
    have hmo : K.most i.op = 7 := by unfold K.most; rw [if_neg (by omega), if_neg (by omega)]
    show K.valid1 2 i = true ↔ _
    rw [K.v1_2 i ⟨by omega, by omega⟩ hm]
    unfold K.rng R2.Valid R2.reg
    rw [hf, hz, hmo]
    simp only [K.in_one, hsg]
    cases R2.signed i.imm <;> simp <;> omega
  · rw [hk]
    have e1 := K.w8 i.op (by omega) (by omega)
    have e2 := K.w64 i.op (by omega) (by omega)
    have hz : R2.Size (IntKind.wrap .u8 i.op) = 3 := by unfold R2.Size; rw [e1, e2, hf]; rfl
    have hmo : K.most i.op = 7 := by unfold K.most; rw [if_neg (by omega), if_neg (by omega)]
    show K.valid1 3 i = true ↔ _
    rw [K.v1_3 i ⟨by omega, by omega⟩ hm]
    unfold K.rng R2.Valid R2.reg
    rw [hf, hz, hmo]
    simp only [K.in_one, hsg]
    cases R2.signed i.imm <;> simp <;> omega
  · rw [hk]
    have e1 := K.w8 i.op (by omega) (by omega)
    have e2 := K.w64 i.op (by omega) (by omega)
    have hz : R2.Size (IntKind.wrap .u8 i.op) = 6 := by unfold R2.Size; rw [e1, e2, hf]; rfl
    have hmo : K.most i.op = 7 := by unfold K.most; rw [if_neg (by omega), if_neg (by omega)]
    show K.valid1 4 i = true ↔ _
    rw [K.v1_4 i ⟨by omega, by omega⟩ hm]
    unfold K.rng R2.Valid R2.reg
    rw [hf, hz, hmo]
    simp only [K.in_one, hsg]
    cases R2.signed i.imm <;> simp <;> omega
  · rw [hk]
    have e1 := K.w8 i.op (by omega) (by omega)
    have e2 := K.w64 i.op (by omega) (by omega)
    have hz : R2.Size (IntKind.wrap .u8 i.op) = 3 := by unfold R2.Size; rw [e1, e2, hf]; rfl
    have hmo : K.most i.op = 7 := by unfold K.most; rw [if_neg (by omega), if_neg (by omega)]
    show K.valid1 5 i = true ↔ _
    rw [K.v1_5 i ⟨by omega, by omega⟩ hm]
    unfold K.rng R2.Valid R2.reg
    rw [hf, hz, hmo]
    simp only [K.in_one, hsg]
    cases R2.signed i.imm <;> simp <;> omega
  · rw [hk]
    have e1 := K.w8 i.op (by omega) (by omega)
    have e2 := K.w64 i.op (by omega) (by omega)
    have hz : R2.Size (IntKind.wrap .u8 i.op) = 7 := by unfold R2.Size; rw [e1, e2, hf]; rfl
    have hmo : K.most i.op = 7 := by unfold K.most; rw [if_neg (by omega), if_neg (by omega)]
    show K.valid1 6 i = true ↔ _
    rw [K.v1_6 i ⟨by omega, by omega⟩ hm]
    unfold K.rng R2.Valid R2.reg
    rw [hf, hz, hmo]
    simp only [K.in_one, hsg]
    by_cases hx : i.ix = -1
    · simp [hx]; omega
    · simp [hx]; omega
  · rw [hk]
    have e1 := K.w8 i.op (by omega) (by omega)
    have e2 := K.w64 i.op (by omega) (by omega)
    have hz : R2.Size (IntKind.wrap .u8 i.op) = 2 := by unfold R2.Size; rw [e1, e2, hf]; rfl
    have hmo : K.most i.op = 7 := by unfold K.most; rw [if_neg (by omega), if_neg (by omega)]
    show K.valid1 7 i = true ↔ _
    rw [K.v1_7 i ⟨by omega, by omega⟩ hm]
    unfold K.rng R2.Valid R2.reg
    rw [hf, hz, hmo]
    simp only [K.in_one, hsg]
    cases R2.signed i.imm <;> simp <;> omega
  · rw [hk]
    have e1 := K.w8 i.op (by omega) (by omega)
    have e2 := K.w64 i.op (by omega) (by omega)
    have hz : R2.Size (IntKind.wrap .u8 i.op) = 5 := by unfold R2.Size; rw [e1, e2, hf]; rfl
    have hmo : K.most i.op = 7 := by unfold K.most; rw [if_neg (by omega), if_neg (by omega)]
    show K.valid1 8 i = true ↔ _
    rw [K.v1_8 i ⟨by omega, by omega⟩ hm]
    unfold K.rng R2.Valid R2.reg
    rw [hf, hz, hmo]
    simp only [K.in_one, hsg]
    cases R2.signed i.imm <;> simp <;> omega
  · rw [hk]
    have e1 := K.w8 i.op (by omega) (by omega)
    have e2 := K.w64 i.op (by omega) (by omega)
    have hz : R2.Size (IntKind.wrap .u8 i.op) = 2 := by unfold R2.Size; rw [e1, e2, hf]; rfl
    have hmo : K.most i.op = 7 := by unfold K.most; rw [if_neg (by omega), if_neg (by omega)]
    show K.valid1 9 i = true ↔ _
    rw [K.v1_9 i ⟨by omega, by omega⟩ hm]
    unfold K.rng R2.Valid R2.reg
    rw [hf, hz, hmo]
    simp only [K.in_one, hsg]
    cases R2.signed i.imm <;> simp <;> omega
  · rw [hk]
    have e1 := K.w8 i.op (by omega) (by omega)
    have e2 := K.w64 i.op (by omega) (by omega)
    have hz : R2.Size (IntKind.wrap .u8 i.op) = 2 := by unfold R2.Size; rw [e1, e2, hf]; rfl
    have hmo : K.most i.op = 3 := by unfold K.most; rw [if_pos h1]
    show K.valid1 10 i = true ↔ _
    rw [K.v1_10 i ⟨by omega, by omega⟩ hm]
    unfold K.rng R2.Valid R2.reg
    rw [hf, hz, hmo]
    simp only [K.in_one, hsg]
    cases R2.signed i.imm <;> simp <;> omega
  · rw [hk]
    have e1 := K.w8 i.op (by omega) (by omega)
    have e2 := K.w64 i.op (by omega) (by omega)
    have hz : R2.Size (IntKind.wrap .u8 i.op) = 2 := by unfold R2.Size; rw [e1, e2, hf]; rfl
    have hmo : K.most i.op = 4 := by unfold K.most; rw [if_neg (by omega), if_pos h1]
    show K.valid1 10 i = true ↔ _
    rw [K.v1_10 i ⟨by omega, by omega⟩ hm]
    unfold K.rng R2.Valid R2.reg
    rw [hf, hz, hmo]
    simp only [K.in_one, hsg]
    cases R2.signed i.imm <;> simp <;> omega
theorem K.wu8 (n : Int) : IntKind.wrap .u8 n = n % 256 := rfl
theorem K.wu32 (n : Int) : IntKind.wrap .u32 n = n % 4294967296 := rfl
theorem K.str_congr {a b : List Int} (h : a = b) : strOfNums a = strOfNums b := by rw [h]
theorem K.encode_eq (i : K.Ins) (hm : 0 ≤ i.imm ∧ i.imm < 4294967296) : K.encode i = R2.Encode i := by
  have hv := K.valid_eq i hm
  unfold K.valid at hv
  unfold K.encode
  rcases K.fmt_cases i.op with ⟨hk, hf⟩ | ⟨hk, hf, h1, h2⟩ | ⟨hk, hf, h1, h2⟩ | ⟨hk, hf, h1, h2⟩ | ⟨hk, hf, h1, h2⟩ | ⟨hk, hf, h1, h2⟩ | ⟨hk, hf, h1, h2⟩ | ⟨hk, hf, h1, h2⟩ | ⟨hk, hf, h1, h2⟩ | ⟨hk, hf, h1, h2⟩ | ⟨hk, hf, h1⟩ | ⟨hk, hf, h1⟩ | ⟨hk, hf, h1⟩
  · rw [hk] at hv ⊢
    have hv : false = R2.Valid i := hv
    unfold K.encode0 R2.Encode; rw [← hv]; rfl
  · rw [hk] at hv ⊢
    have hv : K.valid1 0 i = R2.Valid i := hv
    show K.encode1 0 i = _
    unfold K.encode1 R2.Encode
    rw [← hv]
    cases hq : (!(K.valid1 0 i)) with
    | true => rfl
    | false =>
      obtain ⟨d0, d1, s0, s1, x0, x1, c0, c1, i0, i1⟩ := K.in_valid hm hq
      have e1 := K.w8 i.op (by omega) (by omega)
      have e2 := K.w64 (16 * i.d) (by omega) (by omega)
      have e3 := K.w64 (16 * i.d + i.s) (by omega) (by omega)
      have e4 := K.w64 (16 * i.sc) (by omega) (by omega)
      have e : K.ser 0 i = [i.op] := by unfold K.ser; rw [e1]; rfl
      rw [cond_false, cond_false, K.ser_str, e, hf]
      simp only [e1, e2, e3, K.wu8, K.wu32, Int.tdiv_eq_ediv_of_nonneg i0, Int.reduceBEq, cond_false, cond_true]
      all_goals (refine congrArg (·, 0) (K.str_congr ?_); simp only [List.cons.injEq, and_true, true_and] <;> omega)
  · rw [hk] at hv ⊢
    have hv : K.valid1 1 i = R2.Valid i := hv
    show K.encode1 1 i = _
    unfold K.encode1 R2.Encode
    rw [← hv]
    cases hq : (!(K.valid1 1 i)) with
    | true => rfl
    | false =>
      obtain ⟨d0, d1, s0, s1, x0, x1, c0, c1, i0, i1⟩ := K.in_valid hm hq
      have e1 := K.w8 i.op (by omega) (by omega)
      have e2 := K.w64 (16 * i.d) (by omega) (by omega)
      have e3 := K.w64 (16 * i.d + i.s) (by omega) (by omega)
      have e4 := K.w64 (16 * i.sc) (by omega) (by omega)
      have e : K.ser 1 i = [i.op, i.d] := by unfold K.ser; rw [e1]; rfl
      rw [cond_false, cond_false, K.ser_str, e, hf]
      simp only [e1, e2, e3, K.wu8, K.wu32, Int.tdiv_eq_ediv_of_nonneg i0, Int.reduceBEq, cond_false, cond_true]
      all_goals (refine congrArg (·, 0) (K.str_congr ?_); simp only [List.cons.injEq, and_true, true_and] <;> omega)
  · rw [hk] at hv ⊢
    have hv : K.valid1 2 i = R2.Valid i := hv
    show K.encode1 2 i = _
    unfold K.encode1 R2.Encode
    rw [← hv]
    cases hq : (!(K.valid1 2 i)) with
    | true => rfl
    | false =>
      obtain ⟨d0, d1, s0, s1, x0, x1, c0, c1, i0, i1⟩ := K.in_valid hm hq
      have e1 := K.w8 i.op (by omega) (by omega)
      have e2 := K.w64 (16 * i.d) (by omega) (by omega)
      have e3 := K.w64 (16 * i.d + i.s) (by omega) (by omega)
      have e4 := K.w64 (16 * i.sc) (by omega) (by omega)
      have e : K.ser 2 i = [i.op, i.d * 16 + i.s] := by unfold K.ser; rw [e1]; rfl
      rw [cond_false, cond_false, K.ser_str, e, hf]
      simp only [e1, e2, e3, K.wu8, K.wu32, Int.tdiv_eq_ediv_of_nonneg i0, Int.reduceBEq, cond_false, cond_true]
      all_goals (refine congrArg (·, 0) (K.str_congr ?_); simp only [List.cons.injEq, and_true, true_and] <;> omega)
  · rw [hk] at hv ⊢
    have hv : K.valid1 3 i = R2.Valid i := hv
    show K.encode1 3 i = _
    unfold K.encode1 R2.Encode
    rw [← hv]
    cases hq : (!(K.valid1 3 i)) with
    | true => rfl
    | false =>
      obtain ⟨d0, d1, s0, s1, x0, x1, c0, c1, i0, i1⟩ := K.in_valid hm hq
      have e1 := K.w8 i.op (by omega) (by omega)
      have e2 := K.w64 (16 * i.d) (by omega) (by omega)
      have e3 := K.w64 (16 * i.d + i.s) (by omega) (by omega)
      have e4 := K.w64 (16 * i.sc) (by omega) (by omega)
      have e : K.ser 3 i = [i.op, i.d, i.imm % 256] := by unfold K.ser; rw [e1]; rfl
      rw [cond_false, cond_false, K.ser_str, e, hf]
      simp only [e1, e2, e3, K.wu8, K.wu32, Int.tdiv_eq_ediv_of_nonneg i0, Int.reduceBEq, cond_false, cond_true]
      all_goals (refine congrArg (·, 0) (K.str_congr ?_); simp only [List.cons.injEq, and_true, true_and] <;> omega)
  · rw [hk] at hv ⊢
    have hv : K.valid1 4 i = R2.Valid i := hv
    show K.encode1 4 i = _
    unfold K.encode1 R2.Encode
    rw [← hv]
    cases hq : (!(K.valid1 4 i)) with
    | true => rfl
    | false =>
      obtain ⟨d0, d1, s0, s1, x0, x1, c0, c1, i0, i1⟩ := K.in_valid hm hq
      have e1 := K.w8 i.op (by omega) (by omega)
      have e2 := K.w64 (16 * i.d) (by omega) (by omega)
      have e3 := K.w64 (16 * i.d + i.s) (by omega) (by omega)
      have e4 := K.w64 (16 * i.sc) (by omega) (by omega)
      have e : K.ser 4 i = [i.op, i.d, i.imm % 256, i.imm / 256 % 256, i.imm / 65536 % 256, i.imm / 16777216 % 256] := by unfold K.ser; rw [e1]; rfl
      rw [cond_false, cond_false, K.ser_str, e, hf]
      simp only [e1, e2, e3, K.wu8, K.wu32, Int.tdiv_eq_ediv_of_nonneg i0, Int.reduceBEq, cond_false, cond_true]
      all_goals (refine congrArg (·, 0) (K.str_congr ?_); simp only [List.cons.injEq, and_true, true_and] <;> omega)
  · rw [hk] at hv ⊢
    have hv : K.valid1 5 i = R2.Valid i := hv
    show K.encode1 5 i = _
    unfold K.encode1 R2.Encode
    rw [← hv]
    cases hq : (!(K.valid1 5 i)) with
    | true => rfl
    | false =>
      obtain ⟨d0, d1, s0, s1, x0, x1, c0, c1, i0, i1⟩ := K.in_valid hm hq
      have e1 := K.w8 i.op (by omega) (by omega)
      have e2 := K.w64 (16 * i.d) (by omega) (by omega)
      have e3 := K.w64 (16 * i.d + i.s) (by omega) (by omega)
      have e4 := K.w64 (16 * i.sc) (by omega) (by omega)
      have e : K.ser 5 i = [i.op, i.d * 16 + i.s, i.imm % 256] := by unfold K.ser; rw [e1]; rfl
      rw [cond_false, cond_false, K.ser_str, e, hf]
      simp only [e1, e2, e3, K.wu8, K.wu32, Int.tdiv_eq_ediv_of_nonneg i0, Int.reduceBEq, cond_false, cond_true]
      all_goals (refine congrArg (·, 0) (K.str_congr ?_); simp only [List.cons.injEq, and_true, true_and] <;> omega)
  · rw [hk] at hv ⊢
    have hv : K.valid1 6 i = R2.Valid i := hv
    show K.encode1 6 i = _
    unfold K.encode1 R2.Encode
    rw [← hv]
    cases hq : (!(K.valid1 6 i)) with
    | true => rfl
    | false =>
      obtain ⟨d0, d1, s0, s1, x0, x1, c0, c1, i0, i1⟩ := K.in_valid hm hq
      have e1 := K.w8 i.op (by omega) (by omega)
      have e2 := K.w64 (16 * i.d) (by omega) (by omega)
      have e3 := K.w64 (16 * i.d + i.s) (by omega) (by omega)
      have e4 := K.w64 (16 * i.sc) (by omega) (by omega)
      have e : K.ser 6 i = [i.op, i.d * 16 + i.s, if i.ix < 0 then 8 else i.sc * 16 + i.ix, i.imm % 256, i.imm / 256 % 256, i.imm / 65536 % 256, i.imm / 16777216 % 256] := by unfold K.ser; rw [e1]; rfl
      rw [cond_false, cond_false, K.ser_str, e, hf]
      simp only [e1, e2, e3, K.wu8, K.wu32, Int.tdiv_eq_ediv_of_nonneg i0, Int.reduceBEq, cond_false, cond_true]
      by_cases hx : i.ix < 0
      · rw [if_pos hx, show decide (i.ix ≥ 0) = false by simp; omega, cond_false]
        refine congrArg (·, 0) (K.str_congr ?_)
        simp only [List.cons.injEq, and_true, true_and] <;> omega
      · have e5 := K.w64 (i.ix + 16 * i.sc) (by omega) (by omega)
        rw [if_neg hx, show decide (i.ix ≥ 0) = true by simp; omega, cond_true]
        simp only [e4, e5]
        refine congrArg (·, 0) (K.str_congr ?_)
        simp only [List.cons.injEq, and_true, true_and] <;> omega
  · rw [hk] at hv ⊢
    have hv : K.valid1 7 i = R2.Valid i := hv
    show K.encode1 7 i = _
    unfold K.encode1 R2.Encode
    rw [← hv]
    cases hq : (!(K.valid1 7 i)) with
    | true => rfl
    | false =>
      obtain ⟨d0, d1, s0, s1, x0, x1, c0, c1, i0, i1⟩ := K.in_valid hm hq
      have e1 := K.w8 i.op (by omega) (by omega)
      have e2 := K.w64 (16 * i.d) (by omega) (by omega)
      have e3 := K.w64 (16 * i.d + i.s) (by omega) (by omega)
      have e4 := K.w64 (16 * i.sc) (by omega) (by omega)
      have e : K.ser 7 i = [i.op, i.imm % 256] := by unfold K.ser; rw [e1]; rfl
      rw [cond_false, cond_false, K.ser_str, e, hf]
      simp only [e1, e2, e3, K.wu8, K.wu32, Int.tdiv_eq_ediv_of_nonneg i0, Int.reduceBEq, cond_false, cond_true]
      all_goals (refine congrArg (·, 0) (K.str_congr ?_); simp only [List.cons.injEq, and_true, true_and] <;> omega)
  · rw [hk] at hv ⊢
    have hv : K.valid1 8 i = R2.Valid i := hv
    show K.encode1 8 i = _
    unfold K.encode1 R2.Encode
    rw [← hv]
    cases hq : (!(K.valid1 8 i)) with
    | true => rfl
    | false =>
      obtain ⟨d0, d1, s0, s1, x0, x1, c0, c1, i0, i1⟩ := K.in_valid hm hq
      have e1 := K.w8 i.op (by omega) (by omega)
      have e2 := K.w64 (16 * i.d) (by omega) (by omega)
      have e3 := K.w64 (16 * i.d + i.s) (by omega) (by omega)
      have e4 := K.w64 (16 * i.sc) (by omega) (by omega)
      have e : K.ser 8 i = [i.op, i.imm % 256, i.imm / 256 % 256, i.imm / 65536 % 256, i.imm / 16777216 % 256] := by unfold K.ser; rw [e1]; rfl
      rw [cond_false, cond_false, K.ser_str, e, hf]
      simp only [e1, e2, e3, K.wu8, K.wu32, Int.tdiv_eq_ediv_of_nonneg i0, Int.reduceBEq, cond_false, cond_true]
      all_goals (refine congrArg (·, 0) (K.str_congr ?_); simp only [List.cons.injEq, and_true, true_and] <;> omega)
  · rw [hk] at hv ⊢
    have hv : K.valid1 9 i = R2.Valid i := hv
    show K.encode1 9 i = _
    unfold K.encode1 R2.Encode
    rw [← hv]
    cases hq : (!(K.valid1 9 i)) with
    | true => rfl
    | false =>
      obtain ⟨d0, d1, s0, s1, x0, x1, c0, c1, i0, i1⟩ := K.in_valid hm hq
      have e1 := K.w8 i.op (by omega) (by omega)
      have e2 := K.w64 (16 * i.d) (by omega) (by omega)
      have e3 := K.w64 (16 * i.d + i.s) (by omega) (by omega)
      have e4 := K.w64 (16 * i.sc) (by omega) (by omega)
      have e : K.ser 9 i = [i.op, i.imm % 256] := by unfold K.ser; rw [e1]; rfl
      rw [cond_false, cond_false, K.ser_str, e, hf]
      simp only [e1, e2, e3, K.wu8, K.wu32, Int.tdiv_eq_ediv_of_nonneg i0, Int.reduceBEq, cond_false, cond_true]
      all_goals (refine congrArg (·, 0) (K.str_congr ?_); simp only [List.cons.injEq, and_true, true_and] <;> omega)
  · rw [hk] at hv ⊢
    have hv : K.valid1 10 i = R2.Valid i := hv
    show K.encode1 10 i = _
    unfold K.encode1 R2.Encode
    rw [← hv]
    cases hq : (!(K.valid1 10 i)) with
    | true => rfl
    | false =>
      obtain ⟨d0, d1, s0, s1, x0, x1, c0, c1, i0, i1⟩ := K.in_valid hm hq
      have e1 := K.w8 i.op (by omega) (by omega)
      have e2 := K.w64 (16 * i.d) (by omega) (by omega)
      have e3 := K.w64 (16 * i.d + i.s) (by omega) (by omega)
      have e4 := K.w64 (16 * i.sc) (by omega) (by omega)
      have e : K.ser 10 i = [i.op, i.d * 16 + i.s] := by unfold K.ser; rw [e1]; rfl
      rw [cond_false, cond_false, K.ser_str, e, hf]
      simp only [e1, e2, e3, K.wu8, K.wu32, Int.tdiv_eq_ediv_of_nonneg i0, Int.reduceBEq, cond_false, cond_true]
      all_goals (refine congrArg (·, 0) (K.str_congr ?_); simp only [List.cons.injEq, and_true, true_and] <;> omega)
  · rw [hk] at hv ⊢
    have hv : K.valid1 10 i = R2.Valid i := hv
    show K.encode1 10 i = _
    unfold K.encode1 R2.Encode
    rw [← hv]
    cases hq : (!(K.valid1 10 i)) with
    | true => rfl
    | false =>
      obtain ⟨d0, d1, s0, s1, x0, x1, c0, c1, i0, i1⟩ := K.in_valid hm hq
      have e1 := K.w8 i.op (by omega) (by omega)
      have e2 := K.w64 (16 * i.d) (by omega) (by omega)
      have e3 := K.w64 (16 * i.d + i.s) (by omega) (by omega)
      have e4 := K.w64 (16 * i.sc) (by omega) (by omega)
      have e : K.ser 10 i = [i.op, i.d * 16 + i.s] := by unfold K.ser; rw [e1]; rfl
      rw [cond_false, cond_false, K.ser_str, e, hf]
      simp only [e1, e2, e3, K.wu8, K.wu32, Int.tdiv_eq_ediv_of_nonneg i0, Int.reduceBEq, cond_false, cond_true]
      all_goals (refine congrArg (·, 0) (K.str_congr ?_); simp only [List.cons.injEq, and_true, true_and] <;> omega)
theorem K.size_eq (x : Int) (h0 : 0 ≤ x) (h1 : x < 256) : K.size x = R2.Size x := by
  unfold K.size R2.Size
  rcases K.fmt_cases (IntKind.wrap .i64 x) with ⟨hk, hf⟩ | ⟨hk, hf, h1, h2⟩ | ⟨hk, hf, h1, h2⟩ | ⟨hk, hf, h1, h2⟩ | ⟨hk, hf, h1, h2⟩ | ⟨hk, hf, h1, h2⟩ | ⟨hk, hf, h1, h2⟩ | ⟨hk, hf, h1, h2⟩ | ⟨hk, hf, h1, h2⟩ | ⟨hk, hf, h1, h2⟩ | ⟨hk, hf, h1⟩ | ⟨hk, hf, h1⟩ | ⟨hk, hf, h1⟩ <;> rw [hk, hf] <;> rfl
theorem R2.byt_from (s : ByteArray) (m j : Nat) (hm : m ≤ s.size) : W.byt (s.extract m s.size).data.toList j = W.byt s.data.toList (m + j) := by
  unfold W.byt
  congr 2
  have e : (s.extract m s.size).data.toList = s.data.toList.drop m := by
    rw [ByteArray.data_extract, Array.toList_extract]
    have : s.size = s.data.toList.length := by rw [Array.length_toList]; rfl
    rw [this, List.extract_eq_take_drop]
    rw [List.take_of_length_le (by simp)]
  rw [e]; simp [List.getD, List.getElem?_drop]
theorem R2.extend_eq (x : Int) (h0 : 0 ≤ x) (h1 : x < 256) : R2.extend x = W.sign x 8 := by
  rw [K.sign8 x h0 h1]
  unfold R2.extend
  simp only [K.wu32, Bool.cond_eq_ite, decide_eq_true_eq]
  split <;> split <;> omega
theorem R2.long_eq (s : ByteArray) (m : Nat) (hm : m + 4 ≤ s.size) : R2.long (s.extract m s.size) = K.four s.data.toList m := by
  unfold R2.long K.four
  have b0 := W.byt_bd s.data.toList m
  have b1 := W.byt_bd s.data.toList (m + 1)
  have b2 := W.byt_bd s.data.toList (m + 2)
  have b3 := W.byt_bd s.data.toList (m + 3)
  simp only [R2.byt_from s m _ (by omega : m ≤ s.size), K.wu32, Nat.add_zero]
  omega
theorem K.wb (l : List UInt8) (n : Nat) : IntKind.wrap .i64 (W.byt l n) = W.byt l n := K.w64 _ (by have := W.byt_bd l n; omega) (by have := W.byt_bd l n; omega)
theorem K.wb2 (l : List UInt8) (n : Nat) : IntKind.wrap .i64 (W.byt l n / 16) = W.byt l n / 16 := K.w64 _ (by have := W.byt_bd l n; omega) (by have := W.byt_bd l n; omega)
theorem K.tdb (l : List UInt8) (n : Nat) : Int.tdiv (W.byt l n) 16 = W.byt l n / 16 := Int.tdiv_eq_ediv_of_nonneg (W.byt_bd l n).1
theorem K.tmb (l : List UInt8) (n : Nat) : Int.tmod (W.byt l n) 16 = W.byt l n % 16 := Int.tmod_eq_emod_of_nonneg (W.byt_bd l n).1
theorem K.exb (l : List UInt8) (n : Nat) : R2.extend (W.byt l n) = W.sign (W.byt l n) 8 := R2.extend_eq _ (W.byt_bd l n).1 (W.byt_bd l n).2
theorem K.read_1 (s : ByteArray) (hs : s.size = 1) (hf : R2.Format (W.byt s.data.toList 0) = 1) : R2.read s = K.rd 0 s.data.toList 1 := by
  have hd : decide (((s.size : Nat) : Int) > 1) = false := by simp; omega
  unfold R2.read
  simp only [K.wb, K.wb2, K.tdb, K.tmb, K.exb, hf, hd]
  rw [show ((s.size : Nat) : Int) = 1 by omega]
  have hb : W.byt s.data.toList 1 % 4294967296 = W.byt s.data.toList 1 := by have := W.byt_bd s.data.toList 1; omega
  simp [K.rd, K.t_none, K.t_reg, K.t_pair, K.t_small, K.t_full, K.t_plain, K.i0, K.wu32, hb]
theorem K.read_2 (s : ByteArray) (hs : s.size = 2) (hf : R2.Format (W.byt s.data.toList 0) = 2) : R2.read s = K.rd 1 s.data.toList 2 := by
  have hd : decide (((s.size : Nat) : Int) > 1) = true := by simp; omega
  unfold R2.read
  simp only [K.wb, K.wb2, K.tdb, K.tmb, K.exb, hf, hd]
  rw [show ((s.size : Nat) : Int) = 2 by omega]
  have hb : W.byt s.data.toList 1 % 4294967296 = W.byt s.data.toList 1 := by have := W.byt_bd s.data.toList 1; omega
  simp [K.rd, K.t_none, K.t_reg, K.t_pair, K.t_small, K.t_full, K.t_plain, K.i0, K.wu32, hb]
theorem K.read_3 (s : ByteArray) (hs : s.size = 2) (hf : R2.Format (W.byt s.data.toList 0) = 3) : R2.read s = K.rd 2 s.data.toList 2 := by
  have hd : decide (((s.size : Nat) : Int) > 1) = true := by simp; omega
  unfold R2.read
  simp only [K.wb, K.wb2, K.tdb, K.tmb, K.exb, hf, hd]
  rw [show ((s.size : Nat) : Int) = 2 by omega]
  have hb : W.byt s.data.toList 1 % 4294967296 = W.byt s.data.toList 1 := by have := W.byt_bd s.data.toList 1; omega
  simp [K.rd, K.t_none, K.t_reg, K.t_pair, K.t_small, K.t_full, K.t_plain, K.i0, K.wu32, hb]
theorem K.read_4 (s : ByteArray) (hs : s.size = 3) (hf : R2.Format (W.byt s.data.toList 0) = 4) : R2.read s = K.rd 3 s.data.toList 3 := by
  have hd : decide (((s.size : Nat) : Int) > 1) = true := by simp; omega
  unfold R2.read
  simp only [K.wb, K.wb2, K.tdb, K.tmb, K.exb, hf, hd]
  rw [show ((s.size : Nat) : Int) = 3 by omega]
  have hb : W.byt s.data.toList 1 % 4294967296 = W.byt s.data.toList 1 := by have := W.byt_bd s.data.toList 1; omega
  simp [K.rd, K.t_none, K.t_reg, K.t_pair, K.t_small, K.t_full, K.t_plain, K.i0, K.wu32, hb]
theorem K.read_5 (s : ByteArray) (hs : s.size = 6) (hf : R2.Format (W.byt s.data.toList 0) = 5) : R2.read s = K.rd 4 s.data.toList 6 := by
  have hd : decide (((s.size : Nat) : Int) > 1) = true := by simp; omega
  unfold R2.read
  simp only [K.wb, K.wb2, K.tdb, K.tmb, K.exb, hf, hd, R2.long_eq s 2 (by omega)]
  rw [show ((s.size : Nat) : Int) = 6 by omega]
  have hb : W.byt s.data.toList 1 % 4294967296 = W.byt s.data.toList 1 := by have := W.byt_bd s.data.toList 1; omega
  simp [K.rd, K.t_none, K.t_reg, K.t_pair, K.t_small, K.t_full, K.t_plain, K.i0, K.wu32, hb]
theorem K.read_6 (s : ByteArray) (hs : s.size = 3) (hf : R2.Format (W.byt s.data.toList 0) = 6) : R2.read s = K.rd 5 s.data.toList 3 := by
  have hd : decide (((s.size : Nat) : Int) > 1) = true := by simp; omega
  unfold R2.read
  simp only [K.wb, K.wb2, K.tdb, K.tmb, K.exb, hf, hd]
  rw [show ((s.size : Nat) : Int) = 3 by omega]
  have hb : W.byt s.data.toList 1 % 4294967296 = W.byt s.data.toList 1 := by have := W.byt_bd s.data.toList 1; omega
  simp [K.rd, K.t_none, K.t_reg, K.t_pair, K.t_small, K.t_full, K.t_plain, K.i0, K.wu32, hb]
theorem K.read_7 (s : ByteArray) (hs : s.size = 7) (hf : R2.Format (W.byt s.data.toList 0) = 7) : R2.read s = K.rd 6 s.data.toList 7 := by
  have hd : decide (((s.size : Nat) : Int) > 1) = true := by simp; omega
  unfold R2.read
  simp only [K.wb, K.wb2, K.tdb, K.tmb, K.exb, hf, hd, R2.long_eq s 3 (by omega)]
  rw [show ((s.size : Nat) : Int) = 7 by omega]
  cases h8 : (W.byt s.data.toList 2 != 8) with
  | true =>
    have h8' : ¬ W.byt s.data.toList 2 = 8 := by simpa using h8
    simp [K.rd, K.t_full, K.t_index, K.t_pair, K.i0, h8']
  | false =>
    have h8' : W.byt s.data.toList 2 = 8 := by simpa using h8
    simp [K.rd, K.t_full, K.t_index, K.t_pair, K.i0, h8']
theorem K.read_8 (s : ByteArray) (hs : s.size = 2) (hf : R2.Format (W.byt s.data.toList 0) = 8) : R2.read s = K.rd 7 s.data.toList 2 := by
  have hd : decide (((s.size : Nat) : Int) > 1) = true := by simp; omega
  unfold R2.read
  simp only [K.wb, K.wb2, K.tdb, K.tmb, K.exb, hf, hd]
  rw [show ((s.size : Nat) : Int) = 2 by omega]
  have hb : W.byt s.data.toList 1 % 4294967296 = W.byt s.data.toList 1 := by have := W.byt_bd s.data.toList 1; omega
  simp [K.rd, K.t_none, K.t_reg, K.t_pair, K.t_small, K.t_full, K.t_plain, K.i0, K.wu32, hb]
theorem K.read_9 (s : ByteArray) (hs : s.size = 5) (hf : R2.Format (W.byt s.data.toList 0) = 9) : R2.read s = K.rd 8 s.data.toList 5 := by
  have hd : decide (((s.size : Nat) : Int) > 1) = true := by simp; omega
  unfold R2.read
  simp only [K.wb, K.wb2, K.tdb, K.tmb, K.exb, hf, hd, R2.long_eq s 1 (by omega)]
  rw [show ((s.size : Nat) : Int) = 5 by omega]
  have hb : W.byt s.data.toList 1 % 4294967296 = W.byt s.data.toList 1 := by have := W.byt_bd s.data.toList 1; omega
  simp [K.rd, K.t_none, K.t_reg, K.t_pair, K.t_small, K.t_full, K.t_plain, K.i0, K.wu32, hb]
theorem K.read_10 (s : ByteArray) (hs : s.size = 2) (hf : R2.Format (W.byt s.data.toList 0) = 10) : R2.read s = K.rd 9 s.data.toList 2 := by
  have hd : decide (((s.size : Nat) : Int) > 1) = true := by simp; omega
  unfold R2.read
  simp only [K.wb, K.wb2, K.tdb, K.tmb, K.exb, hf, hd]
  rw [show ((s.size : Nat) : Int) = 2 by omega]
  have hb : W.byt s.data.toList 1 % 4294967296 = W.byt s.data.toList 1 := by have := W.byt_bd s.data.toList 1; omega
  simp [K.rd, K.t_none, K.t_reg, K.t_pair, K.t_small, K.t_full, K.t_plain, K.i0, K.wu32, hb]
theorem K.read_11 (s : ByteArray) (hs : s.size = 2) (hf : R2.Format (W.byt s.data.toList 0) = 11) : R2.read s = K.rd 10 s.data.toList 2 := by
  have hd : decide (((s.size : Nat) : Int) > 1) = true := by simp; omega
  unfold R2.read
  simp only [K.wb, K.wb2, K.tdb, K.tmb, K.exb, hf, hd]
  rw [show ((s.size : Nat) : Int) = 2 by omega]
  have hb : W.byt s.data.toList 1 % 4294967296 = W.byt s.data.toList 1 := by have := W.byt_bd s.data.toList 1; omega
  simp [K.rd, K.t_none, K.t_reg, K.t_pair, K.t_small, K.t_full, K.t_plain, K.i0, K.wu32, hb]
theorem K.read_12 (s : ByteArray) (hs : s.size = 2) (hf : R2.Format (W.byt s.data.toList 0) = 12) : R2.read s = K.rd 10 s.data.toList 2 := by
  have hd : decide (((s.size : Nat) : Int) > 1) = true := by simp; omega
  unfold R2.read
  simp only [K.wb, K.wb2, K.tdb, K.tmb, K.exb, hf, hd]
  rw [show ((s.size : Nat) : Int) = 2 by omega]
  have hb : W.byt s.data.toList 1 % 4294967296 = W.byt s.data.toList 1 := by have := W.byt_bd s.data.toList 1; omega
  simp [K.rd, K.t_none, K.t_reg, K.t_pair, K.t_small, K.t_full, K.t_plain, K.i0, K.wu32, hb]
set_option maxHeartbeats 2000000 in
theorem K.decode_eq (s : ByteArray) (hs : s.size ≤ maxLen) : K.decode s = R2.Decode s := by
  have hb0 := W.byt_bd s.data.toList 0
  have hw := K.wb s.data.toList 0
  unfold K.decode R2.Decode
  rw [hw]
  rcases K.fmt_cases (W.byt s.data.toList 0) with ⟨hk, hf⟩ | ⟨hk, hf, h1, h2⟩ | ⟨hk, hf, h1, h2⟩ | ⟨hk, hf, h1, h2⟩ | ⟨hk, hf, h1, h2⟩ | ⟨hk, hf, h1, h2⟩ | ⟨hk, hf, h1, h2⟩ | ⟨hk, hf, h1, h2⟩ | ⟨hk, hf, h1, h2⟩ | ⟨hk, hf, h1, h2⟩ | ⟨hk, hf, h1⟩ | ⟨hk, hf, h1⟩ | ⟨hk, hf, h1⟩
  · have hz : R2.Size (W.byt s.data.toList 0) = 0 := by unfold R2.Size; rw [hw, hf]; rfl
    rw [hk, hz]
    show K.decode0 s = _
    unfold K.decode0; rfl
  · have hz : R2.Size (W.byt s.data.toList 0) = 1 := by unfold R2.Size; rw [hw, hf]; rfl
    have hl : K.len 0 = 1 := rfl
    rw [hk, hz]
    show K.decode1 0 s = _
    unfold K.decode1
    rw [hl]
    cases h1 : (s.toList == (⟨#[]⟩ : ByteArray).toList) with
    | true => rfl
    | false =>
      rw [cond_false, cond_false, show ((1 : Int) == 0) = false from rfl, cond_false]
      cases h2 : decide (((s.size : Nat) : Int) < 1) with
      | true => rfl
      | false =>
        have h3 : 1 ≤ s.size := by simp at h2; omega
        have e : ((1 : Int).toNat) = 1 := rfl
        have ez : (s.extract 0 1).size = 1 := by rw [ByteArray.size_extract]; omega
        have er := K.read_1 (s.extract 0 1) ez (by rw [R2.byt_extract s 1 0 (by omega) h3]; exact hf)
        rw [cond_false, cond_false, e, er, K.valid_eq _ (K.rd_imm 0 (by decide) _ _)]
  · have hz : R2.Size (W.byt s.data.toList 0) = 2 := by unfold R2.Size; rw [hw, hf]; rfl
    have hl : K.len 1 = 2 := rfl
    rw [hk, hz]
    show K.decode1 1 s = _
    unfold K.decode1
    rw [hl]
    cases h1 : (s.toList == (⟨#[]⟩ : ByteArray).toList) with
    | true => rfl
    | false =>
      rw [cond_false, cond_false, show ((2 : Int) == 0) = false from rfl, cond_false]
      cases h2 : decide (((s.size : Nat) : Int) < 2) with
      | true => rfl
      | false =>
        have h3 : 2 ≤ s.size := by simp at h2; omega
        have e : ((2 : Int).toNat) = 2 := rfl
        have ez : (s.extract 0 2).size = 2 := by rw [ByteArray.size_extract]; omega
        have er := K.read_2 (s.extract 0 2) ez (by rw [R2.byt_extract s 2 0 (by omega) h3]; exact hf)
        rw [cond_false, cond_false, e, er, K.valid_eq _ (K.rd_imm 1 (by decide) _ _)]
  · have hz : R2.Size (W.byt s.data.toList 0) = 2 := by unfold R2.Size; rw [hw, hf]; rfl
    have hl : K.len 2 = 2 := rfl
    rw [hk, hz]
    show K.decode1 2 s = _
    unfold K.decode1
    rw [hl]
    cases h1 : (s.toList == (⟨#[]⟩ : ByteArray).toList) with
    | true => rfl
    | false =>
      rw [cond_false, cond_false, show ((2 : Int) == 0) = false from rfl, cond_false]
      cases h2 : decide (((s.size : Nat) : Int) < 2) with
      | true => rfl
      | false =>
        have h3 : 2 ≤ s.size := by simp at h2; omega
        have e : ((2 : Int).toNat) = 2 := rfl
        have ez : (s.extract 0 2).size = 2 := by rw [ByteArray.size_extract]; omega
        have er := K.read_3 (s.extract 0 2) ez (by rw [R2.byt_extract s 2 0 (by omega) h3]; exact hf)
        rw [cond_false, cond_false, e, er, K.valid_eq _ (K.rd_imm 2 (by decide) _ _)]
  · have hz : R2.Size (W.byt s.data.toList 0) = 3 := by unfold R2.Size; rw [hw, hf]; rfl
    have hl : K.len 3 = 3 := rfl
    rw [hk, hz]
    show K.decode1 3 s = _
    unfold K.decode1
    rw [hl]
    cases h1 : (s.toList == (⟨#[]⟩ : ByteArray).toList) with
    | true => rfl
    | false =>
      rw [cond_false, cond_false, show ((3 : Int) == 0) = false from rfl, cond_false]
      cases h2 : decide (((s.size : Nat) : Int) < 3) with
      | true => rfl
      | false =>
        have h3 : 3 ≤ s.size := by simp at h2; omega
        have e : ((3 : Int).toNat) = 3 := rfl
        have ez : (s.extract 0 3).size = 3 := by rw [ByteArray.size_extract]; omega
        have er := K.read_4 (s.extract 0 3) ez (by rw [R2.byt_extract s 3 0 (by omega) h3]; exact hf)
        rw [cond_false, cond_false, e, er, K.valid_eq _ (K.rd_imm 3 (by decide) _ _)]
  · have hz : R2.Size (W.byt s.data.toList 0) = 6 := by unfold R2.Size; rw [hw, hf]; rfl
    have hl : K.len 4 = 6 := rfl
    rw [hk, hz]
    show K.decode1 4 s = _
    unfold K.decode1
    rw [hl]
    cases h1 : (s.toList == (⟨#[]⟩ : ByteArray).toList) with
    | true => rfl
    | false =>
      rw [cond_false, cond_false, show ((6 : Int) == 0) = false from rfl, cond_false]
      cases h2 : decide (((s.size : Nat) : Int) < 6) with
      | true => rfl
      | false =>
        have h3 : 6 ≤ s.size := by simp at h2; omega
        have e : ((6 : Int).toNat) = 6 := rfl
        have ez : (s.extract 0 6).size = 6 := by rw [ByteArray.size_extract]; omega
        have er := K.read_5 (s.extract 0 6) ez (by rw [R2.byt_extract s 6 0 (by omega) h3]; exact hf)
        rw [cond_false, cond_false, e, er, K.valid_eq _ (K.rd_imm 4 (by decide) _ _)]
  · have hz : R2.Size (W.byt s.data.toList 0) = 3 := by unfold R2.Size; rw [hw, hf]; rfl
    have hl : K.len 5 = 3 := rfl
    rw [hk, hz]
    show K.decode1 5 s = _
    unfold K.decode1
    rw [hl]
    cases h1 : (s.toList == (⟨#[]⟩ : ByteArray).toList) with
    | true => rfl
    | false =>
      rw [cond_false, cond_false, show ((3 : Int) == 0) = false from rfl, cond_false]
      cases h2 : decide (((s.size : Nat) : Int) < 3) with
      | true => rfl
      | false =>
        have h3 : 3 ≤ s.size := by simp at h2; omega
        have e : ((3 : Int).toNat) = 3 := rfl
        have ez : (s.extract 0 3).size = 3 := by rw [ByteArray.size_extract]; omega
        have er := K.read_6 (s.extract 0 3) ez (by rw [R2.byt_extract s 3 0 (by omega) h3]; exact hf)
        rw [cond_false, cond_false, e, er, K.valid_eq _ (K.rd_imm 5 (by decide) _ _)]
  · have hz : R2.Size (W.byt s.data.toList 0) = 7 := by unfold R2.Size; rw [hw, hf]; rfl
    have hl : K.len 6 = 7 := rfl
    rw [hk, hz]
    show K.decode1 6 s = _
    unfold K.decode1
    rw [hl]
    cases h1 : (s.toList == (⟨#[]⟩ : ByteArray).toList) with
    | true => rfl
    | false =>
      rw [cond_false, cond_false, show ((7 : Int) == 0) = false from rfl, cond_false]
      cases h2 : decide (((s.size : Nat) : Int) < 7) with
      | true => rfl
      | false =>
        have h3 : 7 ≤ s.size := by simp at h2; omega
        have e : ((7 : Int).toNat) = 7 := rfl
        have ez : (s.extract 0 7).size = 7 := by rw [ByteArray.size_extract]; omega
        have er := K.read_7 (s.extract 0 7) ez (by rw [R2.byt_extract s 7 0 (by omega) h3]; exact hf)
        rw [cond_false, cond_false, e, er, K.valid_eq _ (K.rd_imm 6 (by decide) _ _)]
  · have hz : R2.Size (W.byt s.data.toList 0) = 2 := by unfold R2.Size; rw [hw, hf]; rfl
    have hl : K.len 7 = 2 := rfl
    rw [hk, hz]
    show K.decode1 7 s = _
    unfold K.decode1
    rw [hl]
    cases h1 : (s.toList == (⟨#[]⟩ : ByteArray).toList) with
    | true => rfl
    | false =>
      rw [cond_false, cond_false, show ((2 : Int) == 0) = false from rfl, cond_false]
      cases h2 : decide (((s.size : Nat) : Int) < 2) with
      | true => rfl
      | false =>
        have h3 : 2 ≤ s.size := by simp at h2; omega
        have e : ((2 : Int).toNat) = 2 := rfl
        have ez : (s.extract 0 2).size = 2 := by rw [ByteArray.size_extract]; omega
        have er := K.read_8 (s.extract 0 2) ez (by rw [R2.byt_extract s 2 0 (by omega) h3]; exact hf)
        rw [cond_false, cond_false, e, er, K.valid_eq _ (K.rd_imm 7 (by decide) _ _)]
  · have hz : R2.Size (W.byt s.data.toList 0) = 5 := by unfold R2.Size; rw [hw, hf]; rfl
    have hl : K.len 8 = 5 := rfl
    rw [hk, hz]
    show K.decode1 8 s = _
    unfold K.decode1
    rw [hl]
    cases h1 : (s.toList == (⟨#[]⟩ : ByteArray).toList) with
    | true => rfl
    | false =>
      rw [cond_false, cond_false, show ((5 : Int) == 0) = false from rfl, cond_false]
      cases h2 : decide (((s.size : Nat) : Int) < 5) with
      | true => rfl
      | false =>
        have h3 : 5 ≤ s.size := by simp at h2; omega
        have e : ((5 : Int).toNat) = 5 := rfl
        have ez : (s.extract 0 5).size = 5 := by rw [ByteArray.size_extract]; omega
        have er := K.read_9 (s.extract 0 5) ez (by rw [R2.byt_extract s 5 0 (by omega) h3]; exact hf)
        rw [cond_false, cond_false, e, er, K.valid_eq _ (K.rd_imm 8 (by decide) _ _)]
  · have hz : R2.Size (W.byt s.data.toList 0) = 2 := by unfold R2.Size; rw [hw, hf]; rfl
    have hl : K.len 9 = 2 := rfl
    rw [hk, hz]
    show K.decode1 9 s = _
    unfold K.decode1
    rw [hl]
    cases h1 : (s.toList == (⟨#[]⟩ : ByteArray).toList) with
    | true => rfl
    | false =>
      rw [cond_false, cond_false, show ((2 : Int) == 0) = false from rfl, cond_false]
      cases h2 : decide (((s.size : Nat) : Int) < 2) with
      | true => rfl
      | false =>
        have h3 : 2 ≤ s.size := by simp at h2; omega
        have e : ((2 : Int).toNat) = 2 := rfl
        have ez : (s.extract 0 2).size = 2 := by rw [ByteArray.size_extract]; omega
        have er := K.read_10 (s.extract 0 2) ez (by rw [R2.byt_extract s 2 0 (by omega) h3]; exact hf)
        rw [cond_false, cond_false, e, er, K.valid_eq _ (K.rd_imm 9 (by decide) _ _)]
  · have hz : R2.Size (W.byt s.data.toList 0) = 2 := by unfold R2.Size; rw [hw, hf]; rfl
    have hl : K.len 10 = 2 := rfl
    rw [hk, hz]
    show K.decode1 10 s = _
    unfold K.decode1
    rw [hl]
    cases h1 : (s.toList == (⟨#[]⟩ : ByteArray).toList) with
    | true => rfl
    | false =>
      rw [cond_false, cond_false, show ((2 : Int) == 0) = false from rfl, cond_false]
      cases h2 : decide (((s.size : Nat) : Int) < 2) with
      | true => rfl
      | false =>
        have h3 : 2 ≤ s.size := by simp at h2; omega
        have e : ((2 : Int).toNat) = 2 := rfl
        have ez : (s.extract 0 2).size = 2 := by rw [ByteArray.size_extract]; omega
        have er := K.read_11 (s.extract 0 2) ez (by rw [R2.byt_extract s 2 0 (by omega) h3]; exact hf)
        rw [cond_false, cond_false, e, er, K.valid_eq _ (K.rd_imm 10 (by decide) _ _)]
  · have hz : R2.Size (W.byt s.data.toList 0) = 2 := by unfold R2.Size; rw [hw, hf]; rfl
    have hl : K.len 10 = 2 := rfl
    rw [hk, hz]
    show K.decode1 10 s = _
    unfold K.decode1
    rw [hl]
    cases h1 : (s.toList == (⟨#[]⟩ : ByteArray).toList) with
    | true => rfl
    | false =>
      rw [cond_false, cond_false, show ((2 : Int) == 0) = false from rfl, cond_false]
      cases h2 : decide (((s.size : Nat) : Int) < 2) with
      | true => rfl
      | false =>
        have h3 : 2 ≤ s.size := by simp at h2; omega
        have e : ((2 : Int).toNat) = 2 := rfl
        have ez : (s.extract 0 2).size = 2 := by rw [ByteArray.size_extract]; omega
        have er := K.read_12 (s.extract 0 2) ez (by rw [R2.byt_extract s 2 0 (by omega) h3]; exact hf)
        rw [cond_false, cond_false, e, er, K.valid_eq _ (K.rd_imm 10 (by decide) _ _)]
def M.s0 : M.V := M.V.new (M.np 2) false
def M.s1 : M.V := M.s0.prot 0 3
def M.s2 : M.V := M.s1.prot 1 1
def M.s3 : M.V := M.s2.sto 254 4 67305985
/-- An operation of the laws. -/
structure M.Op where
  what : Int
  a : Nat
  v : Nat
  n : Int
  s : ByteArray
  o : Int
  ha : a < 4294967296
  hv : v < 4294967296
def M.Op.val (p : M.Op) : Value := .agg #[.int .u8 p.what, .int .u32 ((p.a : Nat) : Int), .int .u32 ((p.v : Nat) : Int), .int .i64 p.n, .string p.s, .int .u8 p.o]
def M.Op.cells (p : M.Op) : List Value := [.int .u8 p.what, .int .u32 ((p.a : Nat) : Int), .int .u32 ((p.v : Nat) : Int), .int .i64 p.n, .string p.s, .int .u8 p.o]
/-- The address of an operation. -/
def M.sub100 (a : Nat) : Nat := (4294967196 + a % 1024) % 4294967296
def M.near (p : M.Op) : Nat := bif (bits .and .u8 p.o 3 == 3) then p.a else M.sub100 p.a
/-- Its size, its string, its page. -/
def M.opn (p : M.Op) : Int := (bif (bits .and .u8 p.o 4 == 0) then (IntKind.wrap .i64 (1 + (bits .and .i64 p.n 3))) else p.n)
def M.opl (p : M.Op) : Int := (if 300 < ((p.s.size : Nat) : Int) then 300 else ((p.s.size : Nat) : Int))
def M.ops (p : M.Op) : ByteArray := p.s.extract 0 (M.opl p).toNat
def M.opp (p : M.Op) : Int := IntKind.wrap .i64 ((IntKind.wrap .i64 (bits .and .u32 ((p.v : Nat) : Int) 3)) - 1)
theorem R.fetch_bd {V : M.V} (hw : R.Wf V) (a : Nat) : 0 ≤ (V.fetch a).1 ∧ (V.fetch a).1 < 256 := by
  unfold M.V.fetch
  split
  · exact R.code_bd hw a
  · exact ⟨Int.le_refl _, by show (0 : Int) < 256; decide⟩
def M.V.op (V : M.V) (p : M.Op) : M.V := (bif (((Int.tmod p.what 10) == 0) || ((Int.tmod p.what 10) == 1)) then V else (bif (((Int.tmod p.what 10) == 2) || (((Int.tmod p.what 10) == 3) || ((Int.tmod p.what 10) == 4))) then (V.sto (M.near p) (M.opn p) ((p.v : Nat) : Int)) else (bif ((Int.tmod p.what 10) == 5) then V else (bif ((Int.tmod p.what 10) == 6) then (V.sync ((M.near p) / 256)) else (bif ((Int.tmod p.what 10) == 7) then (V.poke (M.near p) (M.ops p) (M.ops p).size) else (bif ((Int.tmod p.what 10) == 8) then (V.setc (M.opp p) (M.ops p)) else (V.prot (M.opp p) (M.opn p))))))))
theorem K5.w8 {V : M.V} (hV : R.Wf V) (a : Nat) : IntKind.wrap .u8 (V.fetch a).1 = (V.fetch a).1 := by
  have := R.fetch_bd hV a
  show (V.fetch a).1 % 256 = _; omega
theorem K5.p0 {p : Int} (hp : 0 ≤ p ∧ p < 4294967296) : IntKind.wrap .u32 (p + 0) = p := by show (p + 0) % 4294967296 = p; omega
section
variable {P : Program} {n : Nat} {ops : Array Oper} {Q : Exit → Act → World → Prop} {S : Nat → Prop} {w0 : World} {X : World → Prop} {L : List (Nat × List Value)} {l : List Oper} {fr : E.Fr}
variable {T : TypeId} {d : Option Nat} {pos : String} {af : Array Edge} {gd : Option (Nat × Bool)}
end
theorem K5.ik {k : Nat} (h : k ≤ 7) : IntKind.wrap .i64 (((k : Nat) : Int) + 1) = ((k + 1 : Nat) : Int) := by rw [IntWalk.i64_in _ (by omega)]; omega
theorem K5.size {V : M.V} (hV : R.Wf V) (a : Nat) : R2.Size (V.fetch a).1 = K.size (V.fetch a).1 := (K.size_eq _ (R.fetch_bd hV a).1 (R.fetch_bd hV a).2).symm
/-- What a step gives: a state and a trap. -/
def Q.out (s : Q.S) (k t : Int) : Value := .agg (s.cells ++ [Value.int .i64 k, Value.int .u32 t]).toArray
def K5.stepI (i : K.Ins) (k t : Int) (s : Q.S) (V : M.V) : Q.S × Int × Int × M.V := (bif (k != 0) then (s, k, t, V) else (bif ((R2.Format i.op) == 3) then (bif (((K5.arith (K.w0 s i) i.op (s.r ((i.s).toNat))).k) != 0) then (s, (K5.arith (K.w0 s i) i.op (s.r ((i.s).toNat))).k, (K5.arith (K.w0 s i) i.op (s.r ((i.s).toNat))).t, V) else (((K5.arith (K.w0 s i) i.op (s.r ((i.s).toNat))).s), 0, 0, V)) else (bif ((R2.Format i.op) == 4) then (bif (((K5.arith (K.w0 s i) (IntKind.wrap .i64 (i.op - 16)) i.imm).k) != 0) then (s, (K5.arith (K.w0 s i) (IntKind.wrap .i64 (i.op - 16)) i.imm).k, (K5.arith (K.w0 s i) (IntKind.wrap .i64 (i.op - 16)) i.imm).t, V) else (((K5.arith (K.w0 s i) (IntKind.wrap .i64 (i.op - 16)) i.imm).s), 0, 0, V)) else (bif ((R2.Format i.op) == 5) then (bif (((K5.arith (K.w0 s i) (IntKind.wrap .i64 (i.op - 32)) i.imm).k) != 0) then (s, (K5.arith (K.w0 s i) (IntKind.wrap .i64 (i.op - 32)) i.imm).k, (K5.arith (K.w0 s i) (IntKind.wrap .i64 (i.op - 32)) i.imm).t, V) else (((K5.arith (K.w0 s i) (IntKind.wrap .i64 (i.op - 32)) i.imm).s), 0, 0, V)) else (bif ((R2.Format i.op) == 6) then (bif ((((K5.memory (K.w0 s i) V i.op).1).k) != 0) then (s, ((K5.memory (K.w0 s i) V i.op).1).k, ((K5.memory (K.w0 s i) V i.op).1).t, (K5.memory (K.w0 s i) V i.op).2) else ((((K5.memory (K.w0 s i) V i.op).1).s), 0, 0, (K5.memory (K.w0 s i) V i.op).2)) else (bif ((R2.Format i.op) == 7) then (bif ((((K5.memory (K.w0 s i) V (IntKind.wrap .i64 (i.op - 8))).1).k) != 0) then (s, ((K5.memory (K.w0 s i) V (IntKind.wrap .i64 (i.op - 8))).1).k, ((K5.memory (K.w0 s i) V (IntKind.wrap .i64 (i.op - 8))).1).t, (K5.memory (K.w0 s i) V (IntKind.wrap .i64 (i.op - 8))).2) else ((((K5.memory (K.w0 s i) V (IntKind.wrap .i64 (i.op - 8))).1).s), 0, 0, (K5.memory (K.w0 s i) V (IntKind.wrap .i64 (i.op - 8))).2)) else (bif ((R2.Format i.op) == 2) then (bif ((((K5.single (K.w0 s i) V).1).k) != 0) then (s, ((K5.single (K.w0 s i) V).1).k, ((K5.single (K.w0 s i) V).1).t, (K5.single (K.w0 s i) V).2) else ((((K5.single (K.w0 s i) V).1).s), 0, 0, (K5.single (K.w0 s i) V).2)) else (bif ((R2.Format i.op) == 8) then (bif (W.cond (IntKind.wrap .i64 (i.op - 96)) s.f) then (bif (((K.w0 s i).k) != 0) then (s, (K.w0 s i).k, (K.w0 s i).t, V) else (⟨(IntKind.wrap .u32 ((((K.w0 s i).s).pc) + i.imm)), ((K.w0 s i).s).r, ((K.w0 s i).s).f, ((K.w0 s i).s).c, ((K.w0 s i).s).st, ((K.w0 s i).s).du⟩, 0, 0, V)) else (bif (((K.w0 s i).k) != 0) then (s, (K.w0 s i).k, (K.w0 s i).t, V) else (((K.w0 s i).s), 0, 0, V))) else (bif ((((K5.control (K.w0 s i) V).1).k) != 0) then (s, ((K5.control (K.w0 s i) V).1).k, ((K5.control (K.w0 s i) V).1).t, (K5.control (K.w0 s i) V).2) else ((((K5.control (K.w0 s i) V).1).s), 0, 0, (K5.control (K.w0 s i) V).2))))))))))
theorem K5.carry {f : Int} (hf : 0 ≤ f ∧ f < 4294967296) : IntKind.wrap .i64 (bits .and .u32 (Int.fdiv f (2 ^ 1)) 1) = f / 2 % 2 ∧ Int.tmod (IntKind.wrap .u32 (Int.tdiv f 2)) 2 = f / 2 % 2 := by
  have e1 : Int.fdiv f (2 ^ 1) = f / 2 := Int.fdiv_eq_ediv_of_nonneg f (by decide)
  have e2 : bits .and .u32 (f / 2) 1 = f / 2 % 2 := W.and_mask 1 (by decide) (f / 2) (by omega) (by omega)
  have e3 : Int.tdiv f 2 = f / 2 := Int.tdiv_eq_ediv_of_nonneg hf.1
  have e4 : IntKind.wrap .u32 (f / 2) = f / 2 := by show (f / 2) % 4294967296 = f / 2; omega
  refine ⟨?_, ?_⟩
  · rw [e1, e2, IntWalk.i64_in _ (by omega)]
  · rw [e3, e4, Int.tmod_eq_emod_of_nonneg (by omega)]
section
variable (u : Q.S) (n : Q.S) (r c : Nat → Int) (i : K.Ins) (s : Q.S) (V : M.V) (a : Int) (D : Nat)
end
/-- A register's place in a state that goes on. -/
abbrev K5.gr (x : K.W) (r : Nat → Int) : Q.S := ⟨x.s.pc, r, x.s.f, x.s.c, x.s.st, x.s.du⟩
section
variable (s : Q.S) (V : M.V) (i : K.Ins)
end
/-- One step of the reference. -/
def K5.step (s : Q.S) (V : M.V) : Q.S × Int × Int × M.V := K5.stepI (K.fetch V s.pc).1 (K.fetch V s.pc).2.1 (K.fetch V s.pc).2.2 s V
/-- The flags stay a word. -/
def K.fb (s : Q.S) : Prop := 0 ≤ s.f ∧ s.f < 4294967296
section
variable {x : K.W} {V : M.V} (hx : K.fb x.s)
include hx
end
theorem CNew (n : Int) : A.Tr Tryz.prog 23 #[.int .i64 n] [] (I := Nat × Nat) (fun _ => True) (fun i => .pointer (some ⟨i.1, 0, none⟩)) (fun i => [A.blk i.1 (.pointer (some ⟨i.2, 0, none⟩) :: Q.S.cells Q.z0), M.It i.2 (M.V.new (M.np n) true) []]) := by
 intro w oo aa hh
 exact E.enter (n := 7) (S := oo) Tryz.func23 rfl rfl Nz.k (A.start (L := []) hh) (E.sr (E.op (.pointer none) (E.tr (E.op (E.i n) (A.gc (I := Nat) (fun m1 => E.pt m1) (A_New n true) [] [] [0] (fun m1 => []) (fun m1 => [M.It m1 (M.V.new (M.np n) true) ([])]) (fun m1 hd2 => E.vl (.agg #[E.pt m1, E.u 0, E.u 0, E.u 0, E.u 0, E.u 0, E.u 0, E.u 0, E.u 0, E.u 0, E.u 0, E.u 0, E.u 0, E.u 0, E.u 0, E.u 0, E.u 0, E.u 0, E.u 0, E.u 0, E.u 0, E.u 0, E.u 0, E.i 0, E.i 0]) (fun w h => E.run_build #[E.pt m1, E.u 0, E.u 0, E.u 0, E.u 0, E.u 0, E.u 0, E.u 0, E.u 0, E.u 0, E.u 0, E.u 0, E.u 0, E.u 0, E.u 0, E.u 0, E.u 0, E.u 0, E.u 0, E.u 0, E.u 0, E.u 0, E.u 0, E.i 0, E.i 0] Nz.k w) (E.nw (E.pt m1 :: Q.S.cells Q.z0) 129 (fun c3 => E.op (E.pt c3) (E.To.code (E.C.ret (E.bd Tryz.f23 [E.pt c3] (fun w h => ⟨(c3, m1), trivial, rfl, A.dq [0, 1] [] h⟩))))))))))))
theorem CState {c m : Nat} (s : Q.S) : A.Rd Tryz.prog 27 #[.pointer (some ⟨c, 0, none⟩)] [A.blk c (.pointer (some ⟨m, 0, none⟩) :: Q.S.cells s)] (Q.S.val s) := by
 intro w oo aa hh
 refine E.enter (n := 10) (S := fun _ => False) Tryz.func27 rfl rfl Nz.k (A.startY hh) (E.sr (E.nw (Q.S.cells Q.z0) 26 (fun g1 => E.To.code (E.C.seq (E.sr (E.op (E.pt c) (E.op (.bool false) (E.To.code (E.C.condF Nz.k Nz.k (E.C.skip (E.To.code (E.sr ?_))))))))))))
 exact E.op (E.pt c) (E.op (E.pt c) (E.op (.pointer (some ⟨c, 1, none⟩)) (E.vl (Q.S.val s) (fun w h => A.Y.bld h.x (k := 0) (j := 1) rfl Nz.k Nz.k) (E.st 0 (Q.S.cells s) rfl rfl (E.To.code (E.C.ret (E.b0 Tryz.f27 [Q.S.val s] (fun w h => ⟨rfl, h.ch.bel (fun _ h => h.elim)⟩))))))))
theorem CMem {c m : Nat} {s : Q.S} : A.Rd Tryz.prog 65 #[.pointer (some ⟨c, 0, none⟩)] [A.blk c (.pointer (some ⟨m, 0, none⟩) :: Q.S.cells s)] (.pointer (some ⟨m, 0, none⟩)) := by
 intro w oo aa hh
 refine E.enter (n := 9) (S := fun _ => False) Tryz.func65 rfl rfl Nz.k (A.startY hh) (E.sr (E.op (.pointer none) (E.To.code (E.C.seq (E.sr (E.op (E.pt c) (E.op (.bool false) (E.To.code (E.C.condF Nz.k Nz.k (E.C.skip (E.To.code (E.sr ?_))))))))))))
 exact E.op (E.pt c) (E.op (E.pt c) (E.op (E.pt c) (E.vl (E.pt m) (fun w h => A.Y.bld h.x (k := 0) (j := 0) rfl Nz.k Nz.k) (E.op (E.pt m) (E.To.code (E.C.ret (E.bd Tryz.f65 [E.pt m] (fun w h => ⟨rfl, h.ch.bel (fun _ h => h.elim)⟩))))))))
def K.norm (s : Q.S) : Q.S := ⟨s.pc, (Q.up (Q.up (Q.up (Q.up (Q.up (Q.up (Q.up (Q.up s.r 8 0) 9 0) 10 0) 11 0) 12 0) 13 0) 14 0) 15 0), (bits .and .u32 s.f 15), s.c, (if 0 > s.st then 0 else s.st), (if 0 > s.du then 0 else s.du)⟩
abbrev Zszob (s : Q.S) := Q.up (Q.up (Q.up (Q.up s.r 8 0) 9 0) 10 0) 11 0
abbrev Zszoa (s : Q.S) := Q.up (Q.up (Q.up (Zszob s) 12 0) 13 0) 14 0
abbrev Zszoc (m : Nat) (s0 : Q.S) := E.pt m :: Q.S.cells s0
set_option maxHeartbeats 1000000 in
theorem CSet {c m : Nat} {s0 : Q.S} (s : Q.S)  : A.Tr Tryz.prog 25 #[.pointer (some ⟨c, 0, none⟩), Q.S.val s] [A.blk c (.pointer (some ⟨m, 0, none⟩) :: Q.S.cells s0)] (I := Unit) (fun _ => True) (fun _ => .tuple #[]) (fun _ => [A.blk c (.pointer (some ⟨m, 0, none⟩) :: Q.S.cells (K.norm s))]) := by
 intro w oo aa hh
 refine E.enter (n := 30) (S := oo) Tryz.func25 rfl rfl Nz.k (A.start (L := [(c, (Zszoc m s0))]) hh) (E.sr (E.nw (Q.S.cells s) 26 (fun g1 => E.To.code (E.C.seq (E.sr (E.op (E.pt c) (E.op (.bool false) (E.To.code (E.C.condF Nz.k Nz.k (E.C.skip (E.To.code (E.C.seq ?_))))))))))))
 refine E.sr (E.op (E.i 8) (E.To.code (E.C.block (E.C.rounds 9 (E.C.seq (E.sr (E.op (E.i 8) (E.op (.bool true) (E.To.code (E.C.condT Nz.k Nz.k (E.C.skip (E.To.code ?_))))))))))))
 refine E.C.seq (E.C.block (E.C.region (E.op (E.i 8) (E.op (E.pj g1 1) (E.op (E.pj g1 9) (E.st 0 (Q.S.cells (⟨s.pc, (Q.up s.r 8 0), s.f, s.c, s.st, s.du⟩)) rfl rfl (E.P.nb (E.To.code (E.C.region (E.op (E.i 8) (E.op (E.i 9) (E.op (E.i 9) ?_))))))))))))
 refine E.To.rounds 8 (E.wk [(0, E.pt c), (3, E.pt g1), (4, E.i 9), (7, E.i 8), (8, .bool true), (9, E.i 8), (10, E.i 9), (11, E.i 8), (12, E.pj g1 1), (13, E.pj g1 9)] [(g1, (Q.S.cells (⟨s.pc, (Q.up s.r 8 0), s.f, s.c, s.st, s.du⟩))), (c, (Zszoc m s0))] Nz.sub (E.C.seq (E.sr (E.op (E.i 9) (E.op (.bool true) (E.To.code (E.C.condT Nz.k Nz.k (E.C.skip (E.To.code (E.C.seq (E.C.block (E.C.region ?_))))))))))))
 refine E.op (E.i 9) (E.op (E.pj g1 1) (E.op (E.pj g1 10) (E.st 0 (Q.S.cells (⟨s.pc, (Q.up (Q.up s.r 8 0) 9 0), s.f, s.c, s.st, s.du⟩)) rfl rfl (E.P.nb (E.To.code (E.C.region (E.op (E.i 9) (E.op (E.i 10) (E.op (E.i 10) (E.To.rounds 7 (E.wk [(0, E.pt c), (3, E.pt g1), (4, E.i 10), (7, E.i 9), (8, .bool true), (9, E.i 9), (10, E.i 10), (11, E.i 9), (12, E.pj g1 1), (13, E.pj g1 10)] [(g1, (Q.S.cells (⟨s.pc, (Q.up (Q.up s.r 8 0) 9 0), s.f, s.c, s.st, s.du⟩))), (c, (Zszoc m s0))] Nz.sub (E.C.seq ?_))))))))))))
 refine E.sr (E.op (E.i 10) (E.op (.bool true) (E.To.code (E.C.condT Nz.k Nz.k (E.C.skip (E.To.code (E.C.seq (E.C.block (E.C.region (E.op (E.i 10) (E.op (E.pj g1 1) (E.op (E.pj g1 11) ?_))))))))))))
 refine E.st 0 (Q.S.cells (⟨s.pc, (Q.up (Q.up (Q.up s.r 8 0) 9 0) 10 0), s.f, s.c, s.st, s.du⟩)) rfl rfl (E.P.nb (E.To.code (E.C.region (E.op (E.i 10) (E.op (E.i 11) (E.op (E.i 11) (E.To.rounds 6 (E.wk [(0, E.pt c), (3, E.pt g1), (4, E.i 11), (7, E.i 10), (8, .bool true), (9, E.i 10), (10, E.i 11), (11, E.i 10), (12, E.pj g1 1), (13, E.pj g1 11)] [(g1, (Q.S.cells (⟨s.pc, (Q.up (Q.up (Q.up s.r 8 0) 9 0) 10 0), s.f, s.c, s.st, s.du⟩))), (c, (Zszoc m s0))] Nz.sub (E.C.seq (E.sr (E.op (E.i 11) (E.op (.bool true) ?_))))))))))))
 refine E.To.code (E.C.condT Nz.k Nz.k (E.C.skip (E.To.code (E.C.seq (E.C.block (E.C.region (E.op (E.i 11) (E.op (E.pj g1 1) (E.op (E.pj g1 12) (E.st 0 (Q.S.cells (⟨s.pc, (Zszob s), s.f, s.c, s.st, s.du⟩)) rfl rfl (E.P.nb (E.To.code (E.C.region ?_)))))))))))))
 refine E.op (E.i 11) (E.op (E.i 12) (E.op (E.i 12) (E.To.rounds 5 (E.wk [(0, E.pt c), (3, E.pt g1), (4, E.i 12), (7, E.i 11), (8, .bool true), (9, E.i 11), (10, E.i 12), (11, E.i 11), (12, E.pj g1 1), (13, E.pj g1 12)] [(g1, (Q.S.cells (⟨s.pc, (Zszob s), s.f, s.c, s.st, s.du⟩))), (c, (Zszoc m s0))] Nz.sub (E.C.seq (E.sr (E.op (E.i 12) (E.op (.bool true) (E.To.code (E.C.condT Nz.k Nz.k (E.C.skip (E.To.code ?_))))))))))))
 refine E.C.seq (E.C.block (E.C.region (E.op (E.i 12) (E.op (E.pj g1 1) (E.op (E.pj g1 13) (E.st 0 (Q.S.cells (⟨s.pc, (Q.up (Zszob s) 12 0), s.f, s.c, s.st, s.du⟩)) rfl rfl (E.P.nb (E.To.code (E.C.region (E.op (E.i 12) (E.op (E.i 13) (E.op (E.i 13) ?_))))))))))))
 refine E.To.rounds 4 (E.wk [(0, E.pt c), (3, E.pt g1), (4, E.i 13), (7, E.i 12), (8, .bool true), (9, E.i 12), (10, E.i 13), (11, E.i 12), (12, E.pj g1 1), (13, E.pj g1 13)] [(g1, (Q.S.cells (⟨s.pc, (Q.up (Zszob s) 12 0), s.f, s.c, s.st, s.du⟩))), (c, (Zszoc m s0))] Nz.sub (E.C.seq (E.sr (E.op (E.i 13) (E.op (.bool true) (E.To.code (E.C.condT Nz.k Nz.k (E.C.skip (E.To.code (E.C.seq (E.C.block (E.C.region ?_))))))))))))
 refine E.op (E.i 13) (E.op (E.pj g1 1) (E.op (E.pj g1 14) (E.st 0 (Q.S.cells (⟨s.pc, (Q.up (Q.up (Zszob s) 12 0) 13 0), s.f, s.c, s.st, s.du⟩)) rfl rfl (E.P.nb (E.To.code (E.C.region (E.op (E.i 13) (E.op (E.i 14) (E.op (E.i 14) (E.To.rounds 3 (E.wk [(0, E.pt c), (3, E.pt g1), (4, E.i 14), (7, E.i 13), (8, .bool true), (9, E.i 13), (10, E.i 14), (11, E.i 13), (12, E.pj g1 1), (13, E.pj g1 14)] [(g1, (Q.S.cells (⟨s.pc, (Q.up (Q.up (Zszob s) 12 0) 13 0), s.f, s.c, s.st, s.du⟩))), (c, (Zszoc m s0))] Nz.sub (E.C.seq ?_))))))))))))
 refine E.sr (E.op (E.i 14) (E.op (.bool true) (E.To.code (E.C.condT Nz.k Nz.k (E.C.skip (E.To.code (E.C.seq (E.C.block (E.C.region (E.op (E.i 14) (E.op (E.pj g1 1) (E.op (E.pj g1 15) ?_))))))))))))
 refine E.st 0 (Q.S.cells (⟨s.pc, (Zszoa s), s.f, s.c, s.st, s.du⟩)) rfl rfl (E.P.nb (E.To.code (E.C.region (E.op (E.i 14) (E.op (E.i 15) (E.op (E.i 15) (E.To.rounds 2 (E.wk [(0, E.pt c), (3, E.pt g1), (4, E.i 15), (7, E.i 14), (8, .bool true), (9, E.i 14), (10, E.i 15), (11, E.i 14), (12, E.pj g1 1), (13, E.pj g1 15)] [(g1, (Q.S.cells (⟨s.pc, (Zszoa s), s.f, s.c, s.st, s.du⟩))), (c, (Zszoc m s0))] Nz.sub (E.C.seq (E.sr (E.op (E.i 15) (E.op (.bool true) ?_))))))))))))
 refine E.To.code (E.C.condT Nz.k Nz.k (E.C.skip (E.To.code (E.C.seq (E.C.block (E.C.region (E.op (E.i 15) (E.op (E.pj g1 1) (E.op (E.pj g1 16) (E.st 0 (Q.S.cells (⟨s.pc, (Q.up (Zszoa s) 15 0), s.f, s.c, s.st, s.du⟩)) rfl rfl (E.P.nb (E.To.code (E.C.region ?_)))))))))))))
 refine E.op (E.i 15) (E.op (E.i 16) (E.op (E.i 16) (E.To.rounds 1 (E.wk [(0, E.pt c), (3, E.pt g1), (4, E.i 16), (7, E.i 15), (8, .bool true), (9, E.i 15), (10, E.i 16), (11, E.i 15), (12, E.pj g1 1), (13, E.pj g1 16)] [(g1, (Q.S.cells (⟨s.pc, (Q.up (Zszoa s) 15 0), s.f, s.c, s.st, s.du⟩))), (c, (Zszoc m s0))] Nz.sub (E.C.seq (E.sr (E.op (E.i 16) (E.op (.bool false) (E.To.code (E.C.condF Nz.k Nz.k (E.C.exit (E.P.et (E.P.et (E.P.eh (E.To.code ?_)))))))))))))))
 refine E.wk [(0, E.pt c), (3, E.pt g1)] [(g1, (Q.S.cells (⟨s.pc, (Q.up (Zszoa s) 15 0), s.f, s.c, s.st, s.du⟩))), (c, (Zszoc m s0))] Nz.sub (E.sr (E.op (E.pj g1 17) (E.li (E.u s.f) 0 rfl rfl (E.op (E.u (bits .and .u32 s.f 15)) (E.op (E.pj g1 17) (E.st 0 (Q.S.cells (⟨s.pc, (Q.up (Zszoa s) 15 0), (bits .and .u32 s.f 15), s.c, s.st, s.du⟩)) rfl rfl (E.tr (E.op (E.pj g1 22) (E.li (E.i s.st) 0 rfl rfl (E.op (E.i (if 0 > s.st then 0 else s.st)) (E.op (E.pj g1 23) ?_)))))))))))
 refine E.li (E.i s.du) 0 rfl rfl (E.op (E.i (if 0 > s.du then 0 else s.du)) (E.op (E.pj g1 22) (E.st 0 (Q.S.cells (⟨s.pc, (Q.up (Zszoa s) 15 0), (bits .and .u32 s.f 15), s.c, (if 0 > s.st then 0 else s.st), s.du⟩)) rfl rfl (E.op (E.pj g1 23) (E.st 0 (Q.S.cells (⟨s.pc, (Q.up (Zszoa s) 15 0), (bits .and .u32 s.f 15), s.c, (if 0 > s.st then 0 else s.st), (if 0 > s.du then 0 else s.du)⟩)) rfl rfl (E.To.code (E.wk [(0, E.pt c), (3, E.pt g1)] [(g1, (Q.S.cells (⟨s.pc, (Q.up (Zszoa s) 15 0), (bits .and .u32 s.f 15), s.c, (if 0 > s.st then 0 else s.st), (if 0 > s.du then 0 else s.du)⟩))), (c, (Zszoc m s0))] Nz.sub (E.C.region (E.op (E.pt c) (E.li (Q.S.val (⟨s.pc, (Q.up (Zszoa s) 15 0), (bits .and .u32 s.f 15), s.c, (if 0 > s.st then 0 else s.st), (if 0 > s.du then 0 else s.du)⟩)) 0 rfl rfl (E.op (E.pt c) ?_)))))))))))
 refine E.op (E.pj c 1) (E.st 1 (E.pt m :: Q.S.cells (⟨s.pc, (Q.up (Zszoa s) 15 0), (bits .and .u32 s.f 15), s.c, (if 0 > s.st then 0 else s.st), (if 0 > s.du then 0 else s.du)⟩)) rfl rfl (E.To.bodyN (fn := Tryz.f25) [] ?_ ?_))
 · exact trivial
 intro w h
 have e : (K.norm s) = ⟨s.pc, (Q.up (Zszoa s) 15 0), (bits .and .u32 s.f 15), s.c, (if 0 > s.st then 0 else s.st), (if 0 > s.du then 0 else s.du)⟩ := by unfold K.norm; rfl
 rw [e]
 exact ⟨(), trivial, rfl, A.dq [1] [0] h⟩
set_option maxHeartbeats 4000000 in
theorem CRun {c m : Nat} (most : Int) (s : Q.S) (V : M.V) (hm : -9223372036854775808 ≤ most ∧ most < 9223372036854775808) (hs : Q.wf s) (hV : R.Wf V) : A.Tr Tryz.prog 26 #[.pointer (some ⟨c, 0, none⟩), .int .i64 most] [A.blk c (.pointer (some ⟨m, 0, none⟩) :: Q.S.cells s), M.It m V []] (I := Unit) (fun _ => True) (fun _ => .agg #[.int .i64 (K.runs most s V).2.1, .int .u32 (K.runs most s V).2.2.1]) (fun _ => [A.blk c (.pointer (some ⟨m, 0, none⟩) :: Q.S.cells ((K.runs most s V).1)), M.It m (K.runs most s V).2.2.2 []]) := by
 intro w oo aa hh
 refine E.enter (n := 47) (S := oo) Tryz.func26 rfl rfl Nz.k (A.start (L := [(c, (E.pt m :: Q.S.cells s))]) hh) (E.sr (E.nw [E.i 0, E.u 0] 47 (fun g1 => E.tr (E.op (E.pt c) (E.ca (Q.S.val s) (fun w h => A.cq [1] [0, 2] (CState (c := c) (m := m) s) h) (E.nw (Q.S.cells Q.z0) 26 (fun g2 => E.st 0 (Q.S.cells s) rfl rfl (E.tr (E.op (E.i 0) (E.To.code (E.C.block ?_)))))))))))
 refine E.C.loop (I := Nat × Q.S × M.V) (fun i => (most.toNat + 1) - i.1) (fun i => i.1 < (most.toNat + 1) ∧ Q.wf i.2.1 ∧ R.Wf i.2.2 ∧ K.run most ((most.toNat + 1) - i.1) i.1 i.2.1 i.2.2 = (K.runs most s V)) (fun i => [(0, E.pt c), (1, E.i most), (4, E.pt g1), (5, E.pt g2), (6, E.i ((i.1 : Nat) : Int))]) (fun i => A.X w oo aa [M.It m i.2.2 ([])]) (fun i => [(g2, (Q.S.cells i.2.1)), (g1, [E.i 0, E.u 0]), (c, (E.pt m :: Q.S.cells i.2.1))]) (0, s, V) (⟨Nat.succ_pos _, hs, hV, rfl⟩) ⟨Nz.k, Nz.k⟩ Nz.sub (fun _ h => h) (fun i hk1 => E.C.seq (E.C.block (E.C.seq (E.sr (E.op (E.pj g2 23) (E.li (E.i i.2.1.du) 0 rfl rfl (E.op (.bool (decide (i.2.1.du > 0))) (E.op (.bool (decide (i.2.1.du > 0))) (E.G.cut 6 [(0, E.pt c), (1, E.i most), (4, E.pt g1), (5, E.pt g2), (6, E.i ((i.1 : Nat) : Int)), (13, E.pj g2 23), (14, E.i i.2.1.du), (15, .bool (decide (i.2.1.du > 0))), (16, .bool (decide (i.2.1.du > 0))), (22, .bool ((decide (i.2.1.du > 0)) && (decide (i.2.1.st ≥ i.2.1.du))))] (A.X w oo aa [M.It m i.2.2 ([])]) [(g2, (Q.S.cells i.2.1)), (g1, [E.i 0, E.u 0]), (c, (E.pt m :: Q.S.cells i.2.1))] ?_ ?_)))))))))
 ·
  generalize hc3 : (decide (i.2.1.du > 0)) = b4
  cases b4
  ·
   exact E.sk (E.sk (E.sk (E.sk (E.sk (E.op (.bool false) E.ep)))))
  exact E.op (E.pj g2 22) (E.li (E.i i.2.1.st) 0 rfl rfl (E.op (E.pj g2 23) (E.li (E.i i.2.1.du) 0 rfl rfl (E.op (.bool (decide (i.2.1.st ≥ i.2.1.du))) (E.op (.bool (decide (i.2.1.st ≥ i.2.1.du))) E.ep)))))
 refine E.To.code (E.cd ((decide (i.2.1.du > 0)) && (decide (i.2.1.st ≥ i.2.1.du))) (fun hc5 => ?_) (fun hc5 => ?_))
 ·
  refine E.sr (E.vl (.agg #[E.i 8, E.u 0]) (fun w h => E.run_build #[E.i 8, E.u 0] Nz.k w) (E.st 1 [E.i 8, E.u 0] rfl rfl (E.To.code (E.C.ret (E.P.rt (E.P.rb (E.P.rt (E.P.rt (E.P.rb (E.b1 Tryz.f26 [.agg #[E.i 8, E.u 0]] ?_))))))))))
  intro w h
  have e := hk1.2.2.2
  rw [K.run_t hk1.1 hc5] at e
  rw [← e]
  exact ⟨(), trivial, rfl, A.dq [2, 3] [0, 1] h⟩
 refine E.C.skip (E.To.code (E.C.seq (E.sr (E.op (E.i ((i.1 : Nat) : Int)) (E.op (E.i most) (E.op (.bool (decide (((i.1 : Nat) : Int) ≥ most))) (E.To.code (E.cd (decide (((i.1 : Nat) : Int) ≥ most)) (fun hc6 => ?_) (fun hc6 => ?_)))))))))
 ·
  refine E.sr (E.vl (.agg #[E.i 1, E.u 0]) (fun w h => E.run_build #[E.i 1, E.u 0] Nz.k w) (E.st 1 [E.i 1, E.u 0] rfl rfl (E.To.code (E.C.ret (E.P.rt (E.P.rb (E.P.rt (E.P.rt (E.P.rb (E.b1 Tryz.f26 [.agg #[E.i 1, E.u 0]] ?_))))))))))
  intro w h
  have e := hk1.2.2.2
  rw [K.run_b hk1.1 hc5 hc6] at e
  rw [← e]
  exact ⟨(), trivial, rfl, A.dq [2, 3] [0, 1] h⟩
 refine E.C.skip (E.To.code (E.C.seq (E.C.held (A.Y [A.blk g2 (Q.S.cells i.2.1), A.blk g1 ([E.i 0, E.u 0]), A.blk c (E.pt m :: Q.S.cells i.2.1)]) Nz.k (E.H.gen (fun H up dn => ?_)))))
 have nd5 : ∀ (β α : Nat), H 0 (E.bits 12 4095) [(0, E.pt c), (1, E.i most), (4, E.pt g1), (5, E.pt g2), (6, E.i ((i.1 : Nat) : Int)), (7, E.pt β), (8, E.pt α), (13, E.pj g2 23), (14, E.i i.2.1.du), (15, .bool (decide (i.2.1.du > 0))), (16, .bool (decide (i.2.1.du > 0))), (22, .bool ((decide (i.2.1.du > 0)) && (decide (i.2.1.st ≥ i.2.1.du)))), (24, E.i ((i.1 : Nat) : Int)), (25, E.i most), (26, .bool (decide (((i.1 : Nat) : Int) ≥ most))), (28, .tuple #[Q.S.val ((K.step i.2.1 i.2.2).1), .agg #[E.i ((K.step i.2.1 i.2.2).2.1), E.u ((K.step i.2.1 i.2.2).2.2.1)]]), (29, Q.S.val i.2.1), (30, E.pt c), (31, E.pt m), (32, .iface 35 (E.pt m)), (33, .tuple #[Q.S.val ((K.step i.2.1 i.2.2).1), .agg #[E.i ((K.step i.2.1 i.2.2).2.1), E.u ((K.step i.2.1 i.2.2).2.2.1)]]), (34, Q.S.val ((K.step i.2.1 i.2.2).1)), (35, .agg #[E.i ((K.step i.2.1 i.2.2).2.1), E.u ((K.step i.2.1 i.2.2).2.2.1)])] (A.X w oo aa [M.It m ((K.step i.2.1 i.2.2).2.2.2) ([])]) [(β, (Q.S.cells ((K.step i.2.1 i.2.2).1))), (α, [E.i ((K.step i.2.1 i.2.2).2.1), E.u ((K.step i.2.1 i.2.2).2.2.1)]), (g2, (Q.S.cells i.2.1)), (g1, [E.i 0, E.u 0]), (c, (E.pt m :: Q.S.cells i.2.1))] := by
  intro β α
  refine up _ _ _ _ _ (E.H.done Nz.k (E.To.code (E.C.seq (E.sr (E.op (E.pt α) (E.li (E.i ((K.step i.2.1 i.2.2).2.1)) 1 rfl rfl (E.op (.bool (((K.step i.2.1 i.2.2).2.1) != 0)) (E.To.code (E.cd (((K.step i.2.1 i.2.2).2.1) != 0) (fun hc7 => ?_) (fun hc7 => ?_))))))))))
  ·
   refine E.sr (E.li (.agg #[E.i ((K.step i.2.1 i.2.2).2.1), E.u ((K.step i.2.1 i.2.2).2.2.1)]) 1 rfl rfl (E.st 3 [E.i ((K.step i.2.1 i.2.2).2.1), E.u ((K.step i.2.1 i.2.2).2.2.1)] rfl rfl (E.To.code (E.C.ret (E.P.rt (E.P.rb (E.P.rt (E.P.rt (E.P.rb (E.b3 Tryz.f26 [.agg #[E.i ((K.step i.2.1 i.2.2).2.1), E.u ((K.step i.2.1 i.2.2).2.2.1)]] ?_))))))))))
   intro w h
   have e := hk1.2.2.2
   rw [K.run_s hk1.1 hc5 hc6 hc7] at e
   rw [← e]
   exact ⟨(), trivial, rfl, A.dq [4, 5] [0, 1, 2, 3] h⟩
  refine E.C.skip (E.To.code (E.sr (E.li (Q.S.val ((K.step i.2.1 i.2.2).1)) 0 rfl rfl (E.st 2 (Q.S.cells ((K.step i.2.1 i.2.2).1)) rfl rfl (E.tr (E.op (E.pt c) (E.op (.bool true) (E.To.code (E.C.condT Nz.k Nz.k (E.C.region (E.op (E.pt c) (E.li (Q.S.val ((K.step i.2.1 i.2.2).1)) 0 rfl rfl ?_))))))))))))
  exact E.op (E.pt c) (E.op (E.pj c 1) (E.st 4 (E.pt m :: Q.S.cells ((K.step i.2.1 i.2.2).1)) rfl rfl (E.P.nb (E.To.code (E.C.region (E.op (E.i ((i.1 : Nat) : Int)) (E.vl (E.i ((i.1 + 1 : Nat) : Int)) (fun w h => E.run_as (a := E.i (IntKind.wrap .i64 (((i.1 : Nat) : Int) + 1))) Nz.k (congrArg (Value.int .i64) (K.run_lt hm.2 hc6).2)) (E.op (E.i ((i.1 + 1 : Nat) : Int)) (E.To.round (i.1 + 1, (K.step i.2.1 i.2.2).1, (K.step i.2.1 i.2.2).2.2.2) (by show (most.toNat + 1) - (i.1 + 1) < (most.toNat + 1) - i.1; have := hk1.1; omega) (⟨(K.run_lt hm.2 hc6).1, (K.step_wf hk1.2.1 hk1.2.2.1).1, (K.step_wf hk1.2.1 hk1.2.2.1).2, (K.run_n hk1.1 hc5 hc6 hc7).symm.trans hk1.2.2.2⟩) ⟨Nz.k, Nz.k⟩ Nz.sub (fun _ h => h))))))))))
 have nd4 : ∀ (β α : Nat), H 1 (E.bits 12 2047) [(0, E.pt c), (1, E.i most), (4, E.pt g1), (5, E.pt g2), (6, E.i ((i.1 : Nat) : Int)), (7, E.pt β), (8, E.pt α), (13, E.pj g2 23), (14, E.i i.2.1.du), (15, .bool (decide (i.2.1.du > 0))), (16, .bool (decide (i.2.1.du > 0))), (22, .bool ((decide (i.2.1.du > 0)) && (decide (i.2.1.st ≥ i.2.1.du)))), (24, E.i ((i.1 : Nat) : Int)), (25, E.i most), (26, .bool (decide (((i.1 : Nat) : Int) ≥ most))), (28, .tuple #[Q.S.val ((K.step i.2.1 i.2.2).1), .agg #[E.i ((K.step i.2.1 i.2.2).2.1), E.u ((K.step i.2.1 i.2.2).2.2.1)]]), (29, Q.S.val i.2.1), (30, E.pt c), (31, E.pt m), (32, .iface 35 (E.pt m)), (33, .tuple #[Q.S.val ((K.step i.2.1 i.2.2).1), .agg #[E.i ((K.step i.2.1 i.2.2).2.1), E.u ((K.step i.2.1 i.2.2).2.2.1)]]), (34, Q.S.val ((K.step i.2.1 i.2.2).1)), (35, .agg #[E.i ((K.step i.2.1 i.2.2).2.1), E.u ((K.step i.2.1 i.2.2).2.2.1)])] (A.X w oo aa [M.It m ((K.step i.2.1 i.2.2).2.2.2) ([])]) [(β, (Q.S.cells ((K.step i.2.1 i.2.2).1))), (α, [E.i 0, E.u 0]), (g2, (Q.S.cells i.2.1)), (g1, [E.i 0, E.u 0]), (c, (E.pt m :: Q.S.cells i.2.1))] := by
  intro β α
  exact up _ _ _ _ _ (E.al 11 rfl (E.st 1 [E.i ((K.step i.2.1 i.2.2).2.1), E.u ((K.step i.2.1 i.2.2).2.2.1)] rfl rfl (E.H.back (fun w h => A.hq [2, 3, 4] [0, 1, 5] h) (E.ho (dn _ _ _ _ _ (nd5 β α))))))
 have nd3 : ∀ (β α : Nat), H 2 (E.bits 12 1023) [(0, E.pt c), (1, E.i most), (4, E.pt g1), (5, E.pt g2), (6, E.i ((i.1 : Nat) : Int)), (7, E.pt β), (8, E.pt α), (13, E.pj g2 23), (14, E.i i.2.1.du), (15, .bool (decide (i.2.1.du > 0))), (16, .bool (decide (i.2.1.du > 0))), (22, .bool ((decide (i.2.1.du > 0)) && (decide (i.2.1.st ≥ i.2.1.du)))), (24, E.i ((i.1 : Nat) : Int)), (25, E.i most), (26, .bool (decide (((i.1 : Nat) : Int) ≥ most))), (28, .tuple #[Q.S.val ((K.step i.2.1 i.2.2).1), .agg #[E.i ((K.step i.2.1 i.2.2).2.1), E.u ((K.step i.2.1 i.2.2).2.2.1)]]), (29, Q.S.val i.2.1), (30, E.pt c), (31, E.pt m), (32, .iface 35 (E.pt m)), (33, .tuple #[Q.S.val ((K.step i.2.1 i.2.2).1), .agg #[E.i ((K.step i.2.1 i.2.2).2.1), E.u ((K.step i.2.1 i.2.2).2.2.1)]]), (34, Q.S.val ((K.step i.2.1 i.2.2).1)), (35, .agg #[E.i ((K.step i.2.1 i.2.2).2.1), E.u ((K.step i.2.1 i.2.2).2.2.1)])] (A.X w oo aa [M.It m ((K.step i.2.1 i.2.2).2.2.2) ([])]) [(β, (Q.S.cells Q.z0)), (α, [E.i 0, E.u 0]), (g2, (Q.S.cells i.2.1)), (g1, [E.i 0, E.u 0]), (c, (E.pt m :: Q.S.cells i.2.1))] := by
  intro β α
  exact up _ _ _ _ _ (E.al 10 rfl (E.st 0 (Q.S.cells ((K.step i.2.1 i.2.2).1)) rfl rfl (E.H.back (fun w h => A.hq [2, 3, 4] [0, 1, 5] h) (E.ho (dn _ _ _ _ _ (nd4 β α))))))
 have nd2 : ∀ (β : Nat), H 3 (E.bits 12 511) [(0, E.pt c), (1, E.i most), (4, E.pt g1), (5, E.pt g2), (6, E.i ((i.1 : Nat) : Int)), (7, E.pt β), (13, E.pj g2 23), (14, E.i i.2.1.du), (15, .bool (decide (i.2.1.du > 0))), (16, .bool (decide (i.2.1.du > 0))), (22, .bool ((decide (i.2.1.du > 0)) && (decide (i.2.1.st ≥ i.2.1.du)))), (24, E.i ((i.1 : Nat) : Int)), (25, E.i most), (26, .bool (decide (((i.1 : Nat) : Int) ≥ most))), (28, .tuple #[Q.S.val ((K.step i.2.1 i.2.2).1), .agg #[E.i ((K.step i.2.1 i.2.2).2.1), E.u ((K.step i.2.1 i.2.2).2.2.1)]]), (29, Q.S.val i.2.1), (30, E.pt c), (31, E.pt m), (32, .iface 35 (E.pt m)), (33, .tuple #[Q.S.val ((K.step i.2.1 i.2.2).1), .agg #[E.i ((K.step i.2.1 i.2.2).2.1), E.u ((K.step i.2.1 i.2.2).2.2.1)]]), (34, Q.S.val ((K.step i.2.1 i.2.2).1)), (35, .agg #[E.i ((K.step i.2.1 i.2.2).2.1), E.u ((K.step i.2.1 i.2.2).2.2.1)])] (A.X w oo aa [M.It m ((K.step i.2.1 i.2.2).2.2.2) ([])]) [(β, (Q.S.cells Q.z0)), (g2, (Q.S.cells i.2.1)), (g1, [E.i 0, E.u 0]), (c, (E.pt m :: Q.S.cells i.2.1))] := by
  intro β
  exact up _ _ _ _ _ (E.al 9 rfl (E.nw [E.i 0, E.u 0] 47 (fun α => E.H.back (fun w h => A.hq [2, 3, 4] [0, 1, 5] h) (E.H.toP _ _ [(β, (Q.S.cells Q.z0)), (α, [E.i 0, E.u 0]), (g2, (Q.S.cells i.2.1)), (g1, [E.i 0, E.u 0]), (c, (E.pt m :: Q.S.cells i.2.1))] Nz.k ⟨Nz.k, Nz.k⟩ (A.pn [1, 0, 2, 3, 4]) (dn _ _ _ _ _ (nd3 β α))))))
 have nd6 : ∀ (α : Nat), H 3 (E.bits 12 767) [(0, E.pt c), (1, E.i most), (4, E.pt g1), (5, E.pt g2), (6, E.i ((i.1 : Nat) : Int)), (8, E.pt α), (13, E.pj g2 23), (14, E.i i.2.1.du), (15, .bool (decide (i.2.1.du > 0))), (16, .bool (decide (i.2.1.du > 0))), (22, .bool ((decide (i.2.1.du > 0)) && (decide (i.2.1.st ≥ i.2.1.du)))), (24, E.i ((i.1 : Nat) : Int)), (25, E.i most), (26, .bool (decide (((i.1 : Nat) : Int) ≥ most))), (28, .tuple #[Q.S.val ((K.step i.2.1 i.2.2).1), .agg #[E.i ((K.step i.2.1 i.2.2).2.1), E.u ((K.step i.2.1 i.2.2).2.2.1)]]), (29, Q.S.val i.2.1), (30, E.pt c), (31, E.pt m), (32, .iface 35 (E.pt m)), (33, .tuple #[Q.S.val ((K.step i.2.1 i.2.2).1), .agg #[E.i ((K.step i.2.1 i.2.2).2.1), E.u ((K.step i.2.1 i.2.2).2.2.1)]]), (34, Q.S.val ((K.step i.2.1 i.2.2).1)), (35, .agg #[E.i ((K.step i.2.1 i.2.2).2.1), E.u ((K.step i.2.1 i.2.2).2.2.1)])] (A.X w oo aa [M.It m ((K.step i.2.1 i.2.2).2.2.2) ([])]) [(α, [E.i 0, E.u 0]), (g2, (Q.S.cells i.2.1)), (g1, [E.i 0, E.u 0]), (c, (E.pt m :: Q.S.cells i.2.1))] := by
  intro α
  exact up _ _ _ _ _ (E.al 8 rfl (E.nw (Q.S.cells Q.z0) 26 (fun β => E.H.back (fun w h => A.hq [2, 3, 4] [0, 1, 5] h) (E.ho (dn _ _ _ _ _ (nd3 β α))))))
 have nd1 : H 7 (E.bits 12 31) [(0, E.pt c), (1, E.i most), (4, E.pt g1), (5, E.pt g2), (6, E.i ((i.1 : Nat) : Int)), (13, E.pj g2 23), (14, E.i i.2.1.du), (15, .bool (decide (i.2.1.du > 0))), (16, .bool (decide (i.2.1.du > 0))), (22, .bool ((decide (i.2.1.du > 0)) && (decide (i.2.1.st ≥ i.2.1.du)))), (24, E.i ((i.1 : Nat) : Int)), (25, E.i most), (26, .bool (decide (((i.1 : Nat) : Int) ≥ most))), (29, Q.S.val i.2.1), (30, E.pt c), (31, E.pt m), (32, .iface 35 (E.pt m)), (33, .tuple #[Q.S.val ((K.step i.2.1 i.2.2).1), .agg #[E.i ((K.step i.2.1 i.2.2).2.1), E.u ((K.step i.2.1 i.2.2).2.2.1)]])] (A.X w oo aa [M.It m ((K.step i.2.1 i.2.2).2.2.2) ([])]) [(g2, (Q.S.cells i.2.1)), (g1, [E.i 0, E.u 0]), (c, (E.pt m :: Q.S.cells i.2.1))] := by
  refine up _ _ _ _ _ (E.tk 5 (.tuple #[Q.S.val ((K.step i.2.1 i.2.2).1), .agg #[E.i ((K.step i.2.1 i.2.2).2.1), E.u ((K.step i.2.1 i.2.2).2.2.1)]]) rfl (fun w h => A.hpY0 h Nz.k) (E.tk 6 (Q.S.val ((K.step i.2.1 i.2.2).1)) rfl (fun w h => A.hpY0 h Nz.k) (E.tk 7 (.agg #[E.i ((K.step i.2.1 i.2.2).2.1), E.u ((K.step i.2.1 i.2.2).2.2.1)]) rfl (fun w h => A.hpY0 h Nz.k) (E.al2 8 9 rfl rfl ?_ ?_))))
  ·
   exact E.nw (Q.S.cells Q.z0) 26 (fun β => E.H.back (fun w h => A.hq [1, 2, 3] [0, 4] h) (E.ho (dn _ _ _ _ _ (nd2 β))))
  exact E.nw [E.i 0, E.u 0] 47 (fun α => E.H.back (fun w h => A.hq [1, 2, 3] [0, 4] h) (E.ho (dn _ _ _ _ _ (nd6 α))))
 have nd8 : ∀ (β : Nat), H 6 (E.bits 12 287) [(0, E.pt c), (1, E.i most), (4, E.pt g1), (5, E.pt g2), (6, E.i ((i.1 : Nat) : Int)), (7, E.pt β), (13, E.pj g2 23), (14, E.i i.2.1.du), (15, .bool (decide (i.2.1.du > 0))), (16, .bool (decide (i.2.1.du > 0))), (22, .bool ((decide (i.2.1.du > 0)) && (decide (i.2.1.st ≥ i.2.1.du)))), (24, E.i ((i.1 : Nat) : Int)), (25, E.i most), (26, .bool (decide (((i.1 : Nat) : Int) ≥ most))), (29, Q.S.val i.2.1), (30, E.pt c), (31, E.pt m), (32, .iface 35 (E.pt m)), (33, .tuple #[Q.S.val ((K.step i.2.1 i.2.2).1), .agg #[E.i ((K.step i.2.1 i.2.2).2.1), E.u ((K.step i.2.1 i.2.2).2.2.1)]])] (A.X w oo aa [M.It m ((K.step i.2.1 i.2.2).2.2.2) ([])]) [(β, (Q.S.cells Q.z0)), (g2, (Q.S.cells i.2.1)), (g1, [E.i 0, E.u 0]), (c, (E.pt m :: Q.S.cells i.2.1))] := by
  intro β
  exact up _ _ _ _ _ (E.tk 5 (.tuple #[Q.S.val ((K.step i.2.1 i.2.2).1), .agg #[E.i ((K.step i.2.1 i.2.2).2.1), E.u ((K.step i.2.1 i.2.2).2.2.1)]]) rfl (fun w h => A.hq [1, 2, 3] [0, 4] h) (E.tk 6 (Q.S.val ((K.step i.2.1 i.2.2).1)) rfl (fun w h => A.hq [1, 2, 3] [0, 4] h) (E.tk 7 (.agg #[E.i ((K.step i.2.1 i.2.2).2.1), E.u ((K.step i.2.1 i.2.2).2.2.1)]) rfl (fun w h => A.hq [1, 2, 3] [0, 4] h) (E.al 9 rfl (E.nw [E.i 0, E.u 0] 47 (fun α => E.H.back (fun w h => A.hq [2, 3, 4] [0, 1, 5] h) (E.H.toP _ _ [(β, (Q.S.cells Q.z0)), (α, [E.i 0, E.u 0]), (g2, (Q.S.cells i.2.1)), (g1, [E.i 0, E.u 0]), (c, (E.pt m :: Q.S.cells i.2.1))] Nz.k ⟨Nz.k, Nz.k⟩ (A.pn [1, 0, 2, 3, 4]) (dn _ _ _ _ _ (nd3 β α)))))))))
 have nd10 : ∀ (β α : Nat), H 5 (E.bits 12 799) [(0, E.pt c), (1, E.i most), (4, E.pt g1), (5, E.pt g2), (6, E.i ((i.1 : Nat) : Int)), (7, E.pt β), (8, E.pt α), (13, E.pj g2 23), (14, E.i i.2.1.du), (15, .bool (decide (i.2.1.du > 0))), (16, .bool (decide (i.2.1.du > 0))), (22, .bool ((decide (i.2.1.du > 0)) && (decide (i.2.1.st ≥ i.2.1.du)))), (24, E.i ((i.1 : Nat) : Int)), (25, E.i most), (26, .bool (decide (((i.1 : Nat) : Int) ≥ most))), (29, Q.S.val i.2.1), (30, E.pt c), (31, E.pt m), (32, .iface 35 (E.pt m)), (33, .tuple #[Q.S.val ((K.step i.2.1 i.2.2).1), .agg #[E.i ((K.step i.2.1 i.2.2).2.1), E.u ((K.step i.2.1 i.2.2).2.2.1)]])] (A.X w oo aa [M.It m ((K.step i.2.1 i.2.2).2.2.2) ([])]) [(β, (Q.S.cells Q.z0)), (α, [E.i 0, E.u 0]), (g2, (Q.S.cells i.2.1)), (g1, [E.i 0, E.u 0]), (c, (E.pt m :: Q.S.cells i.2.1))] := by
  intro β α
  exact up _ _ _ _ _ (E.tk 5 (.tuple #[Q.S.val ((K.step i.2.1 i.2.2).1), .agg #[E.i ((K.step i.2.1 i.2.2).2.1), E.u ((K.step i.2.1 i.2.2).2.2.1)]]) rfl (fun w h => A.hq [2, 3, 4] [0, 1, 5] h) (E.tk 6 (Q.S.val ((K.step i.2.1 i.2.2).1)) rfl (fun w h => A.hq [2, 3, 4] [0, 1, 5] h) (E.tk 7 (.agg #[E.i ((K.step i.2.1 i.2.2).2.1), E.u ((K.step i.2.1 i.2.2).2.2.1)]) rfl (fun w h => A.hq [2, 3, 4] [0, 1, 5] h) (E.al 10 rfl (E.st 0 (Q.S.cells ((K.step i.2.1 i.2.2).1)) rfl rfl (E.H.back (fun w h => A.hq [2, 3, 4] [0, 1, 5] h) (E.ho (dn _ _ _ _ _ (nd4 β α)))))))))
 have nd9 : ∀ (β α : Nat), H 6 (E.bits 12 783) [(0, E.pt c), (1, E.i most), (4, E.pt g1), (5, E.pt g2), (6, E.i ((i.1 : Nat) : Int)), (7, E.pt β), (8, E.pt α), (13, E.pj g2 23), (14, E.i i.2.1.du), (15, .bool (decide (i.2.1.du > 0))), (16, .bool (decide (i.2.1.du > 0))), (22, .bool ((decide (i.2.1.du > 0)) && (decide (i.2.1.st ≥ i.2.1.du)))), (24, E.i ((i.1 : Nat) : Int)), (25, E.i most), (26, .bool (decide (((i.1 : Nat) : Int) ≥ most))), (29, Q.S.val i.2.1), (30, E.pt c), (31, E.pt m), (32, .iface 35 (E.pt m))] (A.X w oo aa [M.It m i.2.2 ([])]) [(β, (Q.S.cells Q.z0)), (α, [E.i 0, E.u 0]), (g2, (Q.S.cells i.2.1)), (g1, [E.i 0, E.u 0]), (c, (E.pt m :: Q.S.cells i.2.1))] := by
  intro β α
  exact up _ _ _ _ _ (E.al 4 rfl (A.gc (fun _ => .tuple #[Q.S.val ((K.step i.2.1 i.2.2).1), .agg #[E.i ((K.step i.2.1 i.2.2).2.1), E.u ((K.step i.2.1 i.2.2).2.2.1)]]) (Step_any (m := m) (xs := []) i.2.1 i.2.2 hk1.2.1 hk1.2.2.1) [5] [0, 1, 2, 3, 4] [1, 2, 3, 4, 5, 0] (fun _ => [(β, (Q.S.cells Q.z0)), (α, [E.i 0, E.u 0]), (g2, (Q.S.cells i.2.1)), (g1, [E.i 0, E.u 0]), (c, (E.pt m :: Q.S.cells i.2.1))]) (fun _ => [M.It m ((K.step i.2.1 i.2.2).2.2.2) ([])]) (fun _ δ => E.H.back (fun w h => A.hq [2, 3, 4] [0, 1, 5] h) (E.ho (dn _ _ _ _ _ (nd10 β α))))))
 have nd7 : ∀ (β : Nat), H 7 (E.bits 12 271) [(0, E.pt c), (1, E.i most), (4, E.pt g1), (5, E.pt g2), (6, E.i ((i.1 : Nat) : Int)), (7, E.pt β), (13, E.pj g2 23), (14, E.i i.2.1.du), (15, .bool (decide (i.2.1.du > 0))), (16, .bool (decide (i.2.1.du > 0))), (22, .bool ((decide (i.2.1.du > 0)) && (decide (i.2.1.st ≥ i.2.1.du)))), (24, E.i ((i.1 : Nat) : Int)), (25, E.i most), (26, .bool (decide (((i.1 : Nat) : Int) ≥ most))), (29, Q.S.val i.2.1), (30, E.pt c), (31, E.pt m), (32, .iface 35 (E.pt m))] (A.X w oo aa [M.It m i.2.2 ([])]) [(β, (Q.S.cells Q.z0)), (g2, (Q.S.cells i.2.1)), (g1, [E.i 0, E.u 0]), (c, (E.pt m :: Q.S.cells i.2.1))] := by
  intro β
  refine up _ _ _ _ _ (E.al2 4 9 rfl rfl ?_ ?_)
  ·
   exact A.gc (fun _ => .tuple #[Q.S.val ((K.step i.2.1 i.2.2).1), .agg #[E.i ((K.step i.2.1 i.2.2).2.1), E.u ((K.step i.2.1 i.2.2).2.2.1)]]) (Step_any (m := m) (xs := []) i.2.1 i.2.2 hk1.2.1 hk1.2.2.1) [4] [0, 1, 2, 3] [1, 2, 3, 4, 0] (fun _ => [(β, (Q.S.cells Q.z0)), (g2, (Q.S.cells i.2.1)), (g1, [E.i 0, E.u 0]), (c, (E.pt m :: Q.S.cells i.2.1))]) (fun _ => [M.It m ((K.step i.2.1 i.2.2).2.2.2) ([])]) (fun _ δ => E.H.back (fun w h => A.hq [1, 2, 3] [0, 4] h) (E.ho (dn _ _ _ _ _ (nd8 β))))
  exact E.nw [E.i 0, E.u 0] 47 (fun α => E.H.back (fun w h => A.hq [2, 3, 4] [0, 1, 5] h) (E.H.toP _ _ [(β, (Q.S.cells Q.z0)), (α, [E.i 0, E.u 0]), (g2, (Q.S.cells i.2.1)), (g1, [E.i 0, E.u 0]), (c, (E.pt m :: Q.S.cells i.2.1))] Nz.k ⟨Nz.k, Nz.k⟩ (A.pn [1, 0, 2, 3, 4]) (dn _ _ _ _ _ (nd9 β α))))
 have nd12 : ∀ (α : Nat), H 6 (E.bits 12 543) [(0, E.pt c), (1, E.i most), (4, E.pt g1), (5, E.pt g2), (6, E.i ((i.1 : Nat) : Int)), (8, E.pt α), (13, E.pj g2 23), (14, E.i i.2.1.du), (15, .bool (decide (i.2.1.du > 0))), (16, .bool (decide (i.2.1.du > 0))), (22, .bool ((decide (i.2.1.du > 0)) && (decide (i.2.1.st ≥ i.2.1.du)))), (24, E.i ((i.1 : Nat) : Int)), (25, E.i most), (26, .bool (decide (((i.1 : Nat) : Int) ≥ most))), (29, Q.S.val i.2.1), (30, E.pt c), (31, E.pt m), (32, .iface 35 (E.pt m)), (33, .tuple #[Q.S.val ((K.step i.2.1 i.2.2).1), .agg #[E.i ((K.step i.2.1 i.2.2).2.1), E.u ((K.step i.2.1 i.2.2).2.2.1)]])] (A.X w oo aa [M.It m ((K.step i.2.1 i.2.2).2.2.2) ([])]) [(α, [E.i 0, E.u 0]), (g2, (Q.S.cells i.2.1)), (g1, [E.i 0, E.u 0]), (c, (E.pt m :: Q.S.cells i.2.1))] := by
  intro α
  exact up _ _ _ _ _ (E.tk 5 (.tuple #[Q.S.val ((K.step i.2.1 i.2.2).1), .agg #[E.i ((K.step i.2.1 i.2.2).2.1), E.u ((K.step i.2.1 i.2.2).2.2.1)]]) rfl (fun w h => A.hq [1, 2, 3] [0, 4] h) (E.tk 6 (Q.S.val ((K.step i.2.1 i.2.2).1)) rfl (fun w h => A.hq [1, 2, 3] [0, 4] h) (E.tk 7 (.agg #[E.i ((K.step i.2.1 i.2.2).2.1), E.u ((K.step i.2.1 i.2.2).2.2.1)]) rfl (fun w h => A.hq [1, 2, 3] [0, 4] h) (E.al 8 rfl (E.nw (Q.S.cells Q.z0) 26 (fun β => E.H.back (fun w h => A.hq [2, 3, 4] [0, 1, 5] h) (E.ho (dn _ _ _ _ _ (nd3 β α)))))))))
 have nd11 : ∀ (α : Nat), H 7 (E.bits 12 527) [(0, E.pt c), (1, E.i most), (4, E.pt g1), (5, E.pt g2), (6, E.i ((i.1 : Nat) : Int)), (8, E.pt α), (13, E.pj g2 23), (14, E.i i.2.1.du), (15, .bool (decide (i.2.1.du > 0))), (16, .bool (decide (i.2.1.du > 0))), (22, .bool ((decide (i.2.1.du > 0)) && (decide (i.2.1.st ≥ i.2.1.du)))), (24, E.i ((i.1 : Nat) : Int)), (25, E.i most), (26, .bool (decide (((i.1 : Nat) : Int) ≥ most))), (29, Q.S.val i.2.1), (30, E.pt c), (31, E.pt m), (32, .iface 35 (E.pt m))] (A.X w oo aa [M.It m i.2.2 ([])]) [(α, [E.i 0, E.u 0]), (g2, (Q.S.cells i.2.1)), (g1, [E.i 0, E.u 0]), (c, (E.pt m :: Q.S.cells i.2.1))] := by
  intro α
  refine up _ _ _ _ _ (E.al2 4 8 rfl rfl ?_ ?_)
  ·
   exact A.gc (fun _ => .tuple #[Q.S.val ((K.step i.2.1 i.2.2).1), .agg #[E.i ((K.step i.2.1 i.2.2).2.1), E.u ((K.step i.2.1 i.2.2).2.2.1)]]) (Step_any (m := m) (xs := []) i.2.1 i.2.2 hk1.2.1 hk1.2.2.1) [4] [0, 1, 2, 3] [1, 2, 3, 4, 0] (fun _ => [(α, [E.i 0, E.u 0]), (g2, (Q.S.cells i.2.1)), (g1, [E.i 0, E.u 0]), (c, (E.pt m :: Q.S.cells i.2.1))]) (fun _ => [M.It m ((K.step i.2.1 i.2.2).2.2.2) ([])]) (fun _ δ => E.H.back (fun w h => A.hq [1, 2, 3] [0, 4] h) (E.ho (dn _ _ _ _ _ (nd12 α))))
  exact E.nw (Q.S.cells Q.z0) 26 (fun β => E.H.back (fun w h => A.hq [2, 3, 4] [0, 1, 5] h) (E.ho (dn _ _ _ _ _ (nd9 β α))))
 have nd0 : H 9 (E.bits 12 7) [(0, E.pt c), (1, E.i most), (4, E.pt g1), (5, E.pt g2), (6, E.i ((i.1 : Nat) : Int)), (13, E.pj g2 23), (14, E.i i.2.1.du), (15, .bool (decide (i.2.1.du > 0))), (16, .bool (decide (i.2.1.du > 0))), (22, .bool ((decide (i.2.1.du > 0)) && (decide (i.2.1.st ≥ i.2.1.du)))), (24, E.i ((i.1 : Nat) : Int)), (25, E.i most), (26, .bool (decide (((i.1 : Nat) : Int) ≥ most))), (29, Q.S.val i.2.1), (30, E.pt c), (31, E.pt m)] (A.X w oo aa [M.It m i.2.2 ([])]) [(g2, (Q.S.cells i.2.1)), (g1, [E.i 0, E.u 0]), (c, (E.pt m :: Q.S.cells i.2.1))] := by
  refine up _ _ _ _ _ (E.tk 3 (.iface 35 (E.pt m)) rfl (fun w h => A.hpY0 h Nz.k) (E.al3 4 8 9 rfl rfl rfl ?_ ?_ ?_))
  ·
   exact A.gc (fun _ => .tuple #[Q.S.val ((K.step i.2.1 i.2.2).1), .agg #[E.i ((K.step i.2.1 i.2.2).2.1), E.u ((K.step i.2.1 i.2.2).2.2.1)]]) (Step_any (m := m) (xs := []) i.2.1 i.2.2 hk1.2.1 hk1.2.2.1) [3] [0, 1, 2] [1, 2, 3, 0] (fun _ => [(g2, (Q.S.cells i.2.1)), (g1, [E.i 0, E.u 0]), (c, (E.pt m :: Q.S.cells i.2.1))]) (fun _ => [M.It m ((K.step i.2.1 i.2.2).2.2.2) ([])]) (fun _ δ => E.hb (dn _ _ _ _ _ (nd1)))
  ·
   exact E.nw (Q.S.cells Q.z0) 26 (fun β => E.H.back (fun w h => A.hq [1, 2, 3] [0, 4] h) (E.ho (dn _ _ _ _ _ (nd7 β))))
  exact E.nw [E.i 0, E.u 0] 47 (fun α => E.H.back (fun w h => A.hq [1, 2, 3] [0, 4] h) (E.ho (dn _ _ _ _ _ (nd11 α))))
 have nd14 : ∀ (β : Nat), H 8 (E.bits 12 263) [(0, E.pt c), (1, E.i most), (4, E.pt g1), (5, E.pt g2), (6, E.i ((i.1 : Nat) : Int)), (7, E.pt β), (13, E.pj g2 23), (14, E.i i.2.1.du), (15, .bool (decide (i.2.1.du > 0))), (16, .bool (decide (i.2.1.du > 0))), (22, .bool ((decide (i.2.1.du > 0)) && (decide (i.2.1.st ≥ i.2.1.du)))), (24, E.i ((i.1 : Nat) : Int)), (25, E.i most), (26, .bool (decide (((i.1 : Nat) : Int) ≥ most))), (29, Q.S.val i.2.1), (30, E.pt c), (31, E.pt m)] (A.X w oo aa [M.It m i.2.2 ([])]) [(β, (Q.S.cells Q.z0)), (g2, (Q.S.cells i.2.1)), (g1, [E.i 0, E.u 0]), (c, (E.pt m :: Q.S.cells i.2.1))] := by
  intro β
  refine up _ _ _ _ _ (E.tk 3 (.iface 35 (E.pt m)) rfl (fun w h => A.hq [1, 2, 3] [0, 4] h) (E.al2 4 9 rfl rfl ?_ ?_))
  ·
   exact A.gc (fun _ => .tuple #[Q.S.val ((K.step i.2.1 i.2.2).1), .agg #[E.i ((K.step i.2.1 i.2.2).2.1), E.u ((K.step i.2.1 i.2.2).2.2.1)]]) (Step_any (m := m) (xs := []) i.2.1 i.2.2 hk1.2.1 hk1.2.2.1) [4] [0, 1, 2, 3] [1, 2, 3, 4, 0] (fun _ => [(β, (Q.S.cells Q.z0)), (g2, (Q.S.cells i.2.1)), (g1, [E.i 0, E.u 0]), (c, (E.pt m :: Q.S.cells i.2.1))]) (fun _ => [M.It m ((K.step i.2.1 i.2.2).2.2.2) ([])]) (fun _ δ => E.H.back (fun w h => A.hq [1, 2, 3] [0, 4] h) (E.ho (dn _ _ _ _ _ (nd8 β))))
  exact E.nw [E.i 0, E.u 0] 47 (fun α => E.H.back (fun w h => A.hq [2, 3, 4] [0, 1, 5] h) (E.H.toP _ _ [(β, (Q.S.cells Q.z0)), (α, [E.i 0, E.u 0]), (g2, (Q.S.cells i.2.1)), (g1, [E.i 0, E.u 0]), (c, (E.pt m :: Q.S.cells i.2.1))] Nz.k ⟨Nz.k, Nz.k⟩ (A.pn [1, 0, 2, 3, 4]) (dn _ _ _ _ _ (nd9 β α))))
 have nd16 : ∀ (β α : Nat), H 7 (E.bits 12 775) [(0, E.pt c), (1, E.i most), (4, E.pt g1), (5, E.pt g2), (6, E.i ((i.1 : Nat) : Int)), (7, E.pt β), (8, E.pt α), (13, E.pj g2 23), (14, E.i i.2.1.du), (15, .bool (decide (i.2.1.du > 0))), (16, .bool (decide (i.2.1.du > 0))), (22, .bool ((decide (i.2.1.du > 0)) && (decide (i.2.1.st ≥ i.2.1.du)))), (24, E.i ((i.1 : Nat) : Int)), (25, E.i most), (26, .bool (decide (((i.1 : Nat) : Int) ≥ most))), (29, Q.S.val i.2.1), (30, E.pt c), (31, E.pt m)] (A.X w oo aa [M.It m i.2.2 ([])]) [(β, (Q.S.cells Q.z0)), (α, [E.i 0, E.u 0]), (g2, (Q.S.cells i.2.1)), (g1, [E.i 0, E.u 0]), (c, (E.pt m :: Q.S.cells i.2.1))] := by
  intro β α
  exact up _ _ _ _ _ (E.tk 3 (.iface 35 (E.pt m)) rfl (fun w h => A.hq [2, 3, 4] [0, 1, 5] h) (E.al 4 rfl (A.gc (fun _ => .tuple #[Q.S.val ((K.step i.2.1 i.2.2).1), .agg #[E.i ((K.step i.2.1 i.2.2).2.1), E.u ((K.step i.2.1 i.2.2).2.2.1)]]) (Step_any (m := m) (xs := []) i.2.1 i.2.2 hk1.2.1 hk1.2.2.1) [5] [0, 1, 2, 3, 4] [1, 2, 3, 4, 5, 0] (fun _ => [(β, (Q.S.cells Q.z0)), (α, [E.i 0, E.u 0]), (g2, (Q.S.cells i.2.1)), (g1, [E.i 0, E.u 0]), (c, (E.pt m :: Q.S.cells i.2.1))]) (fun _ => [M.It m ((K.step i.2.1 i.2.2).2.2.2) ([])]) (fun _ δ => E.H.back (fun w h => A.hq [2, 3, 4] [0, 1, 5] h) (E.ho (dn _ _ _ _ _ (nd10 β α)))))))
 have nd15 : ∀ (β α : Nat), H 8 (E.bits 12 771) [(0, E.pt c), (1, E.i most), (4, E.pt g1), (5, E.pt g2), (6, E.i ((i.1 : Nat) : Int)), (7, E.pt β), (8, E.pt α), (13, E.pj g2 23), (14, E.i i.2.1.du), (15, .bool (decide (i.2.1.du > 0))), (16, .bool (decide (i.2.1.du > 0))), (22, .bool ((decide (i.2.1.du > 0)) && (decide (i.2.1.st ≥ i.2.1.du)))), (24, E.i ((i.1 : Nat) : Int)), (25, E.i most), (26, .bool (decide (((i.1 : Nat) : Int) ≥ most))), (29, Q.S.val i.2.1), (30, E.pt c)] (A.X w oo aa [M.It m i.2.2 ([])]) [(β, (Q.S.cells Q.z0)), (α, [E.i 0, E.u 0]), (g2, (Q.S.cells i.2.1)), (g1, [E.i 0, E.u 0]), (c, (E.pt m :: Q.S.cells i.2.1))] := by
  intro β α
  exact up _ _ _ _ _ (E.al 2 rfl (E.ca (E.pt m) (fun w h => A.cq [4] [0, 1, 2, 3, 5] (CMem (c := c) (m := m) (s := i.2.1)) h) (E.H.back (fun w h => A.hq [2, 3, 4] [0, 1, 5] h) (E.ho (dn _ _ _ _ _ (nd16 β α))))))
 have nd13 : ∀ (β : Nat), H 9 (E.bits 12 259) [(0, E.pt c), (1, E.i most), (4, E.pt g1), (5, E.pt g2), (6, E.i ((i.1 : Nat) : Int)), (7, E.pt β), (13, E.pj g2 23), (14, E.i i.2.1.du), (15, .bool (decide (i.2.1.du > 0))), (16, .bool (decide (i.2.1.du > 0))), (22, .bool ((decide (i.2.1.du > 0)) && (decide (i.2.1.st ≥ i.2.1.du)))), (24, E.i ((i.1 : Nat) : Int)), (25, E.i most), (26, .bool (decide (((i.1 : Nat) : Int) ≥ most))), (29, Q.S.val i.2.1), (30, E.pt c)] (A.X w oo aa [M.It m i.2.2 ([])]) [(β, (Q.S.cells Q.z0)), (g2, (Q.S.cells i.2.1)), (g1, [E.i 0, E.u 0]), (c, (E.pt m :: Q.S.cells i.2.1))] := by
  intro β
  refine up _ _ _ _ _ (E.al2 2 9 rfl rfl ?_ ?_)
  ·
   exact E.ca (E.pt m) (fun w h => A.cq [3] [0, 1, 2, 4] (CMem (c := c) (m := m) (s := i.2.1)) h) (E.H.back (fun w h => A.hq [1, 2, 3] [0, 4] h) (E.ho (dn _ _ _ _ _ (nd14 β))))
  exact E.nw [E.i 0, E.u 0] 47 (fun α => E.H.back (fun w h => A.hq [2, 3, 4] [0, 1, 5] h) (E.H.toP _ _ [(β, (Q.S.cells Q.z0)), (α, [E.i 0, E.u 0]), (g2, (Q.S.cells i.2.1)), (g1, [E.i 0, E.u 0]), (c, (E.pt m :: Q.S.cells i.2.1))] Nz.k ⟨Nz.k, Nz.k⟩ (A.pn [1, 0, 2, 3, 4]) (dn _ _ _ _ _ (nd15 β α))))
 have nd18 : ∀ (α : Nat), H 8 (E.bits 12 519) [(0, E.pt c), (1, E.i most), (4, E.pt g1), (5, E.pt g2), (6, E.i ((i.1 : Nat) : Int)), (8, E.pt α), (13, E.pj g2 23), (14, E.i i.2.1.du), (15, .bool (decide (i.2.1.du > 0))), (16, .bool (decide (i.2.1.du > 0))), (22, .bool ((decide (i.2.1.du > 0)) && (decide (i.2.1.st ≥ i.2.1.du)))), (24, E.i ((i.1 : Nat) : Int)), (25, E.i most), (26, .bool (decide (((i.1 : Nat) : Int) ≥ most))), (29, Q.S.val i.2.1), (30, E.pt c), (31, E.pt m)] (A.X w oo aa [M.It m i.2.2 ([])]) [(α, [E.i 0, E.u 0]), (g2, (Q.S.cells i.2.1)), (g1, [E.i 0, E.u 0]), (c, (E.pt m :: Q.S.cells i.2.1))] := by
  intro α
  refine up _ _ _ _ _ (E.tk 3 (.iface 35 (E.pt m)) rfl (fun w h => A.hq [1, 2, 3] [0, 4] h) (E.al2 4 8 rfl rfl ?_ ?_))
  ·
   exact A.gc (fun _ => .tuple #[Q.S.val ((K.step i.2.1 i.2.2).1), .agg #[E.i ((K.step i.2.1 i.2.2).2.1), E.u ((K.step i.2.1 i.2.2).2.2.1)]]) (Step_any (m := m) (xs := []) i.2.1 i.2.2 hk1.2.1 hk1.2.2.1) [4] [0, 1, 2, 3] [1, 2, 3, 4, 0] (fun _ => [(α, [E.i 0, E.u 0]), (g2, (Q.S.cells i.2.1)), (g1, [E.i 0, E.u 0]), (c, (E.pt m :: Q.S.cells i.2.1))]) (fun _ => [M.It m ((K.step i.2.1 i.2.2).2.2.2) ([])]) (fun _ δ => E.H.back (fun w h => A.hq [1, 2, 3] [0, 4] h) (E.ho (dn _ _ _ _ _ (nd12 α))))
  exact E.nw (Q.S.cells Q.z0) 26 (fun β => E.H.back (fun w h => A.hq [2, 3, 4] [0, 1, 5] h) (E.ho (dn _ _ _ _ _ (nd9 β α))))
 have nd17 : ∀ (α : Nat), H 9 (E.bits 12 515) [(0, E.pt c), (1, E.i most), (4, E.pt g1), (5, E.pt g2), (6, E.i ((i.1 : Nat) : Int)), (8, E.pt α), (13, E.pj g2 23), (14, E.i i.2.1.du), (15, .bool (decide (i.2.1.du > 0))), (16, .bool (decide (i.2.1.du > 0))), (22, .bool ((decide (i.2.1.du > 0)) && (decide (i.2.1.st ≥ i.2.1.du)))), (24, E.i ((i.1 : Nat) : Int)), (25, E.i most), (26, .bool (decide (((i.1 : Nat) : Int) ≥ most))), (29, Q.S.val i.2.1), (30, E.pt c)] (A.X w oo aa [M.It m i.2.2 ([])]) [(α, [E.i 0, E.u 0]), (g2, (Q.S.cells i.2.1)), (g1, [E.i 0, E.u 0]), (c, (E.pt m :: Q.S.cells i.2.1))] := by
  intro α
  refine up _ _ _ _ _ (E.al2 2 8 rfl rfl ?_ ?_)
  ·
   exact E.ca (E.pt m) (fun w h => A.cq [3] [0, 1, 2, 4] (CMem (c := c) (m := m) (s := i.2.1)) h) (E.H.back (fun w h => A.hq [1, 2, 3] [0, 4] h) (E.ho (dn _ _ _ _ _ (nd18 α))))
  exact E.nw (Q.S.cells Q.z0) 26 (fun β => E.H.back (fun w h => A.hq [2, 3, 4] [0, 1, 5] h) (E.ho (dn _ _ _ _ _ (nd15 β α))))
 refine up _ _ _ _ _ (E.tj 0 (Q.S.val i.2.1) rfl (fun w h => A.hpY0 h Nz.k) (fun w h => A.Y.bld h (k := 0) (j := 0) rfl Nz.k Nz.k) (E.tk 1 (E.pt c) rfl (fun w h => A.hpY0 h Nz.k) (E.al3 2 8 9 rfl rfl rfl ?_ ?_ ?_)))
 ·
  exact E.ca (E.pt m) (fun w h => A.cq [2] [0, 1, 3] (CMem (c := c) (m := m) (s := i.2.1)) h) (E.hb (dn _ _ _ _ _ (nd0)))
 ·
  exact E.nw (Q.S.cells Q.z0) 26 (fun β => E.H.back (fun w h => A.hq [1, 2, 3] [0, 4] h) (E.ho (dn _ _ _ _ _ (nd13 β))))
 exact E.nw [E.i 0, E.u 0] 47 (fun α => E.H.back (fun w h => A.hq [1, 2, 3] [0, 4] h) (E.ho (dn _ _ _ _ _ (nd17 α))))
theorem KPeek {c m : Nat} {s : Q.S} {V : M.V} (x : Int) (hx : 0 ≤ x ∧ x < 4294967296) : A.Rd Tryz.prog 35 #[.pointer (some ⟨c, 0, none⟩), .int .u32 x] [A.blk c (.pointer (some ⟨m, 0, none⟩) :: Q.S.cells s), M.It m V []] (.int .u8 (V.peek (x).toNat)) := by
 intro w oo aa hh
 exact E.enter (n := 9) (S := fun _ => False) Tryz.func35 rfl rfl Nz.k (A.startY hh) (E.sr (E.op (.int .u8 0) (E.tr (E.op (E.pt c) (E.ca (E.pt m) (fun w h => A.Y.rd [M.It m V ([])] (CMem (c := c) (m := m) (s := s)) h.x (A.pn [0, 1])) (E.op (E.u x) (E.ca (.int .u8 (V.peek (x).toNat)) (fun w h => A.Y.rd [A.blk c (E.pt m :: Q.S.cells s)] (I_Peek x hx (m := m) (V := V) (xs := [])) h.x (A.pn [1, 0])) (E.op (.int .u8 (V.peek (x).toNat)) (E.To.code (E.C.ret (E.bd Tryz.f35 [.int .u8 (V.peek (x).toNat)] (fun w h => ⟨rfl, h.ch.bel (fun _ h => h.elim)⟩))))))))))))
theorem KPoke {c m : Nat} {s : Q.S} {V : M.V} (x : Int) (hx : 0 ≤ x ∧ x < 4294967296) (t : ByteArray) (hs : t.size < 4294967296) : A.Tr Tryz.prog 34 #[.pointer (some ⟨c, 0, none⟩), .int .u32 x, .string t] [A.blk c (.pointer (some ⟨m, 0, none⟩) :: Q.S.cells s), M.It m V []] (I := Unit) (fun _ => True) (fun _ => .tuple #[]) (fun _ => [A.blk c (.pointer (some ⟨m, 0, none⟩) :: Q.S.cells s), M.It m (V.poke (x).toNat t t.size) []]) := by
  intro w oo aa hh
  refine E.enter (n := 11) (S := oo) Tryz.func34 rfl rfl Nz.k (A.start (L := [(c, (.pointer (some ⟨m, 0, none⟩) :: Q.S.cells s))]) hh) ?_
  refine E.C.region ?_
  refine E.op (.pointer (some ⟨c, 0, none⟩)) ?_
  refine E.ca (.pointer (some ⟨m, 0, none⟩)) (fun w h => A.cq [0] [1] (CMem (c := c) (m := m) (s := s)) h) ?_
  refine E.op (.int .u32 x) ?_
  refine E.op (.string t) ?_
  refine A.gc (fun _ => .tuple #[]) (I_Poke x t hx hs (m := m) (V := V) (xs := [])) [1] [0] [1, 0] (fun _ => [(c, (.pointer (some ⟨m, 0, none⟩) :: Q.S.cells s))]) (fun _ => [M.It m (V.poke (x).toNat t t.size) ([])]) (fun _ hd1 => ?_)
  refine E.To.bodyN (fn := Tryz.f34) [] ?_ ?_
  · exact trivial
  · intro w h
    exact ⟨(), trivial, rfl, A.dq [0, 1] [] h⟩
theorem KProtect {c m : Nat} {s : Q.S} {V : M.V} (n z : Int) : A.Tr Tryz.prog 24 #[.pointer (some ⟨c, 0, none⟩), .int .i64 n, .int .i64 z] [A.blk c (.pointer (some ⟨m, 0, none⟩) :: Q.S.cells s), M.It m V []] (I := Unit) (fun _ => True) (fun _ => .tuple #[]) (fun _ => [A.blk c (.pointer (some ⟨m, 0, none⟩) :: Q.S.cells s), M.It m (V.prot n z) []]) := by
  intro w oo aa hh
  refine E.enter (n := 11) (S := oo) Tryz.func24 rfl rfl Nz.k (A.start (L := [(c, (.pointer (some ⟨m, 0, none⟩) :: Q.S.cells s))]) hh) ?_
  refine E.C.region ?_
  refine E.op (.pointer (some ⟨c, 0, none⟩)) ?_
  refine E.ca (.pointer (some ⟨m, 0, none⟩)) (fun w h => A.cq [0] [1] (CMem (c := c) (m := m) (s := s)) h) ?_
  refine E.op (.int .i64 n) ?_
  refine E.op (.int .i64 z) ?_
  refine A.gc (fun _ => .tuple #[]) (A_Protect n z (m := m) (V := V) (xs := [])) [1] [0] [1, 0] (fun _ => [(c, (.pointer (some ⟨m, 0, none⟩) :: Q.S.cells s))]) (fun _ => [M.It m (V.prot n z) ([])]) (fun _ hd1 => ?_)
  refine E.To.bodyN (fn := Tryz.f24) [] ?_ ?_
  · exact trivial
  · intro w h
    exact ⟨(), trivial, rfl, A.dq [0, 1] [] h⟩
theorem E.api_Trap_eql {fr : E.Fr} {x y : Operand} {u T : TypeId} {d : Option Nat} {pos : String} {af : Array Edge} {gd : Option (Nat × Bool)} {a0 a1 b0 b1 : Int} {w : World}
    (hx : E.ev fr x = .agg #[.int .i64 a0, .int .u32 a1]) (hy : E.ev fr y = .agg #[.int .i64 b0, .int .u32 b1]) :
    (execOp (E.ev fr) ⟨d, .binOp .eql 47 x y u, T, pos, af, gd⟩).run Tryz.prog w = .ok (.value (.bool (a0 == b0 && a1 == b1))) w := by
  show (do let r ← (do eqGuard .eql 47 x y (E.ev fr x) (E.ev fr y); binOp .eql 47 (E.ev fr x) (E.ev fr y)); pure (Next.value r) : Sem Next).run Tryz.prog w = _
  rw [hx, hy]
  go_simp
  (repeat' split) <;> simp_all
theorem Q.run_items (w : World) (d : Nat) (l : List Value) (hl : ∀ (i : Nat) (v : Value), l[i]? = some v → ∃ x : Int, v = Value.int .u32 x) : ∀ (is : List Nat), (∀ i ∈ is, i < l.length) → (Op.eqItems (d + 1) 22 1 l.toArray l.toArray is).run Tryz.prog w = .ok true w
  | [], _ => by simp [Op.eqItems]
  | i :: is, h => by
    have hi : i < l.length := h i (by simp)
    have ih := Q.run_items w d l hl is fun j hj => h j (by simp [hj])
    have ha : (isAgg 22).run Tryz.prog w = .ok false w := M.one Tryz.underlying22 rfl
    obtain ⟨x, hx⟩ := hl i _ (List.getElem?_eq_getElem hi)
    have p : (part 22 l.toArray (i * 1)).run Tryz.prog w = .ok (.int .u32 x) w := by
      have hg : l[i]? = some (.int .u32 x) := by rw [List.getElem?_eq_getElem hi, hx]
      simp [part, ha, hg]
    have e := run_equalIn_int (P := Tryz.prog) w d 22 .u32 .u32 x x Tryz.underlying22
    simp only [Op.eqItems, Sem.run_bind, p, e, Result.andThen_ok]
    simpa using ih
theorem Q.run_row (w : World) {t : TypeId} (n : Nat) (l : List Value) (ht : Tryz.prog.underlying t = some (.array n 22)) (hn : l.length = n) (hl : ∀ (i : Nat) (v : Value), l[i]? = some v → ∃ x : Int, v = Value.int .u32 x) : (Op.equalIn 9999 t (.agg l.toArray) (.agg l.toArray)).run Tryz.prog w = .ok true w := by
  subst hn
  have hi : ∃ i, Tryz.prog.info? 22 = some i := by
    cases h : Tryz.prog.info? 22 with
    | some i => exact ⟨i, rfl⟩
    | none => have : (Tryz.prog.info? 22).isSome = true := by kernel_rfl
              rw [h] at this; cases this
  obtain ⟨i, hi⟩ := hi
  have h := run_equalIn_array (P := Tryz.prog) w 9998 l.toArray l.toArray ht hi
  have hc : Tryz.prog.cellsOf 22 = 1 := by kernel_rfl
  rw [hc, Q.run_items w 9997 l hl (List.range l.length) (by simp)] at h
  exact h
theorem Q.all_u32 {l : List Int} : ∀ (i : Nat) (v : Value), (l.map (Value.int .u32))[i]? = some v → ∃ x : Int, v = Value.int .u32 x := fun i v h => by
  rw [List.getElem?_map] at h
  cases hq : l[i]? with
  | none => rw [hq] at h; cases h
  | some x => rw [hq] at h; exact ⟨x, (Option.some.inj h).symm⟩
theorem E.api_State_self {fr : E.Fr} {x y : Operand} {u T : TypeId} {d : Option Nat} {pos : String} {af : Array Edge} {gd : Option (Nat × Bool)} (s : Q.S) {w : World}
    (hx : E.ev fr x = s.val) (hy : E.ev fr y = s.val) :
    (execOp (E.ev fr) ⟨d, .binOp .eql 26 x y u, T, pos, af, gd⟩).run Tryz.prog w = .ok (.value (.bool true)) w := by
  show (do let r ← (do eqGuard .eql 26 x y (E.ev fr x) (E.ev fr y); binOp .eql 26 (E.ev fr x) (E.ev fr y)); pure (Next.value r) : Sem Next).run Tryz.prog w = _
  have h1 := Q.run_row w 16 ([s.r 0, s.r 1, s.r 2, s.r 3, s.r 4, s.r 5, s.r 6, s.r 7, s.r 8, s.r 9, s.r 10, s.r 11, s.r 12, s.r 13, s.r 14, s.r 15].map (Value.int .u32)) Tryz.underlying23 rfl Q.all_u32
  have h2 := Q.run_row w 4 ([s.c 0, s.c 1, s.c 2, s.c 3].map (Value.int .u32)) Tryz.underlying24 rfl Q.all_u32
  simp only [List.map_cons, List.map_nil] at h1 h2
  rw [hx, hy]
  unfold Q.S.val
  go_simp
theorem E.api_State_same {fr : E.Fr} {x y : Operand} {u T : TypeId} {d : Option Nat} {pos : String} {af : Array Edge} {gd : Option (Nat × Bool)} {s t : Q.S} {w : World} (e : s = t)
    (hx : E.ev fr x = s.val) (hy : E.ev fr y = t.val) :
    (execOp (E.ev fr) ⟨d, .binOp .eql 26 x y u, T, pos, af, gd⟩).run Tryz.prog w = .ok (.value (.bool true)) w := by
  subst e; exact E.api_State_self s hx hy
theorem Q.z0_wf : Q.wf Q.z0 := ⟨by decide, fun _ => by show (0 : Int) ≤ 0 ∧ (0 : Int) < 4294967296; decide, fun _ => by show (0 : Int) ≤ 0 ∧ (0 : Int) < 4294967296; decide⟩
theorem K.norm_wf {s : Q.S} (h : Q.wf s) : Q.wf (K.norm s) := ⟨h.pc, (Q.up_bd (Q.up_bd (Q.up_bd (Q.up_bd (Q.up_bd (Q.up_bd (Q.up_bd (Q.up_bd h.r (by decide)) (by decide)) (by decide)) (by decide)) (by decide)) (by decide)) (by decide)) (by decide)), h.c⟩
theorem K.run_wf {most : Int} : ∀ (f n : Nat) {s : Q.S} {V : M.V}, Q.wf s → R.Wf V → Q.wf (K.run most f n s V).1 ∧ R.Wf (K.run most f n s V).2.2.2
  | 0, _, _, _, hs, hV => ⟨hs, hV⟩
  | f + 1, n, s, V, hs, hV => by
    have h1 := K.step_wf hs hV
    rw [K.run]
    refine Q.bifP (p := fun x : Q.S × Int × Int × M.V => Q.wf x.1 ∧ R.Wf x.2.2.2) (fun _ => ⟨hs, hV⟩) fun _ => Q.bifP (p := fun x : Q.S × Int × Int × M.V => Q.wf x.1 ∧ R.Wf x.2.2.2) (fun _ => ⟨hs, hV⟩) fun _ => Q.bifP (p := fun x : Q.S × Int × Int × M.V => Q.wf x.1 ∧ R.Wf x.2.2.2) (fun _ => ⟨hs, h1.2⟩) fun _ => K.run_wf f (n + 1) h1.1 h1.2
theorem K.runs_wf {most : Int} {s : Q.S} {V : M.V} (hs : Q.wf s) (hV : R.Wf V) : Q.wf (K.runs most s V).1 ∧ R.Wf (K.runs most s V).2.2.2 := K.run_wf _ _ hs hV
def K.snA : M.V := (((M.V.new (M.np 1) true).prot 0 7).poke (0 : Int).toNat ⟨#[65, 1, 5, 0, 0, 0, 2]⟩ 7)
def K.snB : M.V := (((M.V.new (M.np 1) true).prot 0 7).poke (0 : Int).toNat ⟨#[16, 1]⟩ 2)
theorem K.lst_bd : ∀ (l : List Int), (∀ x, x ∈ l → 0 ≤ x ∧ x < 4294967296) → ∀ k, 0 ≤ l.getD k 0 ∧ l.getD k 0 < 4294967296
  | [], _, k => by show (0 : Int) ≤ 0 ∧ (0 : Int) < 4294967296; decide
  | x :: l, h, 0 => h x (List.mem_cons_self ..)
  | x :: l, h, k + 1 => K.lst_bd l (fun y hy => h y (List.mem_cons_of_mem _ hy)) k
theorem K.zero_bd (k : Nat) : 0 ≤ (fun _ => 0 : Nat → Int) k ∧ (fun _ => 0 : Nat → Int) k < 4294967296 := by show (0 : Int) ≤ 0 ∧ (0 : Int) < 4294967296; decide
def K.sn1 : Q.S × Int × Int × M.V := K.runs 10 Q.z0 K.snA
def K.snS : Q.S := K.norm ⟨0, (fun k => [0, 0, 0, 0, 0, 0, 0, 2, 0, 0, 0, 0, 0, 0, 0, 0].getD k 0), 0, (fun _ => 0), 0, 0⟩
theorem K.snS_wf : Q.wf K.snS := K.norm_wf ⟨by show (0 : Int) ≤ 0 ∧ (0 : Int) < 4294967296; decide, K.lst_bd _ (by decide), K.zero_bd⟩
def K.sn2 : Q.S × Int × Int × M.V := K.runs 1 K.snS K.snB
theorem K.sn2_st : K.sn2.1 = ⟨0, (fun k => [0, 0, 0, 0, 0, 0, 0, 2, 0, 0, 0, 0, 0, 0, 0, 0].getD k 0), 0, (fun _ => 0), 0, 0⟩ := by
  have e : K.sn2.1 = K.snS := by kernel_rfl
  rw [e]; unfold K.snS K.norm
  have hr : ∀ k, (Q.up (Q.up (Q.up (Q.up (Q.up (Q.up (Q.up (Q.up (fun k => [0, 0, 0, 0, 0, 0, 0, 2, 0, 0, 0, 0, 0, 0, 0, 0].getD k 0) 8 0) 9 0) 10 0) 11 0) 12 0) 13 0) 14 0) 15 0) k = ([0, 0, 0, 0, 0, 0, 0, 2, 0, 0, 0, 0, 0, 0, 0, 0] : List Int).getD k 0 := fun k => by
    rcases Nat.lt_or_ge k 16 with h | h
    · rcases (by omega : k = 0 ∨ k = 1 ∨ k = 2 ∨ k = 3 ∨ k = 4 ∨ k = 5 ∨ k = 6 ∨ k = 7 ∨ k = 8 ∨ k = 9 ∨ k = 10 ∨ k = 11 ∨ k = 12 ∨ k = 13 ∨ k = 14 ∨ k = 15) with rfl | rfl | rfl | rfl | rfl | rfl | rfl | rfl | rfl | rfl | rfl | rfl | rfl | rfl | rfl | rfl <;> rfl
    · unfold Q.up
      simp only [if_neg (by omega : ¬ k = 8), if_neg (by omega : ¬ k = 9), if_neg (by omega : ¬ k = 10), if_neg (by omega : ¬ k = 11), if_neg (by omega : ¬ k = 12), if_neg (by omega : ¬ k = 13), if_neg (by omega : ¬ k = 14), if_neg (by omega : ¬ k = 15)]
  rw [funext hr]; rfl
abbrev Zflza : Array Value := #[E.u 0, E.u 0, E.u 0, E.u 0, E.u 0, E.u 0, E.u 0, E.u 2, E.u 0, E.u 0, E.u 0, E.u 0, E.u 0, E.u 0, E.u 0, E.u 0]
abbrev Zflzb := (M.V.new (M.np 1) true).prot 0 7
set_option maxHeartbeats 1000000 in
theorem San5  : A.Rd Tryz.prog 15 #[] [] (.bool true) := by
 intro w oo aa hh
 refine E.enter (n := 64) (S := oo) Tryz.func15 rfl rfl Nz.k (A.start (L := []) hh) (E.sr (E.op (.bool false) (E.tr (A.gc (I := Nat × Nat) (fun i1 => E.pt i1.1) (CNew 1) [] [] [0, 1] (fun i1 => [(i1.1, (E.pt i1.2 :: Q.S.cells Q.z0))]) (fun i1 => [M.It i1.2 (M.V.new (M.np 1) true) ([])]) (fun i1 hd2 => E.op (E.pt i1.1) (E.tr (E.op (E.pt i1.1) (A.gc (fun _ => .tuple #[]) (KProtect 0 7 (c := i1.1) (m := i1.2) (s := Q.z0) (V := (M.V.new (M.np 1) true))) [0, 1] [] [0, 1] (fun _ => [(i1.1, (E.pt i1.2 :: Q.S.cells Q.z0))]) (fun _ => [M.It i1.2 Zflzb ([])]) (fun _ hd3 => E.tr (E.op (E.pt i1.1) (A.gc (q := fun _ => [A.blk i1.1 (E.pt i1.2 :: Q.S.cells Q.z0), M.It i1.2 K.snA ([])]) (fun _ => .tuple #[]) (KPoke 0 (by decide) (⟨#[65, 1, 5, 0, 0, 0, 2]⟩ : ByteArray) (by decide) (c := i1.1) (m := i1.2) (s := Q.z0) (V := Zflzb)) [0, 1] [] [0, 1] (fun _ => [(i1.1, (E.pt i1.2 :: Q.S.cells Q.z0))]) (fun _ => [M.It i1.2 K.snA ([])]) (fun _ hd4 => ?_))))))))))))
 refine E.tr (E.op (E.pt i1.1) (A.gc (q := fun _ => [A.blk i1.1 (E.pt i1.2 :: Q.S.cells K.sn1.1), M.It i1.2 K.sn1.2.2.2 ([])]) (fun _ => .agg #[E.i K.sn1.2.1, E.u K.sn1.2.2.1]) (CRun (c := i1.1) (m := i1.2) 10 Q.z0 K.snA (by decide) Q.z0_wf (R.Wf.poke (R.Wf.prot (R.Wf.new (M.np_le _) _) _ _) _ _ _)) [0, 1] [] [0, 1] (fun _ => [(i1.1, (E.pt i1.2 :: Q.S.cells K.sn1.1))]) (fun _ => [M.It i1.2 K.sn1.2.2.2 ([])]) (fun _ hd5 => E.nw [E.i 0, E.u 0] 47 (fun g6 => E.st 0 [E.i K.sn1.2.1, E.u K.sn1.2.2.1] rfl rfl (E.tr (E.op (E.pt i1.1) (E.ca (Q.S.val K.sn1.1) (fun w h => A.cq [1] [0, 2] (CState (c := i1.1) (m := i1.2) K.sn1.1) h) (E.nw (Q.S.cells Q.z0) 26 (fun g7 => E.st 0 (Q.S.cells K.sn1.1) rfl rfl (E.To.code (E.wk [(0, .bool false), (2, E.pt g6), (3, E.pt g7)] [(g7, (Q.S.cells K.sn1.1)), (g6, [E.i K.sn1.2.1, E.u K.sn1.2.2.1])] Nz.sub ?_)))))))))))
 refine E.sr (E.li (.agg #[E.i K.sn1.2.1, E.u K.sn1.2.2.1]) 1 rfl rfl (E.vl (.agg #[E.i 2, E.u 0]) (fun w h => E.run_build #[E.i 2, E.u 0] Nz.k w) (E.vl (.bool true) (fun w h => E.run_as (a := .bool ((K.sn1.2.1 == 2) && (K.sn1.2.2.1 == 0))) (E.api_Trap_eql Nz.k Nz.k) (congrArg Value.bool Nz.k)) (E.op (.bool true) (E.op (E.pj g7 1) (E.op (E.pj g7 2) (E.li (E.u (K.sn1.1.r 1)) 0 rfl rfl (E.vl (.bool true) (fun w h => E.run_as (a := .bool ((K.sn1.1.r 1) == 5)) Nz.k (congrArg Value.bool Nz.k)) (E.op (.bool true) (E.op (.bool true) (E.op (E.pj g7 17) ?_)))))))))))
 refine E.li (E.u K.sn1.1.f) 0 rfl rfl (E.vl (.bool true) (fun w h => E.run_as (a := .bool (K.sn1.1.f == 0)) Nz.k (congrArg Value.bool Nz.k)) (E.op (.bool true) (E.op (.bool true) (E.op (E.pt g7) (E.li (E.u K.sn1.1.pc) 0 rfl rfl (E.vl (.bool true) (fun w h => E.run_as (a := .bool (K.sn1.1.pc == 6)) Nz.k (congrArg Value.bool Nz.k)) (E.op (.bool true) (E.op (.bool true) (E.op (E.pj g7 22) (E.li (E.i K.sn1.1.st) 0 rfl rfl (E.vl (.bool true) (fun w h => E.run_as (a := .bool (K.sn1.1.st == 1)) Nz.k (congrArg Value.bool Nz.k)) ?_)))))))))))
 refine E.op (.bool true) (E.op (.bool true) (E.To.code (E.wk [(0, .bool false), (4, .bool true)] [] Nz.sub (E.sr (A.gc (I := Nat × Nat) (fun i8 => E.pt i8.1) (CNew 1) [] [0] [0, 1, 2] (fun i8 => [(i8.1, (E.pt i8.2 :: Q.S.cells Q.z0))]) (fun i8 => [M.It i8.2 (M.V.new (M.np 1) true) ([]), M.It i1.2 K.sn1.2.2.2 ([])]) (fun i8 hd9 => E.op (E.pt i8.1) (E.tr (E.op (E.pt i8.1) (A.gc (fun _ => .tuple #[]) (KProtect 0 7 (c := i8.1) (m := i8.2) (s := Q.z0) (V := (M.V.new (M.np 1) true))) [0, 1] [2] [0, 1, 2] (fun _ => [(i8.1, (E.pt i8.2 :: Q.S.cells Q.z0))]) (fun _ => [M.It i8.2 Zflzb ([]), M.It i1.2 K.sn1.2.2.2 ([])]) (fun _ hd10 => E.tr (E.op (E.pt i8.1) ?_)))))))))))
 refine A.gc (q := fun _ => [A.blk i8.1 (E.pt i8.2 :: Q.S.cells Q.z0), M.It i8.2 K.snB ([])]) (fun _ => .tuple #[]) (KPoke 0 (by decide) (⟨#[16, 1]⟩ : ByteArray) (by decide) (c := i8.1) (m := i8.2) (s := Q.z0) (V := Zflzb)) [0, 1] [2] [0, 1, 2] (fun _ => [(i8.1, (E.pt i8.2 :: Q.S.cells Q.z0))]) (fun _ => [M.It i8.2 K.snB ([]), M.It i1.2 K.sn1.2.2.2 ([])]) (fun _ hd11 => E.tr (E.op (E.pt i8.1) (E.vl (.agg Zflza) (fun w h => E.run_build Zflza Nz.k w) (E.vl (Q.S.val (⟨0, (fun k => [0, 0, 0, 0, 0, 0, 0, 2, 0, 0, 0, 0, 0, 0, 0, 0].getD k 0), 0, (fun _ => 0), 0, 0⟩)) (fun w h => E.run_build (Q.S.cells ⟨0, (fun k => [0, 0, 0, 0, 0, 0, 0, 2, 0, 0, 0, 0, 0, 0, 0, 0].getD k 0), 0, (fun _ => 0), 0, 0⟩).toArray Nz.k w) (A.gc (fun _ => .tuple #[]) (CSet (c := i8.1) (m := i8.2) (s0 := Q.z0) (⟨0, (fun k => [0, 0, 0, 0, 0, 0, 0, 2, 0, 0, 0, 0, 0, 0, 0, 0].getD k 0), 0, (fun _ => 0), 0, 0⟩ : Q.S)) [0] [1, 2] [0, 1, 2] (fun _ => [(i8.1, (E.pt i8.2 :: Q.S.cells K.snS))]) (fun _ => [M.It i8.2 K.snB ([]), M.It i1.2 K.sn1.2.2.2 ([])]) (fun _ hd12 => E.To.code (E.wk [(0, .bool false), (4, .bool true), (5, E.pt i8.1)] [(i8.1, (E.pt i8.2 :: Q.S.cells K.snS))] Nz.sub (E.sr (E.op (E.pt i8.1) (A.gc (q := fun _ => [A.blk i8.1 (E.pt i8.2 :: Q.S.cells K.sn2.1), M.It i8.2 K.sn2.2.2.2 ([])]) (fun _ => .agg #[E.i K.sn2.2.1, E.u K.sn2.2.2.1]) (CRun (c := i8.1) (m := i8.2) 1 K.snS K.snB (by decide) K.snS_wf (R.Wf.poke (R.Wf.prot (R.Wf.new (M.np_le _) _) _ _) _ _ _)) [0, 1] [2] [0, 1, 2] (fun _ => [(i8.1, (E.pt i8.2 :: Q.S.cells K.sn2.1))]) (fun _ => [M.It i8.2 K.sn2.2.2.2 ([]), M.It i1.2 K.sn1.2.2.2 ([])]) (fun _ hd13 => E.nw [E.i 0, E.u 0] 47 (fun g14 => ?_))))))))))))
 refine E.st 0 [E.i K.sn2.2.1, E.u K.sn2.2.2.1] rfl rfl (E.tr (E.op (.bool true) (E.op (.bool true) (E.li (.agg #[E.i K.sn2.2.1, E.u K.sn2.2.2.1]) 0 rfl rfl (E.vl (.agg #[E.i 5, E.u 4294967294]) (fun w h => E.run_build #[E.i 5, E.u 4294967294] Nz.k w) (E.vl (.bool true) (fun w h => E.run_as (a := .bool ((K.sn2.2.1 == 5) && (K.sn2.2.2.1 == 4294967294))) (E.api_Trap_eql Nz.k Nz.k) (congrArg Value.bool Nz.k)) (E.op (.bool true) (E.op (.bool true) (E.op (E.pt i8.1) (E.ca (Q.S.val K.sn2.1) (fun w h => A.cq [1] [0, 2, 3] (CState (c := i8.1) (m := i8.2) K.sn2.1) h) (E.vl (.agg Zflza) (fun w h => E.run_build Zflza Nz.k w) ?_)))))))))))
 exact E.vl (Q.S.val (⟨0, (fun k => [0, 0, 0, 0, 0, 0, 0, 2, 0, 0, 0, 0, 0, 0, 0, 0].getD k 0), 0, (fun _ => 0), 0, 0⟩)) (fun w h => E.run_build (Q.S.cells ⟨0, (fun k => [0, 0, 0, 0, 0, 0, 0, 2, 0, 0, 0, 0, 0, 0, 0, 0].getD k 0), 0, (fun _ => 0), 0, 0⟩).toArray Nz.k w) (E.vl (.bool true) (fun w h => E.api_State_same K.sn2_st Nz.k Nz.k) (E.op (.bool true) (E.op (.bool true) (E.To.code (E.wk [(0, .bool true)] [] Nz.sub (E.C.ret (E.bd Tryz.f15 [.bool true] (fun w h => ⟨rfl, h.ch.bel (fun x hx => (hh.1 x hx).elim)⟩))))))))
section rules
variable {P : Program} {fr : E.Fr} {its : List A.It}
variable {T : TypeId} {d : Option Nat} {pos : String} {af : Array Edge} {gd : Option (Nat × Bool)}
/-- A whole slice of bytes of known length, as a string. -/
theorem A.Y.strN {w : World} {x : Operand} {a b e : TypeId} {ao : Option Addr} {cap c2 : Nat} {l : List Int} {k n : Nat} (h : A.Y its w) (hk : its[k]? = some (A.vec .u8 ao cap l)) (hs : P.underlying a = some (.slice e)) (he : P.underlying e = some (.int .u8)) (hb : P.underlying b = some .string)
    (hx : E.ev fr x = .slice ao n c2) (hn : l.length = n) (hl : 0 < n) :
    (execOp (E.ev fr) ⟨d, .convert a b x, T, pos, af, gd⟩).run P w = .ok (.value (.string (strOfNums l))) w := by
  subst hn
  exact A.Y.strAll h hk hs he hb hx hl
end rules
def K.fs (z : Int) : Nat → Int
  | 0 => z
  | k + 1 => IntKind.wrap .u32 (IntKind.wrap .u32 (K.fs z k * 1664525) + 1013904223)
def K.fl (z : Int) : Nat → List Int
  | 0 => List.replicate 1024 0
  | k + 1 => (K.fl z k).set k (IntKind.wrap .u8 (Int.fdiv (K.fs z (k + 1)) (2 ^ 24)))
theorem K.fl_len (z : Int) : ∀ k, (K.fl z k).length = 1024
  | 0 => List.length_replicate
  | k + 1 => by rw [K.fl, List.length_set]; exact K.fl_len z k
/-- What Fill returns. -/
def K.fill (z : Int) : ByteArray := strOfNums (K.fl z 1024)
theorem K.fill_size (z : Int) : (K.fill z).size = 1024 := by unfold K.fill; rw [strOfNums_size, K.fl_len]
theorem K.fill_eq {z : Int} {k : Nat} (hk : k ≤ 1024) (h : decide (((k : Nat) : Int) < 1024) = false) : strOfNums (K.fl z k) = K.fill z := by
  have : k = 1024 := by have := of_decide_eq_false h; omega
  subst this; rfl
def K.cl (V : M.V) : Nat → List Int
  | 0 => List.replicate 1024 0
  | k + 1 => (K.cl V k).set k (V.peek k)
theorem K.cl_len (V : M.V) : ∀ k, (K.cl V k).length = 1024
  | 0 => List.length_replicate
  | k + 1 => by rw [K.cl, List.length_set]; exact K.cl_len V k
/-- What content returns. -/
def K.cs (V : M.V) : ByteArray := strOfNums (K.cl V 1024)
theorem K.cs_eq {V : M.V} {k : Nat} (hk : k ≤ 1024) (h : decide (((k : Nat) : Int) < 1024) = false) : strOfNums (K.cl V k) = K.cs V := by
  have : k = 1024 := by have := of_decide_eq_false h; omega
  subst this; rfl
theorem K.w32n {k : Nat} (h : k ≤ 1024) : IntKind.wrap .u32 ((k : Nat) : Int) = ((k : Nat) : Int) := by show ((k : Nat) : Int) % 4294967296 = _; omega
theorem K.kbd {k : Nat} (h : k ≤ 1024) : 0 ≤ ((k : Nat) : Int) ∧ ((k : Nat) : Int) < 4294967296 := by omega
abbrev Zi77a := fun (z : Int) k => (IntKind.wrap .u32 ((IntKind.wrap .u32 ((K.fs z k) * 1664525)) + 1013904223))
theorem Fill5 (z : Int) : A.Tr Tryz.prog 44 #[.int .u32 z, .int .i64 1024] [] (I := Unit) (fun _ => True) (fun _ => .string (K.fill z)) (fun _ => []) := by
 intro w oo aa hh
 refine E.enter (n := 27) (S := oo) Tryz.func44 rfl rfl Nz.k (A.start (L := []) hh) (E.sr (E.op (.string (⟨#[]⟩ : ByteArray)) (E.tr (E.op (E.i 1024) (E.vl (E.i ((1024 : Nat) : Int)) (fun w h => E.run_as (a := E.i (if 1024 > 0 then 1024 else 0)) Nz.k (rfl)) (A.G.make (e := 5) (kd := .u8) (lk := .i64) 1024 1 Nz.k Nz.k Nz.k Nz.pom Nz.pom Nz.k (fun ao1 => E.op (.slice ao1 1024 1024) (E.To.code (E.C.seq (E.sr (E.op (E.i 0) ?_)))))))))))
 refine E.To.code (E.C.block (E.C.loop (I := Nat) (fun k => 1024 - k) (fun k => k ≤ 1024) (fun k => [(0, E.u (K.fs z k)), (4, .string (⟨#[]⟩ : ByteArray)), (5, .slice ao1 1024 1024), (6, E.i ((k : Nat) : Int))]) (fun k => A.X w oo aa [A.vec .u8 ao1 1024 (K.fl z k)]) (fun k => []) 0 (Nat.zero_le _) ⟨Nz.k, Nz.k⟩ Nz.sub (fun _ h => h) (fun k hk1 => E.C.seq (E.sr (E.op (E.i ((k : Nat) : Int)) (E.op (.slice ao1 1024 1024) (E.op (E.i 1024) (E.op (.bool (decide (((k : Nat) : Int) < 1024))) (E.To.code (E.cd (decide (((k : Nat) : Int) < 1024)) (fun hc2 => ?_) (fun hc2 => ?_)))))))))))
 ·
  refine E.C.skip (E.To.code (E.C.seq (E.C.block (E.sr (E.op (E.u (K.fs z k)) (E.op (E.u (IntKind.wrap .u32 ((K.fs z k) * 1664525))) (E.op (E.u (Zi77a z k)) (E.op (E.u (Zi77a z k)) (E.ur (E.op (.slice ao1 1024 1024) (E.op (E.i ((k : Nat) : Int)) (E.op (E.u (Zi77a z k)) ?_))))))))))))
  exact E.op (E.u (Int.fdiv (Zi77a z k) (2 ^ 24))) (E.op (.int .u8 (IntKind.wrap .u8 (Int.fdiv (Zi77a z k) (2 ^ 24)))) (E.vl (.pointer (some ⟨(A.bk ao1), k, none⟩)) (fun w h => A.Y.idx (e := 5) (ik := .i64) (i := k) (len := 1024) (c2 := 1024) (A.X.y h.x) (k := 0) rfl Nz.k Nz.k Nz.k Nz.k Nz.pom (by rw [K.fl_len]; exact Nz.pom)) (A.G.vst (kd := .u8) (ao := ao1) (cap := 1024) (i := k) (xs := (K.fl z k)) (v := (IntKind.wrap .u8 (Int.fdiv (Zi77a z k) (2 ^ 24)))) 0 rfl Nz.k Nz.k Nz.k (by rw [K.fl_len]; exact Nz.pom) Nz.k Nz.k (E.P.nb (E.To.code (E.C.region (E.op (E.i ((k : Nat) : Int)) (E.vl (E.i ((k + 1 : Nat) : Int)) (fun w h => E.run_as (a := E.i (IntKind.wrap .i64 (((k : Nat) : Int) + 1))) Nz.k (congrArg (Value.int .i64) (by exact Nz.add64 (x := k) (y := 1) Nz.pom))) (E.op (E.i ((k + 1 : Nat) : Int)) (E.To.round (k + 1) Nz.pom Nz.pom ⟨Nz.k, Nz.k⟩ Nz.sub (fun _ h => h)))))))))))
 exact E.C.exit (E.P.et (E.P.et (E.P.eh (E.To.code (E.sr (E.op (.slice ao1 1024 1024) (E.vl (.string (K.fill z)) (fun w h => E.run_as (a := .string (strOfNums (K.fl z k))) (A.Y.strN (e := 5) (n := 1024) (c2 := 1024) (A.X.y h.x) (k := 0) rfl Nz.k Nz.k Nz.k Nz.k (K.fl_len _ _) (by decide)) (congrArg Value.string (K.fill_eq hk1 (by assumption)))) (E.op (.string (K.fill z)) (E.To.code (E.wk [(4, .string (K.fill z))] [] Nz.sub (E.C.ret (E.bd Tryz.f44 [.string (K.fill z)] (fun w h => ⟨(), trivial, rfl, A.dq [] [0] h⟩)))))))))))))
theorem Content {c m : Nat} {s : Q.S} {V : M.V} : A.Tr Tryz.prog 33 #[.pointer (some ⟨c, 0, none⟩)] [A.blk c (.pointer (some ⟨m, 0, none⟩) :: Q.S.cells s), M.It m V []] (I := Unit) (fun _ => True) (fun _ => .string (K.cs V)) (fun _ => [A.blk c (.pointer (some ⟨m, 0, none⟩) :: Q.S.cells s), M.It m V []]) := by
 intro w oo aa hh
 refine E.enter (n := 19) (S := oo) Tryz.func33 rfl rfl Nz.k (A.start (L := [(c, (E.pt m :: Q.S.cells s))]) hh) (E.sr (E.op (.string (⟨#[]⟩ : ByteArray)) (E.tr (A.G.make (e := 5) (kd := .u8) (lk := .i64) 1024 1 Nz.k Nz.k Nz.k Nz.pom Nz.pom Nz.k (fun ao1 => E.op (.slice ao1 1024 1024) (E.To.code (E.C.seq (E.sr (E.op (E.i 0) (E.To.code (E.C.block ?_)))))))))))
 refine E.C.loop (I := Nat) (fun k => 1024 - k) (fun k => k ≤ 1024) (fun k => [(0, E.pt c), (2, .string (⟨#[]⟩ : ByteArray)), (3, .slice ao1 1024 1024), (4, E.i ((k : Nat) : Int))]) (fun k => A.X w oo aa [A.vec .u8 ao1 1024 (K.cl V k), M.It m V ([])]) (fun k => [(c, (E.pt m :: Q.S.cells s))]) 0 (Nat.zero_le _) ⟨Nz.k, Nz.k⟩ Nz.sub (fun _ h => h) (fun k hk1 => E.C.seq (E.sr (E.op (E.i ((k : Nat) : Int)) (E.op (.bool (decide (((k : Nat) : Int) < 1024))) (E.To.code (E.cd (decide (((k : Nat) : Int) < 1024)) (fun hc2 => ?_) (fun hc2 => ?_)))))))
 ·
  refine E.C.skip (E.To.code (E.C.seq (E.C.block (E.C.region (E.op (.slice ao1 1024 1024) (E.op (E.i ((k : Nat) : Int)) (E.op (E.pt c) (E.op (E.i ((k : Nat) : Int)) (E.vl (E.u ((k : Nat) : Int)) (fun w h => E.run_as (a := E.u (IntKind.wrap .u32 ((k : Nat) : Int))) Nz.k (congrArg (Value.int .u32) (K.w32n hk1))) (E.ca (.int .u8 (V.peek (((k : Nat) : Int)).toNat)) (fun w h => A.cq [0, 2] [1] (KPeek ((k : Nat) : Int) (K.kbd hk1) (c := c) (m := m) (s := s) (V := V)) h) (E.vl (.pointer (some ⟨(A.bk ao1), k, none⟩)) (fun w h => A.Y.idx (e := 5) (ik := .i64) (i := k) (len := 1024) (c2 := 1024) (A.X.y h.x) (k := 0) rfl Nz.k Nz.k Nz.k Nz.k Nz.pom (by rw [K.cl_len]; exact Nz.pom)) (A.G.vst (kd := .u8) (ao := ao1) (cap := 1024) (i := k) (xs := (K.cl V k)) (v := (V.peek (((k : Nat) : Int)).toNat)) 0 rfl Nz.k Nz.k Nz.k (by rw [K.cl_len]; exact Nz.pom) Nz.k Nz.k ?_))))))))))))
  exact E.P.nb (E.To.code (E.C.region (E.op (E.i ((k : Nat) : Int)) (E.vl (E.i ((k + 1 : Nat) : Int)) (fun w h => E.run_as (a := E.i (IntKind.wrap .i64 (((k : Nat) : Int) + 1))) Nz.k (congrArg (Value.int .i64) (by exact Nz.add64 (x := k) (y := 1) Nz.pom))) (E.op (E.i ((k + 1 : Nat) : Int)) (E.To.round (k + 1) Nz.pom Nz.pom ⟨Nz.k, Nz.k⟩ Nz.sub (fun _ h => h)))))))
 exact E.C.exit (E.P.et (E.P.et (E.P.eh (E.To.code (E.sr (E.op (.slice ao1 1024 1024) (E.vl (.string (K.cs V)) (fun w h => E.run_as (a := .string (strOfNums (K.cl V k))) (A.Y.strN (e := 5) (n := 1024) (c2 := 1024) (A.X.y h.x) (k := 0) rfl Nz.k Nz.k Nz.k Nz.k (K.cl_len _ _) (by decide)) (congrArg Value.string (K.cs_eq hk1 (by assumption)))) (E.op (.string (K.cs V)) (E.To.code (E.C.ret (E.bd Tryz.f33 [.string (K.cs V)] (fun w h => ⟨(), trivial, rfl, A.dq [0, 2] [1] h⟩))))))))))))
def K.cut (s : ByteArray) : ByteArray := s.extract 0 (if 400 < ((s.size : Nat) : Int) then (400 : Int) else ((s.size : Nat) : Int)).toNat
theorem K.cut_ok (s : ByteArray) : 0 ≤ (if 400 < ((s.size : Nat) : Int) then (400 : Int) else ((s.size : Nat) : Int)) ∧ (if 400 < ((s.size : Nat) : Int) then (400 : Int) else ((s.size : Nat) : Int)) ≤ ((s.size : Nat) : Int) := by split <;> omega
theorem K.cut_size (s : ByteArray) : (K.cut s).size ≤ 400 := by
  unfold K.cut
  rw [ByteArray.size_extract]
  split <;> omega
def K.bW (z a : Int) (s : ByteArray) : M.V := ((M.V.new (M.np 4) true).poke (0 : Int).toNat (K.fill z) (K.fill z).size).poke (a).toNat (K.cut s) (K.cut s).size
/-- The memory that both makes. -/
def K.bV (x0 x1 x2 x3 z a : Int) (s : ByteArray) : M.V := ((((K.bW z a s).prot 0 x0).prot 1 x1).prot 2 x2).prot 3 x3
theorem K.bW_wf (z a : Int) (s : ByteArray) : R.Wf (K.bW z a s) := R.Wf.poke (R.Wf.poke (R.Wf.new (M.np_le _) _) _ _ _) _ _ _
theorem K.bV_wf (x0 x1 x2 x3 z a : Int) (s : ByteArray) : R.Wf (K.bV x0 x1 x2 x3 z a s) := R.Wf.prot (R.Wf.prot (R.Wf.prot (R.Wf.prot (K.bW_wf z a s) _ _) _ _) _ _) _ _
theorem CNew5 (n : Int) : A.Tr Tryz.prog 43 #[.int .i64 n] [] (I := Nat × Nat) (fun _ => True) (fun i => .pointer (some ⟨i.1, 0, none⟩)) (fun i => [A.blk i.1 (Q.S.cells Q.z0 ++ [.pointer (some ⟨i.2, 0, none⟩)]), R.It i.2 (M.V.new (M.np n) true)]) := by
 intro w oo aa hh
 exact E.enter (n := 7) (S := oo) Tryz.func43 rfl rfl Nz.k (A.start (L := []) hh) (E.sr (E.op (.pointer none) (E.tr (E.op (E.i n) (A.gc (I := Nat) (fun r1 => E.pt r1) (R_New n true) [] [] [0] (fun r1 => []) (fun r1 => [R.It r1 (M.V.new (M.np n) true)]) (fun r1 hd2 => E.vl (.agg #[E.u 0, E.u 0, E.u 0, E.u 0, E.u 0, E.u 0, E.u 0, E.u 0, E.u 0, E.u 0, E.u 0, E.u 0, E.u 0, E.u 0, E.u 0, E.u 0, E.u 0, E.u 0, E.u 0, E.u 0, E.u 0, E.u 0, E.i 0, E.i 0, E.pt r1]) (fun w h => E.run_build #[E.u 0, E.u 0, E.u 0, E.u 0, E.u 0, E.u 0, E.u 0, E.u 0, E.u 0, E.u 0, E.u 0, E.u 0, E.u 0, E.u 0, E.u 0, E.u 0, E.u 0, E.u 0, E.u 0, E.u 0, E.u 0, E.u 0, E.i 0, E.i 0, E.pt r1] Nz.k w) (E.nw (Q.S.cells Q.z0 ++ [E.pt r1]) 44 (fun g3 => E.op (E.pt g3) (E.To.code (E.C.ret (E.bd Tryz.f43 [E.pt g3] (fun w h => ⟨(g3, r1), trivial, rfl, A.dq [0, 1] [] h⟩))))))))))))
def K5.norm (s : Q.S) : Q.S := ⟨s.pc, (Q.up (Q.up (Q.up (Q.up (Q.up (Q.up (Q.up (Q.up s.r 8 0) 9 0) 10 0) 11 0) 12 0) 13 0) 14 0) 15 0), (Int.tmod s.f 16), s.c, (if 0 > s.st then 0 else s.st), (if 0 > s.du then 0 else s.du)⟩
abbrev Zzcbb (s : Q.S) := Q.up (Q.up (Q.up (Q.up s.r 8 0) 9 0) 10 0) 11 0
abbrev Zzcba (s : Q.S) := Q.up (Q.up (Q.up (Zzcbb s) 12 0) 13 0) 14 0
set_option maxHeartbeats 1000000 in
theorem Normal5 (s : Q.S)  : A.Rd Tryz.prog 47 #[Q.S.val s] [] (Q.S.val (K5.norm s)) := by
 intro w oo aa hh
 refine E.enter (n := 24) (S := fun _ => False) Tryz.func47 rfl rfl Nz.k (A.startY hh) (E.sr (E.nw (Q.S.cells s) 26 (fun g1 => E.nw (Q.S.cells Q.z0) 26 (fun g2 => E.To.code (E.C.seq (E.sr (E.op (E.i 8) (E.To.code (E.C.block (E.C.rounds 9 (E.C.seq ?_)))))))))))
 refine E.sr (E.op (E.i 8) (E.op (.bool true) (E.To.code (E.C.condT Nz.k Nz.k (E.C.skip (E.To.code (E.C.seq (E.C.block (E.C.region (E.op (E.i 8) (E.op (E.pj g1 1) (E.op (E.pj g1 9) ?_))))))))))))
 refine E.st 1 (Q.S.cells (⟨s.pc, (Q.up s.r 8 0), s.f, s.c, s.st, s.du⟩)) rfl rfl (E.P.nb (E.To.code (E.C.region (E.op (E.i 8) (E.op (E.i 9) (E.op (E.i 9) (E.To.rounds 8 (E.wk [(1, E.pt g1), (2, E.pt g2), (3, E.i 9), (4, E.i 8), (5, .bool true), (6, E.i 8), (7, E.i 9), (8, E.i 8), (9, E.pj g1 1), (10, E.pj g1 9)] [(g2, (Q.S.cells Q.z0)), (g1, (Q.S.cells (⟨s.pc, (Q.up s.r 8 0), s.f, s.c, s.st, s.du⟩)))] Nz.sub (E.C.seq (E.sr (E.op (E.i 9) (E.op (.bool true) ?_))))))))))))
 refine E.To.code (E.C.condT Nz.k Nz.k (E.C.skip (E.To.code (E.C.seq (E.C.block (E.C.region (E.op (E.i 9) (E.op (E.pj g1 1) (E.op (E.pj g1 10) (E.st 1 (Q.S.cells (⟨s.pc, (Q.up (Q.up s.r 8 0) 9 0), s.f, s.c, s.st, s.du⟩)) rfl rfl (E.P.nb (E.To.code (E.C.region ?_)))))))))))))
 refine E.op (E.i 9) (E.op (E.i 10) (E.op (E.i 10) (E.To.rounds 7 (E.wk [(1, E.pt g1), (2, E.pt g2), (3, E.i 10), (4, E.i 9), (5, .bool true), (6, E.i 9), (7, E.i 10), (8, E.i 9), (9, E.pj g1 1), (10, E.pj g1 10)] [(g2, (Q.S.cells Q.z0)), (g1, (Q.S.cells (⟨s.pc, (Q.up (Q.up s.r 8 0) 9 0), s.f, s.c, s.st, s.du⟩)))] Nz.sub (E.C.seq (E.sr (E.op (E.i 10) (E.op (.bool true) (E.To.code (E.C.condT Nz.k Nz.k (E.C.skip (E.To.code ?_))))))))))))
 refine E.C.seq (E.C.block (E.C.region (E.op (E.i 10) (E.op (E.pj g1 1) (E.op (E.pj g1 11) (E.st 1 (Q.S.cells (⟨s.pc, (Q.up (Q.up (Q.up s.r 8 0) 9 0) 10 0), s.f, s.c, s.st, s.du⟩)) rfl rfl (E.P.nb (E.To.code (E.C.region (E.op (E.i 10) (E.op (E.i 11) (E.op (E.i 11) ?_))))))))))))
 refine E.To.rounds 6 (E.wk [(1, E.pt g1), (2, E.pt g2), (3, E.i 11), (4, E.i 10), (5, .bool true), (6, E.i 10), (7, E.i 11), (8, E.i 10), (9, E.pj g1 1), (10, E.pj g1 11)] [(g2, (Q.S.cells Q.z0)), (g1, (Q.S.cells (⟨s.pc, (Q.up (Q.up (Q.up s.r 8 0) 9 0) 10 0), s.f, s.c, s.st, s.du⟩)))] Nz.sub (E.C.seq (E.sr (E.op (E.i 11) (E.op (.bool true) (E.To.code (E.C.condT Nz.k Nz.k (E.C.skip (E.To.code (E.C.seq (E.C.block (E.C.region ?_))))))))))))
 refine E.op (E.i 11) (E.op (E.pj g1 1) (E.op (E.pj g1 12) (E.st 1 (Q.S.cells (⟨s.pc, (Zzcbb s), s.f, s.c, s.st, s.du⟩)) rfl rfl (E.P.nb (E.To.code (E.C.region (E.op (E.i 11) (E.op (E.i 12) (E.op (E.i 12) (E.To.rounds 5 (E.wk [(1, E.pt g1), (2, E.pt g2), (3, E.i 12), (4, E.i 11), (5, .bool true), (6, E.i 11), (7, E.i 12), (8, E.i 11), (9, E.pj g1 1), (10, E.pj g1 12)] [(g2, (Q.S.cells Q.z0)), (g1, (Q.S.cells (⟨s.pc, (Zzcbb s), s.f, s.c, s.st, s.du⟩)))] Nz.sub (E.C.seq ?_))))))))))))
 refine E.sr (E.op (E.i 12) (E.op (.bool true) (E.To.code (E.C.condT Nz.k Nz.k (E.C.skip (E.To.code (E.C.seq (E.C.block (E.C.region (E.op (E.i 12) (E.op (E.pj g1 1) (E.op (E.pj g1 13) ?_))))))))))))
 refine E.st 1 (Q.S.cells (⟨s.pc, (Q.up (Zzcbb s) 12 0), s.f, s.c, s.st, s.du⟩)) rfl rfl (E.P.nb (E.To.code (E.C.region (E.op (E.i 12) (E.op (E.i 13) (E.op (E.i 13) (E.To.rounds 4 (E.wk [(1, E.pt g1), (2, E.pt g2), (3, E.i 13), (4, E.i 12), (5, .bool true), (6, E.i 12), (7, E.i 13), (8, E.i 12), (9, E.pj g1 1), (10, E.pj g1 13)] [(g2, (Q.S.cells Q.z0)), (g1, (Q.S.cells (⟨s.pc, (Q.up (Zzcbb s) 12 0), s.f, s.c, s.st, s.du⟩)))] Nz.sub (E.C.seq (E.sr (E.op (E.i 13) (E.op (.bool true) ?_))))))))))))
 refine E.To.code (E.C.condT Nz.k Nz.k (E.C.skip (E.To.code (E.C.seq (E.C.block (E.C.region (E.op (E.i 13) (E.op (E.pj g1 1) (E.op (E.pj g1 14) (E.st 1 (Q.S.cells (⟨s.pc, (Q.up (Q.up (Zzcbb s) 12 0) 13 0), s.f, s.c, s.st, s.du⟩)) rfl rfl (E.P.nb (E.To.code (E.C.region ?_)))))))))))))
 refine E.op (E.i 13) (E.op (E.i 14) (E.op (E.i 14) (E.To.rounds 3 (E.wk [(1, E.pt g1), (2, E.pt g2), (3, E.i 14), (4, E.i 13), (5, .bool true), (6, E.i 13), (7, E.i 14), (8, E.i 13), (9, E.pj g1 1), (10, E.pj g1 14)] [(g2, (Q.S.cells Q.z0)), (g1, (Q.S.cells (⟨s.pc, (Q.up (Q.up (Zzcbb s) 12 0) 13 0), s.f, s.c, s.st, s.du⟩)))] Nz.sub (E.C.seq (E.sr (E.op (E.i 14) (E.op (.bool true) (E.To.code (E.C.condT Nz.k Nz.k (E.C.skip (E.To.code ?_))))))))))))
 refine E.C.seq (E.C.block (E.C.region (E.op (E.i 14) (E.op (E.pj g1 1) (E.op (E.pj g1 15) (E.st 1 (Q.S.cells (⟨s.pc, (Zzcba s), s.f, s.c, s.st, s.du⟩)) rfl rfl (E.P.nb (E.To.code (E.C.region (E.op (E.i 14) (E.op (E.i 15) (E.op (E.i 15) ?_))))))))))))
 refine E.To.rounds 2 (E.wk [(1, E.pt g1), (2, E.pt g2), (3, E.i 15), (4, E.i 14), (5, .bool true), (6, E.i 14), (7, E.i 15), (8, E.i 14), (9, E.pj g1 1), (10, E.pj g1 15)] [(g2, (Q.S.cells Q.z0)), (g1, (Q.S.cells (⟨s.pc, (Zzcba s), s.f, s.c, s.st, s.du⟩)))] Nz.sub (E.C.seq (E.sr (E.op (E.i 15) (E.op (.bool true) (E.To.code (E.C.condT Nz.k Nz.k (E.C.skip (E.To.code (E.C.seq (E.C.block (E.C.region ?_))))))))))))
 refine E.op (E.i 15) (E.op (E.pj g1 1) (E.op (E.pj g1 16) (E.st 1 (Q.S.cells (⟨s.pc, (Q.up (Zzcba s) 15 0), s.f, s.c, s.st, s.du⟩)) rfl rfl (E.P.nb (E.To.code (E.C.region (E.op (E.i 15) (E.op (E.i 16) (E.op (E.i 16) (E.To.rounds 1 (E.wk [(1, E.pt g1), (2, E.pt g2), (3, E.i 16), (4, E.i 15), (5, .bool true), (6, E.i 15), (7, E.i 16), (8, E.i 15), (9, E.pj g1 1), (10, E.pj g1 16)] [(g2, (Q.S.cells Q.z0)), (g1, (Q.S.cells (⟨s.pc, (Q.up (Zzcba s) 15 0), s.f, s.c, s.st, s.du⟩)))] Nz.sub (E.C.seq ?_))))))))))))
 refine E.sr (E.op (E.i 16) (E.op (.bool false) (E.To.code (E.C.condF Nz.k Nz.k (E.C.exit (E.P.et (E.P.et (E.P.eh (E.To.code (E.wk [(1, E.pt g1), (2, E.pt g2)] [(g2, (Q.S.cells Q.z0)), (g1, (Q.S.cells (⟨s.pc, (Q.up (Zzcba s) 15 0), s.f, s.c, s.st, s.du⟩)))] Nz.sub (E.sr (E.op (E.pj g1 17) (E.li (E.u s.f) 1 rfl rfl (E.op (E.u (Int.tmod s.f 16)) (E.op (E.pj g1 17) ?_)))))))))))))))
 refine E.st 1 (Q.S.cells (⟨s.pc, (Q.up (Zzcba s) 15 0), (Int.tmod s.f 16), s.c, s.st, s.du⟩)) rfl rfl (E.tr (E.op (E.pj g1 22) (E.li (E.i s.st) 1 rfl rfl (E.op (E.i (if 0 > s.st then 0 else s.st)) (E.op (E.pj g1 22) (E.st 1 (Q.S.cells (⟨s.pc, (Q.up (Zzcba s) 15 0), (Int.tmod s.f 16), s.c, (if 0 > s.st then 0 else s.st), s.du⟩)) rfl rfl (E.To.code (E.wk [(1, E.pt g1), (2, E.pt g2)] [(g2, (Q.S.cells Q.z0)), (g1, (Q.S.cells (⟨s.pc, (Q.up (Zzcba s) 15 0), (Int.tmod s.f 16), s.c, (if 0 > s.st then 0 else s.st), s.du⟩)))] Nz.sub (E.sr (E.op (E.pj g1 23) (E.li (E.i s.du) 1 rfl rfl ?_)))))))))))
 exact E.op (E.i (if 0 > s.du then 0 else s.du)) (E.op (E.pj g1 23) (E.st 1 (Q.S.cells (⟨s.pc, (Q.up (Zzcba s) 15 0), (Int.tmod s.f 16), s.c, (if 0 > s.st then 0 else s.st), (if 0 > s.du then 0 else s.du)⟩)) rfl rfl (E.tr (E.li (Q.S.val (⟨s.pc, (Q.up (Zzcba s) 15 0), (Int.tmod s.f 16), s.c, (if 0 > s.st then 0 else s.st), (if 0 > s.du then 0 else s.du)⟩)) 1 rfl rfl (E.st 0 (Q.S.cells (⟨s.pc, (Q.up (Zzcba s) 15 0), (Int.tmod s.f 16), s.c, (if 0 > s.st then 0 else s.st), (if 0 > s.du then 0 else s.du)⟩)) rfl rfl (E.To.code (E.C.ret (E.b0 Tryz.f47 [Q.S.val (⟨s.pc, (Q.up (Zzcba s) 15 0), (Int.tmod s.f 16), s.c, (if 0 > s.st then 0 else s.st), (if 0 > s.du then 0 else s.du)⟩)] (fun w h => ⟨rfl, h.ch.bel (fun _ h => h.elim)⟩)))))))))
abbrev Zecla (s : Q.S) (x0 : Int) (x1 : Int) (x2 : Int) (x3 : Int) (z : Int) (a : Int) (code : ByteArray) := Q.S.cells s ++ [.int .u8 x0, .int .u8 x1, .int .u8 x2, .int .u8 x3, E.u z, E.u a, .string code]
set_option maxHeartbeats 4000000 in
set_option maxHeartbeats 4000000 in
theorem Both (s : Q.S) (x0 x1 x2 x3 z a : Int) (code : ByteArray) (ha : 0 ≤ a ∧ a < 4294967296) (hx0 : 0 ≤ x0 ∧ x0 < 256) (hx1 : 0 ≤ x1 ∧ x1 < 256) (hx2 : 0 ≤ x2 ∧ x2 < 256) (hx3 : 0 ≤ x3 ∧ x3 < 256) : A.Tr Tryz.prog 16 #[.agg (Q.S.cells s ++ [Value.int .u8 x0, Value.int .u8 x1, Value.int .u8 x2, Value.int .u8 x3, Value.int .u32 z, Value.int .u32 a, Value.string code]).toArray] [] (I := (Nat × Nat) × (Nat × Nat)) (fun _ => True) (fun i => .tuple #[.pointer (some ⟨i.1.1, 0, none⟩), .pointer (some ⟨i.2.1, 0, none⟩)]) (fun i => [A.blk i.1.1 (.pointer (some ⟨i.1.2, 0, none⟩) :: Q.S.cells (K.norm s)), M.It i.1.2 (K.bV x0 x1 x2 x3 z a code) [], A.blk i.2.1 (Q.S.cells (K5.norm s) ++ [.pointer (some ⟨i.2.2, 0, none⟩)]), R.It i.2.2 (K.bV x0 x1 x2 x3 z a code)]) := by
 intro w oo aa hh
 refine E.enter (n := 78) (S := oo) Tryz.func16 rfl rfl Nz.k (A.start (L := []) hh) (E.sr (E.nw (Zecla s x0 x1 x2 x3 z a code) 29 (fun g1 => E.op (.pointer none) (E.op (.pointer none) (E.tr (A.gc (I := Nat × Nat) (fun i2 => E.pt i2.1) (CNew 4) [] [0] [0, 2, 1] (fun i2 => [(i2.1, (E.pt i2.2 :: Q.S.cells Q.z0)), (g1, (Zecla s x0 x1 x2 x3 z a code))]) (fun i2 => [M.It i2.2 (M.V.new (M.np 4) true) ([])]) (fun i2 hd3 => E.op (E.pt i2.1) (E.tr (A.gc (I := Nat × Nat) (fun j4 => E.pt j4.1) (CNew5 4) [] [0, 1, 2] [0, 2, 3, 1, 4] (fun j4 => [(j4.1, (Q.S.cells Q.z0 ++ [E.pt j4.2])), (i2.1, (E.pt i2.2 :: Q.S.cells Q.z0)), (g1, (Zecla s x0 x1 x2 x3 z a code))]) (fun j4 => [R.It j4.2 (M.V.new (M.np 4) true), M.It i2.2 (M.V.new (M.np 4) true) ([])]) (fun j4 hd5 => E.op (E.pt j4.1) (E.tr ?_)))))))))))
 refine E.op (E.pj g1 28) (E.li (E.u z) 2 rfl rfl (A.gc (fun _ => .string (K.fill z)) (Fill5 z) [] [0, 1, 2, 3, 4] [0, 1, 2, 3, 4] (fun _ => [(j4.1, (Q.S.cells Q.z0 ++ [E.pt j4.2])), (i2.1, (E.pt i2.2 :: Q.S.cells Q.z0)), (g1, (Zecla s x0 x1 x2 x3 z a code))]) (fun _ => [R.It j4.2 (M.V.new (M.np 4) true), M.It i2.2 (M.V.new (M.np 4) true) ([])]) (fun _ hd6 => E.op (.string (K.fill z)) (E.tr (E.op (E.pj g1 30) (E.li (.string code) 2 rfl rfl (E.op (E.pj g1 30) (E.li (.string code) 2 rfl rfl (E.op (E.i ((code.size : Nat) : Int)) (E.op (E.i (if 400 < ((code.size : Nat) : Int) then 400 else ((code.size : Nat) : Int))) (E.vl (.string (K.cut code)) (fun w h => E.slTo code .i64 (if 400 < ((code.size : Nat) : Int) then 400 else ((code.size : Nat) : Int)) Nz.k Nz.k Nz.k (K.cut_ok _).1 (K.cut_ok _).2 w) ?_)))))))))))
 refine E.op (.string (K.cut code)) (E.To.code (E.wk [(1, E.pt g1), (2, .pointer none), (3, .pointer none), (4, E.pt i2.1), (5, E.pt j4.1), (6, .string (K.fill z)), (7, .string (K.cut code))] [(j4.1, (Q.S.cells Q.z0 ++ [E.pt j4.2])), (i2.1, (E.pt i2.2 :: Q.S.cells Q.z0)), (g1, (Zecla s x0 x1 x2 x3 z a code))] Nz.sub (E.sr (E.op (E.pt i2.1) (E.op (.string (K.fill z)) (A.gc (q := fun _ => [A.blk i2.1 (E.pt i2.2 :: Q.S.cells Q.z0), M.It i2.2 ((M.V.new (M.np 4) true).poke (0 : Int).toNat (K.fill z) (K.fill z).size) ([])]) (fun _ => .tuple #[]) (KPoke 0 (by decide) (K.fill z) (by rw [K.fill_size]; decide) (c := i2.1) (m := i2.2) (s := Q.z0) (V := (M.V.new (M.np 4) true))) [1, 4] [0, 2, 3] [0, 2, 3, 4, 1] (fun _ => [(i2.1, (E.pt i2.2 :: Q.S.cells Q.z0)), (j4.1, (Q.S.cells Q.z0 ++ [E.pt j4.2])), (g1, (Zecla s x0 x1 x2 x3 z a code))]) (fun _ => [R.It j4.2 (M.V.new (M.np 4) true), M.It i2.2 ((M.V.new (M.np 4) true).poke (0 : Int).toNat (K.fill z) (K.fill z).size) ([])]) (fun _ hd7 => E.tr (E.op (E.pt j4.1) (E.op (E.pt j4.1) (E.op (.pointer (some ⟨j4.1, 24, none⟩)) (E.li (E.pt j4.2) 1 rfl rfl ?_)))))))))))
 refine E.op (.string (K.fill z)) (A.gc (q := fun _ => [R.It j4.2 ((M.V.new (M.np 4) true).poke (0 : Int).toNat (K.fill z) (K.fill z).size)]) (fun _ => .tuple #[]) (J_Poke 0 (K.fill z) (by decide) (by rw [K.fill_size]; decide) (m := j4.2) (V := (M.V.new (M.np 4) true))) [3] [0, 1, 2, 4] [1, 2, 3, 0, 4] (fun _ => [(i2.1, (E.pt i2.2 :: Q.S.cells Q.z0)), (j4.1, (Q.S.cells Q.z0 ++ [E.pt j4.2])), (g1, (Zecla s x0 x1 x2 x3 z a code))]) (fun _ => [R.It j4.2 ((M.V.new (M.np 4) true).poke (0 : Int).toNat (K.fill z) (K.fill z).size), M.It i2.2 ((M.V.new (M.np 4) true).poke (0 : Int).toNat (K.fill z) (K.fill z).size) ([])]) (fun _ hd8 => E.To.code (E.wk [(1, E.pt g1), (2, .pointer none), (3, .pointer none), (4, E.pt i2.1), (5, E.pt j4.1), (7, .string (K.cut code))] [(i2.1, (E.pt i2.2 :: Q.S.cells Q.z0)), (j4.1, (Q.S.cells Q.z0 ++ [E.pt j4.2])), (g1, (Zecla s x0 x1 x2 x3 z a code))] Nz.sub (E.sr (E.op (E.pt i2.1) (E.op (E.pj g1 29) (E.li (E.u a) 2 rfl rfl (E.op (.string (K.cut code)) (A.gc (q := fun _ => [A.blk i2.1 (E.pt i2.2 :: Q.S.cells Q.z0), M.It i2.2 (K.bW z a code) ([])]) (fun _ => .tuple #[]) (KPoke a ha (K.cut code) (by have := K.cut_size code; omega) (c := i2.1) (m := i2.2) (s := Q.z0) (V := ((M.V.new (M.np 4) true).poke (0 : Int).toNat (K.fill z) (K.fill z).size))) [0, 4] [1, 2, 3] [0, 2, 3, 4, 1] (fun _ => [(i2.1, (E.pt i2.2 :: Q.S.cells Q.z0)), (j4.1, (Q.S.cells Q.z0 ++ [E.pt j4.2])), (g1, (Zecla s x0 x1 x2 x3 z a code))]) (fun _ => [R.It j4.2 ((M.V.new (M.np 4) true).poke (0 : Int).toNat (K.fill z) (K.fill z).size), M.It i2.2 (K.bW z a code) ([])]) (fun _ hd9 => E.To.code (E.C.joint (fun J up dn => ?_))))))))))))
 have rest : J [(1, E.pt g1), (2, .pointer none), (3, .pointer none), (4, E.pt i2.1), (5, E.pt j4.1)] (A.X w oo aa [R.It j4.2 (K.bW z a code), M.It i2.2 (K.bW z a code) ([])]) [(i2.1, (E.pt i2.2 :: Q.S.cells Q.z0)), (j4.1, (Q.S.cells Q.z0 ++ [E.pt j4.2])), (g1, (Zecla s x0 x1 x2 x3 z a code))] := by
  refine up _ _ _ (E.C.seq (E.sr (E.op (E.i 0) (E.To.code (E.C.block (E.C.rounds 4 (E.C.seq (E.sr (E.op (E.i 0) (E.op (.bool true) (E.To.code ?_)))))))))))
  refine E.C.condT Nz.k Nz.k (E.C.skip (E.To.code (E.C.seq (E.C.block (E.sr (E.op (E.pt i2.1) (E.op (E.i 0) (E.op (E.i 0) (E.op (E.pj g1 24) (E.op (E.pj g1 24) (E.li (.int .u8 x0) 2 rfl rfl (E.vl (E.i x0) (fun w h => E.run_as (a := E.i (IntKind.wrap .i64 x0)) Nz.k (congrArg (Value.int .i64) (IntWalk.i64_in _ (by omega)))) ?_))))))))))))
  refine A.gc (fun _ => .tuple #[]) (KProtect 0 x0 (c := i2.1) (m := i2.2) (s := Q.z0) (V := (K.bW z a code))) [0, 4] [1, 2, 3] [0, 2, 3, 4, 1] (fun _ => [(i2.1, (E.pt i2.2 :: Q.S.cells Q.z0)), (j4.1, (Q.S.cells Q.z0 ++ [E.pt j4.2])), (g1, (Zecla s x0 x1 x2 x3 z a code))]) (fun _ => [R.It j4.2 (K.bW z a code), M.It i2.2 ((K.bW z a code).prot 0 x0) ([])]) (fun _ hd10 => E.To.code (E.C.held (A.Y [A.blk j4.1 (Q.S.cells Q.z0 ++ [E.pt j4.2]), A.blk g1 (Zecla s x0 x1 x2 x3 z a code)]) Nz.k (E.tk 0 (E.pt j4.1) rfl (fun w h => A.hq [1, 2] [0, 3, 4] h) (E.tk 1 (E.pt j4.1) rfl (fun w h => A.hq [1, 2] [0, 3, 4] h) (E.tk 2 (.pointer (some ⟨j4.1, 24, none⟩)) rfl (fun w h => A.hq [1, 2] [0, 3, 4] h) (E.tj 3 (E.pt j4.2) rfl (fun w h => A.hq [1, 2] [0, 3, 4] h) (fun w h => A.Y.bld h (k := 0) (j := 24) rfl Nz.k Nz.k) (E.tk 4 (E.i 0) rfl (fun w h => A.hq [1, 2] [0, 3, 4] h) (E.tk 5 (E.i 0) rfl (fun w h => A.hq [1, 2] [0, 3, 4] h) (E.tk 6 (E.pj g1 24) rfl (fun w h => A.hq [1, 2] [0, 3, 4] h) (E.tk 7 (E.pj g1 24) rfl (fun w h => A.hq [1, 2] [0, 3, 4] h) (E.tj 8 (.int .u8 x0) rfl (fun w h => A.hq [1, 2] [0, 3, 4] h) (fun w h => A.Y.bld h (k := 1) (j := 24) rfl Nz.k Nz.k) ?_)))))))))))
  refine E.tj 9 (E.i x0) rfl (fun w h => A.hq [1, 2] [0, 3, 4] h) (fun w h => E.run_as (a := E.i (IntKind.wrap .i64 x0)) Nz.k (congrArg (Value.int .i64) (IntWalk.i64_in _ (by omega)))) (E.al 10 rfl (A.gc (fun _ => .tuple #[]) (B_Protect 0 x0 (r := j4.2) (V := (K.bW z a code))) [3] [0, 1, 2, 4] [1, 2, 3, 0, 4] (fun _ => [(i2.1, (E.pt i2.2 :: Q.S.cells Q.z0)), (j4.1, (Q.S.cells Q.z0 ++ [E.pt j4.2])), (g1, (Zecla s x0 x1 x2 x3 z a code))]) (fun _ => [R.It j4.2 ((K.bW z a code).prot 0 x0), M.It i2.2 ((K.bW z a code).prot 0 x0) ([])]) (fun _ hd11 => E.H.back (fun w h => A.hq [1, 2] [0, 3, 4] h) (E.H.done Nz.k (E.P.nb (E.To.code (E.C.region (E.op (E.i 0) (E.op (E.i 1) (E.op (E.i 1) (E.To.rounds 3 (E.wk [(1, E.pt g1), (2, .pointer none), (3, .pointer none), (4, E.pt i2.1), (5, E.pt j4.1), (8, E.i 1), (43, E.i 0), (44, .bool true), (45, E.i 0), (46, E.i 1), (47, E.pt i2.1), (48, E.i 0), (49, E.i 0), (50, E.pj g1 24), (51, E.pj g1 24), (52, .int .u8 x0), (53, E.i x0), (55, E.pt j4.1), (56, E.pt j4.1), (57, .pointer (some ⟨j4.1, 24, none⟩)), (58, E.pt j4.2), (59, E.i 0), (60, E.i 0), (61, E.pj g1 24), (62, E.pj g1 24), (63, .int .u8 x0), (64, E.i x0)] [(i2.1, (E.pt i2.2 :: Q.S.cells Q.z0)), (j4.1, (Q.S.cells Q.z0 ++ [E.pt j4.2])), (g1, (Zecla s x0 x1 x2 x3 z a code))] Nz.sub ?_))))))))))))
  refine E.C.seq (E.sr (E.op (E.i 1) (E.op (.bool true) (E.To.code (E.C.condT Nz.k Nz.k (E.C.skip (E.To.code (E.C.seq (E.C.block (E.sr (E.op (E.pt i2.1) (E.op (E.i 1) ?_))))))))))))
  refine E.op (E.i 1) (E.op (E.pj g1 24) (E.op (E.pj g1 25) (E.li (.int .u8 x1) 2 rfl rfl (E.vl (E.i x1) (fun w h => E.run_as (a := E.i (IntKind.wrap .i64 x1)) Nz.k (congrArg (Value.int .i64) (IntWalk.i64_in _ (by omega)))) (A.gc (fun _ => .tuple #[]) (KProtect 1 x1 (c := i2.1) (m := i2.2) (s := Q.z0) (V := ((K.bW z a code).prot 0 x0))) [0, 4] [1, 2, 3] [0, 2, 3, 4, 1] (fun _ => [(i2.1, (E.pt i2.2 :: Q.S.cells Q.z0)), (j4.1, (Q.S.cells Q.z0 ++ [E.pt j4.2])), (g1, (Zecla s x0 x1 x2 x3 z a code))]) (fun _ => [R.It j4.2 ((K.bW z a code).prot 0 x0), M.It i2.2 (((K.bW z a code).prot 0 x0).prot 1 x1) ([])]) (fun _ hd12 => E.To.code (E.C.held (A.Y [A.blk j4.1 (Q.S.cells Q.z0 ++ [E.pt j4.2]), A.blk g1 (Zecla s x0 x1 x2 x3 z a code)]) Nz.k (E.tk 0 (E.pt j4.1) rfl (fun w h => A.hq [1, 2] [0, 3, 4] h) (E.tk 1 (E.pt j4.1) rfl (fun w h => A.hq [1, 2] [0, 3, 4] h) (E.tk 2 (.pointer (some ⟨j4.1, 24, none⟩)) rfl (fun w h => A.hq [1, 2] [0, 3, 4] h) (E.tj 3 (E.pt j4.2) rfl (fun w h => A.hq [1, 2] [0, 3, 4] h) (fun w h => A.Y.bld h (k := 0) (j := 24) rfl Nz.k Nz.k) ?_)))))))))))
  refine E.tk 4 (E.i 1) rfl (fun w h => A.hq [1, 2] [0, 3, 4] h) (E.tk 5 (E.i 1) rfl (fun w h => A.hq [1, 2] [0, 3, 4] h) (E.tk 6 (E.pj g1 24) rfl (fun w h => A.hq [1, 2] [0, 3, 4] h) (E.tk 7 (E.pj g1 25) rfl (fun w h => A.hq [1, 2] [0, 3, 4] h) (E.tj 8 (.int .u8 x1) rfl (fun w h => A.hq [1, 2] [0, 3, 4] h) (fun w h => A.Y.bld h (k := 1) (j := 25) rfl Nz.k Nz.k) (E.tj 9 (E.i x1) rfl (fun w h => A.hq [1, 2] [0, 3, 4] h) (fun w h => E.run_as (a := E.i (IntKind.wrap .i64 x1)) Nz.k (congrArg (Value.int .i64) (IntWalk.i64_in _ (by omega)))) (E.al 10 rfl (A.gc (fun _ => .tuple #[]) (B_Protect 1 x1 (r := j4.2) (V := ((K.bW z a code).prot 0 x0))) [3] [0, 1, 2, 4] [1, 2, 3, 0, 4] (fun _ => [(i2.1, (E.pt i2.2 :: Q.S.cells Q.z0)), (j4.1, (Q.S.cells Q.z0 ++ [E.pt j4.2])), (g1, (Zecla s x0 x1 x2 x3 z a code))]) (fun _ => [R.It j4.2 (((K.bW z a code).prot 0 x0).prot 1 x1), M.It i2.2 (((K.bW z a code).prot 0 x0).prot 1 x1) ([])]) (fun _ hd13 => E.H.back (fun w h => A.hq [1, 2] [0, 3, 4] h) (E.H.done Nz.k (E.P.nb (E.To.code (E.C.region ?_))))))))))))
  refine E.op (E.i 1) (E.op (E.i 2) (E.op (E.i 2) (E.To.rounds 2 (E.wk [(1, E.pt g1), (2, .pointer none), (3, .pointer none), (4, E.pt i2.1), (5, E.pt j4.1), (8, E.i 2), (43, E.i 1), (44, .bool true), (45, E.i 1), (46, E.i 2), (47, E.pt i2.1), (48, E.i 1), (49, E.i 1), (50, E.pj g1 24), (51, E.pj g1 25), (52, .int .u8 x1), (53, E.i x1), (55, E.pt j4.1), (56, E.pt j4.1), (57, .pointer (some ⟨j4.1, 24, none⟩)), (58, E.pt j4.2), (59, E.i 1), (60, E.i 1), (61, E.pj g1 24), (62, E.pj g1 25), (63, .int .u8 x1), (64, E.i x1)] [(i2.1, (E.pt i2.2 :: Q.S.cells Q.z0)), (j4.1, (Q.S.cells Q.z0 ++ [E.pt j4.2])), (g1, (Zecla s x0 x1 x2 x3 z a code))] Nz.sub (E.C.seq (E.sr (E.op (E.i 2) (E.op (.bool true) (E.To.code (E.C.condT Nz.k Nz.k (E.C.skip (E.To.code ?_))))))))))))
  refine E.C.seq (E.C.block (E.sr (E.op (E.pt i2.1) (E.op (E.i 2) (E.op (E.i 2) (E.op (E.pj g1 24) (E.op (E.pj g1 26) (E.li (.int .u8 x2) 2 rfl rfl (E.vl (E.i x2) (fun w h => E.run_as (a := E.i (IntKind.wrap .i64 x2)) Nz.k (congrArg (Value.int .i64) (IntWalk.i64_in _ (by omega)))) (A.gc (fun _ => .tuple #[]) (KProtect 2 x2 (c := i2.1) (m := i2.2) (s := Q.z0) (V := (((K.bW z a code).prot 0 x0).prot 1 x1))) [0, 4] [1, 2, 3] [0, 2, 3, 4, 1] (fun _ => [(i2.1, (E.pt i2.2 :: Q.S.cells Q.z0)), (j4.1, (Q.S.cells Q.z0 ++ [E.pt j4.2])), (g1, (Zecla s x0 x1 x2 x3 z a code))]) (fun _ => [R.It j4.2 (((K.bW z a code).prot 0 x0).prot 1 x1), M.It i2.2 ((((K.bW z a code).prot 0 x0).prot 1 x1).prot 2 x2) ([])]) (fun _ hd14 => E.To.code ?_)))))))))))
  refine E.C.held (A.Y [A.blk j4.1 (Q.S.cells Q.z0 ++ [E.pt j4.2]), A.blk g1 (Zecla s x0 x1 x2 x3 z a code)]) Nz.k (E.tk 0 (E.pt j4.1) rfl (fun w h => A.hq [1, 2] [0, 3, 4] h) (E.tk 1 (E.pt j4.1) rfl (fun w h => A.hq [1, 2] [0, 3, 4] h) (E.tk 2 (.pointer (some ⟨j4.1, 24, none⟩)) rfl (fun w h => A.hq [1, 2] [0, 3, 4] h) (E.tj 3 (E.pt j4.2) rfl (fun w h => A.hq [1, 2] [0, 3, 4] h) (fun w h => A.Y.bld h (k := 0) (j := 24) rfl Nz.k Nz.k) (E.tk 4 (E.i 2) rfl (fun w h => A.hq [1, 2] [0, 3, 4] h) (E.tk 5 (E.i 2) rfl (fun w h => A.hq [1, 2] [0, 3, 4] h) (E.tk 6 (E.pj g1 24) rfl (fun w h => A.hq [1, 2] [0, 3, 4] h) (E.tk 7 (E.pj g1 26) rfl (fun w h => A.hq [1, 2] [0, 3, 4] h) (E.tj 8 (.int .u8 x2) rfl (fun w h => A.hq [1, 2] [0, 3, 4] h) (fun w h => A.Y.bld h (k := 1) (j := 26) rfl Nz.k Nz.k) (E.tj 9 (E.i x2) rfl (fun w h => A.hq [1, 2] [0, 3, 4] h) (fun w h => E.run_as (a := E.i (IntKind.wrap .i64 x2)) Nz.k (congrArg (Value.int .i64) (IntWalk.i64_in _ (by omega)))) (E.al 10 rfl ?_)))))))))))
  refine A.gc (fun _ => .tuple #[]) (B_Protect 2 x2 (r := j4.2) (V := (((K.bW z a code).prot 0 x0).prot 1 x1))) [3] [0, 1, 2, 4] [1, 2, 3, 0, 4] (fun _ => [(i2.1, (E.pt i2.2 :: Q.S.cells Q.z0)), (j4.1, (Q.S.cells Q.z0 ++ [E.pt j4.2])), (g1, (Zecla s x0 x1 x2 x3 z a code))]) (fun _ => [R.It j4.2 ((((K.bW z a code).prot 0 x0).prot 1 x1).prot 2 x2), M.It i2.2 ((((K.bW z a code).prot 0 x0).prot 1 x1).prot 2 x2) ([])]) (fun _ hd15 => E.H.back (fun w h => A.hq [1, 2] [0, 3, 4] h) (E.H.done Nz.k (E.P.nb (E.To.code (E.C.region (E.op (E.i 2) (E.op (E.i 3) (E.op (E.i 3) (E.To.rounds 1 (E.wk [(1, E.pt g1), (2, .pointer none), (3, .pointer none), (4, E.pt i2.1), (5, E.pt j4.1), (8, E.i 3), (43, E.i 2), (44, .bool true), (45, E.i 2), (46, E.i 3), (47, E.pt i2.1), (48, E.i 2), (49, E.i 2), (50, E.pj g1 24), (51, E.pj g1 26), (52, .int .u8 x2), (53, E.i x2), (55, E.pt j4.1), (56, E.pt j4.1), (57, .pointer (some ⟨j4.1, 24, none⟩)), (58, E.pt j4.2), (59, E.i 2), (60, E.i 2), (61, E.pj g1 24), (62, E.pj g1 26), (63, .int .u8 x2), (64, E.i x2)] [(i2.1, (E.pt i2.2 :: Q.S.cells Q.z0)), (j4.1, (Q.S.cells Q.z0 ++ [E.pt j4.2])), (g1, (Zecla s x0 x1 x2 x3 z a code))] Nz.sub (E.C.seq (E.sr ?_))))))))))))
  refine E.op (E.i 3) (E.op (.bool true) (E.To.code (E.C.condT Nz.k Nz.k (E.C.skip (E.To.code (E.C.seq (E.C.block (E.sr (E.op (E.pt i2.1) (E.op (E.i 3) (E.op (E.i 3) (E.op (E.pj g1 24) ?_))))))))))))
  refine E.op (E.pj g1 27) (E.li (.int .u8 x3) 2 rfl rfl (E.vl (E.i x3) (fun w h => E.run_as (a := E.i (IntKind.wrap .i64 x3)) Nz.k (congrArg (Value.int .i64) (IntWalk.i64_in _ (by omega)))) (A.gc (fun _ => .tuple #[]) (KProtect 3 x3 (c := i2.1) (m := i2.2) (s := Q.z0) (V := ((((K.bW z a code).prot 0 x0).prot 1 x1).prot 2 x2))) [0, 4] [1, 2, 3] [0, 2, 3, 4, 1] (fun _ => [(i2.1, (E.pt i2.2 :: Q.S.cells Q.z0)), (j4.1, (Q.S.cells Q.z0 ++ [E.pt j4.2])), (g1, (Zecla s x0 x1 x2 x3 z a code))]) (fun _ => [R.It j4.2 ((((K.bW z a code).prot 0 x0).prot 1 x1).prot 2 x2), M.It i2.2 (K.bV x0 x1 x2 x3 z a code) ([])]) (fun _ hd16 => E.To.code (E.C.held (A.Y [A.blk j4.1 (Q.S.cells Q.z0 ++ [E.pt j4.2]), A.blk g1 (Zecla s x0 x1 x2 x3 z a code)]) Nz.k (E.tk 0 (E.pt j4.1) rfl (fun w h => A.hq [1, 2] [0, 3, 4] h) (E.tk 1 (E.pt j4.1) rfl (fun w h => A.hq [1, 2] [0, 3, 4] h) (E.tk 2 (.pointer (some ⟨j4.1, 24, none⟩)) rfl (fun w h => A.hq [1, 2] [0, 3, 4] h) (E.tj 3 (E.pt j4.2) rfl (fun w h => A.hq [1, 2] [0, 3, 4] h) (fun w h => A.Y.bld h (k := 0) (j := 24) rfl Nz.k Nz.k) (E.tk 4 (E.i 3) rfl (fun w h => A.hq [1, 2] [0, 3, 4] h) (E.tk 5 (E.i 3) rfl (fun w h => A.hq [1, 2] [0, 3, 4] h) ?_)))))))))))
  refine E.tk 6 (E.pj g1 24) rfl (fun w h => A.hq [1, 2] [0, 3, 4] h) (E.tk 7 (E.pj g1 27) rfl (fun w h => A.hq [1, 2] [0, 3, 4] h) (E.tj 8 (.int .u8 x3) rfl (fun w h => A.hq [1, 2] [0, 3, 4] h) (fun w h => A.Y.bld h (k := 1) (j := 27) rfl Nz.k Nz.k) (E.tj 9 (E.i x3) rfl (fun w h => A.hq [1, 2] [0, 3, 4] h) (fun w h => E.run_as (a := E.i (IntKind.wrap .i64 x3)) Nz.k (congrArg (Value.int .i64) (IntWalk.i64_in _ (by omega)))) (E.al 10 rfl (A.gc (fun _ => .tuple #[]) (B_Protect 3 x3 (r := j4.2) (V := ((((K.bW z a code).prot 0 x0).prot 1 x1).prot 2 x2))) [3] [0, 1, 2, 4] [1, 2, 3, 0, 4] (fun _ => [(i2.1, (E.pt i2.2 :: Q.S.cells Q.z0)), (j4.1, (Q.S.cells Q.z0 ++ [E.pt j4.2])), (g1, (Zecla s x0 x1 x2 x3 z a code))]) (fun _ => [R.It j4.2 (K.bV x0 x1 x2 x3 z a code), M.It i2.2 (K.bV x0 x1 x2 x3 z a code) ([])]) (fun _ hd17 => E.H.back (fun w h => A.hq [1, 2] [0, 3, 4] h) (E.H.done Nz.k (E.P.nb (E.To.code (E.C.region (E.op (E.i 3) (E.op (E.i 4) ?_))))))))))))
  refine E.op (E.i 4) (E.To.rounds 0 (E.wk [(1, E.pt g1), (2, .pointer none), (3, .pointer none), (4, E.pt i2.1), (5, E.pt j4.1), (8, E.i 4), (43, E.i 3), (44, .bool true), (45, E.i 3), (46, E.i 4), (47, E.pt i2.1), (48, E.i 3), (49, E.i 3), (50, E.pj g1 24), (51, E.pj g1 27), (52, .int .u8 x3), (53, E.i x3), (55, E.pt j4.1), (56, E.pt j4.1), (57, .pointer (some ⟨j4.1, 24, none⟩)), (58, E.pt j4.2), (59, E.i 3), (60, E.i 3), (61, E.pj g1 24), (62, E.pj g1 27), (63, .int .u8 x3), (64, E.i x3)] [(i2.1, (E.pt i2.2 :: Q.S.cells Q.z0)), (j4.1, (Q.S.cells Q.z0 ++ [E.pt j4.2])), (g1, (Zecla s x0 x1 x2 x3 z a code))] Nz.sub (E.C.seq (E.sr (E.op (E.i 4) (E.op (.bool false) (E.To.code (E.C.condF Nz.k Nz.k (E.C.exit (E.P.et (E.P.et (E.P.eh (E.To.code (E.wk [(1, E.pt g1), (2, .pointer none), (3, .pointer none), (4, E.pt i2.1), (5, E.pt j4.1)] [(i2.1, (E.pt i2.2 :: Q.S.cells Q.z0)), (j4.1, (Q.S.cells Q.z0 ++ [E.pt j4.2])), (g1, (Zecla s x0 x1 x2 x3 z a code))] Nz.sub (E.sr ?_)))))))))))))))
  refine E.op (E.pt i2.1) (E.op (E.pt g1) (E.li (Q.S.val s) 2 rfl rfl (A.gc (fun _ => .tuple #[]) (CSet (c := i2.1) (m := i2.2) (s0 := Q.z0) s) [0] [1, 2, 3, 4] [0, 1, 2, 3, 4] (fun _ => [(i2.1, (E.pt i2.2 :: Q.S.cells (K.norm s))), (j4.1, (Q.S.cells Q.z0 ++ [E.pt j4.2])), (g1, (Zecla s x0 x1 x2 x3 z a code))]) (fun _ => [R.It j4.2 (K.bV x0 x1 x2 x3 z a code), M.It i2.2 (K.bV x0 x1 x2 x3 z a code) ([])]) (fun _ hd18 => E.tr (E.op (E.pt j4.1) (E.op (E.pt g1) (E.li (Q.S.val s) 2 rfl rfl (E.ca (Q.S.val (K5.norm s)) (fun w h => A.cq [] [0, 1, 2, 3, 4] (Normal5 s) h) (E.op (E.pt j4.1) (E.op (E.pt j4.1) (E.st 1 (Q.S.cells (K5.norm s) ++ [E.pt j4.2]) rfl rfl ?_)))))))))))
  refine E.To.code (E.wk [(2, .pointer none), (3, .pointer none), (4, E.pt i2.1), (5, E.pt j4.1)] [(i2.1, (E.pt i2.2 :: Q.S.cells (K.norm s))), (j4.1, (Q.S.cells (K5.norm s) ++ [E.pt j4.2]))] Nz.sub (E.sr (E.op (E.pt i2.1) (E.op (E.pt j4.1) (E.op (E.pt i2.1) (E.op (E.pt j4.1) (E.To.code (E.C.ret (E.To.body (fn := Tryz.f16) [E.pt i2.1, E.pt j4.1] ?_ ?_)))))))))
  · exact ⟨⟨Nz.k, Nz.k⟩, ⟨Nz.k, Nz.k⟩, trivial⟩
  intro w h
  exact ⟨((i2.1, i2.2), (j4.1, j4.2)), trivial, rfl, A.dq [0, 3, 1, 2] [] h⟩
 refine E.C.held (A.Y [A.blk j4.1 (Q.S.cells Q.z0 ++ [E.pt j4.2]), A.blk g1 (Zecla s x0 x1 x2 x3 z a code)]) Nz.k (E.tk 0 (E.pt j4.1) rfl (fun w h => A.hq [1, 2] [0, 3, 4] h) (E.tk 1 (E.pt j4.1) rfl (fun w h => A.hq [1, 2] [0, 3, 4] h) (E.tk 2 (.pointer (some ⟨j4.1, 24, none⟩)) rfl (fun w h => A.hq [1, 2] [0, 3, 4] h) (E.tj 3 (E.pt j4.2) rfl (fun w h => A.hq [1, 2] [0, 3, 4] h) (fun w h => A.Y.bld h (k := 0) (j := 24) rfl Nz.k Nz.k) (E.tk 4 (E.pj g1 29) rfl (fun w h => A.hq [1, 2] [0, 3, 4] h) (E.tj 5 (E.u a) rfl (fun w h => A.hq [1, 2] [0, 3, 4] h) (fun w h => A.Y.bld h (k := 1) (j := 29) rfl Nz.k Nz.k) (E.tk 6 (.string (K.cut code)) rfl (fun w h => A.hq [1, 2] [0, 3, 4] h) (E.al 7 rfl (A.gc (q := fun _ => [R.It j4.2 (K.bW z a code)]) (fun _ => .tuple #[]) (J_Poke a (K.cut code) ha (by have := K.cut_size code; omega) (m := j4.2) (V := ((M.V.new (M.np 4) true).poke (0 : Int).toNat (K.fill z) (K.fill z).size))) [3] [0, 1, 2, 4] [1, 2, 3, 0, 4] (fun _ => [(i2.1, (E.pt i2.2 :: Q.S.cells Q.z0)), (j4.1, (Q.S.cells Q.z0 ++ [E.pt j4.2])), (g1, (Zecla s x0 x1 x2 x3 z a code))]) (fun _ => [R.It j4.2 (K.bW z a code), M.It i2.2 (K.bW z a code) ([])]) (fun _ hd10 => E.H.back (fun w h => A.hq [1, 2] [0, 3, 4] h) (E.H.done Nz.k ?_)))))))))))
 exact fun a w h1 h2 => dn _ _ _ rest a w (h1.sub ⟨Nz.k, Nz.k⟩) (h2.less Nz.sub)
theorem A.trAs {P : Program} {f : FuncId} {args : Array Value} {p : List A.It} {v v' : Value} {q q' : List A.It} (h : A.Tr P f args p (I := Unit) (fun _ => True) (fun _ => v) (fun _ => q)) (e : v = v') (e2 : q = q') : A.Tr P f args p (I := Unit) (fun _ => True) (fun _ => v') (fun _ => q') := e2 ▸ e ▸ h
end Go.Proofs.YtglidnmmeclneaaGreat
namespace Go.Proofs.YtglidnmmeclneaaGreat
set_option linter.unusedVariables false
set_option linter.unusedSimpArgs false
open Go.Joins Go.ChangeShapes Go.WideShapes Go.ChangeAt Go.RowKit Go.Deep
section
variable {H : Type} {enc : TypeId × Value → H} {P : Program} {w : World} {base : Nat} {spare : Nat → Bool} {held : Bool} {fuel : Nat} {t e : TypeId} {k : IntKind} {n : Nat} {cs : List Value} {x : DataW H × List MemPlace}
end
/-- A state's facts. -/
structure K.sok (s : Q.S) : Prop where
  wf : Q.wf s
  f : 0 ≤ s.f ∧ s.f < 4294967296
  st : -9223372036854775808 ≤ s.st ∧ s.st < 9223372036854775808
  du : -9223372036854775808 ≤ s.du ∧ s.du < 9223372036854775808
section
variable {H : Type} {enc : TypeId × Value → H} {w : World} {base : Nat} {spare : Nat → Bool} {held : Bool} {fuel : Nat} {x : DataW H × List MemPlace}
end
end Go.Proofs.YtglidnmmeclneaaGreat
namespace Go.Proofs.YtglidnmmeclneaaGreat
set_option linter.unusedVariables false
set_option linter.unusedSimpArgs false
open Go.RowKit
/-- What a step in progress keeps: the count of steps; a trap leaves the memory. -/
structure K.tp (t : Int) (V : M.V) (y : K.W × M.V) : Prop where
  st : y.1.s.st = t
  k : 0 ≤ y.1.k ∧ y.1.k ≤ 7 ∧ y.1.k ≠ 1
  mem : (y.1.k != 0) = true → y.2 = V
section
variable {x : K.W} {V : M.V} {t : Int} (hk : x.k = 0) (ht : x.s.st = t)
include hk ht
end
/-- What a step's trap may be; a trap leaves state and memory, every other step counts. -/
structure K.trp (s : Q.S) (V : M.V) (x : Q.S × Int × Int × M.V) : Prop where
  k : 0 ≤ x.2.1 ∧ x.2.1 ≤ 7 ∧ x.2.1 ≠ 1
  mem : (x.2.1 != 0) = true → x.2.2.2 = V
  st : (x.2.1 != 0) = false → x.1.st = IntKind.wrap .i64 (s.st + 1)
theorem K.trp.one {s : Q.S} {V : M.V} {x : Q.S × Int × Int × M.V} (h : K.trp s V x) : x.2.1 ≠ 1 := h.k.2.2
/-- The count of a run only matters by what is left. -/
theorem K.run_shift {a b : Int} : ∀ (f n m : Nat) {s : Q.S} {V : M.V}, a - ((n : Nat) : Int) = b - ((m : Nat) : Int) → K.run a f n s V = K.run b f m s V
  | 0, _, _, _, _, _ => rfl
  | f + 1, n, m, s, V, h => by
    rw [K.run, K.run, show decide (((n : Nat) : Int) ≥ a) = decide (((m : Nat) : Int) ≥ b) by rw [decide_eq_decide]; omega]
    have ih := K.run_shift (a := a) (b := b) f (n + 1) (m + 1) (s := (K.step s V).1) (V := (K.step s V).2.2.2) (by omega)
    rw [ih]
theorem A.tr_drop {P : Program} {f : FuncId} {args : Array Value} {I : Type} {p : List A.It} {D : I → Prop} {v : I → Value} {q r : I → List A.It} (h : A.Tr P f args p D v (fun i => q i ++ r i)) : A.Tr P f args p D v q := by
  intro w oo aa hh
  refine (h w oo aa hh).mono fun e w' ⟨i, hD, he, o', a', k, hc, hg⟩ => ?_
  obtain ⟨o1, a1, o2, a2, k1, k2, _, _, ho, ha⟩ := k.append
  exact ⟨i, hD, he, o1, a1, k1, hc, fun x hx hk => hg.1 x hx ((ho x).2 (.inl hk)), fun x hx hk => hg.2 x hx ((ha x).2 (.inl hk))⟩
theorem Both1 (s : Q.S) (x0 x1 x2 x3 z a : Int) (code : ByteArray) (ha : 0 ≤ a ∧ a < 4294967296) (h0 : 0 ≤ x0 ∧ x0 < 256) (h1 : 0 ≤ x1 ∧ x1 < 256) (h2 : 0 ≤ x2 ∧ x2 < 256) (h3 : 0 ≤ x3 ∧ x3 < 256) {S : Q.S} {V : M.V} (hS : K.norm s = S) (hV : K.bV x0 x1 x2 x3 z a code = V) : A.Tr Tryz.prog 16 #[.agg (Q.S.cells s ++ [Value.int .u8 x0, Value.int .u8 x1, Value.int .u8 x2, Value.int .u8 x3, Value.int .u32 z, Value.int .u32 a, Value.string code]).toArray] [] (I := (Nat × Nat) × (Nat × Nat)) (fun _ => True) (fun i => .tuple #[.pointer (some ⟨i.1.1, 0, none⟩), .pointer (some ⟨i.2.1, 0, none⟩)]) (fun i => [A.blk i.1.1 (.pointer (some ⟨i.1.2, 0, none⟩) :: Q.S.cells S), M.It i.1.2 V []]) := by
  subst hS; subst hV
  exact A.tr_drop (I := (Nat × Nat) × (Nat × Nat)) (q := fun i => [A.blk i.1.1 (Value.pointer (some ⟨i.1.2, 0, none⟩) :: Q.S.cells (K.norm s)), M.It i.1.2 (K.bV x0 x1 x2 x3 z a code) []]) (r := fun i => [A.blk i.2.1 (Q.S.cells (K5.norm s) ++ [Value.pointer (some ⟨i.2.2, 0, none⟩)]), R.It i.2.2 (K.bV x0 x1 x2 x3 z a code)]) (Both s x0 x1 x2 x3 z a code ha h0 h1 h2 h3)
theorem K.trap_self (a b : Int) : ((a == a) && (b == b)) = true := by rw [beq_self_eq_true, beq_self_eq_true]; rfl
/-- A valid instruction. -/
structure K.Good (i : K.Ins) : Prop where
  val : R2.Valid i = true
  i0 : 0 ≤ i.imm
  i1 : i.imm < 4294967296
def K.bytes (i : K.Ins) : ByteArray := (R2.Encode i).1
structure K.Enc (i : K.Ins) (k : Nat) : Prop where
  fmt : K.fmt i.op = some k
  lt : k < 11
  inn : K.In i
  sz : i.sz = K.len k
  enc : R2.Encode i = (strOfNums (K.ser k i), 0)
  v1 : K.valid1 k i = true
theorem K.good_enc {i : K.Ins} (h : K.Good i) : ∃ k, K.Enc i k := by
  have hm := And.intro h.i0 h.i1
  have hv := K.valid_eq i hm
  rw [h.val] at hv
  have he := K.encode_eq i hm
  unfold K.valid at hv
  unfold K.encode at he
  cases hk : K.fmt i.op with
  | none => rw [hk] at hv; cases hv
  | some k =>
    rw [hk] at hv he
    have hv : K.valid1 k i = true := hv
    have he : K.encode1 k i = R2.Encode i := he
    have hin := K.in_valid (k := k) hm (by rw [hv]; rfl)
    refine ⟨k, hk, K.fmt_lt hk, hin, ?_, ?_, hv⟩
    · unfold K.valid1 at hv
      cases hq : ((i.sz != (K.len k)) || (!(K.rng i))) with
      | true => rw [hq] at hv; simp at hv
      | false => simp at hq; exact hq.1
    · rw [← he]; unfold K.encode1; rw [hv]; simp only [Bool.not_true, cond_false, K.ser_str]
theorem K.ser_len (k : Nat) (hk : k < 11) (i : K.Ins) : ((K.ser k i).length : Int) = K.len k := by
  unfold K.ser; rw [List.length_cons]; have := K.wr_len k hk i; push_cast; omega
theorem K.bytes_eq {i : K.Ins} {k : Nat} (h : K.Enc i k) : K.bytes i = strOfNums (K.ser k i) := by unfold K.bytes; rw [h.enc]
theorem K.bytes_size {i : K.Ins} {k : Nat} (h : K.Enc i k) : ((K.bytes i).size : Int) = K.len k := by rw [K.bytes_eq h, strOfNums_size, K.ser_len k h.lt]
theorem K.good_size {i : K.Ins} (h : K.Good i) : ((K.bytes i).size : Int) = i.sz ∧ 1 ≤ i.sz ∧ i.sz ≤ 7 := by
  obtain ⟨k, hk⟩ := K.good_enc h
  have := K.len_bd k hk.lt
  rw [K.bytes_size hk, hk.sz]; exact ⟨rfl, this.1, this.2⟩
theorem K.rt {i : K.Ins} {k : Nat} (h : K.Enc i k) : K.rd k (strOfNums (K.ser k i)).data.toList (K.len k) = i := by
  have hv := h.v1
  unfold K.valid1 at hv
  cases hq : ((i.sz != (K.len k)) || (!(K.rng i))) with
  | true => rw [hq] at hv; cases hv
  | false =>
    rw [hq, cond_false, K.ser_str] at hv
    generalize K.rd k (strOfNums (K.ser k i)).data.toList (K.len k) = r at *
    simp only [Bool.and_eq_true, beq_iff_eq] at hv
    obtain ⟨⟨⟨⟨⟨⟨a, b⟩, c⟩, d⟩, e⟩, f⟩, g⟩ := hv
    cases r; cases i; simp_all
theorem K.rd_congr (k : Nat) (hk : k < 11) (l1 l2 : List UInt8) (sz : Int) (h : ∀ j : Nat, (j : Int) < K.len k → W.byt l1 j = W.byt l2 j) : K.rd k l1 sz = K.rd k l2 sz := by
  rcases (by omega : k = 0 ∨ k = 1 ∨ k = 2 ∨ k = 3 ∨ k = 4 ∨ k = 5 ∨ k = 6 ∨ k = 7 ∨ k = 8 ∨ k = 9 ∨ k = 10) with rfl | rfl | rfl | rfl | rfl | rfl | rfl | rfl | rfl | rfl | rfl
  · have h0 := h 0 (by decide); simp [K.rd, K.i0, K.t_none, h0]
  · have h0 := h 0 (by decide); have h1 := h 1 (by decide); simp [K.rd, K.i0, K.t_reg, h0, h1]
  · have h0 := h 0 (by decide); have h1 := h 1 (by decide); simp [K.rd, K.i0, K.t_pair, h0, h1]
  · have h0 := h 0 (by decide); have h1 := h 1 (by decide); have h2 := h 2 (by decide); simp [K.rd, K.i0, K.t_reg, K.t_small, h0, h1, h2]
  · have h0 := h 0 (by decide); have h1 := h 1 (by decide); have h2 := h 2 (by decide); have h3 := h 3 (by decide); have h4 := h 4 (by decide); have h5 := h 5 (by decide); simp [K.rd, K.i0, K.t_reg, K.t_full, K.four, h0, h1, h2, h3, h4, h5]
  · have h0 := h 0 (by decide); have h1 := h 1 (by decide); have h2 := h 2 (by decide); simp [K.rd, K.i0, K.t_pair, K.t_small, h0, h1, h2]
  · have h0 := h 0 (by decide); have h1 := h 1 (by decide); have h2 := h 2 (by decide); have h3 := h 3 (by decide); have h4 := h 4 (by decide); have h5 := h 5 (by decide); have h6 := h 6 (by decide); simp [K.rd, K.i0, K.t_pair, K.t_index, K.t_full, K.four, h0, h1, h2, h3, h4, h5, h6]
  · have h0 := h 0 (by decide); have h1 := h 1 (by decide); simp [K.rd, K.i0, K.t_small, h0, h1]
  · have h0 := h 0 (by decide); have h1 := h 1 (by decide); have h2 := h 2 (by decide); have h3 := h 3 (by decide); have h4 := h 4 (by decide); simp [K.rd, K.i0, K.t_full, K.four, h0, h1, h2, h3, h4]
  · have h0 := h 0 (by decide); have h1 := h 1 (by decide); simp [K.rd, K.i0, K.t_plain, h0, h1]
  · have h0 := h 0 (by decide); have h1 := h 1 (by decide); simp [K.rd, K.i0, K.t_pair, h0, h1]
theorem K.not_empty {s : ByteArray} (h : 0 < s.size) : (s.toList == (⟨#[]⟩ : ByteArray).toList) = false := by
  cases hq : (s.toList == (⟨#[]⟩ : ByteArray).toList) with
  | false => rfl
  | true =>
    exfalso
    have e : s = ⟨#[]⟩ := by
      have h1 : s.toList = (⟨#[]⟩ : ByteArray).toList := by simpa using hq
      rw [ByteArray.toList_eq, ByteArray.toList_eq] at h1
      exact ByteArray.ext (Array.toList_inj.1 h1)
    rw [e] at h; exact absurd h (by decide)
/-- What Decode comes to where a format is known. -/
theorem K.dec_of (s : ByteArray) (k : Nat) (hk : K.fmt (W.byt s.data.toList 0) = some k) (h0 : 0 < s.size) (hs : s.size ≤ maxLen) :
    R2.Decode s = bif decide ((s.size : Int) < K.len k) then (⟨0, 0, 0, 0, 0, 0, 0⟩, 10) else bif !(R2.Valid (K.rd k s.data.toList (K.len k))) then (⟨0, 0, 0, 0, 0, 0, 0⟩, 12) else (K.rd k s.data.toList (K.len k), 0) := by
  rw [← K.decode_eq s hs]
  unfold K.decode
  rw [K.wb, hk]
  show K.decode1 k s = _
  unfold K.decode1
  rw [K.not_empty h0, cond_false]
  cases h2 : decide (((s.size : Nat) : Int) < K.len k) with
  | true => rfl
  | false =>
    have h3 : K.len k ≤ s.size := by simp at h2; omega
    have hl := K.len_bd k (K.fmt_lt hk)
    rw [K.rd_congr k (K.fmt_lt hk) (s.extract 0 (K.len k).toNat).data.toList s.data.toList (K.len k) (fun j hj => R2.byt_extract s _ j (by omega) (by omega))]
    rw [K.valid_eq _ (K.rd_imm k (K.fmt_lt hk) _ _)]
theorem K.byt_app (a b : ByteArray) (j : Nat) (h : j < a.size) : W.byt (a ++ b).data.toList j = W.byt a.data.toList j := by
  unfold W.byt
  congr 2
  have e : (a ++ b).data.toList = a.data.toList ++ b.data.toList := by simp [ByteArray.data_append]
  have : j < a.data.toList.length := by rw [Array.length_toList]; exact h
  rw [e]; simp only [List.getD, List.getElem?_append_left this]
theorem K.op_wrap {i : K.Ins} {k : Nat} (h : K.Enc i k) : IntKind.wrap .u8 i.op = i.op := by
  have hk := h.fmt
  rcases K.fmt_cases i.op with ⟨hk', _⟩ | ⟨_, _, a, b⟩ | ⟨_, _, a, b⟩ | ⟨_, _, a, b⟩ | ⟨_, _, a, b⟩ | ⟨_, _, a, b⟩ | ⟨_, _, a, b⟩ | ⟨_, _, a, b⟩ | ⟨_, _, a, b⟩ | ⟨_, _, a, b⟩ | ⟨_, _, a⟩ | ⟨_, _, a⟩ | ⟨_, _, a⟩ <;> first | (rw [hk] at hk'; cases hk') | exact K.w8 _ (by omega) (by omega)
theorem K.byt_bytes {i : K.Ins} {k : Nat} (h : K.Enc i k) (j : Nat) : W.byt (K.bytes i).data.toList j = (K.ser k i).getD j 0 := by rw [K.bytes_eq h]; exact K.byt_ser k h.lt i h.inn j
theorem K.byt_0 {i : K.Ins} {k : Nat} (h : K.Enc i k) : W.byt (K.bytes i).data.toList 0 = i.op := by
  rw [K.byt_bytes h]; show IntKind.wrap .u8 i.op = _; exact K.op_wrap h
/-- Decode inverts Encode, whatever follows. -/
theorem K.dec_app {i : K.Ins} (h : K.Good i) (more : ByteArray) (hs : (K.bytes i ++ more).size ≤ maxLen) : R2.Decode (K.bytes i ++ more) = (i, 0) := by
  obtain ⟨k, hk⟩ := K.good_enc h
  have hl := K.len_bd k hk.lt
  have hz := K.bytes_size hk
  have ha : (K.bytes i ++ more).size = (K.bytes i).size + more.size := ByteArray.size_append
  have e0 : W.byt (K.bytes i ++ more).data.toList 0 = i.op := by rw [K.byt_app _ _ 0 (by omega), K.byt_0 hk]
  have er : K.rd k (K.bytes i ++ more).data.toList (K.len k) = i := by
    rw [K.rd_congr k hk.lt _ (K.bytes i).data.toList _ (fun j hj => K.byt_app _ _ j (by omega)), K.bytes_eq hk, K.rt hk]
  rw [K.dec_of _ k (by rw [e0]; exact hk.fmt) (by omega) hs, er, h.val, show decide (((K.bytes i ++ more).size : Int) < K.len k) = false by simp; omega]
  rfl
theorem K.append_empty (a : ByteArray) : a ++ (⟨#[]⟩ : ByteArray) = a := by
  apply ByteArray.ext; simp [ByteArray.data_append]
theorem K.dec_bytes {i : K.Ins} (h : K.Good i) : R2.Decode (K.bytes i) = (i, 0) := by
  have := K.dec_app h ⟨#[]⟩ (by rw [K.append_empty]; have := K.good_size h; unfold maxLen; omega)
  rwa [K.append_empty] at this
theorem K.str_inj {a b : ByteArray} (h : a.data.toList = b.data.toList) : a = b := ByteArray.ext (Array.toList_inj.1 h)
end Go.Proofs.YtglidnmmeclneaaGreat
