/- Texts of the walk, merged (6): see the remark ahead of each. -/
import Derived.Test.YtglidnmmeclneaaGreatKi5
import Derived.Test.YtglidnmmeclneaaGreatProg
namespace Go.Proofs.YtglidnmmeclneaaGreat
set_option linter.unusedVariables false
set_option linter.unusedSimpArgs false
open Go.RowKit
def K5.ea (x : K.W) : Int := (bif (decide (x.i.ix ≥ 0)) then (IntKind.wrap .u32 ((IntKind.wrap .u32 ((x.u.r ((x.i.s).toNat)) + x.i.imm)) + (IntKind.wrap .u32 ((x.u.r ((x.i.ix).toNat)) * 2 ^ (min (x.i.sc).toNat 32))))) else (IntKind.wrap .u32 ((x.u.r ((x.i.s).toNat)) + x.i.imm)))
abbrev Zpszb (x : K.W) := IntKind.wrap .u32 ((x.u.r ((x.i.s).toNat)) + x.i.imm)
abbrev Zpsza (x : K.W) := IntKind.wrap .u32 ((Zpszb x) + (IntKind.wrap .u32 ((x.u.r ((x.i.ix).toNat)) * 2 ^ (min (x.i.sc).toNat 32))))
theorem Address5 {b m : Nat} (x : K.W) (hi : K.iok x.i) : A.Tr Tryz.prog 95 #[.pointer (some ⟨b, 0, none⟩)] [A.blk b (K5.wk x m)] (I := Unit) (fun _ => True) (fun _ => .int .u32 (K5.ea x)) (fun _ => [A.blk b (K5.wk x m)]) := by
 intro w oo aa hh
 refine E.enter (n := 47) (S := oo) Tryz.func95 rfl rfl Nz.k (A.start (L := [(b, (K5.wk x m))]) hh) (E.sr (E.op (E.u 0) (E.To.code (E.C.joint (fun J up dn => ?_)))))
 have rest : J [(0, E.pt b), (2, E.u 0), (3, E.u (Zpszb x))] (A.X w oo aa []) [(b, (K5.wk x m))] := by
  refine up _ _ _ (E.C.seq (E.sr (E.op (E.pt b) (E.op (E.pt b) (E.op (E.pj b 49) (E.op (E.pj b 52) (E.li (E.i x.i.ix) 0 rfl rfl (E.op (.bool (decide (x.i.ix ≥ 0))) (E.To.code (E.cd (decide (x.i.ix ≥ 0)) (fun hc1 => ?_) (fun hc1 => ?_)))))))))))
  ·
   refine E.C.quiet Nz.k Nz.k (E.wo (E.u (Zpszb x)) (E.wo (E.pt b) (E.wo (E.pt b) (E.wo (E.pt b) (E.wo (E.pj b 49) (E.wo (E.pj b 52) (E.wv (E.i x.i.ix) (fun w h => E.run_load h 0 rfl rfl Nz.k) (E.wo (E.pt b) (E.wo (E.pt b) (E.wo (E.pj b 1) (E.wv (E.pj b (1 + (x.i.ix).toNat)) (fun w h => E.idxI (e := 22) b 1 16 .i64 x.i.ix Nz.k Nz.k Nz.k Nz.k (by have := hi.ix; have := of_decide_eq_true hc1; omega) w) ?_)))))))))))
   refine E.wv (E.u (x.u.r ((x.i.ix).toNat))) (fun w h => E.run_load h 0 rfl rfl (K5.ld_u Nz.k (by have := hi.ix; have := of_decide_eq_true hc1; omega))) (E.wo (E.pt b) (E.wo (E.pt b) (E.wo (E.pj b 49) (E.wo (E.pj b 53) (E.wv (E.i x.i.sc) (fun w h => E.run_load h 0 rfl rfl Nz.k) (E.wv (E.u (IntKind.wrap .u32 ((x.u.r ((x.i.ix).toNat)) * 2 ^ (min (x.i.sc).toNat 32)))) (fun w h => E.shlI (k2 := .i64) (x.u.r ((x.i.ix).toNat)) x.i.sc 32 (by rfl) hi.sc.1 Nz.k Nz.k w) (E.wo (E.u (Zpsza x)) (E.wo (E.u (Zpsza x)) (E.W.done (E.To.code (E.wk [(2, E.u 0), (3, E.u (Zpsza x))] [(b, (K5.wk x m))] Nz.sub (E.sr ?_))))))))))))
   refine E.op (E.u (Zpsza x)) (E.op (E.u (Zpsza x)) (E.To.code (E.C.ret (E.bd Tryz.f95 [E.u (Zpsza x)] ?_))))
   intro w h
   have e : (K5.ea x) = (Zpsza x) := by unfold K5.ea; rw [hc1, N1] <;> rfl
   rw [e]
   exact ⟨(), trivial, rfl, A.dq [0] [] h⟩
  refine E.C.skip (E.To.code (E.sr (E.op (E.u (Zpszb x)) (E.op (E.u (Zpszb x)) (E.To.code (E.wk [(2, E.u (Zpszb x))] [(b, (K5.wk x m))] Nz.sub (E.C.ret (E.bd Tryz.f95 [E.u (Zpszb x)] ?_))))))))
  intro w h
  have e : (K5.ea x) = (Zpszb x) := by unfold K5.ea; rw [hc1, N0] <;> rfl
  rw [e]
  exact ⟨(), trivial, rfl, A.dq [0] [] h⟩
 refine E.C.quiet Nz.k Nz.k (E.wo (E.pt b) (E.wo (E.pt b) (E.wo (E.pt b) (E.wo (E.pj b 49) (E.wo (E.pj b 51) (E.wv (E.i x.i.s) (fun w h => E.run_load h 0 rfl rfl Nz.k) (E.wo (E.pt b) (E.wo (E.pt b) (E.wo (E.pj b 1) (E.wv (E.pj b (1 + (x.i.s).toNat)) (fun w h => E.idxI (e := 22) b 1 16 .i64 x.i.s Nz.k Nz.k Nz.k Nz.k (by have := hi.s; omega) w) (E.wv (E.u (x.u.r ((x.i.s).toNat))) (fun w h => E.run_load h 0 rfl rfl (K5.ld_u Nz.k (by have := hi.s; omega))) ?_)))))))))))
 exact E.wo (E.pt b) (E.wo (E.pt b) (E.wo (E.pj b 49) (E.wo (E.pj b 54) (E.wv (E.u x.i.imm) (fun w h => E.run_load h 0 rfl rfl Nz.k) (E.wo (E.u (Zpszb x)) (E.wo (E.u (Zpszb x)) (E.W.done (fun a w h1 h2 => dn _ _ _ rest a w (h1.sub ⟨Nz.k, Nz.k⟩) (h2.less Nz.sub)))))))))
def K5.arith (x : K.W) (o p : Int) : K.W := (bif (K5.alu o (x.u.r ((x.i.d).toNat)) p x.u.f).z then (bif (K5.alu o (x.u.r ((x.i.d).toNat)) p x.u.f).st then (bif (K5.alu o (x.u.r ((x.i.d).toNat)) p x.u.f).se then ⟨x.u, ⟨x.s.pc, (Q.up x.s.r (x.i.d).toNat ((K5.alu o (x.u.r ((x.i.d).toNat)) p x.u.f).v)), (K5.alu o (x.u.r ((x.i.d).toNat)) p x.u.f).f, x.s.c, x.s.st, x.s.du⟩, x.i, 6, 0⟩ else ⟨x.u, ⟨x.s.pc, (Q.up x.s.r (x.i.d).toNat ((K5.alu o (x.u.r ((x.i.d).toNat)) p x.u.f).v)), x.s.f, x.s.c, x.s.st, x.s.du⟩, x.i, 6, 0⟩) else (bif (K5.alu o (x.u.r ((x.i.d).toNat)) p x.u.f).se then ⟨x.u, ⟨x.s.pc, x.s.r, (K5.alu o (x.u.r ((x.i.d).toNat)) p x.u.f).f, x.s.c, x.s.st, x.s.du⟩, x.i, 6, 0⟩ else ⟨x.u, x.s, x.i, 6, 0⟩)) else (bif (K5.alu o (x.u.r ((x.i.d).toNat)) p x.u.f).st then (bif (K5.alu o (x.u.r ((x.i.d).toNat)) p x.u.f).se then ⟨x.u, ⟨x.s.pc, (Q.up x.s.r (x.i.d).toNat ((K5.alu o (x.u.r ((x.i.d).toNat)) p x.u.f).v)), (K5.alu o (x.u.r ((x.i.d).toNat)) p x.u.f).f, x.s.c, x.s.st, x.s.du⟩, x.i, x.k, x.t⟩ else ⟨x.u, ⟨x.s.pc, (Q.up x.s.r (x.i.d).toNat ((K5.alu o (x.u.r ((x.i.d).toNat)) p x.u.f).v)), x.s.f, x.s.c, x.s.st, x.s.du⟩, x.i, x.k, x.t⟩) else (bif (K5.alu o (x.u.r ((x.i.d).toNat)) p x.u.f).se then ⟨x.u, ⟨x.s.pc, x.s.r, (K5.alu o (x.u.r ((x.i.d).toNat)) p x.u.f).f, x.s.c, x.s.st, x.s.du⟩, x.i, x.k, x.t⟩ else x)))
abbrev Z9k6d (o : Int) (x : K.W) (p : Int) := (K5.alu o (x.u.r ((x.i.d).toNat)) p x.u.f).se
abbrev Z9k6e (o : Int) (x : K.W) (p : Int) := (K5.alu o (x.u.r ((x.i.d).toNat)) p x.u.f).f
abbrev Z9k6f (o : Int) (x : K.W) (p : Int) := (K5.alu o (x.u.r ((x.i.d).toNat)) p x.u.f).v
abbrev Z9k6a (o : Int) (x : K.W) (p : Int) : List Value := [E.u (Z9k6f o x p), E.u (Z9k6e o x p), .bool ((K5.alu o (x.u.r ((x.i.d).toNat)) p x.u.f).st), .bool (Z9k6d o x p), .bool ((K5.alu o (x.u.r ((x.i.d).toNat)) p x.u.f).z)]
abbrev Z9k6b (x : K.W) (o : Int) (p : Int) := Q.up x.s.r (x.i.d).toNat (Z9k6f o x p)
abbrev Z9k6c (o : Int) (x : K.W) (p : Int) : Value := (.agg #[E.u (Z9k6f o x p), E.u (Z9k6e o x p), .bool ((K5.alu o (x.u.r ((x.i.d).toNat)) p x.u.f).st), .bool (Z9k6d o x p), .bool ((K5.alu o (x.u.r ((x.i.d).toNat)) p x.u.f).z)])
set_option maxHeartbeats 1000000 in
theorem Arith5 {b m : Nat} (x : K.W) (o p : Int) (hp : 0 ≤ p ∧ p < 4294967296) (hx : K.wf x) (hi : K.iok x.i) : A.Tr Tryz.prog 60 #[.pointer (some ⟨b, 0, none⟩), .int .i64 o, .int .u32 p] [A.blk b (K5.wk x m)] (I := Unit) (fun _ => True) (fun _ => .tuple #[]) (fun _ => [A.blk b (K5.wk (K5.arith x o p) m)]) := by
 intro w oo aa hh
 refine E.enter (n := 54) (S := oo) Tryz.func60 rfl rfl Nz.k (A.start (L := [(b, (K5.wk x m))]) hh) (E.C.joint (fun J up dn => ?_))
 have rest : ∀ (g1 : Nat), J [(0, E.pt b), (6, E.pt g1)] (A.X w oo aa []) [(g1, (Z9k6a o x p)), (b, (K5.wk x m))] := by
  intro g1
  refine up _ _ _ (E.C.seq (E.sr (E.op (E.pj g1 4) (E.li (.bool ((K5.alu o (x.u.r ((x.i.d).toNat)) p x.u.f).z)) 0 rfl rfl (E.To.code (E.cd ((K5.alu o (x.u.r ((x.i.d).toNat)) p x.u.f).z) (fun hc1 => ?_) (fun hc1 => ?_)))))))
  ·
   refine E.C.region (E.op (E.pt b) (E.vl (.agg #[E.i 6, E.u 0]) (fun w h => E.run_build #[E.i 6, E.u 0] Nz.k w) (E.op (E.pt b) (E.op (E.pj b 56) (E.st 1 (K5.wk (⟨x.u, x.s, x.i, 6, 0⟩) m) rfl rfl (E.To.code (E.C.seq (E.sr (E.op (E.pj g1 2) (E.li (.bool ((K5.alu o (x.u.r ((x.i.d).toNat)) p x.u.f).st)) 0 rfl rfl (E.To.code ?_)))))))))))
   refine E.cd ((K5.alu o (x.u.r ((x.i.d).toNat)) p x.u.f).st) (fun hc2 => ?_) (fun hc2 => ?_)
   ·
    refine E.C.held (E.Hp (oo) w (A.X w oo aa []) [(g1, (Z9k6a o x p))]) Nz.k (E.ta 0 (E.pt b) rfl (E.ta 1 (E.pt b) rfl (E.ta 2 (E.pt b) rfl (E.ta 3 (E.pj b 49) rfl (E.ta 4 (E.pj b 50) rfl (E.ta 6 (E.pt g1) rfl (E.tb 7 (E.u (Z9k6f o x p)) rfl (fun w h => E.run_load h 0 rfl rfl Nz.k) (E.ta 8 (E.pt b) rfl (E.ta 9 (E.pj b 24) rfl (E.ta 10 (E.pj b 25) rfl (E.al 5 rfl ?_)))))))))))
    refine E.li (E.i x.i.d) 1 rfl rfl (E.bk (E.tb 11 (E.pj b (25 + (x.i.d).toNat)) rfl (fun w h => E.idxI (e := 22) b 25 16 .i64 x.i.d Nz.k Nz.k Nz.k Nz.k (by have := hi.d; omega) w) (E.al 12 rfl (E.G.store 1 (K5.wk (⟨x.u, ⟨x.s.pc, (Z9k6b x o p), x.s.f, x.s.c, x.s.st, x.s.du⟩, x.i, 6, 0⟩) m) rfl rfl (K5.sto_s (x := ⟨x.u, x.s, x.i, 6, 0⟩) Nz.k (by have := hi.d; omega)) Nz.k (E.bk (E.H.done Nz.k (E.To.code (E.wk [(0, E.pt b), (6, E.pt g1)] [(g1, (Z9k6a o x p)), (b, (K5.wk (⟨x.u, ⟨x.s.pc, (Z9k6b x o p), x.s.f, x.s.c, x.s.st, x.s.du⟩, x.i, 6, 0⟩) m))] Nz.sub (E.sr (E.op (E.pj g1 3) (E.li (.bool (Z9k6d o x p)) 0 rfl rfl ?_)))))))))))
    refine E.To.code (E.cd ((K5.alu o (x.u.r ((x.i.d).toNat)) p x.u.f).se) (fun hc3 => ?_) (fun hc3 => ?_))
    ·
     refine E.C.region (E.op (E.pt b) (E.op (E.pj g1 1) (E.li (E.u (Z9k6e o x p)) 0 rfl rfl (E.op (E.pt b) (E.op (E.pj b 24) (E.op (E.pj b 41) (E.st 1 (K5.wk (⟨x.u, ⟨x.s.pc, (Z9k6b x o p), (K5.alu o (x.u.r ((x.i.d).toNat)) p x.u.f).f, x.s.c, x.s.st, x.s.du⟩, x.i, 6, 0⟩) m) rfl rfl (E.To.bodyN (fn := Tryz.f60) [] ?_ ?_))))))))
     · exact trivial
     intro w h
     have e : (K5.arith x o p) = ⟨x.u, ⟨x.s.pc, (Z9k6b x o p), (K5.alu o (x.u.r ((x.i.d).toNat)) p x.u.f).f, x.s.c, x.s.st, x.s.du⟩, x.i, 6, 0⟩ := by unfold K5.arith; rw [hc1, N1, hc2, N1, hc3, N1] <;> rfl
     rw [e]
     exact ⟨(), trivial, rfl, A.dq [1] [0] h⟩
    refine E.C.skip (E.To.bodyN (fn := Tryz.f60) [] ?_ ?_)
    · exact trivial
    intro w h
    have e : (K5.arith x o p) = ⟨x.u, ⟨x.s.pc, (Z9k6b x o p), x.s.f, x.s.c, x.s.st, x.s.du⟩, x.i, 6, 0⟩ := by unfold K5.arith; rw [hc1, N1, hc2, N1, hc3, N0] <;> rfl
    rw [e]
    exact ⟨(), trivial, rfl, A.dq [1] [0] h⟩
   refine E.C.skip (E.To.code (E.wk [(0, E.pt b), (6, E.pt g1)] [(g1, (Z9k6a o x p)), (b, (K5.wk (⟨x.u, x.s, x.i, 6, 0⟩) m))] Nz.sub (E.sr (E.op (E.pj g1 3) (E.li (.bool (Z9k6d o x p)) 0 rfl rfl (E.To.code (E.cd ((K5.alu o (x.u.r ((x.i.d).toNat)) p x.u.f).se) (fun hc4 => ?_) (fun hc4 => ?_))))))))
   ·
    refine E.C.region (E.op (E.pt b) (E.op (E.pj g1 1) (E.li (E.u (Z9k6e o x p)) 0 rfl rfl (E.op (E.pt b) (E.op (E.pj b 24) (E.op (E.pj b 41) (E.st 1 (K5.wk (⟨x.u, ⟨x.s.pc, x.s.r, (K5.alu o (x.u.r ((x.i.d).toNat)) p x.u.f).f, x.s.c, x.s.st, x.s.du⟩, x.i, 6, 0⟩) m) rfl rfl (E.To.bodyN (fn := Tryz.f60) [] ?_ ?_))))))))
    · exact trivial
    intro w h
    have e : (K5.arith x o p) = ⟨x.u, ⟨x.s.pc, x.s.r, (K5.alu o (x.u.r ((x.i.d).toNat)) p x.u.f).f, x.s.c, x.s.st, x.s.du⟩, x.i, 6, 0⟩ := by unfold K5.arith; rw [hc1, N1, hc2, N0, hc4, N1] <;> rfl
    rw [e]
    exact ⟨(), trivial, rfl, A.dq [1] [0] h⟩
   refine E.C.skip (E.To.bodyN (fn := Tryz.f60) [] ?_ ?_)
   · exact trivial
   intro w h
   have e : (K5.arith x o p) = ⟨x.u, x.s, x.i, 6, 0⟩ := by unfold K5.arith; rw [hc1, N1, hc2, N0, hc4, N0] <;> rfl
   rw [e]
   exact ⟨(), trivial, rfl, A.dq [1] [0] h⟩
  refine E.C.skip (E.To.code (E.C.seq (E.sr (E.op (E.pj g1 2) (E.li (.bool ((K5.alu o (x.u.r ((x.i.d).toNat)) p x.u.f).st)) 0 rfl rfl (E.To.code (E.cd ((K5.alu o (x.u.r ((x.i.d).toNat)) p x.u.f).st) (fun hc5 => ?_) (fun hc5 => ?_))))))))
  ·
   refine E.C.held (E.Hp (oo) w (A.X w oo aa []) [(g1, (Z9k6a o x p))]) Nz.k (E.ta 0 (E.pt b) rfl (E.ta 1 (E.pt b) rfl (E.ta 2 (E.pt b) rfl (E.ta 3 (E.pj b 49) rfl (E.ta 4 (E.pj b 50) rfl (E.ta 6 (E.pt g1) rfl (E.tb 7 (E.u (Z9k6f o x p)) rfl (fun w h => E.run_load h 0 rfl rfl Nz.k) (E.ta 8 (E.pt b) rfl (E.ta 9 (E.pj b 24) rfl (E.ta 10 (E.pj b 25) rfl (E.al 5 rfl ?_)))))))))))
   refine E.li (E.i x.i.d) 1 rfl rfl (E.bk (E.tb 11 (E.pj b (25 + (x.i.d).toNat)) rfl (fun w h => E.idxI (e := 22) b 25 16 .i64 x.i.d Nz.k Nz.k Nz.k Nz.k (by have := hi.d; omega) w) (E.al 12 rfl (E.G.store 1 (K5.wk (⟨x.u, ⟨x.s.pc, (Z9k6b x o p), x.s.f, x.s.c, x.s.st, x.s.du⟩, x.i, x.k, x.t⟩) m) rfl rfl (K5.sto_s (x := x) Nz.k (by have := hi.d; omega)) Nz.k (E.bk (E.H.done Nz.k (E.To.code (E.wk [(0, E.pt b), (6, E.pt g1)] [(g1, (Z9k6a o x p)), (b, (K5.wk (⟨x.u, ⟨x.s.pc, (Z9k6b x o p), x.s.f, x.s.c, x.s.st, x.s.du⟩, x.i, x.k, x.t⟩) m))] Nz.sub (E.sr (E.op (E.pj g1 3) (E.li (.bool (Z9k6d o x p)) 0 rfl rfl ?_)))))))))))
   refine E.To.code (E.cd ((K5.alu o (x.u.r ((x.i.d).toNat)) p x.u.f).se) (fun hc6 => ?_) (fun hc6 => ?_))
   ·
    refine E.C.region (E.op (E.pt b) (E.op (E.pj g1 1) (E.li (E.u (Z9k6e o x p)) 0 rfl rfl (E.op (E.pt b) (E.op (E.pj b 24) (E.op (E.pj b 41) (E.st 1 (K5.wk (⟨x.u, ⟨x.s.pc, (Z9k6b x o p), (K5.alu o (x.u.r ((x.i.d).toNat)) p x.u.f).f, x.s.c, x.s.st, x.s.du⟩, x.i, x.k, x.t⟩) m) rfl rfl (E.To.bodyN (fn := Tryz.f60) [] ?_ ?_))))))))
    · exact trivial
    intro w h
    have e : (K5.arith x o p) = ⟨x.u, ⟨x.s.pc, (Z9k6b x o p), (K5.alu o (x.u.r ((x.i.d).toNat)) p x.u.f).f, x.s.c, x.s.st, x.s.du⟩, x.i, x.k, x.t⟩ := by unfold K5.arith; rw [hc1, N0, hc5, N1, hc6, N1] <;> rfl
    rw [e]
    exact ⟨(), trivial, rfl, A.dq [1] [0] h⟩
   refine E.C.skip (E.To.bodyN (fn := Tryz.f60) [] ?_ ?_)
   · exact trivial
   intro w h
   have e : (K5.arith x o p) = ⟨x.u, ⟨x.s.pc, (Z9k6b x o p), x.s.f, x.s.c, x.s.st, x.s.du⟩, x.i, x.k, x.t⟩ := by unfold K5.arith; rw [hc1, N0, hc5, N1, hc6, N0] <;> rfl
   rw [e]
   exact ⟨(), trivial, rfl, A.dq [1] [0] h⟩
  refine E.C.skip (E.To.code (E.sr (E.op (E.pj g1 3) (E.li (.bool (Z9k6d o x p)) 0 rfl rfl (E.To.code (E.cd ((K5.alu o (x.u.r ((x.i.d).toNat)) p x.u.f).se) (fun hc7 => ?_) (fun hc7 => ?_)))))))
  ·
   refine E.C.region (E.op (E.pt b) (E.op (E.pj g1 1) (E.li (E.u (Z9k6e o x p)) 0 rfl rfl (E.op (E.pt b) (E.op (E.pj b 24) (E.op (E.pj b 41) (E.st 1 (K5.wk (⟨x.u, ⟨x.s.pc, x.s.r, (K5.alu o (x.u.r ((x.i.d).toNat)) p x.u.f).f, x.s.c, x.s.st, x.s.du⟩, x.i, x.k, x.t⟩) m) rfl rfl (E.To.bodyN (fn := Tryz.f60) [] ?_ ?_))))))))
   · exact trivial
   intro w h
   have e : (K5.arith x o p) = ⟨x.u, ⟨x.s.pc, x.s.r, (K5.alu o (x.u.r ((x.i.d).toNat)) p x.u.f).f, x.s.c, x.s.st, x.s.du⟩, x.i, x.k, x.t⟩ := by unfold K5.arith; rw [hc1, N0, hc5, N0, hc7, N1] <;> rfl
   rw [e]
   exact ⟨(), trivial, rfl, A.dq [1] [0] h⟩
  refine E.C.skip (E.To.bodyN (fn := Tryz.f60) [] ?_ ?_)
  · exact trivial
  intro w h
  have e : (K5.arith x o p) = x := by unfold K5.arith; rw [hc1, N0, hc5, N0, hc7, N0] <;> rfl
  rw [e]
  exact ⟨(), trivial, rfl, A.dq [1] [0] h⟩
 refine E.C.held (E.Hp (oo) w (A.X w oo aa []) [(b, (K5.wk x m))]) Nz.k (E.tk 0 (E.i o) rfl (fun w h => h) (E.tk 1 (E.pt b) rfl (fun w h => h) (E.tk 2 (E.pt b) rfl (fun w h => h) (E.tk 3 (E.pt b) rfl (fun w h => h) (E.tk 4 (E.pj b 49) rfl (fun w h => h) (E.tk 5 (E.pj b 50) rfl (fun w h => h) (E.tj 6 (E.i x.i.d) rfl (fun w h => h) (fun w h => E.run_load h 0 rfl rfl Nz.k) (E.tk 7 (E.pt b) rfl (fun w h => h) (E.tk 8 (E.pt b) rfl (fun w h => h) (E.tk 9 (E.pj b 1) rfl (fun w h => h) (E.tj 10 (E.pj b (1 + (x.i.d).toNat)) rfl (fun w h => h) (fun w h => E.idxI (e := 22) b 1 16 .i64 x.i.d Nz.k Nz.k Nz.k Nz.k (by have := hi.d; omega) w) ?_)))))))))))
 refine E.tj 11 (E.u (x.u.r ((x.i.d).toNat))) rfl (fun w h => h) (fun w h => E.run_load h 0 rfl rfl (K5.ld_u Nz.k (by have := hi.d; omega))) (E.tk 12 (E.u p) rfl (fun w h => h) (E.tk 13 (E.pt b) rfl (fun w h => h) (E.tk 14 (E.pt b) rfl (fun w h => h) (E.tk 15 (E.pt b) rfl (fun w h => h) (E.tk 16 (E.pj b 17) rfl (fun w h => h) (E.tj 17 (E.u x.u.f) rfl (fun w h => h) (fun w h => E.run_load h 0 rfl rfl Nz.k) (E.al2 18 19 rfl rfl ?_ ?_)))))))
 ·
  exact E.ca (Z9k6c o x p) (fun w h => Alu5 o (x.u.r ((x.i.d).toNat)) p x.u.f (hx.u.r _) hp w) (E.H.back (fun w h => h) (E.al 19 rfl (E.nw [E.u 0, E.u 0, .bool false, .bool false, .bool false] 63 (fun g1 => E.bk (E.al 20 rfl (E.st 0 (Z9k6a o x p) rfl rfl (E.bk (E.H.done Nz.k (fun a w h1 h2 => dn _ _ _ (rest g1) a w (h1.sub ⟨Nz.k, Nz.k⟩) (h2.less Nz.sub))))))))))
 exact E.nw [E.u 0, E.u 0, .bool false, .bool false, .bool false] 63 (fun g2 => E.bk (E.al 18 rfl (E.ca (Z9k6c o x p) (fun w h => Alu5 o (x.u.r ((x.i.d).toNat)) p x.u.f (hx.u.r _) hp w) (E.bk (E.al 20 rfl (E.st 0 (Z9k6a o x p) rfl rfl (E.bk (E.H.done Nz.k (fun a w h1 h2 => dn _ _ _ (rest g2) a w (h1.sub ⟨Nz.k, Nz.k⟩) (h2.less Nz.sub))))))))))
theorem K5.ea_bd (x : K.W) : 0 ≤ K5.ea x ∧ K5.ea x < 4294967296 := Q.bif_bd (Q.wrap_bd _) (Q.wrap_bd _)
theorem K5.s01 {s : Int} (h : ((s == 0) || (s == 1)) = true) : 0 ≤ s ∧ s < 2 := by
  rw [Bool.or_eq_true] at h
  rcases h with h | h <;> (have := eq_of_beq h; omega)
def K5.memory (x : K.W) (V : M.V) (o : Int) : K.W × M.V := (bif (o == 80) then (⟨x.u, ⟨x.s.pc, (Q.up x.s.r (x.i.d).toNat ((V.load ((K5.ea x)).toNat 4).1)), x.s.f, x.s.c, x.s.st, x.s.du⟩, x.i, (K5.lk x V (K5.ea x) 4).1, (K5.lk x V (K5.ea x) 4).2⟩, V) else (bif (o == 82) then (⟨x.u, ⟨x.s.pc, (Q.up x.s.r (x.i.d).toNat ((V.load ((K5.ea x)).toNat 1).1)), x.s.f, x.s.c, x.s.st, x.s.du⟩, x.i, (K5.lk x V (K5.ea x) 1).1, (K5.lk x V (K5.ea x) 1).2⟩, V) else (bif (o == 81) then (⟨x.u, x.s, x.i, (K5.sk x V (K5.ea x) 4 (x.u.r ((x.i.d).toNat))).1, (K5.sk x V (K5.ea x) 4 (x.u.r ((x.i.d).toNat))).2.1⟩, (K5.sk x V (K5.ea x) 4 (x.u.r ((x.i.d).toNat))).2.2) else (bif (o == 83) then (⟨x.u, x.s, x.i, (K5.sk x V (K5.ea x) 1 (x.u.r ((x.i.d).toNat))).1, (K5.sk x V (K5.ea x) 1 (x.u.r ((x.i.d).toNat))).2.1⟩, (K5.sk x V (K5.ea x) 1 (x.u.r ((x.i.d).toNat))).2.2) else (bif (o == 86) then (⟨x.u, ⟨x.s.pc, (Q.up x.s.r (x.i.d).toNat (K5.ea x)), x.s.f, x.s.c, x.s.st, x.s.du⟩, x.i, x.k, x.t⟩, V) else (bif (o == 84) then (⟨x.u, ⟨x.s.pc, (Q.up x.s.r (x.i.d).toNat (IntKind.wrap .u32 ((x.u.r ((x.i.d).toNat)) + ((V.load ((K5.ea x)).toNat 4).1)))), (W.flags 1 (x.u.r ((x.i.d).toNat)) ((V.load ((K5.ea x)).toNat 4).1)), x.s.c, x.s.st, x.s.du⟩, x.i, (K5.lk x V (K5.ea x) 4).1, (K5.lk x V (K5.ea x) 4).2⟩, V) else (bif (o == 85) then (⟨x.u, ⟨x.s.pc, x.s.r, (W.flags 1 ((V.load ((K5.ea x)).toNat 4).1) (x.u.r ((x.i.d).toNat))), x.s.c, x.s.st, x.s.du⟩, x.i, (K5.sk (⟨x.u, x.s, x.i, (K5.lk x V (K5.ea x) 4).1, (K5.lk x V (K5.ea x) 4).2⟩ : K.W) V (K5.ea x) 4 (IntKind.wrap .u32 (((V.load ((K5.ea x)).toNat 4).1) + (x.u.r ((x.i.d).toNat))))).1, (K5.sk (⟨x.u, x.s, x.i, (K5.lk x V (K5.ea x) 4).1, (K5.lk x V (K5.ea x) 4).2⟩ : K.W) V (K5.ea x) 4 (IntKind.wrap .u32 (((V.load ((K5.ea x)).toNat 4).1) + (x.u.r ((x.i.d).toNat))))).2.1⟩, (K5.sk (⟨x.u, x.s, x.i, (K5.lk x V (K5.ea x) 4).1, (K5.lk x V (K5.ea x) 4).2⟩ : K.W) V (K5.ea x) 4 (IntKind.wrap .u32 (((V.load ((K5.ea x)).toNat 4).1) + (x.u.r ((x.i.d).toNat))))).2.2) else (x, V))))))))
abbrev Zm42b (V : M.V) (x : K.W) := (V.load ((K5.ea x)).toNat 4).1
abbrev Zm42a (x : K.W) (V : M.V) := (K5.sk (⟨x.u, x.s, x.i, (K5.lk x V (K5.ea x) 4).1, (K5.lk x V (K5.ea x) 4).2⟩ : K.W) V (K5.ea x) 4 (IntKind.wrap .u32 ((Zm42b V x) + (x.u.r ((x.i.d).toNat)))))
abbrev Zm42c (x : K.W) (V : M.V) (m : Nat) := K5.wk (⟨x.u, x.s, x.i, (K5.lk x V (K5.ea x) 4).1, (K5.lk x V (K5.ea x) 4).2⟩) m
abbrev Zm42d (x : K.W) (V : M.V) := K5.sk x V (K5.ea x) 4 (x.u.r ((x.i.d).toNat))
abbrev Zm42e (x : K.W) (V : M.V) := K5.sk x V (K5.ea x) 1 (x.u.r ((x.i.d).toNat))
abbrev Zm42g (x : K.W) := E.u (x.u.r ((x.i.d).toNat))
abbrev Zm42h (x : K.W) (V : M.V) := Q.up x.s.r (x.i.d).toNat ((V.load ((K5.ea x)).toNat 1).1)
abbrev Zm42f (x : K.W) (V : M.V) (m : Nat) := K5.wk (⟨x.u, ⟨x.s.pc, (Zm42h x V), x.s.f, x.s.c, x.s.st, x.s.du⟩, x.i, (K5.lk x V (K5.ea x) 1).1, (K5.lk x V (K5.ea x) 1).2⟩) m
set_option maxHeartbeats 1000000 in
theorem Memory5 {b m : Nat} (x : K.W) (V : M.V) (o : Int) (hx : K.wf x) (hi : K.iok x.i) (hV : R.Wf V) : A.Tr Tryz.prog 61 #[.pointer (some ⟨b, 0, none⟩), .int .i64 o] [A.blk b (K5.wk x m), R.It m V] (I := Unit) (fun _ => True) (fun _ => .tuple #[]) (fun _ => [A.blk b (K5.wk (K5.memory x V o).1 m), R.It m (K5.memory x V o).2]) := by
 intro w oo aa hh
 refine E.enter (n := 120) (S := oo) Tryz.func61 rfl rfl Nz.k (A.start (L := [(b, (K5.wk x m))]) hh) (E.C.joint (fun J up dn => ?_))
 have rest : J [(0, E.pt b), (1, E.i o), (4, E.u (x.u.r ((x.i.d).toNat)))] (A.X w oo aa [R.It m V]) [(b, (K5.wk x m))] := by
  refine up _ _ _ (E.sr (E.op (E.pt b) (A.gc (fun _ => E.u (K5.ea x)) (Address5 (b := b) (m := m) x hi) [0] [1] [0, 1] (fun _ => [(b, (K5.wk x m))]) (fun _ => [R.It m V]) (fun _ hd1 => E.op (E.u (K5.ea x)) (E.tr (E.op (E.i o) (E.To.code (E.C.block (E.sr (E.op (.bool (o == 80)) (E.op (.bool (o == 80)) ?_)))))))))))
  refine E.To.code (E.cd (o == 80) (fun hc2 => ?_) (fun hc2 => ?_))
  ·
   refine E.C.held (E.Hp (oo) w (A.X w oo aa [R.It m V]) []) Nz.k (E.ta 0 (E.pt b) rfl (E.ta 1 (E.pt b) rfl (E.ta 2 (E.pt b) rfl (E.ta 3 (E.pj b 49) rfl (E.ta 4 (E.pj b 50) rfl (E.ta 6 (E.pt b) rfl (E.ta 7 (E.u (K5.ea x)) rfl (E.ta 9 (E.pt b) rfl (E.ta 10 (E.pj b 24) rfl (E.ta 11 (E.pj b 25) rfl (E.al2 5 8 rfl rfl ?_ ?_)))))))))))
   ·
    refine E.li (E.i x.i.d) 0 rfl rfl (E.bk (E.al 8 rfl (A.gc (fun _ => E.u (Zm42b V x)) (Load5 (b := b) (m := m) x V (K5.ea x) 4 (K5.ea_bd _)) [0, 1] [] [0, 1] (fun _ => [(b, (Zm42c x V m))]) (fun _ => [R.It m V]) (fun _ hd3 => E.bk (E.tb 12 (E.pj b (25 + (x.i.d).toNat)) rfl (fun w h => E.idxI (e := 22) b 25 16 .i64 x.i.d Nz.k Nz.k Nz.k Nz.k (by have := hi.d; omega) w) (E.al 13 rfl (E.G.store 0 (K5.wk (⟨x.u, ⟨x.s.pc, (Q.up x.s.r (x.i.d).toNat (Zm42b V x)), x.s.f, x.s.c, x.s.st, x.s.du⟩, x.i, (K5.lk x V (K5.ea x) 4).1, (K5.lk x V (K5.ea x) 4).2⟩) m) rfl rfl (K5.sto_s (x := ⟨x.u, x.s, x.i, (K5.lk x V (K5.ea x) 4).1, (K5.lk x V (K5.ea x) 4).2⟩) Nz.k (by have := hi.d; omega)) Nz.k (E.bk (E.H.done Nz.k (E.P.nb (E.To.bodyN (fn := Tryz.f61) [] ?_ ?_)))))))))))
    · exact trivial
    intro w h
    have e : (K5.memory x V o) = (⟨x.u, ⟨x.s.pc, (Q.up x.s.r (x.i.d).toNat (Zm42b V x)), x.s.f, x.s.c, x.s.st, x.s.du⟩, x.i, (K5.lk x V (K5.ea x) 4).1, (K5.lk x V (K5.ea x) 4).2⟩, V) := by unfold K5.memory; rw [hc2, N1] <;> rfl
    rw [e]
    exact ⟨(), trivial, rfl, A.dq [0, 1] [] h⟩
   refine A.gc (fun _ => E.u (Zm42b V x)) (Load5 (b := b) (m := m) x V (K5.ea x) 4 (K5.ea_bd _)) [0, 1] [] [0, 1] (fun _ => [(b, (Zm42c x V m))]) (fun _ => [R.It m V]) (fun _ hd4 => E.bk (E.al 5 rfl (E.li (E.i x.i.d) 0 rfl rfl (E.bk (E.tb 12 (E.pj b (25 + (x.i.d).toNat)) rfl (fun w h => E.idxI (e := 22) b 25 16 .i64 x.i.d Nz.k Nz.k Nz.k Nz.k (by have := hi.d; omega) w) (E.al 13 rfl (E.G.store 0 (K5.wk (⟨x.u, ⟨x.s.pc, (Q.up x.s.r (x.i.d).toNat (Zm42b V x)), x.s.f, x.s.c, x.s.st, x.s.du⟩, x.i, (K5.lk x V (K5.ea x) 4).1, (K5.lk x V (K5.ea x) 4).2⟩) m) rfl rfl (K5.sto_s (x := ⟨x.u, x.s, x.i, (K5.lk x V (K5.ea x) 4).1, (K5.lk x V (K5.ea x) 4).2⟩) Nz.k (by have := hi.d; omega)) Nz.k (E.bk (E.H.done Nz.k (E.P.nb (E.To.bodyN (fn := Tryz.f61) [] ?_ ?_)))))))))))
   · exact trivial
   intro w h
   have e : (K5.memory x V o) = (⟨x.u, ⟨x.s.pc, (Q.up x.s.r (x.i.d).toNat (Zm42b V x)), x.s.f, x.s.c, x.s.st, x.s.du⟩, x.i, (K5.lk x V (K5.ea x) 4).1, (K5.lk x V (K5.ea x) 4).2⟩, V) := by unfold K5.memory; rw [hc2, N1] <;> rfl
   rw [e]
   exact ⟨(), trivial, rfl, A.dq [0, 1] [] h⟩
  refine E.sr (E.op (.bool (o == 82)) (E.op (.bool (o == 82)) (E.To.code (E.cd (o == 82) (fun hc5 => ?_) (fun hc5 => ?_)))))
  ·
   refine E.C.held (E.Hp (oo) w (A.X w oo aa [R.It m V]) []) Nz.k (E.ta 0 (E.pt b) rfl (E.ta 1 (E.pt b) rfl (E.ta 2 (E.pt b) rfl (E.ta 3 (E.pj b 49) rfl (E.ta 4 (E.pj b 50) rfl (E.ta 6 (E.pt b) rfl (E.ta 7 (E.u (K5.ea x)) rfl (E.ta 9 (E.pt b) rfl (E.ta 10 (E.pj b 24) rfl (E.ta 11 (E.pj b 25) rfl (E.al2 5 8 rfl rfl ?_ ?_)))))))))))
   ·
    refine E.li (E.i x.i.d) 0 rfl rfl (E.bk (E.al 8 rfl (A.gc (fun _ => E.u ((V.load ((K5.ea x)).toNat 1).1)) (Load5 (b := b) (m := m) x V (K5.ea x) 1 (K5.ea_bd _)) [0, 1] [] [0, 1] (fun _ => [(b, (K5.wk (⟨x.u, x.s, x.i, (K5.lk x V (K5.ea x) 1).1, (K5.lk x V (K5.ea x) 1).2⟩) m))]) (fun _ => [R.It m V]) (fun _ hd6 => E.bk (E.tb 12 (E.pj b (25 + (x.i.d).toNat)) rfl (fun w h => E.idxI (e := 22) b 25 16 .i64 x.i.d Nz.k Nz.k Nz.k Nz.k (by have := hi.d; omega) w) (E.al 13 rfl (E.G.store 0 (Zm42f x V m) rfl rfl (K5.sto_s (x := ⟨x.u, x.s, x.i, (K5.lk x V (K5.ea x) 1).1, (K5.lk x V (K5.ea x) 1).2⟩) Nz.k (by have := hi.d; omega)) Nz.k (E.bk (E.H.done Nz.k (E.P.nb (E.To.bodyN (fn := Tryz.f61) [] ?_ ?_)))))))))))
    · exact trivial
    intro w h
    have e : (K5.memory x V o) = (⟨x.u, ⟨x.s.pc, (Zm42h x V), x.s.f, x.s.c, x.s.st, x.s.du⟩, x.i, (K5.lk x V (K5.ea x) 1).1, (K5.lk x V (K5.ea x) 1).2⟩, V) := by unfold K5.memory; rw [hc2, N0, hc5, N1] <;> rfl
    rw [e]
    exact ⟨(), trivial, rfl, A.dq [0, 1] [] h⟩
   refine A.gc (fun _ => E.u ((V.load ((K5.ea x)).toNat 1).1)) (Load5 (b := b) (m := m) x V (K5.ea x) 1 (K5.ea_bd _)) [0, 1] [] [0, 1] (fun _ => [(b, (K5.wk (⟨x.u, x.s, x.i, (K5.lk x V (K5.ea x) 1).1, (K5.lk x V (K5.ea x) 1).2⟩) m))]) (fun _ => [R.It m V]) (fun _ hd7 => E.bk (E.al 5 rfl (E.li (E.i x.i.d) 0 rfl rfl (E.bk (E.tb 12 (E.pj b (25 + (x.i.d).toNat)) rfl (fun w h => E.idxI (e := 22) b 25 16 .i64 x.i.d Nz.k Nz.k Nz.k Nz.k (by have := hi.d; omega) w) (E.al 13 rfl (E.G.store 0 (Zm42f x V m) rfl rfl (K5.sto_s (x := ⟨x.u, x.s, x.i, (K5.lk x V (K5.ea x) 1).1, (K5.lk x V (K5.ea x) 1).2⟩) Nz.k (by have := hi.d; omega)) Nz.k (E.bk (E.H.done Nz.k (E.P.nb (E.To.bodyN (fn := Tryz.f61) [] ?_ ?_)))))))))))
   · exact trivial
   intro w h
   have e : (K5.memory x V o) = (⟨x.u, ⟨x.s.pc, (Zm42h x V), x.s.f, x.s.c, x.s.st, x.s.du⟩, x.i, (K5.lk x V (K5.ea x) 1).1, (K5.lk x V (K5.ea x) 1).2⟩, V) := by unfold K5.memory; rw [hc2, N0, hc5, N1] <;> rfl
   rw [e]
   exact ⟨(), trivial, rfl, A.dq [0, 1] [] h⟩
  refine E.sr (E.op (.bool (o == 81)) (E.op (.bool (o == 81)) (E.To.code (E.wk [(0, E.pt b), (4, E.u (x.u.r ((x.i.d).toNat))), (5, E.u (K5.ea x)), (21, E.i o), (52, .bool (o == 81))] [(b, (K5.wk x m))] Nz.sub (E.cd (o == 81) (fun hc8 => ?_) (fun hc8 => ?_))))))
  ·
   refine E.C.region (E.op (E.pt b) (E.op (E.u (K5.ea x)) (E.op (Zm42g x) (A.gc (fun _ => .tuple #[]) (Store5 (b := b) (m := m) x V (K5.ea x) 4 (x.u.r ((x.i.d).toNat)) (K5.ea_bd _) (hx.u.r _)) [0, 1] [] [0, 1] (fun _ => [(b, (K5.wk (⟨x.u, x.s, x.i, (Zm42d x V).1, (Zm42d x V).2.1⟩) m))]) (fun _ => [R.It m ((Zm42d x V).2.2)]) (fun _ hd9 => E.P.nb (E.To.bodyN (fn := Tryz.f61) [] ?_ ?_))))))
   · exact trivial
   intro w h
   have e : (K5.memory x V o) = (⟨x.u, x.s, x.i, (Zm42d x V).1, (Zm42d x V).2.1⟩, (Zm42d x V).2.2) := by unfold K5.memory; rw [hc2, N0, hc5, N0, hc8, N1] <;> rfl
   rw [e]
   exact ⟨(), trivial, rfl, A.dq [0, 1] [] h⟩
  refine E.sr (E.op (.bool (o == 83)) (E.op (.bool (o == 83)) (E.To.code (E.cd (o == 83) (fun hc10 => ?_) (fun hc10 => ?_)))))
  ·
   refine E.C.region (E.op (E.pt b) (E.op (E.u (K5.ea x)) (E.op (Zm42g x) (A.gc (fun _ => .tuple #[]) (Store5 (b := b) (m := m) x V (K5.ea x) 1 (x.u.r ((x.i.d).toNat)) (K5.ea_bd _) (hx.u.r _)) [0, 1] [] [0, 1] (fun _ => [(b, (K5.wk (⟨x.u, x.s, x.i, (Zm42e x V).1, (Zm42e x V).2.1⟩) m))]) (fun _ => [R.It m ((Zm42e x V).2.2)]) (fun _ hd11 => E.P.nb (E.To.bodyN (fn := Tryz.f61) [] ?_ ?_))))))
   · exact trivial
   intro w h
   have e : (K5.memory x V o) = (⟨x.u, x.s, x.i, (Zm42e x V).1, (Zm42e x V).2.1⟩, (Zm42e x V).2.2) := by unfold K5.memory; rw [hc2, N0, hc5, N0, hc8, N0, hc10, N1] <;> rfl
   rw [e]
   exact ⟨(), trivial, rfl, A.dq [0, 1] [] h⟩
  refine E.sr (E.op (.bool (o == 86)) (E.op (.bool (o == 86)) (E.To.code (E.cd (o == 86) (fun hc12 => ?_) (fun hc12 => ?_)))))
  ·
   refine E.C.held (E.Hp (oo) w (A.X w oo aa [R.It m V]) []) Nz.k (E.ta 0 (E.pt b) rfl (E.ta 1 (E.pt b) rfl (E.ta 2 (E.pt b) rfl (E.ta 3 (E.pj b 49) rfl (E.ta 4 (E.pj b 50) rfl (E.ta 6 (E.u (K5.ea x)) rfl (E.ta 7 (E.pt b) rfl (E.ta 8 (E.pj b 24) rfl (E.ta 9 (E.pj b 25) rfl (E.al 5 rfl (E.li (E.i x.i.d) 0 rfl rfl ?_)))))))))))
   refine E.bk (E.tb 10 (E.pj b (25 + (x.i.d).toNat)) rfl (fun w h => E.idxI (e := 22) b 25 16 .i64 x.i.d Nz.k Nz.k Nz.k Nz.k (by have := hi.d; omega) w) (E.al 11 rfl (E.G.store 0 (K5.wk (⟨x.u, ⟨x.s.pc, (Q.up x.s.r (x.i.d).toNat (K5.ea x)), x.s.f, x.s.c, x.s.st, x.s.du⟩, x.i, x.k, x.t⟩) m) rfl rfl (K5.sto_s (x := x) Nz.k (by have := hi.d; omega)) Nz.k (E.bk (E.H.done Nz.k (E.P.nb (E.To.bodyN (fn := Tryz.f61) [] ?_ ?_)))))))
   · exact trivial
   intro w h
   have e : (K5.memory x V o) = (⟨x.u, ⟨x.s.pc, (Q.up x.s.r (x.i.d).toNat (K5.ea x)), x.s.f, x.s.c, x.s.st, x.s.du⟩, x.i, x.k, x.t⟩, V) := by unfold K5.memory; rw [hc2, N0, hc5, N0, hc8, N0, hc10, N0, hc12, N1] <;> rfl
   rw [e]
   exact ⟨(), trivial, rfl, A.dq [0, 1] [] h⟩
  refine E.sr (E.op (.bool (o == 84)) (E.op (.bool (o == 84)) (E.To.code (E.cd (o == 84) (fun hc13 => ?_) (fun hc13 => ?_)))))
  ·
   refine E.sr (E.op (E.pt b) (E.op (E.u (K5.ea x)) (A.gc (fun _ => E.u (Zm42b V x)) (Load5 (b := b) (m := m) x V (K5.ea x) 4 (K5.ea_bd _)) [0, 1] [] [0, 1] (fun _ => [(b, (Zm42c x V m))]) (fun _ => [R.It m V]) (fun _ hd14 => E.op (E.u (Zm42b V x)) (E.To.code (E.wk [(0, E.pt b), (4, E.u (x.u.r ((x.i.d).toNat))), (6, E.u (Zm42b V x))] [(b, (Zm42c x V m))] Nz.sub (E.C.seq (E.C.held (E.Hp (oo) w (A.X w oo aa [R.It m V]) []) Nz.k (E.ta 0 (E.pt b) rfl (E.ta 1 (E.pt b) rfl (E.ta 2 (E.pt b) rfl ?_)))))))))))
   refine E.ta 3 (E.pj b 49) rfl (E.ta 4 (E.pj b 50) rfl (E.ta 6 (Zm42g x) rfl (E.ta 7 (E.u (Zm42b V x)) rfl (E.ta 8 (E.u (IntKind.wrap .u32 ((x.u.r ((x.i.d).toNat)) + (Zm42b V x)))) rfl (E.ta 9 (E.pt b) rfl (E.ta 10 (E.pj b 24) rfl (E.ta 11 (E.pj b 25) rfl (E.al 5 rfl (E.li (E.i x.i.d) 0 rfl rfl (E.bk (E.tb 12 (E.pj b (25 + (x.i.d).toNat)) rfl (fun w h => E.idxI (e := 22) b 25 16 .i64 x.i.d Nz.k Nz.k Nz.k Nz.k (by have := hi.d; omega) w) ?_)))))))))))
   refine E.al 13 rfl (E.G.store 0 (K5.wk (⟨x.u, ⟨x.s.pc, (Q.up x.s.r (x.i.d).toNat (IntKind.wrap .u32 ((x.u.r ((x.i.d).toNat)) + (Zm42b V x)))), x.s.f, x.s.c, x.s.st, x.s.du⟩, x.i, (K5.lk x V (K5.ea x) 4).1, (K5.lk x V (K5.ea x) 4).2⟩) m) rfl rfl (K5.sto_s (x := ⟨x.u, x.s, x.i, (K5.lk x V (K5.ea x) 4).1, (K5.lk x V (K5.ea x) 4).2⟩) Nz.k (by have := hi.d; omega)) Nz.k (E.bk (E.H.done Nz.k (E.To.code (E.wk [(0, E.pt b), (4, E.u (x.u.r ((x.i.d).toNat))), (6, E.u (Zm42b V x))] [(b, (K5.wk (⟨x.u, ⟨x.s.pc, (Q.up x.s.r (x.i.d).toNat (IntKind.wrap .u32 ((x.u.r ((x.i.d).toNat)) + (Zm42b V x)))), x.s.f, x.s.c, x.s.st, x.s.du⟩, x.i, (K5.lk x V (K5.ea x) 4).1, (K5.lk x V (K5.ea x) 4).2⟩) m))] Nz.sub (E.C.region (E.op (E.pt b) (E.op (Zm42g x) (E.op (E.u (Zm42b V x)) (E.ca (E.u (W.flags 1 (x.u.r ((x.i.d).toNat)) (Zm42b V x))) (fun w h => rFlags_all 1 (x.u.r ((x.i.d).toNat)) (Zm42b V x) (hx.u.r _) (M.load_bd hV _ _) w) (E.op (E.pt b) ?_)))))))))))
   refine E.op (E.pj b 24) (E.op (E.pj b 41) (E.st 0 (K5.wk (⟨x.u, ⟨x.s.pc, (Q.up x.s.r (x.i.d).toNat (IntKind.wrap .u32 ((x.u.r ((x.i.d).toNat)) + (Zm42b V x)))), (W.flags 1 (x.u.r ((x.i.d).toNat)) (Zm42b V x)), x.s.c, x.s.st, x.s.du⟩, x.i, (K5.lk x V (K5.ea x) 4).1, (K5.lk x V (K5.ea x) 4).2⟩) m) rfl rfl (E.P.nb (E.To.bodyN (fn := Tryz.f61) [] ?_ ?_))))
   · exact trivial
   intro w h
   have e : (K5.memory x V o) = (⟨x.u, ⟨x.s.pc, (Q.up x.s.r (x.i.d).toNat (IntKind.wrap .u32 ((x.u.r ((x.i.d).toNat)) + (Zm42b V x)))), (W.flags 1 (x.u.r ((x.i.d).toNat)) (Zm42b V x)), x.s.c, x.s.st, x.s.du⟩, x.i, (K5.lk x V (K5.ea x) 4).1, (K5.lk x V (K5.ea x) 4).2⟩, V) := by unfold K5.memory; rw [hc2, N0, hc5, N0, hc8, N0, hc10, N0, hc12, N0, hc13, N1] <;> rfl
   rw [e]
   exact ⟨(), trivial, rfl, A.dq [0, 1] [] h⟩
  refine E.sr (E.op (.bool (o == 85)) (E.op (.bool (o == 85)) (E.To.code (E.wk [(0, E.pt b), (4, E.u (x.u.r ((x.i.d).toNat))), (5, E.u (K5.ea x)), (102, .bool (o == 85))] [(b, (K5.wk x m))] Nz.sub (E.cd (o == 85) (fun hc15 => ?_) (fun hc15 => ?_))))))
  ·
   refine E.sr (E.op (E.pt b) (E.op (E.u (K5.ea x)) (A.gc (fun _ => E.u (Zm42b V x)) (Load5 (b := b) (m := m) x V (K5.ea x) 4 (K5.ea_bd _)) [0, 1] [] [0, 1] (fun _ => [(b, (Zm42c x V m))]) (fun _ => [R.It m V]) (fun _ hd16 => E.op (E.u (Zm42b V x)) (E.tr (E.op (E.pt b) (E.op (E.u (K5.ea x)) (E.op (E.u (Zm42b V x)) (E.op (Zm42g x) (E.op (E.u (IntKind.wrap .u32 ((Zm42b V x) + (x.u.r ((x.i.d).toNat))))) (A.gc (fun _ => .tuple #[]) (Store5 (b := b) (m := m) (⟨x.u, x.s, x.i, (K5.lk x V (K5.ea x) 4).1, (K5.lk x V (K5.ea x) 4).2⟩ : K.W) V (K5.ea x) 4 (IntKind.wrap .u32 ((Zm42b V x) + (x.u.r ((x.i.d).toNat)))) (K5.ea_bd _) (Q.wrap_bd _)) [0, 1] [] [0, 1] (fun _ => [(b, (K5.wk (⟨x.u, x.s, x.i, (Zm42a x V).1, (Zm42a x V).2.1⟩) m))]) (fun _ => [R.It m ((Zm42a x V).2.2)]) (fun _ hd17 => ?_))))))))))))
   refine E.To.code (E.wk [(0, E.pt b), (4, E.u (x.u.r ((x.i.d).toNat))), (7, E.u (Zm42b V x))] [(b, (K5.wk (⟨x.u, x.s, x.i, (Zm42a x V).1, (Zm42a x V).2.1⟩) m))] Nz.sub (E.C.region (E.op (E.pt b) (E.op (E.u (Zm42b V x)) (E.op (Zm42g x) (E.ca (E.u (W.flags 1 (Zm42b V x) (x.u.r ((x.i.d).toNat)))) (fun w h => rFlags_all 1 (Zm42b V x) (x.u.r ((x.i.d).toNat)) (M.load_bd hV _ _) (hx.u.r _) w) (E.op (E.pt b) (E.op (E.pj b 24) (E.op (E.pj b 41) (E.st 0 (K5.wk (⟨x.u, ⟨x.s.pc, x.s.r, (W.flags 1 (Zm42b V x) (x.u.r ((x.i.d).toNat))), x.s.c, x.s.st, x.s.du⟩, x.i, (Zm42a x V).1, (Zm42a x V).2.1⟩) m) rfl rfl (E.P.nb (E.To.bodyN (fn := Tryz.f61) [] ?_ ?_))))))))))))
   · exact trivial
   intro w h
   have e : (K5.memory x V o) = (⟨x.u, ⟨x.s.pc, x.s.r, (W.flags 1 (Zm42b V x) (x.u.r ((x.i.d).toNat))), x.s.c, x.s.st, x.s.du⟩, x.i, (Zm42a x V).1, (Zm42a x V).2.1⟩, (Zm42a x V).2.2) := by unfold K5.memory; rw [hc2, N0, hc5, N0, hc8, N0, hc10, N0, hc12, N0, hc13, N0, hc15, N1] <;> rfl
   rw [e]
   exact ⟨(), trivial, rfl, A.dq [0, 1] [] h⟩
  refine E.C.skip (E.P.nb (E.To.bodyN (fn := Tryz.f61) [] ?_ ?_))
  · exact trivial
  intro w h
  have e : (K5.memory x V o) = (x, V) := by unfold K5.memory; rw [hc2, N0, hc5, N0, hc8, N0, hc10, N0, hc12, N0, hc13, N0, hc15, N0] <;> rfl
  rw [e]
  exact ⟨(), trivial, rfl, A.dq [0, 1] [] h⟩
 refine E.C.quiet Nz.k Nz.k (E.wo (E.pt b) (E.wo (E.pt b) (E.wo (E.pt b) (E.wo (E.pj b 49) (E.wo (E.pj b 50) (E.wv (E.i x.i.d) (fun w h => E.run_load h 0 rfl rfl Nz.k) (E.wo (E.pt b) (E.wo (E.pt b) (E.wo (E.pj b 1) (E.wv (E.pj b (1 + (x.i.d).toNat)) (fun w h => E.idxI (e := 22) b 1 16 .i64 x.i.d Nz.k Nz.k Nz.k Nz.k (by have := hi.d; omega) w) (E.wv (Zm42g x) (fun w h => E.run_load h 0 rfl rfl (K5.ld_u Nz.k (by have := hi.d; omega))) ?_)))))))))))
 exact E.wo (Zm42g x) (E.W.done (fun a w h1 h2 => dn _ _ _ rest a w (h1.sub ⟨Nz.k, Nz.k⟩) (h2.less Nz.sub)))
def K5.single (x : K.W) (V : M.V)  : K.W × M.V := (bif (x.i.op == 16) then (⟨x.u, ⟨x.s.pc, (Q.up x.s.r 7 (IntKind.wrap .u32 ((x.u.r 7) - 4))), x.s.f, x.s.c, x.s.st, x.s.du⟩, x.i, (K5.puk x V (x.u.r ((x.i.d).toNat))).1, (K5.puk x V (x.u.r ((x.i.d).toNat))).2.1⟩, (K5.puk x V (x.u.r ((x.i.d).toNat))).2.2) else (bif (x.i.op == 17) then (⟨x.u, ⟨x.s.pc, (Q.up (Q.up x.s.r 7 (IntKind.wrap .u32 ((x.u.r 7) + 4))) (x.i.d).toNat ((V.load (x.u.r 7).toNat 4).1)), x.s.f, x.s.c, x.s.st, x.s.du⟩, x.i, (K5.pok x V).1, (K5.pok x V).2⟩, V) else (bif (x.i.op == 18) then (⟨x.u, ⟨x.s.pc, (Q.up x.s.r (x.i.d).toNat (IntKind.wrap .u32 (0 - (x.u.r ((x.i.d).toNat))))), (W.flags 3 0 (x.u.r ((x.i.d).toNat))), x.s.c, x.s.st, x.s.du⟩, x.i, x.k, x.t⟩, V) else (bif (x.i.op == 19) then (⟨x.u, ⟨x.s.pc, (Q.up x.s.r (x.i.d).toNat (bits .xor .u32 4294967295 (x.u.r ((x.i.d).toNat)))), (W.flags 5 (bits .xor .u32 4294967295 (x.u.r ((x.i.d).toNat))) 0), x.s.c, x.s.st, x.s.du⟩, x.i, x.k, x.t⟩, V) else (bif (x.i.op == 20) then (⟨x.u, ⟨(x.u.r ((x.i.d).toNat)), x.s.r, x.s.f, x.s.c, x.s.st, x.s.du⟩, x.i, x.k, x.t⟩, V) else (bif (x.i.op == 21) then (⟨x.u, ⟨(x.u.r ((x.i.d).toNat)), (Q.up x.s.r 7 (IntKind.wrap .u32 ((x.u.r 7) - 4))), x.s.f, x.s.c, x.s.st, x.s.du⟩, x.i, (K5.puk x V x.s.pc).1, (K5.puk x V x.s.pc).2.1⟩, (K5.puk x V x.s.pc).2.2) else (x, V)))))))
abbrev Zw4wa (x : K.W) := bits .xor .u32 4294967295 (x.u.r ((x.i.d).toNat))
abbrev Zw4wb (x : K.W) := Q.up x.s.r 7 (IntKind.wrap .u32 ((x.u.r 7) - 4))
abbrev Zw4wc (x : K.W) := Q.up x.s.r (x.i.d).toNat (IntKind.wrap .u32 (0 - (x.u.r ((x.i.d).toNat))))
abbrev Zw4wd (x : K.W) := E.u (x.u.r ((x.i.d).toNat))
abbrev Zw4we (x : K.W) (V : M.V) (m : Nat) := K5.wk (⟨x.u, ⟨x.s.pc, (Q.up x.s.r 7 (IntKind.wrap .u32 ((x.u.r 7) + 4))), x.s.f, x.s.c, x.s.st, x.s.du⟩, x.i, (K5.pok x V).1, (K5.pok x V).2⟩) m
abbrev Zw4wf (x : K.W) (V : M.V) := K5.puk x V (x.u.r ((x.i.d).toNat))
abbrev Zw4wg (V : M.V) (x : K.W) := (V.load (x.u.r 7).toNat 4).1
set_option maxHeartbeats 1000000 in
theorem Single5 {b m : Nat} (x : K.W) (V : M.V)  (hx : K.wf x) (hi : K.iok x.i) (hV : R.Wf V) : A.Tr Tryz.prog 62 #[.pointer (some ⟨b, 0, none⟩)] [A.blk b (K5.wk x m), R.It m V] (I := Unit) (fun _ => True) (fun _ => .tuple #[]) (fun _ => [A.blk b (K5.wk (K5.single x V).1 m), R.It m (K5.single x V).2]) := by
 intro w oo aa hh
 refine E.enter (n := 102) (S := oo) Tryz.func62 rfl rfl Nz.k (A.start (L := [(b, (K5.wk x m))]) hh) (E.C.joint (fun J up dn => ?_))
 have rest : J [(0, E.pt b), (2, E.u (x.u.r ((x.i.d).toNat)))] (A.X w oo aa [R.It m V]) [(b, (K5.wk x m))] := by
  refine up _ _ _ (E.sr (E.op (E.pt b) (E.op (E.pt b) (E.op (E.pj b 49) (E.op (E.pj b 49) (E.li (E.i x.i.op) 0 rfl rfl (E.To.code (E.C.block (E.sr (E.op (.bool (x.i.op == 16)) (E.op (.bool (x.i.op == 16)) ?_)))))))))))
  refine E.To.code (E.cd (x.i.op == 16) (fun hc1 => ?_) (fun hc1 => ?_))
  ·
   refine E.C.region (E.op (E.pt b) (E.op (Zw4wd x) (A.gc (fun _ => .tuple #[]) (Push5 (b := b) (m := m) x V (x.u.r ((x.i.d).toNat)) (hx.u.r _)) [0, 1] [] [0, 1] (fun _ => [(b, (K5.wk (⟨x.u, ⟨x.s.pc, (Zw4wb x), x.s.f, x.s.c, x.s.st, x.s.du⟩, x.i, (Zw4wf x V).1, (Zw4wf x V).2.1⟩) m))]) (fun _ => [R.It m ((Zw4wf x V).2.2)]) (fun _ hd2 => E.P.nb (E.To.bodyN (fn := Tryz.f62) [] ?_ ?_)))))
   · exact trivial
   intro w h
   have e : (K5.single x V) = (⟨x.u, ⟨x.s.pc, (Zw4wb x), x.s.f, x.s.c, x.s.st, x.s.du⟩, x.i, (Zw4wf x V).1, (Zw4wf x V).2.1⟩, (Zw4wf x V).2.2) := by unfold K5.single; rw [hc1, N1] <;> rfl
   rw [e]
   exact ⟨(), trivial, rfl, A.dq [0, 1] [] h⟩
  refine E.sr (E.op (.bool (x.i.op == 17)) (E.op (.bool (x.i.op == 17)) (E.To.code (E.cd (x.i.op == 17) (fun hc3 => ?_) (fun hc3 => ?_)))))
  ·
   refine E.sr (E.op (E.pt b) (A.gc (fun _ => E.u (Zw4wg V x)) (Pop5 (b := b) (m := m) x V hx) [0, 1] [] [0, 1] (fun _ => [(b, (Zw4we x V m))]) (fun _ => [R.It m V]) (fun _ hd4 => E.op (E.u (Zw4wg V x)) (E.To.code (E.wk [(0, E.pt b), (3, E.u (Zw4wg V x))] [(b, (Zw4we x V m))] Nz.sub (E.C.held (E.Hp (oo) w (A.X w oo aa [R.It m V]) []) Nz.k (E.ta 0 (E.pt b) rfl (E.ta 1 (E.pt b) rfl (E.ta 2 (E.pt b) rfl (E.ta 3 (E.pj b 49) rfl (E.ta 4 (E.pj b 50) rfl ?_)))))))))))
   refine E.ta 6 (E.u (Zw4wg V x)) rfl (E.ta 7 (E.pt b) rfl (E.ta 8 (E.pj b 24) rfl (E.ta 9 (E.pj b 25) rfl (E.al 5 rfl (E.li (E.i x.i.d) 0 rfl rfl (E.bk (E.tb 10 (E.pj b (25 + (x.i.d).toNat)) rfl (fun w h => E.idxI (e := 22) b 25 16 .i64 x.i.d Nz.k Nz.k Nz.k Nz.k (by have := hi.d; omega) w) (E.al 11 rfl (E.G.store 0 (K5.wk (⟨x.u, ⟨x.s.pc, (Q.up (Q.up x.s.r 7 (IntKind.wrap .u32 ((x.u.r 7) + 4))) (x.i.d).toNat (Zw4wg V x)), x.s.f, x.s.c, x.s.st, x.s.du⟩, x.i, (K5.pok x V).1, (K5.pok x V).2⟩) m) rfl rfl (K5.sto_s (x := ⟨x.u, ⟨x.s.pc, (Q.up x.s.r 7 (IntKind.wrap .u32 ((x.u.r 7) + 4))), x.s.f, x.s.c, x.s.st, x.s.du⟩, x.i, (K5.pok x V).1, (K5.pok x V).2⟩) Nz.k (by have := hi.d; omega)) Nz.k (E.bk (E.H.done Nz.k ?_)))))))))))
   refine E.P.nb (E.To.bodyN (fn := Tryz.f62) [] ?_ ?_)
   · exact trivial
   intro w h
   have e : (K5.single x V) = (⟨x.u, ⟨x.s.pc, (Q.up (Q.up x.s.r 7 (IntKind.wrap .u32 ((x.u.r 7) + 4))) (x.i.d).toNat (Zw4wg V x)), x.s.f, x.s.c, x.s.st, x.s.du⟩, x.i, (K5.pok x V).1, (K5.pok x V).2⟩, V) := by unfold K5.single; rw [hc1, N0, hc3, N1] <;> rfl
   rw [e]
   exact ⟨(), trivial, rfl, A.dq [0, 1] [] h⟩
  refine E.sr (E.op (.bool (x.i.op == 18)) (E.op (.bool (x.i.op == 18)) (E.To.code (E.wk [(0, E.pt b), (2, E.u (x.u.r ((x.i.d).toNat))), (19, E.i x.i.op), (40, .bool (x.i.op == 18))] [(b, (K5.wk x m))] Nz.sub (E.cd (x.i.op == 18) (fun hc5 => ?_) (fun hc5 => ?_))))))
  ·
   refine E.C.seq (E.C.held (E.Hp (oo) w (A.X w oo aa [R.It m V]) []) Nz.k (E.ta 0 (E.pt b) rfl (E.ta 1 (E.pt b) rfl (E.ta 2 (E.pt b) rfl (E.ta 3 (E.pj b 49) rfl (E.ta 4 (E.pj b 50) rfl (E.ta 6 (Zw4wd x) rfl (E.ta 7 (E.u (IntKind.wrap .u32 (0 - (x.u.r ((x.i.d).toNat))))) rfl (E.ta 8 (E.pt b) rfl (E.ta 9 (E.pj b 24) rfl (E.ta 10 (E.pj b 25) rfl ?_)))))))))))
   refine E.al 5 rfl (E.li (E.i x.i.d) 0 rfl rfl (E.bk (E.tb 11 (E.pj b (25 + (x.i.d).toNat)) rfl (fun w h => E.idxI (e := 22) b 25 16 .i64 x.i.d Nz.k Nz.k Nz.k Nz.k (by have := hi.d; omega) w) (E.al 12 rfl (E.G.store 0 (K5.wk (⟨x.u, ⟨x.s.pc, (Zw4wc x), x.s.f, x.s.c, x.s.st, x.s.du⟩, x.i, x.k, x.t⟩) m) rfl rfl (K5.sto_s (x := x) Nz.k (by have := hi.d; omega)) Nz.k (E.bk (E.H.done Nz.k (E.To.code (E.wk [(0, E.pt b), (2, E.u (x.u.r ((x.i.d).toNat)))] [(b, (K5.wk (⟨x.u, ⟨x.s.pc, (Zw4wc x), x.s.f, x.s.c, x.s.st, x.s.du⟩, x.i, x.k, x.t⟩) m))] Nz.sub (E.C.region (E.op (E.pt b) ?_)))))))))))
   refine E.op (Zw4wd x) (E.ca (E.u (W.flags 3 0 (x.u.r ((x.i.d).toNat)))) (fun w h => rFlags_all 3 0 (x.u.r ((x.i.d).toNat)) (by decide) (hx.u.r _) w) (E.op (E.pt b) (E.op (E.pj b 24) (E.op (E.pj b 41) (E.st 0 (K5.wk (⟨x.u, ⟨x.s.pc, (Zw4wc x), (W.flags 3 0 (x.u.r ((x.i.d).toNat))), x.s.c, x.s.st, x.s.du⟩, x.i, x.k, x.t⟩) m) rfl rfl (E.P.nb (E.To.bodyN (fn := Tryz.f62) [] ?_ ?_)))))))
   · exact trivial
   intro w h
   have e : (K5.single x V) = (⟨x.u, ⟨x.s.pc, (Zw4wc x), (W.flags 3 0 (x.u.r ((x.i.d).toNat))), x.s.c, x.s.st, x.s.du⟩, x.i, x.k, x.t⟩, V) := by unfold K5.single; rw [hc1, N0, hc3, N0, hc5, N1] <;> rfl
   rw [e]
   exact ⟨(), trivial, rfl, A.dq [0, 1] [] h⟩
  refine E.sr (E.op (.bool (x.i.op == 19)) (E.op (.bool (x.i.op == 19)) (E.To.code (E.cd (x.i.op == 19) (fun hc6 => ?_) (fun hc6 => ?_)))))
  ·
   refine E.C.seq (E.C.held (E.Hp (oo) w (A.X w oo aa [R.It m V]) []) Nz.k (E.ta 0 (E.pt b) rfl (E.ta 1 (E.pt b) rfl (E.ta 2 (E.pt b) rfl (E.ta 3 (E.pj b 49) rfl (E.ta 4 (E.pj b 50) rfl (E.ta 6 (Zw4wd x) rfl (E.ta 7 (E.u (Zw4wa x)) rfl (E.ta 8 (E.pt b) rfl (E.ta 9 (E.pj b 24) rfl (E.ta 10 (E.pj b 25) rfl ?_)))))))))))
   refine E.al 5 rfl (E.li (E.i x.i.d) 0 rfl rfl (E.bk (E.tb 11 (E.pj b (25 + (x.i.d).toNat)) rfl (fun w h => E.idxI (e := 22) b 25 16 .i64 x.i.d Nz.k Nz.k Nz.k Nz.k (by have := hi.d; omega) w) (E.al 12 rfl (E.G.store 0 (K5.wk (⟨x.u, ⟨x.s.pc, (Q.up x.s.r (x.i.d).toNat (Zw4wa x)), x.s.f, x.s.c, x.s.st, x.s.du⟩, x.i, x.k, x.t⟩) m) rfl rfl (K5.sto_s (x := x) Nz.k (by have := hi.d; omega)) Nz.k (E.bk (E.H.done Nz.k (E.To.code (E.wk [(0, E.pt b), (2, E.u (x.u.r ((x.i.d).toNat)))] [(b, (K5.wk (⟨x.u, ⟨x.s.pc, (Q.up x.s.r (x.i.d).toNat (Zw4wa x)), x.s.f, x.s.c, x.s.st, x.s.du⟩, x.i, x.k, x.t⟩) m))] Nz.sub (E.C.region (E.op (E.pt b) ?_)))))))))))
   refine E.op (Zw4wd x) (E.op (E.u (Zw4wa x)) (E.ca (E.u (W.flags 5 (Zw4wa x) 0)) (fun w h => rFlags_all 5 (Zw4wa x) 0 (W.bits_bd _ _ _) (by decide) w) (E.op (E.pt b) (E.op (E.pj b 24) (E.op (E.pj b 41) (E.st 0 (K5.wk (⟨x.u, ⟨x.s.pc, (Q.up x.s.r (x.i.d).toNat (Zw4wa x)), (W.flags 5 (Zw4wa x) 0), x.s.c, x.s.st, x.s.du⟩, x.i, x.k, x.t⟩) m) rfl rfl (E.P.nb (E.To.bodyN (fn := Tryz.f62) [] ?_ ?_))))))))
   · exact trivial
   intro w h
   have e : (K5.single x V) = (⟨x.u, ⟨x.s.pc, (Q.up x.s.r (x.i.d).toNat (Zw4wa x)), (W.flags 5 (Zw4wa x) 0), x.s.c, x.s.st, x.s.du⟩, x.i, x.k, x.t⟩, V) := by unfold K5.single; rw [hc1, N0, hc3, N0, hc5, N0, hc6, N1] <;> rfl
   rw [e]
   exact ⟨(), trivial, rfl, A.dq [0, 1] [] h⟩
  refine E.sr (E.op (.bool (x.i.op == 20)) (E.op (.bool (x.i.op == 20)) (E.To.code (E.cd (x.i.op == 20) (fun hc7 => ?_) (fun hc7 => ?_)))))
  ·
   refine E.C.region (E.op (E.pt b) (E.op (Zw4wd x) (E.op (E.pt b) (E.op (E.pj b 24) (E.op (E.pj b 24) (E.st 0 (K5.wk (⟨x.u, ⟨(x.u.r ((x.i.d).toNat)), x.s.r, x.s.f, x.s.c, x.s.st, x.s.du⟩, x.i, x.k, x.t⟩) m) rfl rfl (E.P.nb (E.To.bodyN (fn := Tryz.f62) [] ?_ ?_))))))))
   · exact trivial
   intro w h
   have e : (K5.single x V) = (⟨x.u, ⟨(x.u.r ((x.i.d).toNat)), x.s.r, x.s.f, x.s.c, x.s.st, x.s.du⟩, x.i, x.k, x.t⟩, V) := by unfold K5.single; rw [hc1, N0, hc3, N0, hc5, N0, hc6, N0, hc7, N1] <;> rfl
   rw [e]
   exact ⟨(), trivial, rfl, A.dq [0, 1] [] h⟩
  refine E.sr (E.op (.bool (x.i.op == 21)) (E.op (.bool (x.i.op == 21)) (E.To.code (E.cd (x.i.op == 21) (fun hc8 => ?_) (fun hc8 => ?_)))))
  ·
   refine E.sr (E.op (E.pt b) (E.op (E.pt b) (E.op (E.pt b) (E.op (E.pj b 24) (E.op (E.pj b 24) (E.li (E.u x.s.pc) 0 rfl rfl (A.gc (fun _ => .tuple #[]) (Push5 (b := b) (m := m) x V x.s.pc hx.s.pc) [0, 1] [] [0, 1] (fun _ => [(b, (K5.wk (⟨x.u, ⟨x.s.pc, (Zw4wb x), x.s.f, x.s.c, x.s.st, x.s.du⟩, x.i, (K5.puk x V x.s.pc).1, (K5.puk x V x.s.pc).2.1⟩) m))]) (fun _ => [R.It m ((K5.puk x V x.s.pc).2.2)]) (fun _ hd9 => E.To.code (E.wk [(0, E.pt b), (2, E.u (x.u.r ((x.i.d).toNat)))] [(b, (K5.wk (⟨x.u, ⟨x.s.pc, (Zw4wb x), x.s.f, x.s.c, x.s.st, x.s.du⟩, x.i, (K5.puk x V x.s.pc).1, (K5.puk x V x.s.pc).2.1⟩) m))] Nz.sub (E.C.region (E.op (E.pt b) ?_)))))))))))
   refine E.op (Zw4wd x) (E.op (E.pt b) (E.op (E.pj b 24) (E.op (E.pj b 24) (E.st 0 (K5.wk (⟨x.u, ⟨(x.u.r ((x.i.d).toNat)), (Zw4wb x), x.s.f, x.s.c, x.s.st, x.s.du⟩, x.i, (K5.puk x V x.s.pc).1, (K5.puk x V x.s.pc).2.1⟩) m) rfl rfl (E.P.nb (E.To.bodyN (fn := Tryz.f62) [] ?_ ?_))))))
   · exact trivial
   intro w h
   have e : (K5.single x V) = (⟨x.u, ⟨(x.u.r ((x.i.d).toNat)), (Zw4wb x), x.s.f, x.s.c, x.s.st, x.s.du⟩, x.i, (K5.puk x V x.s.pc).1, (K5.puk x V x.s.pc).2.1⟩, (K5.puk x V x.s.pc).2.2) := by unfold K5.single; rw [hc1, N0, hc3, N0, hc5, N0, hc6, N0, hc7, N0, hc8, N1] <;> rfl
   rw [e]
   exact ⟨(), trivial, rfl, A.dq [0, 1] [] h⟩
  refine E.C.skip (E.P.nb (E.To.bodyN (fn := Tryz.f62) [] ?_ ?_))
  · exact trivial
  intro w h
  have e : (K5.single x V) = (x, V) := by unfold K5.single; rw [hc1, N0, hc3, N0, hc5, N0, hc6, N0, hc7, N0, hc8, N0] <;> rfl
  rw [e]
  exact ⟨(), trivial, rfl, A.dq [0, 1] [] h⟩
 refine E.C.quiet Nz.k Nz.k (E.wo (E.pt b) (E.wo (E.pt b) (E.wo (E.pt b) (E.wo (E.pj b 49) (E.wo (E.pj b 50) (E.wv (E.i x.i.d) (fun w h => E.run_load h 0 rfl rfl Nz.k) (E.wo (E.pt b) (E.wo (E.pt b) (E.wo (E.pj b 1) (E.wv (E.pj b (1 + (x.i.d).toNat)) (fun w h => E.idxI (e := 22) b 1 16 .i64 x.i.d Nz.k Nz.k Nz.k Nz.k (by have := hi.d; omega) w) (E.wv (Zw4wd x) (fun w h => E.run_load h 0 rfl rfl (K5.ld_u Nz.k (by have := hi.d; omega))) ?_)))))))))))
 exact E.wo (Zw4wd x) (E.W.done (fun a w h1 h2 => dn _ _ _ rest a w (h1.sub ⟨Nz.k, Nz.k⟩) (h2.less Nz.sub)))
def K5.control (x : K.W) (V : M.V)  : K.W × M.V := (bif (x.i.op == 1) then (⟨x.u, ⟨(V.load (x.u.r 7).toNat 4).1, (Q.up x.s.r 7 (IntKind.wrap .u32 ((x.u.r 7) + 4))), x.s.f, x.s.c, x.s.st, x.s.du⟩, x.i, (K5.pok x V).1, (K5.pok x V).2⟩, V) else (bif (x.i.op == 2) then (⟨x.u, x.s, x.i, 2, 0⟩, V) else (bif (x.i.op == 3) then (⟨x.u, x.s, x.i, 3, 0⟩, V) else (bif (x.i.op == 4) then (⟨x.u, ⟨(x.u.c 1), x.s.r, x.s.f, x.s.c, x.s.st, x.s.du⟩, x.i, x.k, x.t⟩, V) else (bif (x.i.op == 112) then (⟨x.u, ⟨(IntKind.wrap .u32 (x.s.pc + x.i.imm)), x.s.r, x.s.f, x.s.c, x.s.st, x.s.du⟩, x.i, x.k, x.t⟩, V) else (bif (x.i.op == 113) then (⟨x.u, ⟨(IntKind.wrap .u32 (x.s.pc + x.i.imm)), (Q.up x.s.r 7 (IntKind.wrap .u32 ((x.u.r 7) - 4))), x.s.f, x.s.c, x.s.st, x.s.du⟩, x.i, (K5.puk x V x.s.pc).1, (K5.puk x V x.s.pc).2.1⟩, (K5.puk x V x.s.pc).2.2) else (bif (x.i.op == 128) then (⟨x.u, x.s, x.i, 4, x.i.imm⟩, V) else (bif (x.i.op == 129) then (⟨x.u, ⟨x.s.pc, (Q.up x.s.r (x.i.d).toNat (x.u.c ((x.i.s).toNat))), x.s.f, x.s.c, x.s.st, x.s.du⟩, x.i, x.k, x.t⟩, V) else (bif (x.i.op == 130) then (bif ((x.i.s == 0) || (x.i.s == 1)) then (bif (x.i.s == 4) then (bif ((x.u.r ((x.i.d).toNat)) != 0) then (⟨x.u, ⟨x.s.pc, x.s.r, x.s.f, (Q.up x.s.c (x.i.s).toNat (x.u.r ((x.i.d).toNat))), x.s.st, (IntKind.wrap .i64 ((IntKind.wrap .i64 (x.u.st + 1)) + (IntKind.wrap .i64 (x.u.r ((x.i.d).toNat)))))⟩, x.i, x.k, x.t⟩, V) else (⟨x.u, ⟨x.s.pc, x.s.r, x.s.f, (Q.up x.s.c (x.i.s).toNat (x.u.r ((x.i.d).toNat))), x.s.st, 0⟩, x.i, x.k, x.t⟩, V)) else (⟨x.u, ⟨x.s.pc, x.s.r, x.s.f, (Q.up x.s.c (x.i.s).toNat (x.u.r ((x.i.d).toNat))), x.s.st, x.s.du⟩, x.i, x.k, x.t⟩, V)) else (bif (x.i.s == 4) then (bif ((x.u.r ((x.i.d).toNat)) != 0) then (⟨x.u, ⟨x.s.pc, x.s.r, x.s.f, x.s.c, x.s.st, (IntKind.wrap .i64 ((IntKind.wrap .i64 (x.u.st + 1)) + (IntKind.wrap .i64 (x.u.r ((x.i.d).toNat)))))⟩, x.i, x.k, x.t⟩, V) else (⟨x.u, ⟨x.s.pc, x.s.r, x.s.f, x.s.c, x.s.st, 0⟩, x.i, x.k, x.t⟩, V)) else (x, V))) else (x, V))))))))))
abbrev Zz10a (x : K.W) := IntKind.wrap .i64 ((IntKind.wrap .i64 (x.u.st + 1)) + (IntKind.wrap .i64 (x.u.r ((x.i.d).toNat))))
abbrev Zz10b (x : K.W) := Q.up x.s.c (x.i.s).toNat (x.u.r ((x.i.d).toNat))
abbrev Zz10d (x : K.W) := IntKind.wrap .u32 (x.s.pc + x.i.imm)
abbrev Zz10f (x : K.W) := Q.up x.s.r (x.i.d).toNat (x.u.c ((x.i.s).toNat))
abbrev Zz10c (x : K.W) (m : Nat) := K5.wk (⟨x.u, ⟨x.s.pc, (Zz10f x), x.s.f, x.s.c, x.s.st, x.s.du⟩, x.i, x.k, x.t⟩) m
abbrev Zz10g (x : K.W) := E.u (x.u.r ((x.i.d).toNat))
abbrev Zz10h (x : K.W) := Q.up x.s.r 7 (IntKind.wrap .u32 ((x.u.r 7) + 4))
abbrev Zz10i (x : K.W) := Q.up x.s.r 7 (IntKind.wrap .u32 ((x.u.r 7) - 4))
abbrev Zz10e (x : K.W) (V : M.V) (m : Nat) := K5.wk (⟨x.u, ⟨x.s.pc, (Zz10i x), x.s.f, x.s.c, x.s.st, x.s.du⟩, x.i, (K5.puk x V x.s.pc).1, (K5.puk x V x.s.pc).2.1⟩) m
set_option maxHeartbeats 1000000 in
theorem Control5 {b m : Nat} (x : K.W) (V : M.V)  (hx : K.wf x) (hi : K.iok x.i) (hV : R.Wf V) : A.Tr Tryz.prog 63 #[.pointer (some ⟨b, 0, none⟩)] [A.blk b (K5.wk x m), R.It m V] (I := Unit) (fun _ => True) (fun _ => .tuple #[]) (fun _ => [A.blk b (K5.wk (K5.control x V).1 m), R.It m (K5.control x V).2]) := by
 intro w oo aa hh
 refine E.enter (n := 172) (S := oo) Tryz.func63 rfl rfl Nz.k (A.start (L := [(b, (K5.wk x m))]) hh) (E.C.joint (fun J up dn => ?_))
 have rest : J [(0, E.pt b), (2, E.u x.s.pc)] (A.X w oo aa [R.It m V]) [(b, (K5.wk x m))] := by
  refine up _ _ _ (E.C.seq (E.C.quiet Nz.k Nz.k (E.wo (E.pt b) (E.wo (E.pt b) (E.wo (E.pt b) (E.wo (E.pj b 49) (E.wo (E.pj b 50) (E.wv (E.i x.i.d) (fun w h => E.run_load h 0 rfl rfl Nz.k) (E.wo (E.pt b) (E.wo (E.pt b) (E.wo (E.pj b 1) ?_)))))))))))
  refine E.wv (E.pj b (1 + (x.i.d).toNat)) (fun w h => E.idxI (e := 22) b 1 16 .i64 x.i.d Nz.k Nz.k Nz.k Nz.k (by have := hi.d; omega) w) (E.wv (Zz10g x) (fun w h => E.run_load h 0 rfl rfl (K5.ld_u Nz.k (by have := hi.d; omega))) (E.wo (Zz10g x) (E.W.done (E.To.code (E.wk [(0, E.pt b), (2, E.u x.s.pc), (3, E.u (x.u.r ((x.i.d).toNat)))] [(b, (K5.wk x m))] Nz.sub (E.sr (E.op (E.pt b) (E.op (E.pt b) (E.op (E.pj b 49) (E.op (E.pj b 49) (E.li (E.i x.i.op) 0 rfl rfl (E.To.code ?_))))))))))))
  refine E.C.block (E.sr (E.op (.bool (x.i.op == 1)) (E.op (.bool (x.i.op == 1)) (E.To.code (E.cd (x.i.op == 1) (fun hc1 => ?_) (fun hc1 => ?_))))))
  ·
   refine E.C.region (E.op (E.pt b) (E.op (E.pt b) (A.gc (fun _ => E.u ((V.load (x.u.r 7).toNat 4).1)) (Pop5 (b := b) (m := m) x V hx) [0, 1] [] [0, 1] (fun _ => [(b, (K5.wk (⟨x.u, ⟨x.s.pc, (Zz10h x), x.s.f, x.s.c, x.s.st, x.s.du⟩, x.i, (K5.pok x V).1, (K5.pok x V).2⟩) m))]) (fun _ => [R.It m V]) (fun _ hd2 => E.op (E.pt b) (E.op (E.pj b 24) (E.op (E.pj b 24) (E.st 0 (K5.wk (⟨x.u, ⟨(V.load (x.u.r 7).toNat 4).1, (Zz10h x), x.s.f, x.s.c, x.s.st, x.s.du⟩, x.i, (K5.pok x V).1, (K5.pok x V).2⟩) m) rfl rfl (E.P.nb (E.To.bodyN (fn := Tryz.f63) [] ?_ ?_)))))))))
   · exact trivial
   intro w h
   have e : (K5.control x V) = (⟨x.u, ⟨(V.load (x.u.r 7).toNat 4).1, (Zz10h x), x.s.f, x.s.c, x.s.st, x.s.du⟩, x.i, (K5.pok x V).1, (K5.pok x V).2⟩, V) := by unfold K5.control; rw [hc1, N1] <;> rfl
   rw [e]
   exact ⟨(), trivial, rfl, A.dq [0, 1] [] h⟩
  refine E.sr (E.op (.bool (x.i.op == 2)) (E.op (.bool (x.i.op == 2)) (E.To.code (E.cd (x.i.op == 2) (fun hc3 => ?_) (fun hc3 => ?_)))))
  ·
   refine E.C.region (E.op (E.pt b) (E.vl (.agg #[E.i 2, E.u 0]) (fun w h => E.run_build #[E.i 2, E.u 0] Nz.k w) (E.op (E.pt b) (E.op (E.pj b 56) (E.st 0 (K5.wk (⟨x.u, x.s, x.i, 2, 0⟩) m) rfl rfl (E.P.nb (E.To.bodyN (fn := Tryz.f63) [] ?_ ?_)))))))
   · exact trivial
   intro w h
   have e : (K5.control x V) = (⟨x.u, x.s, x.i, 2, 0⟩, V) := by unfold K5.control; rw [hc1, N0, hc3, N1] <;> rfl
   rw [e]
   exact ⟨(), trivial, rfl, A.dq [0, 1] [] h⟩
  refine E.sr (E.op (.bool (x.i.op == 3)) (E.op (.bool (x.i.op == 3)) (E.To.code (E.wk [(0, E.pt b), (2, E.u x.s.pc), (3, E.u (x.u.r ((x.i.d).toNat))), (24, E.i x.i.op), (39, .bool (x.i.op == 3))] [(b, (K5.wk x m))] Nz.sub (E.cd (x.i.op == 3) (fun hc4 => ?_) (fun hc4 => ?_))))))
  ·
   refine E.C.region (E.op (E.pt b) (E.vl (.agg #[E.i 3, E.u 0]) (fun w h => E.run_build #[E.i 3, E.u 0] Nz.k w) (E.op (E.pt b) (E.op (E.pj b 56) (E.st 0 (K5.wk (⟨x.u, x.s, x.i, 3, 0⟩) m) rfl rfl (E.P.nb (E.To.bodyN (fn := Tryz.f63) [] ?_ ?_)))))))
   · exact trivial
   intro w h
   have e : (K5.control x V) = (⟨x.u, x.s, x.i, 3, 0⟩, V) := by unfold K5.control; rw [hc1, N0, hc3, N0, hc4, N1] <;> rfl
   rw [e]
   exact ⟨(), trivial, rfl, A.dq [0, 1] [] h⟩
  refine E.sr (E.op (.bool (x.i.op == 4)) (E.op (.bool (x.i.op == 4)) (E.To.code (E.cd (x.i.op == 4) (fun hc5 => ?_) (fun hc5 => ?_)))))
  ·
   refine E.C.region (E.op (E.pt b) (E.op (E.pt b) (E.op (E.pt b) (E.op (E.pt b) (E.op (E.pj b 18) (E.op (E.pj b 19) (E.li (E.u (x.u.c 1)) 0 rfl rfl (E.op (E.pt b) (E.op (E.pj b 24) (E.op (E.pj b 24) (E.st 0 (K5.wk (⟨x.u, ⟨(x.u.c 1), x.s.r, x.s.f, x.s.c, x.s.st, x.s.du⟩, x.i, x.k, x.t⟩) m) rfl rfl ?_)))))))))))
   refine E.P.nb (E.To.bodyN (fn := Tryz.f63) [] ?_ ?_)
   · exact trivial
   intro w h
   have e : (K5.control x V) = (⟨x.u, ⟨(x.u.c 1), x.s.r, x.s.f, x.s.c, x.s.st, x.s.du⟩, x.i, x.k, x.t⟩, V) := by unfold K5.control; rw [hc1, N0, hc3, N0, hc4, N0, hc5, N1] <;> rfl
   rw [e]
   exact ⟨(), trivial, rfl, A.dq [0, 1] [] h⟩
  refine E.sr (E.op (.bool (x.i.op == 112)) (E.op (.bool (x.i.op == 112)) (E.To.code (E.cd (x.i.op == 112) (fun hc6 => ?_) (fun hc6 => ?_)))))
  ·
   refine E.C.region (E.op (E.pt b) (E.op (E.u x.s.pc) (E.op (E.pt b) (E.op (E.pt b) (E.op (E.pj b 49) (E.op (E.pj b 54) (E.li (E.u x.i.imm) 0 rfl rfl (E.op (E.u (Zz10d x)) (E.op (E.pt b) (E.op (E.pj b 24) (E.op (E.pj b 24) ?_)))))))))))
   refine E.st 0 (K5.wk (⟨x.u, ⟨(Zz10d x), x.s.r, x.s.f, x.s.c, x.s.st, x.s.du⟩, x.i, x.k, x.t⟩) m) rfl rfl (E.P.nb (E.To.bodyN (fn := Tryz.f63) [] ?_ ?_))
   · exact trivial
   intro w h
   have e : (K5.control x V) = (⟨x.u, ⟨(Zz10d x), x.s.r, x.s.f, x.s.c, x.s.st, x.s.du⟩, x.i, x.k, x.t⟩, V) := by unfold K5.control; rw [hc1, N0, hc3, N0, hc4, N0, hc5, N0, hc6, N1] <;> rfl
   rw [e]
   exact ⟨(), trivial, rfl, A.dq [0, 1] [] h⟩
  refine E.sr (E.op (.bool (x.i.op == 113)) (E.op (.bool (x.i.op == 113)) (E.To.code (E.cd (x.i.op == 113) (fun hc7 => ?_) (fun hc7 => ?_)))))
  ·
   refine E.sr (E.op (E.pt b) (E.op (E.u x.s.pc) (A.gc (fun _ => .tuple #[]) (Push5 (b := b) (m := m) x V x.s.pc hx.s.pc) [0, 1] [] [0, 1] (fun _ => [(b, (Zz10e x V m))]) (fun _ => [R.It m ((K5.puk x V x.s.pc).2.2)]) (fun _ hd8 => E.To.code (E.wk [(0, E.pt b), (2, E.u x.s.pc)] [(b, (Zz10e x V m))] Nz.sub (E.C.region (E.op (E.pt b) (E.op (E.u x.s.pc) (E.op (E.pt b) (E.op (E.pt b) (E.op (E.pj b 49) ?_)))))))))))
   refine E.op (E.pj b 54) (E.li (E.u x.i.imm) 0 rfl rfl (E.op (E.u (Zz10d x)) (E.op (E.pt b) (E.op (E.pj b 24) (E.op (E.pj b 24) (E.st 0 (K5.wk (⟨x.u, ⟨(Zz10d x), (Zz10i x), x.s.f, x.s.c, x.s.st, x.s.du⟩, x.i, (K5.puk x V x.s.pc).1, (K5.puk x V x.s.pc).2.1⟩) m) rfl rfl (E.P.nb (E.To.bodyN (fn := Tryz.f63) [] ?_ ?_))))))))
   · exact trivial
   intro w h
   have e : (K5.control x V) = (⟨x.u, ⟨(Zz10d x), (Zz10i x), x.s.f, x.s.c, x.s.st, x.s.du⟩, x.i, (K5.puk x V x.s.pc).1, (K5.puk x V x.s.pc).2.1⟩, (K5.puk x V x.s.pc).2.2) := by unfold K5.control; rw [hc1, N0, hc3, N0, hc4, N0, hc5, N0, hc6, N0, hc7, N1] <;> rfl
   rw [e]
   exact ⟨(), trivial, rfl, A.dq [0, 1] [] h⟩
  refine E.sr (E.op (.bool (x.i.op == 128)) (E.op (.bool (x.i.op == 128)) (E.To.code (E.wk [(0, E.pt b), (3, E.u (x.u.r ((x.i.d).toNat))), (24, E.i x.i.op), (86, .bool (x.i.op == 128))] [(b, (K5.wk x m))] Nz.sub (E.cd (x.i.op == 128) (fun hc9 => ?_) (fun hc9 => ?_))))))
  ·
   refine E.C.region (E.op (E.pt b) (E.op (E.pt b) (E.op (E.pt b) (E.op (E.pj b 49) (E.op (E.pj b 54) (E.li (E.u x.i.imm) 0 rfl rfl (E.vl (.agg #[E.i 4, E.u x.i.imm]) (fun w h => E.run_build #[E.i 4, E.u x.i.imm] Nz.k w) (E.op (E.pt b) (E.op (E.pj b 56) (E.st 0 (K5.wk (⟨x.u, x.s, x.i, 4, x.i.imm⟩) m) rfl rfl (E.P.nb (E.To.bodyN (fn := Tryz.f63) [] ?_ ?_))))))))))))
   · exact trivial
   intro w h
   have e : (K5.control x V) = (⟨x.u, x.s, x.i, 4, x.i.imm⟩, V) := by unfold K5.control; rw [hc1, N0, hc3, N0, hc4, N0, hc5, N0, hc6, N0, hc7, N0, hc9, N1] <;> rfl
   rw [e]
   exact ⟨(), trivial, rfl, A.dq [0, 1] [] h⟩
  refine E.sr (E.op (.bool (x.i.op == 129)) (E.op (.bool (x.i.op == 129)) (E.To.code (E.cd (x.i.op == 129) (fun hc10 => ?_) (fun hc10 => ?_)))))
  ·
   refine E.C.held (E.Hp (oo) w (A.X w oo aa [R.It m V]) []) Nz.k (E.ta 0 (E.pt b) rfl (E.ta 1 (E.pt b) rfl (E.ta 2 (E.pt b) rfl (E.ta 3 (E.pj b 49) rfl (E.ta 4 (E.pj b 50) rfl (E.ta 6 (E.pt b) rfl (E.ta 7 (E.pt b) rfl (E.ta 8 (E.pt b) rfl (E.ta 9 (E.pj b 49) rfl (E.ta 10 (E.pj b 51) rfl (E.ta 12 (E.pt b) rfl ?_)))))))))))
   refine E.ta 13 (E.pt b) rfl (E.ta 14 (E.pj b 18) rfl (E.ta 17 (E.pt b) rfl (E.ta 18 (E.pj b 24) rfl (E.ta 19 (E.pj b 25) rfl (E.al2 5 11 rfl rfl ?_ ?_)))))
   ·
    refine E.li (E.i x.i.d) 0 rfl rfl (E.bk (E.al 11 rfl (E.li (E.i x.i.s) 0 rfl rfl (E.bk (E.tb 15 (E.pj b (18 + (x.i.s).toNat)) rfl (fun w h => E.idxI (e := 22) b 18 4 .i64 x.i.s Nz.k Nz.k Nz.k Nz.k (by have := hi.get hc10; have := hi.s; omega) w) (E.al 16 rfl (E.vl (E.u (x.u.c ((x.i.s).toNat))) (fun w h => E.run_load h 0 rfl rfl (K5.ld_uc Nz.k (by have := hi.get hc10; have := hi.s; omega))) (E.bk (E.tb 20 (E.pj b (25 + (x.i.d).toNat)) rfl (fun w h => E.idxI (e := 22) b 25 16 .i64 x.i.d Nz.k Nz.k Nz.k Nz.k (by have := hi.d; omega) w) (E.al 21 rfl (E.G.store 0 (Zz10c x m) rfl rfl (K5.sto_s (x := x) Nz.k (by have := hi.d; omega)) Nz.k ?_)))))))))))
    refine E.bk (E.H.done Nz.k (E.P.nb (E.To.bodyN (fn := Tryz.f63) [] ?_ ?_)))
    · exact trivial
    intro w h
    have e : (K5.control x V) = (⟨x.u, ⟨x.s.pc, (Zz10f x), x.s.f, x.s.c, x.s.st, x.s.du⟩, x.i, x.k, x.t⟩, V) := by unfold K5.control; rw [hc1, N0, hc3, N0, hc4, N0, hc5, N0, hc6, N0, hc7, N0, hc9, N0, hc10, N1] <;> rfl
    rw [e]
    exact ⟨(), trivial, rfl, A.dq [0, 1] [] h⟩
   refine E.li (E.i x.i.s) 0 rfl rfl (E.bk (E.tb 15 (E.pj b (18 + (x.i.s).toNat)) rfl (fun w h => E.idxI (e := 22) b 18 4 .i64 x.i.s Nz.k Nz.k Nz.k Nz.k (by have := hi.get hc10; have := hi.s; omega) w) (E.al2 5 16 rfl rfl ?_ ?_)))
   ·
    refine E.li (E.i x.i.d) 0 rfl rfl (E.bk (E.al 16 rfl (E.vl (E.u (x.u.c ((x.i.s).toNat))) (fun w h => E.run_load h 0 rfl rfl (K5.ld_uc Nz.k (by have := hi.get hc10; have := hi.s; omega))) (E.bk (E.tb 20 (E.pj b (25 + (x.i.d).toNat)) rfl (fun w h => E.idxI (e := 22) b 25 16 .i64 x.i.d Nz.k Nz.k Nz.k Nz.k (by have := hi.d; omega) w) (E.al 21 rfl (E.G.store 0 (Zz10c x m) rfl rfl (K5.sto_s (x := x) Nz.k (by have := hi.d; omega)) Nz.k (E.bk (E.H.done Nz.k (E.P.nb (E.To.bodyN (fn := Tryz.f63) [] ?_ ?_)))))))))))
    · exact trivial
    intro w h
    have e : (K5.control x V) = (⟨x.u, ⟨x.s.pc, (Zz10f x), x.s.f, x.s.c, x.s.st, x.s.du⟩, x.i, x.k, x.t⟩, V) := by unfold K5.control; rw [hc1, N0, hc3, N0, hc4, N0, hc5, N0, hc6, N0, hc7, N0, hc9, N0, hc10, N1] <;> rfl
    rw [e]
    exact ⟨(), trivial, rfl, A.dq [0, 1] [] h⟩
   refine E.vl (E.u (x.u.c ((x.i.s).toNat))) (fun w h => E.run_load h 0 rfl rfl (K5.ld_uc Nz.k (by have := hi.get hc10; have := hi.s; omega))) (E.bk (E.al 5 rfl (E.li (E.i x.i.d) 0 rfl rfl (E.bk (E.tb 20 (E.pj b (25 + (x.i.d).toNat)) rfl (fun w h => E.idxI (e := 22) b 25 16 .i64 x.i.d Nz.k Nz.k Nz.k Nz.k (by have := hi.d; omega) w) (E.al 21 rfl (E.G.store 0 (Zz10c x m) rfl rfl (K5.sto_s (x := x) Nz.k (by have := hi.d; omega)) Nz.k (E.bk (E.H.done Nz.k (E.P.nb (E.To.bodyN (fn := Tryz.f63) [] ?_ ?_)))))))))))
   · exact trivial
   intro w h
   have e : (K5.control x V) = (⟨x.u, ⟨x.s.pc, (Zz10f x), x.s.f, x.s.c, x.s.st, x.s.du⟩, x.i, x.k, x.t⟩, V) := by unfold K5.control; rw [hc1, N0, hc3, N0, hc4, N0, hc5, N0, hc6, N0, hc7, N0, hc9, N0, hc10, N1] <;> rfl
   rw [e]
   exact ⟨(), trivial, rfl, A.dq [0, 1] [] h⟩
  refine E.sr (E.op (.bool (x.i.op == 130)) (E.op (.bool (x.i.op == 130)) (E.To.code (E.cd (x.i.op == 130) (fun hc11 => ?_) (fun hc11 => ?_)))))
  ·
   refine E.C.seq (E.sr (E.op (E.pt b) (E.op (E.pt b) (E.op (E.pj b 49) (E.op (E.pj b 51) (E.li (E.i x.i.s) 0 rfl rfl (E.op (.bool (x.i.s == 0)) (E.op (.bool (x.i.s == 0)) (E.G.cut 7 [(0, E.pt b), (3, E.u (x.u.r ((x.i.d).toNat))), (135, .bool ((x.i.s == 0) || (x.i.s == 1)))] (A.X w oo aa [R.It m V]) [(b, (K5.wk x m))] ?_ ?_)))))))))
   ·
    generalize hc12 : (x.i.s == 0) = b13
    cases b13
    ·
     exact E.op (E.pt b) (E.op (E.pt b) (E.op (E.pj b 49) (E.op (E.pj b 51) (E.li (E.i x.i.s) 0 rfl rfl (E.op (.bool (x.i.s == 1)) (E.op (.bool (x.i.s == 1)) E.ep))))))
    exact E.sk (E.sk (E.sk (E.sk (E.sk (E.sk (E.op (.bool true) E.ep))))))
   refine E.To.code (E.cd ((x.i.s == 0) || (x.i.s == 1)) (fun hc14 => ?_) (fun hc14 => ?_))
   ·
    refine E.C.held (E.Hp (oo) w (A.X w oo aa [R.It m V]) []) Nz.k (E.ta 0 (E.pt b) rfl (E.ta 1 (E.pt b) rfl (E.ta 2 (E.pt b) rfl (E.ta 3 (E.pj b 49) rfl (E.ta 4 (E.pj b 51) rfl (E.ta 6 (Zz10g x) rfl (E.ta 7 (E.pt b) rfl (E.ta 8 (E.pj b 24) rfl (E.ta 9 (E.pj b 42) rfl (E.al 5 rfl (E.li (E.i x.i.s) 0 rfl rfl ?_)))))))))))
    refine E.bk (E.tb 10 (E.pj b (42 + (x.i.s).toNat)) rfl (fun w h => E.idxI (e := 22) b 42 4 .i64 x.i.s Nz.k Nz.k Nz.k Nz.k (by have := K5.s01 hc14; omega) w) (E.al 11 rfl (E.G.store 0 (K5.wk (⟨x.u, ⟨x.s.pc, x.s.r, x.s.f, (Zz10b x), x.s.st, x.s.du⟩, x.i, x.k, x.t⟩) m) rfl rfl (K5.sto_c (x := x) Nz.k (by have := K5.s01 hc14; omega)) Nz.k (E.bk (E.H.done Nz.k (E.To.code (E.wk [(0, E.pt b), (3, E.u (x.u.r ((x.i.d).toNat)))] [(b, (K5.wk (⟨x.u, ⟨x.s.pc, x.s.r, x.s.f, (Zz10b x), x.s.st, x.s.du⟩, x.i, x.k, x.t⟩) m))] Nz.sub (E.sr (E.op (E.pt b) (E.op (E.pt b) (E.op (E.pj b 49) ?_)))))))))))
    refine E.op (E.pj b 51) (E.li (E.i x.i.s) 0 rfl rfl (E.op (.bool (x.i.s == 4)) (E.To.code (E.cd (x.i.s == 4) (fun hc15 => ?_) (fun hc15 => ?_)))))
    ·
     refine E.sr (E.op (E.pt b) (E.op (E.pt b) (E.op (E.pj b 24) (E.op (E.pj b 47) (E.st 0 (K5.wk (⟨x.u, ⟨x.s.pc, x.s.r, x.s.f, (Zz10b x), x.s.st, 0⟩, x.i, x.k, x.t⟩) m) rfl rfl (E.To.code (E.wk [(0, E.pt b), (3, E.u (x.u.r ((x.i.d).toNat)))] [(b, (K5.wk (⟨x.u, ⟨x.s.pc, x.s.r, x.s.f, (Zz10b x), x.s.st, 0⟩, x.i, x.k, x.t⟩) m))] Nz.sub (E.sr (E.op (Zz10g x) (E.op (.bool ((x.u.r ((x.i.d).toNat)) != 0)) (E.To.code ?_)))))))))))
     refine E.cd ((x.u.r ((x.i.d).toNat)) != 0) (fun hc16 => ?_) (fun hc16 => ?_)
     ·
      refine E.C.region (E.op (E.pt b) (E.op (E.pt b) (E.op (E.pt b) (E.op (E.pt b) (E.op (E.pj b 22) (E.li (E.i x.u.st) 0 rfl rfl (E.op (E.i (IntKind.wrap .i64 (x.u.st + 1))) (E.op (Zz10g x) (E.op (E.i (IntKind.wrap .i64 (x.u.r ((x.i.d).toNat)))) (E.op (E.i (Zz10a x)) (E.op (E.pt b) ?_)))))))))))
      refine E.op (E.pj b 24) (E.op (E.pj b 47) (E.st 0 (K5.wk (⟨x.u, ⟨x.s.pc, x.s.r, x.s.f, (Zz10b x), x.s.st, (Zz10a x)⟩, x.i, x.k, x.t⟩) m) rfl rfl (E.P.nb (E.To.bodyN (fn := Tryz.f63) [] ?_ ?_))))
      · exact trivial
      intro w h
      have e : (K5.control x V) = (⟨x.u, ⟨x.s.pc, x.s.r, x.s.f, (Zz10b x), x.s.st, (Zz10a x)⟩, x.i, x.k, x.t⟩, V) := by unfold K5.control; rw [hc1, N0, hc3, N0, hc4, N0, hc5, N0, hc6, N0, hc7, N0, hc9, N0, hc10, N0, hc11, N1, hc14, N1, hc15, N1, hc16, N1] <;> rfl
      rw [e]
      exact ⟨(), trivial, rfl, A.dq [0, 1] [] h⟩
     refine E.C.skip (E.P.nb (E.To.bodyN (fn := Tryz.f63) [] ?_ ?_))
     · exact trivial
     intro w h
     have e : (K5.control x V) = (⟨x.u, ⟨x.s.pc, x.s.r, x.s.f, (Zz10b x), x.s.st, 0⟩, x.i, x.k, x.t⟩, V) := by unfold K5.control; rw [hc1, N0, hc3, N0, hc4, N0, hc5, N0, hc6, N0, hc7, N0, hc9, N0, hc10, N0, hc11, N1, hc14, N1, hc15, N1, hc16, N0] <;> rfl
     rw [e]
     exact ⟨(), trivial, rfl, A.dq [0, 1] [] h⟩
    refine E.C.skip (E.P.nb (E.To.bodyN (fn := Tryz.f63) [] ?_ ?_))
    · exact trivial
    intro w h
    have e : (K5.control x V) = (⟨x.u, ⟨x.s.pc, x.s.r, x.s.f, (Zz10b x), x.s.st, x.s.du⟩, x.i, x.k, x.t⟩, V) := by unfold K5.control; rw [hc1, N0, hc3, N0, hc4, N0, hc5, N0, hc6, N0, hc7, N0, hc9, N0, hc10, N0, hc11, N1, hc14, N1, hc15, N0] <;> rfl
    rw [e]
    exact ⟨(), trivial, rfl, A.dq [0, 1] [] h⟩
   refine E.C.skip (E.To.code (E.sr (E.op (E.pt b) (E.op (E.pt b) (E.op (E.pj b 49) (E.op (E.pj b 51) (E.li (E.i x.i.s) 0 rfl rfl (E.op (.bool (x.i.s == 4)) (E.To.code (E.cd (x.i.s == 4) (fun hc17 => ?_) (fun hc17 => ?_)))))))))))
   ·
    refine E.sr (E.op (E.pt b) (E.op (E.pt b) (E.op (E.pj b 24) (E.op (E.pj b 47) (E.st 0 (K5.wk (⟨x.u, ⟨x.s.pc, x.s.r, x.s.f, x.s.c, x.s.st, 0⟩, x.i, x.k, x.t⟩) m) rfl rfl (E.To.code (E.wk [(0, E.pt b), (3, E.u (x.u.r ((x.i.d).toNat)))] [(b, (K5.wk (⟨x.u, ⟨x.s.pc, x.s.r, x.s.f, x.s.c, x.s.st, 0⟩, x.i, x.k, x.t⟩) m))] Nz.sub (E.sr (E.op (Zz10g x) (E.op (.bool ((x.u.r ((x.i.d).toNat)) != 0)) (E.To.code ?_)))))))))))
    refine E.cd ((x.u.r ((x.i.d).toNat)) != 0) (fun hc18 => ?_) (fun hc18 => ?_)
    ·
     refine E.C.region (E.op (E.pt b) (E.op (E.pt b) (E.op (E.pt b) (E.op (E.pt b) (E.op (E.pj b 22) (E.li (E.i x.u.st) 0 rfl rfl (E.op (E.i (IntKind.wrap .i64 (x.u.st + 1))) (E.op (Zz10g x) (E.op (E.i (IntKind.wrap .i64 (x.u.r ((x.i.d).toNat)))) (E.op (E.i (Zz10a x)) (E.op (E.pt b) ?_)))))))))))
     refine E.op (E.pj b 24) (E.op (E.pj b 47) (E.st 0 (K5.wk (⟨x.u, ⟨x.s.pc, x.s.r, x.s.f, x.s.c, x.s.st, (Zz10a x)⟩, x.i, x.k, x.t⟩) m) rfl rfl (E.P.nb (E.To.bodyN (fn := Tryz.f63) [] ?_ ?_))))
     · exact trivial
     intro w h
     have e : (K5.control x V) = (⟨x.u, ⟨x.s.pc, x.s.r, x.s.f, x.s.c, x.s.st, (Zz10a x)⟩, x.i, x.k, x.t⟩, V) := by unfold K5.control; rw [hc1, N0, hc3, N0, hc4, N0, hc5, N0, hc6, N0, hc7, N0, hc9, N0, hc10, N0, hc11, N1, hc14, N0, hc17, N1, hc18, N1] <;> rfl
     rw [e]
     exact ⟨(), trivial, rfl, A.dq [0, 1] [] h⟩
    refine E.C.skip (E.P.nb (E.To.bodyN (fn := Tryz.f63) [] ?_ ?_))
    · exact trivial
    intro w h
    have e : (K5.control x V) = (⟨x.u, ⟨x.s.pc, x.s.r, x.s.f, x.s.c, x.s.st, 0⟩, x.i, x.k, x.t⟩, V) := by unfold K5.control; rw [hc1, N0, hc3, N0, hc4, N0, hc5, N0, hc6, N0, hc7, N0, hc9, N0, hc10, N0, hc11, N1, hc14, N0, hc17, N1, hc18, N0] <;> rfl
    rw [e]
    exact ⟨(), trivial, rfl, A.dq [0, 1] [] h⟩
   refine E.C.skip (E.P.nb (E.To.bodyN (fn := Tryz.f63) [] ?_ ?_))
   · exact trivial
   intro w h
   have e : (K5.control x V) = (x, V) := by unfold K5.control; rw [hc1, N0, hc3, N0, hc4, N0, hc5, N0, hc6, N0, hc7, N0, hc9, N0, hc10, N0, hc11, N1, hc14, N0, hc17, N0] <;> rfl
   rw [e]
   exact ⟨(), trivial, rfl, A.dq [0, 1] [] h⟩
  refine E.C.skip (E.P.nb (E.To.bodyN (fn := Tryz.f63) [] ?_ ?_))
  · exact trivial
  intro w h
  have e : (K5.control x V) = (x, V) := by unfold K5.control; rw [hc1, N0, hc3, N0, hc4, N0, hc5, N0, hc6, N0, hc7, N0, hc9, N0, hc10, N0, hc11, N0] <;> rfl
  rw [e]
  exact ⟨(), trivial, rfl, A.dq [0, 1] [] h⟩
 exact E.C.region (E.op (E.pt b) (E.op (E.pt b) (E.op (E.pj b 24) (E.op (E.pj b 24) (E.li (E.u x.s.pc) 0 rfl rfl (E.op (E.u x.s.pc) (fun a w h1 h2 => dn _ _ _ rest a w (h1.sub ⟨Nz.k, Nz.k⟩) (h2.less Nz.sub))))))))
def K.fmtB (n : Nat) : Bool :=
  (K.fmt n == none && R2.Format n == 0) || (K.fmt n == some 0 && R2.Format n == 1 && decide (n ≤ 4)) || (K.fmt n == some 1 && R2.Format n == 2 && decide (16 ≤ n ∧ n ≤ 21)) || (K.fmt n == some 2 && R2.Format n == 3 && decide (32 ≤ n ∧ n ≤ 46)) ||
  (K.fmt n == some 3 && R2.Format n == 4 && decide (48 ≤ n ∧ n ≤ 62)) || (K.fmt n == some 4 && R2.Format n == 5 && decide (64 ≤ n ∧ n ≤ 78)) || (K.fmt n == some 5 && R2.Format n == 6 && decide (80 ≤ n ∧ n ≤ 86)) ||
  (K.fmt n == some 6 && R2.Format n == 7 && decide (88 ≤ n ∧ n ≤ 94)) || (K.fmt n == some 7 && R2.Format n == 8 && decide (96 ≤ n ∧ n ≤ 109)) || (K.fmt n == some 8 && R2.Format n == 9 && decide (112 ≤ n ∧ n ≤ 113)) ||
  (K.fmt n == some 9 && R2.Format n == 10 && decide (n = 128)) || (K.fmt n == some 10 && R2.Format n == 11 && decide (n = 129)) || (K.fmt n == some 10 && R2.Format n == 12 && decide (n = 130))
theorem K.fmtB_all : ∀ n : Fin 131, K.fmtB n.val = true := by decide +kernel
theorem K.fmtF_none (op : Int) (h : op < 0 ∨ 130 < op) : ∀ m k, k + m ≤ 11 → K.fmtF op m k = none
  | 0, _, _ => rfl
  | m + 1, k, hk => by
    have hb : 0 ≤ K.lo k ∧ K.hi k ≤ 130 := by
      rcases (by omega : k = 0 ∨ k = 1 ∨ k = 2 ∨ k = 3 ∨ k = 4 ∨ k = 5 ∨ k = 6 ∨ k = 7 ∨ k = 8 ∨ k = 9 ∨ k = 10) with rfl | rfl | rfl | rfl | rfl | rfl | rfl | rfl | rfl | rfl | rfl <;> decide
    unfold K.fmtF
    rw [if_neg (by omega)]
    exact K.fmtF_none op h m (k + 1) (by omega)
theorem R2.Format_none (op : Int) (h : op < 0 ∨ 130 < op) : R2.Format op = 0 := by
  have hd : ∀ a b : Int, 0 ≤ a → b ≤ 130 → (decide (op ≥ a) && decide (op ≤ b)) = false := fun a b ha hb => by simp; omega
  have he : ((op == 112) || (op == 113)) = false := by simp; omega
  unfold R2.Format
  rw [hd 0 4 (by decide) (by decide), hd 16 21 (by decide) (by decide), hd 32 46 (by decide) (by decide), hd 48 62 (by decide) (by decide), hd 64 78 (by decide) (by decide), hd 80 86 (by decide) (by decide), hd 88 94 (by decide) (by decide), hd 96 109 (by decide) (by decide), hd 128 130 (by decide) (by decide), he]
  rfl
/-- The format of a number, in the program's count and in the reference's. -/
theorem K.fmt_cases (op : Int) : (K.fmt op = none ∧ R2.Format op = 0) ∨ (K.fmt op = some 0 ∧ R2.Format op = 1 ∧ 0 ≤ op ∧ op ≤ 4) ∨ (K.fmt op = some 1 ∧ R2.Format op = 2 ∧ 16 ≤ op ∧ op ≤ 21) ∨ (K.fmt op = some 2 ∧ R2.Format op = 3 ∧ 32 ≤ op ∧ op ≤ 46) ∨
    (K.fmt op = some 3 ∧ R2.Format op = 4 ∧ 48 ≤ op ∧ op ≤ 62) ∨ (K.fmt op = some 4 ∧ R2.Format op = 5 ∧ 64 ≤ op ∧ op ≤ 78) ∨ (K.fmt op = some 5 ∧ R2.Format op = 6 ∧ 80 ≤ op ∧ op ≤ 86) ∨ (K.fmt op = some 6 ∧ R2.Format op = 7 ∧ 88 ≤ op ∧ op ≤ 94) ∨
    (K.fmt op = some 7 ∧ R2.Format op = 8 ∧ 96 ≤ op ∧ op ≤ 109) ∨ (K.fmt op = some 8 ∧ R2.Format op = 9 ∧ 112 ≤ op ∧ op ≤ 113) ∨ (K.fmt op = some 9 ∧ R2.Format op = 10 ∧ op = 128) ∨ (K.fmt op = some 10 ∧ R2.Format op = 11 ∧ op = 129) ∨ (K.fmt op = some 10 ∧ R2.Format op = 12 ∧ op = 130) := by
  by_cases h : op < 0 ∨ 130 < op
  · exact .inl ⟨K.fmtF_none op h 11 0 (by omega), R2.Format_none op h⟩
  · obtain ⟨n, rfl⟩ := Int.eq_ofNat_of_zero_le (by omega : 0 ≤ op)
    have := K.fmtB_all ⟨n, by omega⟩
    unfold K.fmtB at this
    simp only [Bool.or_eq_true, Bool.and_eq_true, beq_iff_eq, decide_eq_true_eq] at this
    rcases this with ((((((((((((h | h) | h) | h) | h) | h) | h) | h) | h) | h) | h) | h) | h)
    · exact .inl h
    all_goals
      obtain ⟨⟨a, b⟩, c⟩ := h
      simp only [a, b]
      simp
      omega
def K.ser (k : Nat) (i : K.Ins) : List Int := IntKind.wrap .u8 i.op :: K.wr k i
theorem K.ser_str (k : Nat) (i : K.Ins) : strOfNums [IntKind.wrap .u8 i.op] ++ strOfNums (K.wr k i) = strOfNums (K.ser k i) := K.app _ _
theorem K.u8_bd (n : Int) : 0 ≤ IntKind.wrap .u8 n ∧ IntKind.wrap .u8 n < 256 := by
  have e : IntKind.wrap .u8 n = n % 256 := rfl
  rw [e]; omega
theorem K.wr_bd (k : Nat) (hk : k < 11) (i : K.Ins) (hi : K.In i) : ∀ x ∈ K.wr k i, 0 ≤ x ∧ x < 256 := by
  obtain ⟨d0, d1, s0, s1, x0, x1, c0, c1, i0, i1⟩ := hi
  have hR : ∀ x ∈ K.p_Reg i, 0 ≤ x ∧ x < 256 := by intro x hx; simp [K.p_Reg] at hx; omega
  have hB : ∀ x ∈ K.p_Byte i, 0 ≤ x ∧ x < 256 := by intro x hx; simp [K.p_Byte] at hx; omega
  have hP : ∀ x ∈ K.p_Pair i, 0 ≤ x ∧ x < 256 := by intro x hx; simp [K.p_Pair] at hx; omega
  have hF : ∀ x ∈ K.p_Full i, 0 ≤ x ∧ x < 256 := by intro x hx; simp [K.p_Full] at hx; omega
  have hX : ∀ x ∈ K.p_Index i, 0 ≤ x ∧ x < 256 := by
    intro x hx; simp [K.p_Index] at hx; split at hx <;> omega
  have hA : ∀ {a b : List Int}, (∀ x ∈ a, 0 ≤ x ∧ x < 256) → (∀ x ∈ b, 0 ≤ x ∧ x < 256) → ∀ x ∈ a ++ b, 0 ≤ x ∧ x < 256 := fun ha hb x hx => (List.mem_append.1 hx).elim (ha x) (hb x)
  rcases (by omega : k = 0 ∨ k = 1 ∨ k = 2 ∨ k = 3 ∨ k = 4 ∨ k = 5 ∨ k = 6 ∨ k = 7 ∨ k = 8 ∨ k = 9 ∨ k = 10) with rfl | rfl | rfl | rfl | rfl | rfl | rfl | rfl | rfl | rfl | rfl
  · intro x hx; exact absurd hx (by show x ∉ ([] : List Int); simp)
  · exact hR
  · exact hP
  · exact hA hR hB
  · exact hA hR hF
  · exact hA hP hB
  · exact hA (hA hP hX) hF
  · exact hB
  · exact hF
  · exact hB
  · exact hP
theorem K.ser_bd (k : Nat) (hk : k < 11) (i : K.Ins) (hi : K.In i) : ∀ x ∈ K.ser k i, 0 ≤ x ∧ x < 256 := fun x hx => (List.mem_cons.1 hx).elim (fun e => e ▸ K.u8_bd _) (K.wr_bd k hk i hi x)
theorem K.byt_ser (k : Nat) (hk : k < 11) (i : K.Ins) (hi : K.In i) (j : Nat) : W.byt (strOfNums (K.ser k i)).data.toList j = (K.ser k i).getD j 0 := W.byt_nums _ j (K.ser_bd k hk i hi)
theorem K.v1_0 (i : K.Ins) (hop : 0 ≤ i.op ∧ i.op < 256) (hm : 0 ≤ i.imm ∧ i.imm < 4294967296) : K.valid1 0 i = true ↔ (i.sz = 1 ∧ K.rng i = true ∧ i.d = 0 ∧ i.s = 0 ∧ i.ix = -1 ∧ i.sc = 0 ∧ i.imm = 0) := by
  unfold K.valid1
  have hl : K.len 0 = 1 := rfl
  have hw : IntKind.wrap .u8 i.op = i.op := by show i.op % 256 = i.op; omega
  cases hq : ((i.sz != (K.len 0)) || (!(K.rng i))) with
  | true =>
    rw [hl] at hq
    simp at hq ⊢
    intro h1 h2; rcases hq with hq | hq
    · exact absurd h1 hq
    · rw [h2] at hq; cases hq
  | false =>
    have hi := K.in_of hm hq
    rw [hl] at hq
    simp at hq
    rw [cond_false, K.ser_str]
    have hb := K.byt_ser 0 (by decide) i hi
    have e : K.ser 0 i = [i.op] := by unfold K.ser; rw [hw]; rfl
    rw [e] at hb
    obtain ⟨d0, d1, s0, s1, x0, x1, c0, c1, i0, i1⟩ := hi
    rw [e]
    generalize (strOfNums _).data.toList = l at *
    have hb0 := hb 0
    have hb1 := hb 1
    have hb2 := hb 2
    have hb3 := hb 3
    have hb4 := hb 4
    have hb5 := hb 5
    have hb6 := hb 6
    simp at hb0 hb1 hb2 hb3 hb4 hb5 hb6
    simp [K.rd, K.i0, K.t_none, K.t_reg, K.t_pair, K.t_small, K.t_full, K.t_plain, K.t_index, K.four, hl, hb0, hb1, hb2, hb3, hb4, hb5, hb6, hq]
    omega
theorem K.v1_1 (i : K.Ins) (hop : 0 ≤ i.op ∧ i.op < 256) (hm : 0 ≤ i.imm ∧ i.imm < 4294967296) : K.valid1 1 i = true ↔ (i.sz = 2 ∧ K.rng i = true ∧ i.s = 0 ∧ i.ix = -1 ∧ i.sc = 0 ∧ i.imm = 0) := by
  unfold K.valid1
  have hl : K.len 1 = 2 := rfl
  have hw : IntKind.wrap .u8 i.op = i.op := by show i.op % 256 = i.op; omega
  cases hq : ((i.sz != (K.len 1)) || (!(K.rng i))) with
  | true =>
    rw [hl] at hq
    simp at hq ⊢
    intro h1 h2; rcases hq with hq | hq
    · exact absurd h1 hq
    · rw [h2] at hq; cases hq
  | false =>
    have hi := K.in_of hm hq
    rw [hl] at hq
    simp at hq
    rw [cond_false, K.ser_str]
    have hb := K.byt_ser 1 (by decide) i hi
    have e : K.ser 1 i = [i.op, i.d] := by unfold K.ser; rw [hw]; rfl
    rw [e] at hb
    obtain ⟨d0, d1, s0, s1, x0, x1, c0, c1, i0, i1⟩ := hi
    rw [e]
    generalize (strOfNums _).data.toList = l at *
    have hb0 := hb 0
    have hb1 := hb 1
    have hb2 := hb 2
    have hb3 := hb 3
    have hb4 := hb 4
    have hb5 := hb 5
    have hb6 := hb 6
    simp at hb0 hb1 hb2 hb3 hb4 hb5 hb6
    simp [K.rd, K.i0, K.t_none, K.t_reg, K.t_pair, K.t_small, K.t_full, K.t_plain, K.t_index, K.four, hl, hb0, hb1, hb2, hb3, hb4, hb5, hb6, hq]
    omega
theorem K.v1_2 (i : K.Ins) (hop : 0 ≤ i.op ∧ i.op < 256) (hm : 0 ≤ i.imm ∧ i.imm < 4294967296) : K.valid1 2 i = true ↔ (i.sz = 2 ∧ K.rng i = true ∧ i.ix = -1 ∧ i.sc = 0 ∧ i.imm = 0) := by
  unfold K.valid1
  have hl : K.len 2 = 2 := rfl
  have hw : IntKind.wrap .u8 i.op = i.op := by show i.op % 256 = i.op; omega
  cases hq : ((i.sz != (K.len 2)) || (!(K.rng i))) with
  | true =>
    rw [hl] at hq
    simp at hq ⊢
    intro h1 h2; rcases hq with hq | hq
    · exact absurd h1 hq
    · rw [h2] at hq; cases hq
  | false =>
    have hi := K.in_of hm hq
    rw [hl] at hq
    simp at hq
    rw [cond_false, K.ser_str]
    have hb := K.byt_ser 2 (by decide) i hi
    have e : K.ser 2 i = [i.op, i.d * 16 + i.s] := by unfold K.ser; rw [hw]; rfl
    rw [e] at hb
    obtain ⟨d0, d1, s0, s1, x0, x1, c0, c1, i0, i1⟩ := hi
    rw [e]
    generalize (strOfNums _).data.toList = l at *
    have hb0 := hb 0
    have hb1 := hb 1
    have hb2 := hb 2
    have hb3 := hb 3
    have hb4 := hb 4
    have hb5 := hb 5
    have hb6 := hb 6
    simp at hb0 hb1 hb2 hb3 hb4 hb5 hb6
    simp [K.rd, K.i0, K.t_none, K.t_reg, K.t_pair, K.t_small, K.t_full, K.t_plain, K.t_index, K.four, hl, hb0, hb1, hb2, hb3, hb4, hb5, hb6, hq]
    omega
theorem K.v1_3 (i : K.Ins) (hop : 0 ≤ i.op ∧ i.op < 256) (hm : 0 ≤ i.imm ∧ i.imm < 4294967296) : K.valid1 3 i = true ↔ (i.sz = 3 ∧ K.rng i = true ∧ i.s = 0 ∧ i.ix = -1 ∧ i.sc = 0 ∧ W.sign (i.imm % 256) 8 = i.imm) := by
  unfold K.valid1
  have hl : K.len 3 = 3 := rfl
  have hw : IntKind.wrap .u8 i.op = i.op := by show i.op % 256 = i.op; omega
  cases hq : ((i.sz != (K.len 3)) || (!(K.rng i))) with
  | true =>
    rw [hl] at hq
    simp at hq ⊢
    intro h1 h2; rcases hq with hq | hq
    · exact absurd h1 hq
    · rw [h2] at hq; cases hq
  | false =>
    have hi := K.in_of hm hq
    rw [hl] at hq
    simp at hq
    rw [cond_false, K.ser_str]
    have hb := K.byt_ser 3 (by decide) i hi
    have e : K.ser 3 i = [i.op, i.d, i.imm % 256] := by unfold K.ser; rw [hw]; rfl
    rw [e] at hb
    obtain ⟨d0, d1, s0, s1, x0, x1, c0, c1, i0, i1⟩ := hi
    rw [e]
    generalize (strOfNums _).data.toList = l at *
    have hb0 := hb 0
    have hb1 := hb 1
    have hb2 := hb 2
    have hb3 := hb 3
    have hb4 := hb 4
    have hb5 := hb 5
    have hb6 := hb 6
    simp at hb0 hb1 hb2 hb3 hb4 hb5 hb6
    simp [K.rd, K.i0, K.t_none, K.t_reg, K.t_pair, K.t_small, K.t_full, K.t_plain, K.t_index, K.four, hl, hb0, hb1, hb2, hb3, hb4, hb5, hb6, hq]
    omega
theorem K.v1_4 (i : K.Ins) (hop : 0 ≤ i.op ∧ i.op < 256) (hm : 0 ≤ i.imm ∧ i.imm < 4294967296) : K.valid1 4 i = true ↔ (i.sz = 6 ∧ K.rng i = true ∧ i.s = 0 ∧ i.ix = -1 ∧ i.sc = 0) := by
  unfold K.valid1
  have hl : K.len 4 = 6 := rfl
  have hw : IntKind.wrap .u8 i.op = i.op := by show i.op % 256 = i.op; omega
  cases hq : ((i.sz != (K.len 4)) || (!(K.rng i))) with
  | true =>
    rw [hl] at hq
    simp at hq ⊢
    intro h1 h2; rcases hq with hq | hq
    · exact absurd h1 hq
    · rw [h2] at hq; cases hq
  | false =>
    have hi := K.in_of hm hq
    rw [hl] at hq
    simp at hq
    rw [cond_false, K.ser_str]
    have hb := K.byt_ser 4 (by decide) i hi
    have e : K.ser 4 i = [i.op, i.d, i.imm % 256, i.imm / 256 % 256, i.imm / 65536 % 256, i.imm / 16777216 % 256] := by unfold K.ser; rw [hw]; rfl
    rw [e] at hb
    obtain ⟨d0, d1, s0, s1, x0, x1, c0, c1, i0, i1⟩ := hi
    rw [e]
    generalize (strOfNums _).data.toList = l at *
    have hb0 := hb 0
    have hb1 := hb 1
    have hb2 := hb 2
    have hb3 := hb 3
    have hb4 := hb 4
    have hb5 := hb 5
    have hb6 := hb 6
    simp at hb0 hb1 hb2 hb3 hb4 hb5 hb6
    simp [K.rd, K.i0, K.t_none, K.t_reg, K.t_pair, K.t_small, K.t_full, K.t_plain, K.t_index, K.four, hl, hb0, hb1, hb2, hb3, hb4, hb5, hb6, hq]
    omega
theorem K.v1_5 (i : K.Ins) (hop : 0 ≤ i.op ∧ i.op < 256) (hm : 0 ≤ i.imm ∧ i.imm < 4294967296) : K.valid1 5 i = true ↔ (i.sz = 3 ∧ K.rng i = true ∧ i.ix = -1 ∧ i.sc = 0 ∧ W.sign (i.imm % 256) 8 = i.imm) := by
  unfold K.valid1
  have hl : K.len 5 = 3 := rfl
  have hw : IntKind.wrap .u8 i.op = i.op := by show i.op % 256 = i.op; omega
  cases hq : ((i.sz != (K.len 5)) || (!(K.rng i))) with
  | true =>
    rw [hl] at hq
    simp at hq ⊢
    intro h1 h2; rcases hq with hq | hq
    · exact absurd h1 hq
    · rw [h2] at hq; cases hq
  | false =>
    have hi := K.in_of hm hq
    rw [hl] at hq
    simp at hq
    rw [cond_false, K.ser_str]
    have hb := K.byt_ser 5 (by decide) i hi
    have e : K.ser 5 i = [i.op, i.d * 16 + i.s, i.imm % 256] := by unfold K.ser; rw [hw]; rfl
    rw [e] at hb
    obtain ⟨d0, d1, s0, s1, x0, x1, c0, c1, i0, i1⟩ := hi
    rw [e]
    generalize (strOfNums _).data.toList = l at *
    have hb0 := hb 0
    have hb1 := hb 1
    have hb2 := hb 2
    have hb3 := hb 3
    have hb4 := hb 4
    have hb5 := hb 5
    have hb6 := hb 6
    simp at hb0 hb1 hb2 hb3 hb4 hb5 hb6
    simp [K.rd, K.i0, K.t_none, K.t_reg, K.t_pair, K.t_small, K.t_full, K.t_plain, K.t_index, K.four, hl, hb0, hb1, hb2, hb3, hb4, hb5, hb6, hq]
    omega
theorem K.v1_6 (i : K.Ins) (hop : 0 ≤ i.op ∧ i.op < 256) (hm : 0 ≤ i.imm ∧ i.imm < 4294967296) : K.valid1 6 i = true ↔ (i.sz = 7 ∧ K.rng i = true ∧ (i.ix = -1 → i.sc = 0)) := by
  unfold K.valid1
  have hl : K.len 6 = 7 := rfl
  have hw : IntKind.wrap .u8 i.op = i.op := by show i.op % 256 = i.op; omega
  cases hq : ((i.sz != (K.len 6)) || (!(K.rng i))) with
  | true =>
    rw [hl] at hq
    simp at hq ⊢
    intro h1 h2; rcases hq with hq | hq
    · exact absurd h1 hq
    · rw [h2] at hq; cases hq
  | false =>
    have hi := K.in_of hm hq
    rw [hl] at hq
    simp at hq
    rw [cond_false, K.ser_str]
    have hb := K.byt_ser 6 (by decide) i hi
    have e : K.ser 6 i = [i.op, i.d * 16 + i.s, if i.ix < 0 then 8 else i.sc * 16 + i.ix, i.imm % 256, i.imm / 256 % 256, i.imm / 65536 % 256, i.imm / 16777216 % 256] := by unfold K.ser; rw [hw]; rfl
    rw [e] at hb
    obtain ⟨d0, d1, s0, s1, x0, x1, c0, c1, i0, i1⟩ := hi
    rw [e]
    generalize (strOfNums _).data.toList = l at *
    have hb0 := hb 0
    have hb1 := hb 1
    have hb2 := hb 2
    have hb3 := hb 3
    have hb4 := hb 4
    have hb5 := hb 5
    have hb6 := hb 6
    simp at hb0 hb1 hb2 hb3 hb4 hb5 hb6
    by_cases hx : i.ix < 0
    · rw [if_pos hx] at hb2
      have hx' : i.ix = -1 := by omega
      simp [K.rd, K.i0, K.t_none, K.t_reg, K.t_pair, K.t_small, K.t_full, K.t_plain, K.t_index, K.four, hl, hb0, hb1, hb2, hb3, hb4, hb5, hb6, hq]
      omega
    · rw [if_neg hx] at hb2
      have h8 : ¬ (i.sc * 16 + i.ix = 8) := by omega
      simp [K.rd, K.i0, K.t_none, K.t_reg, K.t_pair, K.t_small, K.t_full, K.t_plain, K.t_index, K.four, hl, hb0, hb1, hb2, hb3, hb4, hb5, hb6, hq, h8]
      omega
theorem K.v1_7 (i : K.Ins) (hop : 0 ≤ i.op ∧ i.op < 256) (hm : 0 ≤ i.imm ∧ i.imm < 4294967296) : K.valid1 7 i = true ↔ (i.sz = 2 ∧ K.rng i = true ∧ i.d = 0 ∧ i.s = 0 ∧ i.ix = -1 ∧ i.sc = 0 ∧ W.sign (i.imm % 256) 8 = i.imm) := by
  unfold K.valid1
  have hl : K.len 7 = 2 := rfl
  have hw : IntKind.wrap .u8 i.op = i.op := by show i.op % 256 = i.op; omega
  cases hq : ((i.sz != (K.len 7)) || (!(K.rng i))) with
  | true =>
    rw [hl] at hq
    simp at hq ⊢
    intro h1 h2; rcases hq with hq | hq
    · exact absurd h1 hq
    · rw [h2] at hq; cases hq
  | false =>
    have hi := K.in_of hm hq
    rw [hl] at hq
    simp at hq
    rw [cond_false, K.ser_str]
    have hb := K.byt_ser 7 (by decide) i hi
    have e : K.ser 7 i = [i.op, i.imm % 256] := by unfold K.ser; rw [hw]; rfl
    rw [e] at hb
    obtain ⟨d0, d1, s0, s1, x0, x1, c0, c1, i0, i1⟩ := hi
    rw [e]
    generalize (strOfNums _).data.toList = l at *
    have hb0 := hb 0
    have hb1 := hb 1
    have hb2 := hb 2
    have hb3 := hb 3
    have hb4 := hb 4
    have hb5 := hb 5
    have hb6 := hb 6
    simp at hb0 hb1 hb2 hb3 hb4 hb5 hb6
    simp [K.rd, K.i0, K.t_none, K.t_reg, K.t_pair, K.t_small, K.t_full, K.t_plain, K.t_index, K.four, hl, hb0, hb1, hb2, hb3, hb4, hb5, hb6, hq]
    omega
theorem K.v1_8 (i : K.Ins) (hop : 0 ≤ i.op ∧ i.op < 256) (hm : 0 ≤ i.imm ∧ i.imm < 4294967296) : K.valid1 8 i = true ↔ (i.sz = 5 ∧ K.rng i = true ∧ i.d = 0 ∧ i.s = 0 ∧ i.ix = -1 ∧ i.sc = 0) := by
  unfold K.valid1
  have hl : K.len 8 = 5 := rfl
  have hw : IntKind.wrap .u8 i.op = i.op := by show i.op % 256 = i.op; omega
  cases hq : ((i.sz != (K.len 8)) || (!(K.rng i))) with
  | true =>
    rw [hl] at hq
    simp at hq ⊢
    intro h1 h2; rcases hq with hq | hq
    · exact absurd h1 hq
    · rw [h2] at hq; cases hq
  | false =>
    have hi := K.in_of hm hq
    rw [hl] at hq
    simp at hq
    rw [cond_false, K.ser_str]
    have hb := K.byt_ser 8 (by decide) i hi
    have e : K.ser 8 i = [i.op, i.imm % 256, i.imm / 256 % 256, i.imm / 65536 % 256, i.imm / 16777216 % 256] := by unfold K.ser; rw [hw]; rfl
    rw [e] at hb
    obtain ⟨d0, d1, s0, s1, x0, x1, c0, c1, i0, i1⟩ := hi
    rw [e]
    generalize (strOfNums _).data.toList = l at *
    have hb0 := hb 0
    have hb1 := hb 1
    have hb2 := hb 2
    have hb3 := hb 3
    have hb4 := hb 4
    have hb5 := hb 5
    have hb6 := hb 6
    simp at hb0 hb1 hb2 hb3 hb4 hb5 hb6
    simp [K.rd, K.i0, K.t_none, K.t_reg, K.t_pair, K.t_small, K.t_full, K.t_plain, K.t_index, K.four, hl, hb0, hb1, hb2, hb3, hb4, hb5, hb6, hq]
    omega
theorem K.v1_9 (i : K.Ins) (hop : 0 ≤ i.op ∧ i.op < 256) (hm : 0 ≤ i.imm ∧ i.imm < 4294967296) : K.valid1 9 i = true ↔ (i.sz = 2 ∧ K.rng i = true ∧ i.d = 0 ∧ i.s = 0 ∧ i.ix = -1 ∧ i.sc = 0 ∧ i.imm < 256) := by
  unfold K.valid1
  have hl : K.len 9 = 2 := rfl
  have hw : IntKind.wrap .u8 i.op = i.op := by show i.op % 256 = i.op; omega
  cases hq : ((i.sz != (K.len 9)) || (!(K.rng i))) with
  | true =>
    rw [hl] at hq
    simp at hq ⊢
    intro h1 h2; rcases hq with hq | hq
    · exact absurd h1 hq
    · rw [h2] at hq; cases hq
  | false =>
    have hi := K.in_of hm hq
    rw [hl] at hq
    simp at hq
    rw [cond_false, K.ser_str]
    have hb := K.byt_ser 9 (by decide) i hi
    have e : K.ser 9 i = [i.op, i.imm % 256] := by unfold K.ser; rw [hw]; rfl
    rw [e] at hb
    obtain ⟨d0, d1, s0, s1, x0, x1, c0, c1, i0, i1⟩ := hi
    rw [e]
    generalize (strOfNums _).data.toList = l at *
    have hb0 := hb 0
    have hb1 := hb 1
    have hb2 := hb 2
    have hb3 := hb 3
    have hb4 := hb 4
    have hb5 := hb 5
    have hb6 := hb 6
    simp at hb0 hb1 hb2 hb3 hb4 hb5 hb6
    simp [K.rd, K.i0, K.t_none, K.t_reg, K.t_pair, K.t_small, K.t_full, K.t_plain, K.t_index, K.four, hl, hb0, hb1, hb2, hb3, hb4, hb5, hb6, hq]
    omega
theorem K.v1_10 (i : K.Ins) (hop : 0 ≤ i.op ∧ i.op < 256) (hm : 0 ≤ i.imm ∧ i.imm < 4294967296) : K.valid1 10 i = true ↔ (i.sz = 2 ∧ K.rng i = true ∧ i.ix = -1 ∧ i.sc = 0 ∧ i.imm = 0) := by
  unfold K.valid1
  have hl : K.len 10 = 2 := rfl
  have hw : IntKind.wrap .u8 i.op = i.op := by show i.op % 256 = i.op; omega
  cases hq : ((i.sz != (K.len 10)) || (!(K.rng i))) with
  | true =>
    rw [hl] at hq
    simp at hq ⊢
    intro h1 h2; rcases hq with hq | hq
    · exact absurd h1 hq
    · rw [h2] at hq; cases hq
  | false =>
    have hi := K.in_of hm hq
    rw [hl] at hq
    simp at hq
    rw [cond_false, K.ser_str]
    have hb := K.byt_ser 10 (by decide) i hi
    have e : K.ser 10 i = [i.op, i.d * 16 + i.s] := by unfold K.ser; rw [hw]; rfl
    rw [e] at hb
    obtain ⟨d0, d1, s0, s1, x0, x1, c0, c1, i0, i1⟩ := hi
    rw [e]
    generalize (strOfNums _).data.toList = l at *
    have hb0 := hb 0
    have hb1 := hb 1
    have hb2 := hb 2
    have hb3 := hb 3
    have hb4 := hb 4
    have hb5 := hb 5
    have hb6 := hb 6
    simp at hb0 hb1 hb2 hb3 hb4 hb5 hb6
    simp [K.rd, K.i0, K.t_none, K.t_reg, K.t_pair, K.t_small, K.t_full, K.t_plain, K.t_index, K.four, hl, hb0, hb1, hb2, hb3, hb4, hb5, hb6, hq]
    omega
theorem K.sign8F : ∀ n : Fin 256, W.sign (n.val : Int) 8 = if n.val < 128 then (n.val : Int) else n.val + 4294967040 := by decide +kernel
theorem K.sign8 (b : Int) (h0 : 0 ≤ b) (h1 : b < 256) : W.sign b 8 = if b < 128 then b else b + 4294967040 := by
  obtain ⟨n, rfl⟩ := Int.eq_ofNat_of_zero_le h0
  have := K.sign8F ⟨n, by omega⟩
  simp only at this
  rw [this]
  by_cases h : n < 128
  · rw [if_pos h, if_pos (by omega)]
  · rw [if_neg h, if_neg (by omega)]
theorem K.sign_iff (n : Int) (h0 : 0 ≤ n) (h1 : n < 4294967296) : W.sign (n % 256) 8 = n ↔ R2.signed n = true := by
  rw [K.sign8 _ (by omega) (by omega)]
  unfold R2.signed
  simp only [Bool.or_eq_true, decide_eq_true_eq]
  split <;> omega
theorem K.w8 (n : Int) (h0 : 0 ≤ n) (h1 : n < 256) : IntKind.wrap .u8 n = n := by show n % 256 = n; omega
theorem K.w64 (n : Int) (h0 : -9223372036854775808 ≤ n) (h1 : n < 9223372036854775808) : IntKind.wrap .i64 n = n := IntWalk.i64_in n (by omega)
theorem K.valid_eq (i : K.Ins) (hm : 0 ≤ i.imm ∧ i.imm < 4294967296) : K.valid i = R2.Valid i := by
  rw [Bool.eq_iff_iff]
  have hsg := K.sign_iff i.imm hm.1 hm.2
  unfold K.valid
  rcases K.fmt_cases i.op with ⟨hk, hf⟩ | ⟨hk, hf, h1, h2⟩ | ⟨hk, hf, h1, h2⟩ | ⟨hk, hf, h1, h2⟩ | ⟨hk, hf, h1, h2⟩ | ⟨hk, hf, h1, h2⟩ | ⟨hk, hf, h1, h2⟩ | ⟨hk, hf, h1, h2⟩ | ⟨hk, hf, h1, h2⟩ | ⟨hk, hf, h1, h2⟩ | ⟨hk, hf, h1⟩ | ⟨hk, hf, h1⟩ | ⟨hk, hf, h1⟩
  · rw [hk]; unfold R2.Valid; rw [hf]; simp
  · rw [hk]
    have e1 := K.w8 i.op (by omega) (by omega)
    have e2 := K.w64 i.op (by omega) (by omega)
    have hz : R2.Size (IntKind.wrap .u8 i.op) = 1 := by unfold R2.Size; rw [e1, e2, hf]; rfl
    have hmo : K.most i.op = 7 := by unfold K.most; rw [if_neg (by omega), if_neg (by omega)]
    show K.valid1 0 i = true ↔ _
    rw [K.v1_0 i ⟨by omega, by omega⟩ hm]
    unfold K.rng R2.Valid R2.reg
    rw [hf, hz, hmo]
    simp only [K.in_one, hsg]
    cases R2.signed i.imm <;> simp <;> omega
  · rw [hk]
    have e1 := K.w8 i.op (by omega) (by omega)
    have e2 := K.w64 i.op (by omega) (by omega)
    have hz : R2.Size (IntKind.wrap .u8 i.op) = 2 := by unfold R2.Size; rw [e1, e2, hf]; rfl
    have hmo : K.most i.op = 7 := by unfold K.most; rw [if_neg (by omega), if_neg (by omega)]
    show K.valid1 1 i = true ↔ _
    rw [K.v1_1 i ⟨by omega, by omega⟩ hm]
    unfold K.rng R2.Valid R2.reg
    rw [hf, hz, hmo]
    simp only [K.in_one, hsg]
    cases R2.signed i.imm <;> simp <;> omega
  · rw [hk]
    have e1 := K.w8 i.op (by omega) (by omega)
    have e2 := K.w64 i.op (by omega) (by omega)
    have hz : R2.Size (IntKind.wrap .u8 i.op) = 2 := by unfold R2.Size; rw [e1, e2, hf]; rfl
    have hmo : K.most i.op = 7 := by unfold K.most; rw [if_neg (by omega), if_neg (by omega)]
    show K.valid1 2 i = true ↔ _
    rw [K.v1_2 i ⟨by omega, by omega⟩ hm]
    unfold K.rng R2.Valid R2.reg
    rw [hf, hz, hmo]
    simp only [K.in_one, hsg]
    cases R2.signed i.imm <;> simp <;> omega
  · rw [hk]
    have e1 := K.w8 i.op (by omega) (by omega)
    have e2 := K.w64 i.op (by omega) (by omega)
    have hz : R2.Size (IntKind.wrap .u8 i.op) = 3 := by unfold R2.Size; rw [e1, e2, hf]; rfl
    have hmo : K.most i.op = 7 := by unfold K.most; rw [if_neg (by omega), if_neg (by omega)]
    show K.valid1 3 i = true ↔ _
    rw [K.v1_3 i ⟨by omega, by omega⟩ hm]
    unfold K.rng R2.Valid R2.reg
    rw [hf, hz, hmo]
    simp only [K.in_one, hsg]
    cases R2.signed i.imm <;> simp <;> omega
  · rw [hk]
    have e1 := K.w8 i.op (by omega) (by omega)
    have e2 := K.w64 i.op (by omega) (by omega)
    have hz : R2.Size (IntKind.wrap .u8 i.op) = 6 := by unfold R2.Size; rw [e1, e2, hf]; rfl
    have hmo : K.most i.op = 7 := by unfold K.most; rw [if_neg (by omega), if_neg (by omega)]
    show K.valid1 4 i = true ↔ _
    rw [K.v1_4 i ⟨by omega, by omega⟩ hm]
    unfold K.rng R2.Valid R2.reg
    rw [hf, hz, hmo]
    simp only [K.in_one, hsg]
    cases R2.signed i.imm <;> simp <;> omega
  · rw [hk]
    have e1 := K.w8 i.op (by omega) (by omega)
    have e2 := K.w64 i.op (by omega) (by omega)
    have hz : R2.Size (IntKind.wrap .u8 i.op) = 3 := by unfold R2.Size; rw [e1, e2, hf]; rfl
    have hmo : K.most i.op = 7 := by unfold K.most; rw [if_neg (by omega), if_neg (by omega)]
    show K.valid1 5 i = true ↔ _
    rw [K.v1_5 i ⟨by omega, by omega⟩ hm]
    unfold K.rng R2.Valid R2.reg
    rw [hf, hz, hmo]
    simp only [K.in_one, hsg]
    cases R2.signed i.imm <;> simp <;> omega
  · rw [hk]
    have e1 := K.w8 i.op (by omega) (by omega)
    have e2 := K.w64 i.op (by omega) (by omega)
    have hz : R2.Size (IntKind.wrap .u8 i.op) = 7 := by unfold R2.Size; rw [e1, e2, hf]; rfl
    have hmo : K.most i.op = 7 := by unfold K.most; rw [if_neg (by omega), if_neg (by omega)]
    show K.valid1 6 i = true ↔ _
    rw [K.v1_6 i ⟨by omega, by omega⟩ hm]
    unfold K.rng R2.Valid R2.reg
    rw [hf, hz, hmo]
    simp only [K.in_one, hsg]
    by_cases hx : i.ix = -1
    · simp [hx]; omega
    · simp [hx]; omega
  · rw [hk]
    have e1 := K.w8 i.op (by omega) (by omega)
    have e2 := K.w64 i.op (by omega) (by omega)
    have hz : R2.Size (IntKind.wrap .u8 i.op) = 2 := by unfold R2.Size; rw [e1, e2, hf]; rfl
    have hmo : K.most i.op = 7 := by unfold K.most; rw [if_neg (by omega), if_neg (by omega)]
    show K.valid1 7 i = true ↔ _
    rw [K.v1_7 i ⟨by omega, by omega⟩ hm]
    unfold K.rng R2.Valid R2.reg
    rw [hf, hz, hmo]
    simp only [K.in_one, hsg]
    cases R2.signed i.imm <;> simp <;> omega
  · rw [hk]
    have e1 := K.w8 i.op (by omega) (by omega)
    have e2 := K.w64 i.op (by omega) (by omega)
    have hz : R2.Size (IntKind.wrap .u8 i.op) = 5 := by unfold R2.Size; rw [e1, e2, hf]; rfl
    have hmo : K.most i.op = 7 := by unfold K.most; rw [if_neg (by omega), if_neg (by omega)]
    show K.valid1 8 i = true ↔ _
    rw [K.v1_8 i ⟨by omega, by omega⟩ hm]
    unfold K.rng R2.Valid R2.reg
    rw [hf, hz, hmo]
    simp only [K.in_one, hsg]
    cases R2.signed i.imm <;> simp <;> omega
  · rw [hk]
    have e1 := K.w8 i.op (by omega) (by omega)
    have e2 := K.w64 i.op (by omega) (by omega)
    have hz : R2.Size (IntKind.wrap .u8 i.op) = 2 := by unfold R2.Size; rw [e1, e2, hf]; rfl
    have hmo : K.most i.op = 7 := by unfold K.most; rw [if_neg (by omega), if_neg (by omega)]
    show K.valid1 9 i = true ↔ _
    rw [K.v1_9 i ⟨by omega, by omega⟩ hm]
    unfold K.rng R2.Valid R2.reg
    rw [hf, hz, hmo]
    simp only [K.in_one, hsg]
    cases R2.signed i.imm <;> simp <;> omega
  · rw [hk]
    have e1 := K.w8 i.op (by omega) (by omega)
    have e2 := K.w64 i.op (by omega) (by omega)
    have hz : R2.Size (IntKind.wrap .u8 i.op) = 2 := by unfold R2.Size; rw [e1, e2, hf]; rfl
    have hmo : K.most i.op = 3 := by unfold K.most; rw [if_pos h1]
    show K.valid1 10 i = true ↔ _
    rw [K.v1_10 i ⟨by omega, by omega⟩ hm]
    unfold K.rng R2.Valid R2.reg
    rw [hf, hz, hmo]
    simp only [K.in_one, hsg]
    cases R2.signed i.imm <;> simp <;> omega
  · rw [hk]
    have e1 := K.w8 i.op (by omega) (by omega)
    have e2 := K.w64 i.op (by omega) (by omega)
    have hz : R2.Size (IntKind.wrap .u8 i.op) = 2 := by unfold R2.Size; rw [e1, e2, hf]; rfl
    have hmo : K.most i.op = 4 := by unfold K.most; rw [if_neg (by omega), if_pos h1]
    show K.valid1 10 i = true ↔ _
    rw [K.v1_10 i ⟨by omega, by omega⟩ hm]
    unfold K.rng R2.Valid R2.reg
    rw [hf, hz, hmo]
    simp only [K.in_one, hsg]
    cases R2.signed i.imm <;> simp <;> omega
theorem K.wu32 (n : Int) : IntKind.wrap .u32 n = n % 4294967296 := rfl
theorem K.size_eq (x : Int) (h0 : 0 ≤ x) (h1 : x < 256) : K.size x = R2.Size x := by
  unfold K.size R2.Size
  rcases K.fmt_cases (IntKind.wrap .i64 x) with ⟨hk, hf⟩ | ⟨hk, hf, h1, h2⟩ | ⟨hk, hf, h1, h2⟩ | ⟨hk, hf, h1, h2⟩ | ⟨hk, hf, h1, h2⟩ | ⟨hk, hf, h1, h2⟩ | ⟨hk, hf, h1, h2⟩ | ⟨hk, hf, h1, h2⟩ | ⟨hk, hf, h1, h2⟩ | ⟨hk, hf, h1, h2⟩ | ⟨hk, hf, h1⟩ | ⟨hk, hf, h1⟩ | ⟨hk, hf, h1⟩ <;> rw [hk, hf] <;> rfl
theorem R2.byt_from (s : ByteArray) (m j : Nat) (hm : m ≤ s.size) : W.byt (s.extract m s.size).data.toList j = W.byt s.data.toList (m + j) := by
  unfold W.byt
  congr 2
  have e : (s.extract m s.size).data.toList = s.data.toList.drop m := by
    rw [ByteArray.data_extract, Array.toList_extract]
    have : s.size = s.data.toList.length := by rw [Array.length_toList]; rfl
    rw [this, List.extract_eq_take_drop]
    rw [List.take_of_length_le (by simp)]
  rw [e]; simp [List.getD, List.getElem?_drop]
theorem R2.extend_eq (x : Int) (h0 : 0 ≤ x) (h1 : x < 256) : R2.extend x = W.sign x 8 := by
  rw [K.sign8 x h0 h1]
  unfold R2.extend
  simp only [K.wu32, Bool.cond_eq_ite, decide_eq_true_eq]
  split <;> split <;> omega
theorem R2.long_eq (s : ByteArray) (m : Nat) (hm : m + 4 ≤ s.size) : R2.long (s.extract m s.size) = K.four s.data.toList m := by
  unfold R2.long K.four
  have b0 := W.byt_bd s.data.toList m
  have b1 := W.byt_bd s.data.toList (m + 1)
  have b2 := W.byt_bd s.data.toList (m + 2)
  have b3 := W.byt_bd s.data.toList (m + 3)
  simp only [R2.byt_from s m _ (by omega : m ≤ s.size), K.wu32, Nat.add_zero]
  omega
theorem K.wb (l : List UInt8) (n : Nat) : IntKind.wrap .i64 (W.byt l n) = W.byt l n := K.w64 _ (by have := W.byt_bd l n; omega) (by have := W.byt_bd l n; omega)
theorem K.wb2 (l : List UInt8) (n : Nat) : IntKind.wrap .i64 (W.byt l n / 16) = W.byt l n / 16 := K.w64 _ (by have := W.byt_bd l n; omega) (by have := W.byt_bd l n; omega)
theorem K.tdb (l : List UInt8) (n : Nat) : Int.tdiv (W.byt l n) 16 = W.byt l n / 16 := Int.tdiv_eq_ediv_of_nonneg (W.byt_bd l n).1
theorem K.tmb (l : List UInt8) (n : Nat) : Int.tmod (W.byt l n) 16 = W.byt l n % 16 := Int.tmod_eq_emod_of_nonneg (W.byt_bd l n).1
theorem K.exb (l : List UInt8) (n : Nat) : R2.extend (W.byt l n) = W.sign (W.byt l n) 8 := R2.extend_eq _ (W.byt_bd l n).1 (W.byt_bd l n).2
theorem K.read_1 (s : ByteArray) (hs : s.size = 1) (hf : R2.Format (W.byt s.data.toList 0) = 1) : R2.read s = K.rd 0 s.data.toList 1 := by
  have hd : decide (((s.size : Nat) : Int) > 1) = false := by simp; omega
  unfold R2.read
  simp only [K.wb, K.wb2, K.tdb, K.tmb, K.exb, hf, hd]
  rw [show ((s.size : Nat) : Int) = 1 by omega]
  have hb : W.byt s.data.toList 1 % 4294967296 = W.byt s.data.toList 1 := by have := W.byt_bd s.data.toList 1; omega
  simp [K.rd, K.t_none, K.t_reg, K.t_pair, K.t_small, K.t_full, K.t_plain, K.i0, K.wu32, hb]
theorem K.read_2 (s : ByteArray) (hs : s.size = 2) (hf : R2.Format (W.byt s.data.toList 0) = 2) : R2.read s = K.rd 1 s.data.toList 2 := by
  have hd : decide (((s.size : Nat) : Int) > 1) = true := by simp; omega
  unfold R2.read
  simp only [K.wb, K.wb2, K.tdb, K.tmb, K.exb, hf, hd]
  rw [show ((s.size : Nat) : Int) = 2 by omega]
  have hb : W.byt s.data.toList 1 % 4294967296 = W.byt s.data.toList 1 := by have := W.byt_bd s.data.toList 1; omega
  simp [K.rd, K.t_none, K.t_reg, K.t_pair, K.t_small, K.t_full, K.t_plain, K.i0, K.wu32, hb]
theorem K.read_3 (s : ByteArray) (hs : s.size = 2) (hf : R2.Format (W.byt s.data.toList 0) = 3) : R2.read s = K.rd 2 s.data.toList 2 := by
  have hd : decide (((s.size : Nat) : Int) > 1) = true := by simp; omega
  unfold R2.read
  simp only [K.wb, K.wb2, K.tdb, K.tmb, K.exb, hf, hd]
  rw [show ((s.size : Nat) : Int) = 2 by omega]
  have hb : W.byt s.data.toList 1 % 4294967296 = W.byt s.data.toList 1 := by have := W.byt_bd s.data.toList 1; omega
  simp [K.rd, K.t_none, K.t_reg, K.t_pair, K.t_small, K.t_full, K.t_plain, K.i0, K.wu32, hb]
theorem K.read_4 (s : ByteArray) (hs : s.size = 3) (hf : R2.Format (W.byt s.data.toList 0) = 4) : R2.read s = K.rd 3 s.data.toList 3 := by
  have hd : decide (((s.size : Nat) : Int) > 1) = true := by simp; omega
  unfold R2.read
  simp only [K.wb, K.wb2, K.tdb, K.tmb, K.exb, hf, hd]
  rw [show ((s.size : Nat) : Int) = 3 by omega]
  have hb : W.byt s.data.toList 1 % 4294967296 = W.byt s.data.toList 1 := by have := W.byt_bd s.data.toList 1; omega
  simp [K.rd, K.t_none, K.t_reg, K.t_pair, K.t_small, K.t_full, K.t_plain, K.i0, K.wu32, hb]
theorem K.read_5 (s : ByteArray) (hs : s.size = 6) (hf : R2.Format (W.byt s.data.toList 0) = 5) : R2.read s = K.rd 4 s.data.toList 6 := by
  have hd : decide (((s.size : Nat) : Int) > 1) = true := by simp; omega
  unfold R2.read
  simp only [K.wb, K.wb2, K.tdb, K.tmb, K.exb, hf, hd, R2.long_eq s 2 (by omega)]
  rw [show ((s.size : Nat) : Int) = 6 by omega]
  have hb : W.byt s.data.toList 1 % 4294967296 = W.byt s.data.toList 1 := by have := W.byt_bd s.data.toList 1; omega
  simp [K.rd, K.t_none, K.t_reg, K.t_pair, K.t_small, K.t_full, K.t_plain, K.i0, K.wu32, hb]
theorem K.read_6 (s : ByteArray) (hs : s.size = 3) (hf : R2.Format (W.byt s.data.toList 0) = 6) : R2.read s = K.rd 5 s.data.toList 3 := by
  have hd : decide (((s.size : Nat) : Int) > 1) = true := by simp; omega
  unfold R2.read
  simp only [K.wb, K.wb2, K.tdb, K.tmb, K.exb, hf, hd]
  rw [show ((s.size : Nat) : Int) = 3 by omega]
  have hb : W.byt s.data.toList 1 % 4294967296 = W.byt s.data.toList 1 := by have := W.byt_bd s.data.toList 1; omega
  simp [K.rd, K.t_none, K.t_reg, K.t_pair, K.t_small, K.t_full, K.t_plain, K.i0, K.wu32, hb]
theorem K.read_7 (s : ByteArray) (hs : s.size = 7) (hf : R2.Format (W.byt s.data.toList 0) = 7) : R2.read s = K.rd 6 s.data.toList 7 := by
  have hd : decide (((s.size : Nat) : Int) > 1) = true := by simp; omega
  unfold R2.read
  simp only [K.wb, K.wb2, K.tdb, K.tmb, K.exb, hf, hd, R2.long_eq s 3 (by omega)]
  rw [show ((s.size : Nat) : Int) = 7 by omega]
  cases h8 : (W.byt s.data.toList 2 != 8) with
  | true =>
    have h8' : ¬ W.byt s.data.toList 2 = 8 := by simpa using h8
    simp [K.rd, K.t_full, K.t_index, K.t_pair, K.i0, h8']
  | false =>
    have h8' : W.byt s.data.toList 2 = 8 := by simpa using h8
    simp [K.rd, K.t_full, K.t_index, K.t_pair, K.i0, h8']
theorem K.read_8 (s : ByteArray) (hs : s.size = 2) (hf : R2.Format (W.byt s.data.toList 0) = 8) : R2.read s = K.rd 7 s.data.toList 2 := by
  have hd : decide (((s.size : Nat) : Int) > 1) = true := by simp; omega
  unfold R2.read
  simp only [K.wb, K.wb2, K.tdb, K.tmb, K.exb, hf, hd]
  rw [show ((s.size : Nat) : Int) = 2 by omega]
  have hb : W.byt s.data.toList 1 % 4294967296 = W.byt s.data.toList 1 := by have := W.byt_bd s.data.toList 1; omega
  simp [K.rd, K.t_none, K.t_reg, K.t_pair, K.t_small, K.t_full, K.t_plain, K.i0, K.wu32, hb]
theorem K.read_9 (s : ByteArray) (hs : s.size = 5) (hf : R2.Format (W.byt s.data.toList 0) = 9) : R2.read s = K.rd 8 s.data.toList 5 := by
  have hd : decide (((s.size : Nat) : Int) > 1) = true := by simp; omega
  unfold R2.read
  simp only [K.wb, K.wb2, K.tdb, K.tmb, K.exb, hf, hd, R2.long_eq s 1 (by omega)]
  rw [show ((s.size : Nat) : Int) = 5 by omega]
  have hb : W.byt s.data.toList 1 % 4294967296 = W.byt s.data.toList 1 := by have := W.byt_bd s.data.toList 1; omega
  simp [K.rd, K.t_none, K.t_reg, K.t_pair, K.t_small, K.t_full, K.t_plain, K.i0, K.wu32, hb]
theorem K.read_10 (s : ByteArray) (hs : s.size = 2) (hf : R2.Format (W.byt s.data.toList 0) = 10) : R2.read s = K.rd 9 s.data.toList 2 := by
  have hd : decide (((s.size : Nat) : Int) > 1) = true := by simp; omega
  unfold R2.read
  simp only [K.wb, K.wb2, K.tdb, K.tmb, K.exb, hf, hd]
  rw [show ((s.size : Nat) : Int) = 2 by omega]
  have hb : W.byt s.data.toList 1 % 4294967296 = W.byt s.data.toList 1 := by have := W.byt_bd s.data.toList 1; omega
  simp [K.rd, K.t_none, K.t_reg, K.t_pair, K.t_small, K.t_full, K.t_plain, K.i0, K.wu32, hb]
theorem K.read_11 (s : ByteArray) (hs : s.size = 2) (hf : R2.Format (W.byt s.data.toList 0) = 11) : R2.read s = K.rd 10 s.data.toList 2 := by
  have hd : decide (((s.size : Nat) : Int) > 1) = true := by simp; omega
  unfold R2.read
  simp only [K.wb, K.wb2, K.tdb, K.tmb, K.exb, hf, hd]
  rw [show ((s.size : Nat) : Int) = 2 by omega]
  have hb : W.byt s.data.toList 1 % 4294967296 = W.byt s.data.toList 1 := by have := W.byt_bd s.data.toList 1; omega
  simp [K.rd, K.t_none, K.t_reg, K.t_pair, K.t_small, K.t_full, K.t_plain, K.i0, K.wu32, hb]
theorem K.read_12 (s : ByteArray) (hs : s.size = 2) (hf : R2.Format (W.byt s.data.toList 0) = 12) : R2.read s = K.rd 10 s.data.toList 2 := by
  have hd : decide (((s.size : Nat) : Int) > 1) = true := by simp; omega
  unfold R2.read
  simp only [K.wb, K.wb2, K.tdb, K.tmb, K.exb, hf, hd]
  rw [show ((s.size : Nat) : Int) = 2 by omega]
  have hb : W.byt s.data.toList 1 % 4294967296 = W.byt s.data.toList 1 := by have := W.byt_bd s.data.toList 1; omega
  simp [K.rd, K.t_none, K.t_reg, K.t_pair, K.t_small, K.t_full, K.t_plain, K.i0, K.wu32, hb]
set_option maxHeartbeats 2000000 in
theorem K.decode_eq (s : ByteArray) (hs : s.size ≤ maxLen) : K.decode s = R2.Decode s := by
  have hb0 := W.byt_bd s.data.toList 0
  have hw := K.wb s.data.toList 0
  unfold K.decode R2.Decode
  rw [hw]
  rcases K.fmt_cases (W.byt s.data.toList 0) with ⟨hk, hf⟩ | ⟨hk, hf, h1, h2⟩ | ⟨hk, hf, h1, h2⟩ | ⟨hk, hf, h1, h2⟩ | ⟨hk, hf, h1, h2⟩ | ⟨hk, hf, h1, h2⟩ | ⟨hk, hf, h1, h2⟩ | ⟨hk, hf, h1, h2⟩ | ⟨hk, hf, h1, h2⟩ | ⟨hk, hf, h1, h2⟩ | ⟨hk, hf, h1⟩ | ⟨hk, hf, h1⟩ | ⟨hk, hf, h1⟩
  · have hz : R2.Size (W.byt s.data.toList 0) = 0 := by unfold R2.Size; rw [hw, hf]; rfl
    rw [hk, hz]
    show K.decode0 s = _
    unfold K.decode0; rfl
  · have hz : R2.Size (W.byt s.data.toList 0) = 1 := by unfold R2.Size; rw [hw, hf]; rfl
    have hl : K.len 0 = 1 := rfl
    rw [hk, hz]
    show K.decode1 0 s = _
    unfold K.decode1
    rw [hl]
    cases h1 : (s.toList == (⟨#[]⟩ : ByteArray).toList) with
    | true => rfl
    | false =>
      rw [cond_false, cond_false, show ((1 : Int) == 0) = false from rfl, cond_false]
      cases h2 : decide (((s.size : Nat) : Int) < 1) with
      | true => rfl
      | false =>
        have h3 : 1 ≤ s.size := by simp at h2; omega
        have e : ((1 : Int).toNat) = 1 := rfl
        have ez : (s.extract 0 1).size = 1 := by rw [ByteArray.size_extract]; omega
        have er := K.read_1 (s.extract 0 1) ez (by rw [R2.byt_extract s 1 0 (by omega) h3]; exact hf)
        rw [cond_false, cond_false, e, er, K.valid_eq _ (K.rd_imm 0 (by decide) _ _)]
  · have hz : R2.Size (W.byt s.data.toList 0) = 2 := by unfold R2.Size; rw [hw, hf]; rfl
    have hl : K.len 1 = 2 := rfl
    rw [hk, hz]
    show K.decode1 1 s = _
    unfold K.decode1
    rw [hl]
    cases h1 : (s.toList == (⟨#[]⟩ : ByteArray).toList) with
    | true => rfl
    | false =>
      rw [cond_false, cond_false, show ((2 : Int) == 0) = false from rfl, cond_false]
      cases h2 : decide (((s.size : Nat) : Int) < 2) with
      | true => rfl
      | false =>
        have h3 : 2 ≤ s.size := by simp at h2; omega
        have e : ((2 : Int).toNat) = 2 := rfl
        have ez : (s.extract 0 2).size = 2 := by rw [ByteArray.size_extract]; omega
        have er := K.read_2 (s.extract 0 2) ez (by rw [R2.byt_extract s 2 0 (by omega) h3]; exact hf)
        rw [cond_false, cond_false, e, er, K.valid_eq _ (K.rd_imm 1 (by decide) _ _)]
  · have hz : R2.Size (W.byt s.data.toList 0) = 2 := by unfold R2.Size; rw [hw, hf]; rfl
    have hl : K.len 2 = 2 := rfl
    rw [hk, hz]
    show K.decode1 2 s = _
    unfold K.decode1
    rw [hl]
    cases h1 : (s.toList == (⟨#[]⟩ : ByteArray).toList) with
    | true => rfl
    | false =>
      rw [cond_false, cond_false, show ((2 : Int) == 0) = false from rfl, cond_false]
      cases h2 : decide (((s.size : Nat) : Int) < 2) with
      | true => rfl
      | false =>
        have h3 : 2 ≤ s.size := by simp at h2; omega
        have e : ((2 : Int).toNat) = 2 := rfl
        have ez : (s.extract 0 2).size = 2 := by rw [ByteArray.size_extract]; omega
        have er := K.read_3 (s.extract 0 2) ez (by rw [R2.byt_extract s 2 0 (by omega) h3]; exact hf)
        rw [cond_false, cond_false, e, er, K.valid_eq _ (K.rd_imm 2 (by decide) _ _)]
  · have hz : R2.Size (W.byt s.data.toList 0) = 3 := by unfold R2.Size; rw [hw, hf]; rfl
    have hl : K.len 3 = 3 := rfl
    rw [hk, hz]
    show K.decode1 3 s = _
    unfold K.decode1
    rw [hl]
    cases h1 : (s.toList == (⟨#[]⟩ : ByteArray).toList) with
    | true => rfl
    | false =>
      rw [cond_false, cond_false, show ((3 : Int) == 0) = false from rfl, cond_false]
      cases h2 : decide (((s.size : Nat) : Int) < 3) with
      | true => rfl
      | false =>
        have h3 : 3 ≤ s.size := by simp at h2; omega
        have e : ((3 : Int).toNat) = 3 := rfl
        have ez : (s.extract 0 3).size = 3 := by rw [ByteArray.size_extract]; omega
        have er := K.read_4 (s.extract 0 3) ez (by rw [R2.byt_extract s 3 0 (by omega) h3]; exact hf)
        rw [cond_false, cond_false, e, er, K.valid_eq _ (K.rd_imm 3 (by decide) _ _)]
  · have hz : R2.Size (W.byt s.data.toList 0) = 6 := by unfold R2.Size; rw [hw, hf]; rfl
    have hl : K.len 4 = 6 := rfl
    rw [hk, hz]
    show K.decode1 4 s = _
    unfold K.decode1
    rw [hl]
    cases h1 : (s.toList == (⟨#[]⟩ : ByteArray).toList) with
    | true => rfl
    | false =>
      rw [cond_false, cond_false, show ((6 : Int) == 0) = false from rfl, cond_false]
      cases h2 : decide (((s.size : Nat) : Int) < 6) with
      | true => rfl
      | false =>
        have h3 : 6 ≤ s.size := by simp at h2; omega
        have e : ((6 : Int).toNat) = 6 := rfl
        have ez : (s.extract 0 6).size = 6 := by rw [ByteArray.size_extract]; omega
        have er := K.read_5 (s.extract 0 6) ez (by rw [R2.byt_extract s 6 0 (by omega) h3]; exact hf)
        rw [cond_false, cond_false, e, er, K.valid_eq _ (K.rd_imm 4 (by decide) _ _)]
  · have hz : R2.Size (W.byt s.data.toList 0) = 3 := by unfold R2.Size; rw [hw, hf]; rfl
    have hl : K.len 5 = 3 := rfl
    rw [hk, hz]
    show K.decode1 5 s = _
    unfold K.decode1
    rw [hl]
    cases h1 : (s.toList == (⟨#[]⟩ : ByteArray).toList) with
    | true => rfl
    | false =>
      rw [cond_false, cond_false, show ((3 : Int) == 0) = false from rfl, cond_false]
      cases h2 : decide (((s.size : Nat) : Int) < 3) with
      | true => rfl
      | false =>
        have h3 : 3 ≤ s.size := by simp at h2; omega
        have e : ((3 : Int).toNat) = 3 := rfl
        have ez : (s.extract 0 3).size = 3 := by rw [ByteArray.size_extract]; omega
        have er := K.read_6 (s.extract 0 3) ez (by rw [R2.byt_extract s 3 0 (by omega) h3]; exact hf)
        rw [cond_false, cond_false, e, er, K.valid_eq _ (K.rd_imm 5 (by decide) _ _)]
  · have hz : R2.Size (W.byt s.data.toList 0) = 7 := by unfold R2.Size; rw [hw, hf]; rfl
    have hl : K.len 6 = 7 := rfl
    rw [hk, hz]
    show K.decode1 6 s = _
    unfold K.decode1
    rw [hl]
    cases h1 : (s.toList == (⟨#[]⟩ : ByteArray).toList) with
    | true => rfl
    | false =>
      rw [cond_false, cond_false, show ((7 : Int) == 0) = false from rfl, cond_false]
      cases h2 : decide (((s.size : Nat) : Int) < 7) with
      | true => rfl
      | false =>
        have h3 : 7 ≤ s.size := by simp at h2; omega
        have e : ((7 : Int).toNat) = 7 := rfl
        have ez : (s.extract 0 7).size = 7 := by rw [ByteArray.size_extract]; omega
        have er := K.read_7 (s.extract 0 7) ez (by rw [R2.byt_extract s 7 0 (by omega) h3]; exact hf)
        rw [cond_false, cond_false, e, er, K.valid_eq _ (K.rd_imm 6 (by decide) _ _)]
  · have hz : R2.Size (W.byt s.data.toList 0) = 2 := by unfold R2.Size; rw [hw, hf]; rfl
    have hl : K.len 7 = 2 := rfl
    rw [hk, hz]
    show K.decode1 7 s = _
    unfold K.decode1
    rw [hl]
    cases h1 : (s.toList == (⟨#[]⟩ : ByteArray).toList) with
    | true => rfl
    | false =>
      rw [cond_false, cond_false, show ((2 : Int) == 0) = false from rfl, cond_false]
      cases h2 : decide (((s.size : Nat) : Int) < 2) with
      | true => rfl
      | false =>
        have h3 : 2 ≤ s.size := by simp at h2; omega
        have e : ((2 : Int).toNat) = 2 := rfl
        have ez : (s.extract 0 2).size = 2 := by rw [ByteArray.size_extract]; omega
        have er := K.read_8 (s.extract 0 2) ez (by rw [R2.byt_extract s 2 0 (by omega) h3]; exact hf)
        rw [cond_false, cond_false, e, er, K.valid_eq _ (K.rd_imm 7 (by decide) _ _)]
  · have hz : R2.Size (W.byt s.data.toList 0) = 5 := by unfold R2.Size; rw [hw, hf]; rfl
    have hl : K.len 8 = 5 := rfl
    rw [hk, hz]
    show K.decode1 8 s = _
    unfold K.decode1
    rw [hl]
    cases h1 : (s.toList == (⟨#[]⟩ : ByteArray).toList) with
    | true => rfl
    | false =>
      rw [cond_false, cond_false, show ((5 : Int) == 0) = false from rfl, cond_false]
      cases h2 : decide (((s.size : Nat) : Int) < 5) with
      | true => rfl
      | false =>
        have h3 : 5 ≤ s.size := by simp at h2; omega
        have e : ((5 : Int).toNat) = 5 := rfl
        have ez : (s.extract 0 5).size = 5 := by rw [ByteArray.size_extract]; omega
        have er := K.read_9 (s.extract 0 5) ez (by rw [R2.byt_extract s 5 0 (by omega) h3]; exact hf)
        rw [cond_false, cond_false, e, er, K.valid_eq _ (K.rd_imm 8 (by decide) _ _)]
  · have hz : R2.Size (W.byt s.data.toList 0) = 2 := by unfold R2.Size; rw [hw, hf]; rfl
    have hl : K.len 9 = 2 := rfl
    rw [hk, hz]
    show K.decode1 9 s = _
    unfold K.decode1
    rw [hl]
    cases h1 : (s.toList == (⟨#[]⟩ : ByteArray).toList) with
    | true => rfl
    | false =>
      rw [cond_false, cond_false, show ((2 : Int) == 0) = false from rfl, cond_false]
      cases h2 : decide (((s.size : Nat) : Int) < 2) with
      | true => rfl
      | false =>
        have h3 : 2 ≤ s.size := by simp at h2; omega
        have e : ((2 : Int).toNat) = 2 := rfl
        have ez : (s.extract 0 2).size = 2 := by rw [ByteArray.size_extract]; omega
        have er := K.read_10 (s.extract 0 2) ez (by rw [R2.byt_extract s 2 0 (by omega) h3]; exact hf)
        rw [cond_false, cond_false, e, er, K.valid_eq _ (K.rd_imm 9 (by decide) _ _)]
  · have hz : R2.Size (W.byt s.data.toList 0) = 2 := by unfold R2.Size; rw [hw, hf]; rfl
    have hl : K.len 10 = 2 := rfl
    rw [hk, hz]
    show K.decode1 10 s = _
    unfold K.decode1
    rw [hl]
    cases h1 : (s.toList == (⟨#[]⟩ : ByteArray).toList) with
    | true => rfl
    | false =>
      rw [cond_false, cond_false, show ((2 : Int) == 0) = false from rfl, cond_false]
      cases h2 : decide (((s.size : Nat) : Int) < 2) with
      | true => rfl
      | false =>
        have h3 : 2 ≤ s.size := by simp at h2; omega
        have e : ((2 : Int).toNat) = 2 := rfl
        have ez : (s.extract 0 2).size = 2 := by rw [ByteArray.size_extract]; omega
        have er := K.read_11 (s.extract 0 2) ez (by rw [R2.byt_extract s 2 0 (by omega) h3]; exact hf)
        rw [cond_false, cond_false, e, er, K.valid_eq _ (K.rd_imm 10 (by decide) _ _)]
  · have hz : R2.Size (W.byt s.data.toList 0) = 2 := by unfold R2.Size; rw [hw, hf]; rfl
    have hl : K.len 10 = 2 := rfl
    rw [hk, hz]
    show K.decode1 10 s = _
    unfold K.decode1
    rw [hl]
    cases h1 : (s.toList == (⟨#[]⟩ : ByteArray).toList) with
    | true => rfl
    | false =>
      rw [cond_false, cond_false, show ((2 : Int) == 0) = false from rfl, cond_false]
      cases h2 : decide (((s.size : Nat) : Int) < 2) with
      | true => rfl
      | false =>
        have h3 : 2 ≤ s.size := by simp at h2; omega
        have e : ((2 : Int).toNat) = 2 := rfl
        have ez : (s.extract 0 2).size = 2 := by rw [ByteArray.size_extract]; omega
        have er := K.read_12 (s.extract 0 2) ez (by rw [R2.byt_extract s 2 0 (by omega) h3]; exact hf)
        rw [cond_false, cond_false, e, er, K.valid_eq _ (K.rd_imm 10 (by decide) _ _)]
def M.s0 : M.V := M.V.new (M.np 2) false
def M.s1 : M.V := M.s0.prot 0 3
def M.s2 : M.V := M.s1.prot 1 1
def M.s3 : M.V := M.s2.sto 254 4 67305985
/-- An operation of the laws. -/
structure M.Op where
  what : Int
  a : Nat
  v : Nat
  n : Int
  s : ByteArray
  o : Int
  ha : a < 4294967296
  hv : v < 4294967296
def M.Op.val (p : M.Op) : Value := .agg #[.int .u8 p.what, .int .u32 ((p.a : Nat) : Int), .int .u32 ((p.v : Nat) : Int), .int .i64 p.n, .string p.s, .int .u8 p.o]
def M.Op.cells (p : M.Op) : List Value := [.int .u8 p.what, .int .u32 ((p.a : Nat) : Int), .int .u32 ((p.v : Nat) : Int), .int .i64 p.n, .string p.s, .int .u8 p.o]
/-- The address of an operation. -/
def M.sub100 (a : Nat) : Nat := (4294967196 + a % 1024) % 4294967296
def M.near (p : M.Op) : Nat := bif (bits .and .u8 p.o 3 == 3) then p.a else M.sub100 p.a
/-- Its size, its string, its page. -/
def M.opn (p : M.Op) : Int := (bif (bits .and .u8 p.o 4 == 0) then (IntKind.wrap .i64 (1 + (bits .and .i64 p.n 3))) else p.n)
def M.opl (p : M.Op) : Int := (if 300 < ((p.s.size : Nat) : Int) then 300 else ((p.s.size : Nat) : Int))
def M.ops (p : M.Op) : ByteArray := p.s.extract 0 (M.opl p).toNat
def M.opp (p : M.Op) : Int := IntKind.wrap .i64 ((IntKind.wrap .i64 (bits .and .u32 ((p.v : Nat) : Int) 3)) - 1)
theorem R.fetch_bd {V : M.V} (hw : R.Wf V) (a : Nat) : 0 ≤ (V.fetch a).1 ∧ (V.fetch a).1 < 256 := by
  unfold M.V.fetch
  split
  · exact R.code_bd hw a
  · exact ⟨Int.le_refl _, by show (0 : Int) < 256; decide⟩
def M.V.op (V : M.V) (p : M.Op) : M.V := (bif (((Int.tmod p.what 10) == 0) || ((Int.tmod p.what 10) == 1)) then V else (bif (((Int.tmod p.what 10) == 2) || (((Int.tmod p.what 10) == 3) || ((Int.tmod p.what 10) == 4))) then (V.sto (M.near p) (M.opn p) ((p.v : Nat) : Int)) else (bif ((Int.tmod p.what 10) == 5) then V else (bif ((Int.tmod p.what 10) == 6) then (V.sync ((M.near p) / 256)) else (bif ((Int.tmod p.what 10) == 7) then (V.poke (M.near p) (M.ops p) (M.ops p).size) else (bif ((Int.tmod p.what 10) == 8) then (V.setc (M.opp p) (M.ops p)) else (V.prot (M.opp p) (M.opn p))))))))
theorem K5.callAs {P : Program} {f : FuncId} {args : Array Value} {w : World} {v v' : Value} (h : Calls P f args w fun e w' => e = .returned v ∧ Bel w w') (e : v = v') : Calls P f args w fun e w' => e = .returned v' ∧ Bel w w' := e ▸ h
theorem K5.w8 {V : M.V} (hV : R.Wf V) (a : Nat) : IntKind.wrap .u8 (V.fetch a).1 = (V.fetch a).1 := by
  have := R.fetch_bd hV a
  show (V.fetch a).1 % 256 = _; omega
theorem K5.p0 {p : Int} (hp : 0 ≤ p ∧ p < 4294967296) : IntKind.wrap .u32 (p + 0) = p := by show (p + 0) % 4294967296 = p; omega
theorem K5.sz0 {x : Int} (h : (K.size x == 0) = false) : decide (0 < K.size x) = true := by
  have h1 : K.size x ≠ 0 := fun e => by rw [e] at h; cases h
  have h2 : 0 ≤ K.size x := by
    unfold K.size
    split
    · exact Int.le_refl 0
    · next k hk => have := (K.len_bd k (K.fmt_lt hk)).1; omega
  exact decide_eq_true (by omega)
section
variable {P : Program} {n : Nat} {ops : Array Oper} {Q : Exit → Act → World → Prop} {S : Nat → Prop} {w0 : World} {X : World → Prop} {L : List (Nat × List Value)} {l : List Oper} {fr : E.Fr}
variable {T : TypeId} {d : Option Nat} {pos : String} {af : Array Edge} {gd : Option (Nat × Bool)}
/-- A slice without elements, its block known. -/
theorem E.G.emptyB {t e : TypeId} {sz : Nat} (ht : P.underlying t = some (.slice e)) (hi : (P.info? e).map (·.size) = some sz) (hck : E.ck n ops fr ⟨d, .buildSlice t 0 #[], T, pos, af, gd⟩ = true)
    (k : ∀ g, E.G P n ops Q l (E.upd fr d (.slice (some ⟨g, 0, none⟩) 0 0)) S w0 X ((g, []) :: L)) : E.G P n ops Q (⟨d, .buildSlice t 0 #[], T, pos, af, gd⟩ :: l) fr S w0 X L := by
  refine E.G.any (I := Nat) (fun _ => True) (fun g => .slice (some ⟨g, 0, none⟩) 0 0) (fun _ => X) (fun g => (g, []) :: L) (fun w h => ?_) hck (fun g _ => k g)
  refine ⟨w.heap.size, w.alloc (.cells #[] e), trivial, ?_, h.new [] e⟩
  cases hie : P.info? e with
  | none => rw [hie] at hi; cases hi
  | some ie =>
    show (do let r ← Instr.buildSlice t 0 ((#[] : Array (Nat × Operand)).map fun (i, x) => (i, E.ev fr x)); pure (Next.value r) : Sem Next).run P w = _
    have e0 : Array.map (fun x : Nat => (default : Value)) (Array.range 0) = #[] := by simp [Array.range_zero']
    simp [Instr.buildSlice, run_underlying ht, sizeOf, typeInfo, hie, Instr.fill, newRow, e0]
end
theorem K5.bv_s (V : M.V) (p : Int) (hp : 0 ≤ p ∧ p < 4294967296) {k : Nat} (h : k < 7) : K.bv V p k ++ [Value.int .u8 (K.b V p ((k : Nat) : Int))] = K.bv V p (k + 1) := by
  rcases Nat.eq_zero_or_pos k with rfl | h1
  · have e : K.b V p (((0 : Nat)) : Int) = K.b0 V p := by unfold K.b K.b0; rw [show IntKind.wrap .u32 (p + (((0 : Nat)) : Int)) = p from K5.p0 hp]
    rw [e]; rfl
  · exact K.bv_s V p h1 h
theorem K5.fetch_loop {V : M.V} {p : Int} (hp : 0 ≤ p ∧ p < 4294967296) (h1 : (!(K.o0 V p)) = false) (h2 : ((K.size (K.b0 V p)) == 0) = false) : K.fetch V p = K.floop V p (7 - 0) 0 := by
  have e : K.o V p (((0 : Nat)) : Int) = K.o0 V p := by unfold K.o K.o0; rw [show IntKind.wrap .u32 (p + (((0 : Nat)) : Int)) = p from K5.p0 hp]
  rw [K.fetch_loop h1 h2]
  show _ = (bif (decide ((((0 : Nat)) : Int) < (K.size (K.b0 V p)))) then (bif (!(K.o V p (((0 : Nat)) : Int))) then (⟨0, 0, 0, 0, 0, 0, 0⟩, 5, IntKind.wrap .u32 (p + (((0 : Nat)) : Int))) else K.floop V p 6 (0 + 1)) else K.fd V p 0)
  rw [e, h1, show decide ((((0 : Nat)) : Int) < K.size (K.b0 V p)) = true from K5.sz0 h2, cond_true, cond_false]
theorem K5.ik {k : Nat} (h : k ≤ 7) : IntKind.wrap .i64 (((k : Nat) : Int) + 1) = ((k + 1 : Nat) : Int) := by rw [IntWalk.i64_in _ (by omega)]; omega
theorem K5.size {V : M.V} (hV : R.Wf V) (a : Nat) : R2.Size (V.fetch a).1 = K.size (V.fetch a).1 := (K.size_eq _ (R.fetch_bd hV a).1 (R.fetch_bd hV a).2).symm
theorem K5.dc (V : M.V) (p : Int) {n : Nat} (hn : n ≤ 7) : R2.Decode (strOfNums (K.bl V p n)) = K.dc V p n := (K.decode_eq _ (K.bl_max V p hn)).symm
theorem K.decode_err {s : ByteArray} (h : ((K.decode s).2 != 0) = true) : (K.decode s).1 = ⟨0, 0, 0, 0, 0, 0, 0⟩ := by
  unfold K.decode at h ⊢
  split at h
  · unfold K.decode0
    cases (s.toList == (⟨#[]⟩ : ByteArray).toList) <;> rfl
  · next k hk =>
    show (K.decode1 k s).1 = _
    unfold K.decode1 at h ⊢
    revert h
    refine Q.bifP (p := fun x : K.Ins × Int => (x.2 != 0) = true → x.1 = ⟨0, 0, 0, 0, 0, 0, 0⟩) (fun _ _ => rfl) fun _ => ?_
    refine Q.bifP (p := fun x : K.Ins × Int => (x.2 != 0) = true → x.1 = ⟨0, 0, 0, 0, 0, 0, 0⟩) (fun _ _ => rfl) fun _ => ?_
    exact Q.bifP (p := fun x : K.Ins × Int => (x.2 != 0) = true → x.1 = ⟨0, 0, 0, 0, 0, 0, 0⟩) (fun _ _ => rfl) fun _ h => by cases h
theorem K5.dcz0 {V : M.V} {p : Int} {n : Nat} (h : ((K.dc V p n).2 != 0) = true) : (K.dc V p n).1 = ⟨0, 0, 0, 0, 0, 0, 0⟩ := K.decode_err h
abbrev Zlfia : Array Value := #[E.i 0, E.i 0, E.i 0, E.i 0, E.i 0, E.u 0, E.i 0, E.i 7, E.u 0]
abbrev Zlfib (p : Int) : Array Value := #[E.i 0, E.i 0, E.i 0, E.i 0, E.i 0, E.u 0, E.i 0, E.i 5, E.u p]
set_option maxHeartbeats 1000000 in
theorem Fetch5_rd {m : Nat} (V : M.V) (p : Int) (hp : 0 ≤ p ∧ p < 4294967296) (hV : R.Wf V) : A.Rd Tryz.prog 58 #[.int .u32 p, .pointer (some ⟨m, 0, none⟩)] [R.It m V] (.agg #[.int .i64 (((K.fetch V p).1).op), .int .i64 (((K.fetch V p).1).d), .int .i64 (((K.fetch V p).1).s), .int .i64 (((K.fetch V p).1).ix), .int .i64 (((K.fetch V p).1).sc), .int .u32 (((K.fetch V p).1).imm), .int .i64 (((K.fetch V p).1).sz), .int .i64 ((K.fetch V p).2.1), .int .u32 ((K.fetch V p).2.2)]) := by
 intro w oo aa hh
 refine E.enter (n := 66) (S := fun _ => False) Tryz.func58 rfl rfl Nz.k (A.startY hh) (E.sr (E.nw [E.i 0, E.i 0, E.i 0, E.i 0, E.i 0, E.u 0, E.i 0, E.i 0, E.u 0] 121 (fun g1 => E.tr (E.op (E.pt m) (E.op (E.u p) (E.ca (.agg #[E.u (K.b0 V p), E.u (if (K.o0 V p) then 0 else p), .bool (K.o0 V p)]) (fun w h => A.Y.rd [] (J_Fetch (m := m) (V := V) p hp) h.x (A.pn [0])) (E.nw [E.u 0, E.u 0, .bool false] 158 (fun g2 => E.st 0 [E.u (K.b0 V p), E.u (if (K.o0 V p) then 0 else p), .bool (K.o0 V p)] rfl rfl (E.To.code (E.C.seq (E.sr ?_)))))))))))
 refine E.op (E.pj g2 2) (E.li (.bool (K.o0 V p)) 0 rfl rfl (E.op (.bool (!(K.o0 V p))) (E.To.code (E.cd (!(K.o0 V p)) (fun hc3 => ?_) (fun hc3 => ?_)))))
 ·
  exact E.sr (E.op (E.u p) (E.vl (.agg #[E.i 5, E.u p]) (fun w h => E.run_build #[E.i 5, E.u p] Nz.k w) (E.vl (.agg (Zlfib p)) (fun w h => E.run_build (Zlfib p) Nz.k w) (E.st 1 [E.i 0, E.i 0, E.i 0, E.i 0, E.i 0, E.u 0, E.i 0, E.i 5, E.u p] rfl rfl (E.To.code (E.wk [(0, E.u p), (1, E.pt m), (4, E.pt g1), (5, E.pt g2)] [(g2, [E.u (K.b0 V p), E.u (if (K.o0 V p) then 0 else p), .bool (K.o0 V p)]), (g1, [E.i 0, E.i 0, E.i 0, E.i 0, E.i 0, E.u 0, E.i 0, E.i 5, E.u p])] Nz.sub (E.C.ret (E.P.rt (E.b1 Tryz.f58 [.agg (Zlfib p)] (fun w h => ⟨by unfold K.fetch; rw [hc3, N1] <;> rfl, h.ch.bel (fun _ h => h.elim)⟩))))))))))
 refine E.C.skip (E.To.code (E.sr (E.op (E.pt g2) (E.li (E.u (K.b0 V p)) 0 rfl rfl (E.vl (.int .u8 (K.b0 V p)) (fun w h => E.run_as (a := .int .u8 (IntKind.wrap .u8 (K.b0 V p))) Nz.k (congrArg (Value.int .u8) (K5.w8 hV _))) (E.ca (E.i (K.size (K.b0 V p))) (fun w h => K5.callAs (R2_Size (K.b0 V p) w) (congrArg (Value.int .i64) (K5.size hV _))) (E.op (E.i (K.size (K.b0 V p))) (E.To.code (E.wk [(0, E.u p), (1, E.pt m), (4, E.pt g1), (6, E.i (K.size (K.b0 V p)))] [(g1, [E.i 0, E.i 0, E.i 0, E.i 0, E.i 0, E.u 0, E.i 0, E.i 0, E.u 0])] Nz.sub (E.C.seq (E.sr (E.op (E.i (K.size (K.b0 V p))) ?_))))))))))))
 refine E.op (.bool ((K.size (K.b0 V p)) == 0)) (E.To.code (E.cd ((K.size (K.b0 V p)) == 0) (fun hc4 => ?_) (fun hc4 => ?_)))
 ·
  exact E.sr (E.vl (.agg #[E.i 7, E.u 0]) (fun w h => E.run_build #[E.i 7, E.u 0] Nz.k w) (E.vl (.agg Zlfia) (fun w h => E.run_build Zlfia Nz.k w) (E.st 0 [E.i 0, E.i 0, E.i 0, E.i 0, E.i 0, E.u 0, E.i 0, E.i 7, E.u 0] rfl rfl (E.To.code (E.C.ret (E.P.rt (E.b0 Tryz.f58 [.agg Zlfia] (fun w h => ⟨by unfold K.fetch; rw [hc3, hc4, N0, N1] <;> rfl, h.ch.bel (fun _ h => h.elim)⟩))))))))
 refine E.C.skip (E.To.code (E.sr (E.G.emptyB (e := 5) (sz := 1) Nz.k Nz.k Nz.k (fun g5 => E.op (.slice (some ⟨g5, 0, none⟩) 0 0) (E.To.code (E.C.seq (E.sr (E.op (E.i 0) (E.To.code (E.C.block (E.C.loop (I := Nat × Nat × Nat × List Value) (fun i => 7 - i.1) (fun i => 0 ≤ i.1 ∧ i.1 ≤ 7 ∧ i.1 ≤ i.2.2.1 ∧ i.2.2.2.length = (i.2.2.1 - i.1) * 1 ∧ K.fetch V p = K.floop V p (7 - i.1) i.1) (fun i => [(0, .int .u32 p), (1, E.pj m 0), (4, E.pj g1 0), (6, .int .i64 (K.size (K.b0 V p))), (7, .slice (some ⟨i.2.1, 0, none⟩) i.1 i.2.2.1), (8, .int .i64 ((i.1 : Nat) : Int))]) (fun i => A.Y [R.It m V]) (fun i => [(i.2.1, (K.bv V p i.1 ++ i.2.2.2)), (g1, [.int .i64 0, .int .i64 0, .int .i64 0, .int .i64 0, .int .i64 0, .int .u32 0, .int .i64 0, .int .i64 0, .int .u32 0])]) (0, g5, 0, []) (⟨Nat.le_refl _, by show 0 ≤ 7; decide, Nat.le_refl _, rfl, K5.fetch_loop hp hc3 hc4⟩) ⟨Nz.k, Nz.k⟩ Nz.sub (fun _ h => h) (fun i hk1 => E.C.seq ?_))))))))))))
 refine E.sr (E.op (E.i ((i.1 : Nat) : Int)) (E.op (E.i (K.size (K.b0 V p))) (E.op (.bool (decide (((i.1 : Nat) : Int) < (K.size (K.b0 V p))))) (E.To.code (E.cd (decide (((i.1 : Nat) : Int) < (K.size (K.b0 V p)))) (fun hc6 => ?_) (fun hc6 => ?_))))))
 ·
  refine E.C.skip (E.To.code (E.C.seq (E.C.block (E.sr (E.op (E.pt m) (E.op (E.u p) (E.op (E.i ((i.1 : Nat) : Int)) (E.vl (E.u ((i.1 : Nat) : Int)) (fun w h => E.run_as (a := E.u (IntKind.wrap .u32 ((i.1 : Nat) : Int))) Nz.k (congrArg (Value.int .u32) (K.wk7 hk1.2.1))) (E.op (E.u (IntKind.wrap .u32 (p + ((i.1 : Nat) : Int)))) (E.ca (.agg #[E.u (K.b V p ((i.1 : Nat) : Int)), E.u (if (K.o V p ((i.1 : Nat) : Int)) then 0 else (IntKind.wrap .u32 (p + ((i.1 : Nat) : Int)))), .bool (K.o V p ((i.1 : Nat) : Int))]) (fun w h => A.Y.rd [] (J_Fetch (m := m) (V := V) (IntKind.wrap .u32 (p + ((i.1 : Nat) : Int))) (Q.wrap_bd _)) h.x (A.pn [0])) (E.nw [E.u 0, E.u 0, .bool false] 158 (fun g7 => E.st 0 [E.u (K.b V p ((i.1 : Nat) : Int)), E.u (if (K.o V p ((i.1 : Nat) : Int)) then 0 else (IntKind.wrap .u32 (p + ((i.1 : Nat) : Int)))), .bool (K.o V p ((i.1 : Nat) : Int))] rfl rfl ?_))))))))))))
  refine E.To.code (E.C.seq (E.sr (E.op (E.pj g7 2) (E.li (.bool (K.o V p ((i.1 : Nat) : Int))) 0 rfl rfl (E.op (.bool (!(K.o V p ((i.1 : Nat) : Int)))) (E.To.code (E.cd (!(K.o V p ((i.1 : Nat) : Int))) (fun hc8 => ?_) (fun hc8 => ?_))))))))
  ·
   exact E.sr (E.op (E.u p) (E.op (E.i ((i.1 : Nat) : Int)) (E.vl (E.u ((i.1 : Nat) : Int)) (fun w h => E.run_as (a := E.u (IntKind.wrap .u32 ((i.1 : Nat) : Int))) Nz.k (congrArg (Value.int .u32) (K.wk7 hk1.2.1))) (E.op (E.u (IntKind.wrap .u32 (p + ((i.1 : Nat) : Int)))) (E.vl (.agg #[E.i 5, E.u (IntKind.wrap .u32 (p + ((i.1 : Nat) : Int)))]) (fun w h => E.run_build #[E.i 5, E.u (IntKind.wrap .u32 (p + ((i.1 : Nat) : Int)))] Nz.k w) (E.vl (.agg #[E.i 0, E.i 0, E.i 0, E.i 0, E.i 0, E.u 0, E.i 0, E.i 5, E.u (IntKind.wrap .u32 (p + ((i.1 : Nat) : Int)))]) (fun w h => E.run_build #[E.i 0, E.i 0, E.i 0, E.i 0, E.i 0, E.u 0, E.i 0, E.i 5, E.u (IntKind.wrap .u32 (p + ((i.1 : Nat) : Int)))] Nz.k w) (E.st 2 [E.i 0, E.i 0, E.i 0, E.i 0, E.i 0, E.u 0, E.i 0, E.i 5, E.u (IntKind.wrap .u32 (p + ((i.1 : Nat) : Int)))] rfl rfl (E.To.code (E.C.ret (E.P.rt (E.P.rb (E.P.rt (E.P.rt (E.P.rb (E.P.rt (E.b2 Tryz.f58 [.agg #[E.i 0, E.i 0, E.i 0, E.i 0, E.i 0, E.u 0, E.i 0, E.i 5, E.u (IntKind.wrap .u32 (p + ((i.1 : Nat) : Int)))]] (fun w h => ⟨by rw [hk1.2.2.2.2, K.fl_f hc6 hc8] <;> rfl, h.ch.bel (fun _ h => h.elim)⟩)))))))))))))))))
  refine E.C.skip (E.To.code (E.C.region (E.op (.slice (some ⟨i.2.1, 0, none⟩) i.1 i.2.2.1) (E.op (E.pt g7) (E.li (E.u (K.b V p ((i.1 : Nat) : Int))) 0 rfl rfl (E.vl (.int .u8 (K.b V p ((i.1 : Nat) : Int))) (fun w h => E.run_as (a := .int .u8 (IntKind.wrap .u8 (K.b V p ((i.1 : Nat) : Int)))) Nz.k (congrArg (Value.int .u8) (K5.w8 hV _))) (E.G.buildSlice [.int .u8 (K.b V p ((i.1 : Nat) : Int))] Nz.k Nz.k (fun g9 => E.G.append (e := 5) 2 i.2.1 i.1 i.2.2.1 0 g9 0 1 1 1 1 (K.bv V p i.1) i.2.2.2 [.int .u8 (K.b V p ((i.1 : Nat) : Int))] _ Nz.k Nz.k Nz.k rfl (K.bv_len V p hk1.2.1) hk1.2.2.2.1 hk1.2.2.1 Nz.k rfl Nz.k rfl (by rfl) (by omega) (by omega) (by omega) Nz.k (fun g10 c11 r12 hc13 hr14 => E.G.relist [(g10, (K.bv V p (i.1 + 1) ++ r12)), (g9, [.int .u8 (K.b V p ((i.1 : Nat) : Int))]), (g7, [E.u (K.b V p ((i.1 : Nat) : Int)), E.u (if (K.o V p ((i.1 : Nat) : Int)) then 0 else (IntKind.wrap .u32 (p + ((i.1 : Nat) : Int)))), .bool (K.o V p ((i.1 : Nat) : Int))]), (g1, [E.i 0, E.i 0, E.i 0, E.i 0, E.i 0, E.u 0, E.i 0, E.i 0, E.u 0])] (by rw [← K5.bv_s V p hp (K.lt7 hc6)] <;> rfl) (E.op (.slice (some ⟨g10, 0, none⟩) (i.1 + 1) c11) (E.P.nb (E.To.code (E.C.region ?_)))))))))))))
  exact E.op (E.i ((i.1 : Nat) : Int)) (E.vl (E.i ((i.1 + 1 : Nat) : Int)) (fun w h => E.run_as (a := E.i (IntKind.wrap .i64 (((i.1 : Nat) : Int) + 1))) Nz.k (congrArg (Value.int .i64) (K5.ik hk1.2.1))) (E.op (E.i ((i.1 + 1 : Nat) : Int)) (E.To.round (i.1 + 1, g10, c11, r12) (by show 7 - (i.1 + 1) < 7 - i.1; have := K.lt7 hc6; omega) (⟨by omega, by have := K.lt7 hc6; omega, hc13, hr14, hk1.2.2.2.2.trans (K.fl_t hc6 hc8)⟩) ⟨Nz.k, Nz.k⟩ Nz.sub (fun _ h => h))))
 refine E.C.exit (E.P.et (E.P.et (E.P.eh (E.To.code (E.sr (E.op (.slice (some ⟨i.2.1, 0, none⟩) i.1 i.2.2.1) (E.vl (.string (strOfNums (K.bl V p i.1))) (fun w h => E.b2s h 0 i.2.1 0 i.1 i.2.2.1 (K.bl V p i.1) (e := 5) Nz.k Nz.k Nz.k Nz.k rfl (K.bv_take V p hk1.2.1 _) (K.bl_len V p hk1.2.1)) (E.ca (.agg #[E.i (((K.dc V p i.1).1).op), E.i (((K.dc V p i.1).1).d), E.i (((K.dc V p i.1).1).s), E.i (((K.dc V p i.1).1).ix), E.i (((K.dc V p i.1).1).sc), E.u (((K.dc V p i.1).1).imm), E.i (((K.dc V p i.1).1).sz), E.i ((K.dc V p i.1).2)]) (fun w h => K5.callAs (R2_Decode (strOfNums (K.bl V p i.1)) w) (congrArg (fun d : K.Ins × Int => Value.agg #[E.i d.1.op, E.i d.1.d, E.i d.1.s, E.i d.1.ix, E.i d.1.sc, E.u d.1.imm, E.i d.1.sz, E.i d.2]) (K5.dc V p hk1.2.1))) (E.nw [E.i 0, E.i 0, E.i 0, E.i 0, E.i 0, E.u 0, E.i 0, E.i 0] 161 (fun g15 => E.st 0 [E.i (((K.dc V p i.1).1).op), E.i (((K.dc V p i.1).1).d), E.i (((K.dc V p i.1).1).s), E.i (((K.dc V p i.1).1).ix), E.i (((K.dc V p i.1).1).sc), E.u (((K.dc V p i.1).1).imm), E.i (((K.dc V p i.1).1).sz), E.i ((K.dc V p i.1).2)] rfl rfl (E.To.code (E.wk [(4, E.pt g1), (10, E.pt g15)] [(g15, [E.i (((K.dc V p i.1).1).op), E.i (((K.dc V p i.1).1).d), E.i (((K.dc V p i.1).1).s), E.i (((K.dc V p i.1).1).ix), E.i (((K.dc V p i.1).1).sc), E.u (((K.dc V p i.1).1).imm), E.i (((K.dc V p i.1).1).sz), E.i ((K.dc V p i.1).2)]), (g1, [E.i 0, E.i 0, E.i 0, E.i 0, E.i 0, E.u 0, E.i 0, E.i 0, E.u 0])] Nz.sub (E.C.seq (E.sr (E.op (E.pj g15 7) ?_)))))))))))))))
 refine E.li (E.i ((K.dc V p i.1).2)) 0 rfl rfl (E.op (.bool (((K.dc V p i.1).2) != 0)) (E.To.code (E.cd (((K.dc V p i.1).2) != 0) (fun hc16 => ?_) (fun hc16 => ?_))))
 ·
  exact E.sr (E.vl (.agg #[E.i 7, E.u 0]) (fun w h => E.run_build #[E.i 7, E.u 0] Nz.k w) (E.vl (.agg Zlfia) (fun w h => E.run_build Zlfia Nz.k w) (E.st 1 [E.i 0, E.i 0, E.i 0, E.i 0, E.i 0, E.u 0, E.i 0, E.i 7, E.u 0] rfl rfl (E.To.code (E.C.ret (E.P.rt (E.b1 Tryz.f58 [.agg Zlfia] (fun w h => ⟨by rw [hk1.2.2.2.2, K.fl_e hc6 hc16, K5.dcz0 hc16] <;> rfl, h.ch.bel (fun _ h => h.elim)⟩))))))))
 exact E.C.skip (E.To.code (E.sr (E.op (E.pt g15) (E.li (.agg #[E.i (((K.dc V p i.1).1).op), E.i (((K.dc V p i.1).1).d), E.i (((K.dc V p i.1).1).s), E.i (((K.dc V p i.1).1).ix), E.i (((K.dc V p i.1).1).sc), E.u (((K.dc V p i.1).1).imm), E.i (((K.dc V p i.1).1).sz)]) 0 rfl rfl (E.vl (.agg #[E.i (((K.dc V p i.1).1).op), E.i (((K.dc V p i.1).1).d), E.i (((K.dc V p i.1).1).s), E.i (((K.dc V p i.1).1).ix), E.i (((K.dc V p i.1).1).sc), E.u (((K.dc V p i.1).1).imm), E.i (((K.dc V p i.1).1).sz), E.i 0, E.u 0]) (fun w h => E.run_build #[E.i (((K.dc V p i.1).1).op), E.i (((K.dc V p i.1).1).d), E.i (((K.dc V p i.1).1).s), E.i (((K.dc V p i.1).1).ix), E.i (((K.dc V p i.1).1).sc), E.u (((K.dc V p i.1).1).imm), E.i (((K.dc V p i.1).1).sz), E.i 0, E.u 0] Nz.k w) (E.st 1 [E.i (((K.dc V p i.1).1).op), E.i (((K.dc V p i.1).1).d), E.i (((K.dc V p i.1).1).s), E.i (((K.dc V p i.1).1).ix), E.i (((K.dc V p i.1).1).sc), E.u (((K.dc V p i.1).1).imm), E.i (((K.dc V p i.1).1).sz), E.i 0, E.u 0] rfl rfl (E.To.code (E.C.ret (E.b1 Tryz.f58 [.agg #[E.i (((K.dc V p i.1).1).op), E.i (((K.dc V p i.1).1).d), E.i (((K.dc V p i.1).1).s), E.i (((K.dc V p i.1).1).ix), E.i (((K.dc V p i.1).1).sc), E.u (((K.dc V p i.1).1).imm), E.i (((K.dc V p i.1).1).sz), E.i 0, E.u 0]] (fun w h => ⟨by rw [hk1.2.2.2.2, K.fl_g hc6 hc16] <;> rfl, h.ch.bel (fun _ h => h.elim)⟩))))))))))
/-- What a step gives: a state and a trap. -/
def Q.out (s : Q.S) (k t : Int) : Value := .agg (s.cells ++ [Value.int .i64 k, Value.int .u32 t]).toArray
def K5.stepI (i : K.Ins) (k t : Int) (s : Q.S) (V : M.V) : Q.S × Int × Int × M.V := (bif (k != 0) then (s, k, t, V) else (bif ((R2.Format i.op) == 3) then (bif (((K5.arith (K.w0 s i) i.op (s.r ((i.s).toNat))).k) != 0) then (s, (K5.arith (K.w0 s i) i.op (s.r ((i.s).toNat))).k, (K5.arith (K.w0 s i) i.op (s.r ((i.s).toNat))).t, V) else (((K5.arith (K.w0 s i) i.op (s.r ((i.s).toNat))).s), 0, 0, V)) else (bif ((R2.Format i.op) == 4) then (bif (((K5.arith (K.w0 s i) (IntKind.wrap .i64 (i.op - 16)) i.imm).k) != 0) then (s, (K5.arith (K.w0 s i) (IntKind.wrap .i64 (i.op - 16)) i.imm).k, (K5.arith (K.w0 s i) (IntKind.wrap .i64 (i.op - 16)) i.imm).t, V) else (((K5.arith (K.w0 s i) (IntKind.wrap .i64 (i.op - 16)) i.imm).s), 0, 0, V)) else (bif ((R2.Format i.op) == 5) then (bif (((K5.arith (K.w0 s i) (IntKind.wrap .i64 (i.op - 32)) i.imm).k) != 0) then (s, (K5.arith (K.w0 s i) (IntKind.wrap .i64 (i.op - 32)) i.imm).k, (K5.arith (K.w0 s i) (IntKind.wrap .i64 (i.op - 32)) i.imm).t, V) else (((K5.arith (K.w0 s i) (IntKind.wrap .i64 (i.op - 32)) i.imm).s), 0, 0, V)) else (bif ((R2.Format i.op) == 6) then (bif ((((K5.memory (K.w0 s i) V i.op).1).k) != 0) then (s, ((K5.memory (K.w0 s i) V i.op).1).k, ((K5.memory (K.w0 s i) V i.op).1).t, (K5.memory (K.w0 s i) V i.op).2) else ((((K5.memory (K.w0 s i) V i.op).1).s), 0, 0, (K5.memory (K.w0 s i) V i.op).2)) else (bif ((R2.Format i.op) == 7) then (bif ((((K5.memory (K.w0 s i) V (IntKind.wrap .i64 (i.op - 8))).1).k) != 0) then (s, ((K5.memory (K.w0 s i) V (IntKind.wrap .i64 (i.op - 8))).1).k, ((K5.memory (K.w0 s i) V (IntKind.wrap .i64 (i.op - 8))).1).t, (K5.memory (K.w0 s i) V (IntKind.wrap .i64 (i.op - 8))).2) else ((((K5.memory (K.w0 s i) V (IntKind.wrap .i64 (i.op - 8))).1).s), 0, 0, (K5.memory (K.w0 s i) V (IntKind.wrap .i64 (i.op - 8))).2)) else (bif ((R2.Format i.op) == 2) then (bif ((((K5.single (K.w0 s i) V).1).k) != 0) then (s, ((K5.single (K.w0 s i) V).1).k, ((K5.single (K.w0 s i) V).1).t, (K5.single (K.w0 s i) V).2) else ((((K5.single (K.w0 s i) V).1).s), 0, 0, (K5.single (K.w0 s i) V).2)) else (bif ((R2.Format i.op) == 8) then (bif (W.cond (IntKind.wrap .i64 (i.op - 96)) s.f) then (bif (((K.w0 s i).k) != 0) then (s, (K.w0 s i).k, (K.w0 s i).t, V) else (⟨(IntKind.wrap .u32 ((((K.w0 s i).s).pc) + i.imm)), ((K.w0 s i).s).r, ((K.w0 s i).s).f, ((K.w0 s i).s).c, ((K.w0 s i).s).st, ((K.w0 s i).s).du⟩, 0, 0, V)) else (bif (((K.w0 s i).k) != 0) then (s, (K.w0 s i).k, (K.w0 s i).t, V) else (((K.w0 s i).s), 0, 0, V))) else (bif ((((K5.control (K.w0 s i) V).1).k) != 0) then (s, ((K5.control (K.w0 s i) V).1).k, ((K5.control (K.w0 s i) V).1).t, (K5.control (K.w0 s i) V).2) else ((((K5.control (K.w0 s i) V).1).s), 0, 0, (K5.control (K.w0 s i) V).2))))))))))
abbrev Z673a (i : K.Ins) : List Value := [E.i i.op, E.i i.d, E.i i.s, E.i i.ix, E.i i.sc, E.u i.imm, E.i i.sz]
abbrev Z673b := Q.S.cells Q.z0 ++ [E.i 0, E.u 0]
abbrev Z673c (i : K.Ins) := IntKind.wrap .i64 (i.op - 96)
abbrev Z673d (i : K.Ins) := IntKind.wrap .i64 (i.op - 8)
set_option maxHeartbeats 1000000 in
theorem Step5_i {m : Nat} (i : K.Ins) (k t : Int) (s : Q.S) (V : M.V) (hf : K.fetch V s.pc = (i, k, t)) (hi : (k == 0) = true → K.iok i) (hs : Q.wf s) (hV : R.Wf V) : A.Tr Tryz.prog 21 #[Q.S.val s, .pointer (some ⟨m, 0, none⟩)] [R.It m V] (I := Unit) (fun _ => True) (fun _ => Q.out ((K5.stepI i k t s V).1) ((K5.stepI i k t s V).2.1) ((K5.stepI i k t s V).2.2.1)) (fun _ => [R.It m (K5.stepI i k t s V).2.2.2]) := by
 intro w oo aa hh
 refine E.enter (n := 135) (S := oo) Tryz.func21 rfl rfl Nz.k (A.start (L := []) hh) (E.sr (E.nw (Q.S.cells s) 26 (fun g1 => E.nw Z673b 51 (fun g2 => E.tr (E.op (E.pt g1) (E.li (E.u s.pc) 1 rfl rfl (E.op (E.pt m) (E.ca (.agg #[E.i i.op, E.i i.d, E.i i.s, E.i i.ix, E.i i.sc, E.u i.imm, E.i i.sz, E.i k, E.u t]) (fun w h => A.cq [2] [0, 1] (A.rdAs (v' := .agg #[E.i i.op, E.i i.d, E.i i.s, E.i i.ix, E.i i.sc, E.u i.imm, E.i i.sz, E.i k, E.u t]) (Fetch5_rd (m := m) V s.pc hs.pc hV) (by rw [hf] <;> rfl)) h) (E.nw [E.i 0, E.i 0, E.i 0, E.i 0, E.i 0, E.u 0, E.i 0, E.i 0, E.u 0] 121 (fun g3 => E.st 0 [E.i i.op, E.i i.d, E.i i.s, E.i i.ix, E.i i.sc, E.u i.imm, E.i i.sz, E.i k, E.u t] rfl rfl (E.To.code ?_)))))))))))
 refine E.C.seq (E.sr (E.op (E.pj g3 7) (E.op (E.pj g3 7) (E.li (E.i k) 0 rfl rfl (E.op (.bool (k != 0)) (E.To.code (E.wk [(1, E.pt m), (2, E.pt g1), (4, E.pt g2), (5, E.pt g3), (16, .bool (k != 0))] [(g3, [E.i i.op, E.i i.d, E.i i.s, E.i i.ix, E.i i.sc, E.u i.imm, E.i i.sz, E.i k, E.u t]), (g2, Z673b), (g1, (Q.S.cells s))] Nz.sub (E.cd (k != 0) (fun hc4 => ?_) (fun hc4 => ?_)))))))))
 ·
  refine E.sr (E.li (Q.S.val s) 2 rfl rfl (E.op (E.pj g3 7) (E.li (.agg #[E.i k, E.u t]) 0 rfl rfl (E.vl (Q.out s k t) (fun w h => E.run_build (Q.S.cells s ++ [Value.int .i64 k, Value.int .u32 t]).toArray Nz.k w) (E.st 1 (Q.S.cells s ++ [E.i k, E.u t]) rfl rfl (E.To.code (E.C.ret (E.P.rt (E.b1 Tryz.f21 [Q.out s k t] ?_)))))))))
  intro w h
  have e : (K5.stepI i k t s V) = (s, k, t, V) := by unfold K5.stepI; rw [hc4, N1] <;> rfl
  rw [e]
  exact ⟨(), trivial, rfl, A.dq [3] [0, 1, 2] h⟩
 refine E.C.skip (E.To.code (E.sr (E.op (E.pt g3) (E.li (.agg #[E.i i.op, E.i i.d, E.i i.s, E.i i.ix, E.i i.sc, E.u i.imm, E.i i.sz]) 0 rfl rfl (E.nw [E.i 0, E.i 0, E.i 0, E.i 0, E.i 0, E.u 0, E.i 0] 66 (fun g5 => E.st 0 (Z673a i) rfl rfl (E.tr (E.li (Q.S.val s) 3 rfl rfl (E.li (Q.S.val s) 3 rfl rfl (E.op (E.pt m) (E.li (.agg #[E.i i.op, E.i i.d, E.i i.s, E.i i.ix, E.i i.sc, E.u i.imm, E.i i.sz]) 0 rfl rfl (E.vl (.agg (K5.wk (⟨s, s, i, 0, 0⟩) m).toArray) (fun w h => E.run_build (K5.wk (⟨s, s, i, 0, 0⟩) m).toArray Nz.k w) ?_))))))))))))
 refine E.nw (K5.wk (⟨s, s, i, 0, 0⟩) m) 125 (fun g6 => E.op (E.pt g6) (E.To.code (E.wk [(2, E.pt g1), (4, E.pt g2), (6, E.pt g5), (7, E.pt g6)] [(g6, (K5.wk (⟨s, s, i, 0, 0⟩) m)), (g5, (Z673a i)), (g2, Z673b), (g1, (Q.S.cells s))] Nz.sub (E.sr (E.op (E.pt g6) (E.op (E.pt g1) (E.li (E.u s.pc) 3 rfl rfl (E.op (E.pj g5 6) (E.li (E.i i.sz) 1 rfl rfl (E.op (E.u (IntKind.wrap .u32 i.sz)) (E.op (E.u (IntKind.wrap .u32 (s.pc + (IntKind.wrap .u32 i.sz)))) ?_)))))))))))
 refine E.op (E.pt g6) (E.op (E.pj g6 24) (E.op (E.pj g6 24) (E.st 0 (K5.wk (⟨s, ⟨(IntKind.wrap .u32 (s.pc + (IntKind.wrap .u32 i.sz))), s.r, s.f, s.c, s.st, s.du⟩, i, 0, 0⟩) m) rfl rfl (E.To.code (E.wk [(2, E.pt g1), (4, E.pt g2), (6, E.pt g5), (7, E.pt g6)] [(g6, (K5.wk (⟨s, ⟨(IntKind.wrap .u32 (s.pc + (IntKind.wrap .u32 i.sz))), s.r, s.f, s.c, s.st, s.du⟩, i, 0, 0⟩) m)), (g5, (Z673a i)), (g2, Z673b), (g1, (Q.S.cells s))] Nz.sub (E.sr (E.op (E.pt g6) (E.op (E.pj g1 22) (E.li (E.i s.st) 3 rfl rfl (E.op (E.i (IntKind.wrap .i64 (s.st + 1))) (E.op (E.pt g6) ?_)))))))))))
 refine E.op (E.pj g6 24) (E.op (E.pj g6 46) (E.st 0 (K5.wk (K.w0 s i) m) rfl rfl (E.To.code (E.C.seq (E.sr (E.op (E.pt g5) (E.li (E.i i.op) 1 rfl rfl (E.ca (E.i (R2.Format i.op)) (fun w h => R2_Format i.op w) (E.To.code (E.wk [(2, E.pt g1), (4, E.pt g2), (6, E.pt g5), (7, E.pt g6), (48, E.i (R2.Format i.op))] [(g6, (K5.wk (K.w0 s i) m)), (g5, (Z673a i)), (g2, Z673b), (g1, (Q.S.cells s))] Nz.sub (E.C.jn (fun J up dn => ?_))))))))))))
 have rest : ∀ (y : K.W × M.V), K5.stepI i k t s V = (bif (y.1.k != 0) then (s, y.1.k, y.1.t, y.2) else (y.1.s, 0, 0, y.2)) → J [(2, E.pt g1), (4, E.pt g2), (7, E.pt g6)] (A.X w oo aa [R.It m y.2]) [(g6, (K5.wk y.1 m)), (g2, Z673b), (g1, (Q.S.cells s))] := by
  intro y hy
  refine up _ _ _ (E.C.seq (E.sr (E.op (E.pt g6) (E.op (E.pt g6) (E.op (E.pj g6 56) (E.op (E.pj g6 56) (E.li (E.i y.1.k) 0 rfl rfl (E.op (.bool (y.1.k != 0)) (E.To.code (E.cd (y.1.k != 0) (fun hc7 => ?_) (fun hc7 => ?_)))))))))))
  ·
   refine E.C.seq (E.C.held (E.Hp (oo) w (A.X w oo aa [R.It m y.2]) [(g6, (K5.wk y.1 m)), (g1, (Q.S.cells s))]) Nz.k (E.tb 0 (Q.S.val s) rfl (fun w h => E.run_load h 1 rfl rfl Nz.k) (E.ta 1 (E.pt g6) rfl (E.ta 2 (E.pt g6) rfl (E.ta 3 (E.pj g6 56) rfl (E.tb 4 (.agg #[E.i y.1.k, E.u y.1.t]) rfl (fun w h => E.run_load h 0 rfl rfl Nz.k) (E.tb 5 (Q.out s y.1.k y.1.t) rfl (fun w h => E.run_build (Q.S.cells s ++ [Value.int .i64 y.1.k, Value.int .u32 y.1.t]).toArray Nz.k w) (E.al 6 rfl (E.st 1 (Q.S.cells s ++ [E.i y.1.k, E.u y.1.t]) rfl rfl (E.bk (E.H.done Nz.k ?_)))))))))))
   refine E.To.code (E.wk [(4, E.pt g2), (7, E.pt g6)] [(g6, (K5.wk y.1 m)), (g2, (Q.S.cells s ++ [E.i y.1.k, E.u y.1.t]))] Nz.sub (E.C.ret (E.P.rt (E.b1 Tryz.f21 [Q.out s y.1.k y.1.t] ?_))))
   intro w h
   have e : (K5.stepI i k t s V) = (s, y.1.k, y.1.t, y.2) := by rw [hy, hc7, N1]
   rw [e]
   exact ⟨(), trivial, rfl, A.dq [2] [0, 1] h⟩
  refine E.C.skip (E.To.code (E.sr (E.op (E.pt g6) (E.op (E.pt g6) (E.op (E.pj g6 24) (E.li (Q.S.val y.1.s) 0 rfl rfl (E.vl (Q.out y.1.s 0 0) (fun w h => E.run_build (Q.S.cells y.1.s ++ [Value.int .i64 0, Value.int .u32 0]).toArray Nz.k w) (E.st 1 (Q.S.cells y.1.s ++ [E.i 0, E.u 0]) rfl rfl (E.To.code (E.wk [(4, E.pt g2)] [(g2, (Q.S.cells y.1.s ++ [E.i 0, E.u 0]))] Nz.sub (E.C.ret (E.b0 Tryz.f21 [Q.out y.1.s 0 0] ?_))))))))))))
  intro w h
  have e : (K5.stepI i k t s V) = (y.1.s, 0, 0, y.2) := by rw [hy, hc7, N0]
  rw [e]
  exact ⟨(), trivial, rfl, A.dq [1] [0] h⟩
 refine E.C.block (E.sr (E.op (.bool ((R2.Format i.op) == 3)) (E.op (.bool ((R2.Format i.op) == 3)) (E.To.code (E.cd ((R2.Format i.op) == 3) (fun hc8 => ?_) (fun hc8 => ?_))))))
 ·
  refine E.C.held (A.Y [A.blk g5 ((Z673a i)), A.blk g2 Z673b, A.blk g1 (Q.S.cells s)]) Nz.k (E.tk 0 (E.pt g6) rfl (fun w h => A.hq [1, 2, 3] [0, 4] h) (E.tk 1 (E.pt g5) rfl (fun w h => A.hq [1, 2, 3] [0, 4] h) (E.tj 2 (E.i i.op) rfl (fun w h => A.hq [1, 2, 3] [0, 4] h) (fun w h => A.Y.bld h (k := 0) (j := 0) rfl Nz.k Nz.k) (E.tk 3 (E.pj g5 2) rfl (fun w h => A.hq [1, 2, 3] [0, 4] h) (E.tj 4 (E.i i.s) rfl (fun w h => A.hq [1, 2, 3] [0, 4] h) (fun w h => A.Y.bld h (k := 0) (j := 2) rfl Nz.k Nz.k) (E.tk 5 (E.pj g1 1) rfl (fun w h => A.hq [1, 2, 3] [0, 4] h) (E.tj 6 (E.pj g1 (1 + (i.s).toNat)) rfl (fun w h => A.hq [1, 2, 3] [0, 4] h) (fun w h => E.idxI (e := 22) g1 1 16 .i64 i.s Nz.k Nz.k Nz.k Nz.k (by have := (hi (K.eq0 hc4)).s; omega) w) (E.tj 7 (E.u (s.r ((i.s).toNat))) rfl (fun w h => A.hq [1, 2, 3] [0, 4] h) (fun w h => A.Y.bld h (k := 2) (j := 1 + (i.s).toNat) rfl Nz.k (Q.ld_r Nz.k (by have := (hi (K.eq0 hc4)).s; omega))) (E.al 8 rfl (A.gc (fun _ => .tuple #[]) (Arith5 (b := g6) (m := m) (K.w0 s i) i.op (s.r ((i.s).toNat)) (hs.r _) (K.w0_wf hs) (hi (K.eq0 hc4))) [0] [1, 2, 3, 4] [0, 1, 2, 3, 4] (fun _ => [(g6, (K5.wk (K5.arith (K.w0 s i) i.op (s.r ((i.s).toNat))) m)), (g5, (Z673a i)), (g2, Z673b), (g1, (Q.S.cells s))]) (fun _ => [R.It m V]) (fun _ hd9 => E.H.back (fun w h => A.hq [1, 2, 3] [0, 4] h) ?_)))))))))))
  exact E.H.done Nz.k (E.P.nb (fun a w h1 h2 => dn _ _ _ (rest (K5.arith (K.w0 s i) i.op (s.r ((i.s).toNat)), V) (by unfold K5.stepI; rw [hc4, N0, hc8, N1] <;> rfl)) a w (h1.sub ⟨Nz.k, Nz.k⟩) (h2.less Nz.sub)))
 refine E.sr (E.op (.bool ((R2.Format i.op) == 4)) (E.op (.bool ((R2.Format i.op) == 4)) (E.To.code (E.cd ((R2.Format i.op) == 4) (fun hc10 => ?_) (fun hc10 => ?_)))))
 ·
  exact E.C.region (E.op (E.pt g6) (E.op (E.pt g5) (E.li (E.i i.op) 1 rfl rfl (E.op (E.i (IntKind.wrap .i64 (i.op - 16))) (E.op (E.pj g5 5) (E.li (E.u i.imm) 1 rfl rfl (A.gc (fun _ => .tuple #[]) (Arith5 (b := g6) (m := m) (K.w0 s i) (IntKind.wrap .i64 (i.op - 16)) i.imm (hi (K.eq0 hc4)).imm (K.w0_wf hs) (hi (K.eq0 hc4))) [0] [1, 2, 3, 4] [0, 1, 2, 3, 4] (fun _ => [(g6, (K5.wk (K5.arith (K.w0 s i) (IntKind.wrap .i64 (i.op - 16)) i.imm) m)), (g5, (Z673a i)), (g2, Z673b), (g1, (Q.S.cells s))]) (fun _ => [R.It m V]) (fun _ hd11 => E.P.nb (fun a w h1 h2 => dn _ _ _ (rest (K5.arith (K.w0 s i) (IntKind.wrap .i64 (i.op - 16)) i.imm, V) (by unfold K5.stepI; rw [hc4, N0, hc8, N0, hc10, N1] <;> rfl)) a w (h1.sub ⟨Nz.k, Nz.k⟩) (h2.less Nz.sub))))))))))
 refine E.sr (E.op (.bool ((R2.Format i.op) == 5)) (E.op (.bool ((R2.Format i.op) == 5)) (E.To.code (E.cd ((R2.Format i.op) == 5) (fun hc12 => ?_) (fun hc12 => ?_)))))
 ·
  exact E.C.region (E.op (E.pt g6) (E.op (E.pt g5) (E.li (E.i i.op) 1 rfl rfl (E.op (E.i (IntKind.wrap .i64 (i.op - 32))) (E.op (E.pj g5 5) (E.li (E.u i.imm) 1 rfl rfl (A.gc (fun _ => .tuple #[]) (Arith5 (b := g6) (m := m) (K.w0 s i) (IntKind.wrap .i64 (i.op - 32)) i.imm (hi (K.eq0 hc4)).imm (K.w0_wf hs) (hi (K.eq0 hc4))) [0] [1, 2, 3, 4] [0, 1, 2, 3, 4] (fun _ => [(g6, (K5.wk (K5.arith (K.w0 s i) (IntKind.wrap .i64 (i.op - 32)) i.imm) m)), (g5, (Z673a i)), (g2, Z673b), (g1, (Q.S.cells s))]) (fun _ => [R.It m V]) (fun _ hd13 => E.P.nb (fun a w h1 h2 => dn _ _ _ (rest (K5.arith (K.w0 s i) (IntKind.wrap .i64 (i.op - 32)) i.imm, V) (by unfold K5.stepI; rw [hc4, N0, hc8, N0, hc10, N0, hc12, N1] <;> rfl)) a w (h1.sub ⟨Nz.k, Nz.k⟩) (h2.less Nz.sub))))))))))
 refine E.sr (E.op (.bool ((R2.Format i.op) == 6)) (E.op (.bool ((R2.Format i.op) == 6)) (E.To.code (E.cd ((R2.Format i.op) == 6) (fun hc14 => ?_) (fun hc14 => ?_)))))
 ·
  exact E.C.region (E.op (E.pt g6) (E.op (E.pt g5) (E.li (E.i i.op) 1 rfl rfl (A.gc (fun _ => .tuple #[]) (Memory5 (b := g6) (m := m) (K.w0 s i) V i.op (K.w0_wf hs) (hi (K.eq0 hc4)) hV) [0, 4] [1, 2, 3] [0, 2, 3, 4, 1] (fun _ => [(g6, (K5.wk ((K5.memory (K.w0 s i) V i.op).1) m)), (g5, (Z673a i)), (g2, Z673b), (g1, (Q.S.cells s))]) (fun _ => [R.It m ((K5.memory (K.w0 s i) V i.op).2)]) (fun _ hd15 => E.P.nb (fun a w h1 h2 => dn _ _ _ (rest ((K5.memory (K.w0 s i) V i.op).1, (K5.memory (K.w0 s i) V i.op).2) (by unfold K5.stepI; rw [hc4, N0, hc8, N0, hc10, N0, hc12, N0, hc14, N1] <;> rfl)) a w (h1.sub ⟨Nz.k, Nz.k⟩) (h2.less Nz.sub)))))))
 refine E.sr (E.op (.bool ((R2.Format i.op) == 7)) (E.op (.bool ((R2.Format i.op) == 7)) (E.To.code (E.wk [(2, E.pt g1), (4, E.pt g2), (6, E.pt g5), (7, E.pt g6), (48, E.i (R2.Format i.op)), (86, .bool ((R2.Format i.op) == 7))] [(g6, (K5.wk (K.w0 s i) m)), (g5, (Z673a i)), (g2, Z673b), (g1, (Q.S.cells s))] Nz.sub (E.cd ((R2.Format i.op) == 7) (fun hc16 => ?_) (fun hc16 => ?_))))))
 ·
  exact E.C.region (E.op (E.pt g6) (E.op (E.pt g5) (E.li (E.i i.op) 1 rfl rfl (E.op (E.i (Z673d i)) (A.gc (fun _ => .tuple #[]) (Memory5 (b := g6) (m := m) (K.w0 s i) V (Z673d i) (K.w0_wf hs) (hi (K.eq0 hc4)) hV) [0, 4] [1, 2, 3] [0, 2, 3, 4, 1] (fun _ => [(g6, (K5.wk ((K5.memory (K.w0 s i) V (Z673d i)).1) m)), (g5, (Z673a i)), (g2, Z673b), (g1, (Q.S.cells s))]) (fun _ => [R.It m ((K5.memory (K.w0 s i) V (Z673d i)).2)]) (fun _ hd17 => E.P.nb (fun a w h1 h2 => dn _ _ _ (rest ((K5.memory (K.w0 s i) V (Z673d i)).1, (K5.memory (K.w0 s i) V (Z673d i)).2) (by unfold K5.stepI; rw [hc4, N0, hc8, N0, hc10, N0, hc12, N0, hc14, N0, hc16, N1] <;> rfl)) a w (h1.sub ⟨Nz.k, Nz.k⟩) (h2.less Nz.sub))))))))
 refine E.sr (E.op (.bool ((R2.Format i.op) == 2)) (E.op (.bool ((R2.Format i.op) == 2)) (E.To.code (E.cd ((R2.Format i.op) == 2) (fun hc18 => ?_) (fun hc18 => ?_)))))
 ·
  exact E.C.region (E.op (E.pt g6) (A.gc (fun _ => .tuple #[]) (Single5 (b := g6) (m := m) (K.w0 s i) V (K.w0_wf hs) (hi (K.eq0 hc4)) hV) [0, 4] [1, 2, 3] [0, 2, 3, 4, 1] (fun _ => [(g6, (K5.wk ((K5.single (K.w0 s i) V).1) m)), (g5, (Z673a i)), (g2, Z673b), (g1, (Q.S.cells s))]) (fun _ => [R.It m ((K5.single (K.w0 s i) V).2)]) (fun _ hd19 => E.P.nb (fun a w h1 h2 => dn _ _ _ (rest ((K5.single (K.w0 s i) V).1, (K5.single (K.w0 s i) V).2) (by unfold K5.stepI; rw [hc4, N0, hc8, N0, hc10, N0, hc12, N0, hc14, N0, hc16, N0, hc18, N1] <;> rfl)) a w (h1.sub ⟨Nz.k, Nz.k⟩) (h2.less Nz.sub)))))
 refine E.sr (E.op (.bool ((R2.Format i.op) == 8)) (E.op (.bool ((R2.Format i.op) == 8)) (E.To.code (E.cd ((R2.Format i.op) == 8) (fun hc20 => ?_) (fun hc20 => ?_)))))
 ·
  refine E.sr (E.op (E.pt g5) (E.li (E.i i.op) 1 rfl rfl (E.op (E.i (Z673c i)) (E.op (E.pj g1 17) (E.li (E.u s.f) 3 rfl rfl (E.ca (.bool (W.cond (Z673c i) s.f)) (fun w h => rCond_any (Z673c i) s.f w) (E.op (.bool (W.cond (Z673c i) s.f)) (E.To.code (E.wk [(2, E.pt g1), (4, E.pt g2), (6, E.pt g5), (7, E.pt g6), (8, .bool (W.cond (Z673c i) s.f))] [(g6, (K5.wk (K.w0 s i) m)), (g5, (Z673a i)), (g2, Z673b), (g1, (Q.S.cells s))] Nz.sub (E.sr (E.op (.bool (W.cond (Z673c i) s.f)) ?_)))))))))))
  refine E.To.code (E.cd (W.cond (IntKind.wrap .i64 (i.op - 96)) s.f) (fun hc21 => ?_) (fun hc21 => ?_))
  ·
   refine E.C.held (E.Hp (oo) w (A.X w oo aa [R.It m V]) [(g5, (Z673a i)), (g2, Z673b), (g1, (Q.S.cells s))]) Nz.k (E.ta 0 (E.pt g6) rfl (E.ta 1 (E.pt g6) rfl (E.ta 2 (E.pt g6) rfl (E.ta 3 (E.pj g6 24) rfl (E.ta 4 (E.pj g6 24) rfl (E.ta 6 (E.pj g5 5) rfl (E.tb 7 (E.u i.imm) rfl (fun w h => E.run_load h 0 rfl rfl Nz.k) (E.al 5 rfl (E.li (E.u (((K.w0 s i).s).pc)) 0 rfl rfl (E.bk (E.ta 8 (E.u (IntKind.wrap .u32 ((((K.w0 s i).s).pc) + i.imm))) rfl ?_)))))))))))
   exact E.ta 9 (E.pt g6) rfl (E.ta 10 (E.pj g6 24) rfl (E.ta 11 (E.pj g6 24) rfl (E.al 12 rfl (E.st 0 (K5.wk (⟨((K.w0 s i).u), ⟨(IntKind.wrap .u32 ((((K.w0 s i).s).pc) + i.imm)), ((K.w0 s i).s).r, ((K.w0 s i).s).f, ((K.w0 s i).s).c, ((K.w0 s i).s).st, ((K.w0 s i).s).du⟩, ((K.w0 s i).i), (K.w0 s i).k, (K.w0 s i).t⟩) m) rfl rfl (E.bk (E.H.done Nz.k (E.P.nb (fun a w h1 h2 => dn _ _ _ (rest (⟨((K.w0 s i).u), ⟨(IntKind.wrap .u32 ((((K.w0 s i).s).pc) + i.imm)), ((K.w0 s i).s).r, ((K.w0 s i).s).f, ((K.w0 s i).s).c, ((K.w0 s i).s).st, ((K.w0 s i).s).du⟩, ((K.w0 s i).i), (K.w0 s i).k, (K.w0 s i).t⟩, V) (by unfold K5.stepI; rw [hc4, N0, hc8, N0, hc10, N0, hc12, N0, hc14, N0, hc16, N0, hc18, N0, hc20, N1, hc21, N1] <;> rfl)) a w (h1.sub ⟨Nz.k, Nz.k⟩) (h2.less Nz.sub)))))))))
  exact E.C.skip (E.P.nb (fun a w h1 h2 => dn _ _ _ (rest (K.w0 s i, V) (by unfold K5.stepI; rw [hc4, N0, hc8, N0, hc10, N0, hc12, N0, hc14, N0, hc16, N0, hc18, N0, hc20, N1, hc21, N0] <;> rfl)) a w (h1.sub ⟨Nz.k, Nz.k⟩) (h2.less Nz.sub)))
 exact E.C.region (E.op (E.pt g6) (A.gc (fun _ => .tuple #[]) (Control5 (b := g6) (m := m) (K.w0 s i) V (K.w0_wf hs) (hi (K.eq0 hc4)) hV) [0, 4] [1, 2, 3] [0, 2, 3, 4, 1] (fun _ => [(g6, (K5.wk ((K5.control (K.w0 s i) V).1) m)), (g5, (Z673a i)), (g2, Z673b), (g1, (Q.S.cells s))]) (fun _ => [R.It m ((K5.control (K.w0 s i) V).2)]) (fun _ hd22 => E.P.nb (fun a w h1 h2 => dn _ _ _ (rest ((K5.control (K.w0 s i) V).1, (K5.control (K.w0 s i) V).2) (by unfold K5.stepI; rw [hc4, N0, hc8, N0, hc10, N0, hc12, N0, hc14, N0, hc16, N0, hc18, N0, hc20, N0] <;> rfl)) a w (h1.sub ⟨Nz.k, Nz.k⟩) (h2.less Nz.sub)))))
theorem K5.carry {f : Int} (hf : 0 ≤ f ∧ f < 4294967296) : IntKind.wrap .i64 (bits .and .u32 (Int.fdiv f (2 ^ 1)) 1) = f / 2 % 2 ∧ Int.tmod (IntKind.wrap .u32 (Int.tdiv f 2)) 2 = f / 2 % 2 := by
  have e1 : Int.fdiv f (2 ^ 1) = f / 2 := Int.fdiv_eq_ediv_of_nonneg f (by decide)
  have e2 : bits .and .u32 (f / 2) 1 = f / 2 % 2 := W.and_mask 1 (by decide) (f / 2) (by omega) (by omega)
  have e3 : Int.tdiv f 2 = f / 2 := Int.tdiv_eq_ediv_of_nonneg hf.1
  have e4 : IntKind.wrap .u32 (f / 2) = f / 2 := by show (f / 2) % 4294967296 = f / 2; omega
  refine ⟨?_, ?_⟩
  · rw [e1, e2, IntWalk.i64_in _ (by omega)]
  · rw [e3, e4, Int.tmod_eq_emod_of_nonneg (by omega)]
theorem K5.divw {a b : Int} (ha : 0 ≤ a ∧ a < 4294967296) (hb : 0 ≤ b ∧ b < 4294967296) : IntKind.wrap .u32 (Int.tdiv a b) = a / b := by
  rw [Int.tdiv_eq_ediv_of_nonneg ha.1]
  show (a / b) % 4294967296 = a / b
  have h1 : 0 ≤ a / b := Int.ediv_nonneg ha.1 hb.1
  have h2 : a / b ≤ a := Int.ediv_le_self b ha.1
  omega
/-- What an operation of the reference makes of a step. -/
def K5.app (x : K.W) (A : K5.A) : K.W := bif A.z then ⟨x.u, x.s, x.i, 6, 0⟩ else ⟨x.u, ⟨x.s.pc, bif A.st then Q.up x.s.r x.i.d.toNat A.v else x.s.r, bif A.se then A.f else x.s.f, x.s.c, x.s.st, x.s.du⟩, x.i, x.k, x.t⟩
theorem K.arith_eq (x : K.W) {o b : Int} (ho : 32 ≤ o ∧ o ≤ 46) (ha : 0 ≤ x.s.r x.i.d.toNat ∧ x.s.r x.i.d.toNat < 4294967296) (hb : 0 ≤ b ∧ b < 4294967296) (hf : 0 ≤ x.u.f ∧ x.u.f < 4294967296) : K.arith x o b = K5.app x (K5.alu o (x.s.r x.i.d.toNat) b x.u.f) := by
  obtain ⟨q1, q2⟩ := K5.carry hf
  have hc : x.u.f / 2 % 2 = 0 ∨ x.u.f / 2 % 2 = 1 := by omega
  unfold K.arith K5.alu
  rw [q1, q2, K5.divw ha hb]
  generalize x.u.f / 2 % 2 = c at hc
  generalize (b == 0) = z
  rcases hc with rfl | rfl <;> cases z
  all_goals
    rcases (by omega : o = 32 ∨ o = 33 ∨ o = 34 ∨ o = 35 ∨ o = 36 ∨ o = 37 ∨ o = 38 ∨ o = 39 ∨ o = 40 ∨ o = 41 ∨ o = 42 ∨ o = 43 ∨ o = 44 ∨ o = 45 ∨ o = 46) with rfl | rfl | rfl | rfl | rfl | rfl | rfl | rfl | rfl | rfl | rfl | rfl | rfl | rfl | rfl
    all_goals (show _ = _; kernel_rfl)
/-- A step's result as the reference tells it, and as kcpu tells it. -/
abbrev K5.f5 (s : Q.S) (y : K.W × M.V) : Q.S × Int × Int × M.V := bif (y.1.k != 0) then (s, y.1.k, y.1.t, y.2) else (y.1.s, 0, 0, y.2)
abbrev K5.fk (s : Q.S) (y : K.W × M.V) : Q.S × Int × Int × M.V := bif (y.1.k != 0) then (s, y.1.k, y.1.t, y.2) else (y.1.s, y.1.k, y.1.t, y.2)
section
variable (u : Q.S) (n : Q.S) (r c : Nat → Int) (i : K.Ins) (s : Q.S) (V : M.V) (a : Int) (D : Nat)
/-- A load whose value goes into a state. -/
theorem K5.ld_f (x y : K.W) (hk : x.k = 0) (ht : x.t = 0) (g : Int → Q.S) (m : Int) : K5.f5 s (⟨x.u, g (V.load a.toNat m).1, x.i, (K5.lk x V a m).1, (K5.lk x V a m).2⟩, V) = K5.fk s (bif (!((V.load a.toNat m).2.2)) then (K.fault y (V.load a.toNat m).2.1, V) else (⟨x.u, g (V.load a.toNat m).1, x.i, x.k, x.t⟩, V)) := by
  obtain ⟨xu, xs, xi, xk, xt⟩ := x
  obtain rfl : xk = 0 := hk
  obtain rfl : xt = 0 := ht
  unfold K5.lk
  generalize V.load a.toNat m = L
  obtain ⟨v, b, _ | _⟩ := L <;> (show _ = _; kernel_rfl)
/-- A store. -/
theorem K5.st_f (x : K.W) (z : Q.S) (hk : x.k = 0) (ht : x.t = 0) (m v : Int) : K5.f5 s (⟨x.u, z, x.i, (K5.sk x V a m v).1, (K5.sk x V a m v).2.1⟩, (K5.sk x V a m v).2.2) = K5.fk s (K.put ⟨x.u, z, x.i, x.k, x.t⟩ V a m v) := by
  obtain ⟨xu, xs, xi, xk, xt⟩ := x
  obtain rfl : xk = 0 := hk
  obtain rfl : xt = 0 := ht
  unfold K5.sk K.put
  generalize V.chk a.toNat 2 m = C
  generalize V.sto a.toNat m v = W
  obtain ⟨b, _ | _⟩ := C <;> (show _ = _; kernel_rfl)
/-- A store, behind it a state. -/
theorem K5.st_g (x : K.W) (z : Q.S) (g : Q.S → Q.S) (hk : x.k = 0) (ht : x.t = 0) (m v : Int) : K5.f5 s (⟨x.u, g z, x.i, (K5.sk x V a m v).1, (K5.sk x V a m v).2.1⟩, (K5.sk x V a m v).2.2) = K5.fk s (⟨(K.put ⟨x.u, z, x.i, x.k, x.t⟩ V a m v).1.u, g (K.put ⟨x.u, z, x.i, x.k, x.t⟩ V a m v).1.s, (K.put ⟨x.u, z, x.i, x.k, x.t⟩ V a m v).1.i, (K.put ⟨x.u, z, x.i, x.k, x.t⟩ V a m v).1.k, (K.put ⟨x.u, z, x.i, x.k, x.t⟩ V a m v).1.t⟩, (K.put ⟨x.u, z, x.i, x.k, x.t⟩ V a m v).2) := by
  obtain ⟨xu, xs, xi, xk, xt⟩ := x
  obtain rfl : xk = 0 := hk
  obtain rfl : xt = 0 := ht
  unfold K5.sk K.put
  generalize V.chk a.toNat 2 m = C
  generalize V.sto a.toNat m v = W
  obtain ⟨b, _ | _⟩ := C <;> (show _ = _; kernel_rfl)
/-- An addition to memory. -/
theorem K5.md_f (x : K.W) (hk : x.k = 0) (ht : x.t = 0) (p : Int) : K5.f5 s (⟨x.u, ⟨x.s.pc, x.s.r, W.flags 1 (V.load a.toNat 4).1 p, x.s.c, x.s.st, x.s.du⟩, x.i, (K5.sk (⟨x.u, x.s, x.i, (K5.lk x V a 4).1, (K5.lk x V a 4).2⟩ : K.W) V a 4 (IntKind.wrap .u32 ((V.load a.toNat 4).1 + p))).1, (K5.sk (⟨x.u, x.s, x.i, (K5.lk x V a 4).1, (K5.lk x V a 4).2⟩ : K.W) V a 4 (IntKind.wrap .u32 ((V.load a.toNat 4).1 + p))).2.1⟩, (K5.sk (⟨x.u, x.s, x.i, (K5.lk x V a 4).1, (K5.lk x V a 4).2⟩ : K.W) V a 4 (IntKind.wrap .u32 ((V.load a.toNat 4).1 + p))).2.2) = K5.fk s (K.ga4 x V a 4 p) := by
  obtain ⟨xu, xs, xi, xk, xt⟩ := x
  obtain rfl : xk = 0 := hk
  obtain rfl : xt = 0 := ht
  unfold K5.lk K.ga4 K.a4
  generalize V.load a.toNat 4 = L
  obtain ⟨v, b, _ | _⟩ := L
  · show _ = _; kernel_rfl
  · exact K5.st_f s V a ⟨xu, xs, xi, 0, 0⟩ ⟨xs.pc, xs.r, W.flags 1 v p, xs.c, xs.st, xs.du⟩ rfl rfl 4 _
end
/-- A register's place in a state that goes on. -/
abbrev K5.gr (x : K.W) (r : Nat → Int) : Q.S := ⟨x.s.pc, r, x.s.f, x.s.c, x.s.st, x.s.du⟩
section
variable (s : Q.S) (V : M.V) (i : K.Ins)
theorem K5.mem_eq {o : Int} (ho : 80 ≤ o ∧ o ≤ 86) : K5.f5 s (K5.memory (K.w0 s i) V o) = K5.fk s (K.access (K.w0 s i) V o) := by
  have e : K5.ea (K.w0 s i) = K5.ea (K.w0 s i) := rfl
  generalize K5.ea (K.w0 s i) = a at e
  rcases (by omega : o = 80 ∨ o = 81 ∨ o = 82 ∨ o = 83 ∨ o = 84 ∨ o = 85 ∨ o = 86) with rfl | rfl | rfl | rfl | rfl | rfl | rfl
  · refine Eq.trans ?_ ((K5.ld_f s V (K5.ea (K.w0 s i)) (K.w0 s i) (K.w0 s i) rfl rfl (fun v => K5.gr (K.w0 s i) (Q.up s.r i.d.toNat v)) 4).trans ?_) <;> (show _ = _; kernel_rfl)
  · refine Eq.trans ?_ ((K5.st_f s V (K5.ea (K.w0 s i)) (K.w0 s i) (K.w0 s i).s rfl rfl 4 (s.r i.d.toNat)).trans ?_) <;> (show _ = _; kernel_rfl)
  · refine Eq.trans ?_ ((K5.ld_f s V (K5.ea (K.w0 s i)) (K.w0 s i) (K.w0 s i) rfl rfl (fun v => K5.gr (K.w0 s i) (Q.up s.r i.d.toNat v)) 1).trans ?_) <;> (show _ = _; kernel_rfl)
  · refine Eq.trans ?_ ((K5.st_f s V (K5.ea (K.w0 s i)) (K.w0 s i) (K.w0 s i).s rfl rfl 1 (s.r i.d.toNat)).trans ?_) <;> (show _ = _; kernel_rfl)
  · refine Eq.trans ?_ ((K5.ld_f s V (K5.ea (K.w0 s i)) (K.w0 s i) (K.w0 s i) rfl rfl (fun v => ⟨(K.w0 s i).s.pc, Q.up s.r i.d.toNat (IntKind.wrap .u32 (s.r i.d.toNat + v)), W.flags 1 (s.r i.d.toNat) v, s.c, (K.w0 s i).s.st, s.du⟩) 4).trans ?_) <;> (show _ = _; kernel_rfl)
  · refine Eq.trans ?_ ((K5.md_f s V (K5.ea (K.w0 s i)) (K.w0 s i) rfl rfl (s.r i.d.toNat)).trans ?_) <;> (show _ = _; kernel_rfl)
  · show _ = _; kernel_rfl
theorem K5.single_eq : K5.f5 s (K5.single (K.w0 s i) V) = K5.fk s (K.single (K.w0 s i) V) := by
  by_cases h : i.op = 16 ∨ i.op = 17 ∨ i.op = 18 ∨ i.op = 19 ∨ i.op = 20 ∨ i.op = 21
  · obtain ⟨o, d, j, ix, sc, imm, sz⟩ := i
    rcases h with h | h | h | h | h | h <;> (obtain rfl : o = _ := h)
    · refine Eq.trans ?_ ((K5.st_f s V (IntKind.wrap .u32 (s.r 7 - 4)) (K.w0 s ⟨16, d, j, ix, sc, imm, sz⟩) (K5.gr (K.w0 s ⟨16, d, j, ix, sc, imm, sz⟩) (Q.up s.r 7 (IntKind.wrap .u32 (s.r 7 - 4)))) rfl rfl 4 (s.r d.toNat)).trans ?_) <;> (show _ = _; kernel_rfl)
    · refine Eq.trans ?_ ((K5.ld_f s V (s.r 7) (K.w0 s ⟨17, d, j, ix, sc, imm, sz⟩) ⟨s, K5.gr (K.w0 s ⟨17, d, j, ix, sc, imm, sz⟩) (Q.up s.r 7 (IntKind.wrap .u32 (s.r 7 + 4))), ⟨17, d, j, ix, sc, imm, sz⟩, 0, 0⟩ rfl rfl (fun v => K5.gr (K.w0 s ⟨17, d, j, ix, sc, imm, sz⟩) (Q.up (Q.up s.r 7 (IntKind.wrap .u32 (s.r 7 + 4))) d.toNat v)) 4).trans ?_) <;> (show _ = _; kernel_rfl)
    · show _ = _; kernel_rfl
    · show _ = _; kernel_rfl
    · show _ = _; kernel_rfl
    · refine Eq.trans ?_ ((K5.st_g s V (IntKind.wrap .u32 (s.r 7 - 4)) (K.w0 s ⟨21, d, j, ix, sc, imm, sz⟩) (K5.gr (K.w0 s ⟨21, d, j, ix, sc, imm, sz⟩) (Q.up s.r 7 (IntKind.wrap .u32 (s.r 7 - 4)))) (fun z => ⟨s.r d.toNat, z.r, z.f, z.c, z.st, z.du⟩) rfl rfl 4 (K.w0 s ⟨21, d, j, ix, sc, imm, sz⟩).s.pc).trans ?_) <;> (show _ = _; kernel_rfl)
  · have hn : ∀ n : Int, (n = 16 ∨ n = 17 ∨ n = 18 ∨ n = 19 ∨ n = 20 ∨ n = 21) → ((K.w0 s i).i.op == n) = false := fun n hn => by
      show (i.op == n) = false
      simp only [beq_eq_false_iff_ne, ne_eq]
      omega
    unfold K5.single K.single
    rw [hn 16 (by omega), hn 17 (by omega), hn 18 (by omega), hn 19 (by omega), hn 20 (by omega), hn 21 (by omega)]
    show _ = _; kernel_rfl
theorem K5.set4 (h1 : i.op = 130) (h2 : i.s = 4) : K5.f5 s (K5.control (K.w0 s i) V) = K5.fk s (K.control (K.w0 s i) V) := by
  obtain ⟨o, d, j, ix, sc, imm, sz⟩ := i
  obtain rfl : o = 130 := h1
  obtain rfl : j = 4 := h2
  refine Eq.trans (b := (fun b : Bool => K5.f5 s (bif b then (⟨s, ⟨(K.w0 s ⟨130, d, 4, ix, sc, imm, sz⟩).s.pc, s.r, s.f, s.c, (K.w0 s ⟨130, d, 4, ix, sc, imm, sz⟩).s.st, IntKind.wrap .i64 ((IntKind.wrap .i64 (s.st + 1)) + (IntKind.wrap .i64 (s.r d.toNat)))⟩, ⟨130, d, 4, ix, sc, imm, sz⟩, 0, 0⟩, V) else (⟨s, ⟨(K.w0 s ⟨130, d, 4, ix, sc, imm, sz⟩).s.pc, s.r, s.f, s.c, (K.w0 s ⟨130, d, 4, ix, sc, imm, sz⟩).s.st, 0⟩, ⟨130, d, 4, ix, sc, imm, sz⟩, 0, 0⟩, V))) (s.r d.toNat != 0)) (by show _ = _; kernel_rfl) ?_
  refine Eq.trans (b := (fun b : Bool => K5.fk s (bif b then (⟨s, ⟨(K.w0 s ⟨130, d, 4, ix, sc, imm, sz⟩).s.pc, s.r, s.f, s.c, (K.w0 s ⟨130, d, 4, ix, sc, imm, sz⟩).s.st, IntKind.wrap .i64 ((IntKind.wrap .i64 (s.st + 1)) + (IntKind.wrap .i64 (s.r d.toNat)))⟩, ⟨130, d, 4, ix, sc, imm, sz⟩, 0, 0⟩, V) else (⟨s, ⟨(K.w0 s ⟨130, d, 4, ix, sc, imm, sz⟩).s.pc, s.r, s.f, s.c, (K.w0 s ⟨130, d, 4, ix, sc, imm, sz⟩).s.st, 0⟩, ⟨130, d, 4, ix, sc, imm, sz⟩, 0, 0⟩, V))) (s.r d.toNat != 0)) ?_ (by show _ = _; kernel_rfl)
  generalize (s.r d.toNat != 0) = b
  cases b <;> (show _ = _; kernel_rfl)
theorem K5.control_eq (hi : K.iok i) : K5.f5 s (K5.control (K.w0 s i) V) = K5.fk s (K.control (K.w0 s i) V) := by
  by_cases h : i.op = 1 ∨ i.op = 2 ∨ i.op = 3 ∨ i.op = 4 ∨ i.op = 112 ∨ i.op = 113 ∨ i.op = 128 ∨ i.op = 129 ∨ i.op = 130
  · have hs := hi.s
    clear hi
    obtain ⟨o, d, j, ix, sc, imm, sz⟩ := i
    have hs : 0 ≤ j ∧ j < 8 := hs
    rcases h with h | h | h | h | h | h | h | h | h <;> (obtain rfl : o = _ := h)
    · refine Eq.trans ?_ ((K5.ld_f s V (s.r 7) (K.w0 s ⟨1, d, j, ix, sc, imm, sz⟩) ⟨s, K5.gr (K.w0 s ⟨1, d, j, ix, sc, imm, sz⟩) (Q.up s.r 7 (IntKind.wrap .u32 (s.r 7 + 4))), ⟨1, d, j, ix, sc, imm, sz⟩, 0, 0⟩ rfl rfl (fun v => ⟨v, Q.up s.r 7 (IntKind.wrap .u32 (s.r 7 + 4)), s.f, s.c, (K.w0 s ⟨1, d, j, ix, sc, imm, sz⟩).s.st, s.du⟩) 4).trans ?_) <;> (show _ = _; kernel_rfl)
    · show _ = _; kernel_rfl
    · show _ = _; kernel_rfl
    · show _ = _; kernel_rfl
    · show _ = _; kernel_rfl
    · refine Eq.trans ?_ ((K5.st_g s V (IntKind.wrap .u32 (s.r 7 - 4)) (K.w0 s ⟨113, d, j, ix, sc, imm, sz⟩) (K5.gr (K.w0 s ⟨113, d, j, ix, sc, imm, sz⟩) (Q.up s.r 7 (IntKind.wrap .u32 (s.r 7 - 4)))) (fun z => ⟨IntKind.wrap .u32 (z.pc + imm), z.r, z.f, z.c, z.st, z.du⟩) rfl rfl 4 (K.w0 s ⟨113, d, j, ix, sc, imm, sz⟩).s.pc).trans ?_)
      · show _ = _; kernel_rfl
      · show _ = _; kernel_rfl
    · show _ = _; kernel_rfl
    · show _ = _; kernel_rfl
    · rcases (by omega : j = 0 ∨ j = 1 ∨ j = 4 ∨ j = 2 ∨ j = 3 ∨ j = 5 ∨ j = 6 ∨ j = 7) with rfl | rfl | rfl | rfl | rfl | rfl | rfl | rfl
      · show _ = _; kernel_rfl
      · show _ = _; kernel_rfl
      · exact K5.set4 s V _ rfl rfl
      all_goals (show _ = _; kernel_rfl)
  · have hn : ∀ n : Int, (n = 1 ∨ n = 2 ∨ n = 3 ∨ n = 4 ∨ n = 112 ∨ n = 113 ∨ n = 128 ∨ n = 129 ∨ n = 130) → ((K.w0 s i).i.op == n) = false := fun n hn => by
      show (i.op == n) = false
      simp only [beq_eq_false_iff_ne, ne_eq]
      omega
    unfold K5.control K.control
    rw [hn 1 (by omega), hn 2 (by omega), hn 3 (by omega), hn 4 (by omega), hn 112 (by omega), hn 113 (by omega), hn 128 (by omega), hn 129 (by omega), hn 130 (by omega)]
    show _ = _; kernel_rfl
theorem K5.arith_eq {o b : Int} (ho : 32 ≤ o ∧ o ≤ 46) (ha : 0 ≤ s.r i.d.toNat ∧ s.r i.d.toNat < 4294967296) (hb : 0 ≤ b ∧ b < 4294967296) (hf : 0 ≤ s.f ∧ s.f < 4294967296) : K5.f5 s (K5.arith (K.w0 s i) o b, V) = K5.fk s (K.arith (K.w0 s i) o b, V) := by
  rw [K.arith_eq (K.w0 s i) ho ha hb hf]
  show K5.f5 s (K5.arith (K.w0 s i) o b, V) = K5.fk s (K5.app (K.w0 s i) (K5.alu o (s.r i.d.toNat) b s.f), V)
  unfold K5.arith
  rw [show (K.w0 s i).u.r (K.w0 s i).i.d.toNat = s.r i.d.toNat from rfl, show (K.w0 s i).u.f = s.f from rfl]
  generalize K5.alu o (s.r i.d.toNat) b s.f = A
  obtain ⟨v, f, _ | _, _ | _, _ | _⟩ := A <;> (show _ = _; kernel_rfl)
end
/-- One step of the reference. -/
def K5.step (s : Q.S) (V : M.V) : Q.S × Int × Int × M.V := K5.stepI (K.fetch V s.pc).1 (K.fetch V s.pc).2.1 (K.fetch V s.pc).2.2 s V
theorem K5.rT {a b o : Int} (h1 : a ≤ o) (h2 : o ≤ b) : (decide (o ≥ a) && decide (o ≤ b)) = true := by simp; omega
theorem K5.rF {a b o : Int} (h : o < a ∨ b < o) : (decide (o ≥ a) && decide (o ≤ b)) = false := by simp; omega
theorem K5.qT {a b o : Int} (h1 : a ≤ o) (h2 : o < b) : (decide (o ≥ a) && decide (o < b)) = true := by simp; omega
theorem K5.qF {a b o : Int} (h : o < a ∨ b ≤ o) : (decide (o ≥ a) && decide (o < b)) = false := by simp; omega
theorem K5.stepI_eq {i : K.Ins} {k t : Int} {s : Q.S} {V : M.V} (hi : (k == 0) = true → K.iok i) (hs : Q.wf s) (hf : 0 ≤ s.f ∧ s.f < 4294967296) : K5.stepI i k t s V = K.stepI i k t s V := by
  cases hk : (k != 0)
  · have hI := hi (by simpa using hk)
    unfold K5.stepI K.stepI
    rw [hk]
    rcases K.fmt_cases i.op with ⟨_, h⟩ | ⟨_, h, h1, h2⟩ | ⟨_, h, h1, h2⟩ | ⟨_, h, h1, h2⟩ | ⟨_, h, h1, h2⟩ | ⟨_, h, h1, h2⟩ | ⟨_, h, h1, h2⟩ | ⟨_, h, h1, h2⟩ | ⟨_, h, h1, h2⟩ | ⟨_, h, h1, h2⟩ | ⟨_, h, h1⟩ | ⟨_, h, h1⟩ | ⟨_, h, h1⟩
    all_goals rw [h]
    · have hz : ∀ {c : Bool} {a x : Int}, (bif c then a else x) = 0 → a ≠ 0 → c = false ∧ x = 0 := fun {c a x} h h0 => by cases c; exact ⟨rfl, h⟩; exact absurd h h0
      unfold R2.Format at h
      obtain ⟨-, h⟩ := hz h (by decide)
      obtain ⟨q1, h⟩ := hz h (by decide)
      obtain ⟨q2, h⟩ := hz h (by decide)
      obtain ⟨q3, h⟩ := hz h (by decide)
      obtain ⟨q4, h⟩ := hz h (by decide)
      obtain ⟨q5, h⟩ := hz h (by decide)
      obtain ⟨q6, h⟩ := hz h (by decide)
      obtain ⟨q7, -⟩ := hz h (by decide)
      have q8 : (decide (i.op ≥ 96) && decide (i.op < 110)) = false := by rw [← q7]; congr 1; exact decide_eq_decide.2 (by omega)
      rw [q1, q2, q3, q4, q5, q6, q8]
      exact K5.control_eq s V i hI
    · rw [K5.rF (a := 32) (b := 46) (by omega), K5.rF (a := 48) (b := 62) (by omega), K5.rF (a := 64) (b := 78) (by omega), K5.rF (a := 80) (b := 86) (by omega), K5.rF (a := 88) (b := 94) (by omega), K5.rF (a := 16) (b := 21) (by omega), K5.qF (a := 96) (b := 110) (by omega)]
      exact K5.control_eq s V i hI
    · rw [K5.rF (a := 32) (b := 46) (by omega), K5.rF (a := 48) (b := 62) (by omega), K5.rF (a := 64) (b := 78) (by omega), K5.rF (a := 80) (b := 86) (by omega), K5.rF (a := 88) (b := 94) (by omega), K5.rT (a := 16) (b := 21) h1 h2]
      exact K5.single_eq s V i
    · rw [K5.rT (a := 32) (b := 46) h1 h2]
      exact K5.arith_eq s V i ⟨h1, h2⟩ (hs.r _) (hs.r _) hf
    · rw [K5.rF (a := 32) (b := 46) (by omega), K5.rT (a := 48) (b := 62) h1 h2]
      exact K5.arith_eq s V i (by rw [IntWalk.i64_in _ (by omega)]; omega) (hs.r _) hI.imm hf
    · rw [K5.rF (a := 32) (b := 46) (by omega), K5.rF (a := 48) (b := 62) (by omega), K5.rT (a := 64) (b := 78) h1 h2]
      exact K5.arith_eq s V i (by rw [IntWalk.i64_in _ (by omega)]; omega) (hs.r _) hI.imm hf
    · rw [K5.rF (a := 32) (b := 46) (by omega), K5.rF (a := 48) (b := 62) (by omega), K5.rF (a := 64) (b := 78) (by omega), K5.rT (a := 80) (b := 86) h1 h2]
      exact K5.mem_eq s V i ⟨h1, h2⟩
    · rw [K5.rF (a := 32) (b := 46) (by omega), K5.rF (a := 48) (b := 62) (by omega), K5.rF (a := 64) (b := 78) (by omega), K5.rF (a := 80) (b := 86) (by omega), K5.rT (a := 88) (b := 94) h1 h2]
      exact K5.mem_eq s V i (by rw [IntWalk.i64_in _ (by omega)]; omega)
    · rw [K5.rF (a := 32) (b := 46) (by omega), K5.rF (a := 48) (b := 62) (by omega), K5.rF (a := 64) (b := 78) (by omega), K5.rF (a := 80) (b := 86) (by omega), K5.rF (a := 88) (b := 94) (by omega), K5.rF (a := 16) (b := 21) (by omega), K5.qT (a := 96) (b := 110) h1 (by omega)]
      cases W.cond (IntKind.wrap .i64 (i.op - 96)) s.f <;> rfl
    all_goals
      rw [K5.rF (a := 32) (b := 46) (by omega), K5.rF (a := 48) (b := 62) (by omega), K5.rF (a := 64) (b := 78) (by omega), K5.rF (a := 80) (b := 86) (by omega), K5.rF (a := 88) (b := 94) (by omega), K5.rF (a := 16) (b := 21) (by omega), K5.qF (a := 96) (b := 110) (by omega)]
      exact K5.control_eq s V i hI
  · unfold K5.stepI K.stepI
    rw [hk]
    rfl
theorem K5.step_eq {s : Q.S} {V : M.V} (hs : Q.wf s) (hf : 0 ≤ s.f ∧ s.f < 4294967296) : K5.step s V = K.step s V := K5.stepI_eq K.fetch_ok hs hf
/-- The flags stay a word. -/
def K.fb (s : Q.S) : Prop := 0 ≤ s.f ∧ s.f < 4294967296
theorem K.fl_bd (k a b : Int) : 0 ≤ W.flags k a b ∧ W.flags k a b < 4294967296 := by
  have := W.flags_bd k a b; omega
section
variable {x : K.W} {V : M.V} (hx : K.fb x.s)
include hx
theorem K.put_fb (a n v : Int) : K.fb (K.put x V a n v).1.s := Q.bifP (p := fun y : K.W × M.V => K.fb y.1.s) (fun _ => hx) (fun _ => hx)
theorem K.push_fb (v : Int) : K.fb (K.push x V v).1.s := by
  show K.fb (K.put _ V _ 4 v).1.s
  refine K.put_fb ?_ _ _ _
  exact hx
end
theorem K.a3_fb (x : K.W) (D p v : Int) : K.fb (K.a3 x D p v).s := K.fl_bd 1 p v
theorem K.flags_fb (x : K.W) (k p v : Int) : K.fb (K.flags x k p v).s := K.fl_bd k p v
theorem K.stepI_fb {i : K.Ins} {k t : Int} {s : Q.S} {V : M.V} (hs : K.fb s) : K.fb (K.stepI i k t s V).1 := by
  let p : Q.S × Int × Int × M.V → Prop := fun x => K.fb x.1
  let q : K.W × M.V → Prop := fun y => K.fb y.1.s
  show p (K.stepI i k t s V)
  unfold K.stepI
  have hx : K.fb (K.w0 s i).s := hs
  have b2 : ∀ {c : Bool} {y : K.W × M.V}, q y → p (bif c then (s, y.1.k, y.1.t, y.2) else (y.1.s, y.1.k, y.1.t, y.2)) := fun h => Q.bifP (p := p) (fun _ => hs) fun _ => h
  have b1 : ∀ {c : Bool} {y : K.W}, K.fb y.s → p (bif c then (s, y.k, y.t, V) else (y.s, y.k, y.t, V)) := fun h => Q.bifP (p := p) (fun _ => hs) fun _ => h
  have hA : ∀ o b, K.fb (K.arith (K.w0 s i) o b).s := fun o b => by
    let r : K.W → Prop := fun y => K.fb y.s
    show r (K.arith (K.w0 s i) o b)
    unfold K.arith
    refine Q.bifP (p := r) (fun _ => hx) fun _ => ?_
    refine Q.bifP (p := r) (fun _ => ?_) fun _ => ?_
    · exact Q.bifP (p := r) (fun _ => K.fl_bd _ _ _) fun _ => hx
    · exact Q.bifP (p := r) (fun _ => K.fl_bd _ _ _) fun _ => hx
  have hM : ∀ o, q (K.access (K.w0 s i) V o) := fun o => by
    unfold K.access
    refine Q.bifP (p := q) (fun _ => Q.bifP (p := q) (fun _ => hx) fun _ => hx) fun _ => ?_
    refine Q.bifP (p := q) (fun _ => Q.bifP (p := q) (fun _ => hx) fun _ => hx) fun _ => ?_
    refine Q.bifP (p := q) (fun _ => K.put_fb hx _ _ _) fun _ => ?_
    refine Q.bifP (p := q) (fun _ => K.put_fb hx _ _ _) fun _ => ?_
    refine Q.bifP (p := q) (fun _ => hx) fun _ => ?_
    refine Q.bifP (p := q) (fun _ => Q.bifP (p := q) (fun _ => hx) fun _ => K.a3_fb _ _ _ _) fun _ => ?_
    exact Q.bifP (p := q) (fun _ => Q.bifP (p := q) (fun _ => hx) fun _ => K.put_fb (K.flags_fb _ _ _ _) _ _ _) fun _ => hx
  have hS : q (K.single (K.w0 s i) V) := by
    unfold K.single
    refine Q.bifP (p := q) (fun _ => K.push_fb hx _) fun _ => ?_
    refine Q.bifP (p := q) (fun _ => Q.bifP (p := q) (fun _ => hx) fun _ => hx) fun _ => ?_
    refine Q.bifP (p := q) (fun _ => K.fl_bd 3 0 (s.r i.d.toNat)) fun _ => ?_
    refine Q.bifP (p := q) (fun _ => K.fl_bd 5 (bits .xor .u32 4294967295 (s.r i.d.toNat)) 0) fun _ => ?_
    refine Q.bifP (p := q) (fun _ => (K.push_fb hx _ : _)) fun _ => ?_
    exact Q.bifP (p := q) (fun _ => hx) fun _ => hx
  have hC : q (K.control (K.w0 s i) V) := by
    unfold K.control
    refine Q.bifP (p := q) (fun _ => Q.bifP (p := q) (fun _ => hx) fun _ => hx) fun _ => ?_
    refine Q.bifP (p := q) (fun _ => hx) fun _ => ?_
    refine Q.bifP (p := q) (fun _ => hx) fun _ => ?_
    refine Q.bifP (p := q) (fun _ => hx) fun _ => ?_
    refine Q.bifP (p := q) (fun _ => (K.push_fb hx _ : _)) fun _ => ?_
    refine Q.bifP (p := q) (fun _ => hx) fun _ => ?_
    refine Q.bifP (p := q) (fun _ => hx) fun _ => ?_
    refine Q.bifP (p := q) (fun _ => hx) fun _ => ?_
    refine Q.bifP (p := q) (fun _ => ?_) fun _ => hx
    refine Q.bifP (p := q) (fun _ => hx) fun _ => ?_
    refine Q.bifP (p := q) (fun _ => hx) fun _ => ?_
    refine Q.bifP (p := q) (fun _ => ?_) fun _ => hx
    exact Q.bifP (p := q) (fun _ => hx) fun _ => hx
  refine Q.bifP (p := p) (fun _ => hs) fun hk => ?_
  refine Q.bifP (p := p) (fun _ => b1 (hA _ _)) fun _ => ?_
  refine Q.bifP (p := p) (fun _ => b1 (hA _ _)) fun _ => ?_
  refine Q.bifP (p := p) (fun _ => b1 (hA _ _)) fun _ => ?_
  refine Q.bifP (p := p) (fun _ => b2 (hM _)) fun _ => ?_
  refine Q.bifP (p := p) (fun _ => b2 (hM _)) fun _ => ?_
  refine Q.bifP (p := p) (fun _ => b2 hS) fun _ => ?_
  refine Q.bifP (p := p) (fun _ => ?_) fun _ => b2 hC
  exact Q.bifP (p := p) (fun _ => Q.bifP (p := p) (fun _ => hs) fun _ => hs) fun _ => Q.bifP (p := p) (fun _ => hs) fun _ => hs
theorem K.step_fb {s : Q.S} {V : M.V} (hs : K.fb s) : K.fb (K.step s V).1 := K.stepI_fb hs
section rules
variable {P : Program} {fr : E.Fr} {its : List A.It}
variable {T : TypeId} {d : Option Nat} {pos : String} {af : Array Edge} {gd : Option (Nat × Bool)}
/-- A whole slice of bytes of known length, as a string. -/
theorem A.Y.strN {w : World} {x : Operand} {a b e : TypeId} {ao : Option Addr} {cap c2 : Nat} {l : List Int} {k n : Nat} (h : A.Y its w) (hk : its[k]? = some (A.vec .u8 ao cap l)) (hs : P.underlying a = some (.slice e)) (he : P.underlying e = some (.int .u8)) (hb : P.underlying b = some .string)
    (hx : E.ev fr x = .slice ao n c2) (hn : l.length = n) (hl : 0 < n) :
    (execOp (E.ev fr) ⟨d, .convert a b x, T, pos, af, gd⟩).run P w = .ok (.value (.string (strOfNums l))) w := by
  subst hn
  exact A.Y.strAll h hk hs he hb hx hl
end rules
def K.fs (z : Int) : Nat → Int
  | 0 => z
  | k + 1 => IntKind.wrap .u32 (IntKind.wrap .u32 (K.fs z k * 1664525) + 1013904223)
def K.fl (z : Int) : Nat → List Int
  | 0 => List.replicate 1024 0
  | k + 1 => (K.fl z k).set k (IntKind.wrap .u8 (Int.fdiv (K.fs z (k + 1)) (2 ^ 24)))
theorem K.fl_len (z : Int) : ∀ k, (K.fl z k).length = 1024
  | 0 => List.length_replicate
  | k + 1 => by rw [K.fl, List.length_set]; exact K.fl_len z k
/-- What Fill returns. -/
def K.fill (z : Int) : ByteArray := strOfNums (K.fl z 1024)
theorem K.fill_size (z : Int) : (K.fill z).size = 1024 := by unfold K.fill; rw [strOfNums_size, K.fl_len]
theorem K.fill_eq {z : Int} {k : Nat} (hk : k ≤ 1024) (h : decide (((k : Nat) : Int) < 1024) = false) : strOfNums (K.fl z k) = K.fill z := by
  have : k = 1024 := by have := of_decide_eq_false h; omega
  subst this; rfl
def K.cl (V : M.V) : Nat → List Int
  | 0 => List.replicate 1024 0
  | k + 1 => (K.cl V k).set k (V.peek k)
theorem K.cl_len (V : M.V) : ∀ k, (K.cl V k).length = 1024
  | 0 => List.length_replicate
  | k + 1 => by rw [K.cl, List.length_set]; exact K.cl_len V k
/-- What content returns. -/
def K.cs (V : M.V) : ByteArray := strOfNums (K.cl V 1024)
theorem K.cs_eq {V : M.V} {k : Nat} (hk : k ≤ 1024) (h : decide (((k : Nat) : Int) < 1024) = false) : strOfNums (K.cl V k) = K.cs V := by
  have : k = 1024 := by have := of_decide_eq_false h; omega
  subst this; rfl
theorem K.w32n {k : Nat} (h : k ≤ 1024) : IntKind.wrap .u32 ((k : Nat) : Int) = ((k : Nat) : Int) := by show ((k : Nat) : Int) % 4294967296 = _; omega
theorem K.kbd {k : Nat} (h : k ≤ 1024) : 0 ≤ ((k : Nat) : Int) ∧ ((k : Nat) : Int) < 4294967296 := by omega
abbrev Zi77a := fun (z : Int) k => (IntKind.wrap .u32 ((IntKind.wrap .u32 ((K.fs z k) * 1664525)) + 1013904223))
theorem Fill5 (z : Int) : A.Tr Tryz.prog 44 #[.int .u32 z, .int .i64 1024] [] (I := Unit) (fun _ => True) (fun _ => .string (K.fill z)) (fun _ => []) := by
 intro w oo aa hh
 refine E.enter (n := 27) (S := oo) Tryz.func44 rfl rfl Nz.k (A.start (L := []) hh) (E.sr (E.op (.string (⟨#[]⟩ : ByteArray)) (E.tr (E.op (E.i 1024) (E.vl (E.i ((1024 : Nat) : Int)) (fun w h => E.run_as (a := E.i (if 1024 > 0 then 1024 else 0)) Nz.k (rfl)) (A.G.make (e := 5) (kd := .u8) (lk := .i64) 1024 1 Nz.k Nz.k Nz.k Nz.pom Nz.pom Nz.k (fun ao1 => E.op (.slice ao1 1024 1024) (E.To.code (E.C.seq (E.sr (E.op (E.i 0) ?_)))))))))))
 refine E.To.code (E.C.block (E.C.loop (I := Nat) (fun k => 1024 - k) (fun k => k ≤ 1024) (fun k => [(0, E.u (K.fs z k)), (4, .string (⟨#[]⟩ : ByteArray)), (5, .slice ao1 1024 1024), (6, E.i ((k : Nat) : Int))]) (fun k => A.X w oo aa [A.vec .u8 ao1 1024 (K.fl z k)]) (fun k => []) 0 (Nat.zero_le _) ⟨Nz.k, Nz.k⟩ Nz.sub (fun _ h => h) (fun k hk1 => E.C.seq (E.sr (E.op (E.i ((k : Nat) : Int)) (E.op (.slice ao1 1024 1024) (E.op (E.i 1024) (E.op (.bool (decide (((k : Nat) : Int) < 1024))) (E.To.code (E.cd (decide (((k : Nat) : Int) < 1024)) (fun hc2 => ?_) (fun hc2 => ?_)))))))))))
 ·
  refine E.C.skip (E.To.code (E.C.seq (E.C.block (E.sr (E.op (E.u (K.fs z k)) (E.op (E.u (IntKind.wrap .u32 ((K.fs z k) * 1664525))) (E.op (E.u (Zi77a z k)) (E.op (E.u (Zi77a z k)) (E.ur (E.op (.slice ao1 1024 1024) (E.op (E.i ((k : Nat) : Int)) (E.op (E.u (Zi77a z k)) ?_))))))))))))
  exact E.op (E.u (Int.fdiv (Zi77a z k) (2 ^ 24))) (E.op (.int .u8 (IntKind.wrap .u8 (Int.fdiv (Zi77a z k) (2 ^ 24)))) (E.vl (.pointer (some ⟨(A.bk ao1), k, none⟩)) (fun w h => A.Y.idx (e := 5) (ik := .i64) (i := k) (len := 1024) (c2 := 1024) (A.X.y h.x) (k := 0) rfl Nz.k Nz.k Nz.k Nz.k Nz.pom (by rw [K.fl_len]; exact Nz.pom)) (A.G.vst (kd := .u8) (ao := ao1) (cap := 1024) (i := k) (xs := (K.fl z k)) (v := (IntKind.wrap .u8 (Int.fdiv (Zi77a z k) (2 ^ 24)))) 0 rfl Nz.k Nz.k Nz.k (by rw [K.fl_len]; exact Nz.pom) Nz.k Nz.k (E.P.nb (E.To.code (E.C.region (E.op (E.i ((k : Nat) : Int)) (E.vl (E.i ((k + 1 : Nat) : Int)) (fun w h => E.run_as (a := E.i (IntKind.wrap .i64 (((k : Nat) : Int) + 1))) Nz.k (congrArg (Value.int .i64) (by exact Nz.add64 (x := k) (y := 1) Nz.pom))) (E.op (E.i ((k + 1 : Nat) : Int)) (E.To.round (k + 1) Nz.pom Nz.pom ⟨Nz.k, Nz.k⟩ Nz.sub (fun _ h => h)))))))))))
 exact E.C.exit (E.P.et (E.P.et (E.P.eh (E.To.code (E.sr (E.op (.slice ao1 1024 1024) (E.vl (.string (K.fill z)) (fun w h => E.run_as (a := .string (strOfNums (K.fl z k))) (A.Y.strN (e := 5) (n := 1024) (c2 := 1024) (A.X.y h.x) (k := 0) rfl Nz.k Nz.k Nz.k Nz.k (K.fl_len _ _) (by decide)) (congrArg Value.string (K.fill_eq hk1 (by assumption)))) (E.op (.string (K.fill z)) (E.To.code (E.wk [(4, .string (K.fill z))] [] Nz.sub (E.C.ret (E.bd Tryz.f44 [.string (K.fill z)] (fun w h => ⟨(), trivial, rfl, A.dq [] [0] h⟩)))))))))))))
theorem Content {c m : Nat} {s : Q.S} {V : M.V} : A.Tr Tryz.prog 33 #[.pointer (some ⟨c, 0, none⟩)] [A.blk c (.pointer (some ⟨m, 0, none⟩) :: Q.S.cells s), M.It m V []] (I := Unit) (fun _ => True) (fun _ => .string (K.cs V)) (fun _ => [A.blk c (.pointer (some ⟨m, 0, none⟩) :: Q.S.cells s), M.It m V []]) := by
 intro w oo aa hh
 refine E.enter (n := 19) (S := oo) Tryz.func33 rfl rfl Nz.k (A.start (L := [(c, (E.pt m :: Q.S.cells s))]) hh) (E.sr (E.op (.string (⟨#[]⟩ : ByteArray)) (E.tr (A.G.make (e := 5) (kd := .u8) (lk := .i64) 1024 1 Nz.k Nz.k Nz.k Nz.pom Nz.pom Nz.k (fun ao1 => E.op (.slice ao1 1024 1024) (E.To.code (E.C.seq (E.sr (E.op (E.i 0) (E.To.code (E.C.block ?_)))))))))))
 refine E.C.loop (I := Nat) (fun k => 1024 - k) (fun k => k ≤ 1024) (fun k => [(0, E.pt c), (2, .string (⟨#[]⟩ : ByteArray)), (3, .slice ao1 1024 1024), (4, E.i ((k : Nat) : Int))]) (fun k => A.X w oo aa [A.vec .u8 ao1 1024 (K.cl V k), M.It m V ([])]) (fun k => [(c, (E.pt m :: Q.S.cells s))]) 0 (Nat.zero_le _) ⟨Nz.k, Nz.k⟩ Nz.sub (fun _ h => h) (fun k hk1 => E.C.seq (E.sr (E.op (E.i ((k : Nat) : Int)) (E.op (.bool (decide (((k : Nat) : Int) < 1024))) (E.To.code (E.cd (decide (((k : Nat) : Int) < 1024)) (fun hc2 => ?_) (fun hc2 => ?_)))))))
 ·
  refine E.C.skip (E.To.code (E.C.seq (E.C.block (E.C.region (E.op (.slice ao1 1024 1024) (E.op (E.i ((k : Nat) : Int)) (E.op (E.pt c) (E.op (E.i ((k : Nat) : Int)) (E.vl (E.u ((k : Nat) : Int)) (fun w h => E.run_as (a := E.u (IntKind.wrap .u32 ((k : Nat) : Int))) Nz.k (congrArg (Value.int .u32) (K.w32n hk1))) (E.ca (.int .u8 (V.peek (((k : Nat) : Int)).toNat)) (fun w h => A.cq [0, 2] [1] (KPeek ((k : Nat) : Int) (K.kbd hk1) (c := c) (m := m) (s := s) (V := V)) h) (E.vl (.pointer (some ⟨(A.bk ao1), k, none⟩)) (fun w h => A.Y.idx (e := 5) (ik := .i64) (i := k) (len := 1024) (c2 := 1024) (A.X.y h.x) (k := 0) rfl Nz.k Nz.k Nz.k Nz.k Nz.pom (by rw [K.cl_len]; exact Nz.pom)) (A.G.vst (kd := .u8) (ao := ao1) (cap := 1024) (i := k) (xs := (K.cl V k)) (v := (V.peek (((k : Nat) : Int)).toNat)) 0 rfl Nz.k Nz.k Nz.k (by rw [K.cl_len]; exact Nz.pom) Nz.k Nz.k ?_))))))))))))
  exact E.P.nb (E.To.code (E.C.region (E.op (E.i ((k : Nat) : Int)) (E.vl (E.i ((k + 1 : Nat) : Int)) (fun w h => E.run_as (a := E.i (IntKind.wrap .i64 (((k : Nat) : Int) + 1))) Nz.k (congrArg (Value.int .i64) (by exact Nz.add64 (x := k) (y := 1) Nz.pom))) (E.op (E.i ((k + 1 : Nat) : Int)) (E.To.round (k + 1) Nz.pom Nz.pom ⟨Nz.k, Nz.k⟩ Nz.sub (fun _ h => h)))))))
 exact E.C.exit (E.P.et (E.P.et (E.P.eh (E.To.code (E.sr (E.op (.slice ao1 1024 1024) (E.vl (.string (K.cs V)) (fun w h => E.run_as (a := .string (strOfNums (K.cl V k))) (A.Y.strN (e := 5) (n := 1024) (c2 := 1024) (A.X.y h.x) (k := 0) rfl Nz.k Nz.k Nz.k Nz.k (K.cl_len _ _) (by decide)) (congrArg Value.string (K.cs_eq hk1 (by assumption)))) (E.op (.string (K.cs V)) (E.To.code (E.C.ret (E.bd Tryz.f33 [.string (K.cs V)] (fun w h => ⟨(), trivial, rfl, A.dq [0, 2] [1] h⟩))))))))))))
def K.cut (s : ByteArray) : ByteArray := s.extract 0 (if 400 < ((s.size : Nat) : Int) then (400 : Int) else ((s.size : Nat) : Int)).toNat
theorem K.cut_ok (s : ByteArray) : 0 ≤ (if 400 < ((s.size : Nat) : Int) then (400 : Int) else ((s.size : Nat) : Int)) ∧ (if 400 < ((s.size : Nat) : Int) then (400 : Int) else ((s.size : Nat) : Int)) ≤ ((s.size : Nat) : Int) := by split <;> omega
theorem K.cut_size (s : ByteArray) : (K.cut s).size ≤ 400 := by
  unfold K.cut
  rw [ByteArray.size_extract]
  split <;> omega
def K.bW (z a : Int) (s : ByteArray) : M.V := ((M.V.new (M.np 4) true).poke (0 : Int).toNat (K.fill z) (K.fill z).size).poke (a).toNat (K.cut s) (K.cut s).size
/-- The memory that both makes. -/
def K.bV (x0 x1 x2 x3 z a : Int) (s : ByteArray) : M.V := ((((K.bW z a s).prot 0 x0).prot 1 x1).prot 2 x2).prot 3 x3
theorem K.bW_wf (z a : Int) (s : ByteArray) : R.Wf (K.bW z a s) := R.Wf.poke (R.Wf.poke (R.Wf.new (M.np_le _) _) _ _ _) _ _ _
theorem K.bV_wf (x0 x1 x2 x3 z a : Int) (s : ByteArray) : R.Wf (K.bV x0 x1 x2 x3 z a s) := R.Wf.prot (R.Wf.prot (R.Wf.prot (R.Wf.prot (K.bW_wf z a s) _ _) _ _) _ _) _ _
theorem CNew5 (n : Int) : A.Tr Tryz.prog 43 #[.int .i64 n] [] (I := Nat × Nat) (fun _ => True) (fun i => .pointer (some ⟨i.1, 0, none⟩)) (fun i => [A.blk i.1 (Q.S.cells Q.z0 ++ [.pointer (some ⟨i.2, 0, none⟩)]), R.It i.2 (M.V.new (M.np n) true)]) := by
 intro w oo aa hh
 exact E.enter (n := 7) (S := oo) Tryz.func43 rfl rfl Nz.k (A.start (L := []) hh) (E.sr (E.op (.pointer none) (E.tr (E.op (E.i n) (A.gc (I := Nat) (fun r1 => E.pt r1) (R_New n true) [] [] [0] (fun r1 => []) (fun r1 => [R.It r1 (M.V.new (M.np n) true)]) (fun r1 hd2 => E.vl (.agg #[E.u 0, E.u 0, E.u 0, E.u 0, E.u 0, E.u 0, E.u 0, E.u 0, E.u 0, E.u 0, E.u 0, E.u 0, E.u 0, E.u 0, E.u 0, E.u 0, E.u 0, E.u 0, E.u 0, E.u 0, E.u 0, E.u 0, E.i 0, E.i 0, E.pt r1]) (fun w h => E.run_build #[E.u 0, E.u 0, E.u 0, E.u 0, E.u 0, E.u 0, E.u 0, E.u 0, E.u 0, E.u 0, E.u 0, E.u 0, E.u 0, E.u 0, E.u 0, E.u 0, E.u 0, E.u 0, E.u 0, E.u 0, E.u 0, E.u 0, E.i 0, E.i 0, E.pt r1] Nz.k w) (E.nw (Q.S.cells Q.z0 ++ [E.pt r1]) 44 (fun g3 => E.op (E.pt g3) (E.To.code (E.C.ret (E.bd Tryz.f43 [E.pt g3] (fun w h => ⟨(g3, r1), trivial, rfl, A.dq [0, 1] [] h⟩))))))))))))
def K5.norm (s : Q.S) : Q.S := ⟨s.pc, (Q.up (Q.up (Q.up (Q.up (Q.up (Q.up (Q.up (Q.up s.r 8 0) 9 0) 10 0) 11 0) 12 0) 13 0) 14 0) 15 0), (Int.tmod s.f 16), s.c, (if 0 > s.st then 0 else s.st), (if 0 > s.du then 0 else s.du)⟩
abbrev Zzcbb (s : Q.S) := Q.up (Q.up (Q.up (Q.up s.r 8 0) 9 0) 10 0) 11 0
abbrev Zzcba (s : Q.S) := Q.up (Q.up (Q.up (Zzcbb s) 12 0) 13 0) 14 0
set_option maxHeartbeats 1000000 in
theorem Normal5 (s : Q.S)  : A.Rd Tryz.prog 47 #[Q.S.val s] [] (Q.S.val (K5.norm s)) := by
 intro w oo aa hh
 refine E.enter (n := 24) (S := fun _ => False) Tryz.func47 rfl rfl Nz.k (A.startY hh) (E.sr (E.nw (Q.S.cells s) 26 (fun g1 => E.nw (Q.S.cells Q.z0) 26 (fun g2 => E.To.code (E.C.seq (E.sr (E.op (E.i 8) (E.To.code (E.C.block (E.C.rounds 9 (E.C.seq ?_)))))))))))
 refine E.sr (E.op (E.i 8) (E.op (.bool true) (E.To.code (E.C.condT Nz.k Nz.k (E.C.skip (E.To.code (E.C.seq (E.C.block (E.C.region (E.op (E.i 8) (E.op (E.pj g1 1) (E.op (E.pj g1 9) ?_))))))))))))
 refine E.st 1 (Q.S.cells (⟨s.pc, (Q.up s.r 8 0), s.f, s.c, s.st, s.du⟩)) rfl rfl (E.P.nb (E.To.code (E.C.region (E.op (E.i 8) (E.op (E.i 9) (E.op (E.i 9) (E.To.rounds 8 (E.wk [(1, E.pt g1), (2, E.pt g2), (3, E.i 9), (4, E.i 8), (5, .bool true), (6, E.i 8), (7, E.i 9), (8, E.i 8), (9, E.pj g1 1), (10, E.pj g1 9)] [(g2, (Q.S.cells Q.z0)), (g1, (Q.S.cells (⟨s.pc, (Q.up s.r 8 0), s.f, s.c, s.st, s.du⟩)))] Nz.sub (E.C.seq (E.sr (E.op (E.i 9) (E.op (.bool true) ?_))))))))))))
 refine E.To.code (E.C.condT Nz.k Nz.k (E.C.skip (E.To.code (E.C.seq (E.C.block (E.C.region (E.op (E.i 9) (E.op (E.pj g1 1) (E.op (E.pj g1 10) (E.st 1 (Q.S.cells (⟨s.pc, (Q.up (Q.up s.r 8 0) 9 0), s.f, s.c, s.st, s.du⟩)) rfl rfl (E.P.nb (E.To.code (E.C.region ?_)))))))))))))
 refine E.op (E.i 9) (E.op (E.i 10) (E.op (E.i 10) (E.To.rounds 7 (E.wk [(1, E.pt g1), (2, E.pt g2), (3, E.i 10), (4, E.i 9), (5, .bool true), (6, E.i 9), (7, E.i 10), (8, E.i 9), (9, E.pj g1 1), (10, E.pj g1 10)] [(g2, (Q.S.cells Q.z0)), (g1, (Q.S.cells (⟨s.pc, (Q.up (Q.up s.r 8 0) 9 0), s.f, s.c, s.st, s.du⟩)))] Nz.sub (E.C.seq (E.sr (E.op (E.i 10) (E.op (.bool true) (E.To.code (E.C.condT Nz.k Nz.k (E.C.skip (E.To.code ?_))))))))))))
 refine E.C.seq (E.C.block (E.C.region (E.op (E.i 10) (E.op (E.pj g1 1) (E.op (E.pj g1 11) (E.st 1 (Q.S.cells (⟨s.pc, (Q.up (Q.up (Q.up s.r 8 0) 9 0) 10 0), s.f, s.c, s.st, s.du⟩)) rfl rfl (E.P.nb (E.To.code (E.C.region (E.op (E.i 10) (E.op (E.i 11) (E.op (E.i 11) ?_))))))))))))
 refine E.To.rounds 6 (E.wk [(1, E.pt g1), (2, E.pt g2), (3, E.i 11), (4, E.i 10), (5, .bool true), (6, E.i 10), (7, E.i 11), (8, E.i 10), (9, E.pj g1 1), (10, E.pj g1 11)] [(g2, (Q.S.cells Q.z0)), (g1, (Q.S.cells (⟨s.pc, (Q.up (Q.up (Q.up s.r 8 0) 9 0) 10 0), s.f, s.c, s.st, s.du⟩)))] Nz.sub (E.C.seq (E.sr (E.op (E.i 11) (E.op (.bool true) (E.To.code (E.C.condT Nz.k Nz.k (E.C.skip (E.To.code (E.C.seq (E.C.block (E.C.region ?_))))))))))))
 refine E.op (E.i 11) (E.op (E.pj g1 1) (E.op (E.pj g1 12) (E.st 1 (Q.S.cells (⟨s.pc, (Zzcbb s), s.f, s.c, s.st, s.du⟩)) rfl rfl (E.P.nb (E.To.code (E.C.region (E.op (E.i 11) (E.op (E.i 12) (E.op (E.i 12) (E.To.rounds 5 (E.wk [(1, E.pt g1), (2, E.pt g2), (3, E.i 12), (4, E.i 11), (5, .bool true), (6, E.i 11), (7, E.i 12), (8, E.i 11), (9, E.pj g1 1), (10, E.pj g1 12)] [(g2, (Q.S.cells Q.z0)), (g1, (Q.S.cells (⟨s.pc, (Zzcbb s), s.f, s.c, s.st, s.du⟩)))] Nz.sub (E.C.seq ?_))))))))))))
 refine E.sr (E.op (E.i 12) (E.op (.bool true) (E.To.code (E.C.condT Nz.k Nz.k (E.C.skip (E.To.code (E.C.seq (E.C.block (E.C.region (E.op (E.i 12) (E.op (E.pj g1 1) (E.op (E.pj g1 13) ?_))))))))))))
 refine E.st 1 (Q.S.cells (⟨s.pc, (Q.up (Zzcbb s) 12 0), s.f, s.c, s.st, s.du⟩)) rfl rfl (E.P.nb (E.To.code (E.C.region (E.op (E.i 12) (E.op (E.i 13) (E.op (E.i 13) (E.To.rounds 4 (E.wk [(1, E.pt g1), (2, E.pt g2), (3, E.i 13), (4, E.i 12), (5, .bool true), (6, E.i 12), (7, E.i 13), (8, E.i 12), (9, E.pj g1 1), (10, E.pj g1 13)] [(g2, (Q.S.cells Q.z0)), (g1, (Q.S.cells (⟨s.pc, (Q.up (Zzcbb s) 12 0), s.f, s.c, s.st, s.du⟩)))] Nz.sub (E.C.seq (E.sr (E.op (E.i 13) (E.op (.bool true) ?_))))))))))))
 refine E.To.code (E.C.condT Nz.k Nz.k (E.C.skip (E.To.code (E.C.seq (E.C.block (E.C.region (E.op (E.i 13) (E.op (E.pj g1 1) (E.op (E.pj g1 14) (E.st 1 (Q.S.cells (⟨s.pc, (Q.up (Q.up (Zzcbb s) 12 0) 13 0), s.f, s.c, s.st, s.du⟩)) rfl rfl (E.P.nb (E.To.code (E.C.region ?_)))))))))))))
 refine E.op (E.i 13) (E.op (E.i 14) (E.op (E.i 14) (E.To.rounds 3 (E.wk [(1, E.pt g1), (2, E.pt g2), (3, E.i 14), (4, E.i 13), (5, .bool true), (6, E.i 13), (7, E.i 14), (8, E.i 13), (9, E.pj g1 1), (10, E.pj g1 14)] [(g2, (Q.S.cells Q.z0)), (g1, (Q.S.cells (⟨s.pc, (Q.up (Q.up (Zzcbb s) 12 0) 13 0), s.f, s.c, s.st, s.du⟩)))] Nz.sub (E.C.seq (E.sr (E.op (E.i 14) (E.op (.bool true) (E.To.code (E.C.condT Nz.k Nz.k (E.C.skip (E.To.code ?_))))))))))))
 refine E.C.seq (E.C.block (E.C.region (E.op (E.i 14) (E.op (E.pj g1 1) (E.op (E.pj g1 15) (E.st 1 (Q.S.cells (⟨s.pc, (Zzcba s), s.f, s.c, s.st, s.du⟩)) rfl rfl (E.P.nb (E.To.code (E.C.region (E.op (E.i 14) (E.op (E.i 15) (E.op (E.i 15) ?_))))))))))))
 refine E.To.rounds 2 (E.wk [(1, E.pt g1), (2, E.pt g2), (3, E.i 15), (4, E.i 14), (5, .bool true), (6, E.i 14), (7, E.i 15), (8, E.i 14), (9, E.pj g1 1), (10, E.pj g1 15)] [(g2, (Q.S.cells Q.z0)), (g1, (Q.S.cells (⟨s.pc, (Zzcba s), s.f, s.c, s.st, s.du⟩)))] Nz.sub (E.C.seq (E.sr (E.op (E.i 15) (E.op (.bool true) (E.To.code (E.C.condT Nz.k Nz.k (E.C.skip (E.To.code (E.C.seq (E.C.block (E.C.region ?_))))))))))))
 refine E.op (E.i 15) (E.op (E.pj g1 1) (E.op (E.pj g1 16) (E.st 1 (Q.S.cells (⟨s.pc, (Q.up (Zzcba s) 15 0), s.f, s.c, s.st, s.du⟩)) rfl rfl (E.P.nb (E.To.code (E.C.region (E.op (E.i 15) (E.op (E.i 16) (E.op (E.i 16) (E.To.rounds 1 (E.wk [(1, E.pt g1), (2, E.pt g2), (3, E.i 16), (4, E.i 15), (5, .bool true), (6, E.i 15), (7, E.i 16), (8, E.i 15), (9, E.pj g1 1), (10, E.pj g1 16)] [(g2, (Q.S.cells Q.z0)), (g1, (Q.S.cells (⟨s.pc, (Q.up (Zzcba s) 15 0), s.f, s.c, s.st, s.du⟩)))] Nz.sub (E.C.seq ?_))))))))))))
 refine E.sr (E.op (E.i 16) (E.op (.bool false) (E.To.code (E.C.condF Nz.k Nz.k (E.C.exit (E.P.et (E.P.et (E.P.eh (E.To.code (E.wk [(1, E.pt g1), (2, E.pt g2)] [(g2, (Q.S.cells Q.z0)), (g1, (Q.S.cells (⟨s.pc, (Q.up (Zzcba s) 15 0), s.f, s.c, s.st, s.du⟩)))] Nz.sub (E.sr (E.op (E.pj g1 17) (E.li (E.u s.f) 1 rfl rfl (E.op (E.u (Int.tmod s.f 16)) (E.op (E.pj g1 17) ?_)))))))))))))))
 refine E.st 1 (Q.S.cells (⟨s.pc, (Q.up (Zzcba s) 15 0), (Int.tmod s.f 16), s.c, s.st, s.du⟩)) rfl rfl (E.tr (E.op (E.pj g1 22) (E.li (E.i s.st) 1 rfl rfl (E.op (E.i (if 0 > s.st then 0 else s.st)) (E.op (E.pj g1 22) (E.st 1 (Q.S.cells (⟨s.pc, (Q.up (Zzcba s) 15 0), (Int.tmod s.f 16), s.c, (if 0 > s.st then 0 else s.st), s.du⟩)) rfl rfl (E.To.code (E.wk [(1, E.pt g1), (2, E.pt g2)] [(g2, (Q.S.cells Q.z0)), (g1, (Q.S.cells (⟨s.pc, (Q.up (Zzcba s) 15 0), (Int.tmod s.f 16), s.c, (if 0 > s.st then 0 else s.st), s.du⟩)))] Nz.sub (E.sr (E.op (E.pj g1 23) (E.li (E.i s.du) 1 rfl rfl ?_)))))))))))
 exact E.op (E.i (if 0 > s.du then 0 else s.du)) (E.op (E.pj g1 23) (E.st 1 (Q.S.cells (⟨s.pc, (Q.up (Zzcba s) 15 0), (Int.tmod s.f 16), s.c, (if 0 > s.st then 0 else s.st), (if 0 > s.du then 0 else s.du)⟩)) rfl rfl (E.tr (E.li (Q.S.val (⟨s.pc, (Q.up (Zzcba s) 15 0), (Int.tmod s.f 16), s.c, (if 0 > s.st then 0 else s.st), (if 0 > s.du then 0 else s.du)⟩)) 1 rfl rfl (E.st 0 (Q.S.cells (⟨s.pc, (Q.up (Zzcba s) 15 0), (Int.tmod s.f 16), s.c, (if 0 > s.st then 0 else s.st), (if 0 > s.du then 0 else s.du)⟩)) rfl rfl (E.To.code (E.C.ret (E.b0 Tryz.f47 [Q.S.val (⟨s.pc, (Q.up (Zzcba s) 15 0), (Int.tmod s.f 16), s.c, (if 0 > s.st then 0 else s.st), (if 0 > s.du then 0 else s.du)⟩)] (fun w h => ⟨rfl, h.ch.bel (fun _ h => h.elim)⟩)))))))))
abbrev Zecla (s : Q.S) (x0 : Int) (x1 : Int) (x2 : Int) (x3 : Int) (z : Int) (a : Int) (code : ByteArray) := Q.S.cells s ++ [.int .u8 x0, .int .u8 x1, .int .u8 x2, .int .u8 x3, E.u z, E.u a, .string code]
set_option maxHeartbeats 4000000 in
set_option maxHeartbeats 4000000 in
theorem Both (s : Q.S) (x0 x1 x2 x3 z a : Int) (code : ByteArray) (ha : 0 ≤ a ∧ a < 4294967296) (hx0 : 0 ≤ x0 ∧ x0 < 256) (hx1 : 0 ≤ x1 ∧ x1 < 256) (hx2 : 0 ≤ x2 ∧ x2 < 256) (hx3 : 0 ≤ x3 ∧ x3 < 256) : A.Tr Tryz.prog 16 #[.agg (Q.S.cells s ++ [Value.int .u8 x0, Value.int .u8 x1, Value.int .u8 x2, Value.int .u8 x3, Value.int .u32 z, Value.int .u32 a, Value.string code]).toArray] [] (I := (Nat × Nat) × (Nat × Nat)) (fun _ => True) (fun i => .tuple #[.pointer (some ⟨i.1.1, 0, none⟩), .pointer (some ⟨i.2.1, 0, none⟩)]) (fun i => [A.blk i.1.1 (.pointer (some ⟨i.1.2, 0, none⟩) :: Q.S.cells (K.norm s)), M.It i.1.2 (K.bV x0 x1 x2 x3 z a code) [], A.blk i.2.1 (Q.S.cells (K5.norm s) ++ [.pointer (some ⟨i.2.2, 0, none⟩)]), R.It i.2.2 (K.bV x0 x1 x2 x3 z a code)]) := by
 intro w oo aa hh
 refine E.enter (n := 78) (S := oo) Tryz.func16 rfl rfl Nz.k (A.start (L := []) hh) (E.sr (E.nw (Zecla s x0 x1 x2 x3 z a code) 29 (fun g1 => E.op (.pointer none) (E.op (.pointer none) (E.tr (A.gc (I := Nat × Nat) (fun i2 => E.pt i2.1) (CNew 4) [] [0] [0, 2, 1] (fun i2 => [(i2.1, (E.pt i2.2 :: Q.S.cells Q.z0)), (g1, (Zecla s x0 x1 x2 x3 z a code))]) (fun i2 => [M.It i2.2 (M.V.new (M.np 4) true) ([])]) (fun i2 hd3 => E.op (E.pt i2.1) (E.tr (A.gc (I := Nat × Nat) (fun j4 => E.pt j4.1) (CNew5 4) [] [0, 1, 2] [0, 2, 3, 1, 4] (fun j4 => [(j4.1, (Q.S.cells Q.z0 ++ [E.pt j4.2])), (i2.1, (E.pt i2.2 :: Q.S.cells Q.z0)), (g1, (Zecla s x0 x1 x2 x3 z a code))]) (fun j4 => [R.It j4.2 (M.V.new (M.np 4) true), M.It i2.2 (M.V.new (M.np 4) true) ([])]) (fun j4 hd5 => E.op (E.pt j4.1) (E.tr ?_)))))))))))
 refine E.op (E.pj g1 28) (E.li (E.u z) 2 rfl rfl (A.gc (fun _ => .string (K.fill z)) (Fill5 z) [] [0, 1, 2, 3, 4] [0, 1, 2, 3, 4] (fun _ => [(j4.1, (Q.S.cells Q.z0 ++ [E.pt j4.2])), (i2.1, (E.pt i2.2 :: Q.S.cells Q.z0)), (g1, (Zecla s x0 x1 x2 x3 z a code))]) (fun _ => [R.It j4.2 (M.V.new (M.np 4) true), M.It i2.2 (M.V.new (M.np 4) true) ([])]) (fun _ hd6 => E.op (.string (K.fill z)) (E.tr (E.op (E.pj g1 30) (E.li (.string code) 2 rfl rfl (E.op (E.pj g1 30) (E.li (.string code) 2 rfl rfl (E.op (E.i ((code.size : Nat) : Int)) (E.op (E.i (if 400 < ((code.size : Nat) : Int) then 400 else ((code.size : Nat) : Int))) (E.vl (.string (K.cut code)) (fun w h => E.slTo code .i64 (if 400 < ((code.size : Nat) : Int) then 400 else ((code.size : Nat) : Int)) Nz.k Nz.k Nz.k (K.cut_ok _).1 (K.cut_ok _).2 w) ?_)))))))))))
 refine E.op (.string (K.cut code)) (E.To.code (E.wk [(1, E.pt g1), (2, .pointer none), (3, .pointer none), (4, E.pt i2.1), (5, E.pt j4.1), (6, .string (K.fill z)), (7, .string (K.cut code))] [(j4.1, (Q.S.cells Q.z0 ++ [E.pt j4.2])), (i2.1, (E.pt i2.2 :: Q.S.cells Q.z0)), (g1, (Zecla s x0 x1 x2 x3 z a code))] Nz.sub (E.sr (E.op (E.pt i2.1) (E.op (.string (K.fill z)) (A.gc (q := fun _ => [A.blk i2.1 (E.pt i2.2 :: Q.S.cells Q.z0), M.It i2.2 ((M.V.new (M.np 4) true).poke (0 : Int).toNat (K.fill z) (K.fill z).size) ([])]) (fun _ => .tuple #[]) (KPoke 0 (by decide) (K.fill z) (by rw [K.fill_size]; decide) (c := i2.1) (m := i2.2) (s := Q.z0) (V := (M.V.new (M.np 4) true))) [1, 4] [0, 2, 3] [0, 2, 3, 4, 1] (fun _ => [(i2.1, (E.pt i2.2 :: Q.S.cells Q.z0)), (j4.1, (Q.S.cells Q.z0 ++ [E.pt j4.2])), (g1, (Zecla s x0 x1 x2 x3 z a code))]) (fun _ => [R.It j4.2 (M.V.new (M.np 4) true), M.It i2.2 ((M.V.new (M.np 4) true).poke (0 : Int).toNat (K.fill z) (K.fill z).size) ([])]) (fun _ hd7 => E.tr (E.op (E.pt j4.1) (E.op (E.pt j4.1) (E.op (.pointer (some ⟨j4.1, 24, none⟩)) (E.li (E.pt j4.2) 1 rfl rfl ?_)))))))))))
 refine E.op (.string (K.fill z)) (A.gc (q := fun _ => [R.It j4.2 ((M.V.new (M.np 4) true).poke (0 : Int).toNat (K.fill z) (K.fill z).size)]) (fun _ => .tuple #[]) (J_Poke 0 (K.fill z) (by decide) (by rw [K.fill_size]; decide) (m := j4.2) (V := (M.V.new (M.np 4) true))) [3] [0, 1, 2, 4] [1, 2, 3, 0, 4] (fun _ => [(i2.1, (E.pt i2.2 :: Q.S.cells Q.z0)), (j4.1, (Q.S.cells Q.z0 ++ [E.pt j4.2])), (g1, (Zecla s x0 x1 x2 x3 z a code))]) (fun _ => [R.It j4.2 ((M.V.new (M.np 4) true).poke (0 : Int).toNat (K.fill z) (K.fill z).size), M.It i2.2 ((M.V.new (M.np 4) true).poke (0 : Int).toNat (K.fill z) (K.fill z).size) ([])]) (fun _ hd8 => E.To.code (E.wk [(1, E.pt g1), (2, .pointer none), (3, .pointer none), (4, E.pt i2.1), (5, E.pt j4.1), (7, .string (K.cut code))] [(i2.1, (E.pt i2.2 :: Q.S.cells Q.z0)), (j4.1, (Q.S.cells Q.z0 ++ [E.pt j4.2])), (g1, (Zecla s x0 x1 x2 x3 z a code))] Nz.sub (E.sr (E.op (E.pt i2.1) (E.op (E.pj g1 29) (E.li (E.u a) 2 rfl rfl (E.op (.string (K.cut code)) (A.gc (q := fun _ => [A.blk i2.1 (E.pt i2.2 :: Q.S.cells Q.z0), M.It i2.2 (K.bW z a code) ([])]) (fun _ => .tuple #[]) (KPoke a ha (K.cut code) (by have := K.cut_size code; omega) (c := i2.1) (m := i2.2) (s := Q.z0) (V := ((M.V.new (M.np 4) true).poke (0 : Int).toNat (K.fill z) (K.fill z).size))) [0, 4] [1, 2, 3] [0, 2, 3, 4, 1] (fun _ => [(i2.1, (E.pt i2.2 :: Q.S.cells Q.z0)), (j4.1, (Q.S.cells Q.z0 ++ [E.pt j4.2])), (g1, (Zecla s x0 x1 x2 x3 z a code))]) (fun _ => [R.It j4.2 ((M.V.new (M.np 4) true).poke (0 : Int).toNat (K.fill z) (K.fill z).size), M.It i2.2 (K.bW z a code) ([])]) (fun _ hd9 => E.To.code (E.C.joint (fun J up dn => ?_))))))))))))
 have rest : J [(1, E.pt g1), (2, .pointer none), (3, .pointer none), (4, E.pt i2.1), (5, E.pt j4.1)] (A.X w oo aa [R.It j4.2 (K.bW z a code), M.It i2.2 (K.bW z a code) ([])]) [(i2.1, (E.pt i2.2 :: Q.S.cells Q.z0)), (j4.1, (Q.S.cells Q.z0 ++ [E.pt j4.2])), (g1, (Zecla s x0 x1 x2 x3 z a code))] := by
  refine up _ _ _ (E.C.seq (E.sr (E.op (E.i 0) (E.To.code (E.C.block (E.C.rounds 4 (E.C.seq (E.sr (E.op (E.i 0) (E.op (.bool true) (E.To.code ?_)))))))))))
  refine E.C.condT Nz.k Nz.k (E.C.skip (E.To.code (E.C.seq (E.C.block (E.sr (E.op (E.pt i2.1) (E.op (E.i 0) (E.op (E.i 0) (E.op (E.pj g1 24) (E.op (E.pj g1 24) (E.li (.int .u8 x0) 2 rfl rfl (E.vl (E.i x0) (fun w h => E.run_as (a := E.i (IntKind.wrap .i64 x0)) Nz.k (congrArg (Value.int .i64) (IntWalk.i64_in _ (by omega)))) ?_))))))))))))
  refine A.gc (fun _ => .tuple #[]) (KProtect 0 x0 (c := i2.1) (m := i2.2) (s := Q.z0) (V := (K.bW z a code))) [0, 4] [1, 2, 3] [0, 2, 3, 4, 1] (fun _ => [(i2.1, (E.pt i2.2 :: Q.S.cells Q.z0)), (j4.1, (Q.S.cells Q.z0 ++ [E.pt j4.2])), (g1, (Zecla s x0 x1 x2 x3 z a code))]) (fun _ => [R.It j4.2 (K.bW z a code), M.It i2.2 ((K.bW z a code).prot 0 x0) ([])]) (fun _ hd10 => E.To.code (E.C.held (A.Y [A.blk j4.1 (Q.S.cells Q.z0 ++ [E.pt j4.2]), A.blk g1 (Zecla s x0 x1 x2 x3 z a code)]) Nz.k (E.tk 0 (E.pt j4.1) rfl (fun w h => A.hq [1, 2] [0, 3, 4] h) (E.tk 1 (E.pt j4.1) rfl (fun w h => A.hq [1, 2] [0, 3, 4] h) (E.tk 2 (.pointer (some ⟨j4.1, 24, none⟩)) rfl (fun w h => A.hq [1, 2] [0, 3, 4] h) (E.tj 3 (E.pt j4.2) rfl (fun w h => A.hq [1, 2] [0, 3, 4] h) (fun w h => A.Y.bld h (k := 0) (j := 24) rfl Nz.k Nz.k) (E.tk 4 (E.i 0) rfl (fun w h => A.hq [1, 2] [0, 3, 4] h) (E.tk 5 (E.i 0) rfl (fun w h => A.hq [1, 2] [0, 3, 4] h) (E.tk 6 (E.pj g1 24) rfl (fun w h => A.hq [1, 2] [0, 3, 4] h) (E.tk 7 (E.pj g1 24) rfl (fun w h => A.hq [1, 2] [0, 3, 4] h) (E.tj 8 (.int .u8 x0) rfl (fun w h => A.hq [1, 2] [0, 3, 4] h) (fun w h => A.Y.bld h (k := 1) (j := 24) rfl Nz.k Nz.k) ?_)))))))))))
  refine E.tj 9 (E.i x0) rfl (fun w h => A.hq [1, 2] [0, 3, 4] h) (fun w h => E.run_as (a := E.i (IntKind.wrap .i64 x0)) Nz.k (congrArg (Value.int .i64) (IntWalk.i64_in _ (by omega)))) (E.al 10 rfl (A.gc (fun _ => .tuple #[]) (B_Protect 0 x0 (r := j4.2) (V := (K.bW z a code))) [3] [0, 1, 2, 4] [1, 2, 3, 0, 4] (fun _ => [(i2.1, (E.pt i2.2 :: Q.S.cells Q.z0)), (j4.1, (Q.S.cells Q.z0 ++ [E.pt j4.2])), (g1, (Zecla s x0 x1 x2 x3 z a code))]) (fun _ => [R.It j4.2 ((K.bW z a code).prot 0 x0), M.It i2.2 ((K.bW z a code).prot 0 x0) ([])]) (fun _ hd11 => E.H.back (fun w h => A.hq [1, 2] [0, 3, 4] h) (E.H.done Nz.k (E.P.nb (E.To.code (E.C.region (E.op (E.i 0) (E.op (E.i 1) (E.op (E.i 1) (E.To.rounds 3 (E.wk [(1, E.pt g1), (2, .pointer none), (3, .pointer none), (4, E.pt i2.1), (5, E.pt j4.1), (8, E.i 1), (43, E.i 0), (44, .bool true), (45, E.i 0), (46, E.i 1), (47, E.pt i2.1), (48, E.i 0), (49, E.i 0), (50, E.pj g1 24), (51, E.pj g1 24), (52, .int .u8 x0), (53, E.i x0), (55, E.pt j4.1), (56, E.pt j4.1), (57, .pointer (some ⟨j4.1, 24, none⟩)), (58, E.pt j4.2), (59, E.i 0), (60, E.i 0), (61, E.pj g1 24), (62, E.pj g1 24), (63, .int .u8 x0), (64, E.i x0)] [(i2.1, (E.pt i2.2 :: Q.S.cells Q.z0)), (j4.1, (Q.S.cells Q.z0 ++ [E.pt j4.2])), (g1, (Zecla s x0 x1 x2 x3 z a code))] Nz.sub ?_))))))))))))
  refine E.C.seq (E.sr (E.op (E.i 1) (E.op (.bool true) (E.To.code (E.C.condT Nz.k Nz.k (E.C.skip (E.To.code (E.C.seq (E.C.block (E.sr (E.op (E.pt i2.1) (E.op (E.i 1) ?_))))))))))))
  refine E.op (E.i 1) (E.op (E.pj g1 24) (E.op (E.pj g1 25) (E.li (.int .u8 x1) 2 rfl rfl (E.vl (E.i x1) (fun w h => E.run_as (a := E.i (IntKind.wrap .i64 x1)) Nz.k (congrArg (Value.int .i64) (IntWalk.i64_in _ (by omega)))) (A.gc (fun _ => .tuple #[]) (KProtect 1 x1 (c := i2.1) (m := i2.2) (s := Q.z0) (V := ((K.bW z a code).prot 0 x0))) [0, 4] [1, 2, 3] [0, 2, 3, 4, 1] (fun _ => [(i2.1, (E.pt i2.2 :: Q.S.cells Q.z0)), (j4.1, (Q.S.cells Q.z0 ++ [E.pt j4.2])), (g1, (Zecla s x0 x1 x2 x3 z a code))]) (fun _ => [R.It j4.2 ((K.bW z a code).prot 0 x0), M.It i2.2 (((K.bW z a code).prot 0 x0).prot 1 x1) ([])]) (fun _ hd12 => E.To.code (E.C.held (A.Y [A.blk j4.1 (Q.S.cells Q.z0 ++ [E.pt j4.2]), A.blk g1 (Zecla s x0 x1 x2 x3 z a code)]) Nz.k (E.tk 0 (E.pt j4.1) rfl (fun w h => A.hq [1, 2] [0, 3, 4] h) (E.tk 1 (E.pt j4.1) rfl (fun w h => A.hq [1, 2] [0, 3, 4] h) (E.tk 2 (.pointer (some ⟨j4.1, 24, none⟩)) rfl (fun w h => A.hq [1, 2] [0, 3, 4] h) (E.tj 3 (E.pt j4.2) rfl (fun w h => A.hq [1, 2] [0, 3, 4] h) (fun w h => A.Y.bld h (k := 0) (j := 24) rfl Nz.k Nz.k) ?_)))))))))))
  refine E.tk 4 (E.i 1) rfl (fun w h => A.hq [1, 2] [0, 3, 4] h) (E.tk 5 (E.i 1) rfl (fun w h => A.hq [1, 2] [0, 3, 4] h) (E.tk 6 (E.pj g1 24) rfl (fun w h => A.hq [1, 2] [0, 3, 4] h) (E.tk 7 (E.pj g1 25) rfl (fun w h => A.hq [1, 2] [0, 3, 4] h) (E.tj 8 (.int .u8 x1) rfl (fun w h => A.hq [1, 2] [0, 3, 4] h) (fun w h => A.Y.bld h (k := 1) (j := 25) rfl Nz.k Nz.k) (E.tj 9 (E.i x1) rfl (fun w h => A.hq [1, 2] [0, 3, 4] h) (fun w h => E.run_as (a := E.i (IntKind.wrap .i64 x1)) Nz.k (congrArg (Value.int .i64) (IntWalk.i64_in _ (by omega)))) (E.al 10 rfl (A.gc (fun _ => .tuple #[]) (B_Protect 1 x1 (r := j4.2) (V := ((K.bW z a code).prot 0 x0))) [3] [0, 1, 2, 4] [1, 2, 3, 0, 4] (fun _ => [(i2.1, (E.pt i2.2 :: Q.S.cells Q.z0)), (j4.1, (Q.S.cells Q.z0 ++ [E.pt j4.2])), (g1, (Zecla s x0 x1 x2 x3 z a code))]) (fun _ => [R.It j4.2 (((K.bW z a code).prot 0 x0).prot 1 x1), M.It i2.2 (((K.bW z a code).prot 0 x0).prot 1 x1) ([])]) (fun _ hd13 => E.H.back (fun w h => A.hq [1, 2] [0, 3, 4] h) (E.H.done Nz.k (E.P.nb (E.To.code (E.C.region ?_))))))))))))
  refine E.op (E.i 1) (E.op (E.i 2) (E.op (E.i 2) (E.To.rounds 2 (E.wk [(1, E.pt g1), (2, .pointer none), (3, .pointer none), (4, E.pt i2.1), (5, E.pt j4.1), (8, E.i 2), (43, E.i 1), (44, .bool true), (45, E.i 1), (46, E.i 2), (47, E.pt i2.1), (48, E.i 1), (49, E.i 1), (50, E.pj g1 24), (51, E.pj g1 25), (52, .int .u8 x1), (53, E.i x1), (55, E.pt j4.1), (56, E.pt j4.1), (57, .pointer (some ⟨j4.1, 24, none⟩)), (58, E.pt j4.2), (59, E.i 1), (60, E.i 1), (61, E.pj g1 24), (62, E.pj g1 25), (63, .int .u8 x1), (64, E.i x1)] [(i2.1, (E.pt i2.2 :: Q.S.cells Q.z0)), (j4.1, (Q.S.cells Q.z0 ++ [E.pt j4.2])), (g1, (Zecla s x0 x1 x2 x3 z a code))] Nz.sub (E.C.seq (E.sr (E.op (E.i 2) (E.op (.bool true) (E.To.code (E.C.condT Nz.k Nz.k (E.C.skip (E.To.code ?_))))))))))))
  refine E.C.seq (E.C.block (E.sr (E.op (E.pt i2.1) (E.op (E.i 2) (E.op (E.i 2) (E.op (E.pj g1 24) (E.op (E.pj g1 26) (E.li (.int .u8 x2) 2 rfl rfl (E.vl (E.i x2) (fun w h => E.run_as (a := E.i (IntKind.wrap .i64 x2)) Nz.k (congrArg (Value.int .i64) (IntWalk.i64_in _ (by omega)))) (A.gc (fun _ => .tuple #[]) (KProtect 2 x2 (c := i2.1) (m := i2.2) (s := Q.z0) (V := (((K.bW z a code).prot 0 x0).prot 1 x1))) [0, 4] [1, 2, 3] [0, 2, 3, 4, 1] (fun _ => [(i2.1, (E.pt i2.2 :: Q.S.cells Q.z0)), (j4.1, (Q.S.cells Q.z0 ++ [E.pt j4.2])), (g1, (Zecla s x0 x1 x2 x3 z a code))]) (fun _ => [R.It j4.2 (((K.bW z a code).prot 0 x0).prot 1 x1), M.It i2.2 ((((K.bW z a code).prot 0 x0).prot 1 x1).prot 2 x2) ([])]) (fun _ hd14 => E.To.code ?_)))))))))))
  refine E.C.held (A.Y [A.blk j4.1 (Q.S.cells Q.z0 ++ [E.pt j4.2]), A.blk g1 (Zecla s x0 x1 x2 x3 z a code)]) Nz.k (E.tk 0 (E.pt j4.1) rfl (fun w h => A.hq [1, 2] [0, 3, 4] h) (E.tk 1 (E.pt j4.1) rfl (fun w h => A.hq [1, 2] [0, 3, 4] h) (E.tk 2 (.pointer (some ⟨j4.1, 24, none⟩)) rfl (fun w h => A.hq [1, 2] [0, 3, 4] h) (E.tj 3 (E.pt j4.2) rfl (fun w h => A.hq [1, 2] [0, 3, 4] h) (fun w h => A.Y.bld h (k := 0) (j := 24) rfl Nz.k Nz.k) (E.tk 4 (E.i 2) rfl (fun w h => A.hq [1, 2] [0, 3, 4] h) (E.tk 5 (E.i 2) rfl (fun w h => A.hq [1, 2] [0, 3, 4] h) (E.tk 6 (E.pj g1 24) rfl (fun w h => A.hq [1, 2] [0, 3, 4] h) (E.tk 7 (E.pj g1 26) rfl (fun w h => A.hq [1, 2] [0, 3, 4] h) (E.tj 8 (.int .u8 x2) rfl (fun w h => A.hq [1, 2] [0, 3, 4] h) (fun w h => A.Y.bld h (k := 1) (j := 26) rfl Nz.k Nz.k) (E.tj 9 (E.i x2) rfl (fun w h => A.hq [1, 2] [0, 3, 4] h) (fun w h => E.run_as (a := E.i (IntKind.wrap .i64 x2)) Nz.k (congrArg (Value.int .i64) (IntWalk.i64_in _ (by omega)))) (E.al 10 rfl ?_)))))))))))
  refine A.gc (fun _ => .tuple #[]) (B_Protect 2 x2 (r := j4.2) (V := (((K.bW z a code).prot 0 x0).prot 1 x1))) [3] [0, 1, 2, 4] [1, 2, 3, 0, 4] (fun _ => [(i2.1, (E.pt i2.2 :: Q.S.cells Q.z0)), (j4.1, (Q.S.cells Q.z0 ++ [E.pt j4.2])), (g1, (Zecla s x0 x1 x2 x3 z a code))]) (fun _ => [R.It j4.2 ((((K.bW z a code).prot 0 x0).prot 1 x1).prot 2 x2), M.It i2.2 ((((K.bW z a code).prot 0 x0).prot 1 x1).prot 2 x2) ([])]) (fun _ hd15 => E.H.back (fun w h => A.hq [1, 2] [0, 3, 4] h) (E.H.done Nz.k (E.P.nb (E.To.code (E.C.region (E.op (E.i 2) (E.op (E.i 3) (E.op (E.i 3) (E.To.rounds 1 (E.wk [(1, E.pt g1), (2, .pointer none), (3, .pointer none), (4, E.pt i2.1), (5, E.pt j4.1), (8, E.i 3), (43, E.i 2), (44, .bool true), (45, E.i 2), (46, E.i 3), (47, E.pt i2.1), (48, E.i 2), (49, E.i 2), (50, E.pj g1 24), (51, E.pj g1 26), (52, .int .u8 x2), (53, E.i x2), (55, E.pt j4.1), (56, E.pt j4.1), (57, .pointer (some ⟨j4.1, 24, none⟩)), (58, E.pt j4.2), (59, E.i 2), (60, E.i 2), (61, E.pj g1 24), (62, E.pj g1 26), (63, .int .u8 x2), (64, E.i x2)] [(i2.1, (E.pt i2.2 :: Q.S.cells Q.z0)), (j4.1, (Q.S.cells Q.z0 ++ [E.pt j4.2])), (g1, (Zecla s x0 x1 x2 x3 z a code))] Nz.sub (E.C.seq (E.sr ?_))))))))))))
  refine E.op (E.i 3) (E.op (.bool true) (E.To.code (E.C.condT Nz.k Nz.k (E.C.skip (E.To.code (E.C.seq (E.C.block (E.sr (E.op (E.pt i2.1) (E.op (E.i 3) (E.op (E.i 3) (E.op (E.pj g1 24) ?_))))))))))))
  refine E.op (E.pj g1 27) (E.li (.int .u8 x3) 2 rfl rfl (E.vl (E.i x3) (fun w h => E.run_as (a := E.i (IntKind.wrap .i64 x3)) Nz.k (congrArg (Value.int .i64) (IntWalk.i64_in _ (by omega)))) (A.gc (fun _ => .tuple #[]) (KProtect 3 x3 (c := i2.1) (m := i2.2) (s := Q.z0) (V := ((((K.bW z a code).prot 0 x0).prot 1 x1).prot 2 x2))) [0, 4] [1, 2, 3] [0, 2, 3, 4, 1] (fun _ => [(i2.1, (E.pt i2.2 :: Q.S.cells Q.z0)), (j4.1, (Q.S.cells Q.z0 ++ [E.pt j4.2])), (g1, (Zecla s x0 x1 x2 x3 z a code))]) (fun _ => [R.It j4.2 ((((K.bW z a code).prot 0 x0).prot 1 x1).prot 2 x2), M.It i2.2 (K.bV x0 x1 x2 x3 z a code) ([])]) (fun _ hd16 => E.To.code (E.C.held (A.Y [A.blk j4.1 (Q.S.cells Q.z0 ++ [E.pt j4.2]), A.blk g1 (Zecla s x0 x1 x2 x3 z a code)]) Nz.k (E.tk 0 (E.pt j4.1) rfl (fun w h => A.hq [1, 2] [0, 3, 4] h) (E.tk 1 (E.pt j4.1) rfl (fun w h => A.hq [1, 2] [0, 3, 4] h) (E.tk 2 (.pointer (some ⟨j4.1, 24, none⟩)) rfl (fun w h => A.hq [1, 2] [0, 3, 4] h) (E.tj 3 (E.pt j4.2) rfl (fun w h => A.hq [1, 2] [0, 3, 4] h) (fun w h => A.Y.bld h (k := 0) (j := 24) rfl Nz.k Nz.k) (E.tk 4 (E.i 3) rfl (fun w h => A.hq [1, 2] [0, 3, 4] h) (E.tk 5 (E.i 3) rfl (fun w h => A.hq [1, 2] [0, 3, 4] h) ?_)))))))))))
  refine E.tk 6 (E.pj g1 24) rfl (fun w h => A.hq [1, 2] [0, 3, 4] h) (E.tk 7 (E.pj g1 27) rfl (fun w h => A.hq [1, 2] [0, 3, 4] h) (E.tj 8 (.int .u8 x3) rfl (fun w h => A.hq [1, 2] [0, 3, 4] h) (fun w h => A.Y.bld h (k := 1) (j := 27) rfl Nz.k Nz.k) (E.tj 9 (E.i x3) rfl (fun w h => A.hq [1, 2] [0, 3, 4] h) (fun w h => E.run_as (a := E.i (IntKind.wrap .i64 x3)) Nz.k (congrArg (Value.int .i64) (IntWalk.i64_in _ (by omega)))) (E.al 10 rfl (A.gc (fun _ => .tuple #[]) (B_Protect 3 x3 (r := j4.2) (V := ((((K.bW z a code).prot 0 x0).prot 1 x1).prot 2 x2))) [3] [0, 1, 2, 4] [1, 2, 3, 0, 4] (fun _ => [(i2.1, (E.pt i2.2 :: Q.S.cells Q.z0)), (j4.1, (Q.S.cells Q.z0 ++ [E.pt j4.2])), (g1, (Zecla s x0 x1 x2 x3 z a code))]) (fun _ => [R.It j4.2 (K.bV x0 x1 x2 x3 z a code), M.It i2.2 (K.bV x0 x1 x2 x3 z a code) ([])]) (fun _ hd17 => E.H.back (fun w h => A.hq [1, 2] [0, 3, 4] h) (E.H.done Nz.k (E.P.nb (E.To.code (E.C.region (E.op (E.i 3) (E.op (E.i 4) ?_))))))))))))
  refine E.op (E.i 4) (E.To.rounds 0 (E.wk [(1, E.pt g1), (2, .pointer none), (3, .pointer none), (4, E.pt i2.1), (5, E.pt j4.1), (8, E.i 4), (43, E.i 3), (44, .bool true), (45, E.i 3), (46, E.i 4), (47, E.pt i2.1), (48, E.i 3), (49, E.i 3), (50, E.pj g1 24), (51, E.pj g1 27), (52, .int .u8 x3), (53, E.i x3), (55, E.pt j4.1), (56, E.pt j4.1), (57, .pointer (some ⟨j4.1, 24, none⟩)), (58, E.pt j4.2), (59, E.i 3), (60, E.i 3), (61, E.pj g1 24), (62, E.pj g1 27), (63, .int .u8 x3), (64, E.i x3)] [(i2.1, (E.pt i2.2 :: Q.S.cells Q.z0)), (j4.1, (Q.S.cells Q.z0 ++ [E.pt j4.2])), (g1, (Zecla s x0 x1 x2 x3 z a code))] Nz.sub (E.C.seq (E.sr (E.op (E.i 4) (E.op (.bool false) (E.To.code (E.C.condF Nz.k Nz.k (E.C.exit (E.P.et (E.P.et (E.P.eh (E.To.code (E.wk [(1, E.pt g1), (2, .pointer none), (3, .pointer none), (4, E.pt i2.1), (5, E.pt j4.1)] [(i2.1, (E.pt i2.2 :: Q.S.cells Q.z0)), (j4.1, (Q.S.cells Q.z0 ++ [E.pt j4.2])), (g1, (Zecla s x0 x1 x2 x3 z a code))] Nz.sub (E.sr ?_)))))))))))))))
  refine E.op (E.pt i2.1) (E.op (E.pt g1) (E.li (Q.S.val s) 2 rfl rfl (A.gc (fun _ => .tuple #[]) (CSet (c := i2.1) (m := i2.2) (s0 := Q.z0) s) [0] [1, 2, 3, 4] [0, 1, 2, 3, 4] (fun _ => [(i2.1, (E.pt i2.2 :: Q.S.cells (K.norm s))), (j4.1, (Q.S.cells Q.z0 ++ [E.pt j4.2])), (g1, (Zecla s x0 x1 x2 x3 z a code))]) (fun _ => [R.It j4.2 (K.bV x0 x1 x2 x3 z a code), M.It i2.2 (K.bV x0 x1 x2 x3 z a code) ([])]) (fun _ hd18 => E.tr (E.op (E.pt j4.1) (E.op (E.pt g1) (E.li (Q.S.val s) 2 rfl rfl (E.ca (Q.S.val (K5.norm s)) (fun w h => A.cq [] [0, 1, 2, 3, 4] (Normal5 s) h) (E.op (E.pt j4.1) (E.op (E.pt j4.1) (E.st 1 (Q.S.cells (K5.norm s) ++ [E.pt j4.2]) rfl rfl ?_)))))))))))
  refine E.To.code (E.wk [(2, .pointer none), (3, .pointer none), (4, E.pt i2.1), (5, E.pt j4.1)] [(i2.1, (E.pt i2.2 :: Q.S.cells (K.norm s))), (j4.1, (Q.S.cells (K5.norm s) ++ [E.pt j4.2]))] Nz.sub (E.sr (E.op (E.pt i2.1) (E.op (E.pt j4.1) (E.op (E.pt i2.1) (E.op (E.pt j4.1) (E.To.code (E.C.ret (E.To.body (fn := Tryz.f16) [E.pt i2.1, E.pt j4.1] ?_ ?_)))))))))
  · exact ⟨⟨Nz.k, Nz.k⟩, ⟨Nz.k, Nz.k⟩, trivial⟩
  intro w h
  exact ⟨((i2.1, i2.2), (j4.1, j4.2)), trivial, rfl, A.dq [0, 3, 1, 2] [] h⟩
 refine E.C.held (A.Y [A.blk j4.1 (Q.S.cells Q.z0 ++ [E.pt j4.2]), A.blk g1 (Zecla s x0 x1 x2 x3 z a code)]) Nz.k (E.tk 0 (E.pt j4.1) rfl (fun w h => A.hq [1, 2] [0, 3, 4] h) (E.tk 1 (E.pt j4.1) rfl (fun w h => A.hq [1, 2] [0, 3, 4] h) (E.tk 2 (.pointer (some ⟨j4.1, 24, none⟩)) rfl (fun w h => A.hq [1, 2] [0, 3, 4] h) (E.tj 3 (E.pt j4.2) rfl (fun w h => A.hq [1, 2] [0, 3, 4] h) (fun w h => A.Y.bld h (k := 0) (j := 24) rfl Nz.k Nz.k) (E.tk 4 (E.pj g1 29) rfl (fun w h => A.hq [1, 2] [0, 3, 4] h) (E.tj 5 (E.u a) rfl (fun w h => A.hq [1, 2] [0, 3, 4] h) (fun w h => A.Y.bld h (k := 1) (j := 29) rfl Nz.k Nz.k) (E.tk 6 (.string (K.cut code)) rfl (fun w h => A.hq [1, 2] [0, 3, 4] h) (E.al 7 rfl (A.gc (q := fun _ => [R.It j4.2 (K.bW z a code)]) (fun _ => .tuple #[]) (J_Poke a (K.cut code) ha (by have := K.cut_size code; omega) (m := j4.2) (V := ((M.V.new (M.np 4) true).poke (0 : Int).toNat (K.fill z) (K.fill z).size))) [3] [0, 1, 2, 4] [1, 2, 3, 0, 4] (fun _ => [(i2.1, (E.pt i2.2 :: Q.S.cells Q.z0)), (j4.1, (Q.S.cells Q.z0 ++ [E.pt j4.2])), (g1, (Zecla s x0 x1 x2 x3 z a code))]) (fun _ => [R.It j4.2 (K.bW z a code), M.It i2.2 (K.bW z a code) ([])]) (fun _ hd10 => E.H.back (fun w h => A.hq [1, 2] [0, 3, 4] h) (E.H.done Nz.k ?_)))))))))))
 exact fun a w h1 h2 => dn _ _ _ rest a w (h1.sub ⟨Nz.k, Nz.k⟩) (h2.less Nz.sub)
theorem A.trAs {P : Program} {f : FuncId} {args : Array Value} {p : List A.It} {v v' : Value} {q q' : List A.It} (h : A.Tr P f args p (I := Unit) (fun _ => True) (fun _ => v) (fun _ => q)) (e : v = v') (e2 : q = q') : A.Tr P f args p (I := Unit) (fun _ => True) (fun _ => v') (fun _ => q') := e2 ▸ e ▸ h
theorem A.hp_openR {w0 w : World} {o0 a0 : Nat → Prop} {its rest : List A.It} {L : List (Nat × List Value)} {r : Nat} {V : M.V} (hne : A.ne L = true) (h1 : its.Perm (R.It r V :: rest)) (h : E.Hp o0 w0 (A.X w0 o0 a0 its) L w) : ∃ s, R.Wf V ∧ E.Hp o0 w0 (A.X w0 o0 a0 (R.its r s V ++ rest)) L w := by
  obtain ⟨o, a, hh, hg⟩ := A.hp_has hne h
  have hp : (A.bl L ++ its).Perm ([R.It r V] ++ (A.bl L ++ rest)) := (List.Perm.append_left _ h1).trans List.perm_middle
  obtain ⟨p1, q1, p2, q2, k1, k2, d1, d2, go, ga⟩ := A.Has.append (l := [R.It r V]) (hh.perm hp)
  obtain ⟨p3, q3, ⟨hw, s, hs⟩, e3, e4⟩ := A.Has.one' k1
  have hh' := (hs.join k2 (fun x hx hk => d1 x ((e3 x).1 hx) hk) (fun x hx hk => d2 x hx ((e4 x).1 hk))).iff (o' := o) (a' := a) (fun x => (go x).trans (or_congr (e3 x).symm Iff.rfl)) (fun x => (ga x).trans (or_congr (e4 x).symm Iff.rfl))
  have hq : (R.its r s V ++ (A.bl L ++ rest)).Perm (A.bl L ++ (R.its r s V ++ rest)) := by
    rw [← List.append_assoc, ← List.append_assoc]; exact List.Perm.append_right _ List.perm_append_comm
  exact ⟨s, hw, A.has_hp h.x.1 (hh'.perm hq) hg h.ch⟩
theorem A.C.openR {P : Program} {n : Nat} {Q : Exit → Act → World → Prop} {w0 : World} {o0 a0 : Nat → Prop} {its : List A.It} {L : List (Nat × List Value)} {fr : E.Fr} {c : Code} {r : Nat} {V : M.V} (rest : List A.It) (hne : A.ne L = true) (h1 : its.Perm (R.It r V :: rest)) (its2 : R.Sl → List A.It) (h2 : ∀ s, (R.its r s V ++ rest).Perm (its2 s))
    (k : ∀ s, R.Wf V → E.C P n Q c fr o0 w0 (A.X w0 o0 a0 (its2 s)) L) : E.C P n Q c fr o0 w0 (A.X w0 o0 a0 its) L := fun a w hs h => by
  obtain ⟨s, hw, hb⟩ := A.hp_openR hne h1 h
  exact k s hw a w hs (hb.monoX fun w ⟨u, o, a, hh, hg⟩ => ⟨u, o, a, hh.perm (h2 s), hg⟩)
theorem A.C.closeR {P : Program} {n : Nat} {Q : Exit → Act → World → Prop} {w0 : World} {o0 a0 : Nat → Prop} {its its2 : List A.It} {L : List (Nat × List Value)} {fr : E.Fr} {c : Code} {r : Nat} {V : M.V} {s : R.Sl} (rest : List A.It) (hw : R.Wf V) (h1 : its.Perm (R.its r s V ++ rest)) (h2 : (R.It r V :: rest).Perm its2)
    (k : E.C P n Q c fr o0 w0 (A.X w0 o0 a0 its2) L) : E.C P n Q c fr o0 w0 (A.X w0 o0 a0 its) L := fun a w hs h => k a w hs (h.monoX fun w ⟨u, o, a, hh, hg⟩ => by
    obtain ⟨p1, q1, p2, q2, k1, k2, d1, d2, go, ga⟩ := A.Has.append (l := R.its r s V) (hh.perm h1)
    exact ⟨u, o, a, A.Has.perm h2 (((A.Has.one (it := R.It r V) ⟨hw, s, k1⟩).join k2 d1 d2).iff go ga), hg⟩)
/-- Content of a reference memory as a string. -/
theorem K.data_get {W : M.V} (hn : W.n = 4) {k : Nat} (hk : k < 1024) : (R.flat W.d W.n).getD k 0 = W.peek (((k : Nat) : Int)).toNat := by
  rw [Int.toNat_natCast, R.flat_get (by omega)]
  unfold M.V.peek
  rw [if_pos (by omega)]
theorem K.data_len {W : M.V} (hn : W.n = 4) : (R.flat W.d W.n).length = 1024 := by rw [R.flat_len, hn]
theorem Both2 (s : Q.S) (x0 x1 x2 x3 z a : Int) (code : ByteArray) (ha : 0 ≤ a ∧ a < 4294967296) (h0 : 0 ≤ x0 ∧ x0 < 256) (h1 : 0 ≤ x1 ∧ x1 < 256) (h2 : 0 ≤ x2 ∧ x2 < 256) (h3 : 0 ≤ x3 ∧ x3 < 256) {S S5 : Q.S} {V : M.V} (hS : K.norm s = S) (hS5 : K5.norm s = S5) (hV : K.bV x0 x1 x2 x3 z a code = V) : A.Tr Tryz.prog 16 #[.agg (Q.S.cells s ++ [Value.int .u8 x0, Value.int .u8 x1, Value.int .u8 x2, Value.int .u8 x3, Value.int .u32 z, Value.int .u32 a, Value.string code]).toArray] [] (I := (Nat × Nat) × (Nat × Nat)) (fun _ => True) (fun i => .tuple #[.pointer (some ⟨i.1.1, 0, none⟩), .pointer (some ⟨i.2.1, 0, none⟩)]) (fun i => [A.blk i.1.1 (.pointer (some ⟨i.1.2, 0, none⟩) :: Q.S.cells S), M.It i.1.2 V [], A.blk i.2.1 (Q.S.cells S5 ++ [.pointer (some ⟨i.2.2, 0, none⟩)]), R.It i.2.2 V]) := by
  subst hS; subst hS5; subst hV
  exact Both s x0 x1 x2 x3 z a code ha h0 h1 h2 h3
theorem Step5_any {m : Nat} (s : Q.S) (V : M.V) (hs : Q.wf s) (hf : K.fb s) (hV : R.Wf V) {T : Q.S} {k t : Int} {W : M.V} (h : K.step s V = (T, k, t, W)) : A.Tr Tryz.prog 21 #[Q.S.val s, .pointer (some ⟨m, 0, none⟩)] [R.It m V] (I := Unit) (fun _ => True) (fun _ => Q.out T k t) (fun _ => [R.It m W]) := by
  have e := K5.step_eq (V := V) hs hf
  rw [h] at e
  have e : K5.stepI (K.fetch V s.pc).1 (K.fetch V s.pc).2.1 (K.fetch V s.pc).2.2 s V = (T, k, t, W) := e
  have h5 := Step5_i (m := m) (K.fetch V s.pc).1 (K.fetch V s.pc).2.1 (K.fetch V s.pc).2.2 s V rfl K.fetch_ok hs hV
  rw [e] at h5
  exact h5
/-- What a step in progress keeps: the count of steps; a trap leaves the memory. -/
structure K.tp (t : Int) (V : M.V) (y : K.W × M.V) : Prop where
  st : y.1.s.st = t
  k : 0 ≤ y.1.k ∧ y.1.k ≤ 7 ∧ y.1.k ≠ 1
  mem : (y.1.k != 0) = true → y.2 = V
section
variable {x : K.W} {V : M.V} {t : Int} (hk : x.k = 0) (ht : x.s.st = t)
include hk ht
end
/-- What a step's trap may be; a trap leaves state and memory, every other step counts. -/
structure K.trp (s : Q.S) (V : M.V) (x : Q.S × Int × Int × M.V) : Prop where
  k : 0 ≤ x.2.1 ∧ x.2.1 ≤ 7 ∧ x.2.1 ≠ 1
  mem : (x.2.1 != 0) = true → x.2.2.2 = V
  st : (x.2.1 != 0) = false → x.1.st = IntKind.wrap .i64 (s.st + 1)
theorem K.trp.one {s : Q.S} {V : M.V} {x : Q.S × Int × Int × M.V} (h : K.trp s V x) : x.2.1 ≠ 1 := h.k.2.2
/-- A valid instruction. -/
structure K.Good (i : K.Ins) : Prop where
  val : R2.Valid i = true
  i0 : 0 ≤ i.imm
  i1 : i.imm < 4294967296
def K.bytes (i : K.Ins) : ByteArray := (R2.Encode i).1
structure K.Enc (i : K.Ins) (k : Nat) : Prop where
  fmt : K.fmt i.op = some k
  lt : k < 11
  inn : K.In i
  sz : i.sz = K.len k
  enc : R2.Encode i = (strOfNums (K.ser k i), 0)
  v1 : K.valid1 k i = true
/-- No timer is due. -/
abbrev K.nd (s : Q.S) : Prop := (decide (s.du > 0) && decide (s.st ≥ s.du)) = false
theorem K.nd0 {s : Q.S} (h : s.du ≤ 0) : K.nd s := by unfold K.nd; rw [decide_eq_false (by omega : ¬ s.du > 0)]; rfl
theorem K.nd1 {s : Q.S} (h : s.st < s.du) : K.nd s := by unfold K.nd; rw [decide_eq_false (by omega : ¬ s.st ≥ s.du), Bool.and_false]
/-- A memory of four pages that shows the bytes f and the rights r. -/
structure K.Mem (V : M.V) (f : Nat → Int) (r : Nat → Int) : Prop where
  n : V.n = 4
  co : V.coh = true
  d : ∀ x, x < 1024 → V.d (x / 256) (x % 256) = f x
  i : ∀ x, x < 1024 → V.i (x / 256) (x % 256) = f x
  r : ∀ j, j < 4 → V.r j = r j
theorem K.Mem.eq {V : M.V} {f g r : Nat → Int} (h : K.Mem V f r) (e : ∀ x, x < 1024 → f x = g x) : K.Mem V g r := ⟨h.n, h.co, fun x hx => (h.d x hx).trans (e x hx), fun x hx => (h.i x hx).trans (e x hx), h.r⟩
theorem K.Mem.set {V : M.V} {f r : Nat → Int} (h : K.Mem V f r) (a : Nat) (v : Int) : K.Mem (V.set a v) (fun x => if x = a then v else f x) r := by
  unfold M.V.set
  by_cases ha : a / 256 < V.n
  · rw [if_pos ha]
    refine ⟨h.n, h.co, fun x hx => ?_, fun x hx => ?_, h.r⟩
    · show M.up V.d (a / 256) (a % 256) v (x / 256) (x % 256) = _
      unfold M.up
      by_cases e : x = a
      · subst e; rw [if_pos ⟨rfl, rfl⟩, if_pos rfl]
      · rw [if_neg (by omega), if_neg e]; exact h.d x hx
    · show (if V.coh = true then M.up V.i (a / 256) (a % 256) v else V.i) (x / 256) (x % 256) = _
      rw [if_pos h.co]
      unfold M.up
      by_cases e : x = a
      · subst e; rw [if_pos ⟨rfl, rfl⟩, if_pos rfl]
      · rw [if_neg (by omega), if_neg e]; exact h.i x hx
  · rw [if_neg ha]
    have := h.n
    exact h.eq fun x hx => by rw [if_neg (by omega)]
theorem K.Mem.poke {V : M.V} {f r : Nat → Int} (h : K.Mem V f r) (a : Nat) (s : ByteArray) : ∀ c, a + c ≤ 4294967296 → K.Mem (V.poke a s c) (fun x => if a ≤ x ∧ x < a + c then W.byt s.data.toList (x - a) else f x) r
  | 0, _ => h.eq fun x hx => by rw [if_neg (by omega)]
  | c + 1, hc => by
    have ih := K.Mem.poke h a s c (by omega)
    have h2 := ih.set ((a + c) % 4294967296) (W.byt s.data.toList c)
    rw [Nat.mod_eq_of_lt (by omega : a + c < 4294967296)] at h2
    show K.Mem ((V.poke a s c).set ((a + c) % 4294967296) (W.byt s.data.toList c)) _ _
    rw [Nat.mod_eq_of_lt (by omega : a + c < 4294967296)]
    refine h2.eq fun x hx => ?_
    by_cases e : x = a + c
    · rw [if_pos e, if_pos (by omega), show x - a = c by omega]
    · rw [if_neg e]
      by_cases e2 : a ≤ x ∧ x < a + c
      · rw [if_pos e2, if_pos (by omega)]
      · rw [if_neg e2, if_neg (by omega)]
theorem K.Mem.put {V : M.V} {f r : Nat → Int} (h : K.Mem V f r) (a : Nat) (v : Int) : ∀ c, a + c ≤ 4294967296 → K.Mem (V.put a v c) (fun x => if a ≤ x ∧ x < a + c then IntKind.wrap .u8 (Int.fdiv v (2 ^ (8 * (x - a)))) else f x) r
  | 0, _ => h.eq fun x hx => by rw [if_neg (by omega)]
  | c + 1, hc => by
    have ih := K.Mem.put h a v c (by omega)
    have h2 := ih.set ((a + c) % 4294967296) (IntKind.wrap .u8 (Int.fdiv v (2 ^ (8 * c))))
    rw [Nat.mod_eq_of_lt (by omega : a + c < 4294967296)] at h2
    show K.Mem ((V.put a v c).set ((a + c) % 4294967296) (IntKind.wrap .u8 (Int.fdiv v (2 ^ (8 * c))))) _ _
    rw [Nat.mod_eq_of_lt (by omega : a + c < 4294967296)]
    refine h2.eq fun x hx => ?_
    by_cases e : x = a + c
    · rw [if_pos e, if_pos (by omega), show x - a = c by omega]
    · rw [if_neg e]
      by_cases e2 : a ≤ x ∧ x < a + c
      · rw [if_pos e2, if_pos (by omega)]
      · rw [if_neg e2, if_neg (by omega)]
theorem K.Mem.prot {V : M.V} {f r : Nat → Int} (h : K.Mem V f r) (k : Int) (p : Int) (hk : 0 ≤ k ∧ k < 4) : K.Mem (V.prot k p) f (fun j => if j = k.toNat then bits .and .i64 p 7 else r j) := by
  unfold M.V.prot
  have := h.n
  rw [if_pos (by omega)]
  refine ⟨h.n, h.co, h.d, h.i, fun j hj => ?_⟩
  show (if j = k.toNat then bits .and .i64 p 7 else V.r j) = _
  by_cases e : j = k.toNat
  · rw [if_pos e, if_pos e]
  · rw [if_neg e, if_neg e]; exact h.r j hj
theorem K.Mem.ok {V : M.V} {f r : Nat → Int} (h : K.Mem V f r) (a : Nat) (q : Int) (ha : a < 1024) : V.ok a q = !(bits .and .i64 (r (a / 256)) q == 0) := by
  have e2 : a / 256 < V.n := by rw [h.n]; omega
  have e3 : V.r (a / 256) = r (a / 256) := h.r _ (by omega)
  unfold M.V.ok
  rw [decide_eq_true e2, Bool.true_and, e3]
theorem K.Mem.peek {V : M.V} {f r : Nat → Int} (h : K.Mem V f r) {a : Nat} (ha : a < 1024) : V.peek a = f a := by
  unfold M.V.peek; rw [if_pos (by rw [h.n]; omega)]; exact h.d a ha
theorem K.Mem.fetch {V : M.V} {f r : Nat → Int} (h : K.Mem V f r) {a : Nat} (ha : a < 1024) (hr : (bits .and .i64 (r (a / 256)) 4 == 0) = false) : V.fetch a = (f a, true) := by
  unfold M.V.fetch M.V.code
  rw [h.ok a 4 ha, hr, if_pos (by rfl : (!false) = true), if_pos (by rw [h.n]; omega), h.i a ha]
theorem K.drop {P : Program} {n : Nat} {Q : Exit → Act → World → Prop} {w0 : World} {o0 a0 : Nat → Prop} {its : List A.It} {L : List (Nat × List Value)} {fr : E.Fr} {c : Code} (l r : List A.It) (hp : its.Perm (l ++ r)) (k : E.C P n Q c fr o0 w0 (A.X w0 o0 a0 l) L) : E.C P n Q c fr o0 w0 (A.X w0 o0 a0 its) L :=
  fun a w h1 h2 => k a w h1 (h2.monoX fun w ⟨hs, o, a, hh, hg⟩ => by
    obtain ⟨o1, a1, o2, a2, k1, k2, _, _, ho, ha⟩ := (hh.perm hp).append
    exact ⟨hs, o1, a1, k1, fun x hx hk => hg.1 x hx ((ho x).2 (.inl hk)), fun x hx hk => hg.2 x hx ((ha x).2 (.inl hk))⟩)
/-- A memory of four pages that was never cleaned: nothing beyond its pages. -/
structure K.Ext (V : M.V) : Prop where
  n : V.n = 4
  co : V.coh = true
  i : V.i = V.d
  cd : V.cd = fun _ _ => 0
  ci : V.ci = fun _ _ => 0
  d : ∀ j x, ¬ (j < 4 ∧ x < 256) → V.d j x = 0
theorem K.Ext.new : K.Ext (M.V.new (M.np 4) true) := ⟨by kernel_rfl, rfl, rfl, rfl, rfl, fun _ _ _ => rfl⟩
theorem K.Ext.set {V : M.V} (h : K.Ext V) (a : Nat) (v : Int) : K.Ext (V.set a v) := by
  unfold M.V.set
  by_cases e : a / 256 < V.n
  · rw [if_pos e]
    have e4 : a / 256 < 4 := by rw [← h.n]; exact e
    refine ⟨h.n, h.co, ?_, h.cd, h.ci, fun j x hj => ?_⟩
    · show (if V.coh then M.up V.i (a / 256) (a % 256) v else V.i) = M.up V.d (a / 256) (a % 256) v
      rw [if_pos h.co, h.i]
    · show (if j = a / 256 ∧ x = a % 256 then v else V.d j x) = 0
      rw [if_neg (fun ⟨e1, e2⟩ => hj ⟨by omega, by omega⟩)]
      exact h.d j x hj
  · rw [if_neg e]; exact h
theorem K.Ext.poke {V : M.V} (h : K.Ext V) (a : Nat) (s : ByteArray) : ∀ c, K.Ext (V.poke a s c)
  | 0 => h
  | c + 1 => (K.Ext.poke h a s c).set _ _
theorem K.Ext.put {V : M.V} (h : K.Ext V) (a : Nat) (v : Int) : ∀ c, K.Ext (V.put a v c)
  | 0 => h
  | c + 1 => (K.Ext.put h a v c).set _ _
theorem K.Ext.prot {V : M.V} (h : K.Ext V) (n r : Int) : K.Ext (V.prot n r) := by
  unfold M.V.prot; split
  · exact ⟨h.n, h.co, h.i, h.cd, h.ci, h.d⟩
  · exact h
theorem K.Ext.sto {V : M.V} (h : K.Ext V) (a : Nat) (n v : Int) : K.Ext (V.sto a n v) := by
  unfold M.V.sto; split
  · exact h.put _ _ _
  · exact h
theorem K.Ext.eq {V W : M.V} (h : K.Ext V) (k : K.Ext W) (e : ∀ y, y < 1024 → V.d (y / 256) (y % 256) = W.d (y / 256) (y % 256)) (r : V.r = W.r) : V = W := by
  have ed : V.d = W.d := funext fun j => funext fun x => by
    by_cases hj : j < 4 ∧ x < 256
    · have := e (256 * j + x) (by omega)
      rw [show (256 * j + x) / 256 = j by omega, show (256 * j + x) % 256 = x by omega] at this
      exact this
    · rw [h.d j x hj, k.d j x hj]
  obtain ⟨n1, c1, d1, i1, a1, b1, r1⟩ := V
  obtain ⟨n2, c2, d2, i2, a2, b2, r2⟩ := W
  obtain ⟨h1, h2, h3, h4, h5, -⟩ := h
  obtain ⟨k1, k2, k3, k4, k5, -⟩ := k
  obtain rfl : n1 = n2 := (show n1 = 4 from h1).trans (show n2 = 4 from k1).symm
  obtain rfl : c1 = c2 := (show c1 = true from h2).trans (show c2 = true from k2).symm
  obtain rfl : d1 = d2 := ed
  obtain rfl : i1 = i2 := (show i1 = d1 from h3).trans (show i2 = d1 from k3).symm
  obtain rfl : a1 = a2 := (show a1 = _ from h4).trans (show a2 = _ from k4).symm
  obtain rfl : b1 = b2 := (show b1 = _ from h5).trans (show b2 = _ from k5).symm
  obtain rfl : r1 = r2 := r
  rfl
theorem K.set_r (V : M.V) (a : Nat) (v : Int) : (V.set a v).r = V.r := by unfold M.V.set; split <;> rfl
theorem K.poke_r (V : M.V) (a : Nat) (s : ByteArray) : ∀ c, (V.poke a s c).r = V.r
  | 0 => rfl
  | c + 1 => (K.set_r _ _ _).trans (K.poke_r V a s c)
/-- A new memory into which another one's content is poked. -/
theorem K.copy {V : M.V} (h : K.Ext V) (hw : R.Wf V) (hr : V.r = fun _ => 0) : (M.V.new (M.np 4) true).poke (0 : Int).toNat (strOfNums (R.flat V.d V.n)) (strOfNums (R.flat V.d V.n)).size = V := by
  have hz : (strOfNums (R.flat V.d V.n)).size = 1024 := by rw [strOfNums_size, R.flat_len, h.n]
  have h0 : K.Mem (M.V.new (M.np 4) true) (fun _ => 0) (fun _ => 0) := ⟨by kernel_rfl, rfl, fun _ _ => rfl, fun _ _ => rfl, fun _ _ => rfl⟩
  refine K.Ext.eq (K.Ext.new.poke _ _ _) h (fun y hy => ?_) ((K.poke_r _ _ _ _).trans hr.symm)
  refine ((h0.poke (0 : Int).toNat (strOfNums (R.flat V.d V.n)) _ (by rw [hz]; decide)).d y hy).trans ?_
  show (if 0 ≤ y ∧ y < 0 + (strOfNums (R.flat V.d V.n)).size then W.byt (strOfNums (R.flat V.d V.n)).data.toList (y - 0) else 0) = _
  rw [hz, if_pos (by omega), Nat.sub_zero, W.byt_nums _ y (fun x hx => ?_), R.flat_get (by rw [h.n]; omega)]
  unfold R.flat at hx
  obtain ⟨q, hq, rfl⟩ := List.mem_map.1 hx
  have hq := List.mem_range.1 hq
  exact hw.d _ (by omega) _ (by omega)
theorem K.bW_ext (z a : Int) (s : ByteArray) : K.Ext (K.bW z a s) := (K.Ext.new.poke _ _ _).poke _ _ _
theorem K.bV_ext (x0 x1 x2 x3 z a : Int) (s : ByteArray) : K.Ext (K.bV x0 x1 x2 x3 z a s) := ((((K.bW_ext z a s).prot _ _).prot _ _).prot _ _).prot _ _
/-- What stores keep, a step keeps. -/
theorem K.stepI_mem {P : M.V → Prop} {i : K.Ins} {k t : Int} {s : Q.S} {V : M.V} (h : P V) (hs : ∀ a n v, P (V.sto a n v)) : P (K.stepI i k t s V).2.2.2 := by
  let p : Q.S × Int × Int × M.V → Prop := fun x => P x.2.2.2
  let q : K.W × M.V → Prop := fun y => P y.2
  show p (K.stepI i k t s V)
  have hp : ∀ x a n v, q (K.put x V a n v) := fun x a n v => Q.bifP (p := q) (fun _ => hs _ _ _) fun _ => hs _ _ _
  have hu : ∀ x v, q (K.push x V v) := fun x v => hp _ _ _ _
  have b2 : ∀ {c : Bool} {y : K.W × M.V}, q y → p (bif c then (s, y.1.k, y.1.t, y.2) else (y.1.s, y.1.k, y.1.t, y.2)) := fun h => Q.bifP (p := p) (fun _ => h) fun _ => h
  have hM : ∀ o, q (K.access (K.w0 s i) V o) := fun o => by
    unfold K.access
    refine Q.bifP (p := q) (fun _ => Q.bifP (p := q) (fun _ => h) fun _ => h) fun _ => ?_
    refine Q.bifP (p := q) (fun _ => Q.bifP (p := q) (fun _ => h) fun _ => h) fun _ => ?_
    refine Q.bifP (p := q) (fun _ => hp _ _ _ _) fun _ => ?_
    refine Q.bifP (p := q) (fun _ => hp _ _ _ _) fun _ => ?_
    refine Q.bifP (p := q) (fun _ => h) fun _ => ?_
    refine Q.bifP (p := q) (fun _ => Q.bifP (p := q) (fun _ => h) fun _ => h) fun _ => ?_
    exact Q.bifP (p := q) (fun _ => Q.bifP (p := q) (fun _ => h) fun _ => hp _ _ _ _) fun _ => h
  have hS : q (K.single (K.w0 s i) V) := by
    unfold K.single
    refine Q.bifP (p := q) (fun _ => hu _ _) fun _ => ?_
    refine Q.bifP (p := q) (fun _ => Q.bifP (p := q) (fun _ => h) fun _ => h) fun _ => ?_
    refine Q.bifP (p := q) (fun _ => h) fun _ => ?_
    refine Q.bifP (p := q) (fun _ => h) fun _ => ?_
    refine Q.bifP (p := q) (fun _ => (hu _ _ : _)) fun _ => ?_
    exact Q.bifP (p := q) (fun _ => h) fun _ => h
  have hC : q (K.control (K.w0 s i) V) := by
    unfold K.control
    refine Q.bifP (p := q) (fun _ => Q.bifP (p := q) (fun _ => h) fun _ => h) fun _ => ?_
    refine Q.bifP (p := q) (fun _ => h) fun _ => ?_
    refine Q.bifP (p := q) (fun _ => h) fun _ => ?_
    refine Q.bifP (p := q) (fun _ => h) fun _ => ?_
    refine Q.bifP (p := q) (fun _ => (hu _ _ : _)) fun _ => ?_
    refine Q.bifP (p := q) (fun _ => h) fun _ => ?_
    refine Q.bifP (p := q) (fun _ => h) fun _ => ?_
    refine Q.bifP (p := q) (fun _ => h) fun _ => ?_
    refine Q.bifP (p := q) (fun _ => ?_) fun _ => h
    refine Q.bifP (p := q) (fun _ => h) fun _ => ?_
    refine Q.bifP (p := q) (fun _ => h) fun _ => ?_
    refine Q.bifP (p := q) (fun _ => ?_) fun _ => h
    exact Q.bifP (p := q) (fun _ => h) fun _ => h
  unfold K.stepI
  have h2 : ∀ {c : Bool} {x y : Q.S × Int × Int}, p (bif c then (x.1, x.2.1, x.2.2, V) else (y.1, y.2.1, y.2.2, V)) := fun {c x y} => Q.bifP (p := p) (fun _ => h) fun _ => h
  refine Q.bifP (p := p) (fun _ => h) fun hk => ?_
  refine Q.bifP (p := p) (fun _ => Q.bifP (p := p) (fun _ => h) fun _ => h) fun _ => ?_
  refine Q.bifP (p := p) (fun _ => Q.bifP (p := p) (fun _ => h) fun _ => h) fun _ => ?_
  refine Q.bifP (p := p) (fun _ => Q.bifP (p := p) (fun _ => h) fun _ => h) fun _ => ?_
  refine Q.bifP (p := p) (fun _ => b2 (hM _)) fun _ => ?_
  refine Q.bifP (p := p) (fun _ => b2 (hM _)) fun _ => ?_
  refine Q.bifP (p := p) (fun _ => b2 hS) fun _ => ?_
  refine Q.bifP (p := p) (fun _ => ?_) fun _ => b2 hC
  exact Q.bifP (p := p) (fun _ => Q.bifP (p := p) (fun _ => h) fun _ => h) fun _ => Q.bifP (p := p) (fun _ => h) fun _ => h
theorem K.step_ext {s : Q.S} {V : M.V} (h : K.Ext V) : K.Ext (K.step s V).2.2.2 := K.stepI_mem h fun a n v => h.sto a n v
end Go.Proofs.YtglidnmmeclneaaGreat
