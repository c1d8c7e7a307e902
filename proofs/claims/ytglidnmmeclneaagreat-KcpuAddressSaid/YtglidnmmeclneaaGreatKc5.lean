/- Texts of the walk, merged (5): see the remark ahead of each. -/
import Derived.Test.YtglidnmmeclneaaGreatKc4
import Derived.Test.YtglidnmmeclneaaGreatProg
import Derived.ChangeKeysEq
namespace Go.Proofs.YtglidnmmeclneaaGreat
set_option linter.unusedVariables false
set_option linter.unusedSimpArgs false
open Go.RowKit
theorem K.res_bd {o a b q : Int} (ha : 0 ≤ a ∧ a < 4294967296) (hb : 0 ≤ b ∧ b < 4294967296) : (0 ≤ (K.res o a b q).a ∧ (K.res o a b q).a < 4294967296) ∧ (0 ≤ (K.res o a b q).b ∧ (K.res o a b q).b < 4294967296) := by
  have z : (0 : Int) ≤ 0 ∧ (0 : Int) < 4294967296 := ⟨Int.le_refl 0, by decide⟩
  let p : K.R → Prop := fun r => (0 ≤ r.a ∧ r.a < 4294967296) ∧ (0 ≤ r.b ∧ r.b < 4294967296)
  have it : ∀ {c : Prop} [Decidable c] {x y : K.R}, p x → p y → p (if c then x else y) := fun hx hy => by split <;> assumption
  have t : p (K.test a b q) := ⟨(W.bits_bd .and a b : 0 ≤ bits .and .u32 a b ∧ bits .and .u32 a b < 4294967296), z⟩
  have l : ∀ v, 0 ≤ v ∧ v < 4294967296 → p (K.logic v) := fun v h => ⟨h, z⟩
  show p (K.res o a b q)
  exact it ⟨z, z⟩ (it ⟨ha, hb⟩ (it ⟨ha, hb⟩ (it ⟨ha, hb⟩ (it ⟨ha, hb⟩ (it ⟨ha, hb⟩ (it t (l _ (W.op_bd _ _ _ ha.1 ha.2 hb.1))))))))
def K.arith (x : K.W) (o b_ : Int) : K.W := (bif ((o == 43) && (b_ == 0)) then ⟨x.u, x.s, x.i, 6, 0⟩ else (bif (K.res o (x.s.r ((x.i.d).toNat)) b_ (IntKind.wrap .i64 (bits .and .u32 (Int.fdiv x.u.f (2 ^ 1)) 1))).st then (bif (((K.res o (x.s.r ((x.i.d).toNat)) b_ (IntKind.wrap .i64 (bits .and .u32 (Int.fdiv x.u.f (2 ^ 1)) 1))).k) != 0) then K.flags (⟨x.u, ⟨x.s.pc, (Q.up x.s.r (x.i.d).toNat ((K.res o (x.s.r ((x.i.d).toNat)) b_ (IntKind.wrap .i64 (bits .and .u32 (Int.fdiv x.u.f (2 ^ 1)) 1))).v)), x.s.f, x.s.c, x.s.st, x.s.du⟩, x.i, x.k, x.t⟩ : K.W) ((K.res o (x.s.r ((x.i.d).toNat)) b_ (IntKind.wrap .i64 (bits .and .u32 (Int.fdiv x.u.f (2 ^ 1)) 1))).k) ((K.res o (x.s.r ((x.i.d).toNat)) b_ (IntKind.wrap .i64 (bits .and .u32 (Int.fdiv x.u.f (2 ^ 1)) 1))).a) ((K.res o (x.s.r ((x.i.d).toNat)) b_ (IntKind.wrap .i64 (bits .and .u32 (Int.fdiv x.u.f (2 ^ 1)) 1))).b) else ⟨x.u, ⟨x.s.pc, (Q.up x.s.r (x.i.d).toNat ((K.res o (x.s.r ((x.i.d).toNat)) b_ (IntKind.wrap .i64 (bits .and .u32 (Int.fdiv x.u.f (2 ^ 1)) 1))).v)), x.s.f, x.s.c, x.s.st, x.s.du⟩, x.i, x.k, x.t⟩) else (bif (((K.res o (x.s.r ((x.i.d).toNat)) b_ (IntKind.wrap .i64 (bits .and .u32 (Int.fdiv x.u.f (2 ^ 1)) 1))).k) != 0) then K.flags x ((K.res o (x.s.r ((x.i.d).toNat)) b_ (IntKind.wrap .i64 (bits .and .u32 (Int.fdiv x.u.f (2 ^ 1)) 1))).k) ((K.res o (x.s.r ((x.i.d).toNat)) b_ (IntKind.wrap .i64 (bits .and .u32 (Int.fdiv x.u.f (2 ^ 1)) 1))).a) ((K.res o (x.s.r ((x.i.d).toNat)) b_ (IntKind.wrap .i64 (bits .and .u32 (Int.fdiv x.u.f (2 ^ 1)) 1))).b) else x)))
theorem Arith_w {b m : Nat} (x : K.W) (o b_ : Int) (ho : 32 ≤ o ∧ o ≤ 46) (hb : 0 ≤ b_ ∧ b_ < 4294967296) (hx : K.wf x) (hi : K.iok x.i) : A.Tr Tryz.prog 53 #[.pointer (some ⟨b, 0, none⟩), .int .i64 o, .int .u32 b_] [A.blk b (K.wk x m)] (I := Unit) (fun _ => True) (fun _ => .tuple #[]) (fun _ => [A.blk b (K.wk (K.arith x o b_) m)]) := by
 intro w oo aa hh
 refine E.enter (n := 61) (S := oo) Tryz.func53 rfl rfl (by kernel_rfl) (A.start (L := [(b, (K.wk x m))]) hh) (E.C.seq (E.C.quiet (by kernel_rfl) (by kernel_rfl) (E.wo (E.pt b) (E.wo (E.pt b) (E.wo (E.pt b) (E.wo (.pointer (some ⟨b, 48, none⟩)) (E.wo (.pointer (some ⟨b, 49, none⟩)) (E.wv (E.i x.i.d) (fun w h => E.run_load h 0 rfl rfl (by kernel_rfl)) (E.wo (E.pt b) (E.wo (.pointer (some ⟨b, 24, none⟩)) (E.wo (.pointer (some ⟨b, 25, none⟩)) ?_)))))))))))
 refine E.wv (.pointer (some ⟨b, 25 + (x.i.d).toNat, none⟩)) (fun w h => E.idxI (e := 22) b 25 16 .i64 x.i.d (by kernel_rfl) (by kernel_rfl) (by kernel_rfl) (by kernel_rfl) (by have := hi.d; omega) w) (E.wo (.pointer (some ⟨b, 25 + (x.i.d).toNat, none⟩)) (E.W.done (E.To.code (E.wk [(0, E.pt b), (1, E.i o), (2, E.u b_), (6, .pointer (some ⟨b, 25 + (x.i.d).toNat, none⟩))] [(b, (K.wk x m))] Nz.sub (E.C.seq (E.sr (E.op (E.i o) (E.op (.bool (o == 43)) (E.op (.bool (o == 43)) (E.G.cut 3 [(0, E.pt b), (1, E.i o), (2, E.u b_), (6, .pointer (some ⟨b, 25 + (x.i.d).toNat, none⟩)), (23, .bool ((o == 43) && (b_ == 0)))] (A.X w oo aa []) [(b, (K.wk x m))] ?_ ?_))))))))))
 ·
  generalize hc1 : (o == 43) = b2
  cases b2
  ·
   exact E.sk (E.sk (E.op (.bool false) (E.G.end_pst ⟨by kernel_rfl, by kernel_rfl⟩ Nz.sub (fun _ h => h))))
  exact E.op (E.u b_) (E.op (.bool (b_ == 0)) (E.op (.bool (b_ == 0)) (E.G.end_pst ⟨by kernel_rfl, by kernel_rfl⟩ Nz.sub (fun _ h => h))))
 refine E.To.code (E.cd ((o == 43) && (b_ == 0)) (fun hc3 => ?_) (fun hc3 => ?_))
 ·
  refine E.sr (E.op (E.pt b) (E.vl (.agg #[E.i 6, E.u 0]) (fun w h => E.run_build #[E.i 6, E.u 0] (by kernel_rfl) w) (E.op (E.pt b) (E.op (.pointer (some ⟨b, 55, none⟩)) (E.st 0 (K.wk (⟨x.u, x.s, x.i, 6, 0⟩) m) rfl rfl (E.To.code (E.C.ret (E.P.rt (E.To.body (fn := Tryz.f53) [] ?_ ?_)))))))))
  · exact trivial
  intro w h
  have e : (K.arith x o b_) = ⟨x.u, x.s, x.i, 6, 0⟩ := by unfold K.arith; rw [hc3, cond_true] <;> rfl
  rw [e]
  exact ⟨(), trivial, rfl, A.dq [0] [] h⟩
 refine E.C.skip (E.To.code (E.C.joint (fun J up dn => ?_)))
 have rest : ∀ (g5 : Nat), J [(0, E.pt b), (6, .pointer (some ⟨b, 25 + (x.i.d).toNat, none⟩)), (7, E.pt g5)] (A.X w oo aa []) [(g5, [E.u ((K.res o (x.s.r ((x.i.d).toNat)) b_ (IntKind.wrap .i64 (bits .and .u32 (Int.fdiv x.u.f (2 ^ 1)) 1))).v), .bool ((K.res o (x.s.r ((x.i.d).toNat)) b_ (IntKind.wrap .i64 (bits .and .u32 (Int.fdiv x.u.f (2 ^ 1)) 1))).st), E.i ((K.res o (x.s.r ((x.i.d).toNat)) b_ (IntKind.wrap .i64 (bits .and .u32 (Int.fdiv x.u.f (2 ^ 1)) 1))).k), E.u ((K.res o (x.s.r ((x.i.d).toNat)) b_ (IntKind.wrap .i64 (bits .and .u32 (Int.fdiv x.u.f (2 ^ 1)) 1))).a), E.u ((K.res o (x.s.r ((x.i.d).toNat)) b_ (IntKind.wrap .i64 (bits .and .u32 (Int.fdiv x.u.f (2 ^ 1)) 1))).b)]), (b, (K.wk x m))] := by
  intro g5
  refine up _ _ _ (E.C.seq (E.sr (E.op (.pointer (some ⟨g5, 1, none⟩)) (E.li (.bool ((K.res o (x.s.r ((x.i.d).toNat)) b_ (IntKind.wrap .i64 (bits .and .u32 (Int.fdiv x.u.f (2 ^ 1)) 1))).st)) 0 rfl rfl (E.To.code (E.cd ((K.res o (x.s.r ((x.i.d).toNat)) b_ (IntKind.wrap .i64 (bits .and .u32 (Int.fdiv x.u.f (2 ^ 1)) 1))).st) (fun hc4 => ?_) (fun hc4 => ?_)))))))
  ·
   refine E.C.region (E.op (.pointer (some ⟨b, 25 + (x.i.d).toNat, none⟩)) (E.op (E.pt g5) (E.li (E.u ((K.res o (x.s.r ((x.i.d).toNat)) b_ (IntKind.wrap .i64 (bits .and .u32 (Int.fdiv x.u.f (2 ^ 1)) 1))).v)) 0 rfl rfl (E.op (.pointer (some ⟨b, 25 + (x.i.d).toNat, none⟩)) (E.G.store 1 (K.wk (⟨x.u, ⟨x.s.pc, (Q.up x.s.r (x.i.d).toNat ((K.res o (x.s.r ((x.i.d).toNat)) b_ (IntKind.wrap .i64 (bits .and .u32 (Int.fdiv x.u.f (2 ^ 1)) 1))).v)), x.s.f, x.s.c, x.s.st, x.s.du⟩, x.i, x.k, x.t⟩) m) rfl rfl (K.sto_s (x := x) (by kernel_rfl) (by have := hi.d; omega)) (by kernel_rfl) (E.tr (E.op (.pointer (some ⟨g5, 2, none⟩)) (E.li (E.i ((K.res o (x.s.r ((x.i.d).toNat)) b_ (IntKind.wrap .i64 (bits .and .u32 (Int.fdiv x.u.f (2 ^ 1)) 1))).k)) 0 rfl rfl (E.op (.bool (((K.res o (x.s.r ((x.i.d).toNat)) b_ (IntKind.wrap .i64 (bits .and .u32 (Int.fdiv x.u.f (2 ^ 1)) 1))).k) != 0)) (E.To.code (E.wk [(0, E.pt b), (7, E.pt g5), (52, .bool (((K.res o (x.s.r ((x.i.d).toNat)) b_ (IntKind.wrap .i64 (bits .and .u32 (Int.fdiv x.u.f (2 ^ 1)) 1))).k) != 0))] [(g5, [E.u ((K.res o (x.s.r ((x.i.d).toNat)) b_ (IntKind.wrap .i64 (bits .and .u32 (Int.fdiv x.u.f (2 ^ 1)) 1))).v), .bool ((K.res o (x.s.r ((x.i.d).toNat)) b_ (IntKind.wrap .i64 (bits .and .u32 (Int.fdiv x.u.f (2 ^ 1)) 1))).st), E.i ((K.res o (x.s.r ((x.i.d).toNat)) b_ (IntKind.wrap .i64 (bits .and .u32 (Int.fdiv x.u.f (2 ^ 1)) 1))).k), E.u ((K.res o (x.s.r ((x.i.d).toNat)) b_ (IntKind.wrap .i64 (bits .and .u32 (Int.fdiv x.u.f (2 ^ 1)) 1))).a), E.u ((K.res o (x.s.r ((x.i.d).toNat)) b_ (IntKind.wrap .i64 (bits .and .u32 (Int.fdiv x.u.f (2 ^ 1)) 1))).b)]), (b, (K.wk (⟨x.u, ⟨x.s.pc, (Q.up x.s.r (x.i.d).toNat ((K.res o (x.s.r ((x.i.d).toNat)) b_ (IntKind.wrap .i64 (bits .and .u32 (Int.fdiv x.u.f (2 ^ 1)) 1))).v)), x.s.f, x.s.c, x.s.st, x.s.du⟩, x.i, x.k, x.t⟩) m))] Nz.sub ?_)))))))))))
   refine E.cd (((K.res o (x.s.r ((x.i.d).toNat)) b_ (IntKind.wrap .i64 (bits .and .u32 (Int.fdiv x.u.f (2 ^ 1)) 1))).k) != 0) (fun hc5 => ?_) (fun hc5 => ?_)
   ·
    refine E.C.region (E.op (E.pt b) (E.op (.pointer (some ⟨g5, 2, none⟩)) (E.li (E.i ((K.res o (x.s.r ((x.i.d).toNat)) b_ (IntKind.wrap .i64 (bits .and .u32 (Int.fdiv x.u.f (2 ^ 1)) 1))).k)) 0 rfl rfl (E.op (.pointer (some ⟨g5, 3, none⟩)) (E.li (E.u ((K.res o (x.s.r ((x.i.d).toNat)) b_ (IntKind.wrap .i64 (bits .and .u32 (Int.fdiv x.u.f (2 ^ 1)) 1))).a)) 0 rfl rfl (E.op (.pointer (some ⟨g5, 4, none⟩)) (E.li (E.u ((K.res o (x.s.r ((x.i.d).toNat)) b_ (IntKind.wrap .i64 (bits .and .u32 (Int.fdiv x.u.f (2 ^ 1)) 1))).b)) 0 rfl rfl (A.G.call (I := Unit) (D := fun _ => True) (V := fun _ => .tuple #[]) (q := fun _ => [A.blk b (K.wk (K.flags (⟨x.u, ⟨x.s.pc, (Q.up x.s.r (x.i.d).toNat ((K.res o (x.s.r ((x.i.d).toNat)) b_ (IntKind.wrap .i64 (bits .and .u32 (Int.fdiv x.u.f (2 ^ 1)) 1))).v)), x.s.f, x.s.c, x.s.st, x.s.du⟩, x.i, x.k, x.t⟩ : K.W) ((K.res o (x.s.r ((x.i.d).toNat)) b_ (IntKind.wrap .i64 (bits .and .u32 (Int.fdiv x.u.f (2 ^ 1)) 1))).k) ((K.res o (x.s.r ((x.i.d).toNat)) b_ (IntKind.wrap .i64 (bits .and .u32 (Int.fdiv x.u.f (2 ^ 1)) 1))).a) ((K.res o (x.s.r ((x.i.d).toNat)) b_ (IntKind.wrap .i64 (bits .and .u32 (Int.fdiv x.u.f (2 ^ 1)) 1))).b)) m)]) [A.blk g5 ([E.u ((K.res o (x.s.r ((x.i.d).toNat)) b_ (IntKind.wrap .i64 (bits .and .u32 (Int.fdiv x.u.f (2 ^ 1)) 1))).v), .bool ((K.res o (x.s.r ((x.i.d).toNat)) b_ (IntKind.wrap .i64 (bits .and .u32 (Int.fdiv x.u.f (2 ^ 1)) 1))).st), E.i ((K.res o (x.s.r ((x.i.d).toNat)) b_ (IntKind.wrap .i64 (bits .and .u32 (Int.fdiv x.u.f (2 ^ 1)) 1))).k), E.u ((K.res o (x.s.r ((x.i.d).toNat)) b_ (IntKind.wrap .i64 (bits .and .u32 (Int.fdiv x.u.f (2 ^ 1)) 1))).a), E.u ((K.res o (x.s.r ((x.i.d).toNat)) b_ (IntKind.wrap .i64 (bits .and .u32 (Int.fdiv x.u.f (2 ^ 1)) 1))).b)])] (fun _ => [(b, (K.wk (K.flags (⟨x.u, ⟨x.s.pc, (Q.up x.s.r (x.i.d).toNat ((K.res o (x.s.r ((x.i.d).toNat)) b_ (IntKind.wrap .i64 (bits .and .u32 (Int.fdiv x.u.f (2 ^ 1)) 1))).v)), x.s.f, x.s.c, x.s.st, x.s.du⟩, x.i, x.k, x.t⟩ : K.W) ((K.res o (x.s.r ((x.i.d).toNat)) b_ (IntKind.wrap .i64 (bits .and .u32 (Int.fdiv x.u.f (2 ^ 1)) 1))).k) ((K.res o (x.s.r ((x.i.d).toNat)) b_ (IntKind.wrap .i64 (bits .and .u32 (Int.fdiv x.u.f (2 ^ 1)) 1))).a) ((K.res o (x.s.r ((x.i.d).toNat)) b_ (IntKind.wrap .i64 (bits .and .u32 (Int.fdiv x.u.f (2 ^ 1)) 1))).b)) m)), (g5, [E.u ((K.res o (x.s.r ((x.i.d).toNat)) b_ (IntKind.wrap .i64 (bits .and .u32 (Int.fdiv x.u.f (2 ^ 1)) 1))).v), .bool ((K.res o (x.s.r ((x.i.d).toNat)) b_ (IntKind.wrap .i64 (bits .and .u32 (Int.fdiv x.u.f (2 ^ 1)) 1))).st), E.i ((K.res o (x.s.r ((x.i.d).toNat)) b_ (IntKind.wrap .i64 (bits .and .u32 (Int.fdiv x.u.f (2 ^ 1)) 1))).k), E.u ((K.res o (x.s.r ((x.i.d).toNat)) b_ (IntKind.wrap .i64 (bits .and .u32 (Int.fdiv x.u.f (2 ^ 1)) 1))).a), E.u ((K.res o (x.s.r ((x.i.d).toNat)) b_ (IntKind.wrap .i64 (bits .and .u32 (Int.fdiv x.u.f (2 ^ 1)) 1))).b)])]) (fun _ => []) (Flags_w (b := b) (m := m) (⟨x.u, ⟨x.s.pc, (Q.up x.s.r (x.i.d).toNat ((K.res o (x.s.r ((x.i.d).toNat)) b_ (IntKind.wrap .i64 (bits .and .u32 (Int.fdiv x.u.f (2 ^ 1)) 1))).v)), x.s.f, x.s.c, x.s.st, x.s.du⟩, x.i, x.k, x.t⟩ : K.W) ((K.res o (x.s.r ((x.i.d).toNat)) b_ (IntKind.wrap .i64 (bits .and .u32 (Int.fdiv x.u.f (2 ^ 1)) 1))).k) ((K.res o (x.s.r ((x.i.d).toNat)) b_ (IntKind.wrap .i64 (bits .and .u32 (Int.fdiv x.u.f (2 ^ 1)) 1))).a) ((K.res o (x.s.r ((x.i.d).toNat)) b_ (IntKind.wrap .i64 (bits .and .u32 (Int.fdiv x.u.f (2 ^ 1)) 1))).b) (K.res_bd (hx.s.r _) hb).1 (K.res_bd (hx.s.r _) hb).2) (by kernel_rfl) (A.pn [1, 0]) (fun _ => A.pm [0, 1] (by kernel_rfl) (by kernel_rfl)) (fun w _ => by kernel_rfl) (by kernel_rfl) (fun _ hd6 => E.To.bodyN (fn := Tryz.f53) [] ?_ ?_)))))))))
    · exact trivial
    intro w h
    have e : (K.arith x o b_) = K.flags (⟨x.u, ⟨x.s.pc, (Q.up x.s.r (x.i.d).toNat ((K.res o (x.s.r ((x.i.d).toNat)) b_ (IntKind.wrap .i64 (bits .and .u32 (Int.fdiv x.u.f (2 ^ 1)) 1))).v)), x.s.f, x.s.c, x.s.st, x.s.du⟩, x.i, x.k, x.t⟩ : K.W) ((K.res o (x.s.r ((x.i.d).toNat)) b_ (IntKind.wrap .i64 (bits .and .u32 (Int.fdiv x.u.f (2 ^ 1)) 1))).k) ((K.res o (x.s.r ((x.i.d).toNat)) b_ (IntKind.wrap .i64 (bits .and .u32 (Int.fdiv x.u.f (2 ^ 1)) 1))).a) ((K.res o (x.s.r ((x.i.d).toNat)) b_ (IntKind.wrap .i64 (bits .and .u32 (Int.fdiv x.u.f (2 ^ 1)) 1))).b) := by unfold K.arith; rw [hc3, cond_false, hc4, cond_true, hc5, cond_true] <;> rfl
    rw [e]
    exact ⟨(), trivial, rfl, A.dq [0] [1] h⟩
   refine E.C.skip (E.To.bodyN (fn := Tryz.f53) [] ?_ ?_)
   · exact trivial
   intro w h
   have e : (K.arith x o b_) = ⟨x.u, ⟨x.s.pc, (Q.up x.s.r (x.i.d).toNat ((K.res o (x.s.r ((x.i.d).toNat)) b_ (IntKind.wrap .i64 (bits .and .u32 (Int.fdiv x.u.f (2 ^ 1)) 1))).v)), x.s.f, x.s.c, x.s.st, x.s.du⟩, x.i, x.k, x.t⟩ := by unfold K.arith; rw [hc3, cond_false, hc4, cond_true, hc5, cond_false] <;> rfl
   rw [e]
   exact ⟨(), trivial, rfl, A.dq [1] [0] h⟩
  refine E.C.skip (E.To.code (E.sr (E.op (.pointer (some ⟨g5, 2, none⟩)) (E.li (E.i ((K.res o (x.s.r ((x.i.d).toNat)) b_ (IntKind.wrap .i64 (bits .and .u32 (Int.fdiv x.u.f (2 ^ 1)) 1))).k)) 0 rfl rfl (E.op (.bool (((K.res o (x.s.r ((x.i.d).toNat)) b_ (IntKind.wrap .i64 (bits .and .u32 (Int.fdiv x.u.f (2 ^ 1)) 1))).k) != 0)) (E.To.code (E.cd (((K.res o (x.s.r ((x.i.d).toNat)) b_ (IntKind.wrap .i64 (bits .and .u32 (Int.fdiv x.u.f (2 ^ 1)) 1))).k) != 0) (fun hc7 => ?_) (fun hc7 => ?_))))))))
  ·
   refine E.C.region (E.op (E.pt b) (E.op (.pointer (some ⟨g5, 2, none⟩)) (E.li (E.i ((K.res o (x.s.r ((x.i.d).toNat)) b_ (IntKind.wrap .i64 (bits .and .u32 (Int.fdiv x.u.f (2 ^ 1)) 1))).k)) 0 rfl rfl (E.op (.pointer (some ⟨g5, 3, none⟩)) (E.li (E.u ((K.res o (x.s.r ((x.i.d).toNat)) b_ (IntKind.wrap .i64 (bits .and .u32 (Int.fdiv x.u.f (2 ^ 1)) 1))).a)) 0 rfl rfl (E.op (.pointer (some ⟨g5, 4, none⟩)) (E.li (E.u ((K.res o (x.s.r ((x.i.d).toNat)) b_ (IntKind.wrap .i64 (bits .and .u32 (Int.fdiv x.u.f (2 ^ 1)) 1))).b)) 0 rfl rfl (A.G.call (I := Unit) (D := fun _ => True) (V := fun _ => .tuple #[]) (q := fun _ => [A.blk b (K.wk (K.flags x ((K.res o (x.s.r ((x.i.d).toNat)) b_ (IntKind.wrap .i64 (bits .and .u32 (Int.fdiv x.u.f (2 ^ 1)) 1))).k) ((K.res o (x.s.r ((x.i.d).toNat)) b_ (IntKind.wrap .i64 (bits .and .u32 (Int.fdiv x.u.f (2 ^ 1)) 1))).a) ((K.res o (x.s.r ((x.i.d).toNat)) b_ (IntKind.wrap .i64 (bits .and .u32 (Int.fdiv x.u.f (2 ^ 1)) 1))).b)) m)]) [A.blk g5 ([E.u ((K.res o (x.s.r ((x.i.d).toNat)) b_ (IntKind.wrap .i64 (bits .and .u32 (Int.fdiv x.u.f (2 ^ 1)) 1))).v), .bool ((K.res o (x.s.r ((x.i.d).toNat)) b_ (IntKind.wrap .i64 (bits .and .u32 (Int.fdiv x.u.f (2 ^ 1)) 1))).st), E.i ((K.res o (x.s.r ((x.i.d).toNat)) b_ (IntKind.wrap .i64 (bits .and .u32 (Int.fdiv x.u.f (2 ^ 1)) 1))).k), E.u ((K.res o (x.s.r ((x.i.d).toNat)) b_ (IntKind.wrap .i64 (bits .and .u32 (Int.fdiv x.u.f (2 ^ 1)) 1))).a), E.u ((K.res o (x.s.r ((x.i.d).toNat)) b_ (IntKind.wrap .i64 (bits .and .u32 (Int.fdiv x.u.f (2 ^ 1)) 1))).b)])] (fun _ => [(b, (K.wk (K.flags x ((K.res o (x.s.r ((x.i.d).toNat)) b_ (IntKind.wrap .i64 (bits .and .u32 (Int.fdiv x.u.f (2 ^ 1)) 1))).k) ((K.res o (x.s.r ((x.i.d).toNat)) b_ (IntKind.wrap .i64 (bits .and .u32 (Int.fdiv x.u.f (2 ^ 1)) 1))).a) ((K.res o (x.s.r ((x.i.d).toNat)) b_ (IntKind.wrap .i64 (bits .and .u32 (Int.fdiv x.u.f (2 ^ 1)) 1))).b)) m)), (g5, [E.u ((K.res o (x.s.r ((x.i.d).toNat)) b_ (IntKind.wrap .i64 (bits .and .u32 (Int.fdiv x.u.f (2 ^ 1)) 1))).v), .bool ((K.res o (x.s.r ((x.i.d).toNat)) b_ (IntKind.wrap .i64 (bits .and .u32 (Int.fdiv x.u.f (2 ^ 1)) 1))).st), E.i ((K.res o (x.s.r ((x.i.d).toNat)) b_ (IntKind.wrap .i64 (bits .and .u32 (Int.fdiv x.u.f (2 ^ 1)) 1))).k), E.u ((K.res o (x.s.r ((x.i.d).toNat)) b_ (IntKind.wrap .i64 (bits .and .u32 (Int.fdiv x.u.f (2 ^ 1)) 1))).a), E.u ((K.res o (x.s.r ((x.i.d).toNat)) b_ (IntKind.wrap .i64 (bits .and .u32 (Int.fdiv x.u.f (2 ^ 1)) 1))).b)])]) (fun _ => []) (Flags_w (b := b) (m := m) x ((K.res o (x.s.r ((x.i.d).toNat)) b_ (IntKind.wrap .i64 (bits .and .u32 (Int.fdiv x.u.f (2 ^ 1)) 1))).k) ((K.res o (x.s.r ((x.i.d).toNat)) b_ (IntKind.wrap .i64 (bits .and .u32 (Int.fdiv x.u.f (2 ^ 1)) 1))).a) ((K.res o (x.s.r ((x.i.d).toNat)) b_ (IntKind.wrap .i64 (bits .and .u32 (Int.fdiv x.u.f (2 ^ 1)) 1))).b) (K.res_bd (hx.s.r _) hb).1 (K.res_bd (hx.s.r _) hb).2) (by kernel_rfl) (A.pn [1, 0]) (fun _ => A.pm [0, 1] (by kernel_rfl) (by kernel_rfl)) (fun w _ => by kernel_rfl) (by kernel_rfl) (fun _ hd8 => E.To.bodyN (fn := Tryz.f53) [] ?_ ?_)))))))))
   · exact trivial
   intro w h
   have e : (K.arith x o b_) = K.flags x ((K.res o (x.s.r ((x.i.d).toNat)) b_ (IntKind.wrap .i64 (bits .and .u32 (Int.fdiv x.u.f (2 ^ 1)) 1))).k) ((K.res o (x.s.r ((x.i.d).toNat)) b_ (IntKind.wrap .i64 (bits .and .u32 (Int.fdiv x.u.f (2 ^ 1)) 1))).a) ((K.res o (x.s.r ((x.i.d).toNat)) b_ (IntKind.wrap .i64 (bits .and .u32 (Int.fdiv x.u.f (2 ^ 1)) 1))).b) := by unfold K.arith; rw [hc3, cond_false, hc4, cond_false, hc7, cond_true] <;> rfl
   rw [e]
   exact ⟨(), trivial, rfl, A.dq [0] [1] h⟩
  refine E.C.skip (E.To.bodyN (fn := Tryz.f53) [] ?_ ?_)
  · exact trivial
  intro w h
  have e : (K.arith x o b_) = x := by unfold K.arith; rw [hc3, cond_false, hc4, cond_false, hc7, cond_false] <;> rfl
  rw [e]
  exact ⟨(), trivial, rfl, A.dq [1] [0] h⟩
 refine E.C.held (A.Y [A.blk b (K.wk x m)]) (by kernel_rfl) (E.tk 1 (E.i o) rfl (fun w h => A.hq [0] [] h) (E.tk 3 (.pointer (some ⟨b, 25 + (x.i.d).toNat, none⟩)) rfl (fun w h => A.hq [0] [] h) (E.tk 4 (.pointer (some ⟨b, 25 + (x.i.d).toNat, none⟩)) rfl (fun w h => A.hq [0] [] h) (E.tj 5 (E.u (x.s.r ((x.i.d).toNat))) rfl (fun w h => A.hq [0] [] h) (fun w h => A.Y.bld h (k := 0) (j := 25 + (x.i.d).toNat) rfl (by kernel_rfl) (K.ld_s (by kernel_rfl) (by have := hi.d; omega))) (E.tk 6 (E.u b_) rfl (fun w h => A.hq [0] [] h) (E.tk 7 (E.pt b) rfl (fun w h => A.hq [0] [] h) (E.tk 8 (E.pt b) rfl (fun w h => A.hq [0] [] h) (E.tk 9 (E.pt b) rfl (fun w h => A.hq [0] [] h) (E.tk 10 (.pointer (some ⟨b, 17, none⟩)) rfl (fun w h => A.hq [0] [] h) (E.tj 11 (E.u x.u.f) rfl (fun w h => A.hq [0] [] h) (fun w h => A.Y.bld h (k := 0) (j := 17) rfl (by kernel_rfl) (by kernel_rfl)) (E.tk 12 (E.u (Int.fdiv x.u.f (2 ^ 1))) rfl (fun w h => A.hq [0] [] h) ?_)))))))))))
 refine E.tk 13 (E.u (bits .and .u32 (Int.fdiv x.u.f (2 ^ 1)) 1)) rfl (fun w h => A.hq [0] [] h) (E.tk 14 (E.i (IntKind.wrap .i64 (bits .and .u32 (Int.fdiv x.u.f (2 ^ 1)) 1))) rfl (fun w h => A.hq [0] [] h) (E.al2 0 16 rfl rfl ?_ ?_))
 ·
  refine E.G.callX (I := Nat × Nat × (Nat → Nat)) (fun _ => True) (fun i => .map (some i.1)) (fun i u => (A.X w oo aa []) u ∧ E.Mp i.1 (K.opE i.2.1 i.2.2) 15 u) (fun i => K.opL i.2.1 i.2.2 ++ [(b, (K.wk x m))]) (fun w h => (operations_any w).mono fun e w1 ⟨i, he, hp⟩ => ⟨i, trivial, he, h.over hp (by kernel_rfl)⟩) (fun w _ => by kernel_rfl) (by kernel_rfl) (fun i4 _ => E.H.back (fun w h => A.hq [9] [0, 1, 2, 3, 4, 5, 6, 7, 8] (h.monoX fun _ k => k.1)) (E.al2 2 16 rfl rfl ?_ ?_))
  ·
   refine E.vl (K.opv i4.2.1 i4.2.2 o) (fun w h => E.look1 (by kernel_rfl) (by kernel_rfl) (K.look h.x.2 ho)) (E.G.monoX (fun _ k => k.1) (E.H.back (fun w h => A.hq [9] [0, 1, 2, 3, 4, 5, 6, 7, 8] h) (E.al2 15 16 rfl rfl ?_ ?_)))
   ·
    exact E.G.callv [E.u (x.s.r ((x.i.d).toNat)), E.u b_, E.i (IntKind.wrap .i64 (bits .and .u32 (Int.fdiv x.u.f (2 ^ 1)) 1))] (.agg #[E.u ((K.res o (x.s.r ((x.i.d).toNat)) b_ (IntKind.wrap .i64 (bits .and .u32 (Int.fdiv x.u.f (2 ^ 1)) 1))).v), .bool ((K.res o (x.s.r ((x.i.d).toNat)) b_ (IntKind.wrap .i64 (bits .and .u32 (Int.fdiv x.u.f (2 ^ 1)) 1))).st), E.i ((K.res o (x.s.r ((x.i.d).toNat)) b_ (IntKind.wrap .i64 (bits .and .u32 (Int.fdiv x.u.f (2 ^ 1)) 1))).k), E.u ((K.res o (x.s.r ((x.i.d).toNat)) b_ (IntKind.wrap .i64 (bits .and .u32 (Int.fdiv x.u.f (2 ^ 1)) 1))).a), E.u ((K.res o (x.s.r ((x.i.d).toNat)) b_ (IntKind.wrap .i64 (bits .and .u32 (Int.fdiv x.u.f (2 ^ 1)) 1))).b)]) rfl rfl (fun w _ => K.opgo ho _ w) (fun w h => K.opcall (l := i4.2.1) (c := i4.2.2) (L := [(b, (K.wk x m))]) h (x.s.r ((x.i.d).toNat)) b_ (IntKind.wrap .i64 (bits .and .u32 (Int.fdiv x.u.f (2 ^ 1)) 1)) ho (hx.s.r _) hb) (by kernel_rfl) (E.H.back (fun w h => A.hq [9] [0, 1, 2, 3, 4, 5, 6, 7, 8] h) (E.al 16 rfl (E.nw [E.u 0, .bool false, E.i 0, E.u 0, E.u 0] 144 (fun g5 => E.H.back (fun w h => A.hq [10] [0, 1, 2, 3, 4, 5, 6, 7, 8, 9] h) (E.al 17 rfl (E.st 0 [E.u ((K.res o (x.s.r ((x.i.d).toNat)) b_ (IntKind.wrap .i64 (bits .and .u32 (Int.fdiv x.u.f (2 ^ 1)) 1))).v), .bool ((K.res o (x.s.r ((x.i.d).toNat)) b_ (IntKind.wrap .i64 (bits .and .u32 (Int.fdiv x.u.f (2 ^ 1)) 1))).st), E.i ((K.res o (x.s.r ((x.i.d).toNat)) b_ (IntKind.wrap .i64 (bits .and .u32 (Int.fdiv x.u.f (2 ^ 1)) 1))).k), E.u ((K.res o (x.s.r ((x.i.d).toNat)) b_ (IntKind.wrap .i64 (bits .and .u32 (Int.fdiv x.u.f (2 ^ 1)) 1))).a), E.u ((K.res o (x.s.r ((x.i.d).toNat)) b_ (IntKind.wrap .i64 (bits .and .u32 (Int.fdiv x.u.f (2 ^ 1)) 1))).b)] rfl rfl (E.H.back (fun w h => A.hq [10] [0, 1, 2, 3, 4, 5, 6, 7, 8, 9] h) (E.H.done (by kernel_rfl) (fun a w h1 h2 => dn _ _ _ (rest g5) a w (h1.sub ⟨by kernel_rfl, by kernel_rfl⟩) (h2.less Nz.sub))))))))))
   exact E.nw [E.u 0, .bool false, E.i 0, E.u 0, E.u 0] 144 (fun g6 => E.H.back (fun w h => A.hq [10] [0, 1, 2, 3, 4, 5, 6, 7, 8, 9] h) (E.al 15 rfl (E.G.callv [E.u (x.s.r ((x.i.d).toNat)), E.u b_, E.i (IntKind.wrap .i64 (bits .and .u32 (Int.fdiv x.u.f (2 ^ 1)) 1))] (.agg #[E.u ((K.res o (x.s.r ((x.i.d).toNat)) b_ (IntKind.wrap .i64 (bits .and .u32 (Int.fdiv x.u.f (2 ^ 1)) 1))).v), .bool ((K.res o (x.s.r ((x.i.d).toNat)) b_ (IntKind.wrap .i64 (bits .and .u32 (Int.fdiv x.u.f (2 ^ 1)) 1))).st), E.i ((K.res o (x.s.r ((x.i.d).toNat)) b_ (IntKind.wrap .i64 (bits .and .u32 (Int.fdiv x.u.f (2 ^ 1)) 1))).k), E.u ((K.res o (x.s.r ((x.i.d).toNat)) b_ (IntKind.wrap .i64 (bits .and .u32 (Int.fdiv x.u.f (2 ^ 1)) 1))).a), E.u ((K.res o (x.s.r ((x.i.d).toNat)) b_ (IntKind.wrap .i64 (bits .and .u32 (Int.fdiv x.u.f (2 ^ 1)) 1))).b)]) rfl rfl (fun w _ => K.opgo ho _ w) (fun w h => K.opcall (l := i4.2.1) (c := i4.2.2) (L := [(b, (K.wk x m))]) (h.less Nz.sub) (x.s.r ((x.i.d).toNat)) b_ (IntKind.wrap .i64 (bits .and .u32 (Int.fdiv x.u.f (2 ^ 1)) 1)) ho (hx.s.r _) hb) (by kernel_rfl) (E.H.back (fun w h => A.hq [10] [0, 1, 2, 3, 4, 5, 6, 7, 8, 9] h) (E.al 17 rfl (E.st 0 [E.u ((K.res o (x.s.r ((x.i.d).toNat)) b_ (IntKind.wrap .i64 (bits .and .u32 (Int.fdiv x.u.f (2 ^ 1)) 1))).v), .bool ((K.res o (x.s.r ((x.i.d).toNat)) b_ (IntKind.wrap .i64 (bits .and .u32 (Int.fdiv x.u.f (2 ^ 1)) 1))).st), E.i ((K.res o (x.s.r ((x.i.d).toNat)) b_ (IntKind.wrap .i64 (bits .and .u32 (Int.fdiv x.u.f (2 ^ 1)) 1))).k), E.u ((K.res o (x.s.r ((x.i.d).toNat)) b_ (IntKind.wrap .i64 (bits .and .u32 (Int.fdiv x.u.f (2 ^ 1)) 1))).a), E.u ((K.res o (x.s.r ((x.i.d).toNat)) b_ (IntKind.wrap .i64 (bits .and .u32 (Int.fdiv x.u.f (2 ^ 1)) 1))).b)] rfl rfl (E.H.back (fun w h => A.hq [10] [0, 1, 2, 3, 4, 5, 6, 7, 8, 9] h) (E.H.done (by kernel_rfl) (fun a w h1 h2 => dn _ _ _ (rest g6) a w (h1.sub ⟨by kernel_rfl, by kernel_rfl⟩) (h2.less Nz.sub))))))))))
  refine E.nw [E.u 0, .bool false, E.i 0, E.u 0, E.u 0] 144 (fun g7 => E.H.back (fun w h => A.hq [10] [0, 1, 2, 3, 4, 5, 6, 7, 8, 9] (h.monoX fun _ k => k.1)) (E.al 2 rfl (E.vl (K.opv i4.2.1 i4.2.2 o) (fun w h => E.look1 (by kernel_rfl) (by kernel_rfl) (K.look h.x.2 ho)) (E.G.monoX (fun _ k => k.1) (E.H.back (fun w h => A.hq [10] [0, 1, 2, 3, 4, 5, 6, 7, 8, 9] h) (E.al 15 rfl (E.G.callv [E.u (x.s.r ((x.i.d).toNat)), E.u b_, E.i (IntKind.wrap .i64 (bits .and .u32 (Int.fdiv x.u.f (2 ^ 1)) 1))] (.agg #[E.u ((K.res o (x.s.r ((x.i.d).toNat)) b_ (IntKind.wrap .i64 (bits .and .u32 (Int.fdiv x.u.f (2 ^ 1)) 1))).v), .bool ((K.res o (x.s.r ((x.i.d).toNat)) b_ (IntKind.wrap .i64 (bits .and .u32 (Int.fdiv x.u.f (2 ^ 1)) 1))).st), E.i ((K.res o (x.s.r ((x.i.d).toNat)) b_ (IntKind.wrap .i64 (bits .and .u32 (Int.fdiv x.u.f (2 ^ 1)) 1))).k), E.u ((K.res o (x.s.r ((x.i.d).toNat)) b_ (IntKind.wrap .i64 (bits .and .u32 (Int.fdiv x.u.f (2 ^ 1)) 1))).a), E.u ((K.res o (x.s.r ((x.i.d).toNat)) b_ (IntKind.wrap .i64 (bits .and .u32 (Int.fdiv x.u.f (2 ^ 1)) 1))).b)]) rfl rfl (fun w _ => K.opgo ho _ w) (fun w h => K.opcall (l := i4.2.1) (c := i4.2.2) (L := [(b, (K.wk x m))]) (h.less Nz.sub) (x.s.r ((x.i.d).toNat)) b_ (IntKind.wrap .i64 (bits .and .u32 (Int.fdiv x.u.f (2 ^ 1)) 1)) ho (hx.s.r _) hb) (by kernel_rfl) (E.H.back (fun w h => A.hq [10] [0, 1, 2, 3, 4, 5, 6, 7, 8, 9] h) (E.al 17 rfl (E.st 0 [E.u ((K.res o (x.s.r ((x.i.d).toNat)) b_ (IntKind.wrap .i64 (bits .and .u32 (Int.fdiv x.u.f (2 ^ 1)) 1))).v), .bool ((K.res o (x.s.r ((x.i.d).toNat)) b_ (IntKind.wrap .i64 (bits .and .u32 (Int.fdiv x.u.f (2 ^ 1)) 1))).st), E.i ((K.res o (x.s.r ((x.i.d).toNat)) b_ (IntKind.wrap .i64 (bits .and .u32 (Int.fdiv x.u.f (2 ^ 1)) 1))).k), E.u ((K.res o (x.s.r ((x.i.d).toNat)) b_ (IntKind.wrap .i64 (bits .and .u32 (Int.fdiv x.u.f (2 ^ 1)) 1))).a), E.u ((K.res o (x.s.r ((x.i.d).toNat)) b_ (IntKind.wrap .i64 (bits .and .u32 (Int.fdiv x.u.f (2 ^ 1)) 1))).b)] rfl rfl (E.H.back (fun w h => A.hq [10] [0, 1, 2, 3, 4, 5, 6, 7, 8, 9] h) ?_)))))))))))
  exact E.H.done (by kernel_rfl) (fun a w h1 h2 => dn _ _ _ (rest g7) a w (h1.sub ⟨by kernel_rfl, by kernel_rfl⟩) (h2.less Nz.sub))
 refine E.nw [E.u 0, .bool false, E.i 0, E.u 0, E.u 0] 144 (fun g8 => E.H.back (fun w h => A.hq [1] [0] h) (E.al 0 rfl (E.G.callX (I := Nat × Nat × (Nat → Nat)) (fun _ => True) (fun i => .map (some i.1)) (fun i u => (A.X w oo aa []) u ∧ E.Mp i.1 (K.opE i.2.1 i.2.2) 15 u) (fun i => K.opL i.2.1 i.2.2 ++ [(g8, [E.u 0, .bool false, E.i 0, E.u 0, E.u 0]), (b, (K.wk x m))]) (fun w h => (operations_any w).mono fun e w1 ⟨i, he, hp⟩ => ⟨i, trivial, he, h.over hp (by kernel_rfl)⟩) (fun w _ => by kernel_rfl) (by kernel_rfl) (fun i9 _ => E.H.back (fun w h => A.hq [10] [0, 1, 2, 3, 4, 5, 6, 7, 8, 9] (h.monoX fun _ k => k.1)) (E.al 2 rfl (E.vl (K.opv i9.2.1 i9.2.2 o) (fun w h => E.look1 (by kernel_rfl) (by kernel_rfl) (K.look h.x.2 ho)) (E.G.monoX (fun _ k => k.1) (E.H.back (fun w h => A.hq [10] [0, 1, 2, 3, 4, 5, 6, 7, 8, 9] h) (E.al 15 rfl (E.G.callv [E.u (x.s.r ((x.i.d).toNat)), E.u b_, E.i (IntKind.wrap .i64 (bits .and .u32 (Int.fdiv x.u.f (2 ^ 1)) 1))] (.agg #[E.u ((K.res o (x.s.r ((x.i.d).toNat)) b_ (IntKind.wrap .i64 (bits .and .u32 (Int.fdiv x.u.f (2 ^ 1)) 1))).v), .bool ((K.res o (x.s.r ((x.i.d).toNat)) b_ (IntKind.wrap .i64 (bits .and .u32 (Int.fdiv x.u.f (2 ^ 1)) 1))).st), E.i ((K.res o (x.s.r ((x.i.d).toNat)) b_ (IntKind.wrap .i64 (bits .and .u32 (Int.fdiv x.u.f (2 ^ 1)) 1))).k), E.u ((K.res o (x.s.r ((x.i.d).toNat)) b_ (IntKind.wrap .i64 (bits .and .u32 (Int.fdiv x.u.f (2 ^ 1)) 1))).a), E.u ((K.res o (x.s.r ((x.i.d).toNat)) b_ (IntKind.wrap .i64 (bits .and .u32 (Int.fdiv x.u.f (2 ^ 1)) 1))).b)]) rfl rfl (fun w _ => K.opgo ho _ w) (fun w h => K.opcall (l := i9.2.1) (c := i9.2.2) (L := [(g8, [E.u 0, .bool false, E.i 0, E.u 0, E.u 0]), (b, (K.wk x m))]) h (x.s.r ((x.i.d).toNat)) b_ (IntKind.wrap .i64 (bits .and .u32 (Int.fdiv x.u.f (2 ^ 1)) 1)) ho (hx.s.r _) hb) (by kernel_rfl) (E.H.back (fun w h => A.hq [10] [0, 1, 2, 3, 4, 5, 6, 7, 8, 9] h) ?_)))))))))))
 exact E.al 17 rfl (E.st 9 [E.u ((K.res o (x.s.r ((x.i.d).toNat)) b_ (IntKind.wrap .i64 (bits .and .u32 (Int.fdiv x.u.f (2 ^ 1)) 1))).v), .bool ((K.res o (x.s.r ((x.i.d).toNat)) b_ (IntKind.wrap .i64 (bits .and .u32 (Int.fdiv x.u.f (2 ^ 1)) 1))).st), E.i ((K.res o (x.s.r ((x.i.d).toNat)) b_ (IntKind.wrap .i64 (bits .and .u32 (Int.fdiv x.u.f (2 ^ 1)) 1))).k), E.u ((K.res o (x.s.r ((x.i.d).toNat)) b_ (IntKind.wrap .i64 (bits .and .u32 (Int.fdiv x.u.f (2 ^ 1)) 1))).a), E.u ((K.res o (x.s.r ((x.i.d).toNat)) b_ (IntKind.wrap .i64 (bits .and .u32 (Int.fdiv x.u.f (2 ^ 1)) 1))).b)] rfl rfl (E.H.back (fun w h => A.hq [10] [0, 1, 2, 3, 4, 5, 6, 7, 8, 9] h) (E.H.done (by kernel_rfl) (fun a w h1 h2 => dn _ _ _ (rest g8) a w (h1.sub ⟨by kernel_rfl, by kernel_rfl⟩) (h2.less Nz.sub)))))
theorem K.wr_len (k : Nat) (hk : k < 11) (i : K.Ins) : ((K.wr k i).length : Int) + 1 = K.len k := by
  rcases (by omega : k = 0 ∨ k = 1 ∨ k = 2 ∨ k = 3 ∨ k = 4 ∨ k = 5 ∨ k = 6 ∨ k = 7 ∨ k = 8 ∨ k = 9 ∨ k = 10) with rfl | rfl | rfl | rfl | rfl | rfl | rfl | rfl | rfl | rfl | rfl <;> rfl
theorem K.len_bd (k : Nat) (hk : k < 11) : 1 ≤ K.len k ∧ K.len k ≤ 7 := by
  rcases (by omega : k = 0 ∨ k = 1 ∨ k = 2 ∨ k = 3 ∨ k = 4 ∨ k = 5 ∨ k = 6 ∨ k = 7 ∨ k = 8 ∨ k = 9 ∨ k = 10) with rfl | rfl | rfl | rfl | rfl | rfl | rfl | rfl | rfl | rfl | rfl <;> decide
theorem K.vs (k : Nat) (hk : k < 11) (i : K.Ins) : (strOfNums [IntKind.wrap .u8 i.op] ++ strOfNums (K.wr k i)).size ≤ maxLen ∧ K.len k ≤ ((strOfNums [IntKind.wrap .u8 i.op] ++ strOfNums (K.wr k i)).size : Int) := by
  have h1 := K.wr_len k hk i
  have h2 := K.len_bd k hk
  rw [ByteArray.size_append, strOfNums_size, strOfNums_size]
  unfold maxLen
  simp only [List.length_cons, List.length_nil]
  omega
theorem K.in_of {i : K.Ins} {b : Bool} (hm : 0 ≤ i.imm ∧ i.imm < 4294967296) (h : (b || (!(K.rng i))) = false) : K.In i := by
  have hr : K.rng i = true := by cases hq : K.rng i <;> simp_all
  unfold K.rng at hr
  simp only [K.in_one, Bool.and_eq_true, decide_eq_true_eq] at hr
  obtain ⟨⟨a0, a1⟩, ⟨b0, b1⟩, ⟨c0, c1⟩, d0, d1⟩ := hr
  have hmo : K.most i.op ≤ 7 := by unfold K.most; split <;> (try split) <;> omega
  exact ⟨a0, a1, b0, by omega, c0, c1, d0, d1, hm.1, hm.2⟩

def K.valid0 (i : K.Ins) : Bool := false
theorem Valid_none (i : K.Ins) (hk : K.fmt i.op = none) (w : World) : Calls Tryz.prog 108 #[.agg #[.int .i64 i.op, .int .i64 i.d, .int .i64 i.s, .int .i64 i.ix, .int .i64 i.sc, .int .u32 i.imm, .int .i64 i.sz]] w fun e w' => e = .returned (.bool (K.valid0 i)) ∧ Bel w w' := by
 refine E.enter (n := 39) (S := fun _ => False) Tryz.func108 rfl rfl (by kernel_rfl) (E.Hp.start w) (E.sr (E.nw [E.i i.op, E.i i.d, E.i i.s, E.i i.ix, E.i i.sc, E.u i.imm, E.i i.sz] 66 (fun g1 => E.op (.bool false) (E.tr (E.op (E.pt g1) (E.li (E.i i.op) 0 rfl rfl (E.ca (.tuple #[.agg #[E.i 0, E.i 0, E.i 0, .nilFunc, .nilFunc], .bool false]) (fun w h => find_none hk w) (E.op (.tuple #[.agg #[E.i 0, E.i 0, E.i 0, .nilFunc, .nilFunc], .bool false]) (E.op (.agg #[E.i 0, E.i 0, E.i 0, .nilFunc, .nilFunc]) (E.op (.bool false) (E.nw [E.i 0, E.i 0, E.i 0, .nilFunc, .nilFunc] 174 (fun g2 => ?_))))))))))))
 refine E.st 0 [E.i 0, E.i 0, E.i 0, .nilFunc, .nilFunc] rfl rfl (E.op (.bool false) (E.To.code (E.C.seq (E.sr (E.op (.bool false) (E.op (.bool true) (E.op (.bool true) (E.sk (E.sk (E.sk (E.sk ?_)))))))))))
 refine E.sk (E.op (.bool true) (E.op (.bool true) (E.sk (E.sk (E.sk (E.op (.bool true) (E.To.code (E.wk [(1, E.pt g1), (2, .bool false), (3, E.pt g2), (24, .bool true)] [(g2, [E.i 0, E.i 0, E.i 0, .nilFunc, .nilFunc]), (g1, [E.i i.op, E.i i.d, E.i i.s, E.i i.ix, E.i i.sc, E.u i.imm, E.i i.sz])] Nz.sub (E.C.condT (by kernel_rfl) (by kernel_rfl) (E.sr (E.op (.bool false) ?_)))))))))))
 exact E.To.code (E.C.ret (E.P.rt (E.bd Tryz.f108 [.bool false] (fun w h => ⟨rfl, h.ch.bel (fun _ h => h.elim)⟩))))

def K.valid1 (k : Nat) (i : K.Ins) : Bool := (bif ((i.sz != (K.len k)) || (!(K.rng i))) then false else ((((K.rd k (((strOfNums [(IntKind.wrap .u8 i.op)]) ++ (strOfNums (K.wr k i)))).data.toList (K.len k))).op == i.op) && (((K.rd k (((strOfNums [(IntKind.wrap .u8 i.op)]) ++ (strOfNums (K.wr k i)))).data.toList (K.len k))).d == i.d) && (((K.rd k (((strOfNums [(IntKind.wrap .u8 i.op)]) ++ (strOfNums (K.wr k i)))).data.toList (K.len k))).s == i.s) && (((K.rd k (((strOfNums [(IntKind.wrap .u8 i.op)]) ++ (strOfNums (K.wr k i)))).data.toList (K.len k))).ix == i.ix) && (((K.rd k (((strOfNums [(IntKind.wrap .u8 i.op)]) ++ (strOfNums (K.wr k i)))).data.toList (K.len k))).sc == i.sc) && (((K.rd k (((strOfNums [(IntKind.wrap .u8 i.op)]) ++ (strOfNums (K.wr k i)))).data.toList (K.len k))).imm == i.imm) && (((K.rd k (((strOfNums [(IntKind.wrap .u8 i.op)]) ++ (strOfNums (K.wr k i)))).data.toList (K.len k))).sz == i.sz)))
theorem Valid_some (k : Nat) (i : K.Ins) (hk : K.fmt i.op = some k) (hm : 0 ≤ i.imm ∧ i.imm < 4294967296) (w : World) : Calls Tryz.prog 108 #[.agg #[.int .i64 i.op, .int .i64 i.d, .int .i64 i.s, .int .i64 i.ix, .int .i64 i.sc, .int .u32 i.imm, .int .i64 i.sz]] w fun e w' => e = .returned (.bool (K.valid1 k i)) ∧ Bel w w' := by
 refine E.enter (n := 39) (S := fun _ => False) Tryz.func108 rfl rfl (by kernel_rfl) (E.Hp.start w) (E.sr (E.nw [E.i i.op, E.i i.d, E.i i.s, E.i i.ix, E.i i.sc, E.u i.imm, E.i i.sz] 66 (fun g1 => E.op (.bool false) (E.tr (E.op (E.pt g1) (E.li (E.i i.op) 0 rfl rfl (E.G.callX (I := FuncId × Array Value × FuncId × Array Value) (fun _ => True) (fun i => .tuple #[.agg #[E.i (K.lo k), E.i (K.hi k), E.i (K.len k), .func (.func i.1) #[] i.2.1, .func (.func i.2.2.1) #[] i.2.2.2], .bool true]) (fun i => fun w => (fun _ => True) w ∧ K.Fm k (.func (.func i.1) #[] i.2.1) (.func (.func i.2.2.1) #[] i.2.2.2) w) (fun _ => [(g1, [E.i i.op, E.i i.d, E.i i.s, E.i i.ix, E.i i.sc, E.u i.imm, E.i i.sz])]) (fun w h => find_hp hk (by unfold K.intB; simp [E.i]) w h) (fun w _ => by kernel_rfl) (by kernel_rfl) (fun i _ => ?_))))))))
 obtain ⟨Fq2, csq2, Gq2, dsq2⟩ := i
 refine E.op (.tuple #[.agg #[E.i (K.lo k), E.i (K.hi k), E.i (K.len k), .func (.func Fq2) #[] csq2, .func (.func Gq2) #[] dsq2], .bool true]) (E.op (.agg #[E.i (K.lo k), E.i (K.hi k), E.i (K.len k), .func (.func Fq2) #[] csq2, .func (.func Gq2) #[] dsq2]) (E.op (.bool true) (E.nw [E.i 0, E.i 0, E.i 0, .nilFunc, .nilFunc] 174 (fun g3 => E.st 0 [E.i (K.lo k), E.i (K.hi k), E.i (K.len k), .func (.func Fq2) #[] csq2, .func (.func Gq2) #[] dsq2] rfl rfl (E.op (.bool true) (E.To.code (E.C.seq (E.sr (E.op (.bool true) (E.op (.bool false) (E.op (.bool false) ?_)))))))))))
 refine E.op (.pointer (some ⟨g1, 6, none⟩)) (E.li (E.i i.sz) 1 rfl rfl (E.op (.pointer (some ⟨g3, 2, none⟩)) (E.li (E.i (K.len k)) 0 rfl rfl (E.op (.bool (i.sz != (K.len k))) (E.op (.bool (i.sz != (K.len k))) (E.op (.bool (i.sz != (K.len k))) (E.G.cut 4 [(1, E.pt g1), (2, .bool false), (3, E.pt g3), (24, .bool ((i.sz != (K.len k)) || (!(K.rng i))))] (fun w => (fun _ => True) w ∧ K.Fm k (.func (.func Fq2) #[] csq2) (.func (.func Gq2) #[] dsq2) w) [(g3, [E.i (K.lo k), E.i (K.hi k), E.i (K.len k), .func (.func Fq2) #[] csq2, .func (.func Gq2) #[] dsq2]), (g1, [E.i i.op, E.i i.d, E.i i.s, E.i i.ix, E.i i.sc, E.u i.imm, E.i i.sz])] ?_ ?_)))))))
 ·
  generalize hc4 : (i.sz != (K.len k)) = b5
  cases b5
  ·
   exact E.li (.agg #[E.i i.op, E.i i.d, E.i i.s, E.i i.ix, E.i i.sc, E.u i.imm, E.i i.sz]) 1 rfl rfl (E.ca (.bool (K.rng i)) (fun w h => ranges_any i w) (E.op (.bool (!(K.rng i))) (E.op (.bool (!(K.rng i))) (E.G.end_pst ⟨by kernel_rfl, by kernel_rfl⟩ Nz.sub (fun _ h => h)))))
  exact E.sk (E.sk (E.sk (E.op (.bool true) (E.G.end_pst ⟨by kernel_rfl, by kernel_rfl⟩ Nz.sub (fun _ h => h)))))
 refine E.To.code (E.cd ((i.sz != (K.len k)) || (!(K.rng i))) (fun hc6 => ?_) (fun hc6 => ?_))
 ·
  exact E.sr (E.op (.bool false) (E.To.code (E.C.ret (E.P.rt (E.bd Tryz.f108 [.bool false] (fun w h => ⟨by unfold K.valid1; rw [hc6, cond_true] <;> rfl, h.ch.bel (fun _ h => h.elim)⟩))))))
 refine E.C.skip (E.To.code (E.C.seq (E.C.held (E.Hp (fun _ => False) w (fun w => (fun _ => True) w ∧ K.Fm k (.func (.func Fq2) #[] csq2) (.func (.func Gq2) #[] dsq2) w) [(g3, [E.i (K.lo k), E.i (K.hi k), E.i (K.len k), .func (.func Fq2) #[] csq2, .func (.func Gq2) #[] dsq2]), (g1, [E.i i.op, E.i i.d, E.i i.s, E.i i.ix, E.i i.sc, E.u i.imm, E.i i.sz])]) (by kernel_rfl) (E.tj 0 (.agg #[E.i (K.lo k), E.i (K.hi k), E.i (K.len k), .func (.func Fq2) #[] csq2, .func (.func Gq2) #[] dsq2]) rfl (fun w h => h) (fun w h => E.run_load h 0 rfl rfl (by kernel_rfl)) (E.tk 1 (E.pt g1) rfl (fun w h => h) (E.tj 2 (E.i i.op) rfl (fun w h => h) (fun w h => E.run_load h 1 rfl rfl (by kernel_rfl)) (E.tk 3 (.int .u8 (IntKind.wrap .u8 i.op)) rfl (fun w h => h) (E.tk 6 (.pointer (some ⟨g3, 4, none⟩)) rfl (fun w h => h) (E.tj 7 (.func (.func Gq2) #[] dsq2) rfl (fun w h => h) (fun w h => E.run_load h 0 rfl rfl (by kernel_rfl)) (E.tj 8 (.agg #[E.i i.op, E.i i.d, E.i i.s, E.i i.ix, E.i i.sc, E.u i.imm, E.i i.sz]) rfl (fun w h => h) (fun w h => E.run_load h 1 rfl rfl (by kernel_rfl)) (E.tj 12 (.agg #[E.i i.op, E.i i.d, E.i i.s, E.i i.ix, E.i i.sc, E.u i.imm, E.i i.sz]) rfl (fun w h => h) (fun w h => E.run_load h 1 rfl rfl (by kernel_rfl)) (E.al2 4 9 rfl rfl ?_ ?_))))))))))))
 ·
  refine E.G.buildSlice [.int .u8 (IntKind.wrap .u8 i.op)] (by kernel_rfl) (by kernel_rfl) (fun g7 => E.bk (E.al2 5 9 rfl rfl ?_ ?_))
  ·
   refine E.vl (.string (strOfNums [(IntKind.wrap .u8 i.op)])) (fun w h => E.b2s h 0 g7 0 1 1 [(IntKind.wrap .u8 i.op)] (e := 5) (by kernel_rfl) (by kernel_rfl) (by kernel_rfl) (by kernel_rfl) rfl (by kernel_rfl) rfl) (E.bk (E.al 9 rfl (E.G.callv (G := Gq2) (ds := dsq2) [.agg #[E.i i.op, E.i i.d, E.i i.s, E.i i.ix, E.i i.sc, E.u i.imm, E.i i.sz]] (.string (strOfNums (K.wr k i))) (by kernel_rfl) (by kernel_rfl) (fun w h => K.enter_at (K.fmt_lt hk) h.x.2 _ _) (fun w h => kput_at (K.fmt_lt hk) h.x.2 (K.in_of hm hc6)) (by kernel_rfl) (E.bk (E.tb 10 (.string ((strOfNums [(IntKind.wrap .u8 i.op)]) ++ (strOfNums (K.wr k i)))) rfl (fun w h => E.cat (strOfNums [(IntKind.wrap .u8 i.op)]) (strOfNums (K.wr k i)) (by kernel_rfl) (by kernel_rfl) (by rw [strOfNums_size, strOfNums_size]; have := K.wr_len k (K.fmt_lt hk) i; have := K.len_bd k (K.fmt_lt hk); simp only [List.length_cons, List.length_nil]; omega) w) (E.al 11 rfl (E.ca (.agg #[E.i (((K.rd k (((strOfNums [(IntKind.wrap .u8 i.op)]) ++ (strOfNums (K.wr k i)))).data.toList (K.len k))).op), E.i (((K.rd k (((strOfNums [(IntKind.wrap .u8 i.op)]) ++ (strOfNums (K.wr k i)))).data.toList (K.len k))).d), E.i (((K.rd k (((strOfNums [(IntKind.wrap .u8 i.op)]) ++ (strOfNums (K.wr k i)))).data.toList (K.len k))).s), E.i (((K.rd k (((strOfNums [(IntKind.wrap .u8 i.op)]) ++ (strOfNums (K.wr k i)))).data.toList (K.len k))).ix), E.i (((K.rd k (((strOfNums [(IntKind.wrap .u8 i.op)]) ++ (strOfNums (K.wr k i)))).data.toList (K.len k))).sc), E.u (((K.rd k (((strOfNums [(IntKind.wrap .u8 i.op)]) ++ (strOfNums (K.wr k i)))).data.toList (K.len k))).imm), E.i (((K.rd k (((strOfNums [(IntKind.wrap .u8 i.op)]) ++ (strOfNums (K.wr k i)))).data.toList (K.len k))).sz)]) (fun w h => read_any k (K.fmt_lt hk) _ _ w h.x.2 ((strOfNums [(IntKind.wrap .u8 i.op)]) ++ (strOfNums (K.wr k i))) (K.vs k (K.fmt_lt hk) i).1 (K.vs k (K.fmt_lt hk) i).2) (E.bk (E.tb 13 (.bool ((((K.rd k (((strOfNums [(IntKind.wrap .u8 i.op)]) ++ (strOfNums (K.wr k i)))).data.toList (K.len k))).op == i.op) && (((K.rd k (((strOfNums [(IntKind.wrap .u8 i.op)]) ++ (strOfNums (K.wr k i)))).data.toList (K.len k))).d == i.d) && (((K.rd k (((strOfNums [(IntKind.wrap .u8 i.op)]) ++ (strOfNums (K.wr k i)))).data.toList (K.len k))).s == i.s) && (((K.rd k (((strOfNums [(IntKind.wrap .u8 i.op)]) ++ (strOfNums (K.wr k i)))).data.toList (K.len k))).ix == i.ix) && (((K.rd k (((strOfNums [(IntKind.wrap .u8 i.op)]) ++ (strOfNums (K.wr k i)))).data.toList (K.len k))).sc == i.sc) && (((K.rd k (((strOfNums [(IntKind.wrap .u8 i.op)]) ++ (strOfNums (K.wr k i)))).data.toList (K.len k))).imm == i.imm) && (((K.rd k (((strOfNums [(IntKind.wrap .u8 i.op)]) ++ (strOfNums (K.wr k i)))).data.toList (K.len k))).sz == i.sz))) rfl (fun w h => E.api_KIns_eql (by kernel_rfl) (by kernel_rfl)) (E.ta 14 (.bool ((((K.rd k (((strOfNums [(IntKind.wrap .u8 i.op)]) ++ (strOfNums (K.wr k i)))).data.toList (K.len k))).op == i.op) && (((K.rd k (((strOfNums [(IntKind.wrap .u8 i.op)]) ++ (strOfNums (K.wr k i)))).data.toList (K.len k))).d == i.d) && (((K.rd k (((strOfNums [(IntKind.wrap .u8 i.op)]) ++ (strOfNums (K.wr k i)))).data.toList (K.len k))).s == i.s) && (((K.rd k (((strOfNums [(IntKind.wrap .u8 i.op)]) ++ (strOfNums (K.wr k i)))).data.toList (K.len k))).ix == i.ix) && (((K.rd k (((strOfNums [(IntKind.wrap .u8 i.op)]) ++ (strOfNums (K.wr k i)))).data.toList (K.len k))).sc == i.sc) && (((K.rd k (((strOfNums [(IntKind.wrap .u8 i.op)]) ++ (strOfNums (K.wr k i)))).data.toList (K.len k))).imm == i.imm) && (((K.rd k (((strOfNums [(IntKind.wrap .u8 i.op)]) ++ (strOfNums (K.wr k i)))).data.toList (K.len k))).sz == i.sz))) rfl (E.H.done (by kernel_rfl) ?_)))))))))))
   exact E.To.code (E.wk [(2, .bool ((((K.rd k (((strOfNums [(IntKind.wrap .u8 i.op)]) ++ (strOfNums (K.wr k i)))).data.toList (K.len k))).op == i.op) && (((K.rd k (((strOfNums [(IntKind.wrap .u8 i.op)]) ++ (strOfNums (K.wr k i)))).data.toList (K.len k))).d == i.d) && (((K.rd k (((strOfNums [(IntKind.wrap .u8 i.op)]) ++ (strOfNums (K.wr k i)))).data.toList (K.len k))).s == i.s) && (((K.rd k (((strOfNums [(IntKind.wrap .u8 i.op)]) ++ (strOfNums (K.wr k i)))).data.toList (K.len k))).ix == i.ix) && (((K.rd k (((strOfNums [(IntKind.wrap .u8 i.op)]) ++ (strOfNums (K.wr k i)))).data.toList (K.len k))).sc == i.sc) && (((K.rd k (((strOfNums [(IntKind.wrap .u8 i.op)]) ++ (strOfNums (K.wr k i)))).data.toList (K.len k))).imm == i.imm) && (((K.rd k (((strOfNums [(IntKind.wrap .u8 i.op)]) ++ (strOfNums (K.wr k i)))).data.toList (K.len k))).sz == i.sz)))] [] Nz.sub (E.C.ret (E.bd Tryz.f108 [.bool ((((K.rd k (((strOfNums [(IntKind.wrap .u8 i.op)]) ++ (strOfNums (K.wr k i)))).data.toList (K.len k))).op == i.op) && (((K.rd k (((strOfNums [(IntKind.wrap .u8 i.op)]) ++ (strOfNums (K.wr k i)))).data.toList (K.len k))).d == i.d) && (((K.rd k (((strOfNums [(IntKind.wrap .u8 i.op)]) ++ (strOfNums (K.wr k i)))).data.toList (K.len k))).s == i.s) && (((K.rd k (((strOfNums [(IntKind.wrap .u8 i.op)]) ++ (strOfNums (K.wr k i)))).data.toList (K.len k))).ix == i.ix) && (((K.rd k (((strOfNums [(IntKind.wrap .u8 i.op)]) ++ (strOfNums (K.wr k i)))).data.toList (K.len k))).sc == i.sc) && (((K.rd k (((strOfNums [(IntKind.wrap .u8 i.op)]) ++ (strOfNums (K.wr k i)))).data.toList (K.len k))).imm == i.imm) && (((K.rd k (((strOfNums [(IntKind.wrap .u8 i.op)]) ++ (strOfNums (K.wr k i)))).data.toList (K.len k))).sz == i.sz))] (fun w h => ⟨by unfold K.valid1; rw [hc6, cond_false] <;> rfl, h.ch.bel (fun _ h => h.elim)⟩))))
  refine E.G.callv (G := Gq2) (ds := dsq2) [.agg #[E.i i.op, E.i i.d, E.i i.s, E.i i.ix, E.i i.sc, E.u i.imm, E.i i.sz]] (.string (strOfNums (K.wr k i))) (by kernel_rfl) (by kernel_rfl) (fun w h => K.enter_at (K.fmt_lt hk) h.x.2 _ _) (fun w h => kput_at (K.fmt_lt hk) h.x.2 (K.in_of hm hc6)) (by kernel_rfl) (E.bk (E.al 5 rfl (E.vl (.string (strOfNums [(IntKind.wrap .u8 i.op)])) (fun w h => E.b2s h 0 g7 0 1 1 [(IntKind.wrap .u8 i.op)] (e := 5) (by kernel_rfl) (by kernel_rfl) (by kernel_rfl) (by kernel_rfl) rfl (by kernel_rfl) rfl) (E.bk (E.tb 10 (.string ((strOfNums [(IntKind.wrap .u8 i.op)]) ++ (strOfNums (K.wr k i)))) rfl (fun w h => E.cat (strOfNums [(IntKind.wrap .u8 i.op)]) (strOfNums (K.wr k i)) (by kernel_rfl) (by kernel_rfl) (by rw [strOfNums_size, strOfNums_size]; have := K.wr_len k (K.fmt_lt hk) i; have := K.len_bd k (K.fmt_lt hk); simp only [List.length_cons, List.length_nil]; omega) w) (E.al 11 rfl (E.ca (.agg #[E.i (((K.rd k (((strOfNums [(IntKind.wrap .u8 i.op)]) ++ (strOfNums (K.wr k i)))).data.toList (K.len k))).op), E.i (((K.rd k (((strOfNums [(IntKind.wrap .u8 i.op)]) ++ (strOfNums (K.wr k i)))).data.toList (K.len k))).d), E.i (((K.rd k (((strOfNums [(IntKind.wrap .u8 i.op)]) ++ (strOfNums (K.wr k i)))).data.toList (K.len k))).s), E.i (((K.rd k (((strOfNums [(IntKind.wrap .u8 i.op)]) ++ (strOfNums (K.wr k i)))).data.toList (K.len k))).ix), E.i (((K.rd k (((strOfNums [(IntKind.wrap .u8 i.op)]) ++ (strOfNums (K.wr k i)))).data.toList (K.len k))).sc), E.u (((K.rd k (((strOfNums [(IntKind.wrap .u8 i.op)]) ++ (strOfNums (K.wr k i)))).data.toList (K.len k))).imm), E.i (((K.rd k (((strOfNums [(IntKind.wrap .u8 i.op)]) ++ (strOfNums (K.wr k i)))).data.toList (K.len k))).sz)]) (fun w h => read_any k (K.fmt_lt hk) _ _ w h.x.2 ((strOfNums [(IntKind.wrap .u8 i.op)]) ++ (strOfNums (K.wr k i))) (K.vs k (K.fmt_lt hk) i).1 (K.vs k (K.fmt_lt hk) i).2) (E.bk (E.tb 13 (.bool ((((K.rd k (((strOfNums [(IntKind.wrap .u8 i.op)]) ++ (strOfNums (K.wr k i)))).data.toList (K.len k))).op == i.op) && (((K.rd k (((strOfNums [(IntKind.wrap .u8 i.op)]) ++ (strOfNums (K.wr k i)))).data.toList (K.len k))).d == i.d) && (((K.rd k (((strOfNums [(IntKind.wrap .u8 i.op)]) ++ (strOfNums (K.wr k i)))).data.toList (K.len k))).s == i.s) && (((K.rd k (((strOfNums [(IntKind.wrap .u8 i.op)]) ++ (strOfNums (K.wr k i)))).data.toList (K.len k))).ix == i.ix) && (((K.rd k (((strOfNums [(IntKind.wrap .u8 i.op)]) ++ (strOfNums (K.wr k i)))).data.toList (K.len k))).sc == i.sc) && (((K.rd k (((strOfNums [(IntKind.wrap .u8 i.op)]) ++ (strOfNums (K.wr k i)))).data.toList (K.len k))).imm == i.imm) && (((K.rd k (((strOfNums [(IntKind.wrap .u8 i.op)]) ++ (strOfNums (K.wr k i)))).data.toList (K.len k))).sz == i.sz))) rfl (fun w h => E.api_KIns_eql (by kernel_rfl) (by kernel_rfl)) (E.ta 14 (.bool ((((K.rd k (((strOfNums [(IntKind.wrap .u8 i.op)]) ++ (strOfNums (K.wr k i)))).data.toList (K.len k))).op == i.op) && (((K.rd k (((strOfNums [(IntKind.wrap .u8 i.op)]) ++ (strOfNums (K.wr k i)))).data.toList (K.len k))).d == i.d) && (((K.rd k (((strOfNums [(IntKind.wrap .u8 i.op)]) ++ (strOfNums (K.wr k i)))).data.toList (K.len k))).s == i.s) && (((K.rd k (((strOfNums [(IntKind.wrap .u8 i.op)]) ++ (strOfNums (K.wr k i)))).data.toList (K.len k))).ix == i.ix) && (((K.rd k (((strOfNums [(IntKind.wrap .u8 i.op)]) ++ (strOfNums (K.wr k i)))).data.toList (K.len k))).sc == i.sc) && (((K.rd k (((strOfNums [(IntKind.wrap .u8 i.op)]) ++ (strOfNums (K.wr k i)))).data.toList (K.len k))).imm == i.imm) && (((K.rd k (((strOfNums [(IntKind.wrap .u8 i.op)]) ++ (strOfNums (K.wr k i)))).data.toList (K.len k))).sz == i.sz))) rfl (E.H.done (by kernel_rfl) ?_)))))))))))
  exact E.To.code (E.wk [(2, .bool ((((K.rd k (((strOfNums [(IntKind.wrap .u8 i.op)]) ++ (strOfNums (K.wr k i)))).data.toList (K.len k))).op == i.op) && (((K.rd k (((strOfNums [(IntKind.wrap .u8 i.op)]) ++ (strOfNums (K.wr k i)))).data.toList (K.len k))).d == i.d) && (((K.rd k (((strOfNums [(IntKind.wrap .u8 i.op)]) ++ (strOfNums (K.wr k i)))).data.toList (K.len k))).s == i.s) && (((K.rd k (((strOfNums [(IntKind.wrap .u8 i.op)]) ++ (strOfNums (K.wr k i)))).data.toList (K.len k))).ix == i.ix) && (((K.rd k (((strOfNums [(IntKind.wrap .u8 i.op)]) ++ (strOfNums (K.wr k i)))).data.toList (K.len k))).sc == i.sc) && (((K.rd k (((strOfNums [(IntKind.wrap .u8 i.op)]) ++ (strOfNums (K.wr k i)))).data.toList (K.len k))).imm == i.imm) && (((K.rd k (((strOfNums [(IntKind.wrap .u8 i.op)]) ++ (strOfNums (K.wr k i)))).data.toList (K.len k))).sz == i.sz)))] [] Nz.sub (E.C.ret (E.bd Tryz.f108 [.bool ((((K.rd k (((strOfNums [(IntKind.wrap .u8 i.op)]) ++ (strOfNums (K.wr k i)))).data.toList (K.len k))).op == i.op) && (((K.rd k (((strOfNums [(IntKind.wrap .u8 i.op)]) ++ (strOfNums (K.wr k i)))).data.toList (K.len k))).d == i.d) && (((K.rd k (((strOfNums [(IntKind.wrap .u8 i.op)]) ++ (strOfNums (K.wr k i)))).data.toList (K.len k))).s == i.s) && (((K.rd k (((strOfNums [(IntKind.wrap .u8 i.op)]) ++ (strOfNums (K.wr k i)))).data.toList (K.len k))).ix == i.ix) && (((K.rd k (((strOfNums [(IntKind.wrap .u8 i.op)]) ++ (strOfNums (K.wr k i)))).data.toList (K.len k))).sc == i.sc) && (((K.rd k (((strOfNums [(IntKind.wrap .u8 i.op)]) ++ (strOfNums (K.wr k i)))).data.toList (K.len k))).imm == i.imm) && (((K.rd k (((strOfNums [(IntKind.wrap .u8 i.op)]) ++ (strOfNums (K.wr k i)))).data.toList (K.len k))).sz == i.sz))] (fun w h => ⟨by unfold K.valid1; rw [hc6, cond_false] <;> rfl, h.ch.bel (fun _ h => h.elim)⟩))))
 refine E.G.callv (G := Gq2) (ds := dsq2) [.agg #[E.i i.op, E.i i.d, E.i i.s, E.i i.ix, E.i i.sc, E.u i.imm, E.i i.sz]] (.string (strOfNums (K.wr k i))) (by kernel_rfl) (by kernel_rfl) (fun w h => K.enter_at (K.fmt_lt hk) h.x.2 _ _) (fun w h => kput_at (K.fmt_lt hk) h.x.2 (K.in_of hm hc6)) (by kernel_rfl) (E.H.back (fun w h => h) (E.al 4 rfl (E.G.buildSlice [.int .u8 (IntKind.wrap .u8 i.op)] (by kernel_rfl) (by kernel_rfl) (fun g8 => E.bk (E.al 5 rfl (E.vl (.string (strOfNums [(IntKind.wrap .u8 i.op)])) (fun w h => E.b2s h 0 g8 0 1 1 [(IntKind.wrap .u8 i.op)] (e := 5) (by kernel_rfl) (by kernel_rfl) (by kernel_rfl) (by kernel_rfl) rfl (by kernel_rfl) rfl) (E.bk (E.tb 10 (.string ((strOfNums [(IntKind.wrap .u8 i.op)]) ++ (strOfNums (K.wr k i)))) rfl (fun w h => E.cat (strOfNums [(IntKind.wrap .u8 i.op)]) (strOfNums (K.wr k i)) (by kernel_rfl) (by kernel_rfl) (by rw [strOfNums_size, strOfNums_size]; have := K.wr_len k (K.fmt_lt hk) i; have := K.len_bd k (K.fmt_lt hk); simp only [List.length_cons, List.length_nil]; omega) w) (E.al 11 rfl (E.ca (.agg #[E.i (((K.rd k (((strOfNums [(IntKind.wrap .u8 i.op)]) ++ (strOfNums (K.wr k i)))).data.toList (K.len k))).op), E.i (((K.rd k (((strOfNums [(IntKind.wrap .u8 i.op)]) ++ (strOfNums (K.wr k i)))).data.toList (K.len k))).d), E.i (((K.rd k (((strOfNums [(IntKind.wrap .u8 i.op)]) ++ (strOfNums (K.wr k i)))).data.toList (K.len k))).s), E.i (((K.rd k (((strOfNums [(IntKind.wrap .u8 i.op)]) ++ (strOfNums (K.wr k i)))).data.toList (K.len k))).ix), E.i (((K.rd k (((strOfNums [(IntKind.wrap .u8 i.op)]) ++ (strOfNums (K.wr k i)))).data.toList (K.len k))).sc), E.u (((K.rd k (((strOfNums [(IntKind.wrap .u8 i.op)]) ++ (strOfNums (K.wr k i)))).data.toList (K.len k))).imm), E.i (((K.rd k (((strOfNums [(IntKind.wrap .u8 i.op)]) ++ (strOfNums (K.wr k i)))).data.toList (K.len k))).sz)]) (fun w h => read_any k (K.fmt_lt hk) _ _ w h.x.2 ((strOfNums [(IntKind.wrap .u8 i.op)]) ++ (strOfNums (K.wr k i))) (K.vs k (K.fmt_lt hk) i).1 (K.vs k (K.fmt_lt hk) i).2) (E.bk ?_)))))))))))
 exact E.tb 13 (.bool ((((K.rd k (((strOfNums [(IntKind.wrap .u8 i.op)]) ++ (strOfNums (K.wr k i)))).data.toList (K.len k))).op == i.op) && (((K.rd k (((strOfNums [(IntKind.wrap .u8 i.op)]) ++ (strOfNums (K.wr k i)))).data.toList (K.len k))).d == i.d) && (((K.rd k (((strOfNums [(IntKind.wrap .u8 i.op)]) ++ (strOfNums (K.wr k i)))).data.toList (K.len k))).s == i.s) && (((K.rd k (((strOfNums [(IntKind.wrap .u8 i.op)]) ++ (strOfNums (K.wr k i)))).data.toList (K.len k))).ix == i.ix) && (((K.rd k (((strOfNums [(IntKind.wrap .u8 i.op)]) ++ (strOfNums (K.wr k i)))).data.toList (K.len k))).sc == i.sc) && (((K.rd k (((strOfNums [(IntKind.wrap .u8 i.op)]) ++ (strOfNums (K.wr k i)))).data.toList (K.len k))).imm == i.imm) && (((K.rd k (((strOfNums [(IntKind.wrap .u8 i.op)]) ++ (strOfNums (K.wr k i)))).data.toList (K.len k))).sz == i.sz))) rfl (fun w h => E.api_KIns_eql (by kernel_rfl) (by kernel_rfl)) (E.ta 14 (.bool ((((K.rd k (((strOfNums [(IntKind.wrap .u8 i.op)]) ++ (strOfNums (K.wr k i)))).data.toList (K.len k))).op == i.op) && (((K.rd k (((strOfNums [(IntKind.wrap .u8 i.op)]) ++ (strOfNums (K.wr k i)))).data.toList (K.len k))).d == i.d) && (((K.rd k (((strOfNums [(IntKind.wrap .u8 i.op)]) ++ (strOfNums (K.wr k i)))).data.toList (K.len k))).s == i.s) && (((K.rd k (((strOfNums [(IntKind.wrap .u8 i.op)]) ++ (strOfNums (K.wr k i)))).data.toList (K.len k))).ix == i.ix) && (((K.rd k (((strOfNums [(IntKind.wrap .u8 i.op)]) ++ (strOfNums (K.wr k i)))).data.toList (K.len k))).sc == i.sc) && (((K.rd k (((strOfNums [(IntKind.wrap .u8 i.op)]) ++ (strOfNums (K.wr k i)))).data.toList (K.len k))).imm == i.imm) && (((K.rd k (((strOfNums [(IntKind.wrap .u8 i.op)]) ++ (strOfNums (K.wr k i)))).data.toList (K.len k))).sz == i.sz))) rfl (E.H.done (by kernel_rfl) (E.To.code (E.wk [(2, .bool ((((K.rd k (((strOfNums [(IntKind.wrap .u8 i.op)]) ++ (strOfNums (K.wr k i)))).data.toList (K.len k))).op == i.op) && (((K.rd k (((strOfNums [(IntKind.wrap .u8 i.op)]) ++ (strOfNums (K.wr k i)))).data.toList (K.len k))).d == i.d) && (((K.rd k (((strOfNums [(IntKind.wrap .u8 i.op)]) ++ (strOfNums (K.wr k i)))).data.toList (K.len k))).s == i.s) && (((K.rd k (((strOfNums [(IntKind.wrap .u8 i.op)]) ++ (strOfNums (K.wr k i)))).data.toList (K.len k))).ix == i.ix) && (((K.rd k (((strOfNums [(IntKind.wrap .u8 i.op)]) ++ (strOfNums (K.wr k i)))).data.toList (K.len k))).sc == i.sc) && (((K.rd k (((strOfNums [(IntKind.wrap .u8 i.op)]) ++ (strOfNums (K.wr k i)))).data.toList (K.len k))).imm == i.imm) && (((K.rd k (((strOfNums [(IntKind.wrap .u8 i.op)]) ++ (strOfNums (K.wr k i)))).data.toList (K.len k))).sz == i.sz)))] [] Nz.sub (E.C.ret (E.bd Tryz.f108 [.bool ((((K.rd k (((strOfNums [(IntKind.wrap .u8 i.op)]) ++ (strOfNums (K.wr k i)))).data.toList (K.len k))).op == i.op) && (((K.rd k (((strOfNums [(IntKind.wrap .u8 i.op)]) ++ (strOfNums (K.wr k i)))).data.toList (K.len k))).d == i.d) && (((K.rd k (((strOfNums [(IntKind.wrap .u8 i.op)]) ++ (strOfNums (K.wr k i)))).data.toList (K.len k))).s == i.s) && (((K.rd k (((strOfNums [(IntKind.wrap .u8 i.op)]) ++ (strOfNums (K.wr k i)))).data.toList (K.len k))).ix == i.ix) && (((K.rd k (((strOfNums [(IntKind.wrap .u8 i.op)]) ++ (strOfNums (K.wr k i)))).data.toList (K.len k))).sc == i.sc) && (((K.rd k (((strOfNums [(IntKind.wrap .u8 i.op)]) ++ (strOfNums (K.wr k i)))).data.toList (K.len k))).imm == i.imm) && (((K.rd k (((strOfNums [(IntKind.wrap .u8 i.op)]) ++ (strOfNums (K.wr k i)))).data.toList (K.len k))).sz == i.sz))] (fun w h => ⟨by unfold K.valid1; rw [hc6, cond_false] <;> rfl, h.ch.bel (fun _ h => h.elim)⟩)))))))

def K.valid (i : K.Ins) : Bool := match K.fmt i.op with
  | none => false
  | some k => K.valid1 k i
theorem Valid_any (i : K.Ins) (hm : 0 ≤ i.imm ∧ i.imm < 4294967296) (w : World) : Calls Tryz.prog 108 #[.agg #[.int .i64 i.op, .int .i64 i.d, .int .i64 i.s, .int .i64 i.ix, .int .i64 i.sc, .int .u32 i.imm, .int .i64 i.sz]] w fun e w' => e = .returned (.bool (K.valid i)) ∧ Bel w w' := by
  unfold K.valid
  cases hk : K.fmt i.op with
  | none => exact Valid_none i hk w
  | some k => exact Valid_some k i hk hm w
theorem K.in_valid {k : Nat} {i : K.Ins} (hm : 0 ≤ i.imm ∧ i.imm < 4294967296) (h : (!(K.valid1 k i)) = false) : K.In i := by
  unfold K.valid1 at h
  cases hq : ((i.sz != (K.len k)) || (!(K.rng i))) with
  | false => exact K.in_of hm hq
  | true => rw [hq] at h; simp at h

def K.encode0 (i : K.Ins) : ByteArray × Int := ((⟨#[]⟩ : ByteArray), 12)
def K.encode1 (k : Nat) (i : K.Ins) : ByteArray × Int := (bif (!(K.valid1 k i)) then ((⟨#[]⟩ : ByteArray), 12) else (((strOfNums [(IntKind.wrap .u8 i.op)]) ++ (strOfNums (K.wr k i))), 0))
def K.encode (i : K.Ins) : ByteArray × Int := match K.fmt i.op with
  | none => K.encode0 i
  | some k => K.encode1 k i
def K.size0 (x : Int) : Int := 0
theorem Size_none (x : Int) (hk : K.fmt (IntKind.wrap .i64 x) = none) (w : World) : Calls Tryz.prog 78 #[.int .u8 x] w fun e w' => e = .returned (.int .i64 (K.size0 x)) ∧ Bel w w' := by
 refine E.enter (n := 13) (S := fun _ => False) Tryz.func78 rfl rfl (by kernel_rfl) (E.Hp.start w) (E.sr (E.op (E.i 0) (E.tr (E.op (.int .u8 x) (E.op (E.i (IntKind.wrap .i64 x)) (E.ca (.tuple #[.agg #[E.i 0, E.i 0, E.i 0, .nilFunc, .nilFunc], .bool false]) (fun w h => find_none hk w) (E.op (.tuple #[.agg #[E.i 0, E.i 0, E.i 0, .nilFunc, .nilFunc], .bool false]) (E.op (.agg #[E.i 0, E.i 0, E.i 0, .nilFunc, .nilFunc]) (E.op (.bool false) (E.nw [E.i 0, E.i 0, E.i 0, .nilFunc, .nilFunc] 174 (fun g1 => E.st 0 [E.i 0, E.i 0, E.i 0, .nilFunc, .nilFunc] rfl rfl ?_)))))))))))
 exact E.op (.bool false) (E.To.code (E.wk [(2, E.i 0), (3, E.pt g1)] [(g1, [E.i 0, E.i 0, E.i 0, .nilFunc, .nilFunc])] Nz.sub (E.sr (E.op (.pointer (some ⟨g1, 2, none⟩)) (E.li (E.i 0) 0 rfl rfl (E.op (E.i 0) (E.To.code (E.C.ret (E.bd Tryz.f78 [E.i 0] (fun w h => ⟨rfl, h.ch.bel (fun _ h => h.elim)⟩))))))))))

def K.size1 (k : Nat) (x : Int) : Int := (K.len k)
theorem Size_some (k : Nat) (x : Int) (hk : K.fmt (IntKind.wrap .i64 x) = some k) (w : World) : Calls Tryz.prog 78 #[.int .u8 x] w fun e w' => e = .returned (.int .i64 (K.size1 k x)) ∧ Bel w w' := by
 refine E.enter (n := 13) (S := fun _ => False) Tryz.func78 rfl rfl (by kernel_rfl) (E.Hp.start w) (E.sr (E.op (E.i 0) (E.tr (E.op (.int .u8 x) (E.op (E.i (IntKind.wrap .i64 x)) (E.G.callX (I := FuncId × Array Value × FuncId × Array Value) (fun _ => True) (fun i => .tuple #[.agg #[E.i (K.lo k), E.i (K.hi k), E.i (K.len k), .func (.func i.1) #[] i.2.1, .func (.func i.2.2.1) #[] i.2.2.2], .bool true]) (fun i => fun w => (fun _ => True) w ∧ K.Fm k (.func (.func i.1) #[] i.2.1) (.func (.func i.2.2.1) #[] i.2.2.2) w) (fun _ => []) (fun w h => find_hp hk (by unfold K.intB; simp [E.i]) w h) (fun w _ => by kernel_rfl) (by kernel_rfl) (fun i _ => ?_)))))))
 obtain ⟨Fq1, csq1, Gq1, dsq1⟩ := i
 refine E.op (.tuple #[.agg #[E.i (K.lo k), E.i (K.hi k), E.i (K.len k), .func (.func Fq1) #[] csq1, .func (.func Gq1) #[] dsq1], .bool true]) (E.op (.agg #[E.i (K.lo k), E.i (K.hi k), E.i (K.len k), .func (.func Fq1) #[] csq1, .func (.func Gq1) #[] dsq1]) (E.op (.bool true) (E.nw [E.i 0, E.i 0, E.i 0, .nilFunc, .nilFunc] 174 (fun g2 => E.st 0 [E.i (K.lo k), E.i (K.hi k), E.i (K.len k), .func (.func Fq1) #[] csq1, .func (.func Gq1) #[] dsq1] rfl rfl (E.op (.bool true) (E.To.code (E.wk [(2, E.i 0), (3, E.pt g2)] [(g2, [E.i (K.lo k), E.i (K.hi k), E.i (K.len k), .func (.func Fq1) #[] csq1, .func (.func Gq1) #[] dsq1])] Nz.sub (E.sr (E.op (.pointer (some ⟨g2, 2, none⟩)) (E.li (E.i (K.len k)) 0 rfl rfl (E.op (E.i (K.len k)) ?_)))))))))))
 exact E.To.code (E.C.ret (E.bd Tryz.f78 [E.i (K.len k)] (fun w h => ⟨rfl, h.ch.bel (fun _ h => h.elim)⟩)))

def K.size (x : Int) : Int := match K.fmt (IntKind.wrap .i64 x) with
  | none => 0
  | some k => K.len k
theorem Size_any (x : Int) (w : World) : Calls Tryz.prog 78 #[.int .u8 x] w fun e w' => e = .returned (.int .i64 (K.size x)) ∧ Bel w w' := by
  unfold K.size
  cases hk : K.fmt (IntKind.wrap .i64 x) with
  | none => exact Size_none x hk w
  | some k => exact Size_some k x hk w

def K.target (i : K.Ins) (a : Int) : Int × Bool := (bif ((!(K.valid i)) || (!(K.inAny i.op [(96, 109), (112, 113)]))) then (0, false) else ((IntKind.wrap .u32 ((IntKind.wrap .u32 (a + (IntKind.wrap .u32 i.sz))) + i.imm)), true))
theorem K.rd_imm (k : Nat) (hk : k < 11) (l : List UInt8) (sz : Int) : 0 ≤ (K.rd k l sz).imm ∧ (K.rd k l sz).imm < 4294967296 := by
  have hb := fun n => W.byt_bd l n
  have hs : ∀ n, 0 ≤ W.sign (W.byt l n) 8 ∧ W.sign (W.byt l n) 8 < 4294967296 := fun n => W.sign_bd _ _ (hb n).1 (by have := hb n; omega)
  have hf : ∀ n, 0 ≤ K.four l n ∧ K.four l n < 4294967296 := fun n => by
    unfold K.four; have := hb n; have := hb (n + 1); have := hb (n + 2); have := hb (n + 3); omega
  have hix : ∀ n i, (K.t_index l n i).imm = i.imm := fun n i => by unfold K.t_index; split <;> rfl
  rcases (by omega : k = 0 ∨ k = 1 ∨ k = 2 ∨ k = 3 ∨ k = 4 ∨ k = 5 ∨ k = 6 ∨ k = 7 ∨ k = 8 ∨ k = 9 ∨ k = 10) with rfl | rfl | rfl | rfl | rfl | rfl | rfl | rfl | rfl | rfl | rfl
  · exact ⟨by show (0 : Int) ≤ 0; decide, by show (0 : Int) < 4294967296; decide⟩
  · exact ⟨by show (0 : Int) ≤ 0; decide, by show (0 : Int) < 4294967296; decide⟩
  · exact ⟨by show (0 : Int) ≤ 0; decide, by show (0 : Int) < 4294967296; decide⟩
  · exact hs _
  · exact hf _
  · exact hs _
  · exact hf _
  · exact hs _
  · exact hf _
  · have := hb 1; exact ⟨this.1, by show W.byt l 1 < _; omega⟩
  · exact ⟨by show (0 : Int) ≤ 0; decide, by show (0 : Int) < 4294967296; decide⟩

def K.decode0 (s : ByteArray) : K.Ins × Int := (bif (s.toList == (⟨#[]⟩ : ByteArray).toList) then (⟨0, 0, 0, 0, 0, 0, 0⟩, 10) else (⟨0, 0, 0, 0, 0, 0, 0⟩, 12))
theorem Decode_none (s : ByteArray) (hk : K.fmt (IntKind.wrap .i64 (W.byt s.data.toList 0)) = none) (w : World) : Calls Tryz.prog 79 #[.string s] w fun e w' => e = .returned (.tuple #[.agg #[.int .i64 (((((K.decode0 s)).1)).op), .int .i64 (((((K.decode0 s)).1)).d), .int .i64 (((((K.decode0 s)).1)).s), .int .i64 (((((K.decode0 s)).1)).ix), .int .i64 (((((K.decode0 s)).1)).sc), .int .u32 (((((K.decode0 s)).1)).imm), .int .i64 (((((K.decode0 s)).1)).sz)], .int .i64 (((K.decode0 s)).2)]) ∧ Bel w w' := by
 refine E.enter (n := 37) (S := fun _ => False) Tryz.func79 rfl rfl (by kernel_rfl) (E.Hp.start w) (E.sr (E.nw [E.i 0, E.i 0, E.i 0, E.i 0, E.i 0, E.u 0, E.i 0] 66 (fun g1 => E.op (E.i 0) (E.To.code (E.C.seq (E.sr (E.op (.string s) (E.op (.bool (s.toList == (⟨#[]⟩ : ByteArray).toList)) (E.To.code (E.cd (s.toList == (⟨#[]⟩ : ByteArray).toList) (fun hc2 => ?_) (fun hc2 => ?_)))))))))))
 ·
  refine E.sr (E.vl (.agg #[E.i 0, E.i 0, E.i 0, E.i 0, E.i 0, E.u 0, E.i 0]) (fun w h => E.run_build #[E.i 0, E.i 0, E.i 0, E.i 0, E.i 0, E.u 0, E.i 0] (by kernel_rfl) w) (E.st 0 [E.i 0, E.i 0, E.i 0, E.i 0, E.i 0, E.u 0, E.i 0] rfl rfl (E.op (E.i 10) (E.To.code (E.C.ret (E.P.rt (E.To.body (fn := Tryz.f79) [.agg #[E.i 0, E.i 0, E.i 0, E.i 0, E.i 0, E.u 0, E.i 0], E.i 10] ?_ ?_)))))))
  · exact ⟨⟨by kernel_rfl, _, _, 0, _, rfl, rfl, by kernel_rfl⟩, ⟨by kernel_rfl, by kernel_rfl⟩, trivial⟩
  intro w h
  exact ⟨by unfold K.decode0; rw [hc2, cond_true] <;> rfl, h.ch.bel (fun _ h => h.elim)⟩
 refine E.C.skip (E.To.code (E.sr (E.op (.string s) (E.vl (.int .u8 (W.byt s.data.toList 0)) (fun w h => E.sidx s .i64 0 (by kernel_rfl) (by kernel_rfl) (by kernel_rfl) Nz.szm Nz.szm w) (E.op (E.i (IntKind.wrap .i64 (W.byt s.data.toList 0))) (E.ca (.tuple #[.agg #[E.i 0, E.i 0, E.i 0, .nilFunc, .nilFunc], .bool false]) (fun w h => find_none hk w) (E.op (.tuple #[.agg #[E.i 0, E.i 0, E.i 0, .nilFunc, .nilFunc], .bool false]) (E.op (.agg #[E.i 0, E.i 0, E.i 0, .nilFunc, .nilFunc]) (E.op (.bool false) (E.nw [E.i 0, E.i 0, E.i 0, .nilFunc, .nilFunc] 174 (fun g3 => E.st 0 [E.i 0, E.i 0, E.i 0, .nilFunc, .nilFunc] rfl rfl (E.op (.bool false) ?_))))))))))))
 refine E.To.code (E.wk [(0, .string s), (2, E.pt g1), (3, E.i 0), (4, E.pt g3), (5, .bool false)] [(g3, [E.i 0, E.i 0, E.i 0, .nilFunc, .nilFunc]), (g1, [E.i 0, E.i 0, E.i 0, E.i 0, E.i 0, E.u 0, E.i 0])] Nz.sub (E.C.seq (E.sr (E.op (.bool false) (E.op (.bool true) (E.To.code (E.C.condT (by kernel_rfl) (by kernel_rfl) (E.sr (E.vl (.agg #[E.i 0, E.i 0, E.i 0, E.i 0, E.i 0, E.u 0, E.i 0]) (fun w h => E.run_build #[E.i 0, E.i 0, E.i 0, E.i 0, E.i 0, E.u 0, E.i 0] (by kernel_rfl) w) (E.st 1 [E.i 0, E.i 0, E.i 0, E.i 0, E.i 0, E.u 0, E.i 0] rfl rfl (E.op (E.i 12) ?_)))))))))))
 refine E.To.code (E.C.ret (E.P.rt (E.To.body (fn := Tryz.f79) [.agg #[E.i 0, E.i 0, E.i 0, E.i 0, E.i 0, E.u 0, E.i 0], E.i 12] ?_ ?_)))
 · exact ⟨⟨by kernel_rfl, _, _, 1, _, rfl, rfl, by kernel_rfl⟩, ⟨by kernel_rfl, by kernel_rfl⟩, trivial⟩
 intro w h
 exact ⟨by unfold K.decode0; rw [hc2, cond_false] <;> rfl, h.ch.bel (fun _ h => h.elim)⟩

def K.decode1 (k : Nat) (s : ByteArray) : K.Ins × Int := (bif (s.toList == (⟨#[]⟩ : ByteArray).toList) then (⟨0, 0, 0, 0, 0, 0, 0⟩, 10) else (bif (decide (((s.size : Nat) : Int) < (K.len k))) then (⟨0, 0, 0, 0, 0, 0, 0⟩, 10) else (bif (!(K.valid ((K.rd k ((s.extract 0 ((K.len k)).toNat)).data.toList (K.len k))))) then (⟨0, 0, 0, 0, 0, 0, 0⟩, 12) else (((K.rd k ((s.extract 0 ((K.len k)).toNat)).data.toList (K.len k))), 0))))
theorem Decode_some (k : Nat) (s : ByteArray) (hk : K.fmt (IntKind.wrap .i64 (W.byt s.data.toList 0)) = some k) (hs : s.size ≤ maxLen) (w : World) : Calls Tryz.prog 79 #[.string s] w fun e w' => e = .returned (.tuple #[.agg #[.int .i64 (((((K.decode1 k s)).1)).op), .int .i64 (((((K.decode1 k s)).1)).d), .int .i64 (((((K.decode1 k s)).1)).s), .int .i64 (((((K.decode1 k s)).1)).ix), .int .i64 (((((K.decode1 k s)).1)).sc), .int .u32 (((((K.decode1 k s)).1)).imm), .int .i64 (((((K.decode1 k s)).1)).sz)], .int .i64 (((K.decode1 k s)).2)]) ∧ Bel w w' := by
 have hl := K.len_bd k (K.fmt_lt hk)
 refine E.enter (n := 37) (S := fun _ => False) Tryz.func79 rfl rfl (by kernel_rfl) (E.Hp.start w) (E.sr (E.nw [E.i 0, E.i 0, E.i 0, E.i 0, E.i 0, E.u 0, E.i 0] 66 (fun g1 => E.op (E.i 0) (E.To.code (E.C.seq (E.sr (E.op (.string s) (E.op (.bool (s.toList == (⟨#[]⟩ : ByteArray).toList)) (E.To.code (E.cd (s.toList == (⟨#[]⟩ : ByteArray).toList) (fun hc2 => ?_) (fun hc2 => ?_)))))))))))
 ·
  refine E.sr (E.vl (.agg #[E.i 0, E.i 0, E.i 0, E.i 0, E.i 0, E.u 0, E.i 0]) (fun w h => E.run_build #[E.i 0, E.i 0, E.i 0, E.i 0, E.i 0, E.u 0, E.i 0] (by kernel_rfl) w) (E.st 0 [E.i 0, E.i 0, E.i 0, E.i 0, E.i 0, E.u 0, E.i 0] rfl rfl (E.op (E.i 10) (E.To.code (E.C.ret (E.P.rt (E.To.body (fn := Tryz.f79) [.agg #[E.i 0, E.i 0, E.i 0, E.i 0, E.i 0, E.u 0, E.i 0], E.i 10] ?_ ?_)))))))
  · exact ⟨⟨by kernel_rfl, _, _, 0, _, rfl, rfl, by kernel_rfl⟩, ⟨by kernel_rfl, by kernel_rfl⟩, trivial⟩
  intro w h
  exact ⟨by unfold K.decode1; rw [hc2, cond_true] <;> rfl, h.ch.bel (fun _ h => h.elim)⟩
 refine E.C.skip (E.To.code (E.sr (E.op (.string s) (E.vl (.int .u8 (W.byt s.data.toList 0)) (fun w h => E.sidx s .i64 0 (by kernel_rfl) (by kernel_rfl) (by kernel_rfl) Nz.szm Nz.szm w) (E.op (E.i (IntKind.wrap .i64 (W.byt s.data.toList 0))) (E.G.callX (I := FuncId × Array Value × FuncId × Array Value) (fun _ => True) (fun i => .tuple #[.agg #[E.i (K.lo k), E.i (K.hi k), E.i (K.len k), .func (.func i.1) #[] i.2.1, .func (.func i.2.2.1) #[] i.2.2.2], .bool true]) (fun i => fun w => (fun _ => True) w ∧ K.Fm k (.func (.func i.1) #[] i.2.1) (.func (.func i.2.2.1) #[] i.2.2.2) w) (fun _ => [(g1, [E.i 0, E.i 0, E.i 0, E.i 0, E.i 0, E.u 0, E.i 0])]) (fun w h => find_hp hk (by unfold K.intB; simp [E.i]) w h) (fun w _ => by kernel_rfl) (by kernel_rfl) (fun i _ => ?_)))))))
 obtain ⟨Fq3, csq3, Gq3, dsq3⟩ := i
 refine E.op (.tuple #[.agg #[E.i (K.lo k), E.i (K.hi k), E.i (K.len k), .func (.func Fq3) #[] csq3, .func (.func Gq3) #[] dsq3], .bool true]) (E.op (.agg #[E.i (K.lo k), E.i (K.hi k), E.i (K.len k), .func (.func Fq3) #[] csq3, .func (.func Gq3) #[] dsq3]) (E.op (.bool true) (E.nw [E.i 0, E.i 0, E.i 0, .nilFunc, .nilFunc] 174 (fun g4 => E.st 0 [E.i (K.lo k), E.i (K.hi k), E.i (K.len k), .func (.func Fq3) #[] csq3, .func (.func Gq3) #[] dsq3] rfl rfl (E.op (.bool true) (E.To.code (E.wk [(0, .string s), (2, E.pt g1), (3, E.i 0), (4, E.pt g4), (5, .bool true)] [(g4, [E.i (K.lo k), E.i (K.hi k), E.i (K.len k), .func (.func Fq3) #[] csq3, .func (.func Gq3) #[] dsq3]), (g1, [E.i 0, E.i 0, E.i 0, E.i 0, E.i 0, E.u 0, E.i 0])] Nz.sub (E.C.seq (E.sr (E.op (.bool true) (E.op (.bool false) ?_)))))))))))
 refine E.To.code (E.C.condF (by kernel_rfl) (by kernel_rfl) (E.C.skip (E.To.code (E.C.seq (E.sr (E.op (.string s) (E.op (E.i ((s.size : Nat) : Int)) (E.op (.pointer (some ⟨g4, 2, none⟩)) (E.li (E.i (K.len k)) 0 rfl rfl (E.op (.bool (decide (((s.size : Nat) : Int) < (K.len k)))) (E.To.code (E.cd (decide (((s.size : Nat) : Int) < (K.len k))) (fun hc5 => ?_) (fun hc5 => ?_)))))))))))))
 ·
  refine E.sr (E.vl (.agg #[E.i 0, E.i 0, E.i 0, E.i 0, E.i 0, E.u 0, E.i 0]) (fun w h => E.run_build #[E.i 0, E.i 0, E.i 0, E.i 0, E.i 0, E.u 0, E.i 0] (by kernel_rfl) w) (E.st 1 [E.i 0, E.i 0, E.i 0, E.i 0, E.i 0, E.u 0, E.i 0] rfl rfl (E.op (E.i 10) (E.To.code (E.wk [(0, .string s), (2, E.pt g1), (3, E.i 10), (4, E.pt g4)] [(g4, [E.i (K.lo k), E.i (K.hi k), E.i (K.len k), .func (.func Fq3) #[] csq3, .func (.func Gq3) #[] dsq3]), (g1, [E.i 0, E.i 0, E.i 0, E.i 0, E.i 0, E.u 0, E.i 0])] Nz.sub (E.C.ret (E.P.rt (E.To.body (fn := Tryz.f79) [.agg #[E.i 0, E.i 0, E.i 0, E.i 0, E.i 0, E.u 0, E.i 0], E.i 10] ?_ ?_))))))))
  · exact ⟨⟨by kernel_rfl, _, _, 1, _, rfl, rfl, by kernel_rfl⟩, ⟨by kernel_rfl, by kernel_rfl⟩, trivial⟩
  intro w h
  exact ⟨by unfold K.decode1; rw [hc2, cond_false, hc5, cond_true] <;> rfl, h.ch.bel (fun _ h => h.elim)⟩
 refine E.C.skip (E.To.code (E.wk [(0, .string s), (2, E.pt g1), (3, E.i 0), (4, E.pt g4)] [(g4, [E.i (K.lo k), E.i (K.hi k), E.i (K.len k), .func (.func Fq3) #[] csq3, .func (.func Gq3) #[] dsq3]), (g1, [E.i 0, E.i 0, E.i 0, E.i 0, E.i 0, E.u 0, E.i 0])] Nz.sub (E.C.seq (E.C.held (E.Hp (fun _ => False) w (fun w => (fun _ => True) w ∧ K.Fm k (.func (.func Fq3) #[] csq3) (.func (.func Gq3) #[] dsq3) w) [(g4, [E.i (K.lo k), E.i (K.hi k), E.i (K.len k), .func (.func Fq3) #[] csq3, .func (.func Gq3) #[] dsq3]), (g1, [E.i 0, E.i 0, E.i 0, E.i 0, E.i 0, E.u 0, E.i 0])]) (by kernel_rfl) (E.tj 0 (.agg #[E.i (K.lo k), E.i (K.hi k), E.i (K.len k), .func (.func Fq3) #[] csq3, .func (.func Gq3) #[] dsq3]) rfl (fun w h => h) (fun w h => E.run_load h 0 rfl rfl (by kernel_rfl)) (E.tk 1 (.string s) rfl (fun w h => h) (E.tk 2 (.pointer (some ⟨g4, 2, none⟩)) rfl (fun w h => h) (E.tj 3 (E.i (K.len k)) rfl (fun w h => h) (fun w h => E.run_load h 0 rfl rfl (by kernel_rfl)) (E.tj 4 (.string (s.extract 0 ((K.len k)).toNat)) rfl (fun w h => h) (fun w h => E.slTo s .i64 (K.len k) (by kernel_rfl) (by kernel_rfl) (by kernel_rfl) Nz.szm Nz.szm w) (E.al2 5 6 rfl rfl ?_ ?_))))))))))
 ·
  refine E.ca (.agg #[E.i (((K.rd k ((s.extract 0 ((K.len k)).toNat)).data.toList (K.len k))).op), E.i (((K.rd k ((s.extract 0 ((K.len k)).toNat)).data.toList (K.len k))).d), E.i (((K.rd k ((s.extract 0 ((K.len k)).toNat)).data.toList (K.len k))).s), E.i (((K.rd k ((s.extract 0 ((K.len k)).toNat)).data.toList (K.len k))).ix), E.i (((K.rd k ((s.extract 0 ((K.len k)).toNat)).data.toList (K.len k))).sc), E.u (((K.rd k ((s.extract 0 ((K.len k)).toNat)).data.toList (K.len k))).imm), E.i (((K.rd k ((s.extract 0 ((K.len k)).toNat)).data.toList (K.len k))).sz)]) (fun w h => read_any k (K.fmt_lt hk) _ _ w h.x.2 (s.extract 0 ((K.len k)).toNat) (by rw [ByteArray.size_extract]; unfold maxLen at *; first | (have hp := E.size_pos (by assumption); (try simp only [beq_iff_eq, bne_iff_ne, ne_eq, Bool.or_eq_true, Bool.and_eq_true, beq_eq_false_iff_ne, decide_eq_true_eq, decide_eq_false_iff_not, Bool.or_eq_false_iff, Bool.not_eq_true, gt_iff_lt] at *); omega) | ((try simp only [beq_iff_eq, bne_iff_ne, ne_eq, Bool.or_eq_true, Bool.and_eq_true, beq_eq_false_iff_ne, decide_eq_true_eq, decide_eq_false_iff_not, Bool.or_eq_false_iff, Bool.not_eq_true, gt_iff_lt] at *); omega)) (by rw [ByteArray.size_extract]; first | (have hp := E.size_pos (by assumption); (try simp only [beq_iff_eq, bne_iff_ne, ne_eq, Bool.or_eq_true, Bool.and_eq_true, beq_eq_false_iff_ne, decide_eq_true_eq, decide_eq_false_iff_not, Bool.or_eq_false_iff, Bool.not_eq_true, gt_iff_lt] at *); omega) | ((try simp only [beq_iff_eq, bne_iff_ne, ne_eq, Bool.or_eq_true, Bool.and_eq_true, beq_eq_false_iff_ne, decide_eq_true_eq, decide_eq_false_iff_not, Bool.or_eq_false_iff, Bool.not_eq_true, gt_iff_lt] at *); omega))) (E.H.back (fun w h => h) (E.al 6 rfl (E.nw [E.i 0, E.i 0, E.i 0, E.i 0, E.i 0, E.u 0, E.i 0] 66 (fun g6 => E.bk (E.al 7 rfl (E.st 0 [E.i (((K.rd k ((s.extract 0 ((K.len k)).toNat)).data.toList (K.len k))).op), E.i (((K.rd k ((s.extract 0 ((K.len k)).toNat)).data.toList (K.len k))).d), E.i (((K.rd k ((s.extract 0 ((K.len k)).toNat)).data.toList (K.len k))).s), E.i (((K.rd k ((s.extract 0 ((K.len k)).toNat)).data.toList (K.len k))).ix), E.i (((K.rd k ((s.extract 0 ((K.len k)).toNat)).data.toList (K.len k))).sc), E.u (((K.rd k ((s.extract 0 ((K.len k)).toNat)).data.toList (K.len k))).imm), E.i (((K.rd k ((s.extract 0 ((K.len k)).toNat)).data.toList (K.len k))).sz)] rfl rfl (E.bk (E.H.done (by kernel_rfl) (E.To.code (E.wk [(2, E.pt g1), (3, E.i 0), (6, E.pt g6)] [(g6, [E.i (((K.rd k ((s.extract 0 ((K.len k)).toNat)).data.toList (K.len k))).op), E.i (((K.rd k ((s.extract 0 ((K.len k)).toNat)).data.toList (K.len k))).d), E.i (((K.rd k ((s.extract 0 ((K.len k)).toNat)).data.toList (K.len k))).s), E.i (((K.rd k ((s.extract 0 ((K.len k)).toNat)).data.toList (K.len k))).ix), E.i (((K.rd k ((s.extract 0 ((K.len k)).toNat)).data.toList (K.len k))).sc), E.u (((K.rd k ((s.extract 0 ((K.len k)).toNat)).data.toList (K.len k))).imm), E.i (((K.rd k ((s.extract 0 ((K.len k)).toNat)).data.toList (K.len k))).sz)]), (g1, [E.i 0, E.i 0, E.i 0, E.i 0, E.i 0, E.u 0, E.i 0])] Nz.sub (E.C.seq ?_)))))))))))
  refine E.sr (E.li (.agg #[E.i (((K.rd k ((s.extract 0 ((K.len k)).toNat)).data.toList (K.len k))).op), E.i (((K.rd k ((s.extract 0 ((K.len k)).toNat)).data.toList (K.len k))).d), E.i (((K.rd k ((s.extract 0 ((K.len k)).toNat)).data.toList (K.len k))).s), E.i (((K.rd k ((s.extract 0 ((K.len k)).toNat)).data.toList (K.len k))).ix), E.i (((K.rd k ((s.extract 0 ((K.len k)).toNat)).data.toList (K.len k))).sc), E.u (((K.rd k ((s.extract 0 ((K.len k)).toNat)).data.toList (K.len k))).imm), E.i (((K.rd k ((s.extract 0 ((K.len k)).toNat)).data.toList (K.len k))).sz)]) 0 rfl rfl (E.ca (.bool (K.valid ((K.rd k ((s.extract 0 ((K.len k)).toNat)).data.toList (K.len k))))) (fun w h => Valid_any ((K.rd k ((s.extract 0 ((K.len k)).toNat)).data.toList (K.len k))) (K.rd_imm k (K.fmt_lt hk) _ _) w) (E.op (.bool (!(K.valid ((K.rd k ((s.extract 0 ((K.len k)).toNat)).data.toList (K.len k)))))) (E.To.code (E.cd (!(K.valid ((K.rd k ((s.extract 0 ((K.len k)).toNat)).data.toList (K.len k))))) (fun hc7 => ?_) (fun hc7 => ?_))))))
  ·
   refine E.sr (E.vl (.agg #[E.i 0, E.i 0, E.i 0, E.i 0, E.i 0, E.u 0, E.i 0]) (fun w h => E.run_build #[E.i 0, E.i 0, E.i 0, E.i 0, E.i 0, E.u 0, E.i 0] (by kernel_rfl) w) (E.st 1 [E.i 0, E.i 0, E.i 0, E.i 0, E.i 0, E.u 0, E.i 0] rfl rfl (E.op (E.i 12) (E.To.code (E.C.ret (E.P.rt (E.To.body (fn := Tryz.f79) [.agg #[E.i 0, E.i 0, E.i 0, E.i 0, E.i 0, E.u 0, E.i 0], E.i 12] ?_ ?_)))))))
   · exact ⟨⟨by kernel_rfl, _, _, 1, _, rfl, rfl, by kernel_rfl⟩, ⟨by kernel_rfl, by kernel_rfl⟩, trivial⟩
   intro w h
   exact ⟨by unfold K.decode1; rw [hc2, cond_false, hc5, cond_false, hc7, cond_true] <;> rfl, h.ch.bel (fun _ h => h.elim)⟩
  refine E.C.skip (E.To.code (E.sr (E.li (.agg #[E.i (((K.rd k ((s.extract 0 ((K.len k)).toNat)).data.toList (K.len k))).op), E.i (((K.rd k ((s.extract 0 ((K.len k)).toNat)).data.toList (K.len k))).d), E.i (((K.rd k ((s.extract 0 ((K.len k)).toNat)).data.toList (K.len k))).s), E.i (((K.rd k ((s.extract 0 ((K.len k)).toNat)).data.toList (K.len k))).ix), E.i (((K.rd k ((s.extract 0 ((K.len k)).toNat)).data.toList (K.len k))).sc), E.u (((K.rd k ((s.extract 0 ((K.len k)).toNat)).data.toList (K.len k))).imm), E.i (((K.rd k ((s.extract 0 ((K.len k)).toNat)).data.toList (K.len k))).sz)]) 0 rfl rfl (E.st 1 [E.i (((K.rd k ((s.extract 0 ((K.len k)).toNat)).data.toList (K.len k))).op), E.i (((K.rd k ((s.extract 0 ((K.len k)).toNat)).data.toList (K.len k))).d), E.i (((K.rd k ((s.extract 0 ((K.len k)).toNat)).data.toList (K.len k))).s), E.i (((K.rd k ((s.extract 0 ((K.len k)).toNat)).data.toList (K.len k))).ix), E.i (((K.rd k ((s.extract 0 ((K.len k)).toNat)).data.toList (K.len k))).sc), E.u (((K.rd k ((s.extract 0 ((K.len k)).toNat)).data.toList (K.len k))).imm), E.i (((K.rd k ((s.extract 0 ((K.len k)).toNat)).data.toList (K.len k))).sz)] rfl rfl (E.op (E.i 0) (E.To.code (E.C.ret (E.To.body (fn := Tryz.f79) [.agg #[E.i (((K.rd k ((s.extract 0 ((K.len k)).toNat)).data.toList (K.len k))).op), E.i (((K.rd k ((s.extract 0 ((K.len k)).toNat)).data.toList (K.len k))).d), E.i (((K.rd k ((s.extract 0 ((K.len k)).toNat)).data.toList (K.len k))).s), E.i (((K.rd k ((s.extract 0 ((K.len k)).toNat)).data.toList (K.len k))).ix), E.i (((K.rd k ((s.extract 0 ((K.len k)).toNat)).data.toList (K.len k))).sc), E.u (((K.rd k ((s.extract 0 ((K.len k)).toNat)).data.toList (K.len k))).imm), E.i (((K.rd k ((s.extract 0 ((K.len k)).toNat)).data.toList (K.len k))).sz)], E.i 0] ?_ ?_))))))))
  · exact ⟨⟨by kernel_rfl, _, _, 1, _, rfl, rfl, by kernel_rfl⟩, ⟨by kernel_rfl, by kernel_rfl⟩, trivial⟩
  intro w h
  exact ⟨by unfold K.decode1; rw [hc2, cond_false, hc5, cond_false, hc7, cond_false] <;> rfl, h.ch.bel (fun _ h => h.elim)⟩
 refine E.nw [E.i 0, E.i 0, E.i 0, E.i 0, E.i 0, E.u 0, E.i 0] 66 (fun g8 => E.bk (E.al 5 rfl (E.ca (.agg #[E.i (((K.rd k ((s.extract 0 ((K.len k)).toNat)).data.toList (K.len k))).op), E.i (((K.rd k ((s.extract 0 ((K.len k)).toNat)).data.toList (K.len k))).d), E.i (((K.rd k ((s.extract 0 ((K.len k)).toNat)).data.toList (K.len k))).s), E.i (((K.rd k ((s.extract 0 ((K.len k)).toNat)).data.toList (K.len k))).ix), E.i (((K.rd k ((s.extract 0 ((K.len k)).toNat)).data.toList (K.len k))).sc), E.u (((K.rd k ((s.extract 0 ((K.len k)).toNat)).data.toList (K.len k))).imm), E.i (((K.rd k ((s.extract 0 ((K.len k)).toNat)).data.toList (K.len k))).sz)]) (fun w h => read_any k (K.fmt_lt hk) _ _ w h.x.2 (s.extract 0 ((K.len k)).toNat) (by rw [ByteArray.size_extract]; unfold maxLen at *; first | (have hp := E.size_pos (by assumption); (try simp only [beq_iff_eq, bne_iff_ne, ne_eq, Bool.or_eq_true, Bool.and_eq_true, beq_eq_false_iff_ne, decide_eq_true_eq, decide_eq_false_iff_not, Bool.or_eq_false_iff, Bool.not_eq_true, gt_iff_lt] at *); omega) | ((try simp only [beq_iff_eq, bne_iff_ne, ne_eq, Bool.or_eq_true, Bool.and_eq_true, beq_eq_false_iff_ne, decide_eq_true_eq, decide_eq_false_iff_not, Bool.or_eq_false_iff, Bool.not_eq_true, gt_iff_lt] at *); omega)) (by rw [ByteArray.size_extract]; first | (have hp := E.size_pos (by assumption); (try simp only [beq_iff_eq, bne_iff_ne, ne_eq, Bool.or_eq_true, Bool.and_eq_true, beq_eq_false_iff_ne, decide_eq_true_eq, decide_eq_false_iff_not, Bool.or_eq_false_iff, Bool.not_eq_true, gt_iff_lt] at *); omega) | ((try simp only [beq_iff_eq, bne_iff_ne, ne_eq, Bool.or_eq_true, Bool.and_eq_true, beq_eq_false_iff_ne, decide_eq_true_eq, decide_eq_false_iff_not, Bool.or_eq_false_iff, Bool.not_eq_true, gt_iff_lt] at *); omega))) (E.bk (E.al 7 rfl (E.st 0 [E.i (((K.rd k ((s.extract 0 ((K.len k)).toNat)).data.toList (K.len k))).op), E.i (((K.rd k ((s.extract 0 ((K.len k)).toNat)).data.toList (K.len k))).d), E.i (((K.rd k ((s.extract 0 ((K.len k)).toNat)).data.toList (K.len k))).s), E.i (((K.rd k ((s.extract 0 ((K.len k)).toNat)).data.toList (K.len k))).ix), E.i (((K.rd k ((s.extract 0 ((K.len k)).toNat)).data.toList (K.len k))).sc), E.u (((K.rd k ((s.extract 0 ((K.len k)).toNat)).data.toList (K.len k))).imm), E.i (((K.rd k ((s.extract 0 ((K.len k)).toNat)).data.toList (K.len k))).sz)] rfl rfl (E.bk (E.H.done (by kernel_rfl) (E.To.code (E.wk [(2, E.pt g1), (3, E.i 0), (6, E.pt g8)] [(g8, [E.i (((K.rd k ((s.extract 0 ((K.len k)).toNat)).data.toList (K.len k))).op), E.i (((K.rd k ((s.extract 0 ((K.len k)).toNat)).data.toList (K.len k))).d), E.i (((K.rd k ((s.extract 0 ((K.len k)).toNat)).data.toList (K.len k))).s), E.i (((K.rd k ((s.extract 0 ((K.len k)).toNat)).data.toList (K.len k))).ix), E.i (((K.rd k ((s.extract 0 ((K.len k)).toNat)).data.toList (K.len k))).sc), E.u (((K.rd k ((s.extract 0 ((K.len k)).toNat)).data.toList (K.len k))).imm), E.i (((K.rd k ((s.extract 0 ((K.len k)).toNat)).data.toList (K.len k))).sz)]), (g1, [E.i 0, E.i 0, E.i 0, E.i 0, E.i 0, E.u 0, E.i 0])] Nz.sub (E.C.seq ?_)))))))))))
 refine E.sr (E.li (.agg #[E.i (((K.rd k ((s.extract 0 ((K.len k)).toNat)).data.toList (K.len k))).op), E.i (((K.rd k ((s.extract 0 ((K.len k)).toNat)).data.toList (K.len k))).d), E.i (((K.rd k ((s.extract 0 ((K.len k)).toNat)).data.toList (K.len k))).s), E.i (((K.rd k ((s.extract 0 ((K.len k)).toNat)).data.toList (K.len k))).ix), E.i (((K.rd k ((s.extract 0 ((K.len k)).toNat)).data.toList (K.len k))).sc), E.u (((K.rd k ((s.extract 0 ((K.len k)).toNat)).data.toList (K.len k))).imm), E.i (((K.rd k ((s.extract 0 ((K.len k)).toNat)).data.toList (K.len k))).sz)]) 0 rfl rfl (E.ca (.bool (K.valid ((K.rd k ((s.extract 0 ((K.len k)).toNat)).data.toList (K.len k))))) (fun w h => Valid_any ((K.rd k ((s.extract 0 ((K.len k)).toNat)).data.toList (K.len k))) (K.rd_imm k (K.fmt_lt hk) _ _) w) (E.op (.bool (!(K.valid ((K.rd k ((s.extract 0 ((K.len k)).toNat)).data.toList (K.len k)))))) (E.To.code (E.cd (!(K.valid ((K.rd k ((s.extract 0 ((K.len k)).toNat)).data.toList (K.len k))))) (fun hc9 => ?_) (fun hc9 => ?_))))))
 ·
  refine E.sr (E.vl (.agg #[E.i 0, E.i 0, E.i 0, E.i 0, E.i 0, E.u 0, E.i 0]) (fun w h => E.run_build #[E.i 0, E.i 0, E.i 0, E.i 0, E.i 0, E.u 0, E.i 0] (by kernel_rfl) w) (E.st 1 [E.i 0, E.i 0, E.i 0, E.i 0, E.i 0, E.u 0, E.i 0] rfl rfl (E.op (E.i 12) (E.To.code (E.C.ret (E.P.rt (E.To.body (fn := Tryz.f79) [.agg #[E.i 0, E.i 0, E.i 0, E.i 0, E.i 0, E.u 0, E.i 0], E.i 12] ?_ ?_)))))))
  · exact ⟨⟨by kernel_rfl, _, _, 1, _, rfl, rfl, by kernel_rfl⟩, ⟨by kernel_rfl, by kernel_rfl⟩, trivial⟩
  intro w h
  exact ⟨by unfold K.decode1; rw [hc2, cond_false, hc5, cond_false, hc9, cond_true] <;> rfl, h.ch.bel (fun _ h => h.elim)⟩
 refine E.C.skip (E.To.code (E.sr (E.li (.agg #[E.i (((K.rd k ((s.extract 0 ((K.len k)).toNat)).data.toList (K.len k))).op), E.i (((K.rd k ((s.extract 0 ((K.len k)).toNat)).data.toList (K.len k))).d), E.i (((K.rd k ((s.extract 0 ((K.len k)).toNat)).data.toList (K.len k))).s), E.i (((K.rd k ((s.extract 0 ((K.len k)).toNat)).data.toList (K.len k))).ix), E.i (((K.rd k ((s.extract 0 ((K.len k)).toNat)).data.toList (K.len k))).sc), E.u (((K.rd k ((s.extract 0 ((K.len k)).toNat)).data.toList (K.len k))).imm), E.i (((K.rd k ((s.extract 0 ((K.len k)).toNat)).data.toList (K.len k))).sz)]) 0 rfl rfl (E.st 1 [E.i (((K.rd k ((s.extract 0 ((K.len k)).toNat)).data.toList (K.len k))).op), E.i (((K.rd k ((s.extract 0 ((K.len k)).toNat)).data.toList (K.len k))).d), E.i (((K.rd k ((s.extract 0 ((K.len k)).toNat)).data.toList (K.len k))).s), E.i (((K.rd k ((s.extract 0 ((K.len k)).toNat)).data.toList (K.len k))).ix), E.i (((K.rd k ((s.extract 0 ((K.len k)).toNat)).data.toList (K.len k))).sc), E.u (((K.rd k ((s.extract 0 ((K.len k)).toNat)).data.toList (K.len k))).imm), E.i (((K.rd k ((s.extract 0 ((K.len k)).toNat)).data.toList (K.len k))).sz)] rfl rfl (E.op (E.i 0) (E.To.code (E.C.ret (E.To.body (fn := Tryz.f79) [.agg #[E.i (((K.rd k ((s.extract 0 ((K.len k)).toNat)).data.toList (K.len k))).op), E.i (((K.rd k ((s.extract 0 ((K.len k)).toNat)).data.toList (K.len k))).d), E.i (((K.rd k ((s.extract 0 ((K.len k)).toNat)).data.toList (K.len k))).s), E.i (((K.rd k ((s.extract 0 ((K.len k)).toNat)).data.toList (K.len k))).ix), E.i (((K.rd k ((s.extract 0 ((K.len k)).toNat)).data.toList (K.len k))).sc), E.u (((K.rd k ((s.extract 0 ((K.len k)).toNat)).data.toList (K.len k))).imm), E.i (((K.rd k ((s.extract 0 ((K.len k)).toNat)).data.toList (K.len k))).sz)], E.i 0] ?_ ?_))))))))
 · exact ⟨⟨by kernel_rfl, _, _, 1, _, rfl, rfl, by kernel_rfl⟩, ⟨by kernel_rfl, by kernel_rfl⟩, trivial⟩
 intro w h
 exact ⟨by unfold K.decode1; rw [hc2, cond_false, hc5, cond_false, hc9, cond_false] <;> rfl, h.ch.bel (fun _ h => h.elim)⟩

def K.decode (s : ByteArray) : K.Ins × Int := match K.fmt (IntKind.wrap .i64 (W.byt s.data.toList 0)) with
  | none => K.decode0 s
  | some k => K.decode1 k s
theorem Decode_any (s : ByteArray) (hs : s.size ≤ maxLen) (w : World) : Calls Tryz.prog 79 #[.string s] w fun e w' => e = .returned (.tuple #[.agg #[.int .i64 (K.decode s).1.op, .int .i64 (K.decode s).1.d, .int .i64 (K.decode s).1.s, .int .i64 (K.decode s).1.ix, .int .i64 (K.decode s).1.sc, .int .u32 (K.decode s).1.imm, .int .i64 (K.decode s).1.sz], .int .i64 (K.decode s).2]) ∧ Bel w w' := by
  unfold K.decode
  cases hk : K.fmt (IntKind.wrap .i64 (W.byt s.data.toList 0)) with
  | none => exact Decode_none s hk w
  | some k => exact Decode_some k s hk hs w
/-- The bytes at p. -/
def K.b0 (V : M.V) (p : Int) : Int := (V.fetch (p).toNat).1
def K.o0 (V : M.V) (p : Int) : Bool := (V.fetch (p).toNat).2
def K.b (V : M.V) (p k : Int) : Int := (V.fetch ((IntKind.wrap .u32 (p + k))).toNat).1
def K.o (V : M.V) (p k : Int) : Bool := (V.fetch ((IntKind.wrap .u32 (p + k))).toNat).2
def K.bl (V : M.V) (p : Int) (n : Nat) : List Int := (K.b0 V p :: [K.b V p 1, K.b V p 2, K.b V p 3, K.b V p 4, K.b V p 5, K.b V p 6]).take n
/-- The instruction of the first n of them. -/
def K.dc (V : M.V) (p : Int) (n : Nat) : K.Ins × Int := K.decode (strOfNums (K.bl V p n))
theorem K.size_le (x : Int) : K.size x ≤ 7 := by
  unfold K.size
  split
  · decide
  · next k hk => exact (K.len_bd k (K.fmt_lt hk)).2
def K.fetch (V : M.V) (p : Int) : K.Ins × Int × Int := (bif (!(K.o0 V p)) then (⟨0, 0, 0, 0, 0, 0, 0⟩, 5, p) else (bif ((K.size (K.b0 V p)) == 0) then (⟨0, 0, 0, 0, 0, 0, 0⟩, 7, 0) else (bif (decide (1 < (K.size (K.b0 V p)))) then (bif (!(K.o V p 1)) then (⟨0, 0, 0, 0, 0, 0, 0⟩, 5, (IntKind.wrap .u32 (p + 1))) else (bif (decide (2 < (K.size (K.b0 V p)))) then (bif (!(K.o V p 2)) then (⟨0, 0, 0, 0, 0, 0, 0⟩, 5, (IntKind.wrap .u32 (p + 2))) else (bif (decide (3 < (K.size (K.b0 V p)))) then (bif (!(K.o V p 3)) then (⟨0, 0, 0, 0, 0, 0, 0⟩, 5, (IntKind.wrap .u32 (p + 3))) else (bif (decide (4 < (K.size (K.b0 V p)))) then (bif (!(K.o V p 4)) then (⟨0, 0, 0, 0, 0, 0, 0⟩, 5, (IntKind.wrap .u32 (p + 4))) else (bif (decide (5 < (K.size (K.b0 V p)))) then (bif (!(K.o V p 5)) then (⟨0, 0, 0, 0, 0, 0, 0⟩, 5, (IntKind.wrap .u32 (p + 5))) else (bif (decide (6 < (K.size (K.b0 V p)))) then (bif (!(K.o V p 6)) then (⟨0, 0, 0, 0, 0, 0, 0⟩, 5, (IntKind.wrap .u32 (p + 6))) else (bif (((K.dc V p 7).2) != 0) then (((K.dc V p 7).1), 7, 0) else (((K.dc V p 7).1), 0, 0))) else (bif (((K.dc V p 6).2) != 0) then (((K.dc V p 6).1), 7, 0) else (((K.dc V p 6).1), 0, 0)))) else (bif (((K.dc V p 5).2) != 0) then (((K.dc V p 5).1), 7, 0) else (((K.dc V p 5).1), 0, 0)))) else (bif (((K.dc V p 4).2) != 0) then (((K.dc V p 4).1), 7, 0) else (((K.dc V p 4).1), 0, 0)))) else (bif (((K.dc V p 3).2) != 0) then (((K.dc V p 3).1), 7, 0) else (((K.dc V p 3).1), 0, 0)))) else (bif (((K.dc V p 2).2) != 0) then (((K.dc V p 2).1), 7, 0) else (((K.dc V p 2).1), 0, 0)))) else (bif (((K.dc V p 1).2) != 0) then (((K.dc V p 1).1), 7, 0) else (((K.dc V p 1).1), 0, 0)))))
/-- The bytes as cells. -/
def K.bv (V : M.V) (p : Int) (n : Nat) : List Value := (K.bl V p n).map (Value.int .u8)
theorem K.bl_len (V : M.V) (p : Int) {k : Nat} (h : k ≤ 7) : (K.bl V p k).length = k := by
  unfold K.bl; rw [List.length_take]; show min k 7 = k; omega
theorem K.bv_len (V : M.V) (p : Int) {k : Nat} (h : k ≤ 7) : (K.bv V p k).length = k * 1 := by unfold K.bv; rw [List.length_map, K.bl_len V p h, Nat.mul_one]
theorem K.bv_take (V : M.V) (p : Int) {k : Nat} (h : k ≤ 7) (r : List Value) : ((K.bv V p k ++ r).drop 0).take k = (K.bl V p k).map (Value.int .u8) := by
  rw [List.drop_zero, List.take_append_of_le_length (by rw [K.bv_len V p h]; omega), List.take_of_length_le (by rw [K.bv_len V p h]; omega)]; rfl
theorem K.bv_s (V : M.V) (p : Int) {k : Nat} (h1 : 1 ≤ k) (h : k < 7) : K.bv V p k ++ [Value.int .u8 (K.b V p ((k : Nat) : Int))] = K.bv V p (k + 1) := by
  rcases (by omega : k = 1 ∨ k = 2 ∨ k = 3 ∨ k = 4 ∨ k = 5 ∨ k = 6) with rfl | rfl | rfl | rfl | rfl | rfl <;> rfl
theorem K.bl_max (V : M.V) (p : Int) {k : Nat} (h : k ≤ 7) : (strOfNums (K.bl V p k)).size ≤ maxLen := by
  rw [strOfNums_size, K.bl_len V p h]; have : (7 : Nat) ≤ maxLen := (by decide); omega
theorem K.wk7 {k : Nat} (h : k ≤ 7) : IntKind.wrap .u32 ((k : Nat) : Int) = ((k : Nat) : Int) := by show ((k : Nat) : Int) % 4294967296 = _; omega
/-- What is fetched where k bytes have been read. -/
def K.fd (V : M.V) (p : Int) (k : Nat) : K.Ins × Int × Int := bif ((K.dc V p k).2 != 0) then ((K.dc V p k).1, 7, 0) else ((K.dc V p k).1, 0, 0)
def K.floop (V : M.V) (p : Int) : Nat → Nat → K.Ins × Int × Int
  | 0, k => K.fd V p k
  | f + 1, k => bif (decide (((k : Nat) : Int) < (K.size (K.b0 V p)))) then (bif (!(K.o V p ((k : Nat) : Int))) then (⟨0, 0, 0, 0, 0, 0, 0⟩, 5, IntKind.wrap .u32 (p + ((k : Nat) : Int))) else K.floop V p f (k + 1)) else K.fd V p k
theorem K.fetch_loop {V : M.V} {p : Int} (h1 : (!(K.o0 V p)) = false) (h2 : ((K.size (K.b0 V p)) == 0) = false) : K.fetch V p = K.floop V p 6 1 := by
  unfold K.fetch; rw [h1, h2, cond_false, cond_false]; rfl
theorem K.lt7 {k : Nat} {x : Int} (h : (decide (((k : Nat) : Int) < (K.size x))) = true) : k < 7 := by
  have := of_decide_eq_true h; have := K.size_le x; omega
section
variable {V : M.V} {p : Int} {k : Nat}
theorem K.fl_t (h1 : (decide (((k : Nat) : Int) < (K.size (K.b0 V p)))) = true) (h2 : (!(K.o V p ((k : Nat) : Int))) = false) : K.floop V p (7 - k) k = K.floop V p (7 - (k + 1)) (k + 1) := by
  have := K.lt7 h1
  rw [show 7 - k = (7 - (k + 1)) + 1 by omega, K.floop, h1, h2, cond_true, cond_false]
theorem K.fl_f (h1 : (decide (((k : Nat) : Int) < (K.size (K.b0 V p)))) = true) (h2 : (!(K.o V p ((k : Nat) : Int))) = true) : K.floop V p (7 - k) k = (⟨0, 0, 0, 0, 0, 0, 0⟩, 5, IntKind.wrap .u32 (p + ((k : Nat) : Int))) := by
  have := K.lt7 h1
  rw [show 7 - k = (7 - (k + 1)) + 1 by omega, K.floop, h1, h2, cond_true, cond_true]
theorem K.fl_d (h1 : (decide (((k : Nat) : Int) < (K.size (K.b0 V p)))) = false) : K.floop V p (7 - k) k = K.fd V p k := by
  cases e : 7 - k with
  | zero => rfl
  | succ f => rw [K.floop, h1, cond_false]
theorem K.fl_e (h1 : (decide (((k : Nat) : Int) < (K.size (K.b0 V p)))) = false) (h : ((K.dc V p k).2 != 0) = true) : K.floop V p (7 - k) k = ((K.dc V p k).1, 7, 0) := by rw [K.fl_d h1]; unfold K.fd; rw [h, cond_true]
theorem K.fl_g (h1 : (decide (((k : Nat) : Int) < (K.size (K.b0 V p)))) = false) (h : ((K.dc V p k).2 != 0) = false) : K.floop V p (7 - k) k = ((K.dc V p k).1, 0, 0) := by rw [K.fl_d h1]; unfold K.fd; rw [h, cond_false]
end
theorem Fetch_rd {m : Nat} {xs : List Value} (V : M.V) (p : Int) (hp : 0 ≤ p ∧ p < 4294967296) : A.Rd Tryz.prog 52 #[.int .u32 p, .func (.method "Fetch") #[.iface 35 (.pointer (some ⟨m, 0, none⟩))] #[]] [M.It m V xs] (.tuple #[.agg #[.int .i64 (((K.fetch V p).1).op), .int .i64 (((K.fetch V p).1).d), .int .i64 (((K.fetch V p).1).s), .int .i64 (((K.fetch V p).1).ix), .int .i64 (((K.fetch V p).1).sc), .int .u32 (((K.fetch V p).1).imm), .int .i64 (((K.fetch V p).1).sz)], .agg #[.int .i64 ((K.fetch V p).2.1), .int .u32 ((K.fetch V p).2.2)]]) := by
 intro w oo aa hh
 refine E.enter (n := 68) (S := fun _ => False) Tryz.func52 rfl rfl (by kernel_rfl) (A.startY hh) (E.sr (E.nw [E.i 0, E.i 0, E.i 0, E.i 0, E.i 0, E.u 0, E.i 0] 66 (fun g1 => E.nw [E.i 0, E.u 0] 47 (fun g2 => E.tr (E.op (.func (.method "Fetch") #[.iface 35 (E.pt m)] #[]) (E.op (E.u p) (E.ca (.tuple #[.int .u8 (K.b0 V p), .bool (K.o0 V p)]) (fun w h => A.Y.rd [] (I_Fetch p hp (m := m) (V := V) (xs := xs)) h.x (A.pn [0])) (E.op (.tuple #[.int .u8 (K.b0 V p), .bool (K.o0 V p)]) (E.op (.int .u8 (K.b0 V p)) (E.op (.bool (K.o0 V p)) (E.op (.int .u8 (K.b0 V p)) ?_)))))))))))
 refine E.op (.bool (K.o0 V p)) (E.To.code (E.C.seq (E.sr (E.op (.bool (K.o0 V p)) (E.op (.bool (!(K.o0 V p))) (E.To.code (E.cd (!(K.o0 V p)) (fun hc3 => ?_) (fun hc3 => ?_))))))))
 ·
  refine E.sr (E.vl (.agg #[E.i 0, E.i 0, E.i 0, E.i 0, E.i 0, E.u 0, E.i 0]) (fun w h => E.run_build #[E.i 0, E.i 0, E.i 0, E.i 0, E.i 0, E.u 0, E.i 0] (by kernel_rfl) w) (E.op (E.u p) (E.vl (.agg #[E.i 5, E.u p]) (fun w h => E.run_build #[E.i 5, E.u p] (by kernel_rfl) w) (E.st 1 [E.i 0, E.i 0, E.i 0, E.i 0, E.i 0, E.u 0, E.i 0] rfl rfl (E.st 0 [E.i 5, E.u p] rfl rfl (E.To.code (E.wk [(0, E.u p), (1, .func (.method "Fetch") #[.iface 35 (E.pt m)] #[]), (4, E.pt g1), (5, E.pt g2), (6, .int .u8 (K.b0 V p)), (7, .bool (K.o0 V p))] [(g2, [E.i 5, E.u p]), (g1, [E.i 0, E.i 0, E.i 0, E.i 0, E.i 0, E.u 0, E.i 0])] Nz.sub (E.C.ret (E.P.rt (E.To.body (fn := Tryz.f52) [.agg #[E.i 0, E.i 0, E.i 0, E.i 0, E.i 0, E.u 0, E.i 0], .agg #[E.i 5, E.u p]] ?_ ?_))))))))))
  · exact ⟨⟨by kernel_rfl, _, _, 1, _, rfl, rfl, by kernel_rfl⟩, ⟨by kernel_rfl, _, _, 0, _, rfl, rfl, by kernel_rfl⟩, trivial⟩
  intro w h
  exact ⟨by unfold K.fetch; rw [hc3, cond_true] <;> rfl, h.ch.bel (fun _ h => h.elim)⟩
 refine E.C.skip (E.To.code (E.wk [(0, E.u p), (1, .func (.method "Fetch") #[.iface 35 (E.pt m)] #[]), (4, E.pt g1), (5, E.pt g2), (6, .int .u8 (K.b0 V p)), (7, .bool (K.o0 V p))] [(g2, [E.i 0, E.u 0]), (g1, [E.i 0, E.i 0, E.i 0, E.i 0, E.i 0, E.u 0, E.i 0])] Nz.sub (E.sr (E.op (.int .u8 (K.b0 V p)) (E.ca (E.i (K.size (K.b0 V p))) (fun w h => Size_any (K.b0 V p) w) (E.op (E.i (K.size (K.b0 V p))) (E.To.code (E.C.seq (E.sr (E.op (E.i (K.size (K.b0 V p))) (E.op (.bool ((K.size (K.b0 V p)) == 0)) (E.To.code ?_))))))))))))
 refine E.cd ((K.size (K.b0 V p)) == 0) (fun hc4 => ?_) (fun hc4 => ?_)
 ·
  refine E.sr (E.vl (.agg #[E.i 0, E.i 0, E.i 0, E.i 0, E.i 0, E.u 0, E.i 0]) (fun w h => E.run_build #[E.i 0, E.i 0, E.i 0, E.i 0, E.i 0, E.u 0, E.i 0] (by kernel_rfl) w) (E.vl (.agg #[E.i 7, E.u 0]) (fun w h => E.run_build #[E.i 7, E.u 0] (by kernel_rfl) w) (E.st 1 [E.i 0, E.i 0, E.i 0, E.i 0, E.i 0, E.u 0, E.i 0] rfl rfl (E.st 0 [E.i 7, E.u 0] rfl rfl (E.To.code (E.C.ret (E.P.rt (E.To.body (fn := Tryz.f52) [.agg #[E.i 0, E.i 0, E.i 0, E.i 0, E.i 0, E.u 0, E.i 0], .agg #[E.i 7, E.u 0]] ?_ ?_))))))))
  · exact ⟨⟨by kernel_rfl, _, _, 1, _, rfl, rfl, by kernel_rfl⟩, ⟨by kernel_rfl, _, _, 0, _, rfl, rfl, by kernel_rfl⟩, trivial⟩
  intro w h
  exact ⟨by unfold K.fetch; rw [hc3, hc4, cond_false, cond_true] <;> rfl, h.ch.bel (fun _ h => h.elim)⟩
 refine E.C.skip (E.To.code (E.sr (E.op (.int .u8 (K.b0 V p)) (E.G.buildSlice [.int .u8 (K.b0 V p)] (by kernel_rfl) (by kernel_rfl) (fun g5 => E.op (.slice (some ⟨g5, 0, none⟩) 1 1) (E.To.code (E.C.seq (E.C.block (E.C.loop (I := Nat × Nat × Nat × List Value) (fun i => 7 - i.1) (fun i => 1 ≤ i.1 ∧ i.1 ≤ 7 ∧ i.1 ≤ i.2.2.1 ∧ i.2.2.2.length = (i.2.2.1 - i.1) * 1 ∧ K.fetch V p = K.floop V p (7 - i.1) i.1) (fun i => [(0, .int .u32 p), (1, .func (.method "Fetch") #[.iface 35 (.pointer (some ⟨m, 0, none⟩))] #[]), (4, .pointer (some ⟨g1, 0, none⟩)), (5, .pointer (some ⟨g2, 0, none⟩)), (8, .int .i64 (K.size (K.b0 V p))), (9, .slice (some ⟨i.2.1, 0, none⟩) i.1 i.2.2.1)]) (fun i => A.Y [M.It m V xs]) (fun i => [(i.2.1, (K.bv V p i.1 ++ i.2.2.2)), (g2, [.int .i64 0, .int .u32 0]), (g1, [.int .i64 0, .int .i64 0, .int .i64 0, .int .i64 0, .int .i64 0, .int .u32 0, .int .i64 0])]) (1, g5, 1, []) (⟨Nat.le_refl _, by show 1 ≤ 7; decide, Nat.le_refl _, rfl, K.fetch_loop hc3 hc4⟩) ⟨by kernel_rfl, by kernel_rfl⟩ Nz.sub (fun _ h => h) (fun i hk1 => E.C.seq (E.sr (E.op (.slice (some ⟨i.2.1, 0, none⟩) i.1 i.2.2.1) ?_))))))))))))
 refine E.op (E.i ((i.1 : Nat) : Int)) (E.op (E.i (K.size (K.b0 V p))) (E.op (.bool (decide (((i.1 : Nat) : Int) < (K.size (K.b0 V p))))) (E.To.code (E.cd (decide (((i.1 : Nat) : Int) < (K.size (K.b0 V p)))) (fun hc6 => ?_) (fun hc6 => ?_)))))
 ·
  refine E.C.skip (E.To.code (E.C.block (E.sr (E.op (E.u p) (E.op (.slice (some ⟨i.2.1, 0, none⟩) i.1 i.2.2.1) (E.op (E.i ((i.1 : Nat) : Int)) (E.vl (E.u ((i.1 : Nat) : Int)) (fun w h => E.run_as (a := E.u (IntKind.wrap .u32 ((i.1 : Nat) : Int))) (by kernel_rfl) (congrArg (Value.int .u32) (K.wk7 hk1.2.1))) (E.op (E.u (IntKind.wrap .u32 (p + ((i.1 : Nat) : Int)))) (E.op (E.u (IntKind.wrap .u32 (p + ((i.1 : Nat) : Int)))) (E.tr (E.op (.func (.method "Fetch") #[.iface 35 (E.pt m)] #[]) (E.op (E.u (IntKind.wrap .u32 (p + ((i.1 : Nat) : Int)))) ?_))))))))))))
  refine E.ca (.tuple #[.int .u8 (K.b V p ((i.1 : Nat) : Int)), .bool (K.o V p ((i.1 : Nat) : Int))]) (fun w h => A.Y.rd [] (I_Fetch (IntKind.wrap .u32 (p + ((i.1 : Nat) : Int))) (Q.wrap_bd _) (m := m) (V := V) (xs := xs)) h.x (A.pn [0])) (E.op (.tuple #[.int .u8 (K.b V p ((i.1 : Nat) : Int)), .bool (K.o V p ((i.1 : Nat) : Int))]) (E.op (.int .u8 (K.b V p ((i.1 : Nat) : Int))) (E.op (.bool (K.o V p ((i.1 : Nat) : Int))) (E.op (.int .u8 (K.b V p ((i.1 : Nat) : Int))) (E.op (.bool (K.o V p ((i.1 : Nat) : Int))) (E.To.code (E.C.seq (E.sr (E.op (.bool (K.o V p ((i.1 : Nat) : Int))) (E.op (.bool (!(K.o V p ((i.1 : Nat) : Int)))) (E.To.code ?_)))))))))))
  refine E.cd (!(K.o V p ((i.1 : Nat) : Int))) (fun hc7 => ?_) (fun hc7 => ?_)
  ·
   refine E.sr (E.vl (.agg #[E.i 0, E.i 0, E.i 0, E.i 0, E.i 0, E.u 0, E.i 0]) (fun w h => E.run_build #[E.i 0, E.i 0, E.i 0, E.i 0, E.i 0, E.u 0, E.i 0] (by kernel_rfl) w) (E.op (E.u (IntKind.wrap .u32 (p + ((i.1 : Nat) : Int)))) (E.vl (.agg #[E.i 5, E.u (IntKind.wrap .u32 (p + ((i.1 : Nat) : Int)))]) (fun w h => E.run_build #[E.i 5, E.u (IntKind.wrap .u32 (p + ((i.1 : Nat) : Int)))] (by kernel_rfl) w) (E.st 2 [E.i 0, E.i 0, E.i 0, E.i 0, E.i 0, E.u 0, E.i 0] rfl rfl (E.st 1 [E.i 5, E.u (IntKind.wrap .u32 (p + ((i.1 : Nat) : Int)))] rfl rfl (E.To.code (E.C.ret (E.P.rt (E.P.rb (E.P.rt (E.P.rb (E.P.rt (E.To.body (fn := Tryz.f52) [.agg #[E.i 0, E.i 0, E.i 0, E.i 0, E.i 0, E.u 0, E.i 0], .agg #[E.i 5, E.u (IntKind.wrap .u32 (p + ((i.1 : Nat) : Int)))]] ?_ ?_)))))))))))))
   · exact ⟨⟨by kernel_rfl, _, _, 2, _, rfl, rfl, by kernel_rfl⟩, ⟨by kernel_rfl, _, _, 1, _, rfl, rfl, by kernel_rfl⟩, trivial⟩
   intro w h
   exact ⟨by rw [hk1.2.2.2.2, K.fl_f hc6 hc7] <;> rfl, h.ch.bel (fun _ h => h.elim)⟩
  exact E.C.skip (E.To.code (E.C.region (E.op (.slice (some ⟨i.2.1, 0, none⟩) i.1 i.2.2.1) (E.op (.int .u8 (K.b V p ((i.1 : Nat) : Int))) (E.G.buildSlice [.int .u8 (K.b V p ((i.1 : Nat) : Int))] (by kernel_rfl) (by kernel_rfl) (fun g8 => E.G.append (e := 5) 1 i.2.1 i.1 i.2.2.1 0 g8 0 1 1 1 1 (K.bv V p i.1) i.2.2.2 [.int .u8 (K.b V p ((i.1 : Nat) : Int))] _ (by kernel_rfl) (by kernel_rfl) (by kernel_rfl) rfl (K.bv_len V p hk1.2.1) hk1.2.2.2.1 hk1.2.2.1 (by kernel_rfl) rfl (by kernel_rfl) rfl (by rfl) (by omega) (by omega) (by omega) (by kernel_rfl) (fun g9 c10 r11 hc12 hr13 => E.G.relist [(g9, (K.bv V p (i.1 + 1) ++ r11)), (g8, [.int .u8 (K.b V p ((i.1 : Nat) : Int))]), (g2, [E.i 0, E.u 0]), (g1, [E.i 0, E.i 0, E.i 0, E.i 0, E.i 0, E.u 0, E.i 0])] (by rw [← K.bv_s V p hk1.1 (K.lt7 hc6)] <;> rfl) (E.op (.slice (some ⟨g9, 0, none⟩) (i.1 + 1) c10) (E.P.nb (E.To.round (i.1 + 1, g9, c10, r11) (by show 7 - (i.1 + 1) < 7 - i.1; have := K.lt7 hc6; omega) (⟨by omega, by have := K.lt7 hc6; omega, hc12, hr13, hk1.2.2.2.2.trans (K.fl_t hc6 hc7)⟩) ⟨by kernel_rfl, by kernel_rfl⟩ Nz.sub (fun _ h => h)))))))))))
 refine E.C.exit (E.P.et (E.P.et (E.P.eh (E.To.code (E.sr (E.op (.slice (some ⟨i.2.1, 0, none⟩) i.1 i.2.2.1) (E.vl (.string (strOfNums (K.bl V p i.1))) (fun w h => E.b2s h 0 i.2.1 0 i.1 i.2.2.1 (K.bl V p i.1) (e := 5) (by kernel_rfl) (by kernel_rfl) (by kernel_rfl) (by kernel_rfl) rfl (K.bv_take V p hk1.2.1 _) (K.bl_len V p hk1.2.1)) (E.ca (.tuple #[.agg #[E.i (((K.dc V p i.1).1).op), E.i (((K.dc V p i.1).1).d), E.i (((K.dc V p i.1).1).s), E.i (((K.dc V p i.1).1).ix), E.i (((K.dc V p i.1).1).sc), E.u (((K.dc V p i.1).1).imm), E.i (((K.dc V p i.1).1).sz)], E.i ((K.dc V p i.1).2)]) (fun w h => Decode_any (strOfNums (K.bl V p i.1)) (K.bl_max V p hk1.2.1) w) (E.op (.tuple #[.agg #[E.i (((K.dc V p i.1).1).op), E.i (((K.dc V p i.1).1).d), E.i (((K.dc V p i.1).1).s), E.i (((K.dc V p i.1).1).ix), E.i (((K.dc V p i.1).1).sc), E.u (((K.dc V p i.1).1).imm), E.i (((K.dc V p i.1).1).sz)], E.i ((K.dc V p i.1).2)]) (E.op (.agg #[E.i (((K.dc V p i.1).1).op), E.i (((K.dc V p i.1).1).d), E.i (((K.dc V p i.1).1).s), E.i (((K.dc V p i.1).1).ix), E.i (((K.dc V p i.1).1).sc), E.u (((K.dc V p i.1).1).imm), E.i (((K.dc V p i.1).1).sz)]) (E.op (E.i ((K.dc V p i.1).2)) (E.nw [E.i 0, E.i 0, E.i 0, E.i 0, E.i 0, E.u 0, E.i 0] 66 (fun g14 => E.st 0 [E.i (((K.dc V p i.1).1).op), E.i (((K.dc V p i.1).1).d), E.i (((K.dc V p i.1).1).s), E.i (((K.dc V p i.1).1).ix), E.i (((K.dc V p i.1).1).sc), E.u (((K.dc V p i.1).1).imm), E.i (((K.dc V p i.1).1).sz)] rfl rfl (E.op (E.i ((K.dc V p i.1).2)) (E.To.code ?_)))))))))))))))
 refine E.wk [(4, E.pt g1), (5, E.pt g2), (11, E.pt g14), (12, E.i ((K.dc V p i.1).2))] [(g14, [E.i (((K.dc V p i.1).1).op), E.i (((K.dc V p i.1).1).d), E.i (((K.dc V p i.1).1).s), E.i (((K.dc V p i.1).1).ix), E.i (((K.dc V p i.1).1).sc), E.u (((K.dc V p i.1).1).imm), E.i (((K.dc V p i.1).1).sz)]), (g2, [E.i 0, E.u 0]), (g1, [E.i 0, E.i 0, E.i 0, E.i 0, E.i 0, E.u 0, E.i 0])] Nz.sub (E.C.seq (E.sr (E.op (E.i ((K.dc V p i.1).2)) (E.op (.bool (((K.dc V p i.1).2) != 0)) (E.To.code (E.cd (((K.dc V p i.1).2) != 0) (fun hc15 => ?_) (fun hc15 => ?_)))))))
 ·
  refine E.sr (E.li (.agg #[E.i (((K.dc V p i.1).1).op), E.i (((K.dc V p i.1).1).d), E.i (((K.dc V p i.1).1).s), E.i (((K.dc V p i.1).1).ix), E.i (((K.dc V p i.1).1).sc), E.u (((K.dc V p i.1).1).imm), E.i (((K.dc V p i.1).1).sz)]) 0 rfl rfl (E.vl (.agg #[E.i 7, E.u 0]) (fun w h => E.run_build #[E.i 7, E.u 0] (by kernel_rfl) w) (E.st 2 [E.i (((K.dc V p i.1).1).op), E.i (((K.dc V p i.1).1).d), E.i (((K.dc V p i.1).1).s), E.i (((K.dc V p i.1).1).ix), E.i (((K.dc V p i.1).1).sc), E.u (((K.dc V p i.1).1).imm), E.i (((K.dc V p i.1).1).sz)] rfl rfl (E.st 1 [E.i 7, E.u 0] rfl rfl (E.To.code (E.C.ret (E.P.rt (E.To.body (fn := Tryz.f52) [.agg #[E.i (((K.dc V p i.1).1).op), E.i (((K.dc V p i.1).1).d), E.i (((K.dc V p i.1).1).s), E.i (((K.dc V p i.1).1).ix), E.i (((K.dc V p i.1).1).sc), E.u (((K.dc V p i.1).1).imm), E.i (((K.dc V p i.1).1).sz)], .agg #[E.i 7, E.u 0]] ?_ ?_))))))))
  · exact ⟨⟨by kernel_rfl, _, _, 2, _, rfl, rfl, by kernel_rfl⟩, ⟨by kernel_rfl, _, _, 1, _, rfl, rfl, by kernel_rfl⟩, trivial⟩
  intro w h
  exact ⟨by rw [hk1.2.2.2.2, K.fl_e hc6 hc15] <;> rfl, h.ch.bel (fun _ h => h.elim)⟩
 refine E.C.skip (E.To.code (E.sr (E.li (.agg #[E.i (((K.dc V p i.1).1).op), E.i (((K.dc V p i.1).1).d), E.i (((K.dc V p i.1).1).s), E.i (((K.dc V p i.1).1).ix), E.i (((K.dc V p i.1).1).sc), E.u (((K.dc V p i.1).1).imm), E.i (((K.dc V p i.1).1).sz)]) 0 rfl rfl (E.vl (.agg #[E.i 0, E.u 0]) (fun w h => E.run_build #[E.i 0, E.u 0] (by kernel_rfl) w) (E.st 2 [E.i (((K.dc V p i.1).1).op), E.i (((K.dc V p i.1).1).d), E.i (((K.dc V p i.1).1).s), E.i (((K.dc V p i.1).1).ix), E.i (((K.dc V p i.1).1).sc), E.u (((K.dc V p i.1).1).imm), E.i (((K.dc V p i.1).1).sz)] rfl rfl (E.st 1 [E.i 0, E.u 0] rfl rfl (E.To.code (E.C.ret (E.To.body (fn := Tryz.f52) [.agg #[E.i (((K.dc V p i.1).1).op), E.i (((K.dc V p i.1).1).d), E.i (((K.dc V p i.1).1).s), E.i (((K.dc V p i.1).1).ix), E.i (((K.dc V p i.1).1).sc), E.u (((K.dc V p i.1).1).imm), E.i (((K.dc V p i.1).1).sz)], .agg #[E.i 0, E.u 0]] ?_ ?_)))))))))
 · exact ⟨⟨by kernel_rfl, _, _, 2, _, rfl, rfl, by kernel_rfl⟩, ⟨by kernel_rfl, _, _, 1, _, rfl, rfl, by kernel_rfl⟩, trivial⟩
 intro w h
 exact ⟨by rw [hk1.2.2.2.2, K.fl_g hc6 hc15] <;> rfl, h.ch.bel (fun _ h => h.elim)⟩
theorem wnames_any (w : World) : Calls Tryz.prog 91 #[] w fun e w' => e = .returned (.agg #[.string ⟨#[101, 113]⟩, .string ⟨#[110, 101]⟩, .string ⟨#[99, 115]⟩, .string ⟨#[99, 99]⟩, .string ⟨#[109, 105]⟩, .string ⟨#[112, 108]⟩, .string ⟨#[118, 115]⟩, .string ⟨#[118, 99]⟩, .string ⟨#[104, 105]⟩, .string ⟨#[108, 115]⟩, .string ⟨#[103, 101]⟩, .string ⟨#[108, 116]⟩, .string ⟨#[103, 116]⟩, .string ⟨#[108, 101]⟩]) ∧ Bel w w' := by
  go_enter Tryz.func91, Tryz.ntmps91
  go_wp2
  exact bodyPost_ret (v := .agg #[.string ⟨#[101, 113]⟩, .string ⟨#[110, 101]⟩, .string ⟨#[99, 115]⟩, .string ⟨#[99, 99]⟩, .string ⟨#[109, 105]⟩, .string ⟨#[112, 108]⟩, .string ⟨#[118, 115]⟩, .string ⟨#[118, 99]⟩, .string ⟨#[104, 105]⟩, .string ⟨#[108, 115]⟩, .string ⟨#[103, 101]⟩, .string ⟨#[108, 116]⟩, .string ⟨#[103, 116]⟩, .string ⟨#[108, 101]⟩]) (by simp [results, Tryz.results91, go_sem]) rfl ⟨rfl, Nz.bel⟩
theorem Cond_0 (f : Int) (w : World) : Calls Tryz.prog 56 #[.int .i64 0, .int .u32 f] w fun e w' => e = .returned (.bool (W.cond 0 f)) ∧ Bel w w' := by
  have hn : (bits .and .u32 f 8 != 0) = W.fN f := rfl
  have hz : (bits .and .u32 f 4 != 0) = W.fZ f := rfl
  have hc : (bits .and .u32 f 2 != 0) = W.fC f := rfl
  have hv : (bits .and .u32 f 1 != 0) = W.fV f := rfl
  go_enter Tryz.func56, Tryz.ntmps56
  go_wp2_with (go_at_call 91; refine (wnames_any _).mono ?_; rintro e w' ⟨rfl, hb⟩)
  all_goals
    go_ret
    exact ⟨ret_bool (by simp_all [W.cond, W.condB] <;> cases W.fN f <;> cases W.fV f <;> rfl), Nz.bel⟩
theorem Cond_1 (f : Int) (w : World) : Calls Tryz.prog 56 #[.int .i64 1, .int .u32 f] w fun e w' => e = .returned (.bool (W.cond 1 f)) ∧ Bel w w' := by
  have hn : (bits .and .u32 f 8 != 0) = W.fN f := rfl
  have hz : (bits .and .u32 f 4 != 0) = W.fZ f := rfl
  have hc : (bits .and .u32 f 2 != 0) = W.fC f := rfl
  have hv : (bits .and .u32 f 1 != 0) = W.fV f := rfl
  go_enter Tryz.func56, Tryz.ntmps56
  go_wp2_with (go_at_call 91; refine (wnames_any _).mono ?_; rintro e w' ⟨rfl, hb⟩)
  all_goals
    go_ret
    exact ⟨ret_bool (by simp_all [W.cond, W.condB] <;> cases W.fN f <;> cases W.fV f <;> rfl), Nz.bel⟩
theorem Cond_2 (f : Int) (w : World) : Calls Tryz.prog 56 #[.int .i64 2, .int .u32 f] w fun e w' => e = .returned (.bool (W.cond 2 f)) ∧ Bel w w' := by
  have hn : (bits .and .u32 f 8 != 0) = W.fN f := rfl
  have hz : (bits .and .u32 f 4 != 0) = W.fZ f := rfl
  have hc : (bits .and .u32 f 2 != 0) = W.fC f := rfl
  have hv : (bits .and .u32 f 1 != 0) = W.fV f := rfl
  go_enter Tryz.func56, Tryz.ntmps56
  go_wp2_with (go_at_call 91; refine (wnames_any _).mono ?_; rintro e w' ⟨rfl, hb⟩)
  all_goals
    go_ret
    exact ⟨ret_bool (by simp_all [W.cond, W.condB] <;> cases W.fN f <;> cases W.fV f <;> rfl), Nz.bel⟩
theorem Cond_3 (f : Int) (w : World) : Calls Tryz.prog 56 #[.int .i64 3, .int .u32 f] w fun e w' => e = .returned (.bool (W.cond 3 f)) ∧ Bel w w' := by
  have hn : (bits .and .u32 f 8 != 0) = W.fN f := rfl
  have hz : (bits .and .u32 f 4 != 0) = W.fZ f := rfl
  have hc : (bits .and .u32 f 2 != 0) = W.fC f := rfl
  have hv : (bits .and .u32 f 1 != 0) = W.fV f := rfl
  go_enter Tryz.func56, Tryz.ntmps56
  go_wp2_with (go_at_call 91; refine (wnames_any _).mono ?_; rintro e w' ⟨rfl, hb⟩)
  all_goals
    go_ret
    exact ⟨ret_bool (by simp_all [W.cond, W.condB] <;> cases W.fN f <;> cases W.fV f <;> rfl), Nz.bel⟩
theorem Cond_4 (f : Int) (w : World) : Calls Tryz.prog 56 #[.int .i64 4, .int .u32 f] w fun e w' => e = .returned (.bool (W.cond 4 f)) ∧ Bel w w' := by
  have hn : (bits .and .u32 f 8 != 0) = W.fN f := rfl
  have hz : (bits .and .u32 f 4 != 0) = W.fZ f := rfl
  have hc : (bits .and .u32 f 2 != 0) = W.fC f := rfl
  have hv : (bits .and .u32 f 1 != 0) = W.fV f := rfl
  go_enter Tryz.func56, Tryz.ntmps56
  go_wp2_with (go_at_call 91; refine (wnames_any _).mono ?_; rintro e w' ⟨rfl, hb⟩)
  all_goals
    go_ret
    exact ⟨ret_bool (by simp_all [W.cond, W.condB] <;> cases W.fN f <;> cases W.fV f <;> rfl), Nz.bel⟩
theorem Cond_5 (f : Int) (w : World) : Calls Tryz.prog 56 #[.int .i64 5, .int .u32 f] w fun e w' => e = .returned (.bool (W.cond 5 f)) ∧ Bel w w' := by
  have hn : (bits .and .u32 f 8 != 0) = W.fN f := rfl
  have hz : (bits .and .u32 f 4 != 0) = W.fZ f := rfl
  have hc : (bits .and .u32 f 2 != 0) = W.fC f := rfl
  have hv : (bits .and .u32 f 1 != 0) = W.fV f := rfl
  go_enter Tryz.func56, Tryz.ntmps56
  go_wp2_with (go_at_call 91; refine (wnames_any _).mono ?_; rintro e w' ⟨rfl, hb⟩)
  all_goals
    go_ret
    exact ⟨ret_bool (by simp_all [W.cond, W.condB] <;> cases W.fN f <;> cases W.fV f <;> rfl), Nz.bel⟩
theorem Cond_6 (f : Int) (w : World) : Calls Tryz.prog 56 #[.int .i64 6, .int .u32 f] w fun e w' => e = .returned (.bool (W.cond 6 f)) ∧ Bel w w' := by
  have hn : (bits .and .u32 f 8 != 0) = W.fN f := rfl
  have hz : (bits .and .u32 f 4 != 0) = W.fZ f := rfl
  have hc : (bits .and .u32 f 2 != 0) = W.fC f := rfl
  have hv : (bits .and .u32 f 1 != 0) = W.fV f := rfl
  go_enter Tryz.func56, Tryz.ntmps56
  go_wp2_with (go_at_call 91; refine (wnames_any _).mono ?_; rintro e w' ⟨rfl, hb⟩)
  all_goals
    go_ret
    exact ⟨ret_bool (by simp_all [W.cond, W.condB] <;> cases W.fN f <;> cases W.fV f <;> rfl), Nz.bel⟩
theorem Cond_7 (f : Int) (w : World) : Calls Tryz.prog 56 #[.int .i64 7, .int .u32 f] w fun e w' => e = .returned (.bool (W.cond 7 f)) ∧ Bel w w' := by
  have hn : (bits .and .u32 f 8 != 0) = W.fN f := rfl
  have hz : (bits .and .u32 f 4 != 0) = W.fZ f := rfl
  have hc : (bits .and .u32 f 2 != 0) = W.fC f := rfl
  have hv : (bits .and .u32 f 1 != 0) = W.fV f := rfl
  go_enter Tryz.func56, Tryz.ntmps56
  go_wp2_with (go_at_call 91; refine (wnames_any _).mono ?_; rintro e w' ⟨rfl, hb⟩)
  all_goals
    go_ret
    exact ⟨ret_bool (by simp_all [W.cond, W.condB] <;> cases W.fN f <;> cases W.fV f <;> rfl), Nz.bel⟩
theorem Cond_8 (f : Int) (w : World) : Calls Tryz.prog 56 #[.int .i64 8, .int .u32 f] w fun e w' => e = .returned (.bool (W.cond 8 f)) ∧ Bel w w' := by
  have hn : (bits .and .u32 f 8 != 0) = W.fN f := rfl
  have hz : (bits .and .u32 f 4 != 0) = W.fZ f := rfl
  have hc : (bits .and .u32 f 2 != 0) = W.fC f := rfl
  have hv : (bits .and .u32 f 1 != 0) = W.fV f := rfl
  go_enter Tryz.func56, Tryz.ntmps56
  go_wp2_with (go_at_call 91; refine (wnames_any _).mono ?_; rintro e w' ⟨rfl, hb⟩)
  all_goals
    go_ret
    exact ⟨ret_bool (by simp_all [W.cond, W.condB] <;> cases W.fN f <;> cases W.fV f <;> rfl), Nz.bel⟩
theorem Cond_9 (f : Int) (w : World) : Calls Tryz.prog 56 #[.int .i64 9, .int .u32 f] w fun e w' => e = .returned (.bool (W.cond 9 f)) ∧ Bel w w' := by
  have hn : (bits .and .u32 f 8 != 0) = W.fN f := rfl
  have hz : (bits .and .u32 f 4 != 0) = W.fZ f := rfl
  have hc : (bits .and .u32 f 2 != 0) = W.fC f := rfl
  have hv : (bits .and .u32 f 1 != 0) = W.fV f := rfl
  go_enter Tryz.func56, Tryz.ntmps56
  go_wp2_with (go_at_call 91; refine (wnames_any _).mono ?_; rintro e w' ⟨rfl, hb⟩)
  all_goals
    go_ret
    exact ⟨ret_bool (by simp_all [W.cond, W.condB] <;> cases W.fN f <;> cases W.fV f <;> rfl), Nz.bel⟩
theorem Cond_10 (f : Int) (w : World) : Calls Tryz.prog 56 #[.int .i64 10, .int .u32 f] w fun e w' => e = .returned (.bool (W.cond 10 f)) ∧ Bel w w' := by
  have hn : (bits .and .u32 f 8 != 0) = W.fN f := rfl
  have hz : (bits .and .u32 f 4 != 0) = W.fZ f := rfl
  have hc : (bits .and .u32 f 2 != 0) = W.fC f := rfl
  have hv : (bits .and .u32 f 1 != 0) = W.fV f := rfl
  go_enter Tryz.func56, Tryz.ntmps56
  go_wp2_with (go_at_call 91; refine (wnames_any _).mono ?_; rintro e w' ⟨rfl, hb⟩)
  all_goals
    go_ret
    exact ⟨ret_bool (by simp_all [W.cond, W.condB] <;> cases W.fN f <;> cases W.fV f <;> rfl), Nz.bel⟩
theorem Cond_11 (f : Int) (w : World) : Calls Tryz.prog 56 #[.int .i64 11, .int .u32 f] w fun e w' => e = .returned (.bool (W.cond 11 f)) ∧ Bel w w' := by
  have hn : (bits .and .u32 f 8 != 0) = W.fN f := rfl
  have hz : (bits .and .u32 f 4 != 0) = W.fZ f := rfl
  have hc : (bits .and .u32 f 2 != 0) = W.fC f := rfl
  have hv : (bits .and .u32 f 1 != 0) = W.fV f := rfl
  go_enter Tryz.func56, Tryz.ntmps56
  go_wp2_with (go_at_call 91; refine (wnames_any _).mono ?_; rintro e w' ⟨rfl, hb⟩)
  all_goals
    go_ret
    exact ⟨ret_bool (by simp_all [W.cond, W.condB] <;> cases W.fN f <;> cases W.fV f <;> rfl), Nz.bel⟩
theorem Cond_12 (f : Int) (w : World) : Calls Tryz.prog 56 #[.int .i64 12, .int .u32 f] w fun e w' => e = .returned (.bool (W.cond 12 f)) ∧ Bel w w' := by
  have hn : (bits .and .u32 f 8 != 0) = W.fN f := rfl
  have hz : (bits .and .u32 f 4 != 0) = W.fZ f := rfl
  have hc : (bits .and .u32 f 2 != 0) = W.fC f := rfl
  have hv : (bits .and .u32 f 1 != 0) = W.fV f := rfl
  go_enter Tryz.func56, Tryz.ntmps56
  go_wp2_with (go_at_call 91; refine (wnames_any _).mono ?_; rintro e w' ⟨rfl, hb⟩)
  all_goals
    go_ret
    exact ⟨ret_bool (by simp_all [W.cond, W.condB] <;> cases W.fN f <;> cases W.fV f <;> rfl), Nz.bel⟩
theorem Cond_13 (f : Int) (w : World) : Calls Tryz.prog 56 #[.int .i64 13, .int .u32 f] w fun e w' => e = .returned (.bool (W.cond 13 f)) ∧ Bel w w' := by
  have hn : (bits .and .u32 f 8 != 0) = W.fN f := rfl
  have hz : (bits .and .u32 f 4 != 0) = W.fZ f := rfl
  have hc : (bits .and .u32 f 2 != 0) = W.fC f := rfl
  have hv : (bits .and .u32 f 1 != 0) = W.fV f := rfl
  go_enter Tryz.func56, Tryz.ntmps56
  go_wp2_with (go_at_call 91; refine (wnames_any _).mono ?_; rintro e w' ⟨rfl, hb⟩)
  all_goals
    go_ret
    exact ⟨ret_bool (by simp_all [W.cond, W.condB] <;> cases W.fN f <;> cases W.fV f <;> rfl), Nz.bel⟩
theorem Cond_n (cc f : Int) (hk : cc < 0 ∨ 13 < cc) (w : World) : Calls Tryz.prog 56 #[.int .i64 cc, .int .u32 f] w fun e w' => e = .returned (.bool (W.cond cc f)) ∧ Bel w w' := by
  have HF := hid (W.cond_n cc f hk)
  rcases hk with h | h
  · have d : decide (cc < 0) = true := by simp; omega
    go_enter Tryz.func56, Tryz.ntmps56
    go_wp2_with fail
    go_ret
    exact ⟨ret_bool (by rw [HF.out]), Nz.bel⟩
  · have d : decide (cc < 0) = false := by simp; omega
    have d2 : decide (14 ≤ cc) = true := by simp; omega
    go_enter Tryz.func56, Tryz.ntmps56
    go_wp2_with (go_at_call 91; refine (wnames_any _).mono ?_; rintro e w' ⟨rfl, hb⟩)
    go_ret
    exact ⟨ret_bool (by rw [HF.out]), Nz.bel⟩
theorem Cond_any (cc f : Int) (w : World) : Calls Tryz.prog 56 #[.int .i64 cc, .int .u32 f] w fun e w' => e = .returned (.bool (W.cond cc f)) ∧ Bel w w' := by
  rcases (by omega : cc = 0 ∨ cc = 1 ∨ cc = 2 ∨ cc = 3 ∨ cc = 4 ∨ cc = 5 ∨ cc = 6 ∨ cc = 7 ∨ cc = 8 ∨ cc = 9 ∨ cc = 10 ∨ cc = 11 ∨ cc = 12 ∨ cc = 13 ∨ (cc < 0 ∨ 13 < cc)) with rfl | rfl | rfl | rfl | rfl | rfl | rfl | rfl | rfl | rfl | rfl | rfl | rfl | rfl | h
  · exact Cond_0 f w
  · exact Cond_1 f w
  · exact Cond_2 f w
  · exact Cond_3 f w
  · exact Cond_4 f w
  · exact Cond_5 f w
  · exact Cond_6 f w
  · exact Cond_7 f w
  · exact Cond_8 f w
  · exact Cond_9 f w
  · exact Cond_10 f w
  · exact Cond_11 f w
  · exact Cond_12 f w
  · exact Cond_13 f w
  · exact Cond_n cc f h w

end Go.Proofs.YtglidnmmeclneaaGreat
namespace Go.Proofs.YtglidnmmeclneaaGreat
set_option linter.unusedVariables false
set_option linter.unusedSimpArgs false
open Go.RowKit
/-- A row of marks. -/
def E.bits (n k : Nat) : Array Bool := ((List.range n).map (Nat.testBit k)).toArray
section
variable {P : Program} {n : Nat} {ops : Array Oper} {Q : Exit → Act → World → Prop} {S : Nat → Prop} {w0 : World} {X : World → Prop} {L : List (Nat × List Value)} {fr : E.Fr} {D : World → Prop} {fuel : Nat} {listed : Array Bool}
/-- Nodes of a region that draws its order. -/
theorem E.H.gen (h : ∀ (H : Nat → Array Bool → E.Fr → (World → Prop) → List (Nat × List Value) → Prop), (∀ f l fr X L, E.H P n ops Q D f l fr S w0 X L → H f l fr X L) → (∀ f l fr X L, H f l fr X L → E.H P n ops Q D f l fr S w0 X L) → H fuel listed fr X L) : E.H P n ops Q D fuel listed fr S w0 X L :=
  h (fun f l fr X L => E.H P n ops Q D f l fr S w0 X L) (fun _ _ _ _ _ h => h) (fun _ _ _ _ _ h => h)
theorem E.H.to (listed' : Array Bool) (fr' : E.Fr) (L' : List (Nat × List Value)) (he : listed = listed') (hs : E.sub fr' fr) (hl : L'.Sublist L) (k : E.H P n ops Q D fuel listed' fr' S w0 X L') : E.H P n ops Q D fuel listed fr S w0 X L :=
  he ▸ E.H.weak fr' L' hs hl k
theorem E.H.toP (listed' : Array Bool) (fr' : E.Fr) (L' : List (Nat × List Value)) (he : listed = listed') (hs : E.sub fr' fr) (hl : L.Perm L') (k : E.H P n ops Q D fuel listed' fr' S w0 X L') : E.H P n ops Q D fuel listed fr S w0 X L :=
  he ▸ fun a w h1 h2 => k a w (h1.sub hs) (h2.perm hl.symm)
end
theorem A.hpY0 {w0 w : World} {o0 a0 : Nat → Prop} {its : List A.It} {L : List (Nat × List Value)} (h : E.Hp o0 w0 (A.X w0 o0 a0 its) L w) (hne : A.ne L = true) : A.Y (A.bl L) w :=
  A.hpY (p := A.bl L) (r := its) h hne (List.Perm.refl _)
end Go.Proofs.YtglidnmmeclneaaGreat

/- Nodes: what is found by itself. -/
namespace Go.Proofs.YtglidnmmeclneaaGreat
section
variable {P : Program} {n : Nat} {ops : Array Oper} {Q : Exit → Act → World → Prop} {S : Nat → Prop} {w0 : World} {X : World → Prop} {L : List (Nat × List Value)} {fr : E.Fr} {D : World → Prop} {fuel : Nat} {listed : Array Bool}
theorem E.ho {listed' : Array Bool} {fr' : E.Fr} {L' : List (Nat × List Value)} (k : E.H P n ops Q D fuel listed' fr' S w0 X L') (he : listed = listed' := by kernel_rfl) (hs : E.sub fr' fr := by exact ⟨by kernel_rfl, by kernel_rfl⟩) (hl : L'.Sublist L := by exact Nz.sub) : E.H P n ops Q D fuel listed fr S w0 X L := E.H.to _ _ _ he hs hl k
theorem E.hb {listed' : Array Bool} {fr' : E.Fr} {L' : List (Nat × List Value)} (k : E.H P n ops Q D fuel listed' fr' S w0 X L') (he : listed = listed' := by kernel_rfl) (hs : E.sub fr' fr := by exact ⟨by kernel_rfl, by kernel_rfl⟩) (hl : L'.Sublist L := by exact Nz.sub) (hD : ∀ w, E.Hp S w0 X L w → D w := by exact (fun w h => A.hpY0 h (by kernel_rfl))) : E.G P n ops (Exit.then (fun a' w' => D w' ∧ wpAnyH P .any ops Q D fuel listed a' w') Q) [] fr S w0 X L := E.H.back hD (E.H.to _ _ _ he hs hl k)
end
end Go.Proofs.YtglidnmmeclneaaGreat
namespace Go.Proofs.YtglidnmmeclneaaGreat
set_option linter.unusedVariables false
set_option linter.unusedSimpArgs false
open Go.RowKit
/-- The step as it begins. -/
def K.w0 (s : Q.S) (i : K.Ins) : K.W := ⟨s, ⟨(IntKind.wrap .u32 (s.pc + (IntKind.wrap .u32 i.sz))), s.r, s.f, s.c, (IntKind.wrap .i64 (s.st + 1)), s.du⟩, i, 0, 0⟩
theorem K.w0_wf {s : Q.S} {i : K.Ins} (h : Q.wf s) : K.wf (K.w0 s i) := ⟨h, ⟨Q.wrap_bd _, h.r, h.c⟩⟩
theorem K.eq0 {k : Int} (h : (k != 0) = false) : (k == 0) = true := by rw [bne] at h; cases e : (k == 0) with
  | true => rfl
  | false => rw [e] at h; cases h
theorem K.rg0 {o : Int} (h : ((decide (o ≥ 32)) && (decide (o ≤ 46))) = true) : 32 ≤ o ∧ o ≤ 46 := by
  rw [Bool.and_eq_true, decide_eq_true_eq, decide_eq_true_eq] at h; exact h
theorem K.rng16 {o : Int} (h : ((decide (o ≥ 48)) && (decide (o ≤ 62))) = true) : 32 ≤ IntKind.wrap .i64 (o - 16) ∧ IntKind.wrap .i64 (o - 16) ≤ 46 := by
  rw [Bool.and_eq_true, decide_eq_true_eq, decide_eq_true_eq] at h
  rw [IntWalk.i64_in _ (by omega)]; omega
theorem K.rng32 {o : Int} (h : ((decide (o ≥ 64)) && (decide (o ≤ 78))) = true) : 32 ≤ IntKind.wrap .i64 (o - 32) ∧ IntKind.wrap .i64 (o - 32) ≤ 46 := by
  rw [Bool.and_eq_true, decide_eq_true_eq, decide_eq_true_eq] at h
  rw [IntWalk.i64_in _ (by omega)]; omega
theorem A.rdAs {P : Program} {f : FuncId} {args : Array Value} {p : List A.It} {v v' : Value} (h : A.Rd P f args p v) (e : v = v') : A.Rd P f args p v' := e ▸ h
def K.stepI (i : K.Ins) (k t : Int) (s : Q.S) (V : M.V) : Q.S × Int × Int × M.V := (bif (k != 0) then (s, k, t, V) else (bif ((decide (i.op ≥ 32)) && (decide (i.op ≤ 46))) then (bif (((K.arith (K.w0 s i) i.op (s.r ((i.s).toNat))).k) != 0) then (s, (K.arith (K.w0 s i) i.op (s.r ((i.s).toNat))).k, (K.arith (K.w0 s i) i.op (s.r ((i.s).toNat))).t, V) else (((K.arith (K.w0 s i) i.op (s.r ((i.s).toNat))).s), (K.arith (K.w0 s i) i.op (s.r ((i.s).toNat))).k, (K.arith (K.w0 s i) i.op (s.r ((i.s).toNat))).t, V)) else (bif ((decide (i.op ≥ 48)) && (decide (i.op ≤ 62))) then (bif (((K.arith (K.w0 s i) (IntKind.wrap .i64 (i.op - 16)) i.imm).k) != 0) then (s, (K.arith (K.w0 s i) (IntKind.wrap .i64 (i.op - 16)) i.imm).k, (K.arith (K.w0 s i) (IntKind.wrap .i64 (i.op - 16)) i.imm).t, V) else (((K.arith (K.w0 s i) (IntKind.wrap .i64 (i.op - 16)) i.imm).s), (K.arith (K.w0 s i) (IntKind.wrap .i64 (i.op - 16)) i.imm).k, (K.arith (K.w0 s i) (IntKind.wrap .i64 (i.op - 16)) i.imm).t, V)) else (bif ((decide (i.op ≥ 64)) && (decide (i.op ≤ 78))) then (bif (((K.arith (K.w0 s i) (IntKind.wrap .i64 (i.op - 32)) i.imm).k) != 0) then (s, (K.arith (K.w0 s i) (IntKind.wrap .i64 (i.op - 32)) i.imm).k, (K.arith (K.w0 s i) (IntKind.wrap .i64 (i.op - 32)) i.imm).t, V) else (((K.arith (K.w0 s i) (IntKind.wrap .i64 (i.op - 32)) i.imm).s), (K.arith (K.w0 s i) (IntKind.wrap .i64 (i.op - 32)) i.imm).k, (K.arith (K.w0 s i) (IntKind.wrap .i64 (i.op - 32)) i.imm).t, V)) else (bif ((decide (i.op ≥ 80)) && (decide (i.op ≤ 86))) then (bif ((((K.access (K.w0 s i) V i.op).1).k) != 0) then (s, ((K.access (K.w0 s i) V i.op).1).k, ((K.access (K.w0 s i) V i.op).1).t, (K.access (K.w0 s i) V i.op).2) else ((((K.access (K.w0 s i) V i.op).1).s), ((K.access (K.w0 s i) V i.op).1).k, ((K.access (K.w0 s i) V i.op).1).t, (K.access (K.w0 s i) V i.op).2)) else (bif ((decide (i.op ≥ 88)) && (decide (i.op ≤ 94))) then (bif ((((K.access (K.w0 s i) V (IntKind.wrap .i64 (i.op - 8))).1).k) != 0) then (s, ((K.access (K.w0 s i) V (IntKind.wrap .i64 (i.op - 8))).1).k, ((K.access (K.w0 s i) V (IntKind.wrap .i64 (i.op - 8))).1).t, (K.access (K.w0 s i) V (IntKind.wrap .i64 (i.op - 8))).2) else ((((K.access (K.w0 s i) V (IntKind.wrap .i64 (i.op - 8))).1).s), ((K.access (K.w0 s i) V (IntKind.wrap .i64 (i.op - 8))).1).k, ((K.access (K.w0 s i) V (IntKind.wrap .i64 (i.op - 8))).1).t, (K.access (K.w0 s i) V (IntKind.wrap .i64 (i.op - 8))).2)) else (bif ((decide (i.op ≥ 16)) && (decide (i.op ≤ 21))) then (bif ((((K.single (K.w0 s i) V).1).k) != 0) then (s, ((K.single (K.w0 s i) V).1).k, ((K.single (K.w0 s i) V).1).t, (K.single (K.w0 s i) V).2) else ((((K.single (K.w0 s i) V).1).s), ((K.single (K.w0 s i) V).1).k, ((K.single (K.w0 s i) V).1).t, (K.single (K.w0 s i) V).2)) else (bif ((decide (i.op ≥ 96)) && (decide (i.op < 110))) then (bif (W.cond (IntKind.wrap .i64 (i.op - 96)) s.f) then (bif (((K.w0 s i).k) != 0) then (s, (K.w0 s i).k, (K.w0 s i).t, V) else (⟨(IntKind.wrap .u32 ((((K.w0 s i).s).pc) + i.imm)), ((K.w0 s i).s).r, ((K.w0 s i).s).f, ((K.w0 s i).s).c, ((K.w0 s i).s).st, ((K.w0 s i).s).du⟩, (K.w0 s i).k, (K.w0 s i).t, V)) else (bif (((K.w0 s i).k) != 0) then (s, (K.w0 s i).k, (K.w0 s i).t, V) else (((K.w0 s i).s), (K.w0 s i).k, (K.w0 s i).t, V))) else (bif ((((K.control (K.w0 s i) V).1).k) != 0) then (s, ((K.control (K.w0 s i) V).1).k, ((K.control (K.w0 s i) V).1).t, (K.control (K.w0 s i) V).2) else ((((K.control (K.w0 s i) V).1).s), ((K.control (K.w0 s i) V).1).k, ((K.control (K.w0 s i) V).1).t, (K.control (K.w0 s i) V).2))))))))))
set_option maxHeartbeats 4000000 in
theorem Step_i {m : Nat} {xs : List Value} (i : K.Ins) (k t : Int) (s : Q.S) (V : M.V) (hf : K.fetch V s.pc = (i, k, t)) (hi : (k == 0) = true → K.iok i) (hs : Q.wf s) (hV : R.Wf V) : A.Tr Tryz.prog 20 #[Q.S.val s, .iface 35 (.pointer (some ⟨m, 0, none⟩))] [M.It m V xs] (I := Unit) (fun _ => True) (fun _ => .tuple #[Q.S.val ((K.stepI i k t s V).1), .agg #[.int .i64 ((K.stepI i k t s V).2.1), .int .u32 ((K.stepI i k t s V).2.2.1)]]) (fun _ => [M.It m (K.stepI i k t s V).2.2.2 xs]) := by
 intro w oo aa hh
 refine E.enter (n := 173) (S := oo) Tryz.func20 rfl rfl (by kernel_rfl) (A.start (L := []) hh) (E.sr (E.nw (Q.S.cells s) 26 (fun g1 => E.nw (Q.S.cells Q.z0) 26 (fun g2 => E.nw [E.i 0, E.u 0] 47 (fun g3 => E.To.code (E.C.seq (E.C.held (A.Y [A.blk g3 ([E.i 0, E.u 0]), A.blk g2 (Q.S.cells Q.z0), A.blk g1 (Q.S.cells s)]) (by kernel_rfl) (E.H.gen (fun H up dn => ?_)))))))))
 have nd4 : ∀ (α β : Nat), H 0 (E.bits 13 8191) [(1, .iface 35 (E.pt m)), (2, E.pt g1), (4, E.pt g2), (5, E.pt g3), (6, E.pt α), (7, E.pt β)] (A.X w oo aa [M.It m V xs]) [(α, [E.i i.op, E.i i.d, E.i i.s, E.i i.ix, E.i i.sc, E.u i.imm, E.i i.sz]), (β, [E.i k, E.u t]), (g3, [E.i 0, E.u 0]), (g2, (Q.S.cells Q.z0)), (g1, (Q.S.cells s))] := by
  intro α β
  refine up _ _ _ _ _ (E.H.done (by kernel_rfl) (E.To.code (E.C.seq (E.sr (E.op (E.pt β) (E.li (E.i k) 1 rfl rfl (E.op (.bool (k != 0)) (E.To.code (E.cd (k != 0) (fun hc4 => ?_) (fun hc4 => ?_))))))))))
  ·
   refine E.C.seq (E.C.held (E.Hp (oo) w (A.X w oo aa [M.It m V xs]) [(α, [E.i i.op, E.i i.d, E.i i.s, E.i i.ix, E.i i.sc, E.u i.imm, E.i i.sz]), (β, [E.i k, E.u t]), (g1, (Q.S.cells s))]) (by kernel_rfl) (E.tb 0 (Q.S.val s) rfl (fun w h => E.run_load h 2 rfl rfl (by kernel_rfl)) (E.tb 1 (.agg #[E.i k, E.u t]) rfl (fun w h => E.run_load h 1 rfl rfl (by kernel_rfl)) (E.al 2 rfl (E.st 3 (Q.S.cells s) rfl rfl (E.bk (E.al 3 rfl (E.st 2 [E.i k, E.u t] rfl rfl (E.bk (E.H.done (by kernel_rfl) (E.To.code ?_)))))))))))
   refine E.C.ret (E.P.rt (E.To.body (fn := Tryz.f20) [Q.S.val s, .agg #[E.i k, E.u t]] ?_ ?_))
   · exact ⟨⟨by kernel_rfl, _, _, 3, _, rfl, rfl, by kernel_rfl⟩, ⟨by kernel_rfl, _, _, 2, _, rfl, rfl, by kernel_rfl⟩, trivial⟩
   intro w h
   have e : (K.stepI i k t s V) = (s, k, t, V) := by unfold K.stepI; rw [hc4, cond_true] <;> rfl
   rw [e]
   exact ⟨(), trivial, rfl, A.dq [5] [0, 1, 2, 3, 4] h⟩
  refine E.C.skip (E.To.code (E.C.seq (E.C.held (E.Hp (oo) w (A.X w oo aa [M.It m V xs]) [(α, [E.i i.op, E.i i.d, E.i i.s, E.i i.ix, E.i i.sc, E.u i.imm, E.i i.sz]), (β, [E.i k, E.u t]), (g3, [E.i 0, E.u 0]), (g2, (Q.S.cells Q.z0)), (g1, (Q.S.cells s))]) (by kernel_rfl) (E.tj 0 (Q.S.val s) rfl (fun w h => h) (fun w h => E.run_load h 4 rfl rfl (by kernel_rfl)) (E.tj 1 (Q.S.val s) rfl (fun w h => h) (fun w h => E.run_load h 4 rfl rfl (by kernel_rfl)) (E.tj 2 (.agg #[E.i i.op, E.i i.d, E.i i.s, E.i i.ix, E.i i.sc, E.u i.imm, E.i i.sz]) rfl (fun w h => h) (fun w h => E.run_load h 0 rfl rfl (by kernel_rfl)) (E.tk 3 (.iface 35 (E.pt m)) rfl (fun w h => h) (E.tk 4 (.iface 35 (E.pt m)) rfl (fun w h => h) (E.tk 5 (.func (.method "Load") #[.iface 35 (E.pt m)] #[]) rfl (fun w h => h) (E.tk 6 (.iface 35 (E.pt m)) rfl (fun w h => h) (E.tk 7 (.iface 35 (E.pt m)) rfl (fun w h => h) (E.tk 8 (.func (.method "Store") #[.iface 35 (E.pt m)] #[]) rfl (fun w h => h) ?_))))))))))))
  refine E.tj 9 (.agg (K.wk (⟨s, s, i, 0, 0⟩) m).toArray) rfl (fun w h => h) (fun w h => E.run_build (K.wk (⟨s, s, i, 0, 0⟩) m).toArray (by kernel_rfl) w) (E.al 10 rfl (E.nw (K.wk (⟨s, s, i, 0, 0⟩) m) 117 (fun g5 => E.bk (E.ta 11 (E.pt g5) rfl (E.H.done (by kernel_rfl) (E.To.code (E.wk [(2, E.pt g1), (4, E.pt g2), (5, E.pt g3), (6, E.pt α), (8, E.pt g5)] [(g5, (K.wk (⟨s, s, i, 0, 0⟩) m)), (α, [E.i i.op, E.i i.d, E.i i.s, E.i i.ix, E.i i.sc, E.u i.imm, E.i i.sz]), (g3, [E.i 0, E.u 0]), (g2, (Q.S.cells Q.z0)), (g1, (Q.S.cells s))] Nz.sub (E.C.seq (E.C.held (E.Hp (oo) w (A.X w oo aa [M.It m V xs]) [(α, [E.i i.op, E.i i.d, E.i i.s, E.i i.ix, E.i i.sc, E.u i.imm, E.i i.sz]), (g3, [E.i 0, E.u 0]), (g2, (Q.S.cells Q.z0)), (g1, (Q.S.cells s))]) (by kernel_rfl) (E.ta 0 (E.pt g5) rfl (E.ta 1 (E.pt g5) rfl ?_)))))))))))
  refine E.ta 2 (.pointer (some ⟨g5, 24, none⟩)) rfl (E.ta 3 (.pointer (some ⟨g5, 24, none⟩)) rfl (E.ta 5 (.pointer (some ⟨α, 6, none⟩)) rfl (E.tb 6 (E.i i.sz) rfl (fun w h => E.run_load h 0 rfl rfl (by kernel_rfl)) (E.ta 7 (E.u (IntKind.wrap .u32 i.sz)) rfl (E.al 4 rfl (E.li (E.u s.pc) 0 rfl rfl (E.bk (E.ta 8 (E.u (IntKind.wrap .u32 (s.pc + (IntKind.wrap .u32 i.sz)))) rfl (E.ta 9 (E.pt g5) rfl (E.ta 10 (.pointer (some ⟨g5, 24, none⟩)) rfl (E.ta 11 (.pointer (some ⟨g5, 24, none⟩)) rfl ?_)))))))))))
  refine E.al 12 rfl (E.st 0 (K.wk (⟨s, ⟨(IntKind.wrap .u32 (s.pc + (IntKind.wrap .u32 i.sz))), s.r, s.f, s.c, s.st, s.du⟩, i, 0, 0⟩) m) rfl rfl (E.bk (E.H.done (by kernel_rfl) (E.To.code (E.wk [(2, E.pt g1), (4, E.pt g2), (5, E.pt g3), (6, E.pt α), (8, E.pt g5)] [(g5, (K.wk (⟨s, ⟨(IntKind.wrap .u32 (s.pc + (IntKind.wrap .u32 i.sz))), s.r, s.f, s.c, s.st, s.du⟩, i, 0, 0⟩) m)), (α, [E.i i.op, E.i i.d, E.i i.s, E.i i.ix, E.i i.sc, E.u i.imm, E.i i.sz]), (g3, [E.i 0, E.u 0]), (g2, (Q.S.cells Q.z0)), (g1, (Q.S.cells s))] Nz.sub (E.sr (E.op (E.pt g5) (E.op (E.pt g5) (E.op (.pointer (some ⟨g5, 24, none⟩)) (E.op (.pointer (some ⟨g5, 46, none⟩)) (E.li (E.i s.st) 0 rfl rfl ?_)))))))))))
  refine E.op (E.i (IntKind.wrap .i64 (s.st + 1))) (E.op (E.pt g5) (E.op (.pointer (some ⟨g5, 24, none⟩)) (E.op (.pointer (some ⟨g5, 46, none⟩)) (E.st 0 (K.wk (K.w0 s i) m) rfl rfl (E.To.code (E.wk [(2, E.pt g1), (4, E.pt g2), (5, E.pt g3), (6, E.pt α), (8, E.pt g5)] [(g5, (K.wk (K.w0 s i) m)), (α, [E.i i.op, E.i i.d, E.i i.s, E.i i.ix, E.i i.sc, E.u i.imm, E.i i.sz]), (g3, [E.i 0, E.u 0]), (g2, (Q.S.cells Q.z0)), (g1, (Q.S.cells s))] Nz.sub (E.C.seq (E.sr (E.op (E.pt α) (E.li (E.i i.op) 1 rfl rfl (E.op (E.i i.op) ?_)))))))))))
  refine E.To.code (E.C.jn (fun J up dn => ?_))
  have rest : ∀ (y : K.W × M.V), K.stepI i k t s V = (bif (y.1.k != 0) then (s, y.1.k, y.1.t, y.2) else (y.1.s, y.1.k, y.1.t, y.2)) → J [(2, E.pt g1), (4, E.pt g2), (5, E.pt g3), (8, E.pt g5)] (A.X w oo aa [M.It m y.2 xs]) [(g5, (K.wk y.1 m)), (g3, [E.i 0, E.u 0]), (g2, (Q.S.cells Q.z0)), (g1, (Q.S.cells s))] := by
   intro y hy
   refine up _ _ _ (E.C.seq (E.sr (E.op (E.pt g5) (E.op (E.pt g5) (E.op (.pointer (some ⟨g5, 55, none⟩)) (E.op (.pointer (some ⟨g5, 55, none⟩)) (E.li (E.i y.1.k) 0 rfl rfl (E.op (.bool (y.1.k != 0)) (E.To.code (E.cd (y.1.k != 0) (fun hc6 => ?_) (fun hc6 => ?_)))))))))))
   ·
    refine E.C.seq (E.C.held (E.Hp (oo) w (A.X w oo aa [M.It m y.2 xs]) [(g5, (K.wk y.1 m)), (g1, (Q.S.cells s))]) (by kernel_rfl) (E.tb 0 (Q.S.val s) rfl (fun w h => E.run_load h 1 rfl rfl (by kernel_rfl)) (E.ta 1 (E.pt g5) rfl (E.ta 2 (E.pt g5) rfl (E.ta 3 (.pointer (some ⟨g5, 55, none⟩)) rfl (E.tb 4 (.agg #[E.i y.1.k, E.u y.1.t]) rfl (fun w h => E.run_load h 0 rfl rfl (by kernel_rfl)) (E.al 5 rfl (E.st 2 (Q.S.cells s) rfl rfl (E.bk (E.al 6 rfl (E.st 1 [E.i y.1.k, E.u y.1.t] rfl rfl ?_)))))))))))
    refine E.bk (E.H.done (by kernel_rfl) (E.To.code (E.wk [(4, E.pt g2), (5, E.pt g3), (8, E.pt g5)] [(g5, (K.wk y.1 m)), (g3, [E.i y.1.k, E.u y.1.t]), (g2, (Q.S.cells s))] Nz.sub (E.C.ret (E.P.rt (E.To.body (fn := Tryz.f20) [Q.S.val s, .agg #[E.i y.1.k, E.u y.1.t]] ?_ ?_))))))
    · exact ⟨⟨by kernel_rfl, _, _, 2, _, rfl, rfl, by kernel_rfl⟩, ⟨by kernel_rfl, _, _, 1, _, rfl, rfl, by kernel_rfl⟩, trivial⟩
    intro w h
    have e : (K.stepI i k t s V) = (s, y.1.k, y.1.t, y.2) := by rw [hy, hc6, cond_true]
    rw [e]
    exact ⟨(), trivial, rfl, A.dq [3] [0, 1, 2] h⟩
   refine E.C.skip (E.To.code (E.C.seq (E.C.held (E.Hp (oo) w (A.X w oo aa [M.It m y.2 xs]) [(g5, (K.wk y.1 m)), (g1, (Q.S.cells s))]) (by kernel_rfl) (E.ta 0 (E.pt g5) rfl (E.ta 1 (E.pt g5) rfl (E.ta 2 (.pointer (some ⟨g5, 24, none⟩)) rfl (E.tb 3 (Q.S.val y.1.s) rfl (fun w h => E.run_load h 0 rfl rfl (by kernel_rfl)) (E.ta 4 (E.pt g5) rfl (E.ta 5 (E.pt g5) rfl (E.ta 6 (.pointer (some ⟨g5, 55, none⟩)) rfl (E.tb 7 (.agg #[E.i y.1.k, E.u y.1.t]) rfl (fun w h => E.run_load h 0 rfl rfl (by kernel_rfl)) (E.al 8 rfl ?_))))))))))))
   refine E.st 2 (Q.S.cells y.1.s) rfl rfl (E.bk (E.al 9 rfl (E.st 1 [E.i y.1.k, E.u y.1.t] rfl rfl (E.bk (E.H.done (by kernel_rfl) (E.To.code (E.wk [(4, E.pt g2), (5, E.pt g3)] [(g3, [E.i y.1.k, E.u y.1.t]), (g2, (Q.S.cells y.1.s))] Nz.sub (E.C.ret (E.To.body (fn := Tryz.f20) [Q.S.val y.1.s, .agg #[E.i y.1.k, E.u y.1.t]] ?_ ?_)))))))))
   · exact ⟨⟨by kernel_rfl, _, _, 1, _, rfl, rfl, by kernel_rfl⟩, ⟨by kernel_rfl, _, _, 0, _, rfl, rfl, by kernel_rfl⟩, trivial⟩
   intro w h
   have e : (K.stepI i k t s V) = (y.1.s, y.1.k, y.1.t, y.2) := by rw [hy, hc6, cond_false]
   rw [e]
   exact ⟨(), trivial, rfl, A.dq [2] [0, 1] h⟩
  refine E.C.block (E.sr (E.op (E.i i.op) (E.op (.bool (decide (i.op ≥ 32))) (E.op (.bool (decide (i.op ≥ 32))) (E.G.cut 3 [(2, E.pt g1), (4, E.pt g2), (5, E.pt g3), (6, E.pt α), (8, E.pt g5), (9, E.i i.op), (66, .bool ((decide (i.op ≥ 32)) && (decide (i.op ≤ 46))))] (A.X w oo aa [M.It m V xs]) [(g5, (K.wk (K.w0 s i) m)), (α, [E.i i.op, E.i i.d, E.i i.s, E.i i.ix, E.i i.sc, E.u i.imm, E.i i.sz]), (g3, [E.i 0, E.u 0]), (g2, (Q.S.cells Q.z0)), (g1, (Q.S.cells s))] ?_ ?_)))))
  ·
   generalize hc7 : (decide (i.op ≥ 32)) = b8
   cases b8
   ·
    exact E.sk (E.sk (E.op (.bool false) (E.G.end_pst ⟨by kernel_rfl, by kernel_rfl⟩ Nz.sub (fun _ h => h))))
   exact E.op (E.i i.op) (E.op (.bool (decide (i.op ≤ 46))) (E.op (.bool (decide (i.op ≤ 46))) (E.G.end_pst ⟨by kernel_rfl, by kernel_rfl⟩ Nz.sub (fun _ h => h))))
  refine E.op (.bool ((decide (i.op ≥ 32)) && (decide (i.op ≤ 46)))) (E.To.code (E.cd ((decide (i.op ≥ 32)) && (decide (i.op ≤ 46))) (fun hc9 => ?_) (fun hc9 => ?_)))
  ·
   exact E.C.region (E.op (E.pt g5) (E.op (E.i i.op) (E.op (.pointer (some ⟨α, 2, none⟩)) (E.li (E.i i.s) 1 rfl rfl (E.op (.pointer (some ⟨g1, 1, none⟩)) (E.vl (.pointer (some ⟨g1, 1 + (i.s).toNat, none⟩)) (fun w h => E.idxI (e := 22) g1 1 16 .i64 i.s (by kernel_rfl) (by kernel_rfl) (by kernel_rfl) (by kernel_rfl) (by have := (hi (K.eq0 hc4)).s; omega) w) (E.vl (E.u (s.r ((i.s).toNat))) (fun w h => E.run_load h 4 rfl rfl (Q.ld_r (by kernel_rfl) (by have := (hi (K.eq0 hc4)).s; omega))) (A.G.call (I := Unit) (D := fun _ => True) (V := fun _ => .tuple #[]) (q := fun _ => [A.blk g5 (K.wk (K.arith (K.w0 s i) i.op (s.r ((i.s).toNat))) m)]) [A.blk α ([E.i i.op, E.i i.d, E.i i.s, E.i i.ix, E.i i.sc, E.u i.imm, E.i i.sz]), A.blk g3 ([E.i 0, E.u 0]), A.blk g2 (Q.S.cells Q.z0), A.blk g1 (Q.S.cells s), M.It m V xs] (fun _ => [(g5, (K.wk (K.arith (K.w0 s i) i.op (s.r ((i.s).toNat))) m)), (α, [E.i i.op, E.i i.d, E.i i.s, E.i i.ix, E.i i.sc, E.u i.imm, E.i i.sz]), (g3, [E.i 0, E.u 0]), (g2, (Q.S.cells Q.z0)), (g1, (Q.S.cells s))]) (fun _ => [M.It m V xs]) (Arith_w (b := g5) (m := m) (K.w0 s i) i.op (s.r ((i.s).toNat)) (K.rg0 hc9) (hs.r _) (K.w0_wf hs) (hi (K.eq0 hc4))) (by kernel_rfl) (A.pn [0, 1, 2, 3, 4, 5]) (fun _ => A.pm [0, 1, 2, 3, 4, 5] (by kernel_rfl) (by kernel_rfl)) (fun w _ => by kernel_rfl) (by kernel_rfl) (fun _ hd10 => E.P.nb (fun a w h1 h2 => dn _ _ _ (rest (K.arith (K.w0 s i) i.op (s.r ((i.s).toNat)), V) (by unfold K.stepI; rw [hc4, cond_false, hc9, cond_true] <;> rfl)) a w (h1.sub ⟨by kernel_rfl, by kernel_rfl⟩) (h2.less Nz.sub)))))))))))
  refine E.sr (E.op (E.i i.op) (E.op (.bool (decide (i.op ≥ 48))) (E.op (.bool (decide (i.op ≥ 48))) (E.G.cut 3 [(2, E.pt g1), (4, E.pt g2), (5, E.pt g3), (6, E.pt α), (8, E.pt g5), (9, E.i i.op), (81, .bool ((decide (i.op ≥ 48)) && (decide (i.op ≤ 62))))] (A.X w oo aa [M.It m V xs]) [(g5, (K.wk (K.w0 s i) m)), (α, [E.i i.op, E.i i.d, E.i i.s, E.i i.ix, E.i i.sc, E.u i.imm, E.i i.sz]), (g3, [E.i 0, E.u 0]), (g2, (Q.S.cells Q.z0)), (g1, (Q.S.cells s))] ?_ ?_))))
  ·
   generalize hc11 : (decide (i.op ≥ 48)) = b12
   cases b12
   ·
    exact E.sk (E.sk (E.op (.bool false) (E.G.end_pst ⟨by kernel_rfl, by kernel_rfl⟩ Nz.sub (fun _ h => h))))
   exact E.op (E.i i.op) (E.op (.bool (decide (i.op ≤ 62))) (E.op (.bool (decide (i.op ≤ 62))) (E.G.end_pst ⟨by kernel_rfl, by kernel_rfl⟩ Nz.sub (fun _ h => h))))
  refine E.op (.bool ((decide (i.op ≥ 48)) && (decide (i.op ≤ 62)))) (E.To.code (E.cd ((decide (i.op ≥ 48)) && (decide (i.op ≤ 62))) (fun hc13 => ?_) (fun hc13 => ?_)))
  ·
   exact E.C.region (E.op (E.pt g5) (E.op (E.i i.op) (E.op (E.i (IntKind.wrap .i64 (i.op - 16))) (E.op (.pointer (some ⟨α, 5, none⟩)) (E.li (E.u i.imm) 1 rfl rfl (A.G.call (I := Unit) (D := fun _ => True) (V := fun _ => .tuple #[]) (q := fun _ => [A.blk g5 (K.wk (K.arith (K.w0 s i) (IntKind.wrap .i64 (i.op - 16)) i.imm) m)]) [A.blk α ([E.i i.op, E.i i.d, E.i i.s, E.i i.ix, E.i i.sc, E.u i.imm, E.i i.sz]), A.blk g3 ([E.i 0, E.u 0]), A.blk g2 (Q.S.cells Q.z0), A.blk g1 (Q.S.cells s), M.It m V xs] (fun _ => [(g5, (K.wk (K.arith (K.w0 s i) (IntKind.wrap .i64 (i.op - 16)) i.imm) m)), (α, [E.i i.op, E.i i.d, E.i i.s, E.i i.ix, E.i i.sc, E.u i.imm, E.i i.sz]), (g3, [E.i 0, E.u 0]), (g2, (Q.S.cells Q.z0)), (g1, (Q.S.cells s))]) (fun _ => [M.It m V xs]) (Arith_w (b := g5) (m := m) (K.w0 s i) (IntKind.wrap .i64 (i.op - 16)) i.imm (K.rng16 hc13) (hi (K.eq0 hc4)).imm (K.w0_wf hs) (hi (K.eq0 hc4))) (by kernel_rfl) (A.pn [0, 1, 2, 3, 4, 5]) (fun _ => A.pm [0, 1, 2, 3, 4, 5] (by kernel_rfl) (by kernel_rfl)) (fun w _ => by kernel_rfl) (by kernel_rfl) (fun _ hd14 => E.P.nb (fun a w h1 h2 => dn _ _ _ (rest (K.arith (K.w0 s i) (IntKind.wrap .i64 (i.op - 16)) i.imm, V) (by unfold K.stepI; rw [hc4, cond_false, hc9, cond_false, hc13, cond_true] <;> rfl)) a w (h1.sub ⟨by kernel_rfl, by kernel_rfl⟩) (h2.less Nz.sub)))))))))
  refine E.sr (E.op (E.i i.op) (E.op (.bool (decide (i.op ≥ 64))) (E.op (.bool (decide (i.op ≥ 64))) (E.G.cut 3 [(2, E.pt g1), (4, E.pt g2), (5, E.pt g3), (6, E.pt α), (8, E.pt g5), (9, E.i i.op), (94, .bool ((decide (i.op ≥ 64)) && (decide (i.op ≤ 78))))] (A.X w oo aa [M.It m V xs]) [(g5, (K.wk (K.w0 s i) m)), (α, [E.i i.op, E.i i.d, E.i i.s, E.i i.ix, E.i i.sc, E.u i.imm, E.i i.sz]), (g3, [E.i 0, E.u 0]), (g2, (Q.S.cells Q.z0)), (g1, (Q.S.cells s))] ?_ ?_))))
  ·
   generalize hc15 : (decide (i.op ≥ 64)) = b16
   cases b16
   ·
    exact E.sk (E.sk (E.op (.bool false) (E.G.end_pst ⟨by kernel_rfl, by kernel_rfl⟩ Nz.sub (fun _ h => h))))
   exact E.op (E.i i.op) (E.op (.bool (decide (i.op ≤ 78))) (E.op (.bool (decide (i.op ≤ 78))) (E.G.end_pst ⟨by kernel_rfl, by kernel_rfl⟩ Nz.sub (fun _ h => h))))
  refine E.op (.bool ((decide (i.op ≥ 64)) && (decide (i.op ≤ 78)))) (E.To.code (E.cd ((decide (i.op ≥ 64)) && (decide (i.op ≤ 78))) (fun hc17 => ?_) (fun hc17 => ?_)))
  ·
   exact E.C.region (E.op (E.pt g5) (E.op (E.i i.op) (E.op (E.i (IntKind.wrap .i64 (i.op - 32))) (E.op (.pointer (some ⟨α, 5, none⟩)) (E.li (E.u i.imm) 1 rfl rfl (A.G.call (I := Unit) (D := fun _ => True) (V := fun _ => .tuple #[]) (q := fun _ => [A.blk g5 (K.wk (K.arith (K.w0 s i) (IntKind.wrap .i64 (i.op - 32)) i.imm) m)]) [A.blk α ([E.i i.op, E.i i.d, E.i i.s, E.i i.ix, E.i i.sc, E.u i.imm, E.i i.sz]), A.blk g3 ([E.i 0, E.u 0]), A.blk g2 (Q.S.cells Q.z0), A.blk g1 (Q.S.cells s), M.It m V xs] (fun _ => [(g5, (K.wk (K.arith (K.w0 s i) (IntKind.wrap .i64 (i.op - 32)) i.imm) m)), (α, [E.i i.op, E.i i.d, E.i i.s, E.i i.ix, E.i i.sc, E.u i.imm, E.i i.sz]), (g3, [E.i 0, E.u 0]), (g2, (Q.S.cells Q.z0)), (g1, (Q.S.cells s))]) (fun _ => [M.It m V xs]) (Arith_w (b := g5) (m := m) (K.w0 s i) (IntKind.wrap .i64 (i.op - 32)) i.imm (K.rng32 hc17) (hi (K.eq0 hc4)).imm (K.w0_wf hs) (hi (K.eq0 hc4))) (by kernel_rfl) (A.pn [0, 1, 2, 3, 4, 5]) (fun _ => A.pm [0, 1, 2, 3, 4, 5] (by kernel_rfl) (by kernel_rfl)) (fun w _ => by kernel_rfl) (by kernel_rfl) (fun _ hd18 => E.P.nb (fun a w h1 h2 => dn _ _ _ (rest (K.arith (K.w0 s i) (IntKind.wrap .i64 (i.op - 32)) i.imm, V) (by unfold K.stepI; rw [hc4, cond_false, hc9, cond_false, hc13, cond_false, hc17, cond_true] <;> rfl)) a w (h1.sub ⟨by kernel_rfl, by kernel_rfl⟩) (h2.less Nz.sub)))))))))
  refine E.sr (E.op (E.i i.op) (E.op (.bool (decide (i.op ≥ 80))) (E.op (.bool (decide (i.op ≥ 80))) (E.G.cut 3 [(2, E.pt g1), (4, E.pt g2), (5, E.pt g3), (6, E.pt α), (8, E.pt g5), (9, E.i i.op), (107, .bool ((decide (i.op ≥ 80)) && (decide (i.op ≤ 86))))] (A.X w oo aa [M.It m V xs]) [(g5, (K.wk (K.w0 s i) m)), (α, [E.i i.op, E.i i.d, E.i i.s, E.i i.ix, E.i i.sc, E.u i.imm, E.i i.sz]), (g3, [E.i 0, E.u 0]), (g2, (Q.S.cells Q.z0)), (g1, (Q.S.cells s))] ?_ ?_))))
  ·
   generalize hc19 : (decide (i.op ≥ 80)) = b20
   cases b20
   ·
    exact E.sk (E.sk (E.op (.bool false) (E.G.end_pst ⟨by kernel_rfl, by kernel_rfl⟩ Nz.sub (fun _ h => h))))
   exact E.op (E.i i.op) (E.op (.bool (decide (i.op ≤ 86))) (E.op (.bool (decide (i.op ≤ 86))) (E.G.end_pst ⟨by kernel_rfl, by kernel_rfl⟩ Nz.sub (fun _ h => h))))
  refine E.op (.bool ((decide (i.op ≥ 80)) && (decide (i.op ≤ 86)))) (E.To.code (E.cd ((decide (i.op ≥ 80)) && (decide (i.op ≤ 86))) (fun hc21 => ?_) (fun hc21 => ?_)))
  ·
   exact E.C.region (E.op (E.pt g5) (E.op (E.i i.op) (A.G.call (I := Unit) (D := fun _ => True) (V := fun _ => .tuple #[]) (q := fun _ => [A.blk g5 (K.wk ((K.access (K.w0 s i) V i.op).1) m), M.It m ((K.access (K.w0 s i) V i.op).2) xs]) [A.blk α ([E.i i.op, E.i i.d, E.i i.s, E.i i.ix, E.i i.sc, E.u i.imm, E.i i.sz]), A.blk g3 ([E.i 0, E.u 0]), A.blk g2 (Q.S.cells Q.z0), A.blk g1 (Q.S.cells s)] (fun _ => [(g5, (K.wk ((K.access (K.w0 s i) V i.op).1) m)), (α, [E.i i.op, E.i i.d, E.i i.s, E.i i.ix, E.i i.sc, E.u i.imm, E.i i.sz]), (g3, [E.i 0, E.u 0]), (g2, (Q.S.cells Q.z0)), (g1, (Q.S.cells s))]) (fun _ => [M.It m ((K.access (K.w0 s i) V i.op).2) xs]) (Access_w (b := g5) (m := m) (xs := xs) (K.w0 s i) V i.op (K.w0_wf hs) (hi (K.eq0 hc4)) hV) (by kernel_rfl) (A.pn [0, 5, 1, 2, 3, 4]) (fun _ => A.pm [0, 2, 3, 4, 5, 1] (by kernel_rfl) (by kernel_rfl)) (fun w _ => by kernel_rfl) (by kernel_rfl) (fun _ hd22 => E.P.nb (fun a w h1 h2 => dn _ _ _ (rest ((K.access (K.w0 s i) V i.op).1, (K.access (K.w0 s i) V i.op).2) (by unfold K.stepI; rw [hc4, cond_false, hc9, cond_false, hc13, cond_false, hc17, cond_false, hc21, cond_true] <;> rfl)) a w (h1.sub ⟨by kernel_rfl, by kernel_rfl⟩) (h2.less Nz.sub))))))
  refine E.sr (E.op (E.i i.op) (E.op (.bool (decide (i.op ≥ 88))) (E.op (.bool (decide (i.op ≥ 88))) (E.G.cut 3 [(2, E.pt g1), (4, E.pt g2), (5, E.pt g3), (6, E.pt α), (8, E.pt g5), (9, E.i i.op), (117, .bool ((decide (i.op ≥ 88)) && (decide (i.op ≤ 94))))] (A.X w oo aa [M.It m V xs]) [(g5, (K.wk (K.w0 s i) m)), (α, [E.i i.op, E.i i.d, E.i i.s, E.i i.ix, E.i i.sc, E.u i.imm, E.i i.sz]), (g3, [E.i 0, E.u 0]), (g2, (Q.S.cells Q.z0)), (g1, (Q.S.cells s))] ?_ ?_))))
  ·
   generalize hc23 : (decide (i.op ≥ 88)) = b24
   cases b24
   ·
    exact E.sk (E.sk (E.op (.bool false) (E.G.end_pst ⟨by kernel_rfl, by kernel_rfl⟩ Nz.sub (fun _ h => h))))
   exact E.op (E.i i.op) (E.op (.bool (decide (i.op ≤ 94))) (E.op (.bool (decide (i.op ≤ 94))) (E.G.end_pst ⟨by kernel_rfl, by kernel_rfl⟩ Nz.sub (fun _ h => h))))
  refine E.op (.bool ((decide (i.op ≥ 88)) && (decide (i.op ≤ 94)))) (E.To.code (E.cd ((decide (i.op ≥ 88)) && (decide (i.op ≤ 94))) (fun hc25 => ?_) (fun hc25 => ?_)))
  ·
   exact E.C.region (E.op (E.pt g5) (E.op (E.i i.op) (E.op (E.i (IntKind.wrap .i64 (i.op - 8))) (A.G.call (I := Unit) (D := fun _ => True) (V := fun _ => .tuple #[]) (q := fun _ => [A.blk g5 (K.wk ((K.access (K.w0 s i) V (IntKind.wrap .i64 (i.op - 8))).1) m), M.It m ((K.access (K.w0 s i) V (IntKind.wrap .i64 (i.op - 8))).2) xs]) [A.blk α ([E.i i.op, E.i i.d, E.i i.s, E.i i.ix, E.i i.sc, E.u i.imm, E.i i.sz]), A.blk g3 ([E.i 0, E.u 0]), A.blk g2 (Q.S.cells Q.z0), A.blk g1 (Q.S.cells s)] (fun _ => [(g5, (K.wk ((K.access (K.w0 s i) V (IntKind.wrap .i64 (i.op - 8))).1) m)), (α, [E.i i.op, E.i i.d, E.i i.s, E.i i.ix, E.i i.sc, E.u i.imm, E.i i.sz]), (g3, [E.i 0, E.u 0]), (g2, (Q.S.cells Q.z0)), (g1, (Q.S.cells s))]) (fun _ => [M.It m ((K.access (K.w0 s i) V (IntKind.wrap .i64 (i.op - 8))).2) xs]) (Access_w (b := g5) (m := m) (xs := xs) (K.w0 s i) V (IntKind.wrap .i64 (i.op - 8)) (K.w0_wf hs) (hi (K.eq0 hc4)) hV) (by kernel_rfl) (A.pn [0, 5, 1, 2, 3, 4]) (fun _ => A.pm [0, 2, 3, 4, 5, 1] (by kernel_rfl) (by kernel_rfl)) (fun w _ => by kernel_rfl) (by kernel_rfl) (fun _ hd26 => E.P.nb (fun a w h1 h2 => dn _ _ _ (rest ((K.access (K.w0 s i) V (IntKind.wrap .i64 (i.op - 8))).1, (K.access (K.w0 s i) V (IntKind.wrap .i64 (i.op - 8))).2) (by unfold K.stepI; rw [hc4, cond_false, hc9, cond_false, hc13, cond_false, hc17, cond_false, hc21, cond_false, hc25, cond_true] <;> rfl)) a w (h1.sub ⟨by kernel_rfl, by kernel_rfl⟩) (h2.less Nz.sub)))))))
  refine E.sr (E.op (E.i i.op) (E.op (.bool (decide (i.op ≥ 16))) (E.op (.bool (decide (i.op ≥ 16))) (E.G.cut 3 [(2, E.pt g1), (4, E.pt g2), (5, E.pt g3), (6, E.pt α), (8, E.pt g5), (9, E.i i.op), (128, .bool ((decide (i.op ≥ 16)) && (decide (i.op ≤ 21))))] (A.X w oo aa [M.It m V xs]) [(g5, (K.wk (K.w0 s i) m)), (α, [E.i i.op, E.i i.d, E.i i.s, E.i i.ix, E.i i.sc, E.u i.imm, E.i i.sz]), (g3, [E.i 0, E.u 0]), (g2, (Q.S.cells Q.z0)), (g1, (Q.S.cells s))] ?_ ?_))))
  ·
   generalize hc27 : (decide (i.op ≥ 16)) = b28
   cases b28
   ·
    exact E.sk (E.sk (E.op (.bool false) (E.G.end_pst ⟨by kernel_rfl, by kernel_rfl⟩ Nz.sub (fun _ h => h))))
   exact E.op (E.i i.op) (E.op (.bool (decide (i.op ≤ 21))) (E.op (.bool (decide (i.op ≤ 21))) (E.G.end_pst ⟨by kernel_rfl, by kernel_rfl⟩ Nz.sub (fun _ h => h))))
  refine E.op (.bool ((decide (i.op ≥ 16)) && (decide (i.op ≤ 21)))) (E.To.code (E.cd ((decide (i.op ≥ 16)) && (decide (i.op ≤ 21))) (fun hc29 => ?_) (fun hc29 => ?_)))
  ·
   exact E.C.region (E.op (E.pt g5) (A.G.call (I := Unit) (D := fun _ => True) (V := fun _ => .tuple #[]) (q := fun _ => [A.blk g5 (K.wk ((K.single (K.w0 s i) V).1) m), M.It m ((K.single (K.w0 s i) V).2) xs]) [A.blk α ([E.i i.op, E.i i.d, E.i i.s, E.i i.ix, E.i i.sc, E.u i.imm, E.i i.sz]), A.blk g3 ([E.i 0, E.u 0]), A.blk g2 (Q.S.cells Q.z0), A.blk g1 (Q.S.cells s)] (fun _ => [(g5, (K.wk ((K.single (K.w0 s i) V).1) m)), (α, [E.i i.op, E.i i.d, E.i i.s, E.i i.ix, E.i i.sc, E.u i.imm, E.i i.sz]), (g3, [E.i 0, E.u 0]), (g2, (Q.S.cells Q.z0)), (g1, (Q.S.cells s))]) (fun _ => [M.It m ((K.single (K.w0 s i) V).2) xs]) (Single_w (b := g5) (m := m) (xs := xs) (K.w0 s i) V (K.w0_wf hs) (hi (K.eq0 hc4)) hV) (by kernel_rfl) (A.pn [0, 5, 1, 2, 3, 4]) (fun _ => A.pm [0, 2, 3, 4, 5, 1] (by kernel_rfl) (by kernel_rfl)) (fun w _ => by kernel_rfl) (by kernel_rfl) (fun _ hd30 => E.P.nb (fun a w h1 h2 => dn _ _ _ (rest ((K.single (K.w0 s i) V).1, (K.single (K.w0 s i) V).2) (by unfold K.stepI; rw [hc4, cond_false, hc9, cond_false, hc13, cond_false, hc17, cond_false, hc21, cond_false, hc25, cond_false, hc29, cond_true] <;> rfl)) a w (h1.sub ⟨by kernel_rfl, by kernel_rfl⟩) (h2.less Nz.sub)))))
  refine E.sr (E.op (E.i i.op) (E.op (.bool (decide (i.op ≥ 96))) (E.op (.bool (decide (i.op ≥ 96))) (E.G.cut 3 [(2, E.pt g1), (4, E.pt g2), (5, E.pt g3), (6, E.pt α), (8, E.pt g5), (9, E.i i.op), (137, .bool ((decide (i.op ≥ 96)) && (decide (i.op < 110))))] (A.X w oo aa [M.It m V xs]) [(g5, (K.wk (K.w0 s i) m)), (α, [E.i i.op, E.i i.d, E.i i.s, E.i i.ix, E.i i.sc, E.u i.imm, E.i i.sz]), (g3, [E.i 0, E.u 0]), (g2, (Q.S.cells Q.z0)), (g1, (Q.S.cells s))] ?_ ?_))))
  ·
   generalize hc31 : (decide (i.op ≥ 96)) = b32
   cases b32
   ·
    exact E.sk (E.sk (E.op (.bool false) (E.G.end_pst ⟨by kernel_rfl, by kernel_rfl⟩ Nz.sub (fun _ h => h))))
   exact E.op (E.i i.op) (E.op (.bool (decide (i.op < 110))) (E.op (.bool (decide (i.op < 110))) (E.G.end_pst ⟨by kernel_rfl, by kernel_rfl⟩ Nz.sub (fun _ h => h))))
  refine E.op (.bool ((decide (i.op ≥ 96)) && (decide (i.op < 110)))) (E.To.code (E.cd ((decide (i.op ≥ 96)) && (decide (i.op < 110))) (fun hc33 => ?_) (fun hc33 => ?_)))
  ·
   refine E.sr (E.op (E.i i.op) (E.op (E.i (IntKind.wrap .i64 (i.op - 96))) (E.op (.pointer (some ⟨g1, 17, none⟩)) (E.li (E.u s.f) 4 rfl rfl (E.ca (.bool (W.cond (IntKind.wrap .i64 (i.op - 96)) s.f)) (fun w h => Cond_any (IntKind.wrap .i64 (i.op - 96)) s.f w) (E.To.code (E.cd (W.cond (IntKind.wrap .i64 (i.op - 96)) s.f) (fun hc34 => ?_) (fun hc34 => ?_))))))))
   ·
    refine E.C.held (E.Hp (oo) w (A.X w oo aa [M.It m V xs]) [(α, [E.i i.op, E.i i.d, E.i i.s, E.i i.ix, E.i i.sc, E.u i.imm, E.i i.sz]), (g3, [E.i 0, E.u 0]), (g2, (Q.S.cells Q.z0)), (g1, (Q.S.cells s))]) (by kernel_rfl) (E.ta 0 (E.pt g5) rfl (E.ta 1 (E.pt g5) rfl (E.ta 2 (.pointer (some ⟨g5, 24, none⟩)) rfl (E.ta 3 (.pointer (some ⟨g5, 24, none⟩)) rfl (E.ta 5 (.pointer (some ⟨α, 5, none⟩)) rfl (E.tb 6 (E.u i.imm) rfl (fun w h => E.run_load h 0 rfl rfl (by kernel_rfl)) (E.al 4 rfl (E.li (E.u (((K.w0 s i).s).pc)) 0 rfl rfl (E.bk (E.ta 7 (E.u (IntKind.wrap .u32 ((((K.w0 s i).s).pc) + i.imm))) rfl (E.ta 8 (E.pt g5) rfl ?_)))))))))))
    exact E.ta 9 (.pointer (some ⟨g5, 24, none⟩)) rfl (E.ta 10 (.pointer (some ⟨g5, 24, none⟩)) rfl (E.al 11 rfl (E.st 0 (K.wk (⟨((K.w0 s i).u), ⟨(IntKind.wrap .u32 ((((K.w0 s i).s).pc) + i.imm)), ((K.w0 s i).s).r, ((K.w0 s i).s).f, ((K.w0 s i).s).c, ((K.w0 s i).s).st, ((K.w0 s i).s).du⟩, ((K.w0 s i).i), (K.w0 s i).k, (K.w0 s i).t⟩) m) rfl rfl (E.bk (E.H.done (by kernel_rfl) (E.P.nb (fun a w h1 h2 => dn _ _ _ (rest (⟨((K.w0 s i).u), ⟨(IntKind.wrap .u32 ((((K.w0 s i).s).pc) + i.imm)), ((K.w0 s i).s).r, ((K.w0 s i).s).f, ((K.w0 s i).s).c, ((K.w0 s i).s).st, ((K.w0 s i).s).du⟩, ((K.w0 s i).i), (K.w0 s i).k, (K.w0 s i).t⟩, V) (by unfold K.stepI; rw [hc4, cond_false, hc9, cond_false, hc13, cond_false, hc17, cond_false, hc21, cond_false, hc25, cond_false, hc29, cond_false, hc33, cond_true, hc34, cond_true] <;> rfl)) a w (h1.sub ⟨by kernel_rfl, by kernel_rfl⟩) (h2.less Nz.sub))))))))
   exact E.C.skip (E.P.nb (fun a w h1 h2 => dn _ _ _ (rest (K.w0 s i, V) (by unfold K.stepI; rw [hc4, cond_false, hc9, cond_false, hc13, cond_false, hc17, cond_false, hc21, cond_false, hc25, cond_false, hc29, cond_false, hc33, cond_true, hc34, cond_false] <;> rfl)) a w (h1.sub ⟨by kernel_rfl, by kernel_rfl⟩) (h2.less Nz.sub)))
  exact E.C.region (E.op (E.pt g5) (A.G.call (I := Unit) (D := fun _ => True) (V := fun _ => .tuple #[]) (q := fun _ => [A.blk g5 (K.wk ((K.control (K.w0 s i) V).1) m), M.It m ((K.control (K.w0 s i) V).2) xs]) [A.blk α ([E.i i.op, E.i i.d, E.i i.s, E.i i.ix, E.i i.sc, E.u i.imm, E.i i.sz]), A.blk g3 ([E.i 0, E.u 0]), A.blk g2 (Q.S.cells Q.z0), A.blk g1 (Q.S.cells s)] (fun _ => [(g5, (K.wk ((K.control (K.w0 s i) V).1) m)), (α, [E.i i.op, E.i i.d, E.i i.s, E.i i.ix, E.i i.sc, E.u i.imm, E.i i.sz]), (g3, [E.i 0, E.u 0]), (g2, (Q.S.cells Q.z0)), (g1, (Q.S.cells s))]) (fun _ => [M.It m ((K.control (K.w0 s i) V).2) xs]) (Control_w (b := g5) (m := m) (xs := xs) (K.w0 s i) V (K.w0_wf hs) (hi (K.eq0 hc4)) hV) (by kernel_rfl) (A.pn [0, 5, 1, 2, 3, 4]) (fun _ => A.pm [0, 2, 3, 4, 5, 1] (by kernel_rfl) (by kernel_rfl)) (fun w _ => by kernel_rfl) (by kernel_rfl) (fun _ hd35 => E.P.nb (fun a w h1 h2 => dn _ _ _ (rest ((K.control (K.w0 s i) V).1, (K.control (K.w0 s i) V).2) (by unfold K.stepI; rw [hc4, cond_false, hc9, cond_false, hc13, cond_false, hc17, cond_false, hc21, cond_false, hc25, cond_false, hc29, cond_false, hc33, cond_false] <;> rfl)) a w (h1.sub ⟨by kernel_rfl, by kernel_rfl⟩) (h2.less Nz.sub)))))
 have nd3 : ∀ (α β : Nat), H 1 (E.bits 13 4095) [(1, .iface 35 (E.pt m)), (2, E.pt g1), (4, E.pt g2), (5, E.pt g3), (6, E.pt α), (7, E.pt β), (18, .agg #[E.i k, E.u t])] (A.X w oo aa [M.It m V xs]) [(α, [E.i i.op, E.i i.d, E.i i.s, E.i i.ix, E.i i.sc, E.u i.imm, E.i i.sz]), (β, [E.i 0, E.u 0]), (g3, [E.i 0, E.u 0]), (g2, (Q.S.cells Q.z0)), (g1, (Q.S.cells s))] := by
  intro α β
  exact up _ _ _ _ _ (E.al 12 rfl (E.st 1 [E.i k, E.u t] rfl rfl (E.H.back (fun w h => A.hq [2, 3, 4] [0, 1, 5] h) (E.ho (dn _ _ _ _ _ (nd4 α β))))))
 have nd2 : ∀ (α β : Nat), H 2 (E.bits 13 2047) [(1, .iface 35 (E.pt m)), (2, E.pt g1), (4, E.pt g2), (5, E.pt g3), (6, E.pt α), (7, E.pt β), (17, .agg #[E.i i.op, E.i i.d, E.i i.s, E.i i.ix, E.i i.sc, E.u i.imm, E.i i.sz]), (18, .agg #[E.i k, E.u t])] (A.X w oo aa [M.It m V xs]) [(α, [E.i 0, E.i 0, E.i 0, E.i 0, E.i 0, E.u 0, E.i 0]), (β, [E.i 0, E.u 0]), (g3, [E.i 0, E.u 0]), (g2, (Q.S.cells Q.z0)), (g1, (Q.S.cells s))] := by
  intro α β
  exact up _ _ _ _ _ (E.al 11 rfl (E.st 0 [E.i i.op, E.i i.d, E.i i.s, E.i i.ix, E.i i.sc, E.u i.imm, E.i i.sz] rfl rfl (E.H.back (fun w h => A.hq [2, 3, 4] [0, 1, 5] h) (E.ho (dn _ _ _ _ _ (nd3 α β))))))
 have nd1 : ∀ (α : Nat), H 3 (E.bits 13 1023) [(1, .iface 35 (E.pt m)), (2, E.pt g1), (4, E.pt g2), (5, E.pt g3), (6, E.pt α), (17, .agg #[E.i i.op, E.i i.d, E.i i.s, E.i i.ix, E.i i.sc, E.u i.imm, E.i i.sz]), (18, .agg #[E.i k, E.u t])] (A.X w oo aa [M.It m V xs]) [(α, [E.i 0, E.i 0, E.i 0, E.i 0, E.i 0, E.u 0, E.i 0]), (g3, [E.i 0, E.u 0]), (g2, (Q.S.cells Q.z0)), (g1, (Q.S.cells s))] := by
  intro α
  exact up _ _ _ _ _ (E.al 10 rfl (E.nw [E.i 0, E.u 0] 47 (fun β => E.H.back (fun w h => A.hq [2, 3, 4] [0, 1, 5] h) (E.H.toP _ _ [(α, [E.i 0, E.i 0, E.i 0, E.i 0, E.i 0, E.u 0, E.i 0]), (β, [E.i 0, E.u 0]), (g3, [E.i 0, E.u 0]), (g2, (Q.S.cells Q.z0)), (g1, (Q.S.cells s))] (by kernel_rfl) ⟨by kernel_rfl, by kernel_rfl⟩ (A.pn [1, 0, 2, 3, 4]) (dn _ _ _ _ _ (nd2 α β))))))
 have nd5 : ∀ (β : Nat), H 3 (E.bits 13 1535) [(1, .iface 35 (E.pt m)), (2, E.pt g1), (4, E.pt g2), (5, E.pt g3), (7, E.pt β), (17, .agg #[E.i i.op, E.i i.d, E.i i.s, E.i i.ix, E.i i.sc, E.u i.imm, E.i i.sz]), (18, .agg #[E.i k, E.u t])] (A.X w oo aa [M.It m V xs]) [(β, [E.i 0, E.u 0]), (g3, [E.i 0, E.u 0]), (g2, (Q.S.cells Q.z0)), (g1, (Q.S.cells s))] := by
  intro β
  exact up _ _ _ _ _ (E.al 9 rfl (E.nw [E.i 0, E.i 0, E.i 0, E.i 0, E.i 0, E.u 0, E.i 0] 66 (fun α => E.H.back (fun w h => A.hq [2, 3, 4] [0, 1, 5] h) (E.ho (dn _ _ _ _ _ (nd2 α β))))))
 have nd0 : H 7 (E.bits 13 63) [(1, .iface 35 (E.pt m)), (2, E.pt g1), (4, E.pt g2), (5, E.pt g3), (16, .tuple #[.agg #[E.i i.op, E.i i.d, E.i i.s, E.i i.ix, E.i i.sc, E.u i.imm, E.i i.sz], .agg #[E.i k, E.u t]])] (A.X w oo aa [M.It m V xs]) [(g3, [E.i 0, E.u 0]), (g2, (Q.S.cells Q.z0)), (g1, (Q.S.cells s))] := by
  refine up _ _ _ _ _ (E.tk 6 (.tuple #[.agg #[E.i i.op, E.i i.d, E.i i.s, E.i i.ix, E.i i.sc, E.u i.imm, E.i i.sz], .agg #[E.i k, E.u t]]) rfl (fun w h => A.hpY0 h (by kernel_rfl)) (E.tk 7 (.agg #[E.i i.op, E.i i.d, E.i i.s, E.i i.ix, E.i i.sc, E.u i.imm, E.i i.sz]) rfl (fun w h => A.hpY0 h (by kernel_rfl)) (E.tk 8 (.agg #[E.i k, E.u t]) rfl (fun w h => A.hpY0 h (by kernel_rfl)) (E.al2 9 10 rfl rfl ?_ ?_))))
  ·
   exact E.nw [E.i 0, E.i 0, E.i 0, E.i 0, E.i 0, E.u 0, E.i 0] 66 (fun α => E.H.back (fun w h => A.hq [1, 2, 3] [0, 4] h) (E.ho (dn _ _ _ _ _ (nd1 α))))
  exact E.nw [E.i 0, E.u 0] 47 (fun β => E.H.back (fun w h => A.hq [1, 2, 3] [0, 4] h) (E.ho (dn _ _ _ _ _ (nd5 β))))
 have nd7 : ∀ (α : Nat), H 6 (E.bits 13 575) [(1, .iface 35 (E.pt m)), (2, E.pt g1), (4, E.pt g2), (5, E.pt g3), (6, E.pt α), (16, .tuple #[.agg #[E.i i.op, E.i i.d, E.i i.s, E.i i.ix, E.i i.sc, E.u i.imm, E.i i.sz], .agg #[E.i k, E.u t]])] (A.X w oo aa [M.It m V xs]) [(α, [E.i 0, E.i 0, E.i 0, E.i 0, E.i 0, E.u 0, E.i 0]), (g3, [E.i 0, E.u 0]), (g2, (Q.S.cells Q.z0)), (g1, (Q.S.cells s))] := by
  intro α
  exact up _ _ _ _ _ (E.tk 6 (.tuple #[.agg #[E.i i.op, E.i i.d, E.i i.s, E.i i.ix, E.i i.sc, E.u i.imm, E.i i.sz], .agg #[E.i k, E.u t]]) rfl (fun w h => A.hq [1, 2, 3] [0, 4] h) (E.tk 7 (.agg #[E.i i.op, E.i i.d, E.i i.s, E.i i.ix, E.i i.sc, E.u i.imm, E.i i.sz]) rfl (fun w h => A.hq [1, 2, 3] [0, 4] h) (E.tk 8 (.agg #[E.i k, E.u t]) rfl (fun w h => A.hq [1, 2, 3] [0, 4] h) (E.al 10 rfl (E.nw [E.i 0, E.u 0] 47 (fun β => E.H.back (fun w h => A.hq [2, 3, 4] [0, 1, 5] h) (E.H.toP _ _ [(α, [E.i 0, E.i 0, E.i 0, E.i 0, E.i 0, E.u 0, E.i 0]), (β, [E.i 0, E.u 0]), (g3, [E.i 0, E.u 0]), (g2, (Q.S.cells Q.z0)), (g1, (Q.S.cells s))] (by kernel_rfl) ⟨by kernel_rfl, by kernel_rfl⟩ (A.pn [1, 0, 2, 3, 4]) (dn _ _ _ _ _ (nd2 α β)))))))))
 have nd9 : ∀ (α β : Nat), H 5 (E.bits 13 1599) [(1, .iface 35 (E.pt m)), (2, E.pt g1), (4, E.pt g2), (5, E.pt g3), (6, E.pt α), (7, E.pt β), (16, .tuple #[.agg #[E.i i.op, E.i i.d, E.i i.s, E.i i.ix, E.i i.sc, E.u i.imm, E.i i.sz], .agg #[E.i k, E.u t]])] (A.X w oo aa [M.It m V xs]) [(α, [E.i 0, E.i 0, E.i 0, E.i 0, E.i 0, E.u 0, E.i 0]), (β, [E.i 0, E.u 0]), (g3, [E.i 0, E.u 0]), (g2, (Q.S.cells Q.z0)), (g1, (Q.S.cells s))] := by
  intro α β
  exact up _ _ _ _ _ (E.tk 6 (.tuple #[.agg #[E.i i.op, E.i i.d, E.i i.s, E.i i.ix, E.i i.sc, E.u i.imm, E.i i.sz], .agg #[E.i k, E.u t]]) rfl (fun w h => A.hq [2, 3, 4] [0, 1, 5] h) (E.tk 7 (.agg #[E.i i.op, E.i i.d, E.i i.s, E.i i.ix, E.i i.sc, E.u i.imm, E.i i.sz]) rfl (fun w h => A.hq [2, 3, 4] [0, 1, 5] h) (E.tk 8 (.agg #[E.i k, E.u t]) rfl (fun w h => A.hq [2, 3, 4] [0, 1, 5] h) (E.al 11 rfl (E.st 0 [E.i i.op, E.i i.d, E.i i.s, E.i i.ix, E.i i.sc, E.u i.imm, E.i i.sz] rfl rfl (E.H.back (fun w h => A.hq [2, 3, 4] [0, 1, 5] h) (E.ho (dn _ _ _ _ _ (nd3 α β)))))))))
 have nd8 : ∀ (α β : Nat), H 6 (E.bits 13 1567) [(1, .iface 35 (E.pt m)), (2, E.pt g1), (4, E.pt g2), (5, E.pt g3), (6, E.pt α), (7, E.pt β), (12, E.u s.pc), (15, .func (.method "Fetch") #[.iface 35 (E.pt m)] #[])] (A.X w oo aa [M.It m V xs]) [(α, [E.i 0, E.i 0, E.i 0, E.i 0, E.i 0, E.u 0, E.i 0]), (β, [E.i 0, E.u 0]), (g3, [E.i 0, E.u 0]), (g2, (Q.S.cells Q.z0)), (g1, (Q.S.cells s))] := by
  intro α β
  exact up _ _ _ _ _ (E.al 5 rfl (E.ca (.tuple #[.agg #[E.i i.op, E.i i.d, E.i i.s, E.i i.ix, E.i i.sc, E.u i.imm, E.i i.sz], .agg #[E.i k, E.u t]]) (fun w h => A.cq [5] [0, 1, 2, 3, 4] (A.rdAs (v' := .tuple #[.agg #[E.i i.op, E.i i.d, E.i i.s, E.i i.ix, E.i i.sc, E.u i.imm, E.i i.sz], .agg #[E.i k, E.u t]]) (Fetch_rd (m := m) (xs := xs) V s.pc hs.pc) (by rw [hf] <;> rfl)) h) (E.H.back (fun w h => A.hq [2, 3, 4] [0, 1, 5] h) (E.ho (dn _ _ _ _ _ (nd9 α β))))))
 have nd6 : ∀ (α : Nat), H 7 (E.bits 13 543) [(1, .iface 35 (E.pt m)), (2, E.pt g1), (4, E.pt g2), (5, E.pt g3), (6, E.pt α), (12, E.u s.pc), (15, .func (.method "Fetch") #[.iface 35 (E.pt m)] #[])] (A.X w oo aa [M.It m V xs]) [(α, [E.i 0, E.i 0, E.i 0, E.i 0, E.i 0, E.u 0, E.i 0]), (g3, [E.i 0, E.u 0]), (g2, (Q.S.cells Q.z0)), (g1, (Q.S.cells s))] := by
  intro α
  refine up _ _ _ _ _ (E.al2 5 10 rfl rfl ?_ ?_)
  ·
   exact E.ca (.tuple #[.agg #[E.i i.op, E.i i.d, E.i i.s, E.i i.ix, E.i i.sc, E.u i.imm, E.i i.sz], .agg #[E.i k, E.u t]]) (fun w h => A.cq [4] [0, 1, 2, 3] (A.rdAs (v' := .tuple #[.agg #[E.i i.op, E.i i.d, E.i i.s, E.i i.ix, E.i i.sc, E.u i.imm, E.i i.sz], .agg #[E.i k, E.u t]]) (Fetch_rd (m := m) (xs := xs) V s.pc hs.pc) (by rw [hf] <;> rfl)) h) (E.H.back (fun w h => A.hq [1, 2, 3] [0, 4] h) (E.ho (dn _ _ _ _ _ (nd7 α))))
  exact E.nw [E.i 0, E.u 0] 47 (fun β => E.H.back (fun w h => A.hq [2, 3, 4] [0, 1, 5] h) (E.H.toP _ _ [(α, [E.i 0, E.i 0, E.i 0, E.i 0, E.i 0, E.u 0, E.i 0]), (β, [E.i 0, E.u 0]), (g3, [E.i 0, E.u 0]), (g2, (Q.S.cells Q.z0)), (g1, (Q.S.cells s))] (by kernel_rfl) ⟨by kernel_rfl, by kernel_rfl⟩ (A.pn [1, 0, 2, 3, 4]) (dn _ _ _ _ _ (nd8 α β))))
 have nd11 : ∀ (β : Nat), H 6 (E.bits 13 1087) [(1, .iface 35 (E.pt m)), (2, E.pt g1), (4, E.pt g2), (5, E.pt g3), (7, E.pt β), (16, .tuple #[.agg #[E.i i.op, E.i i.d, E.i i.s, E.i i.ix, E.i i.sc, E.u i.imm, E.i i.sz], .agg #[E.i k, E.u t]])] (A.X w oo aa [M.It m V xs]) [(β, [E.i 0, E.u 0]), (g3, [E.i 0, E.u 0]), (g2, (Q.S.cells Q.z0)), (g1, (Q.S.cells s))] := by
  intro β
  exact up _ _ _ _ _ (E.tk 6 (.tuple #[.agg #[E.i i.op, E.i i.d, E.i i.s, E.i i.ix, E.i i.sc, E.u i.imm, E.i i.sz], .agg #[E.i k, E.u t]]) rfl (fun w h => A.hq [1, 2, 3] [0, 4] h) (E.tk 7 (.agg #[E.i i.op, E.i i.d, E.i i.s, E.i i.ix, E.i i.sc, E.u i.imm, E.i i.sz]) rfl (fun w h => A.hq [1, 2, 3] [0, 4] h) (E.tk 8 (.agg #[E.i k, E.u t]) rfl (fun w h => A.hq [1, 2, 3] [0, 4] h) (E.al 9 rfl (E.nw [E.i 0, E.i 0, E.i 0, E.i 0, E.i 0, E.u 0, E.i 0] 66 (fun α => E.H.back (fun w h => A.hq [2, 3, 4] [0, 1, 5] h) (E.ho (dn _ _ _ _ _ (nd2 α β)))))))))
 have nd10 : ∀ (β : Nat), H 7 (E.bits 13 1055) [(1, .iface 35 (E.pt m)), (2, E.pt g1), (4, E.pt g2), (5, E.pt g3), (7, E.pt β), (12, E.u s.pc), (15, .func (.method "Fetch") #[.iface 35 (E.pt m)] #[])] (A.X w oo aa [M.It m V xs]) [(β, [E.i 0, E.u 0]), (g3, [E.i 0, E.u 0]), (g2, (Q.S.cells Q.z0)), (g1, (Q.S.cells s))] := by
  intro β
  refine up _ _ _ _ _ (E.al2 5 9 rfl rfl ?_ ?_)
  ·
   exact E.ca (.tuple #[.agg #[E.i i.op, E.i i.d, E.i i.s, E.i i.ix, E.i i.sc, E.u i.imm, E.i i.sz], .agg #[E.i k, E.u t]]) (fun w h => A.cq [4] [0, 1, 2, 3] (A.rdAs (v' := .tuple #[.agg #[E.i i.op, E.i i.d, E.i i.s, E.i i.ix, E.i i.sc, E.u i.imm, E.i i.sz], .agg #[E.i k, E.u t]]) (Fetch_rd (m := m) (xs := xs) V s.pc hs.pc) (by rw [hf] <;> rfl)) h) (E.H.back (fun w h => A.hq [1, 2, 3] [0, 4] h) (E.ho (dn _ _ _ _ _ (nd11 β))))
  exact E.nw [E.i 0, E.i 0, E.i 0, E.i 0, E.i 0, E.u 0, E.i 0] 66 (fun α => E.H.back (fun w h => A.hq [2, 3, 4] [0, 1, 5] h) (E.ho (dn _ _ _ _ _ (nd8 α β))))
 refine up _ _ _ _ _ (E.tk 0 (E.pt g1) rfl (fun w h => A.hpY0 h (by kernel_rfl)) (E.tj 1 (E.u s.pc) rfl (fun w h => A.hpY0 h (by kernel_rfl)) (fun w h => A.Y.bld h (k := 2) (j := 0) rfl (by kernel_rfl) (by kernel_rfl)) (E.tk 2 (.iface 35 (E.pt m)) rfl (fun w h => A.hpY0 h (by kernel_rfl)) (E.tk 3 (.iface 35 (E.pt m)) rfl (fun w h => A.hpY0 h (by kernel_rfl)) (E.tk 4 (.func (.method "Fetch") #[.iface 35 (E.pt m)] #[]) rfl (fun w h => A.hpY0 h (by kernel_rfl)) (E.al3 5 9 10 rfl rfl rfl ?_ ?_ ?_))))))
 ·
  exact E.ca (.tuple #[.agg #[E.i i.op, E.i i.d, E.i i.s, E.i i.ix, E.i i.sc, E.u i.imm, E.i i.sz], .agg #[E.i k, E.u t]]) (fun w h => A.cq [3] [0, 1, 2] (A.rdAs (v' := .tuple #[.agg #[E.i i.op, E.i i.d, E.i i.s, E.i i.ix, E.i i.sc, E.u i.imm, E.i i.sz], .agg #[E.i k, E.u t]]) (Fetch_rd (m := m) (xs := xs) V s.pc hs.pc) (by rw [hf] <;> rfl)) h) (E.hb (dn _ _ _ _ _ (nd0)))
 ·
  exact E.nw [E.i 0, E.i 0, E.i 0, E.i 0, E.i 0, E.u 0, E.i 0] 66 (fun α => E.H.back (fun w h => A.hq [1, 2, 3] [0, 4] h) (E.ho (dn _ _ _ _ _ (nd6 α))))
 exact E.nw [E.i 0, E.u 0] 47 (fun β => E.H.back (fun w h => A.hq [1, 2, 3] [0, 4] h) (E.ho (dn _ _ _ _ _ (nd10 β))))
theorem K.valid_ok {i : K.Ins} (hm : 0 ≤ i.imm ∧ i.imm < 4294967296) (h : K.valid i = true) : K.iok i := by
  have hr : K.rng i = true := by
    unfold K.valid at h
    split at h
    · exact Bool.noConfusion (show false = true from h)
    · unfold K.valid1 at h
      cases hq : K.rng i
      · rw [hq] at h; simp at h
      · rfl
  unfold K.rng at hr
  simp only [K.in_one, Bool.and_eq_true, decide_eq_true_eq] at hr
  obtain ⟨⟨a0, a1⟩, ⟨b0, b1⟩, ⟨c0, c1⟩, d0, d1⟩ := hr
  have hmo : K.most i.op ≤ 7 := by unfold K.most; split <;> (try split) <;> omega
  refine ⟨⟨a0, by omega⟩, ⟨b0, by omega⟩, ⟨c0, by omega⟩, ⟨d0, by omega⟩, hm, fun hg => ?_⟩
  have e : i.op = 129 := by simpa using hg
  rw [e] at b1
  have : K.most 129 = 3 := rfl
  omega
theorem K.decode_ok {s : ByteArray} (h : ((K.decode s).2 != 0) = false) : K.iok (K.decode s).1 := by
  unfold K.decode at h ⊢
  split at h
  · unfold K.decode0 at h
    cases hb : (s.toList == (⟨#[]⟩ : ByteArray).toList) <;> rw [hb] at h <;> cases h
  · next k hk =>
    show K.iok (K.decode1 k s).1
    unfold K.decode1 at h ⊢
    revert h
    refine Q.bifP (p := fun x : K.Ins × Int => (x.2 != 0) = false → K.iok x.1) (fun _ h => nomatch h) fun _ => ?_
    refine Q.bifP (p := fun x : K.Ins × Int => (x.2 != 0) = false → K.iok x.1) (fun _ h => nomatch h) fun _ => ?_
    refine Q.bifP (p := fun x : K.Ins × Int => (x.2 != 0) = false → K.iok x.1) (fun _ h => nomatch h) fun hv _ => ?_
    exact K.valid_ok (K.rd_imm k (K.fmt_lt hk) _ _) (by rw [Bool.not_eq_false'] at hv; exact hv)
theorem K.fetch_ok {V : M.V} {p : Int} (h : ((K.fetch V p).2.1 == 0) = true) : K.iok (K.fetch V p).1 := by
  unfold K.fetch at h ⊢
  revert h
  repeat' (first
    | (exact fun h => absurd h (by decide : ¬ (((5 : Int) == 0) = true)))
    | (exact fun h => absurd h (by decide : ¬ (((7 : Int) == 0) = true)))
    | (refine Q.bifP (p := fun x : K.Ins × Int × Int => (x.2.1 == 0) = true → K.iok x.1) (fun _ h => absurd h (by decide : ¬ (((7 : Int) == 0) = true))) (fun hd _ => K.decode_ok hd))
    | (refine Q.bifP (p := fun x : K.Ins × Int × Int => (x.2.1 == 0) = true → K.iok x.1) (fun _ => ?_) (fun _ => ?_)))
theorem Q.wf_sto {V : M.V} (h : R.Wf V) (a : Nat) (n v : Int) : R.Wf (V.sto a n v) := by
  unfold M.V.sto; split
  · exact h.put _ _ _
  · exact h
abbrev K.wf2 (y : K.W × M.V) : Prop := K.wf y.1 ∧ R.Wf y.2
section
variable {x : K.W} {V : M.V} (hx : K.wf x) (hV : R.Wf V)
theorem K.wf.pc (hx : K.wf x) {p : Int} (hp : 0 ≤ p ∧ p < 4294967296) {f st du k t : Int} {i : K.Ins} : K.wf ⟨x.u, ⟨p, x.s.r, f, x.s.c, st, du⟩, i, k, t⟩ := ⟨hx.u, ⟨hp, hx.s.r, hx.s.c⟩⟩
theorem K.wf.up (hx : K.wf x) {D : Nat} {v : Int} (hv : 0 ≤ v ∧ v < 4294967296) {f st du k t : Int} {i : K.Ins} : K.wf ⟨x.u, ⟨x.s.pc, Q.up x.s.r D v, f, x.s.c, st, du⟩, i, k, t⟩ := ⟨hx.u, ⟨hx.s.pc, Q.up_bd hx.s.r hv, hx.s.c⟩⟩
theorem K.wf.uc (hx : K.wf x) {D : Nat} {v : Int} (hv : 0 ≤ v ∧ v < 4294967296) {f st du k t : Int} {i : K.Ins} : K.wf ⟨x.u, ⟨x.s.pc, x.s.r, f, Q.up x.s.c D v, st, du⟩, i, k, t⟩ := ⟨hx.u, ⟨hx.s.pc, hx.s.r, Q.up_bd hx.s.c hv⟩⟩
theorem K.wf.any (hx : K.wf x) {f st du k t : Int} {i : K.Ins} : K.wf ⟨x.u, ⟨x.s.pc, x.s.r, f, x.s.c, st, du⟩, i, k, t⟩ := ⟨hx.u, ⟨hx.s.pc, hx.s.r, hx.s.c⟩⟩
theorem K.wf.fl (hx : K.wf x) (k p q : Int) : K.wf (K.flags x k p q) := ⟨hx.u, ⟨hx.s.pc, hx.s.r, hx.s.c⟩⟩
include hx hV
theorem K.put_wf (a n v : Int) : K.wf2 (K.put x V a n v) := Q.bifP (p := K.wf2) (fun _ => ⟨⟨hx.u, hx.s⟩, Q.wf_sto hV _ _ _⟩) (fun _ => ⟨hx, Q.wf_sto hV _ _ _⟩)
theorem K.ga1_wf (a n D : Int) : K.wf2 (K.ga1 x V a n D) := Q.bifP (p := K.wf2) (fun _ => ⟨⟨hx.u, hx.s⟩, hV⟩) (fun _ => ⟨hx.up (M.load_bd hV _ _), hV⟩)
theorem K.ga2_wf (a n D : Int) : K.wf2 (K.ga2 x V a n D) := Q.bifP (p := K.wf2) (fun _ => ⟨⟨hx.u, hx.s⟩, hV⟩) (fun _ => ⟨hx.up (M.load_bd hV _ _), hV⟩)
theorem K.gs1_wf (a n D : Int) : K.wf2 (K.gs1 x V a n D) := Q.bifP (p := K.wf2) (fun _ => ⟨⟨hx.u, hx.s⟩, hV⟩) (fun _ => ⟨hx.up (M.load_bd hV _ _), hV⟩)
theorem K.gc1_wf (a n : Int) : K.wf2 (K.gc1 x V a n) := Q.bifP (p := K.wf2) (fun _ => ⟨⟨hx.u, hx.s⟩, hV⟩) (fun _ => ⟨hx.pc (M.load_bd hV _ _), hV⟩)
theorem K.ga3_wf (a n D p : Int) : K.wf2 (K.ga3 x V a n D p) := Q.bifP (p := K.wf2) (fun _ => ⟨⟨hx.u, hx.s⟩, hV⟩) (fun _ => ⟨hx.up (Q.wrap_bd _), hV⟩)
theorem K.ga4_wf (a n p : Int) : K.wf2 (K.ga4 x V a n p) := Q.bifP (p := K.wf2) (fun _ => ⟨⟨hx.u, hx.s⟩, hV⟩) (fun _ => K.put_wf (hx.fl _ _ _) hV _ _ _)
theorem K.push_wf (v : Int) : K.wf2 (K.push x V v) := K.put_wf (hx.up (Q.wrap_bd _)) hV _ _ _
theorem K.ps1_wf (D : Int) : K.wf2 (K.ps1 x V D) := K.gs1_wf (hx.up (Q.wrap_bd _)) hV _ _ _
theorem K.pc1_wf : K.wf2 (K.pc1 x V) := K.gc1_wf (hx.up (Q.wrap_bd _)) hV _ _
theorem K.single_wf : K.wf2 (K.single x V) := by
  unfold K.single
  refine Q.bifP (p := K.wf2) (fun _ => K.push_wf hx hV _) fun _ => ?_
  refine Q.bifP (p := K.wf2) (fun _ => K.ps1_wf hx hV _) fun _ => ?_
  refine Q.bifP (p := K.wf2) (fun _ => ⟨hx.up (Q.wrap_bd _), hV⟩) fun _ => ?_
  refine Q.bifP (p := K.wf2) (fun _ => ⟨hx.up (W.bits_bd _ _ _), hV⟩) fun _ => ?_
  refine Q.bifP (p := K.wf2) (fun _ => ⟨(K.push_wf hx hV _).1.pc (hx.s.r _), (K.push_wf hx hV _).2⟩) fun _ => ?_
  exact Q.bifP (p := K.wf2) (fun _ => ⟨hx.pc (hx.s.r _), hV⟩) fun _ => ⟨hx, hV⟩
theorem K.control_wf (hi : K.iok x.i) : K.wf2 (K.control x V) := by
  unfold K.control
  refine Q.bifP (p := K.wf2) (fun _ => K.pc1_wf hx hV) fun _ => ?_
  refine Q.bifP (p := K.wf2) (fun _ => ⟨hx.any, hV⟩) fun _ => ?_
  refine Q.bifP (p := K.wf2) (fun _ => ⟨hx.any, hV⟩) fun _ => ?_
  refine Q.bifP (p := K.wf2) (fun _ => ⟨hx.pc (hx.s.c _), hV⟩) fun _ => ?_
  refine Q.bifP (p := K.wf2) (fun _ => ⟨(K.push_wf hx hV _).1.pc (Q.wrap_bd _), (K.push_wf hx hV _).2⟩) fun _ => ?_
  refine Q.bifP (p := K.wf2) (fun _ => ⟨hx.pc (Q.wrap_bd _), hV⟩) fun _ => ?_
  refine Q.bifP (p := K.wf2) (fun _ => ⟨hx.any, hV⟩) fun _ => ?_
  refine Q.bifP (p := K.wf2) (fun _ => ⟨hx.up (hx.s.c _), hV⟩) fun _ => ?_
  refine Q.bifP (p := K.wf2) (fun _ => ?_) fun _ => ⟨hx, hV⟩
  refine Q.bifP (p := K.wf2) (fun _ => ⟨hx.uc (hx.s.r _), hV⟩) fun _ => ?_
  refine Q.bifP (p := K.wf2) (fun _ => ⟨hx.uc (hx.s.r _), hV⟩) fun _ => ?_
  refine Q.bifP (p := K.wf2) (fun _ => ?_) fun _ => ⟨hx, hV⟩
  exact Q.bifP (p := K.wf2) (fun _ => ⟨hx.any, hV⟩) fun _ => ⟨hx.any, hV⟩
theorem K.access_wf (o : Int) : K.wf2 (K.access x V o) := by
  unfold K.access
  refine Q.bifP (p := K.wf2) (fun _ => K.ga1_wf hx hV _ _ _) fun _ => ?_
  refine Q.bifP (p := K.wf2) (fun _ => K.ga2_wf hx hV _ _ _) fun _ => ?_
  refine Q.bifP (p := K.wf2) (fun _ => K.put_wf hx hV _ _ _) fun _ => ?_
  refine Q.bifP (p := K.wf2) (fun _ => K.put_wf hx hV _ _ _) fun _ => ?_
  refine Q.bifP (p := K.wf2) (fun _ => ⟨hx.up (Q.bif_bd (Q.wrap_bd _) (Q.wrap_bd _)), hV⟩) fun _ => ?_
  refine Q.bifP (p := K.wf2) (fun _ => K.ga3_wf hx hV _ _ _ _) fun _ => ?_
  exact Q.bifP (p := K.wf2) (fun _ => K.ga4_wf hx hV _ _ _) fun _ => ⟨hx, hV⟩
omit hV hx in
theorem K.res_v {o a b q : Int} (ha : 0 ≤ a ∧ a < 4294967296) (hb : 0 ≤ b ∧ b < 4294967296) : 0 ≤ (K.res o a b q).v ∧ (K.res o a b q).v < 4294967296 := by
  let p : K.R → Prop := fun r => 0 ≤ r.v ∧ r.v < 4294967296
  have it : ∀ {c : Prop} [Decidable c] {x y : K.R}, p x → p y → p (if c then x else y) := fun hx hy => by split <;> assumption
  show p (K.res o a b q)
  unfold K.res
  exact it hb (it (Q.wrap_bd _) (it (Q.wrap_bd _) (it (Q.wrap_bd _) (it (Q.wrap_bd _) (it ha (it ha (W.op_bd _ _ _ ha.1 ha.2 hb.1)))))))
omit hV in
theorem K.arith_wf {o b : Int} (hb : 0 ≤ b ∧ b < 4294967296) : K.wf (K.arith x o b) := by
  unfold K.arith
  refine Q.bifP (p := K.wf) (fun _ => ⟨hx.u, hx.s⟩) fun _ => ?_
  refine Q.bifP (p := K.wf) (fun _ => ?_) fun _ => ?_
  · exact Q.bifP (p := K.wf) (fun _ => (hx.up (K.res_v (hx.s.r _) hb)).fl _ _ _) fun _ => hx.up (K.res_v (hx.s.r _) hb)
  · exact Q.bifP (p := K.wf) (fun _ => hx.fl _ _ _) fun _ => hx
end
theorem K.stepI_wf {i : K.Ins} {k t : Int} {s : Q.S} {V : M.V} (hi : (k == 0) = true → K.iok i) (hs : Q.wf s) (hV : R.Wf V) : Q.wf (K.stepI i k t s V).1 ∧ R.Wf (K.stepI i k t s V).2.2.2 := by
  let p : Q.S × Int × Int × M.V → Prop := fun x => Q.wf x.1 ∧ R.Wf x.2.2.2
  show p (K.stepI i k t s V)
  unfold K.stepI
  have hx : K.wf (K.w0 s i) := K.w0_wf hs
  refine Q.bifP (p := p) (fun _ => ⟨hs, hV⟩) fun hk => ?_
  have hI := hi (K.eq0 hk)
  have hA := fun o b (hb : 0 ≤ b ∧ b < 4294967296) => (K.arith_wf (o := o) hx hb).s
  have hb2 : ∀ {c : Bool} {y : K.W × M.V}, K.wf2 y → p (bif c then (s, y.1.k, y.1.t, y.2) else (y.1.s, y.1.k, y.1.t, y.2)) := fun h => Q.bifP (p := p) (fun _ => ⟨hs, h.2⟩) fun _ => ⟨h.1.s, h.2⟩
  refine Q.bifP (p := p) (fun _ => Q.bifP (p := p) (fun _ => ⟨hs, hV⟩) fun _ => ⟨hA _ _ (hs.r _), hV⟩) fun _ => ?_
  refine Q.bifP (p := p) (fun _ => Q.bifP (p := p) (fun _ => ⟨hs, hV⟩) fun _ => ⟨hA _ _ hI.imm, hV⟩) fun _ => ?_
  refine Q.bifP (p := p) (fun _ => Q.bifP (p := p) (fun _ => ⟨hs, hV⟩) fun _ => ⟨hA _ _ hI.imm, hV⟩) fun _ => ?_
  refine Q.bifP (p := p) (fun _ => hb2 (K.access_wf hx hV _)) fun _ => ?_
  refine Q.bifP (p := p) (fun _ => hb2 (K.access_wf hx hV _)) fun _ => ?_
  refine Q.bifP (p := p) (fun _ => hb2 (K.single_wf hx hV)) fun _ => ?_
  refine Q.bifP (p := p) (fun _ => ?_) fun _ => hb2 (K.control_wf hx hV hI)
  refine Q.bifP (p := p) (fun _ => Q.bifP (p := p) (fun _ => ⟨hs, hV⟩) fun _ => ⟨⟨Q.wrap_bd _, hx.s.r, hx.s.c⟩, hV⟩) fun _ => ?_
  exact Q.bifP (p := p) (fun _ => ⟨hs, hV⟩) fun _ => ⟨hx.s, hV⟩
/-- One step: the state behind it, the trap, the memory. -/
def K.step (s : Q.S) (V : M.V) : Q.S × Int × Int × M.V := K.stepI (K.fetch V s.pc).1 (K.fetch V s.pc).2.1 (K.fetch V s.pc).2.2 s V
theorem K.step_wf {s : Q.S} {V : M.V} (hs : Q.wf s) (hV : R.Wf V) : Q.wf (K.step s V).1 ∧ R.Wf (K.step s V).2.2.2 := K.stepI_wf K.fetch_ok hs hV
/-- A run: at n instructions of most, with fuel. -/
def K.run (most : Int) : Nat → Nat → Q.S → M.V → Q.S × Int × Int × M.V
  | 0, _, s, V => (s, 1, 0, V)
  | f + 1, n, s, V => bif (decide (s.du > 0) && decide (s.st ≥ s.du)) then (s, 8, 0, V) else bif (decide (((n : Nat) : Int) ≥ most)) then (s, 1, 0, V) else
    bif ((K.step s V).2.1 != 0) then (s, (K.step s V).2.1, (K.step s V).2.2.1, (K.step s V).2.2.2) else K.run most f (n + 1) (K.step s V).1 (K.step s V).2.2.2
/-- All of a run. -/
def K.runs (most : Int) (s : Q.S) (V : M.V) : Q.S × Int × Int × M.V := K.run most (most.toNat + 1) 0 s V
theorem Step_any {m : Nat} {xs : List Value} (s : Q.S) (V : M.V) (hs : Q.wf s) (hV : R.Wf V) : A.Tr Tryz.prog 20 #[Q.S.val s, .iface 35 (.pointer (some ⟨m, 0, none⟩))] [M.It m V xs] (I := Unit) (fun _ => True) (fun _ => .tuple #[Q.S.val ((K.step s V).1), .agg #[.int .i64 ((K.step s V).2.1), .int .u32 ((K.step s V).2.2.1)]]) (fun _ => [M.It m (K.step s V).2.2.2 xs]) := Step_i _ _ _ s V rfl K.fetch_ok hs hV
section
variable {most : Int} {F n : Nat} {s : Q.S} {V : M.V}
theorem K.run_f (h : n < F) : ∃ f, F - n = f + 1 ∧ F - (n + 1) = f := ⟨F - (n + 1), by omega, rfl⟩
theorem K.run_t (h : n < F) (h1 : (decide (s.du > 0) && decide (s.st ≥ s.du)) = true) : K.run most (F - n) n s V = (s, 8, 0, V) := by
  obtain ⟨f, e, _⟩ := K.run_f h
  rw [e, K.run, h1]; rfl
theorem K.run_b (h : n < F) (h1 : (decide (s.du > 0) && decide (s.st ≥ s.du)) = false) (h2 : decide (((n : Nat) : Int) ≥ most) = true) : K.run most (F - n) n s V = (s, 1, 0, V) := by
  obtain ⟨f, e, _⟩ := K.run_f h
  rw [e, K.run, h1, h2]; rfl
theorem K.run_s (h : n < F) (h1 : (decide (s.du > 0) && decide (s.st ≥ s.du)) = false) (h2 : decide (((n : Nat) : Int) ≥ most) = false) (h3 : ((K.step s V).2.1 != 0) = true) : K.run most (F - n) n s V = (s, (K.step s V).2.1, (K.step s V).2.2.1, (K.step s V).2.2.2) := by
  obtain ⟨f, e, _⟩ := K.run_f h
  rw [e, K.run, h1, h2, h3]; rfl
theorem K.run_n (h : n < F) (h1 : (decide (s.du > 0) && decide (s.st ≥ s.du)) = false) (h2 : decide (((n : Nat) : Int) ≥ most) = false) (h3 : ((K.step s V).2.1 != 0) = false) : K.run most (F - n) n s V = K.run most (F - (n + 1)) (n + 1) (K.step s V).1 (K.step s V).2.2.2 := by
  obtain ⟨f, e, e2⟩ := K.run_f h
  rw [e2, e, K.run, h1, h2, h3]; rfl
theorem K.run_lt (hm : most < 9223372036854775808) (h2 : decide (((n : Nat) : Int) ≥ most) = false) : n + 1 < most.toNat + 1 ∧ IntKind.wrap .i64 (((n : Nat) : Int) + 1) = ((n + 1 : Nat) : Int) := by
  have := of_decide_eq_false h2
  rw [IntKind.wrap_i64]
  omega
end
theorem CNew (n : Int) : A.Tr Tryz.prog 23 #[.int .i64 n] [] (I := Nat × Nat) (fun _ => True) (fun i => .pointer (some ⟨i.1, 0, none⟩)) (fun i => [A.blk i.1 (.pointer (some ⟨i.2, 0, none⟩) :: Q.S.cells Q.z0), M.It i.2 (M.V.new (M.np n) true) []]) := by
 intro w oo aa hh
 exact E.enter (n := 7) (S := oo) Tryz.func23 rfl rfl (by kernel_rfl) (A.start (L := []) hh) (E.sr (E.op (.pointer none) (E.tr (E.op (E.i n) (A.G.call (I := Nat) (D := fun m1 => True) (V := fun m1 => E.pt m1) (q := fun m1 => [M.It m1 (M.V.new (M.np n) true) ([])]) [] (fun m1 => []) (fun m1 => [M.It m1 (M.V.new (M.np n) true) ([])]) (A_New n true) (by kernel_rfl) (A.pn []) (fun m1 => A.pm [0] (by kernel_rfl) (by kernel_rfl)) (fun w _ => by kernel_rfl) (by kernel_rfl) (fun m1 hd2 => E.vl (.agg #[E.pt m1, E.u 0, E.u 0, E.u 0, E.u 0, E.u 0, E.u 0, E.u 0, E.u 0, E.u 0, E.u 0, E.u 0, E.u 0, E.u 0, E.u 0, E.u 0, E.u 0, E.u 0, E.u 0, E.u 0, E.u 0, E.u 0, E.u 0, E.i 0, E.i 0]) (fun w h => E.run_build #[E.pt m1, E.u 0, E.u 0, E.u 0, E.u 0, E.u 0, E.u 0, E.u 0, E.u 0, E.u 0, E.u 0, E.u 0, E.u 0, E.u 0, E.u 0, E.u 0, E.u 0, E.u 0, E.u 0, E.u 0, E.u 0, E.u 0, E.u 0, E.i 0, E.i 0] (by kernel_rfl) w) (E.nw (E.pt m1 :: Q.S.cells Q.z0) 129 (fun c3 => E.op (E.pt c3) (E.To.code (E.C.ret (E.bd Tryz.f23 [E.pt c3] (fun w h => ⟨(c3, m1), trivial, rfl, A.dq [0, 1] [] h⟩))))))))))))
theorem CState {c m : Nat} (s : Q.S) : A.Rd Tryz.prog 27 #[.pointer (some ⟨c, 0, none⟩)] [A.blk c (.pointer (some ⟨m, 0, none⟩) :: Q.S.cells s)] (Q.S.val s) := by
 intro w oo aa hh
 refine E.enter (n := 10) (S := fun _ => False) Tryz.func27 rfl rfl (by kernel_rfl) (A.startY hh) (E.sr (E.nw (Q.S.cells Q.z0) 26 (fun g1 => E.To.code (E.C.seq (E.sr (E.op (E.pt c) (E.op (.bool false) (E.To.code (E.C.condF (by kernel_rfl) (by kernel_rfl) (E.C.skip (E.To.code (E.sr ?_))))))))))))
 exact E.op (E.pt c) (E.op (E.pt c) (E.op (.pointer (some ⟨c, 1, none⟩)) (E.vl (Q.S.val s) (fun w h => A.Y.bld h.x (k := 0) (j := 1) rfl (by kernel_rfl) (by kernel_rfl)) (E.st 0 (Q.S.cells s) rfl rfl (E.To.code (E.C.ret (E.b0 Tryz.f27 [Q.S.val s] (fun w h => ⟨rfl, h.ch.bel (fun _ h => h.elim)⟩))))))))
theorem CMem {c m : Nat} {s : Q.S} : A.Rd Tryz.prog 65 #[.pointer (some ⟨c, 0, none⟩)] [A.blk c (.pointer (some ⟨m, 0, none⟩) :: Q.S.cells s)] (.pointer (some ⟨m, 0, none⟩)) := by
 intro w oo aa hh
 refine E.enter (n := 9) (S := fun _ => False) Tryz.func65 rfl rfl (by kernel_rfl) (A.startY hh) (E.sr (E.op (.pointer none) (E.To.code (E.C.seq (E.sr (E.op (E.pt c) (E.op (.bool false) (E.To.code (E.C.condF (by kernel_rfl) (by kernel_rfl) (E.C.skip (E.To.code (E.sr ?_))))))))))))
 exact E.op (E.pt c) (E.op (E.pt c) (E.op (E.pt c) (E.vl (E.pt m) (fun w h => A.Y.bld h.x (k := 0) (j := 0) rfl (by kernel_rfl) (by kernel_rfl)) (E.op (E.pt m) (E.To.code (E.C.ret (E.bd Tryz.f65 [E.pt m] (fun w h => ⟨rfl, h.ch.bel (fun _ h => h.elim)⟩))))))))
def K.norm (s : Q.S) : Q.S := ⟨s.pc, (Q.up (Q.up (Q.up (Q.up (Q.up (Q.up (Q.up (Q.up s.r 8 0) 9 0) 10 0) 11 0) 12 0) 13 0) 14 0) 15 0), (bits .and .u32 s.f 15), s.c, (if 0 > s.st then 0 else s.st), (if 0 > s.du then 0 else s.du)⟩
theorem CSet {c m : Nat} {s0 : Q.S} (s : Q.S)  : A.Tr Tryz.prog 25 #[.pointer (some ⟨c, 0, none⟩), Q.S.val s] [A.blk c (.pointer (some ⟨m, 0, none⟩) :: Q.S.cells s0)] (I := Unit) (fun _ => True) (fun _ => .tuple #[]) (fun _ => [A.blk c (.pointer (some ⟨m, 0, none⟩) :: Q.S.cells (K.norm s))]) := by
 intro w oo aa hh
 refine E.enter (n := 30) (S := oo) Tryz.func25 rfl rfl (by kernel_rfl) (A.start (L := [(c, (E.pt m :: Q.S.cells s0))]) hh) (E.sr (E.nw (Q.S.cells s) 26 (fun g1 => E.To.code (E.C.seq (E.sr (E.op (E.pt c) (E.op (.bool false) (E.To.code (E.C.condF (by kernel_rfl) (by kernel_rfl) (E.C.skip (E.To.code (E.C.seq ?_))))))))))))
 refine E.sr (E.op (E.i 8) (E.To.code (E.C.block (E.C.rounds 9 (E.C.seq (E.sr (E.op (E.i 8) (E.op (.bool true) (E.To.code (E.C.condT (by kernel_rfl) (by kernel_rfl) (E.C.skip (E.To.code ?_))))))))))))
 refine E.C.seq (E.C.block (E.C.region (E.op (E.i 8) (E.op (.pointer (some ⟨g1, 1, none⟩)) (E.op (.pointer (some ⟨g1, 9, none⟩)) (E.st 0 (Q.S.cells (⟨s.pc, (Q.up s.r 8 0), s.f, s.c, s.st, s.du⟩)) rfl rfl (E.P.nb (E.To.code (E.C.region (E.op (E.i 8) (E.op (E.i 9) (E.op (E.i 9) ?_))))))))))))
 refine E.To.rounds 8 (E.wk [(0, E.pt c), (3, E.pt g1), (4, E.i 9), (7, E.i 8), (8, .bool true), (9, E.i 8), (10, E.i 9), (11, E.i 8), (12, .pointer (some ⟨g1, 1, none⟩)), (13, .pointer (some ⟨g1, 9, none⟩))] [(g1, (Q.S.cells (⟨s.pc, (Q.up s.r 8 0), s.f, s.c, s.st, s.du⟩))), (c, (E.pt m :: Q.S.cells s0))] Nz.sub (E.C.seq (E.sr (E.op (E.i 9) (E.op (.bool true) (E.To.code (E.C.condT (by kernel_rfl) (by kernel_rfl) (E.C.skip (E.To.code (E.C.seq (E.C.block (E.C.region ?_))))))))))))
 refine E.op (E.i 9) (E.op (.pointer (some ⟨g1, 1, none⟩)) (E.op (.pointer (some ⟨g1, 10, none⟩)) (E.st 0 (Q.S.cells (⟨s.pc, (Q.up (Q.up s.r 8 0) 9 0), s.f, s.c, s.st, s.du⟩)) rfl rfl (E.P.nb (E.To.code (E.C.region (E.op (E.i 9) (E.op (E.i 10) (E.op (E.i 10) (E.To.rounds 7 (E.wk [(0, E.pt c), (3, E.pt g1), (4, E.i 10), (7, E.i 9), (8, .bool true), (9, E.i 9), (10, E.i 10), (11, E.i 9), (12, .pointer (some ⟨g1, 1, none⟩)), (13, .pointer (some ⟨g1, 10, none⟩))] [(g1, (Q.S.cells (⟨s.pc, (Q.up (Q.up s.r 8 0) 9 0), s.f, s.c, s.st, s.du⟩))), (c, (E.pt m :: Q.S.cells s0))] Nz.sub (E.C.seq ?_))))))))))))
 refine E.sr (E.op (E.i 10) (E.op (.bool true) (E.To.code (E.C.condT (by kernel_rfl) (by kernel_rfl) (E.C.skip (E.To.code (E.C.seq (E.C.block (E.C.region (E.op (E.i 10) (E.op (.pointer (some ⟨g1, 1, none⟩)) (E.op (.pointer (some ⟨g1, 11, none⟩)) ?_))))))))))))
 refine E.st 0 (Q.S.cells (⟨s.pc, (Q.up (Q.up (Q.up s.r 8 0) 9 0) 10 0), s.f, s.c, s.st, s.du⟩)) rfl rfl (E.P.nb (E.To.code (E.C.region (E.op (E.i 10) (E.op (E.i 11) (E.op (E.i 11) (E.To.rounds 6 (E.wk [(0, E.pt c), (3, E.pt g1), (4, E.i 11), (7, E.i 10), (8, .bool true), (9, E.i 10), (10, E.i 11), (11, E.i 10), (12, .pointer (some ⟨g1, 1, none⟩)), (13, .pointer (some ⟨g1, 11, none⟩))] [(g1, (Q.S.cells (⟨s.pc, (Q.up (Q.up (Q.up s.r 8 0) 9 0) 10 0), s.f, s.c, s.st, s.du⟩))), (c, (E.pt m :: Q.S.cells s0))] Nz.sub (E.C.seq (E.sr (E.op (E.i 11) (E.op (.bool true) ?_))))))))))))
 refine E.To.code (E.C.condT (by kernel_rfl) (by kernel_rfl) (E.C.skip (E.To.code (E.C.seq (E.C.block (E.C.region (E.op (E.i 11) (E.op (.pointer (some ⟨g1, 1, none⟩)) (E.op (.pointer (some ⟨g1, 12, none⟩)) (E.st 0 (Q.S.cells (⟨s.pc, (Q.up (Q.up (Q.up (Q.up s.r 8 0) 9 0) 10 0) 11 0), s.f, s.c, s.st, s.du⟩)) rfl rfl (E.P.nb (E.To.code (E.C.region ?_)))))))))))))
 refine E.op (E.i 11) (E.op (E.i 12) (E.op (E.i 12) (E.To.rounds 5 (E.wk [(0, E.pt c), (3, E.pt g1), (4, E.i 12), (7, E.i 11), (8, .bool true), (9, E.i 11), (10, E.i 12), (11, E.i 11), (12, .pointer (some ⟨g1, 1, none⟩)), (13, .pointer (some ⟨g1, 12, none⟩))] [(g1, (Q.S.cells (⟨s.pc, (Q.up (Q.up (Q.up (Q.up s.r 8 0) 9 0) 10 0) 11 0), s.f, s.c, s.st, s.du⟩))), (c, (E.pt m :: Q.S.cells s0))] Nz.sub (E.C.seq (E.sr (E.op (E.i 12) (E.op (.bool true) (E.To.code (E.C.condT (by kernel_rfl) (by kernel_rfl) (E.C.skip (E.To.code ?_))))))))))))
 refine E.C.seq (E.C.block (E.C.region (E.op (E.i 12) (E.op (.pointer (some ⟨g1, 1, none⟩)) (E.op (.pointer (some ⟨g1, 13, none⟩)) (E.st 0 (Q.S.cells (⟨s.pc, (Q.up (Q.up (Q.up (Q.up (Q.up s.r 8 0) 9 0) 10 0) 11 0) 12 0), s.f, s.c, s.st, s.du⟩)) rfl rfl (E.P.nb (E.To.code (E.C.region (E.op (E.i 12) (E.op (E.i 13) (E.op (E.i 13) ?_))))))))))))
 refine E.To.rounds 4 (E.wk [(0, E.pt c), (3, E.pt g1), (4, E.i 13), (7, E.i 12), (8, .bool true), (9, E.i 12), (10, E.i 13), (11, E.i 12), (12, .pointer (some ⟨g1, 1, none⟩)), (13, .pointer (some ⟨g1, 13, none⟩))] [(g1, (Q.S.cells (⟨s.pc, (Q.up (Q.up (Q.up (Q.up (Q.up s.r 8 0) 9 0) 10 0) 11 0) 12 0), s.f, s.c, s.st, s.du⟩))), (c, (E.pt m :: Q.S.cells s0))] Nz.sub (E.C.seq (E.sr (E.op (E.i 13) (E.op (.bool true) (E.To.code (E.C.condT (by kernel_rfl) (by kernel_rfl) (E.C.skip (E.To.code (E.C.seq (E.C.block (E.C.region ?_))))))))))))
 refine E.op (E.i 13) (E.op (.pointer (some ⟨g1, 1, none⟩)) (E.op (.pointer (some ⟨g1, 14, none⟩)) (E.st 0 (Q.S.cells (⟨s.pc, (Q.up (Q.up (Q.up (Q.up (Q.up (Q.up s.r 8 0) 9 0) 10 0) 11 0) 12 0) 13 0), s.f, s.c, s.st, s.du⟩)) rfl rfl (E.P.nb (E.To.code (E.C.region (E.op (E.i 13) (E.op (E.i 14) (E.op (E.i 14) (E.To.rounds 3 (E.wk [(0, E.pt c), (3, E.pt g1), (4, E.i 14), (7, E.i 13), (8, .bool true), (9, E.i 13), (10, E.i 14), (11, E.i 13), (12, .pointer (some ⟨g1, 1, none⟩)), (13, .pointer (some ⟨g1, 14, none⟩))] [(g1, (Q.S.cells (⟨s.pc, (Q.up (Q.up (Q.up (Q.up (Q.up (Q.up s.r 8 0) 9 0) 10 0) 11 0) 12 0) 13 0), s.f, s.c, s.st, s.du⟩))), (c, (E.pt m :: Q.S.cells s0))] Nz.sub (E.C.seq ?_))))))))))))
 refine E.sr (E.op (E.i 14) (E.op (.bool true) (E.To.code (E.C.condT (by kernel_rfl) (by kernel_rfl) (E.C.skip (E.To.code (E.C.seq (E.C.block (E.C.region (E.op (E.i 14) (E.op (.pointer (some ⟨g1, 1, none⟩)) (E.op (.pointer (some ⟨g1, 15, none⟩)) ?_))))))))))))
 refine E.st 0 (Q.S.cells (⟨s.pc, (Q.up (Q.up (Q.up (Q.up (Q.up (Q.up (Q.up s.r 8 0) 9 0) 10 0) 11 0) 12 0) 13 0) 14 0), s.f, s.c, s.st, s.du⟩)) rfl rfl (E.P.nb (E.To.code (E.C.region (E.op (E.i 14) (E.op (E.i 15) (E.op (E.i 15) (E.To.rounds 2 (E.wk [(0, E.pt c), (3, E.pt g1), (4, E.i 15), (7, E.i 14), (8, .bool true), (9, E.i 14), (10, E.i 15), (11, E.i 14), (12, .pointer (some ⟨g1, 1, none⟩)), (13, .pointer (some ⟨g1, 15, none⟩))] [(g1, (Q.S.cells (⟨s.pc, (Q.up (Q.up (Q.up (Q.up (Q.up (Q.up (Q.up s.r 8 0) 9 0) 10 0) 11 0) 12 0) 13 0) 14 0), s.f, s.c, s.st, s.du⟩))), (c, (E.pt m :: Q.S.cells s0))] Nz.sub (E.C.seq (E.sr (E.op (E.i 15) (E.op (.bool true) ?_))))))))))))
 refine E.To.code (E.C.condT (by kernel_rfl) (by kernel_rfl) (E.C.skip (E.To.code (E.C.seq (E.C.block (E.C.region (E.op (E.i 15) (E.op (.pointer (some ⟨g1, 1, none⟩)) (E.op (.pointer (some ⟨g1, 16, none⟩)) (E.st 0 (Q.S.cells (⟨s.pc, (Q.up (Q.up (Q.up (Q.up (Q.up (Q.up (Q.up (Q.up s.r 8 0) 9 0) 10 0) 11 0) 12 0) 13 0) 14 0) 15 0), s.f, s.c, s.st, s.du⟩)) rfl rfl (E.P.nb (E.To.code (E.C.region ?_)))))))))))))
 refine E.op (E.i 15) (E.op (E.i 16) (E.op (E.i 16) (E.To.rounds 1 (E.wk [(0, E.pt c), (3, E.pt g1), (4, E.i 16), (7, E.i 15), (8, .bool true), (9, E.i 15), (10, E.i 16), (11, E.i 15), (12, .pointer (some ⟨g1, 1, none⟩)), (13, .pointer (some ⟨g1, 16, none⟩))] [(g1, (Q.S.cells (⟨s.pc, (Q.up (Q.up (Q.up (Q.up (Q.up (Q.up (Q.up (Q.up s.r 8 0) 9 0) 10 0) 11 0) 12 0) 13 0) 14 0) 15 0), s.f, s.c, s.st, s.du⟩))), (c, (E.pt m :: Q.S.cells s0))] Nz.sub (E.C.seq (E.sr (E.op (E.i 16) (E.op (.bool false) (E.To.code (E.C.condF (by kernel_rfl) (by kernel_rfl) (E.C.exit (E.P.et (E.P.et (E.P.eh (E.To.code ?_)))))))))))))))
 refine E.wk [(0, E.pt c), (3, E.pt g1)] [(g1, (Q.S.cells (⟨s.pc, (Q.up (Q.up (Q.up (Q.up (Q.up (Q.up (Q.up (Q.up s.r 8 0) 9 0) 10 0) 11 0) 12 0) 13 0) 14 0) 15 0), s.f, s.c, s.st, s.du⟩))), (c, (E.pt m :: Q.S.cells s0))] Nz.sub (E.sr (E.op (.pointer (some ⟨g1, 17, none⟩)) (E.li (E.u s.f) 0 rfl rfl (E.op (E.u (bits .and .u32 s.f 15)) (E.op (.pointer (some ⟨g1, 17, none⟩)) (E.st 0 (Q.S.cells (⟨s.pc, (Q.up (Q.up (Q.up (Q.up (Q.up (Q.up (Q.up (Q.up s.r 8 0) 9 0) 10 0) 11 0) 12 0) 13 0) 14 0) 15 0), (bits .and .u32 s.f 15), s.c, s.st, s.du⟩)) rfl rfl (E.tr (E.op (.pointer (some ⟨g1, 22, none⟩)) (E.li (E.i s.st) 0 rfl rfl (E.op (E.i (if 0 > s.st then 0 else s.st)) (E.op (.pointer (some ⟨g1, 23, none⟩)) ?_)))))))))))
 refine E.li (E.i s.du) 0 rfl rfl (E.op (E.i (if 0 > s.du then 0 else s.du)) (E.op (.pointer (some ⟨g1, 22, none⟩)) (E.st 0 (Q.S.cells (⟨s.pc, (Q.up (Q.up (Q.up (Q.up (Q.up (Q.up (Q.up (Q.up s.r 8 0) 9 0) 10 0) 11 0) 12 0) 13 0) 14 0) 15 0), (bits .and .u32 s.f 15), s.c, (if 0 > s.st then 0 else s.st), s.du⟩)) rfl rfl (E.op (.pointer (some ⟨g1, 23, none⟩)) (E.st 0 (Q.S.cells (⟨s.pc, (Q.up (Q.up (Q.up (Q.up (Q.up (Q.up (Q.up (Q.up s.r 8 0) 9 0) 10 0) 11 0) 12 0) 13 0) 14 0) 15 0), (bits .and .u32 s.f 15), s.c, (if 0 > s.st then 0 else s.st), (if 0 > s.du then 0 else s.du)⟩)) rfl rfl (E.To.code (E.wk [(0, E.pt c), (3, E.pt g1)] [(g1, (Q.S.cells (⟨s.pc, (Q.up (Q.up (Q.up (Q.up (Q.up (Q.up (Q.up (Q.up s.r 8 0) 9 0) 10 0) 11 0) 12 0) 13 0) 14 0) 15 0), (bits .and .u32 s.f 15), s.c, (if 0 > s.st then 0 else s.st), (if 0 > s.du then 0 else s.du)⟩))), (c, (E.pt m :: Q.S.cells s0))] Nz.sub (E.C.region (E.op (E.pt c) (E.li (Q.S.val (⟨s.pc, (Q.up (Q.up (Q.up (Q.up (Q.up (Q.up (Q.up (Q.up s.r 8 0) 9 0) 10 0) 11 0) 12 0) 13 0) 14 0) 15 0), (bits .and .u32 s.f 15), s.c, (if 0 > s.st then 0 else s.st), (if 0 > s.du then 0 else s.du)⟩)) 0 rfl rfl (E.op (E.pt c) ?_)))))))))))
 refine E.op (.pointer (some ⟨c, 1, none⟩)) (E.st 1 (E.pt m :: Q.S.cells (⟨s.pc, (Q.up (Q.up (Q.up (Q.up (Q.up (Q.up (Q.up (Q.up s.r 8 0) 9 0) 10 0) 11 0) 12 0) 13 0) 14 0) 15 0), (bits .and .u32 s.f 15), s.c, (if 0 > s.st then 0 else s.st), (if 0 > s.du then 0 else s.du)⟩)) rfl rfl (E.To.bodyN (fn := Tryz.f25) [] ?_ ?_))
 · exact trivial
 intro w h
 have e : (K.norm s) = ⟨s.pc, (Q.up (Q.up (Q.up (Q.up (Q.up (Q.up (Q.up (Q.up s.r 8 0) 9 0) 10 0) 11 0) 12 0) 13 0) 14 0) 15 0), (bits .and .u32 s.f 15), s.c, (if 0 > s.st then 0 else s.st), (if 0 > s.du then 0 else s.du)⟩ := by unfold K.norm; rfl
 rw [e]
 exact ⟨(), trivial, rfl, A.dq [1] [0] h⟩
set_option maxHeartbeats 4000000 in
theorem CRun {c m : Nat} (most : Int) (s : Q.S) (V : M.V) (hm : -9223372036854775808 ≤ most ∧ most < 9223372036854775808) (hs : Q.wf s) (hV : R.Wf V) : A.Tr Tryz.prog 26 #[.pointer (some ⟨c, 0, none⟩), .int .i64 most] [A.blk c (.pointer (some ⟨m, 0, none⟩) :: Q.S.cells s), M.It m V []] (I := Unit) (fun _ => True) (fun _ => .agg #[.int .i64 (K.runs most s V).2.1, .int .u32 (K.runs most s V).2.2.1]) (fun _ => [A.blk c (.pointer (some ⟨m, 0, none⟩) :: Q.S.cells ((K.runs most s V).1)), M.It m (K.runs most s V).2.2.2 []]) := by
 intro w oo aa hh
 refine E.enter (n := 47) (S := oo) Tryz.func26 rfl rfl (by kernel_rfl) (A.start (L := [(c, (E.pt m :: Q.S.cells s))]) hh) (E.sr (E.nw [E.i 0, E.u 0] 47 (fun g1 => E.tr (E.op (E.pt c) (E.ca (Q.S.val s) (fun w h => A.cq [1] [0, 2] (CState (c := c) (m := m) s) h) (E.nw (Q.S.cells Q.z0) 26 (fun g2 => E.st 0 (Q.S.cells s) rfl rfl (E.tr (E.op (E.i 0) (E.To.code (E.C.block ?_)))))))))))
 refine E.C.loop (I := Nat × Q.S × M.V) (fun i => (most.toNat + 1) - i.1) (fun i => i.1 < (most.toNat + 1) ∧ Q.wf i.2.1 ∧ R.Wf i.2.2 ∧ K.run most ((most.toNat + 1) - i.1) i.1 i.2.1 i.2.2 = (K.runs most s V)) (fun i => [(0, E.pt c), (1, E.i most), (4, E.pt g1), (5, E.pt g2), (6, E.i ((i.1 : Nat) : Int))]) (fun i => A.X w oo aa [M.It m i.2.2 ([])]) (fun i => [(g2, (Q.S.cells i.2.1)), (g1, [E.i 0, E.u 0]), (c, (E.pt m :: Q.S.cells i.2.1))]) (0, s, V) (⟨Nat.succ_pos _, hs, hV, rfl⟩) ⟨by kernel_rfl, by kernel_rfl⟩ Nz.sub (fun _ h => h) (fun i hk1 => E.C.seq (E.C.block (E.C.seq (E.sr (E.op (.pointer (some ⟨g2, 23, none⟩)) (E.li (E.i i.2.1.du) 0 rfl rfl (E.op (.bool (decide (i.2.1.du > 0))) (E.op (.bool (decide (i.2.1.du > 0))) (E.G.cut 6 [(0, E.pt c), (1, E.i most), (4, E.pt g1), (5, E.pt g2), (6, E.i ((i.1 : Nat) : Int)), (13, .pointer (some ⟨g2, 23, none⟩)), (14, E.i i.2.1.du), (15, .bool (decide (i.2.1.du > 0))), (16, .bool (decide (i.2.1.du > 0))), (22, .bool ((decide (i.2.1.du > 0)) && (decide (i.2.1.st ≥ i.2.1.du))))] (A.X w oo aa [M.It m i.2.2 ([])]) [(g2, (Q.S.cells i.2.1)), (g1, [E.i 0, E.u 0]), (c, (E.pt m :: Q.S.cells i.2.1))] ?_ ?_)))))))))
 ·
  generalize hc3 : (decide (i.2.1.du > 0)) = b4
  cases b4
  ·
   exact E.sk (E.sk (E.sk (E.sk (E.sk (E.op (.bool false) (E.G.end_pst ⟨by kernel_rfl, by kernel_rfl⟩ Nz.sub (fun _ h => h)))))))
  exact E.op (.pointer (some ⟨g2, 22, none⟩)) (E.li (E.i i.2.1.st) 0 rfl rfl (E.op (.pointer (some ⟨g2, 23, none⟩)) (E.li (E.i i.2.1.du) 0 rfl rfl (E.op (.bool (decide (i.2.1.st ≥ i.2.1.du))) (E.op (.bool (decide (i.2.1.st ≥ i.2.1.du))) (E.G.end_pst ⟨by kernel_rfl, by kernel_rfl⟩ Nz.sub (fun _ h => h)))))))
 refine E.To.code (E.cd ((decide (i.2.1.du > 0)) && (decide (i.2.1.st ≥ i.2.1.du))) (fun hc5 => ?_) (fun hc5 => ?_))
 ·
  refine E.sr (E.vl (.agg #[E.i 8, E.u 0]) (fun w h => E.run_build #[E.i 8, E.u 0] (by kernel_rfl) w) (E.st 1 [E.i 8, E.u 0] rfl rfl (E.To.code (E.C.ret (E.P.rt (E.P.rb (E.P.rt (E.P.rt (E.P.rb (E.b1 Tryz.f26 [.agg #[E.i 8, E.u 0]] ?_))))))))))
  intro w h
  have e := hk1.2.2.2
  rw [K.run_t hk1.1 hc5] at e
  rw [← e]
  exact ⟨(), trivial, rfl, A.dq [2, 3] [0, 1] h⟩
 refine E.C.skip (E.To.code (E.C.seq (E.sr (E.op (E.i ((i.1 : Nat) : Int)) (E.op (E.i most) (E.op (.bool (decide (((i.1 : Nat) : Int) ≥ most))) (E.To.code (E.cd (decide (((i.1 : Nat) : Int) ≥ most)) (fun hc6 => ?_) (fun hc6 => ?_)))))))))
 ·
  refine E.sr (E.vl (.agg #[E.i 1, E.u 0]) (fun w h => E.run_build #[E.i 1, E.u 0] (by kernel_rfl) w) (E.st 1 [E.i 1, E.u 0] rfl rfl (E.To.code (E.C.ret (E.P.rt (E.P.rb (E.P.rt (E.P.rt (E.P.rb (E.b1 Tryz.f26 [.agg #[E.i 1, E.u 0]] ?_))))))))))
  intro w h
  have e := hk1.2.2.2
  rw [K.run_b hk1.1 hc5 hc6] at e
  rw [← e]
  exact ⟨(), trivial, rfl, A.dq [2, 3] [0, 1] h⟩
 refine E.C.skip (E.To.code (E.C.seq (E.C.held (A.Y [A.blk g2 (Q.S.cells i.2.1), A.blk g1 ([E.i 0, E.u 0]), A.blk c (E.pt m :: Q.S.cells i.2.1)]) (by kernel_rfl) (E.H.gen (fun H up dn => ?_)))))
 have nd5 : ∀ (β α : Nat), H 0 (E.bits 12 4095) [(0, E.pt c), (1, E.i most), (4, E.pt g1), (5, E.pt g2), (6, E.i ((i.1 : Nat) : Int)), (7, E.pt β), (8, E.pt α), (13, .pointer (some ⟨g2, 23, none⟩)), (14, E.i i.2.1.du), (15, .bool (decide (i.2.1.du > 0))), (16, .bool (decide (i.2.1.du > 0))), (22, .bool ((decide (i.2.1.du > 0)) && (decide (i.2.1.st ≥ i.2.1.du)))), (24, E.i ((i.1 : Nat) : Int)), (25, E.i most), (26, .bool (decide (((i.1 : Nat) : Int) ≥ most))), (28, .tuple #[Q.S.val ((K.step i.2.1 i.2.2).1), .agg #[E.i ((K.step i.2.1 i.2.2).2.1), E.u ((K.step i.2.1 i.2.2).2.2.1)]]), (29, Q.S.val i.2.1), (30, E.pt c), (31, E.pt m), (32, .iface 35 (E.pt m)), (33, .tuple #[Q.S.val ((K.step i.2.1 i.2.2).1), .agg #[E.i ((K.step i.2.1 i.2.2).2.1), E.u ((K.step i.2.1 i.2.2).2.2.1)]]), (34, Q.S.val ((K.step i.2.1 i.2.2).1)), (35, .agg #[E.i ((K.step i.2.1 i.2.2).2.1), E.u ((K.step i.2.1 i.2.2).2.2.1)])] (A.X w oo aa [M.It m ((K.step i.2.1 i.2.2).2.2.2) ([])]) [(β, (Q.S.cells ((K.step i.2.1 i.2.2).1))), (α, [E.i ((K.step i.2.1 i.2.2).2.1), E.u ((K.step i.2.1 i.2.2).2.2.1)]), (g2, (Q.S.cells i.2.1)), (g1, [E.i 0, E.u 0]), (c, (E.pt m :: Q.S.cells i.2.1))] := by
  intro β α
  refine up _ _ _ _ _ (E.H.done (by kernel_rfl) (E.To.code (E.C.seq (E.sr (E.op (E.pt α) (E.li (E.i ((K.step i.2.1 i.2.2).2.1)) 1 rfl rfl (E.op (.bool (((K.step i.2.1 i.2.2).2.1) != 0)) (E.To.code (E.cd (((K.step i.2.1 i.2.2).2.1) != 0) (fun hc7 => ?_) (fun hc7 => ?_))))))))))
  ·
   refine E.sr (E.li (.agg #[E.i ((K.step i.2.1 i.2.2).2.1), E.u ((K.step i.2.1 i.2.2).2.2.1)]) 1 rfl rfl (E.st 3 [E.i ((K.step i.2.1 i.2.2).2.1), E.u ((K.step i.2.1 i.2.2).2.2.1)] rfl rfl (E.To.code (E.C.ret (E.P.rt (E.P.rb (E.P.rt (E.P.rt (E.P.rb (E.b3 Tryz.f26 [.agg #[E.i ((K.step i.2.1 i.2.2).2.1), E.u ((K.step i.2.1 i.2.2).2.2.1)]] ?_))))))))))
   intro w h
   have e := hk1.2.2.2
   rw [K.run_s hk1.1 hc5 hc6 hc7] at e
   rw [← e]
   exact ⟨(), trivial, rfl, A.dq [4, 5] [0, 1, 2, 3] h⟩
  refine E.C.skip (E.To.code (E.sr (E.li (Q.S.val ((K.step i.2.1 i.2.2).1)) 0 rfl rfl (E.st 2 (Q.S.cells ((K.step i.2.1 i.2.2).1)) rfl rfl (E.tr (E.op (E.pt c) (E.op (.bool true) (E.To.code (E.C.condT (by kernel_rfl) (by kernel_rfl) (E.C.region (E.op (E.pt c) (E.li (Q.S.val ((K.step i.2.1 i.2.2).1)) 0 rfl rfl ?_))))))))))))
  exact E.op (E.pt c) (E.op (.pointer (some ⟨c, 1, none⟩)) (E.st 4 (E.pt m :: Q.S.cells ((K.step i.2.1 i.2.2).1)) rfl rfl (E.P.nb (E.To.code (E.C.region (E.op (E.i ((i.1 : Nat) : Int)) (E.vl (E.i ((i.1 + 1 : Nat) : Int)) (fun w h => E.run_as (a := E.i (IntKind.wrap .i64 (((i.1 : Nat) : Int) + 1))) (by kernel_rfl) (congrArg (Value.int .i64) (K.run_lt hm.2 hc6).2)) (E.op (E.i ((i.1 + 1 : Nat) : Int)) (E.To.round (i.1 + 1, (K.step i.2.1 i.2.2).1, (K.step i.2.1 i.2.2).2.2.2) (by show (most.toNat + 1) - (i.1 + 1) < (most.toNat + 1) - i.1; have := hk1.1; omega) (⟨(K.run_lt hm.2 hc6).1, (K.step_wf hk1.2.1 hk1.2.2.1).1, (K.step_wf hk1.2.1 hk1.2.2.1).2, (K.run_n hk1.1 hc5 hc6 hc7).symm.trans hk1.2.2.2⟩) ⟨by kernel_rfl, by kernel_rfl⟩ Nz.sub (fun _ h => h))))))))))
 have nd4 : ∀ (β α : Nat), H 1 (E.bits 12 2047) [(0, E.pt c), (1, E.i most), (4, E.pt g1), (5, E.pt g2), (6, E.i ((i.1 : Nat) : Int)), (7, E.pt β), (8, E.pt α), (13, .pointer (some ⟨g2, 23, none⟩)), (14, E.i i.2.1.du), (15, .bool (decide (i.2.1.du > 0))), (16, .bool (decide (i.2.1.du > 0))), (22, .bool ((decide (i.2.1.du > 0)) && (decide (i.2.1.st ≥ i.2.1.du)))), (24, E.i ((i.1 : Nat) : Int)), (25, E.i most), (26, .bool (decide (((i.1 : Nat) : Int) ≥ most))), (28, .tuple #[Q.S.val ((K.step i.2.1 i.2.2).1), .agg #[E.i ((K.step i.2.1 i.2.2).2.1), E.u ((K.step i.2.1 i.2.2).2.2.1)]]), (29, Q.S.val i.2.1), (30, E.pt c), (31, E.pt m), (32, .iface 35 (E.pt m)), (33, .tuple #[Q.S.val ((K.step i.2.1 i.2.2).1), .agg #[E.i ((K.step i.2.1 i.2.2).2.1), E.u ((K.step i.2.1 i.2.2).2.2.1)]]), (34, Q.S.val ((K.step i.2.1 i.2.2).1)), (35, .agg #[E.i ((K.step i.2.1 i.2.2).2.1), E.u ((K.step i.2.1 i.2.2).2.2.1)])] (A.X w oo aa [M.It m ((K.step i.2.1 i.2.2).2.2.2) ([])]) [(β, (Q.S.cells ((K.step i.2.1 i.2.2).1))), (α, [E.i 0, E.u 0]), (g2, (Q.S.cells i.2.1)), (g1, [E.i 0, E.u 0]), (c, (E.pt m :: Q.S.cells i.2.1))] := by
  intro β α
  exact up _ _ _ _ _ (E.al 11 rfl (E.st 1 [E.i ((K.step i.2.1 i.2.2).2.1), E.u ((K.step i.2.1 i.2.2).2.2.1)] rfl rfl (E.H.back (fun w h => A.hq [2, 3, 4] [0, 1, 5] h) (E.ho (dn _ _ _ _ _ (nd5 β α))))))
 have nd3 : ∀ (β α : Nat), H 2 (E.bits 12 1023) [(0, E.pt c), (1, E.i most), (4, E.pt g1), (5, E.pt g2), (6, E.i ((i.1 : Nat) : Int)), (7, E.pt β), (8, E.pt α), (13, .pointer (some ⟨g2, 23, none⟩)), (14, E.i i.2.1.du), (15, .bool (decide (i.2.1.du > 0))), (16, .bool (decide (i.2.1.du > 0))), (22, .bool ((decide (i.2.1.du > 0)) && (decide (i.2.1.st ≥ i.2.1.du)))), (24, E.i ((i.1 : Nat) : Int)), (25, E.i most), (26, .bool (decide (((i.1 : Nat) : Int) ≥ most))), (28, .tuple #[Q.S.val ((K.step i.2.1 i.2.2).1), .agg #[E.i ((K.step i.2.1 i.2.2).2.1), E.u ((K.step i.2.1 i.2.2).2.2.1)]]), (29, Q.S.val i.2.1), (30, E.pt c), (31, E.pt m), (32, .iface 35 (E.pt m)), (33, .tuple #[Q.S.val ((K.step i.2.1 i.2.2).1), .agg #[E.i ((K.step i.2.1 i.2.2).2.1), E.u ((K.step i.2.1 i.2.2).2.2.1)]]), (34, Q.S.val ((K.step i.2.1 i.2.2).1)), (35, .agg #[E.i ((K.step i.2.1 i.2.2).2.1), E.u ((K.step i.2.1 i.2.2).2.2.1)])] (A.X w oo aa [M.It m ((K.step i.2.1 i.2.2).2.2.2) ([])]) [(β, (Q.S.cells Q.z0)), (α, [E.i 0, E.u 0]), (g2, (Q.S.cells i.2.1)), (g1, [E.i 0, E.u 0]), (c, (E.pt m :: Q.S.cells i.2.1))] := by
  intro β α
  exact up _ _ _ _ _ (E.al 10 rfl (E.st 0 (Q.S.cells ((K.step i.2.1 i.2.2).1)) rfl rfl (E.H.back (fun w h => A.hq [2, 3, 4] [0, 1, 5] h) (E.ho (dn _ _ _ _ _ (nd4 β α))))))
 have nd2 : ∀ (β : Nat), H 3 (E.bits 12 511) [(0, E.pt c), (1, E.i most), (4, E.pt g1), (5, E.pt g2), (6, E.i ((i.1 : Nat) : Int)), (7, E.pt β), (13, .pointer (some ⟨g2, 23, none⟩)), (14, E.i i.2.1.du), (15, .bool (decide (i.2.1.du > 0))), (16, .bool (decide (i.2.1.du > 0))), (22, .bool ((decide (i.2.1.du > 0)) && (decide (i.2.1.st ≥ i.2.1.du)))), (24, E.i ((i.1 : Nat) : Int)), (25, E.i most), (26, .bool (decide (((i.1 : Nat) : Int) ≥ most))), (28, .tuple #[Q.S.val ((K.step i.2.1 i.2.2).1), .agg #[E.i ((K.step i.2.1 i.2.2).2.1), E.u ((K.step i.2.1 i.2.2).2.2.1)]]), (29, Q.S.val i.2.1), (30, E.pt c), (31, E.pt m), (32, .iface 35 (E.pt m)), (33, .tuple #[Q.S.val ((K.step i.2.1 i.2.2).1), .agg #[E.i ((K.step i.2.1 i.2.2).2.1), E.u ((K.step i.2.1 i.2.2).2.2.1)]]), (34, Q.S.val ((K.step i.2.1 i.2.2).1)), (35, .agg #[E.i ((K.step i.2.1 i.2.2).2.1), E.u ((K.step i.2.1 i.2.2).2.2.1)])] (A.X w oo aa [M.It m ((K.step i.2.1 i.2.2).2.2.2) ([])]) [(β, (Q.S.cells Q.z0)), (g2, (Q.S.cells i.2.1)), (g1, [E.i 0, E.u 0]), (c, (E.pt m :: Q.S.cells i.2.1))] := by
  intro β
  exact up _ _ _ _ _ (E.al 9 rfl (E.nw [E.i 0, E.u 0] 47 (fun α => E.H.back (fun w h => A.hq [2, 3, 4] [0, 1, 5] h) (E.H.toP _ _ [(β, (Q.S.cells Q.z0)), (α, [E.i 0, E.u 0]), (g2, (Q.S.cells i.2.1)), (g1, [E.i 0, E.u 0]), (c, (E.pt m :: Q.S.cells i.2.1))] (by kernel_rfl) ⟨by kernel_rfl, by kernel_rfl⟩ (A.pn [1, 0, 2, 3, 4]) (dn _ _ _ _ _ (nd3 β α))))))
 have nd6 : ∀ (α : Nat), H 3 (E.bits 12 767) [(0, E.pt c), (1, E.i most), (4, E.pt g1), (5, E.pt g2), (6, E.i ((i.1 : Nat) : Int)), (8, E.pt α), (13, .pointer (some ⟨g2, 23, none⟩)), (14, E.i i.2.1.du), (15, .bool (decide (i.2.1.du > 0))), (16, .bool (decide (i.2.1.du > 0))), (22, .bool ((decide (i.2.1.du > 0)) && (decide (i.2.1.st ≥ i.2.1.du)))), (24, E.i ((i.1 : Nat) : Int)), (25, E.i most), (26, .bool (decide (((i.1 : Nat) : Int) ≥ most))), (28, .tuple #[Q.S.val ((K.step i.2.1 i.2.2).1), .agg #[E.i ((K.step i.2.1 i.2.2).2.1), E.u ((K.step i.2.1 i.2.2).2.2.1)]]), (29, Q.S.val i.2.1), (30, E.pt c), (31, E.pt m), (32, .iface 35 (E.pt m)), (33, .tuple #[Q.S.val ((K.step i.2.1 i.2.2).1), .agg #[E.i ((K.step i.2.1 i.2.2).2.1), E.u ((K.step i.2.1 i.2.2).2.2.1)]]), (34, Q.S.val ((K.step i.2.1 i.2.2).1)), (35, .agg #[E.i ((K.step i.2.1 i.2.2).2.1), E.u ((K.step i.2.1 i.2.2).2.2.1)])] (A.X w oo aa [M.It m ((K.step i.2.1 i.2.2).2.2.2) ([])]) [(α, [E.i 0, E.u 0]), (g2, (Q.S.cells i.2.1)), (g1, [E.i 0, E.u 0]), (c, (E.pt m :: Q.S.cells i.2.1))] := by
  intro α
  exact up _ _ _ _ _ (E.al 8 rfl (E.nw (Q.S.cells Q.z0) 26 (fun β => E.H.back (fun w h => A.hq [2, 3, 4] [0, 1, 5] h) (E.ho (dn _ _ _ _ _ (nd3 β α))))))
 have nd1 : H 7 (E.bits 12 31) [(0, E.pt c), (1, E.i most), (4, E.pt g1), (5, E.pt g2), (6, E.i ((i.1 : Nat) : Int)), (13, .pointer (some ⟨g2, 23, none⟩)), (14, E.i i.2.1.du), (15, .bool (decide (i.2.1.du > 0))), (16, .bool (decide (i.2.1.du > 0))), (22, .bool ((decide (i.2.1.du > 0)) && (decide (i.2.1.st ≥ i.2.1.du)))), (24, E.i ((i.1 : Nat) : Int)), (25, E.i most), (26, .bool (decide (((i.1 : Nat) : Int) ≥ most))), (29, Q.S.val i.2.1), (30, E.pt c), (31, E.pt m), (32, .iface 35 (E.pt m)), (33, .tuple #[Q.S.val ((K.step i.2.1 i.2.2).1), .agg #[E.i ((K.step i.2.1 i.2.2).2.1), E.u ((K.step i.2.1 i.2.2).2.2.1)]])] (A.X w oo aa [M.It m ((K.step i.2.1 i.2.2).2.2.2) ([])]) [(g2, (Q.S.cells i.2.1)), (g1, [E.i 0, E.u 0]), (c, (E.pt m :: Q.S.cells i.2.1))] := by
  refine up _ _ _ _ _ (E.tk 5 (.tuple #[Q.S.val ((K.step i.2.1 i.2.2).1), .agg #[E.i ((K.step i.2.1 i.2.2).2.1), E.u ((K.step i.2.1 i.2.2).2.2.1)]]) rfl (fun w h => A.hpY0 h (by kernel_rfl)) (E.tk 6 (Q.S.val ((K.step i.2.1 i.2.2).1)) rfl (fun w h => A.hpY0 h (by kernel_rfl)) (E.tk 7 (.agg #[E.i ((K.step i.2.1 i.2.2).2.1), E.u ((K.step i.2.1 i.2.2).2.2.1)]) rfl (fun w h => A.hpY0 h (by kernel_rfl)) (E.al2 8 9 rfl rfl ?_ ?_))))
  ·
   exact E.nw (Q.S.cells Q.z0) 26 (fun β => E.H.back (fun w h => A.hq [1, 2, 3] [0, 4] h) (E.ho (dn _ _ _ _ _ (nd2 β))))
  exact E.nw [E.i 0, E.u 0] 47 (fun α => E.H.back (fun w h => A.hq [1, 2, 3] [0, 4] h) (E.ho (dn _ _ _ _ _ (nd6 α))))
 have nd8 : ∀ (β : Nat), H 6 (E.bits 12 287) [(0, E.pt c), (1, E.i most), (4, E.pt g1), (5, E.pt g2), (6, E.i ((i.1 : Nat) : Int)), (7, E.pt β), (13, .pointer (some ⟨g2, 23, none⟩)), (14, E.i i.2.1.du), (15, .bool (decide (i.2.1.du > 0))), (16, .bool (decide (i.2.1.du > 0))), (22, .bool ((decide (i.2.1.du > 0)) && (decide (i.2.1.st ≥ i.2.1.du)))), (24, E.i ((i.1 : Nat) : Int)), (25, E.i most), (26, .bool (decide (((i.1 : Nat) : Int) ≥ most))), (29, Q.S.val i.2.1), (30, E.pt c), (31, E.pt m), (32, .iface 35 (E.pt m)), (33, .tuple #[Q.S.val ((K.step i.2.1 i.2.2).1), .agg #[E.i ((K.step i.2.1 i.2.2).2.1), E.u ((K.step i.2.1 i.2.2).2.2.1)]])] (A.X w oo aa [M.It m ((K.step i.2.1 i.2.2).2.2.2) ([])]) [(β, (Q.S.cells Q.z0)), (g2, (Q.S.cells i.2.1)), (g1, [E.i 0, E.u 0]), (c, (E.pt m :: Q.S.cells i.2.1))] := by
  intro β
  exact up _ _ _ _ _ (E.tk 5 (.tuple #[Q.S.val ((K.step i.2.1 i.2.2).1), .agg #[E.i ((K.step i.2.1 i.2.2).2.1), E.u ((K.step i.2.1 i.2.2).2.2.1)]]) rfl (fun w h => A.hq [1, 2, 3] [0, 4] h) (E.tk 6 (Q.S.val ((K.step i.2.1 i.2.2).1)) rfl (fun w h => A.hq [1, 2, 3] [0, 4] h) (E.tk 7 (.agg #[E.i ((K.step i.2.1 i.2.2).2.1), E.u ((K.step i.2.1 i.2.2).2.2.1)]) rfl (fun w h => A.hq [1, 2, 3] [0, 4] h) (E.al 9 rfl (E.nw [E.i 0, E.u 0] 47 (fun α => E.H.back (fun w h => A.hq [2, 3, 4] [0, 1, 5] h) (E.H.toP _ _ [(β, (Q.S.cells Q.z0)), (α, [E.i 0, E.u 0]), (g2, (Q.S.cells i.2.1)), (g1, [E.i 0, E.u 0]), (c, (E.pt m :: Q.S.cells i.2.1))] (by kernel_rfl) ⟨by kernel_rfl, by kernel_rfl⟩ (A.pn [1, 0, 2, 3, 4]) (dn _ _ _ _ _ (nd3 β α)))))))))
 have nd10 : ∀ (β α : Nat), H 5 (E.bits 12 799) [(0, E.pt c), (1, E.i most), (4, E.pt g1), (5, E.pt g2), (6, E.i ((i.1 : Nat) : Int)), (7, E.pt β), (8, E.pt α), (13, .pointer (some ⟨g2, 23, none⟩)), (14, E.i i.2.1.du), (15, .bool (decide (i.2.1.du > 0))), (16, .bool (decide (i.2.1.du > 0))), (22, .bool ((decide (i.2.1.du > 0)) && (decide (i.2.1.st ≥ i.2.1.du)))), (24, E.i ((i.1 : Nat) : Int)), (25, E.i most), (26, .bool (decide (((i.1 : Nat) : Int) ≥ most))), (29, Q.S.val i.2.1), (30, E.pt c), (31, E.pt m), (32, .iface 35 (E.pt m)), (33, .tuple #[Q.S.val ((K.step i.2.1 i.2.2).1), .agg #[E.i ((K.step i.2.1 i.2.2).2.1), E.u ((K.step i.2.1 i.2.2).2.2.1)]])] (A.X w oo aa [M.It m ((K.step i.2.1 i.2.2).2.2.2) ([])]) [(β, (Q.S.cells Q.z0)), (α, [E.i 0, E.u 0]), (g2, (Q.S.cells i.2.1)), (g1, [E.i 0, E.u 0]), (c, (E.pt m :: Q.S.cells i.2.1))] := by
  intro β α
  exact up _ _ _ _ _ (E.tk 5 (.tuple #[Q.S.val ((K.step i.2.1 i.2.2).1), .agg #[E.i ((K.step i.2.1 i.2.2).2.1), E.u ((K.step i.2.1 i.2.2).2.2.1)]]) rfl (fun w h => A.hq [2, 3, 4] [0, 1, 5] h) (E.tk 6 (Q.S.val ((K.step i.2.1 i.2.2).1)) rfl (fun w h => A.hq [2, 3, 4] [0, 1, 5] h) (E.tk 7 (.agg #[E.i ((K.step i.2.1 i.2.2).2.1), E.u ((K.step i.2.1 i.2.2).2.2.1)]) rfl (fun w h => A.hq [2, 3, 4] [0, 1, 5] h) (E.al 10 rfl (E.st 0 (Q.S.cells ((K.step i.2.1 i.2.2).1)) rfl rfl (E.H.back (fun w h => A.hq [2, 3, 4] [0, 1, 5] h) (E.ho (dn _ _ _ _ _ (nd4 β α)))))))))
 have nd9 : ∀ (β α : Nat), H 6 (E.bits 12 783) [(0, E.pt c), (1, E.i most), (4, E.pt g1), (5, E.pt g2), (6, E.i ((i.1 : Nat) : Int)), (7, E.pt β), (8, E.pt α), (13, .pointer (some ⟨g2, 23, none⟩)), (14, E.i i.2.1.du), (15, .bool (decide (i.2.1.du > 0))), (16, .bool (decide (i.2.1.du > 0))), (22, .bool ((decide (i.2.1.du > 0)) && (decide (i.2.1.st ≥ i.2.1.du)))), (24, E.i ((i.1 : Nat) : Int)), (25, E.i most), (26, .bool (decide (((i.1 : Nat) : Int) ≥ most))), (29, Q.S.val i.2.1), (30, E.pt c), (31, E.pt m), (32, .iface 35 (E.pt m))] (A.X w oo aa [M.It m i.2.2 ([])]) [(β, (Q.S.cells Q.z0)), (α, [E.i 0, E.u 0]), (g2, (Q.S.cells i.2.1)), (g1, [E.i 0, E.u 0]), (c, (E.pt m :: Q.S.cells i.2.1))] := by
  intro β α
  exact up _ _ _ _ _ (E.al 4 rfl (A.G.call (I := Unit) (D := fun _ => True) (V := fun _ => .tuple #[Q.S.val ((K.step i.2.1 i.2.2).1), .agg #[E.i ((K.step i.2.1 i.2.2).2.1), E.u ((K.step i.2.1 i.2.2).2.2.1)]]) (q := fun _ => [M.It m ((K.step i.2.1 i.2.2).2.2.2) ([])]) [A.blk β (Q.S.cells Q.z0), A.blk α ([E.i 0, E.u 0]), A.blk g2 (Q.S.cells i.2.1), A.blk g1 ([E.i 0, E.u 0]), A.blk c (E.pt m :: Q.S.cells i.2.1)] (fun _ => [(β, (Q.S.cells Q.z0)), (α, [E.i 0, E.u 0]), (g2, (Q.S.cells i.2.1)), (g1, [E.i 0, E.u 0]), (c, (E.pt m :: Q.S.cells i.2.1))]) (fun _ => [M.It m ((K.step i.2.1 i.2.2).2.2.2) ([])]) (Step_any (m := m) (xs := []) i.2.1 i.2.2 hk1.2.1 hk1.2.2.1) (by kernel_rfl) (A.pn [5, 0, 1, 2, 3, 4]) (fun _ => A.pm [1, 2, 3, 4, 5, 0] (by kernel_rfl) (by kernel_rfl)) (fun w _ => by kernel_rfl) (by kernel_rfl) (fun _ δ => E.H.back (fun w h => A.hq [2, 3, 4] [0, 1, 5] h) (E.ho (dn _ _ _ _ _ (nd10 β α))))))
 have nd7 : ∀ (β : Nat), H 7 (E.bits 12 271) [(0, E.pt c), (1, E.i most), (4, E.pt g1), (5, E.pt g2), (6, E.i ((i.1 : Nat) : Int)), (7, E.pt β), (13, .pointer (some ⟨g2, 23, none⟩)), (14, E.i i.2.1.du), (15, .bool (decide (i.2.1.du > 0))), (16, .bool (decide (i.2.1.du > 0))), (22, .bool ((decide (i.2.1.du > 0)) && (decide (i.2.1.st ≥ i.2.1.du)))), (24, E.i ((i.1 : Nat) : Int)), (25, E.i most), (26, .bool (decide (((i.1 : Nat) : Int) ≥ most))), (29, Q.S.val i.2.1), (30, E.pt c), (31, E.pt m), (32, .iface 35 (E.pt m))] (A.X w oo aa [M.It m i.2.2 ([])]) [(β, (Q.S.cells Q.z0)), (g2, (Q.S.cells i.2.1)), (g1, [E.i 0, E.u 0]), (c, (E.pt m :: Q.S.cells i.2.1))] := by
  intro β
  refine up _ _ _ _ _ (E.al2 4 9 rfl rfl ?_ ?_)
  ·
   exact A.G.call (I := Unit) (D := fun _ => True) (V := fun _ => .tuple #[Q.S.val ((K.step i.2.1 i.2.2).1), .agg #[E.i ((K.step i.2.1 i.2.2).2.1), E.u ((K.step i.2.1 i.2.2).2.2.1)]]) (q := fun _ => [M.It m ((K.step i.2.1 i.2.2).2.2.2) ([])]) [A.blk β (Q.S.cells Q.z0), A.blk g2 (Q.S.cells i.2.1), A.blk g1 ([E.i 0, E.u 0]), A.blk c (E.pt m :: Q.S.cells i.2.1)] (fun _ => [(β, (Q.S.cells Q.z0)), (g2, (Q.S.cells i.2.1)), (g1, [E.i 0, E.u 0]), (c, (E.pt m :: Q.S.cells i.2.1))]) (fun _ => [M.It m ((K.step i.2.1 i.2.2).2.2.2) ([])]) (Step_any (m := m) (xs := []) i.2.1 i.2.2 hk1.2.1 hk1.2.2.1) (by kernel_rfl) (A.pn [4, 0, 1, 2, 3]) (fun _ => A.pm [1, 2, 3, 4, 0] (by kernel_rfl) (by kernel_rfl)) (fun w _ => by kernel_rfl) (by kernel_rfl) (fun _ δ => E.H.back (fun w h => A.hq [1, 2, 3] [0, 4] h) (E.ho (dn _ _ _ _ _ (nd8 β))))
  exact E.nw [E.i 0, E.u 0] 47 (fun α => E.H.back (fun w h => A.hq [2, 3, 4] [0, 1, 5] h) (E.H.toP _ _ [(β, (Q.S.cells Q.z0)), (α, [E.i 0, E.u 0]), (g2, (Q.S.cells i.2.1)), (g1, [E.i 0, E.u 0]), (c, (E.pt m :: Q.S.cells i.2.1))] (by kernel_rfl) ⟨by kernel_rfl, by kernel_rfl⟩ (A.pn [1, 0, 2, 3, 4]) (dn _ _ _ _ _ (nd9 β α))))
 have nd12 : ∀ (α : Nat), H 6 (E.bits 12 543) [(0, E.pt c), (1, E.i most), (4, E.pt g1), (5, E.pt g2), (6, E.i ((i.1 : Nat) : Int)), (8, E.pt α), (13, .pointer (some ⟨g2, 23, none⟩)), (14, E.i i.2.1.du), (15, .bool (decide (i.2.1.du > 0))), (16, .bool (decide (i.2.1.du > 0))), (22, .bool ((decide (i.2.1.du > 0)) && (decide (i.2.1.st ≥ i.2.1.du)))), (24, E.i ((i.1 : Nat) : Int)), (25, E.i most), (26, .bool (decide (((i.1 : Nat) : Int) ≥ most))), (29, Q.S.val i.2.1), (30, E.pt c), (31, E.pt m), (32, .iface 35 (E.pt m)), (33, .tuple #[Q.S.val ((K.step i.2.1 i.2.2).1), .agg #[E.i ((K.step i.2.1 i.2.2).2.1), E.u ((K.step i.2.1 i.2.2).2.2.1)]])] (A.X w oo aa [M.It m ((K.step i.2.1 i.2.2).2.2.2) ([])]) [(α, [E.i 0, E.u 0]), (g2, (Q.S.cells i.2.1)), (g1, [E.i 0, E.u 0]), (c, (E.pt m :: Q.S.cells i.2.1))] := by
  intro α
  exact up _ _ _ _ _ (E.tk 5 (.tuple #[Q.S.val ((K.step i.2.1 i.2.2).1), .agg #[E.i ((K.step i.2.1 i.2.2).2.1), E.u ((K.step i.2.1 i.2.2).2.2.1)]]) rfl (fun w h => A.hq [1, 2, 3] [0, 4] h) (E.tk 6 (Q.S.val ((K.step i.2.1 i.2.2).1)) rfl (fun w h => A.hq [1, 2, 3] [0, 4] h) (E.tk 7 (.agg #[E.i ((K.step i.2.1 i.2.2).2.1), E.u ((K.step i.2.1 i.2.2).2.2.1)]) rfl (fun w h => A.hq [1, 2, 3] [0, 4] h) (E.al 8 rfl (E.nw (Q.S.cells Q.z0) 26 (fun β => E.H.back (fun w h => A.hq [2, 3, 4] [0, 1, 5] h) (E.ho (dn _ _ _ _ _ (nd3 β α)))))))))
 have nd11 : ∀ (α : Nat), H 7 (E.bits 12 527) [(0, E.pt c), (1, E.i most), (4, E.pt g1), (5, E.pt g2), (6, E.i ((i.1 : Nat) : Int)), (8, E.pt α), (13, .pointer (some ⟨g2, 23, none⟩)), (14, E.i i.2.1.du), (15, .bool (decide (i.2.1.du > 0))), (16, .bool (decide (i.2.1.du > 0))), (22, .bool ((decide (i.2.1.du > 0)) && (decide (i.2.1.st ≥ i.2.1.du)))), (24, E.i ((i.1 : Nat) : Int)), (25, E.i most), (26, .bool (decide (((i.1 : Nat) : Int) ≥ most))), (29, Q.S.val i.2.1), (30, E.pt c), (31, E.pt m), (32, .iface 35 (E.pt m))] (A.X w oo aa [M.It m i.2.2 ([])]) [(α, [E.i 0, E.u 0]), (g2, (Q.S.cells i.2.1)), (g1, [E.i 0, E.u 0]), (c, (E.pt m :: Q.S.cells i.2.1))] := by
  intro α
  refine up _ _ _ _ _ (E.al2 4 8 rfl rfl ?_ ?_)
  ·
   exact A.G.call (I := Unit) (D := fun _ => True) (V := fun _ => .tuple #[Q.S.val ((K.step i.2.1 i.2.2).1), .agg #[E.i ((K.step i.2.1 i.2.2).2.1), E.u ((K.step i.2.1 i.2.2).2.2.1)]]) (q := fun _ => [M.It m ((K.step i.2.1 i.2.2).2.2.2) ([])]) [A.blk α ([E.i 0, E.u 0]), A.blk g2 (Q.S.cells i.2.1), A.blk g1 ([E.i 0, E.u 0]), A.blk c (E.pt m :: Q.S.cells i.2.1)] (fun _ => [(α, [E.i 0, E.u 0]), (g2, (Q.S.cells i.2.1)), (g1, [E.i 0, E.u 0]), (c, (E.pt m :: Q.S.cells i.2.1))]) (fun _ => [M.It m ((K.step i.2.1 i.2.2).2.2.2) ([])]) (Step_any (m := m) (xs := []) i.2.1 i.2.2 hk1.2.1 hk1.2.2.1) (by kernel_rfl) (A.pn [4, 0, 1, 2, 3]) (fun _ => A.pm [1, 2, 3, 4, 0] (by kernel_rfl) (by kernel_rfl)) (fun w _ => by kernel_rfl) (by kernel_rfl) (fun _ δ => E.H.back (fun w h => A.hq [1, 2, 3] [0, 4] h) (E.ho (dn _ _ _ _ _ (nd12 α))))
  exact E.nw (Q.S.cells Q.z0) 26 (fun β => E.H.back (fun w h => A.hq [2, 3, 4] [0, 1, 5] h) (E.ho (dn _ _ _ _ _ (nd9 β α))))
 have nd0 : H 9 (E.bits 12 7) [(0, E.pt c), (1, E.i most), (4, E.pt g1), (5, E.pt g2), (6, E.i ((i.1 : Nat) : Int)), (13, .pointer (some ⟨g2, 23, none⟩)), (14, E.i i.2.1.du), (15, .bool (decide (i.2.1.du > 0))), (16, .bool (decide (i.2.1.du > 0))), (22, .bool ((decide (i.2.1.du > 0)) && (decide (i.2.1.st ≥ i.2.1.du)))), (24, E.i ((i.1 : Nat) : Int)), (25, E.i most), (26, .bool (decide (((i.1 : Nat) : Int) ≥ most))), (29, Q.S.val i.2.1), (30, E.pt c), (31, E.pt m)] (A.X w oo aa [M.It m i.2.2 ([])]) [(g2, (Q.S.cells i.2.1)), (g1, [E.i 0, E.u 0]), (c, (E.pt m :: Q.S.cells i.2.1))] := by
  refine up _ _ _ _ _ (E.tk 3 (.iface 35 (E.pt m)) rfl (fun w h => A.hpY0 h (by kernel_rfl)) (E.al3 4 8 9 rfl rfl rfl ?_ ?_ ?_))
  ·
   exact A.G.call (I := Unit) (D := fun _ => True) (V := fun _ => .tuple #[Q.S.val ((K.step i.2.1 i.2.2).1), .agg #[E.i ((K.step i.2.1 i.2.2).2.1), E.u ((K.step i.2.1 i.2.2).2.2.1)]]) (q := fun _ => [M.It m ((K.step i.2.1 i.2.2).2.2.2) ([])]) [A.blk g2 (Q.S.cells i.2.1), A.blk g1 ([E.i 0, E.u 0]), A.blk c (E.pt m :: Q.S.cells i.2.1)] (fun _ => [(g2, (Q.S.cells i.2.1)), (g1, [E.i 0, E.u 0]), (c, (E.pt m :: Q.S.cells i.2.1))]) (fun _ => [M.It m ((K.step i.2.1 i.2.2).2.2.2) ([])]) (Step_any (m := m) (xs := []) i.2.1 i.2.2 hk1.2.1 hk1.2.2.1) (by kernel_rfl) (A.pn [3, 0, 1, 2]) (fun _ => A.pm [1, 2, 3, 0] (by kernel_rfl) (by kernel_rfl)) (fun w _ => by kernel_rfl) (by kernel_rfl) (fun _ δ => E.hb (dn _ _ _ _ _ (nd1)))
  ·
   exact E.nw (Q.S.cells Q.z0) 26 (fun β => E.H.back (fun w h => A.hq [1, 2, 3] [0, 4] h) (E.ho (dn _ _ _ _ _ (nd7 β))))
  exact E.nw [E.i 0, E.u 0] 47 (fun α => E.H.back (fun w h => A.hq [1, 2, 3] [0, 4] h) (E.ho (dn _ _ _ _ _ (nd11 α))))
 have nd14 : ∀ (β : Nat), H 8 (E.bits 12 263) [(0, E.pt c), (1, E.i most), (4, E.pt g1), (5, E.pt g2), (6, E.i ((i.1 : Nat) : Int)), (7, E.pt β), (13, .pointer (some ⟨g2, 23, none⟩)), (14, E.i i.2.1.du), (15, .bool (decide (i.2.1.du > 0))), (16, .bool (decide (i.2.1.du > 0))), (22, .bool ((decide (i.2.1.du > 0)) && (decide (i.2.1.st ≥ i.2.1.du)))), (24, E.i ((i.1 : Nat) : Int)), (25, E.i most), (26, .bool (decide (((i.1 : Nat) : Int) ≥ most))), (29, Q.S.val i.2.1), (30, E.pt c), (31, E.pt m)] (A.X w oo aa [M.It m i.2.2 ([])]) [(β, (Q.S.cells Q.z0)), (g2, (Q.S.cells i.2.1)), (g1, [E.i 0, E.u 0]), (c, (E.pt m :: Q.S.cells i.2.1))] := by
  intro β
  refine up _ _ _ _ _ (E.tk 3 (.iface 35 (E.pt m)) rfl (fun w h => A.hq [1, 2, 3] [0, 4] h) (E.al2 4 9 rfl rfl ?_ ?_))
  ·
   exact A.G.call (I := Unit) (D := fun _ => True) (V := fun _ => .tuple #[Q.S.val ((K.step i.2.1 i.2.2).1), .agg #[E.i ((K.step i.2.1 i.2.2).2.1), E.u ((K.step i.2.1 i.2.2).2.2.1)]]) (q := fun _ => [M.It m ((K.step i.2.1 i.2.2).2.2.2) ([])]) [A.blk β (Q.S.cells Q.z0), A.blk g2 (Q.S.cells i.2.1), A.blk g1 ([E.i 0, E.u 0]), A.blk c (E.pt m :: Q.S.cells i.2.1)] (fun _ => [(β, (Q.S.cells Q.z0)), (g2, (Q.S.cells i.2.1)), (g1, [E.i 0, E.u 0]), (c, (E.pt m :: Q.S.cells i.2.1))]) (fun _ => [M.It m ((K.step i.2.1 i.2.2).2.2.2) ([])]) (Step_any (m := m) (xs := []) i.2.1 i.2.2 hk1.2.1 hk1.2.2.1) (by kernel_rfl) (A.pn [4, 0, 1, 2, 3]) (fun _ => A.pm [1, 2, 3, 4, 0] (by kernel_rfl) (by kernel_rfl)) (fun w _ => by kernel_rfl) (by kernel_rfl) (fun _ δ => E.H.back (fun w h => A.hq [1, 2, 3] [0, 4] h) (E.ho (dn _ _ _ _ _ (nd8 β))))
  exact E.nw [E.i 0, E.u 0] 47 (fun α => E.H.back (fun w h => A.hq [2, 3, 4] [0, 1, 5] h) (E.H.toP _ _ [(β, (Q.S.cells Q.z0)), (α, [E.i 0, E.u 0]), (g2, (Q.S.cells i.2.1)), (g1, [E.i 0, E.u 0]), (c, (E.pt m :: Q.S.cells i.2.1))] (by kernel_rfl) ⟨by kernel_rfl, by kernel_rfl⟩ (A.pn [1, 0, 2, 3, 4]) (dn _ _ _ _ _ (nd9 β α))))
 have nd16 : ∀ (β α : Nat), H 7 (E.bits 12 775) [(0, E.pt c), (1, E.i most), (4, E.pt g1), (5, E.pt g2), (6, E.i ((i.1 : Nat) : Int)), (7, E.pt β), (8, E.pt α), (13, .pointer (some ⟨g2, 23, none⟩)), (14, E.i i.2.1.du), (15, .bool (decide (i.2.1.du > 0))), (16, .bool (decide (i.2.1.du > 0))), (22, .bool ((decide (i.2.1.du > 0)) && (decide (i.2.1.st ≥ i.2.1.du)))), (24, E.i ((i.1 : Nat) : Int)), (25, E.i most), (26, .bool (decide (((i.1 : Nat) : Int) ≥ most))), (29, Q.S.val i.2.1), (30, E.pt c), (31, E.pt m)] (A.X w oo aa [M.It m i.2.2 ([])]) [(β, (Q.S.cells Q.z0)), (α, [E.i 0, E.u 0]), (g2, (Q.S.cells i.2.1)), (g1, [E.i 0, E.u 0]), (c, (E.pt m :: Q.S.cells i.2.1))] := by
  intro β α
  exact up _ _ _ _ _ (E.tk 3 (.iface 35 (E.pt m)) rfl (fun w h => A.hq [2, 3, 4] [0, 1, 5] h) (E.al 4 rfl (A.G.call (I := Unit) (D := fun _ => True) (V := fun _ => .tuple #[Q.S.val ((K.step i.2.1 i.2.2).1), .agg #[E.i ((K.step i.2.1 i.2.2).2.1), E.u ((K.step i.2.1 i.2.2).2.2.1)]]) (q := fun _ => [M.It m ((K.step i.2.1 i.2.2).2.2.2) ([])]) [A.blk β (Q.S.cells Q.z0), A.blk α ([E.i 0, E.u 0]), A.blk g2 (Q.S.cells i.2.1), A.blk g1 ([E.i 0, E.u 0]), A.blk c (E.pt m :: Q.S.cells i.2.1)] (fun _ => [(β, (Q.S.cells Q.z0)), (α, [E.i 0, E.u 0]), (g2, (Q.S.cells i.2.1)), (g1, [E.i 0, E.u 0]), (c, (E.pt m :: Q.S.cells i.2.1))]) (fun _ => [M.It m ((K.step i.2.1 i.2.2).2.2.2) ([])]) (Step_any (m := m) (xs := []) i.2.1 i.2.2 hk1.2.1 hk1.2.2.1) (by kernel_rfl) (A.pn [5, 0, 1, 2, 3, 4]) (fun _ => A.pm [1, 2, 3, 4, 5, 0] (by kernel_rfl) (by kernel_rfl)) (fun w _ => by kernel_rfl) (by kernel_rfl) (fun _ δ => E.H.back (fun w h => A.hq [2, 3, 4] [0, 1, 5] h) (E.ho (dn _ _ _ _ _ (nd10 β α)))))))
 have nd15 : ∀ (β α : Nat), H 8 (E.bits 12 771) [(0, E.pt c), (1, E.i most), (4, E.pt g1), (5, E.pt g2), (6, E.i ((i.1 : Nat) : Int)), (7, E.pt β), (8, E.pt α), (13, .pointer (some ⟨g2, 23, none⟩)), (14, E.i i.2.1.du), (15, .bool (decide (i.2.1.du > 0))), (16, .bool (decide (i.2.1.du > 0))), (22, .bool ((decide (i.2.1.du > 0)) && (decide (i.2.1.st ≥ i.2.1.du)))), (24, E.i ((i.1 : Nat) : Int)), (25, E.i most), (26, .bool (decide (((i.1 : Nat) : Int) ≥ most))), (29, Q.S.val i.2.1), (30, E.pt c)] (A.X w oo aa [M.It m i.2.2 ([])]) [(β, (Q.S.cells Q.z0)), (α, [E.i 0, E.u 0]), (g2, (Q.S.cells i.2.1)), (g1, [E.i 0, E.u 0]), (c, (E.pt m :: Q.S.cells i.2.1))] := by
  intro β α
  exact up _ _ _ _ _ (E.al 2 rfl (E.ca (E.pt m) (fun w h => A.cq [4] [0, 1, 2, 3, 5] (CMem (c := c) (m := m) (s := i.2.1)) h) (E.H.back (fun w h => A.hq [2, 3, 4] [0, 1, 5] h) (E.ho (dn _ _ _ _ _ (nd16 β α))))))
 have nd13 : ∀ (β : Nat), H 9 (E.bits 12 259) [(0, E.pt c), (1, E.i most), (4, E.pt g1), (5, E.pt g2), (6, E.i ((i.1 : Nat) : Int)), (7, E.pt β), (13, .pointer (some ⟨g2, 23, none⟩)), (14, E.i i.2.1.du), (15, .bool (decide (i.2.1.du > 0))), (16, .bool (decide (i.2.1.du > 0))), (22, .bool ((decide (i.2.1.du > 0)) && (decide (i.2.1.st ≥ i.2.1.du)))), (24, E.i ((i.1 : Nat) : Int)), (25, E.i most), (26, .bool (decide (((i.1 : Nat) : Int) ≥ most))), (29, Q.S.val i.2.1), (30, E.pt c)] (A.X w oo aa [M.It m i.2.2 ([])]) [(β, (Q.S.cells Q.z0)), (g2, (Q.S.cells i.2.1)), (g1, [E.i 0, E.u 0]), (c, (E.pt m :: Q.S.cells i.2.1))] := by
  intro β
  refine up _ _ _ _ _ (E.al2 2 9 rfl rfl ?_ ?_)
  ·
   exact E.ca (E.pt m) (fun w h => A.cq [3] [0, 1, 2, 4] (CMem (c := c) (m := m) (s := i.2.1)) h) (E.H.back (fun w h => A.hq [1, 2, 3] [0, 4] h) (E.ho (dn _ _ _ _ _ (nd14 β))))
  exact E.nw [E.i 0, E.u 0] 47 (fun α => E.H.back (fun w h => A.hq [2, 3, 4] [0, 1, 5] h) (E.H.toP _ _ [(β, (Q.S.cells Q.z0)), (α, [E.i 0, E.u 0]), (g2, (Q.S.cells i.2.1)), (g1, [E.i 0, E.u 0]), (c, (E.pt m :: Q.S.cells i.2.1))] (by kernel_rfl) ⟨by kernel_rfl, by kernel_rfl⟩ (A.pn [1, 0, 2, 3, 4]) (dn _ _ _ _ _ (nd15 β α))))
 have nd18 : ∀ (α : Nat), H 8 (E.bits 12 519) [(0, E.pt c), (1, E.i most), (4, E.pt g1), (5, E.pt g2), (6, E.i ((i.1 : Nat) : Int)), (8, E.pt α), (13, .pointer (some ⟨g2, 23, none⟩)), (14, E.i i.2.1.du), (15, .bool (decide (i.2.1.du > 0))), (16, .bool (decide (i.2.1.du > 0))), (22, .bool ((decide (i.2.1.du > 0)) && (decide (i.2.1.st ≥ i.2.1.du)))), (24, E.i ((i.1 : Nat) : Int)), (25, E.i most), (26, .bool (decide (((i.1 : Nat) : Int) ≥ most))), (29, Q.S.val i.2.1), (30, E.pt c), (31, E.pt m)] (A.X w oo aa [M.It m i.2.2 ([])]) [(α, [E.i 0, E.u 0]), (g2, (Q.S.cells i.2.1)), (g1, [E.i 0, E.u 0]), (c, (E.pt m :: Q.S.cells i.2.1))] := by
  intro α
  refine up _ _ _ _ _ (E.tk 3 (.iface 35 (E.pt m)) rfl (fun w h => A.hq [1, 2, 3] [0, 4] h) (E.al2 4 8 rfl rfl ?_ ?_))
  ·
   exact A.G.call (I := Unit) (D := fun _ => True) (V := fun _ => .tuple #[Q.S.val ((K.step i.2.1 i.2.2).1), .agg #[E.i ((K.step i.2.1 i.2.2).2.1), E.u ((K.step i.2.1 i.2.2).2.2.1)]]) (q := fun _ => [M.It m ((K.step i.2.1 i.2.2).2.2.2) ([])]) [A.blk α ([E.i 0, E.u 0]), A.blk g2 (Q.S.cells i.2.1), A.blk g1 ([E.i 0, E.u 0]), A.blk c (E.pt m :: Q.S.cells i.2.1)] (fun _ => [(α, [E.i 0, E.u 0]), (g2, (Q.S.cells i.2.1)), (g1, [E.i 0, E.u 0]), (c, (E.pt m :: Q.S.cells i.2.1))]) (fun _ => [M.It m ((K.step i.2.1 i.2.2).2.2.2) ([])]) (Step_any (m := m) (xs := []) i.2.1 i.2.2 hk1.2.1 hk1.2.2.1) (by kernel_rfl) (A.pn [4, 0, 1, 2, 3]) (fun _ => A.pm [1, 2, 3, 4, 0] (by kernel_rfl) (by kernel_rfl)) (fun w _ => by kernel_rfl) (by kernel_rfl) (fun _ δ => E.H.back (fun w h => A.hq [1, 2, 3] [0, 4] h) (E.ho (dn _ _ _ _ _ (nd12 α))))
  exact E.nw (Q.S.cells Q.z0) 26 (fun β => E.H.back (fun w h => A.hq [2, 3, 4] [0, 1, 5] h) (E.ho (dn _ _ _ _ _ (nd9 β α))))
 have nd17 : ∀ (α : Nat), H 9 (E.bits 12 515) [(0, E.pt c), (1, E.i most), (4, E.pt g1), (5, E.pt g2), (6, E.i ((i.1 : Nat) : Int)), (8, E.pt α), (13, .pointer (some ⟨g2, 23, none⟩)), (14, E.i i.2.1.du), (15, .bool (decide (i.2.1.du > 0))), (16, .bool (decide (i.2.1.du > 0))), (22, .bool ((decide (i.2.1.du > 0)) && (decide (i.2.1.st ≥ i.2.1.du)))), (24, E.i ((i.1 : Nat) : Int)), (25, E.i most), (26, .bool (decide (((i.1 : Nat) : Int) ≥ most))), (29, Q.S.val i.2.1), (30, E.pt c)] (A.X w oo aa [M.It m i.2.2 ([])]) [(α, [E.i 0, E.u 0]), (g2, (Q.S.cells i.2.1)), (g1, [E.i 0, E.u 0]), (c, (E.pt m :: Q.S.cells i.2.1))] := by
  intro α
  refine up _ _ _ _ _ (E.al2 2 8 rfl rfl ?_ ?_)
  ·
   exact E.ca (E.pt m) (fun w h => A.cq [3] [0, 1, 2, 4] (CMem (c := c) (m := m) (s := i.2.1)) h) (E.H.back (fun w h => A.hq [1, 2, 3] [0, 4] h) (E.ho (dn _ _ _ _ _ (nd18 α))))
  exact E.nw (Q.S.cells Q.z0) 26 (fun β => E.H.back (fun w h => A.hq [2, 3, 4] [0, 1, 5] h) (E.ho (dn _ _ _ _ _ (nd15 β α))))
 refine up _ _ _ _ _ (E.tj 0 (Q.S.val i.2.1) rfl (fun w h => A.hpY0 h (by kernel_rfl)) (fun w h => A.Y.bld h (k := 0) (j := 0) rfl (by kernel_rfl) (by kernel_rfl)) (E.tk 1 (E.pt c) rfl (fun w h => A.hpY0 h (by kernel_rfl)) (E.al3 2 8 9 rfl rfl rfl ?_ ?_ ?_)))
 ·
  exact E.ca (E.pt m) (fun w h => A.cq [2] [0, 1, 3] (CMem (c := c) (m := m) (s := i.2.1)) h) (E.hb (dn _ _ _ _ _ (nd0)))
 ·
  exact E.nw (Q.S.cells Q.z0) 26 (fun β => E.H.back (fun w h => A.hq [1, 2, 3] [0, 4] h) (E.ho (dn _ _ _ _ _ (nd13 β))))
 exact E.nw [E.i 0, E.u 0] 47 (fun α => E.H.back (fun w h => A.hq [1, 2, 3] [0, 4] h) (E.ho (dn _ _ _ _ _ (nd17 α))))
theorem KPages {c m : Nat} {s : Q.S} {V : M.V}  : A.Rd Tryz.prog 39 #[.pointer (some ⟨c, 0, none⟩)] [A.blk c (.pointer (some ⟨m, 0, none⟩) :: Q.S.cells s), M.It m V []] (.int .i64 ((V.n : Nat) : Int)) := by
 intro w oo aa hh
 exact E.enter (n := 6) (S := fun _ => False) Tryz.func39 rfl rfl (by kernel_rfl) (A.startY hh) (E.sr (E.op (E.i 0) (E.tr (E.op (E.pt c) (E.ca (E.pt m) (fun w h => A.Y.rd [M.It m V ([])] (CMem (c := c) (m := m) (s := s)) h.x (A.pn [0, 1])) (E.ca (E.i ((V.n : Nat) : Int)) (fun w h => A.Y.rd [A.blk c (E.pt m :: Q.S.cells s)] (A_Pages (m := m) (V := V) (xs := [])) h.x (A.pn [1, 0])) (E.op (E.i ((V.n : Nat) : Int)) (E.To.code (E.C.ret (E.bd Tryz.f39 [E.i ((V.n : Nat) : Int)] (fun w h => ⟨rfl, h.ch.bel (fun _ h => h.elim)⟩)))))))))))
theorem KPeek {c m : Nat} {s : Q.S} {V : M.V} (x : Int) (hx : 0 ≤ x ∧ x < 4294967296) : A.Rd Tryz.prog 35 #[.pointer (some ⟨c, 0, none⟩), .int .u32 x] [A.blk c (.pointer (some ⟨m, 0, none⟩) :: Q.S.cells s), M.It m V []] (.int .u8 (V.peek (x).toNat)) := by
 intro w oo aa hh
 exact E.enter (n := 9) (S := fun _ => False) Tryz.func35 rfl rfl (by kernel_rfl) (A.startY hh) (E.sr (E.op (.int .u8 0) (E.tr (E.op (E.pt c) (E.ca (E.pt m) (fun w h => A.Y.rd [M.It m V ([])] (CMem (c := c) (m := m) (s := s)) h.x (A.pn [0, 1])) (E.op (E.u x) (E.ca (.int .u8 (V.peek (x).toNat)) (fun w h => A.Y.rd [A.blk c (E.pt m :: Q.S.cells s)] (I_Peek x hx (m := m) (V := V) (xs := [])) h.x (A.pn [1, 0])) (E.op (.int .u8 (V.peek (x).toNat)) (E.To.code (E.C.ret (E.bd Tryz.f35 [.int .u8 (V.peek (x).toNat)] (fun w h => ⟨rfl, h.ch.bel (fun _ h => h.elim)⟩))))))))))))
theorem KCode {c m : Nat} {s : Q.S} {V : M.V} (x : Int) (hx : 0 ≤ x ∧ x < 4294967296) : A.Rd Tryz.prog 40 #[.pointer (some ⟨c, 0, none⟩), .int .u32 x] [A.blk c (.pointer (some ⟨m, 0, none⟩) :: Q.S.cells s), M.It m V []] (.int .u8 (V.peek (x).toNat)) := by
 intro w oo aa hh
 exact E.enter (n := 9) (S := fun _ => False) Tryz.func40 rfl rfl (by kernel_rfl) (A.startY hh) (E.sr (E.op (.int .u8 0) (E.tr (E.op (E.pt c) (E.ca (E.pt m) (fun w h => A.Y.rd [M.It m V ([])] (CMem (c := c) (m := m) (s := s)) h.x (A.pn [0, 1])) (E.op (E.u x) (E.ca (.int .u8 (V.peek (x).toNat)) (fun w h => A.Y.rd [A.blk c (E.pt m :: Q.S.cells s)] (I_Peek x hx (m := m) (V := V) (xs := [])) h.x (A.pn [1, 0])) (E.op (.int .u8 (V.peek (x).toNat)) (E.To.code (E.C.ret (E.bd Tryz.f40 [.int .u8 (V.peek (x).toNat)] (fun w h => ⟨rfl, h.ch.bel (fun _ h => h.elim)⟩))))))))))))
theorem KRights {c m : Nat} {s : Q.S} {V : M.V} (n : Int) : A.Rd Tryz.prog 42 #[.pointer (some ⟨c, 0, none⟩), .int .i64 n] [A.blk c (.pointer (some ⟨m, 0, none⟩) :: Q.S.cells s), M.It m V []] (.int .i64 (V.rt n)) := by
 intro w oo aa hh
 exact E.enter (n := 9) (S := fun _ => False) Tryz.func42 rfl rfl (by kernel_rfl) (A.startY hh) (E.sr (E.op (E.i 0) (E.tr (E.op (E.pt c) (E.ca (E.pt m) (fun w h => A.Y.rd [M.It m V ([])] (CMem (c := c) (m := m) (s := s)) h.x (A.pn [0, 1])) (E.op (E.i n) (E.ca (E.i (V.rt n)) (fun w h => A.Y.rd [A.blk c (E.pt m :: Q.S.cells s)] (A_Rights n (m := m) (V := V) (xs := [])) h.x (A.pn [1, 0])) (E.op (E.i (V.rt n)) (E.To.code (E.C.ret (E.bd Tryz.f42 [E.i (V.rt n)] (fun w h => ⟨rfl, h.ch.bel (fun _ h => h.elim)⟩))))))))))))
theorem KPoke {c m : Nat} {s : Q.S} {V : M.V} (x : Int) (hx : 0 ≤ x ∧ x < 4294967296) (t : ByteArray) (hs : t.size < 4294967296) : A.Tr Tryz.prog 34 #[.pointer (some ⟨c, 0, none⟩), .int .u32 x, .string t] [A.blk c (.pointer (some ⟨m, 0, none⟩) :: Q.S.cells s), M.It m V []] (I := Unit) (fun _ => True) (fun _ => .tuple #[]) (fun _ => [A.blk c (.pointer (some ⟨m, 0, none⟩) :: Q.S.cells s), M.It m (V.poke (x).toNat t t.size) []]) := by
  intro w oo aa hh
  refine E.enter (n := 11) (S := oo) Tryz.func34 rfl rfl (by kernel_rfl) (A.start (L := [(c, (.pointer (some ⟨m, 0, none⟩) :: Q.S.cells s))]) hh) ?_
  refine E.C.region ?_
  refine E.op (.pointer (some ⟨c, 0, none⟩)) ?_
  refine E.ca (.pointer (some ⟨m, 0, none⟩)) (fun w h => A.cq [0] [1] (CMem (c := c) (m := m) (s := s)) h) ?_
  refine E.op (.int .u32 x) ?_
  refine E.op (.string t) ?_
  refine A.G.call (I := Unit) (D := fun _ => True) (V := fun _ => .tuple #[]) (q := fun _ => [M.It m (V.poke (x).toNat t t.size) ([])]) [A.blk c (.pointer (some ⟨m, 0, none⟩) :: Q.S.cells s)] (fun _ => [(c, (.pointer (some ⟨m, 0, none⟩) :: Q.S.cells s))]) (fun _ => [M.It m (V.poke (x).toNat t t.size) ([])]) (I_Poke x t hx hs (m := m) (V := V) (xs := [])) (by kernel_rfl) (A.pn [1, 0]) (fun _ => A.pm [1, 0] (by kernel_rfl) (by kernel_rfl)) (fun w _ => by kernel_rfl) (by kernel_rfl) (fun _ hd1 => ?_)
  refine E.To.bodyN (fn := Tryz.f34) [] ?_ ?_
  · exact trivial
  · intro w h
    exact ⟨(), trivial, rfl, A.dq [0, 1] [] h⟩
theorem KSync {c m : Nat} {s : Q.S} {V : M.V} (x : Int) (hx : 0 ≤ x ∧ x < 4294967296) : A.Tr Tryz.prog 41 #[.pointer (some ⟨c, 0, none⟩), .int .u32 x] [A.blk c (.pointer (some ⟨m, 0, none⟩) :: Q.S.cells s), M.It m V []] (I := Unit) (fun _ => True) (fun _ => .bool (decide ((x).toNat / 256 < V.n))) (fun _ => [A.blk c (.pointer (some ⟨m, 0, none⟩) :: Q.S.cells s), M.It m (V.sync ((x).toNat / 256)) []]) := by
 intro w oo aa hh
 exact E.enter (n := 9) (S := oo) Tryz.func41 rfl rfl (by kernel_rfl) (A.start (L := [(c, (E.pt m :: Q.S.cells s))]) hh) (E.sr (E.op (.bool false) (E.tr (E.op (E.pt c) (E.ca (E.pt m) (fun w h => A.cq [0] [1] (CMem (c := c) (m := m) (s := s)) h) (E.op (E.u x) (A.G.call (I := Unit) (D := fun _ => True) (V := fun _ => .bool (decide ((x).toNat / 256 < V.n))) (q := fun _ => [M.It m (V.sync ((x).toNat / 256)) ([])]) [A.blk c (E.pt m :: Q.S.cells s)] (fun _ => [(c, (E.pt m :: Q.S.cells s))]) (fun _ => [M.It m (V.sync ((x).toNat / 256)) ([])]) (I_Sync x hx (m := m) (V := V) (xs := [])) (by kernel_rfl) (A.pn [1, 0]) (fun _ => A.pm [1, 0] (by kernel_rfl) (by kernel_rfl)) (fun w _ => by kernel_rfl) (by kernel_rfl) (fun _ hd1 => E.op (.bool (decide ((x).toNat / 256 < V.n))) (E.To.code (E.C.ret (E.bd Tryz.f41 [.bool (decide ((x).toNat / 256 < V.n))] (fun w h => ⟨(), trivial, rfl, A.dq [0, 1] [] h⟩))))))))))))
theorem KProtect {c m : Nat} {s : Q.S} {V : M.V} (n z : Int) : A.Tr Tryz.prog 24 #[.pointer (some ⟨c, 0, none⟩), .int .i64 n, .int .i64 z] [A.blk c (.pointer (some ⟨m, 0, none⟩) :: Q.S.cells s), M.It m V []] (I := Unit) (fun _ => True) (fun _ => .tuple #[]) (fun _ => [A.blk c (.pointer (some ⟨m, 0, none⟩) :: Q.S.cells s), M.It m (V.prot n z) []]) := by
  intro w oo aa hh
  refine E.enter (n := 11) (S := oo) Tryz.func24 rfl rfl (by kernel_rfl) (A.start (L := [(c, (.pointer (some ⟨m, 0, none⟩) :: Q.S.cells s))]) hh) ?_
  refine E.C.region ?_
  refine E.op (.pointer (some ⟨c, 0, none⟩)) ?_
  refine E.ca (.pointer (some ⟨m, 0, none⟩)) (fun w h => A.cq [0] [1] (CMem (c := c) (m := m) (s := s)) h) ?_
  refine E.op (.int .i64 n) ?_
  refine E.op (.int .i64 z) ?_
  refine A.G.call (I := Unit) (D := fun _ => True) (V := fun _ => .tuple #[]) (q := fun _ => [M.It m (V.prot n z) ([])]) [A.blk c (.pointer (some ⟨m, 0, none⟩) :: Q.S.cells s)] (fun _ => [(c, (.pointer (some ⟨m, 0, none⟩) :: Q.S.cells s))]) (fun _ => [M.It m (V.prot n z) ([])]) (A_Protect n z (m := m) (V := V) (xs := [])) (by kernel_rfl) (A.pn [1, 0]) (fun _ => A.pm [1, 0] (by kernel_rfl) (by kernel_rfl)) (fun w _ => by kernel_rfl) (by kernel_rfl) (fun _ hd1 => ?_)
  refine E.To.bodyN (fn := Tryz.f24) [] ?_ ?_
  · exact trivial
  · intro w h
    exact ⟨(), trivial, rfl, A.dq [0, 1] [] h⟩
theorem E.api_Trap_eql {fr : E.Fr} {x y : Operand} {u T : TypeId} {d : Option Nat} {pos : String} {af : Array Edge} {gd : Option (Nat × Bool)} {a0 a1 b0 b1 : Int} {w : World}
    (hx : E.ev fr x = .agg #[.int .i64 a0, .int .u32 a1]) (hy : E.ev fr y = .agg #[.int .i64 b0, .int .u32 b1]) :
    (execOp (E.ev fr) ⟨d, .binOp .eql 47 x y u, T, pos, af, gd⟩).run Tryz.prog w = .ok (.value (.bool (a0 == b0 && a1 == b1))) w := by
  show (do let r ← (do eqGuard .eql 47 x y (E.ev fr x) (E.ev fr y); binOp .eql 47 (E.ev fr x) (E.ev fr y)); pure (Next.value r) : Sem Next).run Tryz.prog w = _
  rw [hx, hy]
  go_simp
  (repeat' split) <;> simp_all
theorem Q.run_items (w : World) (d : Nat) (l : List Value) (hl : ∀ (i : Nat) (v : Value), l[i]? = some v → ∃ x : Int, v = Value.int .u32 x) : ∀ (is : List Nat), (∀ i ∈ is, i < l.length) → (Op.eqItems (d + 1) 22 1 l.toArray l.toArray is).run Tryz.prog w = .ok true w
  | [], _ => by simp [Op.eqItems]
  | i :: is, h => by
    have hi : i < l.length := h i (by simp)
    have ih := Q.run_items w d l hl is fun j hj => h j (by simp [hj])
    have ha : (isAgg 22).run Tryz.prog w = .ok false w := M.one Tryz.underlying22 rfl
    obtain ⟨x, hx⟩ := hl i _ (List.getElem?_eq_getElem hi)
    have p : (part 22 l.toArray (i * 1)).run Tryz.prog w = .ok (.int .u32 x) w := by
      have hg : l[i]? = some (.int .u32 x) := by rw [List.getElem?_eq_getElem hi, hx]
      simp [part, ha, hg]
    have e := run_equalIn_int (P := Tryz.prog) w d 22 .u32 .u32 x x Tryz.underlying22
    simp only [Op.eqItems, Sem.run_bind, p, e, Result.andThen_ok]
    simpa using ih
theorem Q.run_row (w : World) {t : TypeId} (n : Nat) (l : List Value) (ht : Tryz.prog.underlying t = some (.array n 22)) (hn : l.length = n) (hl : ∀ (i : Nat) (v : Value), l[i]? = some v → ∃ x : Int, v = Value.int .u32 x) : (Op.equalIn 9999 t (.agg l.toArray) (.agg l.toArray)).run Tryz.prog w = .ok true w := by
  subst hn
  have hi : ∃ i, Tryz.prog.info? 22 = some i := by
    cases h : Tryz.prog.info? 22 with
    | some i => exact ⟨i, rfl⟩
    | none => have : (Tryz.prog.info? 22).isSome = true := by kernel_rfl
              rw [h] at this; cases this
  obtain ⟨i, hi⟩ := hi
  have h := run_equalIn_array (P := Tryz.prog) w 9998 l.toArray l.toArray ht hi
  have hc : Tryz.prog.cellsOf 22 = 1 := by kernel_rfl
  rw [hc, Q.run_items w 9997 l hl (List.range l.length) (by simp)] at h
  exact h
theorem Q.all_u32 {l : List Int} : ∀ (i : Nat) (v : Value), (l.map (Value.int .u32))[i]? = some v → ∃ x : Int, v = Value.int .u32 x := fun i v h => by
  rw [List.getElem?_map] at h
  cases hq : l[i]? with
  | none => rw [hq] at h; cases h
  | some x => rw [hq] at h; exact ⟨x, (Option.some.inj h).symm⟩
theorem E.api_State_self {fr : E.Fr} {x y : Operand} {u T : TypeId} {d : Option Nat} {pos : String} {af : Array Edge} {gd : Option (Nat × Bool)} (s : Q.S) {w : World}
    (hx : E.ev fr x = s.val) (hy : E.ev fr y = s.val) :
    (execOp (E.ev fr) ⟨d, .binOp .eql 26 x y u, T, pos, af, gd⟩).run Tryz.prog w = .ok (.value (.bool true)) w := by
  show (do let r ← (do eqGuard .eql 26 x y (E.ev fr x) (E.ev fr y); binOp .eql 26 (E.ev fr x) (E.ev fr y)); pure (Next.value r) : Sem Next).run Tryz.prog w = _
  have h1 := Q.run_row w 16 ([s.r 0, s.r 1, s.r 2, s.r 3, s.r 4, s.r 5, s.r 6, s.r 7, s.r 8, s.r 9, s.r 10, s.r 11, s.r 12, s.r 13, s.r 14, s.r 15].map (Value.int .u32)) Tryz.underlying23 rfl Q.all_u32
  have h2 := Q.run_row w 4 ([s.c 0, s.c 1, s.c 2, s.c 3].map (Value.int .u32)) Tryz.underlying24 rfl Q.all_u32
  simp only [List.map_cons, List.map_nil] at h1 h2
  rw [hx, hy]
  unfold Q.S.val
  go_simp
theorem E.api_State_nself {fr : E.Fr} {x y : Operand} {u T : TypeId} {d : Option Nat} {pos : String} {af : Array Edge} {gd : Option (Nat × Bool)} (s : Q.S) {w : World}
    (hx : E.ev fr x = s.val) (hy : E.ev fr y = s.val) :
    (execOp (E.ev fr) ⟨d, .binOp .neq 26 x y u, T, pos, af, gd⟩).run Tryz.prog w = .ok (.value (.bool false)) w := by
  show (do let r ← (do eqGuard .neq 26 x y (E.ev fr x) (E.ev fr y); binOp .neq 26 (E.ev fr x) (E.ev fr y)); pure (Next.value r) : Sem Next).run Tryz.prog w = _
  have h1 := Q.run_row w 16 ([s.r 0, s.r 1, s.r 2, s.r 3, s.r 4, s.r 5, s.r 6, s.r 7, s.r 8, s.r 9, s.r 10, s.r 11, s.r 12, s.r 13, s.r 14, s.r 15].map (Value.int .u32)) Tryz.underlying23 rfl Q.all_u32
  have h2 := Q.run_row w 4 ([s.c 0, s.c 1, s.c 2, s.c 3].map (Value.int .u32)) Tryz.underlying24 rfl Q.all_u32
  simp only [List.map_cons, List.map_nil] at h1 h2
  rw [hx, hy]
  unfold Q.S.val
  go_simp
end Go.Proofs.YtglidnmmeclneaaGreat
