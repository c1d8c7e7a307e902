/- Texts of the walk, merged (6): see the remark ahead of each. -/
import Derived.Test.YtgbndbljohpnmaaGreatYe5
import Derived.Test.YtgbndbljohpnmaaGreatProg
/- XQbd -/
namespace Go.Proofs.YtgbndbljohpnmaaGreat
set_option linter.unusedVariables false
set_option linter.unusedSimpArgs false
open Go.RowKit
theorem Q.eq_of {k : Int} (h : (k != 0) = false) : (k == 0) = true := by rw [bne, Bool.not_eq_false'] at h; exact h
/-- What a step gives: a state and a trap. -/
def Q.out (s : Q.S) (k t : Int) : Value := .agg (s.cells ++ [Value.int .i64 k, Value.int .u32 t]).toArray
theorem Trapped6_any (s : Q.S) (k t : Int) (w : World) : Calls Tryz.prog 55 #[Q.S.val s, .int .i64 k, .int .u32 t] w fun e w' => e = .returned (Q.out s k t) ∧ Bel w w' := by
 refine E.enter (n := 12) (S := fun _ => False) Tryz.func55 rfl rfl (by kernel_rfl) (E.Hp.start w) (E.sr (E.G.new (fun g => E.pt g) (Q.S.cells s) 32 (fun w => by kernel_rfl) (by kernel_rfl) (fun g1 => E.G.new (fun g => E.pt g) (Q.S.cells Q.z0 ++ [E.i 0, E.u 0]) 53 (fun w => by kernel_rfl) (by kernel_rfl) (fun g2 => E.tr (E.li (Q.S.val s) 1 rfl rfl (E.op (E.i k) (E.op (E.u t) (E.vl (.agg #[E.i k, E.u t]) (fun w h => E.run_build #[E.i k, E.u t] (by kernel_rfl) w) (E.vl (Q.out s k t) (fun w h => E.run_build (Q.S.cells s ++ [Value.int .i64 k, Value.int .u32 t]).toArray (by kernel_rfl) w) (E.st 0 (Q.S.cells s ++ [E.i k, E.u t]) rfl rfl (E.To.code ?_)))))))))))
 refine E.wk [(6, E.pt g2)] [(g2, (Q.S.cells s ++ [E.i k, E.u t]))] Nz.sub (E.C.ret (E.To.body (fn := Tryz.f55) [Q.out s k t] ?_ ?_))
 · exact ⟨⟨by kernel_rfl, _, _, 0, _, rfl, rfl, by kernel_rfl⟩, trivial⟩
 intro w h
 exact ⟨rfl, h.ch.bel (fun _ h => h.elim)⟩
def Q6.oper (c : Int) : Int := (bif (c == 1) then 3 else (bif (c == 16) then 3 else (bif (c == 2) then 4 else (bif (c == 3) then 5 else (bif (c == 17) then 5 else (bif (c == 4) then 6 else (bif (c == 18) then 6 else (bif (c == 5) then 7 else (bif (c == 19) then 7 else (bif (c == 6) then 8 else (bif (c == 20) then 8 else (bif (c == 7) then 9 else (bif (c == 21) then 9 else (bif (c == 8) then 10 else (bif (c == 22) then 10 else (bif (c == 9) then 11 else (bif (c == 10) then 12 else (bif (c == 11) then 14 else (bif (c == 12) then 15 else 0)))))))))))))))))))
theorem Oper6_any (c : Int) (w : World) : Calls Tryz.prog 54 #[.int .i64 c] w fun e w' => e = .returned (.int .i64 (Q6.oper c)) ∧ Bel w w' := by
 refine E.enter (n := 35) (S := fun _ => False) Tryz.func54 rfl rfl (by kernel_rfl) (E.Hp.start w) (E.sr (E.op (E.i 0) (E.To.code (E.C.seq (E.sr (E.op (E.i c) (E.To.code (E.C.block (E.C.seq (E.sr (E.op (.bool (c == 1)) ?_)))))))))))
 refine E.op (.bool (c == 1)) (E.To.code (E.cd (c == 1) (fun hc1 => ?_) (fun hc1 => ?_)))
 ·
  refine E.C.skip (E.To.code (E.cd (c == 1) (fun hc2 => ?_) (fun hc2 => absurd (hc1.symm.trans hc2) (by decide))))
  exact E.sr (E.op (E.i 3) (E.To.code (E.C.ret (E.P.rb (E.P.rt (E.bd Tryz.f54 [.int .i64 3] (fun w h => ⟨by show Ending.returned (.int .i64 3) = _; unfold Q6.oper; rw [hc1, cond_true] <;> rfl, h.ch.bel (fun _ h => h.elim)⟩)))))))
 refine E.C.region (E.op (.bool (c == 16)) (E.op (.bool (c == 16)) (E.To.code (E.cd (c == 16) (fun hc3 => ?_) (fun hc3 => ?_)))))
 ·
  exact E.sr (E.op (E.i 3) (E.To.code (E.C.ret (E.P.rb (E.P.rt (E.bd Tryz.f54 [.int .i64 3] (fun w h => ⟨by show Ending.returned (.int .i64 3) = _; unfold Q6.oper; rw [hc1, cond_false, hc3, cond_true] <;> rfl, h.ch.bel (fun _ h => h.elim)⟩)))))))
 refine E.sr (E.op (.bool (c == 2)) (E.op (.bool (c == 2)) (E.To.code (E.cd (c == 2) (fun hc4 => ?_) (fun hc4 => ?_)))))
 ·
  exact E.sr (E.op (E.i 4) (E.To.code (E.C.ret (E.P.rb (E.P.rt (E.bd Tryz.f54 [.int .i64 4] (fun w h => ⟨by show Ending.returned (.int .i64 4) = _; unfold Q6.oper; rw [hc1, cond_false, hc3, cond_false, hc4, cond_true] <;> rfl, h.ch.bel (fun _ h => h.elim)⟩)))))))
 refine E.C.seq (E.sr (E.op (.bool (c == 3)) (E.op (.bool (c == 3)) (E.To.code (E.cd (c == 3) (fun hc5 => ?_) (fun hc5 => ?_))))))
 ·
  refine E.C.skip (E.To.code (E.cd (c == 3) (fun hc6 => ?_) (fun hc6 => absurd (hc5.symm.trans hc6) (by decide))))
  exact E.sr (E.op (E.i 5) (E.To.code (E.wk [(2, E.i 5)] [] Nz.sub (E.C.ret (E.P.rb (E.P.rt (E.bd Tryz.f54 [.int .i64 5] (fun w h => ⟨by show Ending.returned (.int .i64 5) = _; unfold Q6.oper; rw [hc1, cond_false, hc3, cond_false, hc4, cond_false, hc5, cond_true] <;> rfl, h.ch.bel (fun _ h => h.elim)⟩))))))))
 refine E.C.region (E.op (.bool (c == 17)) (E.op (.bool (c == 17)) (E.To.code (E.wk [(2, E.i 0), (3, E.i c), (9, .bool (c == 17))] [] Nz.sub (E.cd (c == 17) (fun hc7 => ?_) (fun hc7 => ?_))))))
 ·
  exact E.sr (E.op (E.i 5) (E.To.code (E.C.ret (E.P.rb (E.P.rt (E.bd Tryz.f54 [.int .i64 5] (fun w h => ⟨by show Ending.returned (.int .i64 5) = _; unfold Q6.oper; rw [hc1, cond_false, hc3, cond_false, hc4, cond_false, hc5, cond_false, hc7, cond_true] <;> rfl, h.ch.bel (fun _ h => h.elim)⟩)))))))
 refine E.C.seq (E.sr (E.op (.bool (c == 4)) (E.op (.bool (c == 4)) (E.To.code (E.cd (c == 4) (fun hc8 => ?_) (fun hc8 => ?_))))))
 ·
  refine E.C.skip (E.To.code (E.cd (c == 4) (fun hc9 => ?_) (fun hc9 => absurd (hc8.symm.trans hc9) (by decide))))
  exact E.sr (E.op (E.i 6) (E.To.code (E.C.ret (E.P.rb (E.P.rt (E.bd Tryz.f54 [.int .i64 6] (fun w h => ⟨by show Ending.returned (.int .i64 6) = _; unfold Q6.oper; rw [hc1, cond_false, hc3, cond_false, hc4, cond_false, hc5, cond_false, hc7, cond_false, hc8, cond_true] <;> rfl, h.ch.bel (fun _ h => h.elim)⟩)))))))
 refine E.C.region (E.op (.bool (c == 18)) (E.op (.bool (c == 18)) (E.To.code (E.cd (c == 18) (fun hc10 => ?_) (fun hc10 => ?_)))))
 ·
  exact E.sr (E.op (E.i 6) (E.To.code (E.C.ret (E.P.rb (E.P.rt (E.bd Tryz.f54 [.int .i64 6] (fun w h => ⟨by show Ending.returned (.int .i64 6) = _; unfold Q6.oper; rw [hc1, cond_false, hc3, cond_false, hc4, cond_false, hc5, cond_false, hc7, cond_false, hc8, cond_false, hc10, cond_true] <;> rfl, h.ch.bel (fun _ h => h.elim)⟩)))))))
 refine E.C.seq (E.sr (E.op (.bool (c == 5)) (E.op (.bool (c == 5)) (E.To.code (E.cd (c == 5) (fun hc11 => ?_) (fun hc11 => ?_))))))
 ·
  refine E.C.skip (E.To.code (E.cd (c == 5) (fun hc12 => ?_) (fun hc12 => absurd (hc11.symm.trans hc12) (by decide))))
  exact E.sr (E.op (E.i 7) (E.To.code (E.C.ret (E.P.rb (E.P.rt (E.bd Tryz.f54 [.int .i64 7] (fun w h => ⟨by show Ending.returned (.int .i64 7) = _; unfold Q6.oper; rw [hc1, cond_false, hc3, cond_false, hc4, cond_false, hc5, cond_false, hc7, cond_false, hc8, cond_false, hc10, cond_false, hc11, cond_true] <;> rfl, h.ch.bel (fun _ h => h.elim)⟩)))))))
 refine E.C.region (E.op (.bool (c == 19)) (E.op (.bool (c == 19)) (E.To.code (E.cd (c == 19) (fun hc13 => ?_) (fun hc13 => ?_)))))
 ·
  exact E.sr (E.op (E.i 7) (E.To.code (E.wk [(2, E.i 7)] [] Nz.sub (E.C.ret (E.P.rb (E.P.rt (E.bd Tryz.f54 [.int .i64 7] (fun w h => ⟨by show Ending.returned (.int .i64 7) = _; unfold Q6.oper; rw [hc1, cond_false, hc3, cond_false, hc4, cond_false, hc5, cond_false, hc7, cond_false, hc8, cond_false, hc10, cond_false, hc11, cond_false, hc13, cond_true] <;> rfl, h.ch.bel (fun _ h => h.elim)⟩))))))))
 refine E.C.seq (E.sr (E.op (.bool (c == 6)) (E.op (.bool (c == 6)) (E.To.code (E.wk [(2, E.i 0), (3, E.i c), (18, .bool (c == 6))] [] Nz.sub (E.cd (c == 6) (fun hc14 => ?_) (fun hc14 => ?_)))))))
 ·
  refine E.C.skip (E.To.code (E.cd (c == 6) (fun hc15 => ?_) (fun hc15 => absurd (hc14.symm.trans hc15) (by decide))))
  exact E.sr (E.op (E.i 8) (E.To.code (E.C.ret (E.P.rb (E.P.rt (E.bd Tryz.f54 [.int .i64 8] (fun w h => ⟨by show Ending.returned (.int .i64 8) = _; unfold Q6.oper; rw [hc1, cond_false, hc3, cond_false, hc4, cond_false, hc5, cond_false, hc7, cond_false, hc8, cond_false, hc10, cond_false, hc11, cond_false, hc13, cond_false, hc14, cond_true] <;> rfl, h.ch.bel (fun _ h => h.elim)⟩)))))))
 refine E.C.region (E.op (.bool (c == 20)) (E.op (.bool (c == 20)) (E.To.code (E.cd (c == 20) (fun hc16 => ?_) (fun hc16 => ?_)))))
 ·
  exact E.sr (E.op (E.i 8) (E.To.code (E.C.ret (E.P.rb (E.P.rt (E.bd Tryz.f54 [.int .i64 8] (fun w h => ⟨by show Ending.returned (.int .i64 8) = _; unfold Q6.oper; rw [hc1, cond_false, hc3, cond_false, hc4, cond_false, hc5, cond_false, hc7, cond_false, hc8, cond_false, hc10, cond_false, hc11, cond_false, hc13, cond_false, hc14, cond_false, hc16, cond_true] <;> rfl, h.ch.bel (fun _ h => h.elim)⟩)))))))
 refine E.C.seq (E.sr (E.op (.bool (c == 7)) (E.op (.bool (c == 7)) (E.To.code (E.cd (c == 7) (fun hc17 => ?_) (fun hc17 => ?_))))))
 ·
  refine E.C.skip (E.To.code (E.cd (c == 7) (fun hc18 => ?_) (fun hc18 => absurd (hc17.symm.trans hc18) (by decide))))
  exact E.sr (E.op (E.i 9) (E.To.code (E.C.ret (E.P.rb (E.P.rt (E.bd Tryz.f54 [.int .i64 9] (fun w h => ⟨by show Ending.returned (.int .i64 9) = _; unfold Q6.oper; rw [hc1, cond_false, hc3, cond_false, hc4, cond_false, hc5, cond_false, hc7, cond_false, hc8, cond_false, hc10, cond_false, hc11, cond_false, hc13, cond_false, hc14, cond_false, hc16, cond_false, hc17, cond_true] <;> rfl, h.ch.bel (fun _ h => h.elim)⟩)))))))
 refine E.C.region (E.op (.bool (c == 21)) (E.op (.bool (c == 21)) (E.To.code (E.cd (c == 21) (fun hc19 => ?_) (fun hc19 => ?_)))))
 ·
  exact E.sr (E.op (E.i 9) (E.To.code (E.C.ret (E.P.rb (E.P.rt (E.bd Tryz.f54 [.int .i64 9] (fun w h => ⟨by show Ending.returned (.int .i64 9) = _; unfold Q6.oper; rw [hc1, cond_false, hc3, cond_false, hc4, cond_false, hc5, cond_false, hc7, cond_false, hc8, cond_false, hc10, cond_false, hc11, cond_false, hc13, cond_false, hc14, cond_false, hc16, cond_false, hc17, cond_false, hc19, cond_true] <;> rfl, h.ch.bel (fun _ h => h.elim)⟩)))))))
 refine E.C.seq (E.sr (E.op (.bool (c == 8)) (E.op (.bool (c == 8)) (E.To.code (E.cd (c == 8) (fun hc20 => ?_) (fun hc20 => ?_))))))
 ·
  refine E.C.skip (E.To.code (E.cd (c == 8) (fun hc21 => ?_) (fun hc21 => absurd (hc20.symm.trans hc21) (by decide))))
  exact E.sr (E.op (E.i 10) (E.To.code (E.wk [(2, E.i 10)] [] Nz.sub (E.C.ret (E.P.rb (E.P.rt (E.bd Tryz.f54 [.int .i64 10] (fun w h => ⟨by show Ending.returned (.int .i64 10) = _; unfold Q6.oper; rw [hc1, cond_false, hc3, cond_false, hc4, cond_false, hc5, cond_false, hc7, cond_false, hc8, cond_false, hc10, cond_false, hc11, cond_false, hc13, cond_false, hc14, cond_false, hc16, cond_false, hc17, cond_false, hc19, cond_false, hc20, cond_true] <;> rfl, h.ch.bel (fun _ h => h.elim)⟩))))))))
 refine E.C.region (E.op (.bool (c == 22)) (E.op (.bool (c == 22)) (E.To.code (E.cd (c == 22) (fun hc22 => ?_) (fun hc22 => ?_)))))
 ·
  exact E.sr (E.op (E.i 10) (E.To.code (E.wk [(2, E.i 10)] [] Nz.sub (E.C.ret (E.P.rb (E.P.rt (E.bd Tryz.f54 [.int .i64 10] (fun w h => ⟨by show Ending.returned (.int .i64 10) = _; unfold Q6.oper; rw [hc1, cond_false, hc3, cond_false, hc4, cond_false, hc5, cond_false, hc7, cond_false, hc8, cond_false, hc10, cond_false, hc11, cond_false, hc13, cond_false, hc14, cond_false, hc16, cond_false, hc17, cond_false, hc19, cond_false, hc20, cond_false, hc22, cond_true] <;> rfl, h.ch.bel (fun _ h => h.elim)⟩))))))))
 refine E.sr (E.op (.bool (c == 9)) (E.op (.bool (c == 9)) (E.To.code (E.wk [(2, E.i 0), (3, E.i c), (27, .bool (c == 9))] [] Nz.sub (E.cd (c == 9) (fun hc23 => ?_) (fun hc23 => ?_))))))
 ·
  exact E.sr (E.op (E.i 11) (E.To.code (E.C.ret (E.P.rb (E.P.rt (E.bd Tryz.f54 [.int .i64 11] (fun w h => ⟨by show Ending.returned (.int .i64 11) = _; unfold Q6.oper; rw [hc1, cond_false, hc3, cond_false, hc4, cond_false, hc5, cond_false, hc7, cond_false, hc8, cond_false, hc10, cond_false, hc11, cond_false, hc13, cond_false, hc14, cond_false, hc16, cond_false, hc17, cond_false, hc19, cond_false, hc20, cond_false, hc22, cond_false, hc23, cond_true] <;> rfl, h.ch.bel (fun _ h => h.elim)⟩)))))))
 refine E.sr (E.op (.bool (c == 10)) (E.op (.bool (c == 10)) (E.To.code (E.cd (c == 10) (fun hc24 => ?_) (fun hc24 => ?_)))))
 ·
  exact E.sr (E.op (E.i 12) (E.To.code (E.C.ret (E.P.rb (E.P.rt (E.bd Tryz.f54 [.int .i64 12] (fun w h => ⟨by show Ending.returned (.int .i64 12) = _; unfold Q6.oper; rw [hc1, cond_false, hc3, cond_false, hc4, cond_false, hc5, cond_false, hc7, cond_false, hc8, cond_false, hc10, cond_false, hc11, cond_false, hc13, cond_false, hc14, cond_false, hc16, cond_false, hc17, cond_false, hc19, cond_false, hc20, cond_false, hc22, cond_false, hc23, cond_false, hc24, cond_true] <;> rfl, h.ch.bel (fun _ h => h.elim)⟩)))))))
 refine E.sr (E.op (.bool (c == 11)) (E.op (.bool (c == 11)) (E.To.code (E.cd (c == 11) (fun hc25 => ?_) (fun hc25 => ?_)))))
 ·
  exact E.sr (E.op (E.i 14) (E.To.code (E.C.ret (E.P.rb (E.P.rt (E.bd Tryz.f54 [.int .i64 14] (fun w h => ⟨by show Ending.returned (.int .i64 14) = _; unfold Q6.oper; rw [hc1, cond_false, hc3, cond_false, hc4, cond_false, hc5, cond_false, hc7, cond_false, hc8, cond_false, hc10, cond_false, hc11, cond_false, hc13, cond_false, hc14, cond_false, hc16, cond_false, hc17, cond_false, hc19, cond_false, hc20, cond_false, hc22, cond_false, hc23, cond_false, hc24, cond_false, hc25, cond_true] <;> rfl, h.ch.bel (fun _ h => h.elim)⟩)))))))
 refine E.sr (E.op (.bool (c == 12)) (E.op (.bool (c == 12)) (E.To.code (E.cd (c == 12) (fun hc26 => ?_) (fun hc26 => ?_)))))
 ·
  exact E.sr (E.op (E.i 15) (E.To.code (E.wk [(2, E.i 15)] [] Nz.sub (E.C.ret (E.P.rb (E.P.rt (E.bd Tryz.f54 [.int .i64 15] (fun w h => ⟨by show Ending.returned (.int .i64 15) = _; unfold Q6.oper; rw [hc1, cond_false, hc3, cond_false, hc4, cond_false, hc5, cond_false, hc7, cond_false, hc8, cond_false, hc10, cond_false, hc11, cond_false, hc13, cond_false, hc14, cond_false, hc16, cond_false, hc17, cond_false, hc19, cond_false, hc20, cond_false, hc22, cond_false, hc23, cond_false, hc24, cond_false, hc25, cond_false, hc26, cond_true] <;> rfl, h.ch.bel (fun _ h => h.elim)⟩))))))))
 exact E.C.skip (E.P.nb (E.To.code (E.wk [(2, E.i 0)] [] Nz.sub (E.sr (E.op (E.i 0) (E.To.code (E.C.ret (E.bd Tryz.f54 [.int .i64 0] (fun w h => ⟨by show Ending.returned (.int .i64 0) = _; unfold Q6.oper; rw [hc1, cond_false, hc3, cond_false, hc4, cond_false, hc5, cond_false, hc7, cond_false, hc8, cond_false, hc10, cond_false, hc11, cond_false, hc13, cond_false, hc14, cond_false, hc16, cond_false, hc17, cond_false, hc19, cond_false, hc20, cond_false, hc22, cond_false, hc23, cond_false, hc24, cond_false, hc25, cond_false, hc26, cond_false] <;> rfl, h.ch.bel (fun _ h => h.elim)⟩)))))))))
theorem Q.lt2 {c : Bool} {x : Int} (h : (c && decide (x < 2)) = true) : x < 2 := of_decide_eq_true (Bool.and_eq_true_iff.1 h).2
theorem rOp_all (c a b : Int) (ha : 0 ≤ a ∧ a < 4294967296) (hb : 0 ≤ b ∧ b < 4294967296) (w : World) : Calls Tryz.prog 56 #[.int .i64 c, .int .u32 a, .int .u32 b] w fun e w' => e = .returned (.int .u32 (W.op c a b)) ∧ Bel w w' := rOp_any c a b ha.1 ha.2 hb.1 hb.2 w
def Q6.stepI (i : Q.I) (k t : Int) (s : Q.S) (V : M.V) : Q.S × Int × Int × M.V := (bif (k != 0) then (s, k, t, V) else (bif ((i.op == 10) && ((bif (decide (i.op ≥ 16)) then i.imm else ((Q.up s.r 0 0) ((i.b).toNat))) == 0)) then (s, 6, 0, V) else (bif ((Q6.oper i.op) != 0) then (⟨(IntKind.wrap .u32 (s.pc + 4)), (Q.up (Q.up (Q.up s.r 0 0) (i.d).toNat (W.op (Q6.oper i.op) ((Q.up s.r 0 0) ((i.a).toNat)) (bif (decide (i.op ≥ 16)) then i.imm else ((Q.up s.r 0 0) ((i.b).toNat))))) 0 0), s.f, s.c, (IntKind.wrap .i64 (s.st + 1)), s.du⟩, 0, 0, V) else (bif ((i.op == 23) || (i.op == 24)) then (bif (!((V.load ((IntKind.wrap .u32 (((Q.up s.r 0 0) ((i.a).toNat)) + i.imm))).toNat (bif (i.op == 24) then 1 else 4)).2.2)) then (s, 5, (V.load ((IntKind.wrap .u32 (((Q.up s.r 0 0) ((i.a).toNat)) + i.imm))).toNat (bif (i.op == 24) then 1 else 4)).2.1, V) else (⟨(IntKind.wrap .u32 (s.pc + 4)), (Q.up (Q.up (Q.up s.r 0 0) (i.d).toNat ((V.load ((IntKind.wrap .u32 (((Q.up s.r 0 0) ((i.a).toNat)) + i.imm))).toNat (bif (i.op == 24) then 1 else 4)).1)) 0 0), s.f, s.c, (IntKind.wrap .i64 (s.st + 1)), s.du⟩, 0, 0, V)) else (bif ((i.op == 25) || (i.op == 26)) then (bif (!((V.chk ((IntKind.wrap .u32 (((Q.up s.r 0 0) ((i.a).toNat)) + i.imm))).toNat 2 (bif (i.op == 26) then 1 else 4)).2)) then (s, 5, (V.chk ((IntKind.wrap .u32 (((Q.up s.r 0 0) ((i.a).toNat)) + i.imm))).toNat 2 (bif (i.op == 26) then 1 else 4)).1, (V.sto ((IntKind.wrap .u32 (((Q.up s.r 0 0) ((i.a).toNat)) + i.imm))).toNat (bif (i.op == 26) then 1 else 4) ((Q.up s.r 0 0) ((i.d).toNat)))) else (⟨(IntKind.wrap .u32 (s.pc + 4)), (Q.up (Q.up s.r 0 0) 0 0), s.f, s.c, (IntKind.wrap .i64 (s.st + 1)), s.du⟩, 0, 0, (V.sto ((IntKind.wrap .u32 (((Q.up s.r 0 0) ((i.a).toNat)) + i.imm))).toNat (bif (i.op == 26) then 1 else 4) ((Q.up s.r 0 0) ((i.d).toNat))))) else (bif (i.op == 27) then (⟨(IntKind.wrap .u32 ((IntKind.wrap .u32 (Int.tdiv (IntKind.wrap .u32 (((Q.up s.r 0 0) ((i.a).toNat)) + i.imm)) 4)) * 4)), (Q.up (Q.up (Q.up s.r 0 0) (i.d).toNat (IntKind.wrap .u32 (s.pc + 4))) 0 0), s.f, s.c, (IntKind.wrap .i64 (s.st + 1)), s.du⟩, 0, 0, V) else (bif ((decide (i.op ≥ 32)) && (decide (i.op ≤ 37))) then (bif (Q6.taken i.op ((Q.up s.r 0 0) ((i.d).toNat)) ((Q.up s.r 0 0) ((i.a).toNat))) then (⟨(IntKind.wrap .u32 (s.pc + (IntKind.wrap .u32 (4 * i.imm)))), (Q.up (Q.up s.r 0 0) 0 0), s.f, s.c, (IntKind.wrap .i64 (s.st + 1)), s.du⟩, 0, 0, V) else (⟨(IntKind.wrap .u32 (s.pc + 4)), (Q.up (Q.up s.r 0 0) 0 0), s.f, s.c, (IntKind.wrap .i64 (s.st + 1)), s.du⟩, 0, 0, V)) else (bif (i.op == 40) then (⟨(IntKind.wrap .u32 (s.pc + (IntKind.wrap .u32 (4 * i.imm)))), (Q.up (Q.up (Q.up s.r 0 0) (i.d).toNat (IntKind.wrap .u32 (s.pc + 4))) 0 0), s.f, s.c, (IntKind.wrap .i64 (s.st + 1)), s.du⟩, 0, 0, V) else (bif (i.op == 41) then (⟨(IntKind.wrap .u32 (s.pc + 4)), (Q.up (Q.up (Q.up s.r 0 0) (i.d).toNat (IntKind.wrap .u32 (i.imm * 2 ^ 10))) 0 0), s.f, s.c, (IntKind.wrap .i64 (s.st + 1)), s.du⟩, 0, 0, V) else (bif (i.op == 48) then (s, 4, i.imm, V) else (bif (i.op == 49) then (s, 3, 0, V) else (bif (i.op == 50) then (s, 2, 0, V) else (bif (i.op == 51) then (⟨(IntKind.wrap .u32 ((IntKind.wrap .u32 (Int.tdiv (s.c 1) 4)) * 4)), (Q.up (Q.up s.r 0 0) 0 0), s.f, s.c, (IntKind.wrap .i64 (s.st + 1)), s.du⟩, 0, 0, V) else (bif (i.op == 52) then (bif (!(decide ((((Q.up s.r 0 0) ((i.a).toNat))).toNat / 256 < V.n))) then (s, 5, ((Q.up s.r 0 0) ((i.a).toNat)), (V.sync ((((Q.up s.r 0 0) ((i.a).toNat))).toNat / 256))) else (⟨(IntKind.wrap .u32 (s.pc + 4)), (Q.up (Q.up s.r 0 0) 0 0), s.f, s.c, (IntKind.wrap .i64 (s.st + 1)), s.du⟩, 0, 0, (V.sync ((((Q.up s.r 0 0) ((i.a).toNat))).toNat / 256)))) else (bif (i.op == 53) then (⟨(IntKind.wrap .u32 (s.pc + 4)), (Q.up (Q.up (Q.up s.r 0 0) (i.d).toNat (s.c ((i.imm).toNat))) 0 0), s.f, s.c, (IntKind.wrap .i64 (s.st + 1)), s.du⟩, 0, 0, V) else (bif ((i.op == 54) && (i.imm == 4)) then (bif (((Q.up s.r 0 0) ((i.a).toNat)) != 0) then (⟨(IntKind.wrap .u32 (s.pc + 4)), (Q.up (Q.up s.r 0 0) 0 0), s.f, s.c, (IntKind.wrap .i64 (s.st + 1)), (IntKind.wrap .i64 ((IntKind.wrap .i64 (s.st + 1)) + (IntKind.wrap .i64 ((Q.up s.r 0 0) ((i.a).toNat)))))⟩, 0, 0, V) else (⟨(IntKind.wrap .u32 (s.pc + 4)), (Q.up (Q.up s.r 0 0) 0 0), s.f, s.c, (IntKind.wrap .i64 (s.st + 1)), 0⟩, 0, 0, V)) else (bif ((i.op == 54) && (decide (i.imm < 2))) then (⟨(IntKind.wrap .u32 (s.pc + 4)), (Q.up (Q.up s.r 0 0) 0 0), s.f, (Q.up s.c (i.imm).toNat ((Q.up s.r 0 0) ((i.a).toNat))), (IntKind.wrap .i64 (s.st + 1)), s.du⟩, 0, 0, V) else (⟨(IntKind.wrap .u32 (s.pc + 4)), (Q.up (Q.up s.r 0 0) 0 0), s.f, s.c, (IntKind.wrap .i64 (s.st + 1)), s.du⟩, 0, 0, V))))))))))))))))))
theorem Step6_i {m : Nat} (i : Q.I) (k t : Int) (s : Q.S) (V : M.V) (hf : Q6.fetch V s.pc = (i, k, t)) (hi : (k == 0) = true → Q.iok i) (hs : Q.wf s) : A.Tr Tryz.prog 18 #[Q.S.val s, .pointer (some ⟨m, 0, none⟩)] [R.It m V] (I := Unit) (fun _ => True) (fun _ => Q.out ((Q6.stepI i k t s V).1) ((Q6.stepI i k t s V).2.1) ((Q6.stepI i k t s V).2.2.1)) (fun _ => [R.It m (Q6.stepI i k t s V).2.2.2]) := by
 intro w oo aa hh
 refine E.enter (n := 301) (S := oo) Tryz.func18 rfl rfl (by kernel_rfl) (A.start (L := []) hh) (E.sr (E.G.new (fun g => E.pt g) (Q.S.cells s) 32 (fun w => by kernel_rfl) (by kernel_rfl) (fun g1 => E.G.new (fun g => E.pt g) (Q.S.cells Q.z0 ++ [E.i 0, E.u 0]) 53 (fun w => by kernel_rfl) (by kernel_rfl) (fun g2 => E.tr (E.op (E.pt g1) (E.li (E.u s.pc) 1 rfl rfl (E.op (E.pt m) (E.G.call (.agg #[E.i i.op, E.i i.d, E.i i.a, E.i i.b, E.u i.imm, E.i k, E.u t]) (fun w h => A.cq [2] [0, 1] (A.rdAs (v' := .agg #[E.i i.op, E.i i.d, E.i i.a, E.i i.b, E.u i.imm, E.i k, E.u t]) (Fetch6_rd (m := m) V s.pc) (by rw [hf] <;> rfl)) h) (fun w _ => by kernel_rfl) (by kernel_rfl) (E.G.new (fun g => E.pt g) [E.i 0, E.i 0, E.i 0, E.i 0, E.u 0, E.i 0, E.u 0] 118 (fun w => by kernel_rfl) (by kernel_rfl) (fun g3 => E.st 0 [E.i i.op, E.i i.d, E.i i.a, E.i i.b, E.u i.imm, E.i k, E.u t] rfl rfl (E.To.code ?_)))))))))))
 refine E.C.seq (E.sr (E.op (.pointer (some ⟨g3, 5, none⟩)) (E.op (.pointer (some ⟨g3, 5, none⟩)) (E.li (E.i k) 0 rfl rfl (E.op (.bool (k != 0)) (E.To.code (E.wk [(1, E.pt m), (2, E.pt g1), (4, E.pt g2), (5, E.pt g3), (26, .bool (k != 0))] [(g3, [E.i i.op, E.i i.d, E.i i.a, E.i i.b, E.u i.imm, E.i k, E.u t]), (g2, (Q.S.cells Q.z0 ++ [E.i 0, E.u 0])), (g1, (Q.S.cells s))] Nz.sub (E.cd (k != 0) (fun hc4 => ?_) (fun hc4 => ?_)))))))))
 ·
  refine E.sr (E.li (Q.S.val s) 2 rfl rfl (E.op (.pointer (some ⟨g3, 5, none⟩)) (E.li (.agg #[E.i k, E.u t]) 0 rfl rfl (E.vl (Q.out s k t) (fun w h => E.run_build (Q.S.cells s ++ [Value.int .i64 k, Value.int .u32 t]).toArray (by kernel_rfl) w) (E.st 1 (Q.S.cells s ++ [E.i k, E.u t]) rfl rfl (E.To.code (E.C.ret (E.P.rt (E.To.body (fn := Tryz.f18) [Q.out s k t] ?_ ?_)))))))))
  · exact ⟨⟨by kernel_rfl, _, _, 1, _, rfl, rfl, by kernel_rfl⟩, trivial⟩
  intro w h
  have e : (Q6.stepI i k t s V) = (s, k, t, V) := by unfold Q6.stepI; rw [hc4, cond_true] <;> rfl
  rw [e]
  exact ⟨(), trivial, rfl, A.dq [3] [0, 1, 2] h⟩
 refine E.C.skip (E.To.code (E.sr (E.op (E.pt g3) (E.li (.agg #[E.i i.op, E.i i.d, E.i i.a, E.i i.b, E.u i.imm]) 0 rfl rfl (E.G.new (fun g => E.pt g) [E.i 0, E.i 0, E.i 0, E.i 0, E.u 0] 71 (fun w => by kernel_rfl) (by kernel_rfl) (fun g5 => E.st 0 [E.i i.op, E.i i.d, E.i i.a, E.i i.b, E.u i.imm] rfl rfl (E.tr (E.li (Q.S.val s) 3 rfl rfl (E.G.new (fun g => E.pt g) (Q.S.cells Q.z0) 32 (fun w => by kernel_rfl) (by kernel_rfl) (fun g6 => E.st 0 (Q.S.cells s) rfl rfl (E.tr (E.op (.pointer (some ⟨g6, 1, none⟩)) ?_))))))))))))
 refine E.op (.pointer (some ⟨g6, 1, none⟩)) (E.st 0 (Q.S.cells (Qx.s s)) rfl rfl (E.tr (E.op (.pointer (some ⟨g5, 1, none⟩)) (E.li (E.i i.d) 1 rfl rfl (E.op (.pointer (some ⟨g6, 1, none⟩)) (E.vl (.pointer (some ⟨g6, 1 + (i.d).toNat, none⟩)) (fun w h => E.idxI (e := 24) g6 1 16 .i64 i.d (by kernel_rfl) (by kernel_rfl) (by kernel_rfl) (by kernel_rfl) (by have := (hi (Q.eq_of hc4)).d; omega) w) (E.vl (E.u (Qx.d s i)) (fun w h => E.run_load h 0 rfl rfl (Q.ld_r (by kernel_rfl) (by have := (by have := (hi (Q.eq_of hc4)).d; omega); omega))) (E.op (E.u (Qx.d s i)) (E.To.code (E.wk [(1, E.pt m), (2, E.pt g1), (4, E.pt g2), (6, E.pt g5), (7, E.pt g6), (8, E.u (Qx.d s i))] [(g6, (Q.S.cells (Qx.s s))), (g5, [E.i i.op, E.i i.d, E.i i.a, E.i i.b, E.u i.imm]), (g2, (Q.S.cells Q.z0 ++ [E.i 0, E.u 0])), (g1, (Q.S.cells s))] Nz.sub (E.sr ?_)))))))))))
 refine E.op (.pointer (some ⟨g5, 2, none⟩)) (E.li (E.i i.a) 1 rfl rfl (E.op (.pointer (some ⟨g6, 1, none⟩)) (E.vl (.pointer (some ⟨g6, 1 + (i.a).toNat, none⟩)) (fun w h => E.idxI (e := 24) g6 1 16 .i64 i.a (by kernel_rfl) (by kernel_rfl) (by kernel_rfl) (by kernel_rfl) (by have := (hi (Q.eq_of hc4)).a; omega) w) (E.vl (E.u (Qx.a s i)) (fun w h => E.run_load h 0 rfl rfl (Q.ld_r (by kernel_rfl) (by have := (by have := (hi (Q.eq_of hc4)).a; omega); omega))) (E.op (E.u (Qx.a s i)) (E.tr (E.op (.pointer (some ⟨g5, 3, none⟩)) (E.li (E.i i.b) 1 rfl rfl (E.op (.pointer (some ⟨g6, 1, none⟩)) (E.vl (.pointer (some ⟨g6, 1 + (i.b).toNat, none⟩)) (fun w h => E.idxI (e := 24) g6 1 16 .i64 i.b (by kernel_rfl) (by kernel_rfl) (by kernel_rfl) (by kernel_rfl) (by have := (hi (Q.eq_of hc4)).b; omega) w) (E.vl (E.u (Qx.b s i)) (fun w h => E.run_load h 0 rfl rfl (Q.ld_r (by kernel_rfl) (by have := (by have := (hi (Q.eq_of hc4)).b; omega); omega))) ?_)))))))))))
 refine E.op (E.u (Qx.b s i)) (E.To.code (E.wk [(1, E.pt m), (2, E.pt g1), (4, E.pt g2), (6, E.pt g5), (7, E.pt g6), (8, E.u (Qx.d s i)), (9, E.u (Qx.a s i)), (10, E.u (Qx.b s i))] [(g6, (Q.S.cells (Qx.s s))), (g5, [E.i i.op, E.i i.d, E.i i.a, E.i i.b, E.u i.imm]), (g2, (Q.S.cells Q.z0 ++ [E.i 0, E.u 0])), (g1, (Q.S.cells s))] Nz.sub (E.sr (E.op (E.pt g6) (E.li (E.u s.pc) 0 rfl rfl (E.op (E.u (Qx.p s)) (E.op (E.u (Qx.p s)) (E.tr (E.op (E.pt g5) (E.li (E.i i.op) 1 rfl rfl (E.G.call (E.i (Q6.oper i.op)) (fun w h => Oper6_any i.op w) (fun w _ => by kernel_rfl) (by kernel_rfl) ?_)))))))))))
 refine E.op (E.i (Q6.oper i.op)) (E.To.code (E.C.seq (E.sr (E.op (E.pt g5) (E.li (E.i i.op) 1 rfl rfl (E.op (.bool (decide (i.op ≥ 16))) (E.To.code (E.wk [(1, E.pt m), (2, E.pt g1), (4, E.pt g2), (6, E.pt g5), (7, E.pt g6), (8, E.u (Qx.d s i)), (9, E.u (Qx.a s i)), (10, E.u (Qx.b s i)), (11, E.u (Qx.p s)), (12, E.i (Q6.oper i.op)), (59, .bool (decide (i.op ≥ 16)))] [(g6, (Q.S.cells (Qx.s s))), (g5, [E.i i.op, E.i i.d, E.i i.a, E.i i.b, E.u i.imm]), (g2, (Q.S.cells Q.z0 ++ [E.i 0, E.u 0])), (g1, (Q.S.cells s))] Nz.sub (E.C.thencut [(1, E.pt m), (2, E.pt g1), (4, E.pt g2), (6, E.pt g5), (7, E.pt g6), (8, E.u (Qx.d s i)), (9, E.u (Qx.a s i)), (10, E.u (bif (decide (i.op ≥ 16)) then i.imm else (Qx.b s i))), (11, E.u (Qx.p s)), (12, E.i (Q6.oper i.op))] (A.X w oo aa [R.It m V]) [(g6, (Q.S.cells (Qx.s s))), (g5, [E.i i.op, E.i i.d, E.i i.a, E.i i.b, E.u i.imm]), (g2, (Q.S.cells Q.z0 ++ [E.i 0, E.u 0])), (g1, (Q.S.cells s))] ?_ ?_)))))))))
 ·
  generalize hc7 : (decide (i.op ≥ 16)) = b8
  cases b8
  ·
   exact E.C.condF (by kernel_rfl) (by kernel_rfl) (E.C.skip (E.To.pst ⟨by kernel_rfl, by kernel_rfl⟩ Nz.sub (fun _ h => h)))
  exact E.C.condT (by kernel_rfl) (by kernel_rfl) (E.C.region (E.op (.pointer (some ⟨g5, 4, none⟩)) (E.li (E.u i.imm) 1 rfl rfl (E.op (E.u i.imm) (E.To.pst ⟨by kernel_rfl, by kernel_rfl⟩ Nz.sub (fun _ h => h))))))
 refine E.C.seq (E.C.block (E.sr (E.op (E.pt g5) (E.li (E.i i.op) 1 rfl rfl (E.op (.bool (i.op == 10)) (E.op (.bool (i.op == 10)) (E.G.cut 3 [(1, E.pt m), (2, E.pt g1), (4, E.pt g2), (6, E.pt g5), (7, E.pt g6), (8, E.u (Qx.d s i)), (9, E.u (Qx.a s i)), (10, E.u (bif (decide (i.op ≥ 16)) then i.imm else (Qx.b s i))), (11, E.u (Qx.p s)), (12, E.i (Q6.oper i.op)), (69, .bool ((i.op == 10) && ((bif (decide (i.op ≥ 16)) then i.imm else (Qx.b s i)) == 0)))] (A.X w oo aa [R.It m V]) [(g6, (Q.S.cells (Qx.s s))), (g5, [E.i i.op, E.i i.d, E.i i.a, E.i i.b, E.u i.imm]), (g2, (Q.S.cells Q.z0 ++ [E.i 0, E.u 0])), (g1, (Q.S.cells s))] ?_ ?_)))))))
 ·
  generalize hc9 : (i.op == 10) = b10
  cases b10
  ·
   exact E.sk (E.sk (E.op (.bool false) (E.G.end_pst ⟨by kernel_rfl, by kernel_rfl⟩ Nz.sub (fun _ h => h))))
  exact E.op (E.u (bif (decide (i.op ≥ 16)) then i.imm else (Qx.b s i))) (E.op (.bool ((bif (decide (i.op ≥ 16)) then i.imm else (Qx.b s i)) == 0)) (E.op (.bool ((bif (decide (i.op ≥ 16)) then i.imm else (Qx.b s i)) == 0)) (E.G.end_pst ⟨by kernel_rfl, by kernel_rfl⟩ Nz.sub (fun _ h => h))))
 refine E.op (.bool ((i.op == 10) && ((bif (decide (i.op ≥ 16)) then i.imm else (Qx.b s i)) == 0))) (E.To.code (E.cd ((i.op == 10) && ((bif (decide (i.op ≥ 16)) then i.imm else ((Q.up s.r 0 0) ((i.b).toNat))) == 0)) (fun hc11 => ?_) (fun hc11 => ?_)))
 ·
  refine E.sr (E.li (Q.S.val s) 3 rfl rfl (E.G.call (Q.out s 6 0) (fun w h => Trapped6_any s 6 0 w) (fun w _ => by kernel_rfl) (by kernel_rfl) (E.st 2 (Q.S.cells s ++ [E.i 6, E.u 0]) rfl rfl (E.To.code (E.wk [(4, E.pt g2), (7, E.pt g6), (11, E.u (Qx.p s))] [(g6, (Q.S.cells (Qx.s s))), (g2, (Q.S.cells s ++ [E.i 6, E.u 0]))] Nz.sub (E.C.ret (E.P.rb (E.P.rt (E.To.body (fn := Tryz.f18) [Q.out s 6 0] ?_ ?_)))))))))
  · exact ⟨⟨by kernel_rfl, _, _, 1, _, rfl, rfl, by kernel_rfl⟩, trivial⟩
  intro w h
  have e : (Q6.stepI i k t s V) = (s, 6, 0, V) := by unfold Q6.stepI; rw [hc4, cond_false, hc11, cond_true] <;> rfl
  rw [e]
  exact ⟨(), trivial, rfl, A.dq [2] [0, 1] h⟩
 refine E.sr (E.op (E.i (Q6.oper i.op)) (E.op (.bool ((Q6.oper i.op) != 0)) (E.op (.bool ((Q6.oper i.op) != 0)) (E.To.code (E.cd ((Q6.oper i.op) != 0) (fun hc12 => ?_) (fun hc12 => ?_))))))
 ·
  refine E.C.held (A.Y [A.blk g5 ([E.i i.op, E.i i.d, E.i i.a, E.i i.b, E.u i.imm]), A.blk g2 (Q.S.cells Q.z0 ++ [E.i 0, E.u 0]), A.blk g1 (Q.S.cells s)]) (by kernel_rfl) (E.tk 0 (.pointer (some ⟨g5, 1, none⟩)) rfl (fun w h => A.hq [1, 2, 3] [0, 4] h) (E.tj 1 (E.i i.d) rfl (fun w h => A.hq [1, 2, 3] [0, 4] h) (fun w h => A.Y.bld h (k := 0) (j := 1) rfl (by kernel_rfl) (by kernel_rfl)) (E.tk 2 (E.i (Q6.oper i.op)) rfl (fun w h => A.hq [1, 2, 3] [0, 4] h) (E.tk 3 (E.u (Qx.a s i)) rfl (fun w h => A.hq [1, 2, 3] [0, 4] h) (E.tk 4 (E.u (bif (decide (i.op ≥ 16)) then i.imm else (Qx.b s i))) rfl (fun w h => A.hq [1, 2, 3] [0, 4] h) (E.tk 6 (.pointer (some ⟨g6, 1, none⟩)) rfl (fun w h => A.hq [1, 2, 3] [0, 4] h) (E.al 5 rfl (E.G.call (E.u (W.op (Q6.oper i.op) (Qx.a s i) (bif (decide (i.op ≥ 16)) then i.imm else (Qx.b s i)))) (fun w h => rOp_all (Q6.oper i.op) (Qx.a s i) (bif (decide (i.op ≥ 16)) then i.imm else (Qx.b s i)) (Q.up_bd hs.r (by decide) _) (Q.bif_bd (hi (Q.eq_of hc4)).imm (Q.up_bd hs.r (by decide) _)) w) (fun w _ => by kernel_rfl) (by kernel_rfl) (E.H.back (fun w h => A.hq [1, 2, 3] [0, 4] h) (E.tj 7 (.pointer (some ⟨g6, 1 + (i.d).toNat, none⟩)) rfl (fun w h => A.hq [1, 2, 3] [0, 4] h) (fun w h => E.idxI (e := 24) g6 1 16 .i64 i.d (by kernel_rfl) (by kernel_rfl) (by kernel_rfl) (by kernel_rfl) (by have := (hi (Q.eq_of hc4)).d; omega) w) (E.al 8 rfl ?_)))))))))))
  refine E.G.store 0 (Q.S.cells (⟨s.pc, (Q.up (Qx.u s) (i.d).toNat (W.op (Q6.oper i.op) (Qx.a s i) (bif (decide (i.op ≥ 16)) then i.imm else (Qx.b s i)))), s.f, s.c, s.st, s.du⟩)) rfl rfl (Q.sto_r (s := (Qx.s s)) (by kernel_rfl) (by have := (by have := (hi (Q.eq_of hc4)).d; omega); omega)) (by kernel_rfl) (E.H.back (fun w h => A.hq [1, 2, 3] [0, 4] h) (E.H.done (by kernel_rfl) (E.P.nb (E.To.code (E.wk [(4, E.pt g2), (7, E.pt g6), (11, E.u (Qx.p s))] [(g6, (Q.S.cells (⟨s.pc, (Q.up (Qx.u s) (i.d).toNat (W.op (Q6.oper i.op) (Qx.a s i) (bif (decide (i.op ≥ 16)) then i.imm else (Qx.b s i)))), s.f, s.c, s.st, s.du⟩))), (g2, (Q.S.cells Q.z0 ++ [E.i 0, E.u 0]))] Nz.sub (E.sr (E.op (.pointer (some ⟨g6, 1, none⟩)) (E.op (.pointer (some ⟨g6, 1, none⟩)) (E.st 0 (Q.S.cells (⟨s.pc, (Q.up (Q.up (Qx.u s) (i.d).toNat (W.op (Q6.oper i.op) (Qx.a s i) (bif (decide (i.op ≥ 16)) then i.imm else (Qx.b s i)))) 0 0), s.f, s.c, s.st, s.du⟩)) rfl rfl (E.tr (E.op (E.u (Qx.p s)) (E.op (E.pt g6) ?_))))))))))))
  refine E.st 0 (Q.S.cells (⟨(Qx.p s), (Q.up (Q.up (Qx.u s) (i.d).toNat (W.op (Q6.oper i.op) (Qx.a s i) (bif (decide (i.op ≥ 16)) then i.imm else (Qx.b s i)))) 0 0), s.f, s.c, s.st, s.du⟩)) rfl rfl (E.tr (E.op (.pointer (some ⟨g6, 22, none⟩)) (E.li (E.i s.st) 0 rfl rfl (E.op (E.i (Qx.t s)) (E.op (.pointer (some ⟨g6, 22, none⟩)) (E.st 0 (Q.S.cells (⟨(Qx.p s), (Q.up (Q.up (Qx.u s) (i.d).toNat (W.op (Q6.oper i.op) (Qx.a s i) (bif (decide (i.op ≥ 16)) then i.imm else (Qx.b s i)))) 0 0), s.f, s.c, (Qx.t s), s.du⟩)) rfl rfl (E.To.code (E.wk [(4, E.pt g2), (7, E.pt g6)] [(g6, (Q.S.cells (⟨(Qx.p s), (Q.up (Q.up (Qx.u s) (i.d).toNat (W.op (Q6.oper i.op) (Qx.a s i) (bif (decide (i.op ≥ 16)) then i.imm else (Qx.b s i)))) 0 0), s.f, s.c, (Qx.t s), s.du⟩))), (g2, (Q.S.cells Q.z0 ++ [E.i 0, E.u 0]))] Nz.sub (E.sr (E.li (Q.S.val (⟨(Qx.p s), (Q.up (Q.up (Qx.u s) (i.d).toNat (W.op (Q6.oper i.op) (Qx.a s i) (bif (decide (i.op ≥ 16)) then i.imm else (Qx.b s i)))) 0 0), s.f, s.c, (Qx.t s), s.du⟩)) 0 rfl rfl (E.vl (Q.out (⟨(Qx.p s), (Q.up (Q.up (Qx.u s) (i.d).toNat (W.op (Q6.oper i.op) (Qx.a s i) (bif (decide (i.op ≥ 16)) then i.imm else (Qx.b s i)))) 0 0), s.f, s.c, (Qx.t s), s.du⟩ : Q.S) 0 0) (fun w h => E.run_build (Q.S.cells (⟨(Qx.p s), (Q.up (Q.up (Qx.u s) (i.d).toNat (W.op (Q6.oper i.op) (Qx.a s i) (bif (decide (i.op ≥ 16)) then i.imm else (Qx.b s i)))) 0 0), s.f, s.c, (Qx.t s), s.du⟩ : Q.S) ++ [Value.int .i64 0, Value.int .u32 0]).toArray (by kernel_rfl) w) ?_)))))))))))
  refine E.st 1 (Q.S.cells (⟨(Qx.p s), (Q.up (Q.up (Qx.u s) (i.d).toNat (W.op (Q6.oper i.op) (Qx.a s i) (bif (decide (i.op ≥ 16)) then i.imm else (Qx.b s i)))) 0 0), s.f, s.c, (Qx.t s), s.du⟩) ++ [E.i 0, E.u 0]) rfl rfl (E.To.code (E.C.ret (E.To.body (fn := Tryz.f18) [Q.out (⟨(Qx.p s), (Q.up (Q.up (Qx.u s) (i.d).toNat (W.op (Q6.oper i.op) (Qx.a s i) (bif (decide (i.op ≥ 16)) then i.imm else (Qx.b s i)))) 0 0), s.f, s.c, (Qx.t s), s.du⟩ : Q.S) 0 0] ?_ ?_)))
  · exact ⟨⟨by kernel_rfl, _, _, 1, _, rfl, rfl, by kernel_rfl⟩, trivial⟩
  intro w h
  have e : (Q6.stepI i k t s V) = (⟨(Qx.p s), (Q.up (Q.up (Qx.u s) (i.d).toNat (W.op (Q6.oper i.op) (Qx.a s i) (bif (decide (i.op ≥ 16)) then i.imm else (Qx.b s i)))) 0 0), s.f, s.c, (Qx.t s), s.du⟩, 0, 0, V) := by unfold Q6.stepI; rw [hc4, cond_false, hc11, cond_false, hc12, cond_true] <;> rfl
  rw [e]
  exact ⟨(), trivial, rfl, A.dq [2] [0, 1] h⟩
 refine E.sr (E.op (E.pt g5) (E.li (E.i i.op) 1 rfl rfl (E.op (.bool (i.op == 23)) (E.op (.bool (i.op == 23)) (E.G.cut 4 [(1, E.pt m), (2, E.pt g1), (4, E.pt g2), (6, E.pt g5), (7, E.pt g6), (8, E.u (Qx.d s i)), (9, E.u (Qx.a s i)), (11, E.u (Qx.p s)), (91, .bool ((i.op == 23) || (i.op == 24)))] (A.X w oo aa [R.It m V]) [(g6, (Q.S.cells (Qx.s s))), (g5, [E.i i.op, E.i i.d, E.i i.a, E.i i.b, E.u i.imm]), (g2, (Q.S.cells Q.z0 ++ [E.i 0, E.u 0])), (g1, (Q.S.cells s))] ?_ ?_)))))
 ·
  generalize hc13 : (i.op == 23) = b14
  cases b14
  ·
   exact E.op (E.pt g5) (E.li (E.i i.op) 1 rfl rfl (E.op (.bool (i.op == 24)) (E.op (.bool (i.op == 24)) (E.G.end_pst ⟨by kernel_rfl, by kernel_rfl⟩ Nz.sub (fun _ h => h)))))
  exact E.sk (E.sk (E.sk (E.op (.bool true) (E.G.end_pst ⟨by kernel_rfl, by kernel_rfl⟩ Nz.sub (fun _ h => h)))))
 refine E.op (.bool ((i.op == 23) || (i.op == 24))) (E.To.code (E.cd ((i.op == 23) || (i.op == 24)) (fun hc15 => ?_) (fun hc15 => ?_)))
 ·
  refine E.sr (E.op (E.i 4) (E.To.code (E.C.seq (E.sr (E.op (E.pt g5) (E.li (E.i i.op) 1 rfl rfl (E.op (.bool (i.op == 24)) (E.To.code (E.C.thencut [(1, E.pt m), (2, E.pt g1), (4, E.pt g2), (6, E.pt g5), (7, E.pt g6), (9, E.u (Qx.a s i)), (11, E.u (Qx.p s)), (13, E.i (bif (i.op == 24) then 1 else 4))] (A.X w oo aa [R.It m V]) [(g6, (Q.S.cells (Qx.s s))), (g5, [E.i i.op, E.i i.d, E.i i.a, E.i i.b, E.u i.imm]), (g2, (Q.S.cells Q.z0 ++ [E.i 0, E.u 0])), (g1, (Q.S.cells s))] ?_ ?_)))))))))
  ·
   generalize hc16 : (i.op == 24) = b17
   cases b17
   ·
    exact E.C.condF (by kernel_rfl) (by kernel_rfl) (E.C.skip (E.To.pst ⟨by kernel_rfl, by kernel_rfl⟩ Nz.sub (fun _ h => h)))
   exact E.C.condT (by kernel_rfl) (by kernel_rfl) (E.C.region (E.op (E.i 1) (E.To.pst ⟨by kernel_rfl, by kernel_rfl⟩ Nz.sub (fun _ h => h))))
  refine E.sr (E.op (E.pt m) (E.op (E.u (Qx.a s i)) (E.op (.pointer (some ⟨g5, 4, none⟩)) (E.li (E.u i.imm) 1 rfl rfl (E.op (E.u (Qx.x s i)) (E.op (E.i (bif (i.op == 24) then 1 else 4)) (E.G.call (.agg #[E.u ((V.load ((Qx.x s i)).toNat (bif (i.op == 24) then 1 else 4)).1), E.u ((V.load ((Qx.x s i)).toNat (bif (i.op == 24) then 1 else 4)).2.1), .bool ((V.load ((Qx.x s i)).toNat (bif (i.op == 24) then 1 else 4)).2.2)]) (fun w h => A.cq [4] [0, 1, 2, 3] (J_Load (m := m) (V := V) (Qx.x s i) (bif (i.op == 24) then 1 else 4) (Q.wrap_bd _)) h) (fun w _ => by kernel_rfl) (by kernel_rfl) (E.G.new (fun g => E.pt g) [E.u 0, E.u 0, .bool false] 80 (fun w => by kernel_rfl) (by kernel_rfl) (fun g18 => E.st 0 [E.u ((V.load ((Qx.x s i)).toNat (bif (i.op == 24) then 1 else 4)).1), E.u ((V.load ((Qx.x s i)).toNat (bif (i.op == 24) then 1 else 4)).2.1), .bool ((V.load ((Qx.x s i)).toNat (bif (i.op == 24) then 1 else 4)).2.2)] rfl rfl (E.To.code (E.wk [(2, E.pt g1), (4, E.pt g2), (6, E.pt g5), (7, E.pt g6), (11, E.u (Qx.p s)), (14, E.pt g18)] [(g18, [E.u ((V.load ((Qx.x s i)).toNat (bif (i.op == 24) then 1 else 4)).1), E.u ((V.load ((Qx.x s i)).toNat (bif (i.op == 24) then 1 else 4)).2.1), .bool ((V.load ((Qx.x s i)).toNat (bif (i.op == 24) then 1 else 4)).2.2)]), (g6, (Q.S.cells (Qx.s s))), (g5, [E.i i.op, E.i i.d, E.i i.a, E.i i.b, E.u i.imm]), (g2, (Q.S.cells Q.z0 ++ [E.i 0, E.u 0])), (g1, (Q.S.cells s))] Nz.sub ?_)))))))))))
  refine E.C.seq (E.sr (E.op (.pointer (some ⟨g18, 2, none⟩)) (E.li (.bool ((V.load ((Qx.x s i)).toNat (bif (i.op == 24) then 1 else 4)).2.2)) 0 rfl rfl (E.op (.bool (!((V.load ((Qx.x s i)).toNat (bif (i.op == 24) then 1 else 4)).2.2))) (E.To.code (E.cd (!((V.load ((IntKind.wrap .u32 (((Q.up s.r 0 0) ((i.a).toNat)) + i.imm))).toNat (bif (i.op == 24) then 1 else 4)).2.2)) (fun hc19 => ?_) (fun hc19 => ?_)))))))
  ·
   refine E.sr (E.li (Q.S.val s) 4 rfl rfl (E.op (.pointer (some ⟨g18, 1, none⟩)) (E.li (E.u ((V.load ((Qx.x s i)).toNat (bif (i.op == 24) then 1 else 4)).2.1)) 0 rfl rfl (E.G.call (Q.out s 5 ((V.load ((Qx.x s i)).toNat (bif (i.op == 24) then 1 else 4)).2.1)) (fun w h => Trapped6_any s 5 ((V.load ((Qx.x s i)).toNat (bif (i.op == 24) then 1 else 4)).2.1) w) (fun w _ => by kernel_rfl) (by kernel_rfl) (E.st 3 (Q.S.cells s ++ [E.i 5, E.u ((V.load ((Qx.x s i)).toNat (bif (i.op == 24) then 1 else 4)).2.1)]) rfl rfl (E.To.code (E.wk [(4, E.pt g2), (6, E.pt g5), (7, E.pt g6), (11, E.u (Qx.p s)), (14, E.pt g18)] [(g18, [E.u ((V.load ((Qx.x s i)).toNat (bif (i.op == 24) then 1 else 4)).1), E.u ((V.load ((Qx.x s i)).toNat (bif (i.op == 24) then 1 else 4)).2.1), .bool ((V.load ((Qx.x s i)).toNat (bif (i.op == 24) then 1 else 4)).2.2)]), (g6, (Q.S.cells (Qx.s s))), (g5, [E.i i.op, E.i i.d, E.i i.a, E.i i.b, E.u i.imm]), (g2, (Q.S.cells s ++ [E.i 5, E.u ((V.load ((Qx.x s i)).toNat (bif (i.op == 24) then 1 else 4)).2.1)]))] Nz.sub (E.C.ret (E.P.rt (E.P.rb (E.P.rt (E.To.body (fn := Tryz.f18) [Q.out s 5 ((V.load ((Qx.x s i)).toNat (bif (i.op == 24) then 1 else 4)).2.1)] ?_ ?_))))))))))))
   · exact ⟨⟨by kernel_rfl, _, _, 3, _, rfl, rfl, by kernel_rfl⟩, trivial⟩
   intro w h
   have e : (Q6.stepI i k t s V) = (s, 5, (V.load ((Qx.x s i)).toNat (bif (i.op == 24) then 1 else 4)).2.1, V) := by unfold Q6.stepI; rw [hc4, cond_false, hc11, cond_false, hc12, cond_false, hc15, cond_true, hc19, cond_true] <;> rfl
   rw [e]
   exact ⟨(), trivial, rfl, A.dq [4] [0, 1, 2, 3] h⟩
  refine E.C.skip (E.To.code (E.C.region (E.op (.pointer (some ⟨g5, 1, none⟩)) (E.li (E.i i.d) 2 rfl rfl (E.op (E.pt g18) (E.li (E.u ((V.load ((Qx.x s i)).toNat (bif (i.op == 24) then 1 else 4)).1)) 0 rfl rfl (E.op (.pointer (some ⟨g6, 1, none⟩)) (E.vl (.pointer (some ⟨g6, 1 + (i.d).toNat, none⟩)) (fun w h => E.idxI (e := 24) g6 1 16 .i64 i.d (by kernel_rfl) (by kernel_rfl) (by kernel_rfl) (by kernel_rfl) (by have := (hi (Q.eq_of hc4)).d; omega) w) (E.G.store 1 (Q.S.cells (⟨s.pc, (Q.up (Qx.u s) (i.d).toNat ((V.load ((Qx.x s i)).toNat (bif (i.op == 24) then 1 else 4)).1)), s.f, s.c, s.st, s.du⟩)) rfl rfl (Q.sto_r (s := (Qx.s s)) (by kernel_rfl) (by have := (by have := (hi (Q.eq_of hc4)).d; omega); omega)) (by kernel_rfl) (E.P.nb (E.To.code (E.wk [(4, E.pt g2), (7, E.pt g6), (11, E.u (Qx.p s))] [(g6, (Q.S.cells (⟨s.pc, (Q.up (Qx.u s) (i.d).toNat ((V.load ((Qx.x s i)).toNat (bif (i.op == 24) then 1 else 4)).1)), s.f, s.c, s.st, s.du⟩))), (g2, (Q.S.cells Q.z0 ++ [E.i 0, E.u 0]))] Nz.sub (E.sr ?_)))))))))))))
  refine E.op (.pointer (some ⟨g6, 1, none⟩)) (E.op (.pointer (some ⟨g6, 1, none⟩)) (E.st 0 (Q.S.cells (⟨s.pc, (Q.up (Q.up (Qx.u s) (i.d).toNat ((V.load ((Qx.x s i)).toNat (bif (i.op == 24) then 1 else 4)).1)) 0 0), s.f, s.c, s.st, s.du⟩)) rfl rfl (E.tr (E.op (E.u (Qx.p s)) (E.op (E.pt g6) (E.st 0 (Q.S.cells (⟨(Qx.p s), (Q.up (Q.up (Qx.u s) (i.d).toNat ((V.load ((Qx.x s i)).toNat (bif (i.op == 24) then 1 else 4)).1)) 0 0), s.f, s.c, s.st, s.du⟩)) rfl rfl (E.tr (E.op (.pointer (some ⟨g6, 22, none⟩)) (E.li (E.i s.st) 0 rfl rfl (E.op (E.i (Qx.t s)) (E.op (.pointer (some ⟨g6, 22, none⟩)) ?_)))))))))))
  refine E.st 0 (Q.S.cells (⟨(Qx.p s), (Q.up (Q.up (Qx.u s) (i.d).toNat ((V.load ((Qx.x s i)).toNat (bif (i.op == 24) then 1 else 4)).1)) 0 0), s.f, s.c, (Qx.t s), s.du⟩)) rfl rfl (E.To.code (E.wk [(4, E.pt g2), (7, E.pt g6)] [(g6, (Q.S.cells (⟨(Qx.p s), (Q.up (Q.up (Qx.u s) (i.d).toNat ((V.load ((Qx.x s i)).toNat (bif (i.op == 24) then 1 else 4)).1)) 0 0), s.f, s.c, (Qx.t s), s.du⟩))), (g2, (Q.S.cells Q.z0 ++ [E.i 0, E.u 0]))] Nz.sub (E.sr (E.li (Q.S.val (⟨(Qx.p s), (Q.up (Q.up (Qx.u s) (i.d).toNat ((V.load ((Qx.x s i)).toNat (bif (i.op == 24) then 1 else 4)).1)) 0 0), s.f, s.c, (Qx.t s), s.du⟩)) 0 rfl rfl (E.vl (Q.out (⟨(Qx.p s), (Q.up (Q.up (Qx.u s) (i.d).toNat ((V.load ((Qx.x s i)).toNat (bif (i.op == 24) then 1 else 4)).1)) 0 0), s.f, s.c, (Qx.t s), s.du⟩ : Q.S) 0 0) (fun w h => E.run_build (Q.S.cells (⟨(Qx.p s), (Q.up (Q.up (Qx.u s) (i.d).toNat ((V.load ((Qx.x s i)).toNat (bif (i.op == 24) then 1 else 4)).1)) 0 0), s.f, s.c, (Qx.t s), s.du⟩ : Q.S) ++ [Value.int .i64 0, Value.int .u32 0]).toArray (by kernel_rfl) w) (E.st 1 (Q.S.cells (⟨(Qx.p s), (Q.up (Q.up (Qx.u s) (i.d).toNat ((V.load ((Qx.x s i)).toNat (bif (i.op == 24) then 1 else 4)).1)) 0 0), s.f, s.c, (Qx.t s), s.du⟩) ++ [E.i 0, E.u 0]) rfl rfl (E.To.code (E.C.ret (E.To.body (fn := Tryz.f18) [Q.out (⟨(Qx.p s), (Q.up (Q.up (Qx.u s) (i.d).toNat ((V.load ((Qx.x s i)).toNat (bif (i.op == 24) then 1 else 4)).1)) 0 0), s.f, s.c, (Qx.t s), s.du⟩ : Q.S) 0 0] ?_ ?_)))))))))
  · exact ⟨⟨by kernel_rfl, _, _, 1, _, rfl, rfl, by kernel_rfl⟩, trivial⟩
  intro w h
  have e : (Q6.stepI i k t s V) = (⟨(Qx.p s), (Q.up (Q.up (Qx.u s) (i.d).toNat ((V.load ((Qx.x s i)).toNat (bif (i.op == 24) then 1 else 4)).1)) 0 0), s.f, s.c, (Qx.t s), s.du⟩, 0, 0, V) := by unfold Q6.stepI; rw [hc4, cond_false, hc11, cond_false, hc12, cond_false, hc15, cond_true, hc19, cond_false] <;> rfl
  rw [e]
  exact ⟨(), trivial, rfl, A.dq [2] [0, 1] h⟩
 refine E.sr (E.op (E.pt g5) (E.li (E.i i.op) 1 rfl rfl (E.op (.bool (i.op == 25)) (E.op (.bool (i.op == 25)) (E.G.cut 4 [(1, E.pt m), (2, E.pt g1), (4, E.pt g2), (6, E.pt g5), (7, E.pt g6), (8, E.u (Qx.d s i)), (9, E.u (Qx.a s i)), (11, E.u (Qx.p s)), (123, .bool ((i.op == 25) || (i.op == 26)))] (A.X w oo aa [R.It m V]) [(g6, (Q.S.cells (Qx.s s))), (g5, [E.i i.op, E.i i.d, E.i i.a, E.i i.b, E.u i.imm]), (g2, (Q.S.cells Q.z0 ++ [E.i 0, E.u 0])), (g1, (Q.S.cells s))] ?_ ?_)))))
 ·
  generalize hc20 : (i.op == 25) = b21
  cases b21
  ·
   exact E.op (E.pt g5) (E.li (E.i i.op) 1 rfl rfl (E.op (.bool (i.op == 26)) (E.op (.bool (i.op == 26)) (E.G.end_pst ⟨by kernel_rfl, by kernel_rfl⟩ Nz.sub (fun _ h => h)))))
  exact E.sk (E.sk (E.sk (E.op (.bool true) (E.G.end_pst ⟨by kernel_rfl, by kernel_rfl⟩ Nz.sub (fun _ h => h)))))
 refine E.op (.bool ((i.op == 25) || (i.op == 26))) (E.To.code (E.cd ((i.op == 25) || (i.op == 26)) (fun hc22 => ?_) (fun hc22 => ?_)))
 ·
  refine E.sr (E.op (E.i 4) (E.To.code (E.C.seq (E.sr (E.op (E.pt g5) (E.li (E.i i.op) 1 rfl rfl (E.op (.bool (i.op == 26)) (E.To.code (E.C.thencut [(1, E.pt m), (2, E.pt g1), (4, E.pt g2), (6, E.pt g5), (7, E.pt g6), (8, E.u (Qx.d s i)), (9, E.u (Qx.a s i)), (11, E.u (Qx.p s)), (15, E.i (bif (i.op == 26) then 1 else 4))] (A.X w oo aa [R.It m V]) [(g6, (Q.S.cells (Qx.s s))), (g5, [E.i i.op, E.i i.d, E.i i.a, E.i i.b, E.u i.imm]), (g2, (Q.S.cells Q.z0 ++ [E.i 0, E.u 0])), (g1, (Q.S.cells s))] ?_ ?_)))))))))
  ·
   generalize hc23 : (i.op == 26) = b24
   cases b24
   ·
    exact E.C.condF (by kernel_rfl) (by kernel_rfl) (E.C.skip (E.To.pst ⟨by kernel_rfl, by kernel_rfl⟩ Nz.sub (fun _ h => h)))
   exact E.C.condT (by kernel_rfl) (by kernel_rfl) (E.C.region (E.op (E.i 1) (E.To.pst ⟨by kernel_rfl, by kernel_rfl⟩ Nz.sub (fun _ h => h))))
  refine E.sr (E.op (E.pt m) (E.op (E.u (Qx.a s i)) (E.op (.pointer (some ⟨g5, 4, none⟩)) (E.li (E.u i.imm) 1 rfl rfl (E.op (E.u (Qx.x s i)) (E.op (E.i (bif (i.op == 26) then 1 else 4)) (E.op (E.u (Qx.d s i)) (A.G.call (I := Unit) (D := fun _ => True) (V := fun _ => .agg #[E.u 0, E.u ((V.chk ((Qx.x s i)).toNat 2 (bif (i.op == 26) then 1 else 4)).1), .bool ((V.chk ((Qx.x s i)).toNat 2 (bif (i.op == 26) then 1 else 4)).2)]) (q := fun _ => [R.It m (V.sto ((Qx.x s i)).toNat (bif (i.op == 26) then 1 else 4) (Qx.d s i))]) [A.blk g6 (Q.S.cells (Qx.s s)), A.blk g5 ([E.i i.op, E.i i.d, E.i i.a, E.i i.b, E.u i.imm]), A.blk g2 (Q.S.cells Q.z0 ++ [E.i 0, E.u 0]), A.blk g1 (Q.S.cells s)] (fun _ => [(g6, (Q.S.cells (Qx.s s))), (g5, [E.i i.op, E.i i.d, E.i i.a, E.i i.b, E.u i.imm]), (g2, (Q.S.cells Q.z0 ++ [E.i 0, E.u 0])), (g1, (Q.S.cells s))]) (fun _ => [R.It m (V.sto ((Qx.x s i)).toNat (bif (i.op == 26) then 1 else 4) (Qx.d s i))]) (J_Store (m := m) (V := V) (Qx.x s i) (bif (i.op == 26) then 1 else 4) (Qx.d s i) (Q.wrap_bd _) (Q.up_bd hs.r (by decide) _)) (by kernel_rfl) (A.pn [4, 0, 1, 2, 3]) (fun _ => A.pm [1, 2, 3, 4, 0] (by kernel_rfl) (by kernel_rfl)) (fun w _ => by kernel_rfl) (by kernel_rfl) (fun _ hd25 => E.G.new (fun g => E.pt g) [E.u 0, E.u 0, .bool false] 80 (fun w => by kernel_rfl) (by kernel_rfl) (fun g26 => E.st 0 [E.u 0, E.u ((V.chk ((Qx.x s i)).toNat 2 (bif (i.op == 26) then 1 else 4)).1), .bool ((V.chk ((Qx.x s i)).toNat 2 (bif (i.op == 26) then 1 else 4)).2)] rfl rfl (E.To.code ?_)))))))))))
  refine E.wk [(2, E.pt g1), (4, E.pt g2), (7, E.pt g6), (11, E.u (Qx.p s)), (16, E.pt g26)] [(g26, [E.u 0, E.u ((V.chk ((Qx.x s i)).toNat 2 (bif (i.op == 26) then 1 else 4)).1), .bool ((V.chk ((Qx.x s i)).toNat 2 (bif (i.op == 26) then 1 else 4)).2)]), (g6, (Q.S.cells (Qx.s s))), (g2, (Q.S.cells Q.z0 ++ [E.i 0, E.u 0])), (g1, (Q.S.cells s))] Nz.sub (E.sr (E.op (.pointer (some ⟨g26, 2, none⟩)) (E.li (.bool ((V.chk ((Qx.x s i)).toNat 2 (bif (i.op == 26) then 1 else 4)).2)) 0 rfl rfl (E.op (.bool (!((V.chk ((Qx.x s i)).toNat 2 (bif (i.op == 26) then 1 else 4)).2))) (E.To.code (E.cd (!((V.chk ((IntKind.wrap .u32 (((Q.up s.r 0 0) ((i.a).toNat)) + i.imm))).toNat 2 (bif (i.op == 26) then 1 else 4)).2)) (fun hc27 => ?_) (fun hc27 => ?_)))))))
  ·
   refine E.sr (E.li (Q.S.val s) 3 rfl rfl (E.op (.pointer (some ⟨g26, 1, none⟩)) (E.li (E.u ((V.chk ((Qx.x s i)).toNat 2 (bif (i.op == 26) then 1 else 4)).1)) 0 rfl rfl (E.G.call (Q.out s 5 ((V.chk ((Qx.x s i)).toNat 2 (bif (i.op == 26) then 1 else 4)).1)) (fun w h => Trapped6_any s 5 ((V.chk ((Qx.x s i)).toNat 2 (bif (i.op == 26) then 1 else 4)).1) w) (fun w _ => by kernel_rfl) (by kernel_rfl) (E.st 2 (Q.S.cells s ++ [E.i 5, E.u ((V.chk ((Qx.x s i)).toNat 2 (bif (i.op == 26) then 1 else 4)).1)]) rfl rfl (E.To.code (E.wk [(4, E.pt g2), (7, E.pt g6), (11, E.u (Qx.p s))] [(g6, (Q.S.cells (Qx.s s))), (g2, (Q.S.cells s ++ [E.i 5, E.u ((V.chk ((Qx.x s i)).toNat 2 (bif (i.op == 26) then 1 else 4)).1)]))] Nz.sub (E.C.ret (E.P.rb (E.P.rt (E.To.body (fn := Tryz.f18) [Q.out s 5 ((V.chk ((Qx.x s i)).toNat 2 (bif (i.op == 26) then 1 else 4)).1)] ?_ ?_)))))))))))
   · exact ⟨⟨by kernel_rfl, _, _, 1, _, rfl, rfl, by kernel_rfl⟩, trivial⟩
   intro w h
   have e : (Q6.stepI i k t s V) = (s, 5, (V.chk ((Qx.x s i)).toNat 2 (bif (i.op == 26) then 1 else 4)).1, (V.sto ((Qx.x s i)).toNat (bif (i.op == 26) then 1 else 4) (Qx.d s i))) := by unfold Q6.stepI; rw [hc4, cond_false, hc11, cond_false, hc12, cond_false, hc15, cond_false, hc22, cond_true, hc27, cond_true] <;> rfl
   rw [e]
   exact ⟨(), trivial, rfl, A.dq [2] [0, 1] h⟩
  refine E.C.skip (E.P.nb (E.To.code (E.sr (E.op (.pointer (some ⟨g6, 1, none⟩)) (E.op (.pointer (some ⟨g6, 1, none⟩)) (E.st 1 (Q.S.cells (⟨s.pc, (Q.up (Qx.u s) 0 0), s.f, s.c, s.st, s.du⟩)) rfl rfl (E.tr (E.op (E.u (Qx.p s)) (E.op (E.pt g6) (E.st 1 (Q.S.cells (⟨(Qx.p s), (Q.up (Qx.u s) 0 0), s.f, s.c, s.st, s.du⟩)) rfl rfl (E.To.code (E.wk [(4, E.pt g2), (7, E.pt g6)] [(g6, (Q.S.cells (⟨(Qx.p s), (Q.up (Qx.u s) 0 0), s.f, s.c, s.st, s.du⟩))), (g2, (Q.S.cells Q.z0 ++ [E.i 0, E.u 0]))] Nz.sub (E.sr ?_)))))))))))))
  refine E.op (.pointer (some ⟨g6, 22, none⟩)) (E.li (E.i s.st) 0 rfl rfl (E.op (E.i (Qx.t s)) (E.op (.pointer (some ⟨g6, 22, none⟩)) (E.st 0 (Q.S.cells (⟨(Qx.p s), (Q.up (Qx.u s) 0 0), s.f, s.c, (Qx.t s), s.du⟩)) rfl rfl (E.tr (E.li (Q.S.val (⟨(Qx.p s), (Q.up (Qx.u s) 0 0), s.f, s.c, (Qx.t s), s.du⟩)) 0 rfl rfl (E.vl (Q.out (⟨(Qx.p s), (Q.up (Qx.u s) 0 0), s.f, s.c, (Qx.t s), s.du⟩ : Q.S) 0 0) (fun w h => E.run_build (Q.S.cells (⟨(Qx.p s), (Q.up (Qx.u s) 0 0), s.f, s.c, (Qx.t s), s.du⟩ : Q.S) ++ [Value.int .i64 0, Value.int .u32 0]).toArray (by kernel_rfl) w) (E.st 1 (Q.S.cells (⟨(Qx.p s), (Q.up (Qx.u s) 0 0), s.f, s.c, (Qx.t s), s.du⟩) ++ [E.i 0, E.u 0]) rfl rfl (E.To.code (E.C.ret (E.To.body (fn := Tryz.f18) [Q.out (⟨(Qx.p s), (Q.up (Qx.u s) 0 0), s.f, s.c, (Qx.t s), s.du⟩ : Q.S) 0 0] ?_ ?_)))))))))))
  · exact ⟨⟨by kernel_rfl, _, _, 1, _, rfl, rfl, by kernel_rfl⟩, trivial⟩
  intro w h
  have e : (Q6.stepI i k t s V) = (⟨(Qx.p s), (Q.up (Qx.u s) 0 0), s.f, s.c, (Qx.t s), s.du⟩, 0, 0, (V.sto ((Qx.x s i)).toNat (bif (i.op == 26) then 1 else 4) (Qx.d s i))) := by unfold Q6.stepI; rw [hc4, cond_false, hc11, cond_false, hc12, cond_false, hc15, cond_false, hc22, cond_true, hc27, cond_false] <;> rfl
  rw [e]
  exact ⟨(), trivial, rfl, A.dq [2] [0, 1] h⟩
 refine E.sr (E.op (E.pt g5) (E.li (E.i i.op) 1 rfl rfl (E.op (.bool (i.op == 27)) (E.op (.bool (i.op == 27)) (E.To.code (E.cd (i.op == 27) (fun hc28 => ?_) (fun hc28 => ?_)))))))
 ·
  refine E.sr (E.op (.pointer (some ⟨g5, 1, none⟩)) (E.li (E.i i.d) 1 rfl rfl (E.op (E.u (Qx.p s)) (E.op (.pointer (some ⟨g6, 1, none⟩)) (E.vl (.pointer (some ⟨g6, 1 + (i.d).toNat, none⟩)) (fun w h => E.idxI (e := 24) g6 1 16 .i64 i.d (by kernel_rfl) (by kernel_rfl) (by kernel_rfl) (by kernel_rfl) (by have := (hi (Q.eq_of hc4)).d; omega) w) (E.G.store 0 (Q.S.cells (⟨s.pc, (Q.up (Qx.u s) (i.d).toNat (Qx.p s)), s.f, s.c, s.st, s.du⟩)) rfl rfl (Q.sto_r (s := (Qx.s s)) (by kernel_rfl) (by have := (by have := (hi (Q.eq_of hc4)).d; omega); omega)) (by kernel_rfl) (E.To.code (E.wk [(4, E.pt g2), (6, E.pt g5), (7, E.pt g6), (9, E.u (Qx.a s i)), (11, E.u (Qx.p s))] [(g6, (Q.S.cells (⟨s.pc, (Q.up (Qx.u s) (i.d).toNat (Qx.p s)), s.f, s.c, s.st, s.du⟩))), (g5, [E.i i.op, E.i i.d, E.i i.a, E.i i.b, E.u i.imm]), (g2, (Q.S.cells Q.z0 ++ [E.i 0, E.u 0]))] Nz.sub (E.C.region (E.op (E.u (Qx.a s i)) (E.op (.pointer (some ⟨g5, 4, none⟩)) ?_)))))))))))
  refine E.li (E.u i.imm) 1 rfl rfl (E.op (E.u (Qx.x s i)) (E.op (E.u (IntKind.wrap .u32 (Int.tdiv (Qx.x s i) 4))) (E.op (E.u (IntKind.wrap .u32 ((IntKind.wrap .u32 (Int.tdiv (Qx.x s i) 4)) * 4))) (E.op (E.u (IntKind.wrap .u32 ((IntKind.wrap .u32 (Int.tdiv (Qx.x s i) 4)) * 4))) (E.P.nb (E.To.code (E.wk [(4, E.pt g2), (7, E.pt g6), (11, E.u (IntKind.wrap .u32 ((IntKind.wrap .u32 (Int.tdiv (Qx.x s i) 4)) * 4)))] [(g6, (Q.S.cells (⟨s.pc, (Q.up (Qx.u s) (i.d).toNat (Qx.p s)), s.f, s.c, s.st, s.du⟩))), (g2, (Q.S.cells Q.z0 ++ [E.i 0, E.u 0]))] Nz.sub (E.sr (E.op (.pointer (some ⟨g6, 1, none⟩)) (E.op (.pointer (some ⟨g6, 1, none⟩)) (E.st 0 (Q.S.cells (⟨s.pc, (Q.up (Q.up (Qx.u s) (i.d).toNat (Qx.p s)) 0 0), s.f, s.c, s.st, s.du⟩)) rfl rfl (E.tr ?_))))))))))))
  refine E.op (E.u (IntKind.wrap .u32 ((IntKind.wrap .u32 (Int.tdiv (Qx.x s i) 4)) * 4))) (E.op (E.pt g6) (E.st 0 (Q.S.cells (⟨(IntKind.wrap .u32 ((IntKind.wrap .u32 (Int.tdiv (Qx.x s i) 4)) * 4)), (Q.up (Q.up (Qx.u s) (i.d).toNat (Qx.p s)) 0 0), s.f, s.c, s.st, s.du⟩)) rfl rfl (E.tr (E.op (.pointer (some ⟨g6, 22, none⟩)) (E.li (E.i s.st) 0 rfl rfl (E.op (E.i (Qx.t s)) (E.op (.pointer (some ⟨g6, 22, none⟩)) (E.st 0 (Q.S.cells (⟨(IntKind.wrap .u32 ((IntKind.wrap .u32 (Int.tdiv (Qx.x s i) 4)) * 4)), (Q.up (Q.up (Qx.u s) (i.d).toNat (Qx.p s)) 0 0), s.f, s.c, (Qx.t s), s.du⟩)) rfl rfl (E.To.code (E.wk [(4, E.pt g2), (7, E.pt g6)] [(g6, (Q.S.cells (⟨(IntKind.wrap .u32 ((IntKind.wrap .u32 (Int.tdiv (Qx.x s i) 4)) * 4)), (Q.up (Q.up (Qx.u s) (i.d).toNat (Qx.p s)) 0 0), s.f, s.c, (Qx.t s), s.du⟩))), (g2, (Q.S.cells Q.z0 ++ [E.i 0, E.u 0]))] Nz.sub (E.sr ?_)))))))))))
  refine E.li (Q.S.val (⟨(IntKind.wrap .u32 ((IntKind.wrap .u32 (Int.tdiv (Qx.x s i) 4)) * 4)), (Q.up (Q.up (Qx.u s) (i.d).toNat (Qx.p s)) 0 0), s.f, s.c, (Qx.t s), s.du⟩)) 0 rfl rfl (E.vl (Q.out (⟨(IntKind.wrap .u32 ((IntKind.wrap .u32 (Int.tdiv (Qx.x s i) 4)) * 4)), (Q.up (Q.up (Qx.u s) (i.d).toNat (Qx.p s)) 0 0), s.f, s.c, (Qx.t s), s.du⟩ : Q.S) 0 0) (fun w h => E.run_build (Q.S.cells (⟨(IntKind.wrap .u32 ((IntKind.wrap .u32 (Int.tdiv (Qx.x s i) 4)) * 4)), (Q.up (Q.up (Qx.u s) (i.d).toNat (Qx.p s)) 0 0), s.f, s.c, (Qx.t s), s.du⟩ : Q.S) ++ [Value.int .i64 0, Value.int .u32 0]).toArray (by kernel_rfl) w) (E.st 1 (Q.S.cells (⟨(IntKind.wrap .u32 ((IntKind.wrap .u32 (Int.tdiv (Qx.x s i) 4)) * 4)), (Q.up (Q.up (Qx.u s) (i.d).toNat (Qx.p s)) 0 0), s.f, s.c, (Qx.t s), s.du⟩) ++ [E.i 0, E.u 0]) rfl rfl (E.To.code (E.C.ret (E.To.body (fn := Tryz.f18) [Q.out (⟨(IntKind.wrap .u32 ((IntKind.wrap .u32 (Int.tdiv (Qx.x s i) 4)) * 4)), (Q.up (Q.up (Qx.u s) (i.d).toNat (Qx.p s)) 0 0), s.f, s.c, (Qx.t s), s.du⟩ : Q.S) 0 0] ?_ ?_)))))
  · exact ⟨⟨by kernel_rfl, _, _, 1, _, rfl, rfl, by kernel_rfl⟩, trivial⟩
  intro w h
  have e : (Q6.stepI i k t s V) = (⟨(IntKind.wrap .u32 ((IntKind.wrap .u32 (Int.tdiv (Qx.x s i) 4)) * 4)), (Q.up (Q.up (Qx.u s) (i.d).toNat (Qx.p s)) 0 0), s.f, s.c, (Qx.t s), s.du⟩, 0, 0, V) := by unfold Q6.stepI; rw [hc4, cond_false, hc11, cond_false, hc12, cond_false, hc15, cond_false, hc22, cond_false, hc28, cond_true] <;> rfl
  rw [e]
  exact ⟨(), trivial, rfl, A.dq [2] [0, 1] h⟩
 refine E.sr (E.op (E.pt g5) (E.li (E.i i.op) 1 rfl rfl (E.op (.bool (decide (i.op ≥ 32))) (E.op (.bool (decide (i.op ≥ 32))) (E.G.cut 4 [(1, E.pt m), (2, E.pt g1), (4, E.pt g2), (6, E.pt g5), (7, E.pt g6), (8, E.u (Qx.d s i)), (9, E.u (Qx.a s i)), (11, E.u (Qx.p s)), (165, .bool ((decide (i.op ≥ 32)) && (decide (i.op ≤ 37))))] (A.X w oo aa [R.It m V]) [(g6, (Q.S.cells (Qx.s s))), (g5, [E.i i.op, E.i i.d, E.i i.a, E.i i.b, E.u i.imm]), (g2, (Q.S.cells Q.z0 ++ [E.i 0, E.u 0])), (g1, (Q.S.cells s))] ?_ ?_)))))
 ·
  generalize hc29 : (decide (i.op ≥ 32)) = b30
  cases b30
  ·
   exact E.sk (E.sk (E.sk (E.op (.bool false) (E.G.end_pst ⟨by kernel_rfl, by kernel_rfl⟩ Nz.sub (fun _ h => h)))))
  exact E.op (E.pt g5) (E.li (E.i i.op) 1 rfl rfl (E.op (.bool (decide (i.op ≤ 37))) (E.op (.bool (decide (i.op ≤ 37))) (E.G.end_pst ⟨by kernel_rfl, by kernel_rfl⟩ Nz.sub (fun _ h => h)))))
 refine E.op (.bool ((decide (i.op ≥ 32)) && (decide (i.op ≤ 37)))) (E.To.code (E.cd ((decide (i.op ≥ 32)) && (decide (i.op ≤ 37))) (fun hc31 => ?_) (fun hc31 => ?_)))
 ·
  refine E.sr (E.op (E.pt g5) (E.li (E.i i.op) 1 rfl rfl (E.op (E.u (Qx.d s i)) (E.op (E.u (Qx.a s i)) (E.G.call (.bool (Q6.taken i.op (Qx.d s i) (Qx.a s i))) (fun w h => Taken6_any i.op (Qx.d s i) (Qx.a s i) (Q.up_bd hs.r (by decide) _) (Q.up_bd hs.r (by decide) _) w) (fun w _ => by kernel_rfl) (by kernel_rfl) (E.op (.bool (Q6.taken i.op (Qx.d s i) (Qx.a s i))) (E.To.code (E.wk [(4, E.pt g2), (6, E.pt g5), (7, E.pt g6), (11, E.u (Qx.p s)), (17, .bool (Q6.taken i.op (Qx.d s i) (Qx.a s i)))] [(g6, (Q.S.cells (Qx.s s))), (g5, [E.i i.op, E.i i.d, E.i i.a, E.i i.b, E.u i.imm]), (g2, (Q.S.cells Q.z0 ++ [E.i 0, E.u 0]))] Nz.sub (E.sr (E.op (.bool (Q6.taken i.op (Qx.d s i) (Qx.a s i))) (E.To.code ?_)))))))))))
  refine E.cd (Q6.taken i.op ((Q.up s.r 0 0) ((i.d).toNat)) ((Q.up s.r 0 0) ((i.a).toNat))) (fun hc32 => ?_) (fun hc32 => ?_)
  ·
   refine E.C.region (E.op (E.pt g6) (E.li (E.u s.pc) 0 rfl rfl (E.op (.pointer (some ⟨g5, 4, none⟩)) (E.li (E.u i.imm) 1 rfl rfl (E.op (E.u (IntKind.wrap .u32 (4 * i.imm))) (E.op (E.u (IntKind.wrap .u32 (s.pc + (IntKind.wrap .u32 (4 * i.imm))))) (E.op (E.u (IntKind.wrap .u32 (s.pc + (IntKind.wrap .u32 (4 * i.imm))))) (E.P.nb (E.To.code (E.wk [(4, E.pt g2), (7, E.pt g6), (11, E.u (IntKind.wrap .u32 (s.pc + (IntKind.wrap .u32 (4 * i.imm)))))] [(g6, (Q.S.cells (Qx.s s))), (g2, (Q.S.cells Q.z0 ++ [E.i 0, E.u 0]))] Nz.sub (E.sr (E.op (.pointer (some ⟨g6, 1, none⟩)) ?_))))))))))))
   refine E.op (.pointer (some ⟨g6, 1, none⟩)) (E.st 0 (Q.S.cells (⟨s.pc, (Q.up (Qx.u s) 0 0), s.f, s.c, s.st, s.du⟩)) rfl rfl (E.tr (E.op (E.u (IntKind.wrap .u32 (s.pc + (IntKind.wrap .u32 (4 * i.imm))))) (E.op (E.pt g6) (E.st 0 (Q.S.cells (⟨(IntKind.wrap .u32 (s.pc + (IntKind.wrap .u32 (4 * i.imm)))), (Q.up (Qx.u s) 0 0), s.f, s.c, s.st, s.du⟩)) rfl rfl (E.tr (E.op (.pointer (some ⟨g6, 22, none⟩)) (E.li (E.i s.st) 0 rfl rfl (E.op (E.i (Qx.t s)) (E.op (.pointer (some ⟨g6, 22, none⟩)) (E.st 0 (Q.S.cells (⟨(IntKind.wrap .u32 (s.pc + (IntKind.wrap .u32 (4 * i.imm)))), (Q.up (Qx.u s) 0 0), s.f, s.c, (Qx.t s), s.du⟩)) rfl rfl ?_)))))))))))
   refine E.To.code (E.wk [(4, E.pt g2), (7, E.pt g6)] [(g6, (Q.S.cells (⟨(IntKind.wrap .u32 (s.pc + (IntKind.wrap .u32 (4 * i.imm)))), (Q.up (Qx.u s) 0 0), s.f, s.c, (Qx.t s), s.du⟩))), (g2, (Q.S.cells Q.z0 ++ [E.i 0, E.u 0]))] Nz.sub (E.sr (E.li (Q.S.val (⟨(IntKind.wrap .u32 (s.pc + (IntKind.wrap .u32 (4 * i.imm)))), (Q.up (Qx.u s) 0 0), s.f, s.c, (Qx.t s), s.du⟩)) 0 rfl rfl (E.vl (Q.out (⟨(IntKind.wrap .u32 (s.pc + (IntKind.wrap .u32 (4 * i.imm)))), (Q.up (Qx.u s) 0 0), s.f, s.c, (Qx.t s), s.du⟩ : Q.S) 0 0) (fun w h => E.run_build (Q.S.cells (⟨(IntKind.wrap .u32 (s.pc + (IntKind.wrap .u32 (4 * i.imm)))), (Q.up (Qx.u s) 0 0), s.f, s.c, (Qx.t s), s.du⟩ : Q.S) ++ [Value.int .i64 0, Value.int .u32 0]).toArray (by kernel_rfl) w) (E.st 1 (Q.S.cells (⟨(IntKind.wrap .u32 (s.pc + (IntKind.wrap .u32 (4 * i.imm)))), (Q.up (Qx.u s) 0 0), s.f, s.c, (Qx.t s), s.du⟩) ++ [E.i 0, E.u 0]) rfl rfl (E.To.code (E.C.ret (E.To.body (fn := Tryz.f18) [Q.out (⟨(IntKind.wrap .u32 (s.pc + (IntKind.wrap .u32 (4 * i.imm)))), (Q.up (Qx.u s) 0 0), s.f, s.c, (Qx.t s), s.du⟩ : Q.S) 0 0] ?_ ?_))))))))
   · exact ⟨⟨by kernel_rfl, _, _, 1, _, rfl, rfl, by kernel_rfl⟩, trivial⟩
   intro w h
   have e : (Q6.stepI i k t s V) = (⟨(IntKind.wrap .u32 (s.pc + (IntKind.wrap .u32 (4 * i.imm)))), (Q.up (Qx.u s) 0 0), s.f, s.c, (Qx.t s), s.du⟩, 0, 0, V) := by unfold Q6.stepI; rw [hc4, cond_false, hc11, cond_false, hc12, cond_false, hc15, cond_false, hc22, cond_false, hc28, cond_false, hc31, cond_true, hc32, cond_true] <;> rfl
   rw [e]
   exact ⟨(), trivial, rfl, A.dq [2] [0, 1] h⟩
  refine E.C.skip (E.P.nb (E.To.code (E.sr (E.op (.pointer (some ⟨g6, 1, none⟩)) (E.op (.pointer (some ⟨g6, 1, none⟩)) (E.st 0 (Q.S.cells (⟨s.pc, (Q.up (Qx.u s) 0 0), s.f, s.c, s.st, s.du⟩)) rfl rfl (E.tr (E.op (E.u (Qx.p s)) (E.op (E.pt g6) (E.st 0 (Q.S.cells (⟨(Qx.p s), (Q.up (Qx.u s) 0 0), s.f, s.c, s.st, s.du⟩)) rfl rfl (E.To.code (E.wk [(4, E.pt g2), (7, E.pt g6)] [(g6, (Q.S.cells (⟨(Qx.p s), (Q.up (Qx.u s) 0 0), s.f, s.c, s.st, s.du⟩))), (g2, (Q.S.cells Q.z0 ++ [E.i 0, E.u 0]))] Nz.sub (E.sr ?_)))))))))))))
  refine E.op (.pointer (some ⟨g6, 22, none⟩)) (E.li (E.i s.st) 0 rfl rfl (E.op (E.i (Qx.t s)) (E.op (.pointer (some ⟨g6, 22, none⟩)) (E.st 0 (Q.S.cells (⟨(Qx.p s), (Q.up (Qx.u s) 0 0), s.f, s.c, (Qx.t s), s.du⟩)) rfl rfl (E.tr (E.li (Q.S.val (⟨(Qx.p s), (Q.up (Qx.u s) 0 0), s.f, s.c, (Qx.t s), s.du⟩)) 0 rfl rfl (E.vl (Q.out (⟨(Qx.p s), (Q.up (Qx.u s) 0 0), s.f, s.c, (Qx.t s), s.du⟩ : Q.S) 0 0) (fun w h => E.run_build (Q.S.cells (⟨(Qx.p s), (Q.up (Qx.u s) 0 0), s.f, s.c, (Qx.t s), s.du⟩ : Q.S) ++ [Value.int .i64 0, Value.int .u32 0]).toArray (by kernel_rfl) w) (E.st 1 (Q.S.cells (⟨(Qx.p s), (Q.up (Qx.u s) 0 0), s.f, s.c, (Qx.t s), s.du⟩) ++ [E.i 0, E.u 0]) rfl rfl (E.To.code (E.C.ret (E.To.body (fn := Tryz.f18) [Q.out (⟨(Qx.p s), (Q.up (Qx.u s) 0 0), s.f, s.c, (Qx.t s), s.du⟩ : Q.S) 0 0] ?_ ?_)))))))))))
  · exact ⟨⟨by kernel_rfl, _, _, 1, _, rfl, rfl, by kernel_rfl⟩, trivial⟩
  intro w h
  have e : (Q6.stepI i k t s V) = (⟨(Qx.p s), (Q.up (Qx.u s) 0 0), s.f, s.c, (Qx.t s), s.du⟩, 0, 0, V) := by unfold Q6.stepI; rw [hc4, cond_false, hc11, cond_false, hc12, cond_false, hc15, cond_false, hc22, cond_false, hc28, cond_false, hc31, cond_true, hc32, cond_false] <;> rfl
  rw [e]
  exact ⟨(), trivial, rfl, A.dq [2] [0, 1] h⟩
 refine E.sr (E.op (E.pt g5) (E.li (E.i i.op) 1 rfl rfl (E.op (.bool (i.op == 40)) (E.op (.bool (i.op == 40)) (E.To.code (E.cd (i.op == 40) (fun hc33 => ?_) (fun hc33 => ?_)))))))
 ·
  refine E.sr (E.op (.pointer (some ⟨g5, 1, none⟩)) (E.li (E.i i.d) 1 rfl rfl (E.op (E.u (Qx.p s)) (E.op (.pointer (some ⟨g6, 1, none⟩)) (E.vl (.pointer (some ⟨g6, 1 + (i.d).toNat, none⟩)) (fun w h => E.idxI (e := 24) g6 1 16 .i64 i.d (by kernel_rfl) (by kernel_rfl) (by kernel_rfl) (by kernel_rfl) (by have := (hi (Q.eq_of hc4)).d; omega) w) (E.G.store 0 (Q.S.cells (⟨s.pc, (Q.up (Qx.u s) (i.d).toNat (Qx.p s)), s.f, s.c, s.st, s.du⟩)) rfl rfl (Q.sto_r (s := (Qx.s s)) (by kernel_rfl) (by have := (by have := (hi (Q.eq_of hc4)).d; omega); omega)) (by kernel_rfl) (E.To.code (E.wk [(4, E.pt g2), (6, E.pt g5), (7, E.pt g6), (11, E.u (Qx.p s))] [(g6, (Q.S.cells (⟨s.pc, (Q.up (Qx.u s) (i.d).toNat (Qx.p s)), s.f, s.c, s.st, s.du⟩))), (g5, [E.i i.op, E.i i.d, E.i i.a, E.i i.b, E.u i.imm]), (g2, (Q.S.cells Q.z0 ++ [E.i 0, E.u 0]))] Nz.sub (E.C.region (E.op (E.pt g6) (E.li (E.u s.pc) 0 rfl rfl ?_)))))))))))
  refine E.op (.pointer (some ⟨g5, 4, none⟩)) (E.li (E.u i.imm) 1 rfl rfl (E.op (E.u (IntKind.wrap .u32 (4 * i.imm))) (E.op (E.u (IntKind.wrap .u32 (s.pc + (IntKind.wrap .u32 (4 * i.imm))))) (E.op (E.u (IntKind.wrap .u32 (s.pc + (IntKind.wrap .u32 (4 * i.imm))))) (E.P.nb (E.To.code (E.sr (E.op (.pointer (some ⟨g6, 1, none⟩)) (E.op (.pointer (some ⟨g6, 1, none⟩)) (E.st 0 (Q.S.cells (⟨s.pc, (Q.up (Q.up (Qx.u s) (i.d).toNat (Qx.p s)) 0 0), s.f, s.c, s.st, s.du⟩)) rfl rfl (E.To.code (E.wk [(4, E.pt g2), (7, E.pt g6), (11, E.u (IntKind.wrap .u32 (s.pc + (IntKind.wrap .u32 (4 * i.imm)))))] [(g6, (Q.S.cells (⟨s.pc, (Q.up (Q.up (Qx.u s) (i.d).toNat (Qx.p s)) 0 0), s.f, s.c, s.st, s.du⟩))), (g2, (Q.S.cells Q.z0 ++ [E.i 0, E.u 0]))] Nz.sub ?_))))))))))))
  refine E.sr (E.op (E.u (IntKind.wrap .u32 (s.pc + (IntKind.wrap .u32 (4 * i.imm))))) (E.op (E.pt g6) (E.st 0 (Q.S.cells (⟨(IntKind.wrap .u32 (s.pc + (IntKind.wrap .u32 (4 * i.imm)))), (Q.up (Q.up (Qx.u s) (i.d).toNat (Qx.p s)) 0 0), s.f, s.c, s.st, s.du⟩)) rfl rfl (E.tr (E.op (.pointer (some ⟨g6, 22, none⟩)) (E.li (E.i s.st) 0 rfl rfl (E.op (E.i (Qx.t s)) (E.op (.pointer (some ⟨g6, 22, none⟩)) (E.st 0 (Q.S.cells (⟨(IntKind.wrap .u32 (s.pc + (IntKind.wrap .u32 (4 * i.imm)))), (Q.up (Q.up (Qx.u s) (i.d).toNat (Qx.p s)) 0 0), s.f, s.c, (Qx.t s), s.du⟩)) rfl rfl (E.tr (E.li (Q.S.val (⟨(IntKind.wrap .u32 (s.pc + (IntKind.wrap .u32 (4 * i.imm)))), (Q.up (Q.up (Qx.u s) (i.d).toNat (Qx.p s)) 0 0), s.f, s.c, (Qx.t s), s.du⟩)) 0 rfl rfl ?_)))))))))))
  refine E.vl (Q.out (⟨(IntKind.wrap .u32 (s.pc + (IntKind.wrap .u32 (4 * i.imm)))), (Q.up (Q.up (Qx.u s) (i.d).toNat (Qx.p s)) 0 0), s.f, s.c, (Qx.t s), s.du⟩ : Q.S) 0 0) (fun w h => E.run_build (Q.S.cells (⟨(IntKind.wrap .u32 (s.pc + (IntKind.wrap .u32 (4 * i.imm)))), (Q.up (Q.up (Qx.u s) (i.d).toNat (Qx.p s)) 0 0), s.f, s.c, (Qx.t s), s.du⟩ : Q.S) ++ [Value.int .i64 0, Value.int .u32 0]).toArray (by kernel_rfl) w) (E.st 1 (Q.S.cells (⟨(IntKind.wrap .u32 (s.pc + (IntKind.wrap .u32 (4 * i.imm)))), (Q.up (Q.up (Qx.u s) (i.d).toNat (Qx.p s)) 0 0), s.f, s.c, (Qx.t s), s.du⟩) ++ [E.i 0, E.u 0]) rfl rfl (E.To.code (E.wk [(4, E.pt g2)] [(g2, (Q.S.cells (⟨(IntKind.wrap .u32 (s.pc + (IntKind.wrap .u32 (4 * i.imm)))), (Q.up (Q.up (Qx.u s) (i.d).toNat (Qx.p s)) 0 0), s.f, s.c, (Qx.t s), s.du⟩) ++ [E.i 0, E.u 0]))] Nz.sub (E.C.ret (E.To.body (fn := Tryz.f18) [Q.out (⟨(IntKind.wrap .u32 (s.pc + (IntKind.wrap .u32 (4 * i.imm)))), (Q.up (Q.up (Qx.u s) (i.d).toNat (Qx.p s)) 0 0), s.f, s.c, (Qx.t s), s.du⟩ : Q.S) 0 0] ?_ ?_)))))
  · exact ⟨⟨by kernel_rfl, _, _, 0, _, rfl, rfl, by kernel_rfl⟩, trivial⟩
  intro w h
  have e : (Q6.stepI i k t s V) = (⟨(IntKind.wrap .u32 (s.pc + (IntKind.wrap .u32 (4 * i.imm)))), (Q.up (Q.up (Qx.u s) (i.d).toNat (Qx.p s)) 0 0), s.f, s.c, (Qx.t s), s.du⟩, 0, 0, V) := by unfold Q6.stepI; rw [hc4, cond_false, hc11, cond_false, hc12, cond_false, hc15, cond_false, hc22, cond_false, hc28, cond_false, hc31, cond_false, hc33, cond_true] <;> rfl
  rw [e]
  exact ⟨(), trivial, rfl, A.dq [1] [0] h⟩
 refine E.sr (E.op (E.pt g5) (E.li (E.i i.op) 1 rfl rfl (E.op (.bool (i.op == 41)) (E.op (.bool (i.op == 41)) (E.To.code (E.wk [(1, E.pt m), (2, E.pt g1), (4, E.pt g2), (6, E.pt g5), (7, E.pt g6), (9, E.u (Qx.a s i)), (11, E.u (Qx.p s)), (193, .bool (i.op == 41))] [(g6, (Q.S.cells (Qx.s s))), (g5, [E.i i.op, E.i i.d, E.i i.a, E.i i.b, E.u i.imm]), (g2, (Q.S.cells Q.z0 ++ [E.i 0, E.u 0])), (g1, (Q.S.cells s))] Nz.sub (E.cd (i.op == 41) (fun hc34 => ?_) (fun hc34 => ?_))))))))
 ·
  refine E.C.region (E.op (.pointer (some ⟨g5, 1, none⟩)) (E.li (E.i i.d) 1 rfl rfl (E.op (.pointer (some ⟨g5, 4, none⟩)) (E.li (E.u i.imm) 1 rfl rfl (E.op (E.u (IntKind.wrap .u32 (i.imm * 2 ^ 10))) (E.op (.pointer (some ⟨g6, 1, none⟩)) (E.vl (.pointer (some ⟨g6, 1 + (i.d).toNat, none⟩)) (fun w h => E.idxI (e := 24) g6 1 16 .i64 i.d (by kernel_rfl) (by kernel_rfl) (by kernel_rfl) (by kernel_rfl) (by have := (hi (Q.eq_of hc4)).d; omega) w) (E.G.store 0 (Q.S.cells (⟨s.pc, (Q.up (Qx.u s) (i.d).toNat (IntKind.wrap .u32 (i.imm * 2 ^ 10))), s.f, s.c, s.st, s.du⟩)) rfl rfl (Q.sto_r (s := (Qx.s s)) (by kernel_rfl) (by have := (by have := (hi (Q.eq_of hc4)).d; omega); omega)) (by kernel_rfl) (E.P.nb (E.To.code (E.wk [(4, E.pt g2), (7, E.pt g6), (11, E.u (Qx.p s))] [(g6, (Q.S.cells (⟨s.pc, (Q.up (Qx.u s) (i.d).toNat (IntKind.wrap .u32 (i.imm * 2 ^ 10))), s.f, s.c, s.st, s.du⟩))), (g2, (Q.S.cells Q.z0 ++ [E.i 0, E.u 0]))] Nz.sub (E.sr ?_))))))))))))
  refine E.op (.pointer (some ⟨g6, 1, none⟩)) (E.op (.pointer (some ⟨g6, 1, none⟩)) (E.st 0 (Q.S.cells (⟨s.pc, (Q.up (Q.up (Qx.u s) (i.d).toNat (IntKind.wrap .u32 (i.imm * 2 ^ 10))) 0 0), s.f, s.c, s.st, s.du⟩)) rfl rfl (E.tr (E.op (E.u (Qx.p s)) (E.op (E.pt g6) (E.st 0 (Q.S.cells (⟨(Qx.p s), (Q.up (Q.up (Qx.u s) (i.d).toNat (IntKind.wrap .u32 (i.imm * 2 ^ 10))) 0 0), s.f, s.c, s.st, s.du⟩)) rfl rfl (E.tr (E.op (.pointer (some ⟨g6, 22, none⟩)) (E.li (E.i s.st) 0 rfl rfl (E.op (E.i (Qx.t s)) (E.op (.pointer (some ⟨g6, 22, none⟩)) ?_)))))))))))
  refine E.st 0 (Q.S.cells (⟨(Qx.p s), (Q.up (Q.up (Qx.u s) (i.d).toNat (IntKind.wrap .u32 (i.imm * 2 ^ 10))) 0 0), s.f, s.c, (Qx.t s), s.du⟩)) rfl rfl (E.To.code (E.wk [(4, E.pt g2), (7, E.pt g6)] [(g6, (Q.S.cells (⟨(Qx.p s), (Q.up (Q.up (Qx.u s) (i.d).toNat (IntKind.wrap .u32 (i.imm * 2 ^ 10))) 0 0), s.f, s.c, (Qx.t s), s.du⟩))), (g2, (Q.S.cells Q.z0 ++ [E.i 0, E.u 0]))] Nz.sub (E.sr (E.li (Q.S.val (⟨(Qx.p s), (Q.up (Q.up (Qx.u s) (i.d).toNat (IntKind.wrap .u32 (i.imm * 2 ^ 10))) 0 0), s.f, s.c, (Qx.t s), s.du⟩)) 0 rfl rfl (E.vl (Q.out (⟨(Qx.p s), (Q.up (Q.up (Qx.u s) (i.d).toNat (IntKind.wrap .u32 (i.imm * 2 ^ 10))) 0 0), s.f, s.c, (Qx.t s), s.du⟩ : Q.S) 0 0) (fun w h => E.run_build (Q.S.cells (⟨(Qx.p s), (Q.up (Q.up (Qx.u s) (i.d).toNat (IntKind.wrap .u32 (i.imm * 2 ^ 10))) 0 0), s.f, s.c, (Qx.t s), s.du⟩ : Q.S) ++ [Value.int .i64 0, Value.int .u32 0]).toArray (by kernel_rfl) w) (E.st 1 (Q.S.cells (⟨(Qx.p s), (Q.up (Q.up (Qx.u s) (i.d).toNat (IntKind.wrap .u32 (i.imm * 2 ^ 10))) 0 0), s.f, s.c, (Qx.t s), s.du⟩) ++ [E.i 0, E.u 0]) rfl rfl (E.To.code (E.C.ret (E.To.body (fn := Tryz.f18) [Q.out (⟨(Qx.p s), (Q.up (Q.up (Qx.u s) (i.d).toNat (IntKind.wrap .u32 (i.imm * 2 ^ 10))) 0 0), s.f, s.c, (Qx.t s), s.du⟩ : Q.S) 0 0] ?_ ?_)))))))))
  · exact ⟨⟨by kernel_rfl, _, _, 1, _, rfl, rfl, by kernel_rfl⟩, trivial⟩
  intro w h
  have e : (Q6.stepI i k t s V) = (⟨(Qx.p s), (Q.up (Q.up (Qx.u s) (i.d).toNat (IntKind.wrap .u32 (i.imm * 2 ^ 10))) 0 0), s.f, s.c, (Qx.t s), s.du⟩, 0, 0, V) := by unfold Q6.stepI; rw [hc4, cond_false, hc11, cond_false, hc12, cond_false, hc15, cond_false, hc22, cond_false, hc28, cond_false, hc31, cond_false, hc33, cond_false, hc34, cond_true] <;> rfl
  rw [e]
  exact ⟨(), trivial, rfl, A.dq [2] [0, 1] h⟩
 refine E.sr (E.op (E.pt g5) (E.li (E.i i.op) 1 rfl rfl (E.op (.bool (i.op == 48)) (E.op (.bool (i.op == 48)) (E.To.code (E.cd (i.op == 48) (fun hc35 => ?_) (fun hc35 => ?_)))))))
 ·
  refine E.sr (E.li (Q.S.val s) 3 rfl rfl (E.op (.pointer (some ⟨g5, 4, none⟩)) (E.li (E.u i.imm) 1 rfl rfl (E.G.call (Q.out s 4 i.imm) (fun w h => Trapped6_any s 4 i.imm w) (fun w _ => by kernel_rfl) (by kernel_rfl) (E.st 2 (Q.S.cells s ++ [E.i 4, E.u i.imm]) rfl rfl (E.To.code (E.wk [(4, E.pt g2), (7, E.pt g6), (11, E.u (Qx.p s))] [(g6, (Q.S.cells (Qx.s s))), (g2, (Q.S.cells s ++ [E.i 4, E.u i.imm]))] Nz.sub (E.C.ret (E.P.rb (E.P.rt (E.To.body (fn := Tryz.f18) [Q.out s 4 i.imm] ?_ ?_)))))))))))
  · exact ⟨⟨by kernel_rfl, _, _, 1, _, rfl, rfl, by kernel_rfl⟩, trivial⟩
  intro w h
  have e : (Q6.stepI i k t s V) = (s, 4, i.imm, V) := by unfold Q6.stepI; rw [hc4, cond_false, hc11, cond_false, hc12, cond_false, hc15, cond_false, hc22, cond_false, hc28, cond_false, hc31, cond_false, hc33, cond_false, hc34, cond_false, hc35, cond_true] <;> rfl
  rw [e]
  exact ⟨(), trivial, rfl, A.dq [2] [0, 1] h⟩
 refine E.sr (E.op (E.pt g5) (E.li (E.i i.op) 1 rfl rfl (E.op (.bool (i.op == 49)) (E.op (.bool (i.op == 49)) (E.To.code (E.wk [(1, E.pt m), (2, E.pt g1), (4, E.pt g2), (6, E.pt g5), (7, E.pt g6), (9, E.u (Qx.a s i)), (11, E.u (Qx.p s)), (212, .bool (i.op == 49))] [(g6, (Q.S.cells (Qx.s s))), (g5, [E.i i.op, E.i i.d, E.i i.a, E.i i.b, E.u i.imm]), (g2, (Q.S.cells Q.z0 ++ [E.i 0, E.u 0])), (g1, (Q.S.cells s))] Nz.sub (E.cd (i.op == 49) (fun hc36 => ?_) (fun hc36 => ?_))))))))
 ·
  refine E.sr (E.li (Q.S.val s) 3 rfl rfl (E.G.call (Q.out s 3 0) (fun w h => Trapped6_any s 3 0 w) (fun w _ => by kernel_rfl) (by kernel_rfl) (E.st 2 (Q.S.cells s ++ [E.i 3, E.u 0]) rfl rfl (E.To.code (E.C.ret (E.P.rb (E.P.rt (E.To.body (fn := Tryz.f18) [Q.out s 3 0] ?_ ?_))))))))
  · exact ⟨⟨by kernel_rfl, _, _, 2, _, rfl, rfl, by kernel_rfl⟩, trivial⟩
  intro w h
  have e : (Q6.stepI i k t s V) = (s, 3, 0, V) := by unfold Q6.stepI; rw [hc4, cond_false, hc11, cond_false, hc12, cond_false, hc15, cond_false, hc22, cond_false, hc28, cond_false, hc31, cond_false, hc33, cond_false, hc34, cond_false, hc35, cond_false, hc36, cond_true] <;> rfl
  rw [e]
  exact ⟨(), trivial, rfl, A.dq [4] [0, 1, 2, 3] h⟩
 refine E.sr (E.op (E.pt g5) (E.li (E.i i.op) 1 rfl rfl (E.op (.bool (i.op == 50)) (E.op (.bool (i.op == 50)) (E.To.code (E.cd (i.op == 50) (fun hc37 => ?_) (fun hc37 => ?_)))))))
 ·
  refine E.sr (E.li (Q.S.val s) 3 rfl rfl (E.G.call (Q.out s 2 0) (fun w h => Trapped6_any s 2 0 w) (fun w _ => by kernel_rfl) (by kernel_rfl) (E.st 2 (Q.S.cells s ++ [E.i 2, E.u 0]) rfl rfl (E.To.code (E.wk [(4, E.pt g2), (7, E.pt g6), (11, E.u (Qx.p s))] [(g6, (Q.S.cells (Qx.s s))), (g2, (Q.S.cells s ++ [E.i 2, E.u 0]))] Nz.sub (E.C.ret (E.P.rb (E.P.rt (E.To.body (fn := Tryz.f18) [Q.out s 2 0] ?_ ?_)))))))))
  · exact ⟨⟨by kernel_rfl, _, _, 1, _, rfl, rfl, by kernel_rfl⟩, trivial⟩
  intro w h
  have e : (Q6.stepI i k t s V) = (s, 2, 0, V) := by unfold Q6.stepI; rw [hc4, cond_false, hc11, cond_false, hc12, cond_false, hc15, cond_false, hc22, cond_false, hc28, cond_false, hc31, cond_false, hc33, cond_false, hc34, cond_false, hc35, cond_false, hc36, cond_false, hc37, cond_true] <;> rfl
  rw [e]
  exact ⟨(), trivial, rfl, A.dq [2] [0, 1] h⟩
 refine E.sr (E.op (E.pt g5) (E.li (E.i i.op) 1 rfl rfl (E.op (.bool (i.op == 51)) (E.op (.bool (i.op == 51)) (E.To.code (E.wk [(1, E.pt m), (2, E.pt g1), (4, E.pt g2), (6, E.pt g5), (7, E.pt g6), (9, E.u (Qx.a s i)), (11, E.u (Qx.p s)), (224, .bool (i.op == 51))] [(g6, (Q.S.cells (Qx.s s))), (g5, [E.i i.op, E.i i.d, E.i i.a, E.i i.b, E.u i.imm]), (g2, (Q.S.cells Q.z0 ++ [E.i 0, E.u 0])), (g1, (Q.S.cells s))] Nz.sub (E.cd (i.op == 51) (fun hc38 => ?_) (fun hc38 => ?_))))))))
 ·
  refine E.C.region (E.op (.pointer (some ⟨g6, 18, none⟩)) (E.op (.pointer (some ⟨g6, 19, none⟩)) (E.li (E.u (s.c 1)) 0 rfl rfl (E.op (E.u (IntKind.wrap .u32 (Int.tdiv (s.c 1) 4))) (E.op (E.u (IntKind.wrap .u32 ((IntKind.wrap .u32 (Int.tdiv (s.c 1) 4)) * 4))) (E.op (E.u (IntKind.wrap .u32 ((IntKind.wrap .u32 (Int.tdiv (s.c 1) 4)) * 4))) (E.P.nb (E.To.code (E.wk [(4, E.pt g2), (7, E.pt g6), (11, E.u (IntKind.wrap .u32 ((IntKind.wrap .u32 (Int.tdiv (s.c 1) 4)) * 4)))] [(g6, (Q.S.cells (Qx.s s))), (g2, (Q.S.cells Q.z0 ++ [E.i 0, E.u 0]))] Nz.sub (E.sr (E.op (.pointer (some ⟨g6, 1, none⟩)) (E.op (.pointer (some ⟨g6, 1, none⟩)) ?_))))))))))))
  refine E.st 0 (Q.S.cells (⟨s.pc, (Q.up (Qx.u s) 0 0), s.f, s.c, s.st, s.du⟩)) rfl rfl (E.tr (E.op (E.u (IntKind.wrap .u32 ((IntKind.wrap .u32 (Int.tdiv (s.c 1) 4)) * 4))) (E.op (E.pt g6) (E.st 0 (Q.S.cells (⟨(IntKind.wrap .u32 ((IntKind.wrap .u32 (Int.tdiv (s.c 1) 4)) * 4)), (Q.up (Qx.u s) 0 0), s.f, s.c, s.st, s.du⟩)) rfl rfl (E.tr (E.op (.pointer (some ⟨g6, 22, none⟩)) (E.li (E.i s.st) 0 rfl rfl (E.op (E.i (Qx.t s)) (E.op (.pointer (some ⟨g6, 22, none⟩)) (E.st 0 (Q.S.cells (⟨(IntKind.wrap .u32 ((IntKind.wrap .u32 (Int.tdiv (s.c 1) 4)) * 4)), (Q.up (Qx.u s) 0 0), s.f, s.c, (Qx.t s), s.du⟩)) rfl rfl (E.To.code ?_)))))))))))
  refine E.wk [(4, E.pt g2), (7, E.pt g6)] [(g6, (Q.S.cells (⟨(IntKind.wrap .u32 ((IntKind.wrap .u32 (Int.tdiv (s.c 1) 4)) * 4)), (Q.up (Qx.u s) 0 0), s.f, s.c, (Qx.t s), s.du⟩))), (g2, (Q.S.cells Q.z0 ++ [E.i 0, E.u 0]))] Nz.sub (E.sr (E.li (Q.S.val (⟨(IntKind.wrap .u32 ((IntKind.wrap .u32 (Int.tdiv (s.c 1) 4)) * 4)), (Q.up (Qx.u s) 0 0), s.f, s.c, (Qx.t s), s.du⟩)) 0 rfl rfl (E.vl (Q.out (⟨(IntKind.wrap .u32 ((IntKind.wrap .u32 (Int.tdiv (s.c 1) 4)) * 4)), (Q.up (Qx.u s) 0 0), s.f, s.c, (Qx.t s), s.du⟩ : Q.S) 0 0) (fun w h => E.run_build (Q.S.cells (⟨(IntKind.wrap .u32 ((IntKind.wrap .u32 (Int.tdiv (s.c 1) 4)) * 4)), (Q.up (Qx.u s) 0 0), s.f, s.c, (Qx.t s), s.du⟩ : Q.S) ++ [Value.int .i64 0, Value.int .u32 0]).toArray (by kernel_rfl) w) (E.st 1 (Q.S.cells (⟨(IntKind.wrap .u32 ((IntKind.wrap .u32 (Int.tdiv (s.c 1) 4)) * 4)), (Q.up (Qx.u s) 0 0), s.f, s.c, (Qx.t s), s.du⟩) ++ [E.i 0, E.u 0]) rfl rfl (E.To.code (E.C.ret (E.To.body (fn := Tryz.f18) [Q.out (⟨(IntKind.wrap .u32 ((IntKind.wrap .u32 (Int.tdiv (s.c 1) 4)) * 4)), (Q.up (Qx.u s) 0 0), s.f, s.c, (Qx.t s), s.du⟩ : Q.S) 0 0] ?_ ?_)))))))
  · exact ⟨⟨by kernel_rfl, _, _, 1, _, rfl, rfl, by kernel_rfl⟩, trivial⟩
  intro w h
  have e : (Q6.stepI i k t s V) = (⟨(IntKind.wrap .u32 ((IntKind.wrap .u32 (Int.tdiv (s.c 1) 4)) * 4)), (Q.up (Qx.u s) 0 0), s.f, s.c, (Qx.t s), s.du⟩, 0, 0, V) := by unfold Q6.stepI; rw [hc4, cond_false, hc11, cond_false, hc12, cond_false, hc15, cond_false, hc22, cond_false, hc28, cond_false, hc31, cond_false, hc33, cond_false, hc34, cond_false, hc35, cond_false, hc36, cond_false, hc37, cond_false, hc38, cond_true] <;> rfl
  rw [e]
  exact ⟨(), trivial, rfl, A.dq [2] [0, 1] h⟩
 refine E.sr (E.op (E.pt g5) (E.li (E.i i.op) 1 rfl rfl (E.op (.bool (i.op == 52)) (E.op (.bool (i.op == 52)) (E.To.code (E.cd (i.op == 52) (fun hc39 => ?_) (fun hc39 => ?_)))))))
 ·
  refine E.sr (E.op (E.pt m) (E.op (E.u (Qx.a s i)) (A.G.call (I := Unit) (D := fun _ => True) (V := fun _ => .bool (decide (((Qx.a s i)).toNat / 256 < V.n))) (q := fun _ => [R.It m (V.sync (((Qx.a s i)).toNat / 256))]) [A.blk g6 (Q.S.cells (Qx.s s)), A.blk g5 ([E.i i.op, E.i i.d, E.i i.a, E.i i.b, E.u i.imm]), A.blk g2 (Q.S.cells Q.z0 ++ [E.i 0, E.u 0]), A.blk g1 (Q.S.cells s)] (fun _ => [(g6, (Q.S.cells (Qx.s s))), (g5, [E.i i.op, E.i i.d, E.i i.a, E.i i.b, E.u i.imm]), (g2, (Q.S.cells Q.z0 ++ [E.i 0, E.u 0])), (g1, (Q.S.cells s))]) (fun _ => [R.It m (V.sync (((Qx.a s i)).toNat / 256))]) (J_Sync (m := m) (V := V) (Qx.a s i) (Q.up_bd hs.r (by decide) _)) (by kernel_rfl) (A.pn [4, 0, 1, 2, 3]) (fun _ => A.pm [1, 2, 3, 4, 0] (by kernel_rfl) (by kernel_rfl)) (fun w _ => by kernel_rfl) (by kernel_rfl) (fun _ hd40 => E.op (.bool (decide (((Qx.a s i)).toNat / 256 < V.n))) (E.To.code (E.wk [(2, E.pt g1), (4, E.pt g2), (7, E.pt g6), (9, E.u (Qx.a s i)), (11, E.u (Qx.p s)), (18, .bool (decide (((Qx.a s i)).toNat / 256 < V.n)))] [(g6, (Q.S.cells (Qx.s s))), (g2, (Q.S.cells Q.z0 ++ [E.i 0, E.u 0])), (g1, (Q.S.cells s))] Nz.sub (E.sr (E.op (.bool (decide (((Qx.a s i)).toNat / 256 < V.n))) (E.op (.bool (!(decide (((Qx.a s i)).toNat / 256 < V.n)))) (E.To.code (E.cd (!(decide ((((Q.up s.r 0 0) ((i.a).toNat))).toNat / 256 < V.n))) (fun hc41 => ?_) (fun hc41 => ?_))))))))))))
  ·
   refine E.sr (E.li (Q.S.val s) 2 rfl rfl (E.op (E.u (Qx.a s i)) (E.G.call (Q.out s 5 (Qx.a s i)) (fun w h => Trapped6_any s 5 (Qx.a s i) w) (fun w _ => by kernel_rfl) (by kernel_rfl) (E.st 1 (Q.S.cells s ++ [E.i 5, E.u (Qx.a s i)]) rfl rfl (E.To.code (E.wk [(4, E.pt g2), (7, E.pt g6), (11, E.u (Qx.p s))] [(g6, (Q.S.cells (Qx.s s))), (g2, (Q.S.cells s ++ [E.i 5, E.u (Qx.a s i)]))] Nz.sub (E.C.ret (E.P.rb (E.P.rt (E.To.body (fn := Tryz.f18) [Q.out s 5 (Qx.a s i)] ?_ ?_))))))))))
   · exact ⟨⟨by kernel_rfl, _, _, 1, _, rfl, rfl, by kernel_rfl⟩, trivial⟩
   intro w h
   have e : (Q6.stepI i k t s V) = (s, 5, (Qx.a s i), (V.sync (((Qx.a s i)).toNat / 256))) := by unfold Q6.stepI; rw [hc4, cond_false, hc11, cond_false, hc12, cond_false, hc15, cond_false, hc22, cond_false, hc28, cond_false, hc31, cond_false, hc33, cond_false, hc34, cond_false, hc35, cond_false, hc36, cond_false, hc37, cond_false, hc38, cond_false, hc39, cond_true, hc41, cond_true] <;> rfl
   rw [e]
   exact ⟨(), trivial, rfl, A.dq [2] [0, 1] h⟩
  refine E.C.skip (E.P.nb (E.To.code (E.sr (E.op (.pointer (some ⟨g6, 1, none⟩)) (E.op (.pointer (some ⟨g6, 1, none⟩)) (E.st 0 (Q.S.cells (⟨s.pc, (Q.up (Qx.u s) 0 0), s.f, s.c, s.st, s.du⟩)) rfl rfl (E.tr (E.op (E.u (Qx.p s)) (E.op (E.pt g6) (E.st 0 (Q.S.cells (⟨(Qx.p s), (Q.up (Qx.u s) 0 0), s.f, s.c, s.st, s.du⟩)) rfl rfl (E.To.code (E.wk [(4, E.pt g2), (7, E.pt g6)] [(g6, (Q.S.cells (⟨(Qx.p s), (Q.up (Qx.u s) 0 0), s.f, s.c, s.st, s.du⟩))), (g2, (Q.S.cells Q.z0 ++ [E.i 0, E.u 0]))] Nz.sub (E.sr ?_)))))))))))))
  refine E.op (.pointer (some ⟨g6, 22, none⟩)) (E.li (E.i s.st) 0 rfl rfl (E.op (E.i (Qx.t s)) (E.op (.pointer (some ⟨g6, 22, none⟩)) (E.st 0 (Q.S.cells (⟨(Qx.p s), (Q.up (Qx.u s) 0 0), s.f, s.c, (Qx.t s), s.du⟩)) rfl rfl (E.tr (E.li (Q.S.val (⟨(Qx.p s), (Q.up (Qx.u s) 0 0), s.f, s.c, (Qx.t s), s.du⟩)) 0 rfl rfl (E.vl (Q.out (⟨(Qx.p s), (Q.up (Qx.u s) 0 0), s.f, s.c, (Qx.t s), s.du⟩ : Q.S) 0 0) (fun w h => E.run_build (Q.S.cells (⟨(Qx.p s), (Q.up (Qx.u s) 0 0), s.f, s.c, (Qx.t s), s.du⟩ : Q.S) ++ [Value.int .i64 0, Value.int .u32 0]).toArray (by kernel_rfl) w) (E.st 1 (Q.S.cells (⟨(Qx.p s), (Q.up (Qx.u s) 0 0), s.f, s.c, (Qx.t s), s.du⟩) ++ [E.i 0, E.u 0]) rfl rfl (E.To.code (E.C.ret (E.To.body (fn := Tryz.f18) [Q.out (⟨(Qx.p s), (Q.up (Qx.u s) 0 0), s.f, s.c, (Qx.t s), s.du⟩ : Q.S) 0 0] ?_ ?_)))))))))))
  · exact ⟨⟨by kernel_rfl, _, _, 1, _, rfl, rfl, by kernel_rfl⟩, trivial⟩
  intro w h
  have e : (Q6.stepI i k t s V) = (⟨(Qx.p s), (Q.up (Qx.u s) 0 0), s.f, s.c, (Qx.t s), s.du⟩, 0, 0, (V.sync (((Qx.a s i)).toNat / 256))) := by unfold Q6.stepI; rw [hc4, cond_false, hc11, cond_false, hc12, cond_false, hc15, cond_false, hc22, cond_false, hc28, cond_false, hc31, cond_false, hc33, cond_false, hc34, cond_false, hc35, cond_false, hc36, cond_false, hc37, cond_false, hc38, cond_false, hc39, cond_true, hc41, cond_false] <;> rfl
  rw [e]
  exact ⟨(), trivial, rfl, A.dq [2] [0, 1] h⟩
 refine E.sr (E.op (E.pt g5) (E.li (E.i i.op) 1 rfl rfl (E.op (.bool (i.op == 53)) (E.op (.bool (i.op == 53)) (E.To.code (E.wk [(4, E.pt g2), (6, E.pt g5), (7, E.pt g6), (9, E.u (Qx.a s i)), (11, E.u (Qx.p s)), (245, .bool (i.op == 53))] [(g6, (Q.S.cells (Qx.s s))), (g5, [E.i i.op, E.i i.d, E.i i.a, E.i i.b, E.u i.imm]), (g2, (Q.S.cells Q.z0 ++ [E.i 0, E.u 0]))] Nz.sub (E.cd (i.op == 53) (fun hc42 => ?_) (fun hc42 => ?_))))))))
 ·
  refine E.C.held (A.Y [A.blk g5 ([E.i i.op, E.i i.d, E.i i.a, E.i i.b, E.u i.imm]), A.blk g2 (Q.S.cells Q.z0 ++ [E.i 0, E.u 0])]) (by kernel_rfl) (E.tk 0 (.pointer (some ⟨g5, 1, none⟩)) rfl (fun w h => A.hq [1, 2] [0, 3] h) (E.tj 1 (E.i i.d) rfl (fun w h => A.hq [1, 2] [0, 3] h) (fun w h => A.Y.bld h (k := 0) (j := 1) rfl (by kernel_rfl) (by kernel_rfl)) (E.tk 2 (.pointer (some ⟨g5, 4, none⟩)) rfl (fun w h => A.hq [1, 2] [0, 3] h) (E.tj 3 (E.u i.imm) rfl (fun w h => A.hq [1, 2] [0, 3] h) (fun w h => A.Y.bld h (k := 0) (j := 4) rfl (by kernel_rfl) (by kernel_rfl)) (E.tk 4 (.pointer (some ⟨g6, 18, none⟩)) rfl (fun w h => A.hq [1, 2] [0, 3] h) (E.tj 5 (.pointer (some ⟨g6, 18 + (i.imm).toNat, none⟩)) rfl (fun w h => A.hq [1, 2] [0, 3] h) (fun w h => E.idxI (e := 24) g6 18 4 .u32 i.imm (by kernel_rfl) (by kernel_rfl) (by kernel_rfl) (by kernel_rfl) (by have := (hi (Q.eq_of hc4)).imm; have := (hi (Q.eq_of hc4)).get hc42; omega) w) (E.tk 7 (.pointer (some ⟨g6, 1, none⟩)) rfl (fun w h => A.hq [1, 2] [0, 3] h) (E.al 6 rfl (E.vl (E.u (s.c ((i.imm).toNat))) (fun w h => E.run_load h 0 rfl rfl (Q.ld_c (by kernel_rfl) (by have := (by have := (hi (Q.eq_of hc4)).imm; have := (hi (Q.eq_of hc4)).get hc42; omega); omega))) (E.H.back (fun w h => A.hq [1, 2] [0, 3] h) (E.tj 8 (.pointer (some ⟨g6, 1 + (i.d).toNat, none⟩)) rfl (fun w h => A.hq [1, 2] [0, 3] h) (fun w h => E.idxI (e := 24) g6 1 16 .i64 i.d (by kernel_rfl) (by kernel_rfl) (by kernel_rfl) (by kernel_rfl) (by have := (hi (Q.eq_of hc4)).d; omega) w) ?_)))))))))))
  refine E.al 9 rfl (E.G.store 0 (Q.S.cells (⟨s.pc, (Q.up (Qx.u s) (i.d).toNat (s.c ((i.imm).toNat))), s.f, s.c, s.st, s.du⟩)) rfl rfl (Q.sto_r (s := (Qx.s s)) (by kernel_rfl) (by have := (by have := (hi (Q.eq_of hc4)).d; omega); omega)) (by kernel_rfl) (E.H.back (fun w h => A.hq [1, 2] [0, 3] h) (E.H.done (by kernel_rfl) (E.P.nb (E.To.code (E.wk [(4, E.pt g2), (7, E.pt g6), (11, E.u (Qx.p s))] [(g6, (Q.S.cells (⟨s.pc, (Q.up (Qx.u s) (i.d).toNat (s.c ((i.imm).toNat))), s.f, s.c, s.st, s.du⟩))), (g2, (Q.S.cells Q.z0 ++ [E.i 0, E.u 0]))] Nz.sub (E.sr (E.op (.pointer (some ⟨g6, 1, none⟩)) (E.op (.pointer (some ⟨g6, 1, none⟩)) (E.st 0 (Q.S.cells (⟨s.pc, (Q.up (Q.up (Qx.u s) (i.d).toNat (s.c ((i.imm).toNat))) 0 0), s.f, s.c, s.st, s.du⟩)) rfl rfl (E.tr (E.op (E.u (Qx.p s)) ?_))))))))))))
  refine E.op (E.pt g6) (E.st 0 (Q.S.cells (⟨(Qx.p s), (Q.up (Q.up (Qx.u s) (i.d).toNat (s.c ((i.imm).toNat))) 0 0), s.f, s.c, s.st, s.du⟩)) rfl rfl (E.tr (E.op (.pointer (some ⟨g6, 22, none⟩)) (E.li (E.i s.st) 0 rfl rfl (E.op (E.i (Qx.t s)) (E.op (.pointer (some ⟨g6, 22, none⟩)) (E.st 0 (Q.S.cells (⟨(Qx.p s), (Q.up (Q.up (Qx.u s) (i.d).toNat (s.c ((i.imm).toNat))) 0 0), s.f, s.c, (Qx.t s), s.du⟩)) rfl rfl (E.To.code (E.wk [(4, E.pt g2), (7, E.pt g6)] [(g6, (Q.S.cells (⟨(Qx.p s), (Q.up (Q.up (Qx.u s) (i.d).toNat (s.c ((i.imm).toNat))) 0 0), s.f, s.c, (Qx.t s), s.du⟩))), (g2, (Q.S.cells Q.z0 ++ [E.i 0, E.u 0]))] Nz.sub (E.sr (E.li (Q.S.val (⟨(Qx.p s), (Q.up (Q.up (Qx.u s) (i.d).toNat (s.c ((i.imm).toNat))) 0 0), s.f, s.c, (Qx.t s), s.du⟩)) 0 rfl rfl ?_)))))))))))
  refine E.vl (Q.out (⟨(Qx.p s), (Q.up (Q.up (Qx.u s) (i.d).toNat (s.c ((i.imm).toNat))) 0 0), s.f, s.c, (Qx.t s), s.du⟩ : Q.S) 0 0) (fun w h => E.run_build (Q.S.cells (⟨(Qx.p s), (Q.up (Q.up (Qx.u s) (i.d).toNat (s.c ((i.imm).toNat))) 0 0), s.f, s.c, (Qx.t s), s.du⟩ : Q.S) ++ [Value.int .i64 0, Value.int .u32 0]).toArray (by kernel_rfl) w) (E.st 1 (Q.S.cells (⟨(Qx.p s), (Q.up (Q.up (Qx.u s) (i.d).toNat (s.c ((i.imm).toNat))) 0 0), s.f, s.c, (Qx.t s), s.du⟩) ++ [E.i 0, E.u 0]) rfl rfl (E.To.code (E.C.ret (E.To.body (fn := Tryz.f18) [Q.out (⟨(Qx.p s), (Q.up (Q.up (Qx.u s) (i.d).toNat (s.c ((i.imm).toNat))) 0 0), s.f, s.c, (Qx.t s), s.du⟩ : Q.S) 0 0] ?_ ?_))))
  · exact ⟨⟨by kernel_rfl, _, _, 1, _, rfl, rfl, by kernel_rfl⟩, trivial⟩
  intro w h
  have e : (Q6.stepI i k t s V) = (⟨(Qx.p s), (Q.up (Q.up (Qx.u s) (i.d).toNat (s.c ((i.imm).toNat))) 0 0), s.f, s.c, (Qx.t s), s.du⟩, 0, 0, V) := by unfold Q6.stepI; rw [hc4, cond_false, hc11, cond_false, hc12, cond_false, hc15, cond_false, hc22, cond_false, hc28, cond_false, hc31, cond_false, hc33, cond_false, hc34, cond_false, hc35, cond_false, hc36, cond_false, hc37, cond_false, hc38, cond_false, hc39, cond_false, hc42, cond_true] <;> rfl
  rw [e]
  exact ⟨(), trivial, rfl, A.dq [2] [0, 1] h⟩
 refine E.sr (E.op (E.pt g5) (E.li (E.i i.op) 1 rfl rfl (E.op (.bool (i.op == 54)) (E.op (.bool (i.op == 54)) (E.G.cut 4 [(4, E.pt g2), (6, E.pt g5), (7, E.pt g6), (9, E.u (Qx.a s i)), (11, E.u (Qx.p s)), (266, .bool ((i.op == 54) && (i.imm == 4)))] (A.X w oo aa [R.It m V]) [(g6, (Q.S.cells (Qx.s s))), (g5, [E.i i.op, E.i i.d, E.i i.a, E.i i.b, E.u i.imm]), (g2, (Q.S.cells Q.z0 ++ [E.i 0, E.u 0]))] ?_ ?_)))))
 ·
  generalize hc43 : (i.op == 54) = b44
  cases b44
  ·
   exact E.sk (E.sk (E.sk (E.op (.bool false) (E.G.end_pst ⟨by kernel_rfl, by kernel_rfl⟩ Nz.sub (fun _ h => h)))))
  exact E.op (.pointer (some ⟨g5, 4, none⟩)) (E.li (E.u i.imm) 1 rfl rfl (E.op (.bool (i.imm == 4)) (E.op (.bool (i.imm == 4)) (E.G.end_pst ⟨by kernel_rfl, by kernel_rfl⟩ Nz.sub (fun _ h => h)))))
 refine E.op (.bool ((i.op == 54) && (i.imm == 4))) (E.To.code (E.cd ((i.op == 54) && (i.imm == 4)) (fun hc45 => ?_) (fun hc45 => ?_)))
 ·
  refine E.sr (E.op (.pointer (some ⟨g6, 23, none⟩)) (E.st 0 (Q.S.cells (⟨s.pc, (Qx.u s), s.f, s.c, s.st, 0⟩)) rfl rfl (E.tr (E.op (E.u (Qx.a s i)) (E.op (.bool ((Qx.a s i) != 0)) (E.To.code (E.cd (((Q.up s.r 0 0) ((i.a).toNat)) != 0) (fun hc46 => ?_) (fun hc46 => ?_))))))))
  ·
   refine E.C.region (E.op (.pointer (some ⟨g6, 22, none⟩)) (E.li (E.i s.st) 0 rfl rfl (E.op (E.i (Qx.t s)) (E.op (E.u (Qx.a s i)) (E.op (E.i (IntKind.wrap .i64 (Qx.a s i))) (E.op (E.i (IntKind.wrap .i64 ((Qx.t s) + (IntKind.wrap .i64 (Qx.a s i))))) (E.op (.pointer (some ⟨g6, 23, none⟩)) (E.st 0 (Q.S.cells (⟨s.pc, (Qx.u s), s.f, s.c, s.st, (IntKind.wrap .i64 ((Qx.t s) + (IntKind.wrap .i64 (Qx.a s i))))⟩)) rfl rfl (E.P.nb (E.To.code (E.wk [(4, E.pt g2), (7, E.pt g6), (11, E.u (Qx.p s))] [(g6, (Q.S.cells (⟨s.pc, (Qx.u s), s.f, s.c, s.st, (IntKind.wrap .i64 ((Qx.t s) + (IntKind.wrap .i64 (Qx.a s i))))⟩))), (g2, (Q.S.cells Q.z0 ++ [E.i 0, E.u 0]))] Nz.sub (E.sr ?_))))))))))))
   refine E.op (.pointer (some ⟨g6, 1, none⟩)) (E.op (.pointer (some ⟨g6, 1, none⟩)) (E.st 0 (Q.S.cells (⟨s.pc, (Q.up (Qx.u s) 0 0), s.f, s.c, s.st, (IntKind.wrap .i64 ((Qx.t s) + (IntKind.wrap .i64 (Qx.a s i))))⟩)) rfl rfl (E.tr (E.op (E.u (Qx.p s)) (E.op (E.pt g6) (E.st 0 (Q.S.cells (⟨(Qx.p s), (Q.up (Qx.u s) 0 0), s.f, s.c, s.st, (IntKind.wrap .i64 ((Qx.t s) + (IntKind.wrap .i64 (Qx.a s i))))⟩)) rfl rfl (E.tr (E.op (.pointer (some ⟨g6, 22, none⟩)) (E.li (E.i s.st) 0 rfl rfl (E.op (E.i (Qx.t s)) (E.op (.pointer (some ⟨g6, 22, none⟩)) ?_)))))))))))
   refine E.st 0 (Q.S.cells (⟨(Qx.p s), (Q.up (Qx.u s) 0 0), s.f, s.c, (Qx.t s), (IntKind.wrap .i64 ((Qx.t s) + (IntKind.wrap .i64 (Qx.a s i))))⟩)) rfl rfl (E.To.code (E.wk [(4, E.pt g2), (7, E.pt g6)] [(g6, (Q.S.cells (⟨(Qx.p s), (Q.up (Qx.u s) 0 0), s.f, s.c, (Qx.t s), (IntKind.wrap .i64 ((Qx.t s) + (IntKind.wrap .i64 (Qx.a s i))))⟩))), (g2, (Q.S.cells Q.z0 ++ [E.i 0, E.u 0]))] Nz.sub (E.sr (E.li (Q.S.val (⟨(Qx.p s), (Q.up (Qx.u s) 0 0), s.f, s.c, (Qx.t s), (IntKind.wrap .i64 ((Qx.t s) + (IntKind.wrap .i64 (Qx.a s i))))⟩)) 0 rfl rfl (E.vl (Q.out (⟨(Qx.p s), (Q.up (Qx.u s) 0 0), s.f, s.c, (Qx.t s), (IntKind.wrap .i64 ((Qx.t s) + (IntKind.wrap .i64 (Qx.a s i))))⟩ : Q.S) 0 0) (fun w h => E.run_build (Q.S.cells (⟨(Qx.p s), (Q.up (Qx.u s) 0 0), s.f, s.c, (Qx.t s), (IntKind.wrap .i64 ((Qx.t s) + (IntKind.wrap .i64 (Qx.a s i))))⟩ : Q.S) ++ [Value.int .i64 0, Value.int .u32 0]).toArray (by kernel_rfl) w) (E.st 1 (Q.S.cells (⟨(Qx.p s), (Q.up (Qx.u s) 0 0), s.f, s.c, (Qx.t s), (IntKind.wrap .i64 ((Qx.t s) + (IntKind.wrap .i64 (Qx.a s i))))⟩) ++ [E.i 0, E.u 0]) rfl rfl (E.To.code (E.C.ret (E.To.body (fn := Tryz.f18) [Q.out (⟨(Qx.p s), (Q.up (Qx.u s) 0 0), s.f, s.c, (Qx.t s), (IntKind.wrap .i64 ((Qx.t s) + (IntKind.wrap .i64 (Qx.a s i))))⟩ : Q.S) 0 0] ?_ ?_)))))))))
   · exact ⟨⟨by kernel_rfl, _, _, 1, _, rfl, rfl, by kernel_rfl⟩, trivial⟩
   intro w h
   have e : (Q6.stepI i k t s V) = (⟨(Qx.p s), (Q.up (Qx.u s) 0 0), s.f, s.c, (Qx.t s), (IntKind.wrap .i64 ((Qx.t s) + (IntKind.wrap .i64 (Qx.a s i))))⟩, 0, 0, V) := by unfold Q6.stepI; rw [hc4, cond_false, hc11, cond_false, hc12, cond_false, hc15, cond_false, hc22, cond_false, hc28, cond_false, hc31, cond_false, hc33, cond_false, hc34, cond_false, hc35, cond_false, hc36, cond_false, hc37, cond_false, hc38, cond_false, hc39, cond_false, hc42, cond_false, hc45, cond_true, hc46, cond_true] <;> rfl
   rw [e]
   exact ⟨(), trivial, rfl, A.dq [2] [0, 1] h⟩
  refine E.C.skip (E.P.nb (E.To.code (E.sr (E.op (.pointer (some ⟨g6, 1, none⟩)) (E.op (.pointer (some ⟨g6, 1, none⟩)) (E.st 0 (Q.S.cells (⟨s.pc, (Q.up (Qx.u s) 0 0), s.f, s.c, s.st, 0⟩)) rfl rfl (E.To.code (E.wk [(4, E.pt g2), (7, E.pt g6), (11, E.u (Qx.p s))] [(g6, (Q.S.cells (⟨s.pc, (Q.up (Qx.u s) 0 0), s.f, s.c, s.st, 0⟩))), (g2, (Q.S.cells Q.z0 ++ [E.i 0, E.u 0]))] Nz.sub (E.sr (E.op (E.u (Qx.p s)) (E.op (E.pt g6) (E.st 0 (Q.S.cells (⟨(Qx.p s), (Q.up (Qx.u s) 0 0), s.f, s.c, s.st, 0⟩)) rfl rfl (E.tr ?_)))))))))))))
  refine E.op (.pointer (some ⟨g6, 22, none⟩)) (E.li (E.i s.st) 0 rfl rfl (E.op (E.i (Qx.t s)) (E.op (.pointer (some ⟨g6, 22, none⟩)) (E.st 0 (Q.S.cells (⟨(Qx.p s), (Q.up (Qx.u s) 0 0), s.f, s.c, (Qx.t s), 0⟩)) rfl rfl (E.tr (E.li (Q.S.val (⟨(Qx.p s), (Q.up (Qx.u s) 0 0), s.f, s.c, (Qx.t s), 0⟩)) 0 rfl rfl (E.vl (Q.out (⟨(Qx.p s), (Q.up (Qx.u s) 0 0), s.f, s.c, (Qx.t s), 0⟩ : Q.S) 0 0) (fun w h => E.run_build (Q.S.cells (⟨(Qx.p s), (Q.up (Qx.u s) 0 0), s.f, s.c, (Qx.t s), 0⟩ : Q.S) ++ [Value.int .i64 0, Value.int .u32 0]).toArray (by kernel_rfl) w) (E.st 1 (Q.S.cells (⟨(Qx.p s), (Q.up (Qx.u s) 0 0), s.f, s.c, (Qx.t s), 0⟩) ++ [E.i 0, E.u 0]) rfl rfl (E.To.code (E.wk [(4, E.pt g2)] [(g2, (Q.S.cells (⟨(Qx.p s), (Q.up (Qx.u s) 0 0), s.f, s.c, (Qx.t s), 0⟩) ++ [E.i 0, E.u 0]))] Nz.sub (E.C.ret (E.To.body (fn := Tryz.f18) [Q.out (⟨(Qx.p s), (Q.up (Qx.u s) 0 0), s.f, s.c, (Qx.t s), 0⟩ : Q.S) 0 0] ?_ ?_))))))))))))
  · exact ⟨⟨by kernel_rfl, _, _, 0, _, rfl, rfl, by kernel_rfl⟩, trivial⟩
  intro w h
  have e : (Q6.stepI i k t s V) = (⟨(Qx.p s), (Q.up (Qx.u s) 0 0), s.f, s.c, (Qx.t s), 0⟩, 0, 0, V) := by unfold Q6.stepI; rw [hc4, cond_false, hc11, cond_false, hc12, cond_false, hc15, cond_false, hc22, cond_false, hc28, cond_false, hc31, cond_false, hc33, cond_false, hc34, cond_false, hc35, cond_false, hc36, cond_false, hc37, cond_false, hc38, cond_false, hc39, cond_false, hc42, cond_false, hc45, cond_true, hc46, cond_false] <;> rfl
  rw [e]
  exact ⟨(), trivial, rfl, A.dq [1] [0] h⟩
 refine E.sr (E.op (E.pt g5) (E.li (E.i i.op) 1 rfl rfl (E.op (.bool (i.op == 54)) (E.op (.bool (i.op == 54)) (E.G.cut 4 [(4, E.pt g2), (6, E.pt g5), (7, E.pt g6), (9, E.u (Qx.a s i)), (11, E.u (Qx.p s)), (285, .bool ((i.op == 54) && (decide (i.imm < 2))))] (A.X w oo aa [R.It m V]) [(g6, (Q.S.cells (Qx.s s))), (g5, [E.i i.op, E.i i.d, E.i i.a, E.i i.b, E.u i.imm]), (g2, (Q.S.cells Q.z0 ++ [E.i 0, E.u 0]))] ?_ ?_)))))
 ·
  generalize hc47 : (i.op == 54) = b48
  cases b48
  ·
   exact E.sk (E.sk (E.sk (E.op (.bool false) (E.G.end_pst ⟨by kernel_rfl, by kernel_rfl⟩ Nz.sub (fun _ h => h)))))
  exact E.op (.pointer (some ⟨g5, 4, none⟩)) (E.li (E.u i.imm) 1 rfl rfl (E.op (.bool (decide (i.imm < 2))) (E.op (.bool (decide (i.imm < 2))) (E.G.end_pst ⟨by kernel_rfl, by kernel_rfl⟩ Nz.sub (fun _ h => h)))))
 refine E.op (.bool ((i.op == 54) && (decide (i.imm < 2)))) (E.To.code (E.cd ((i.op == 54) && (decide (i.imm < 2))) (fun hc49 => ?_) (fun hc49 => ?_)))
 ·
  refine E.C.region (E.op (.pointer (some ⟨g5, 4, none⟩)) (E.li (E.u i.imm) 1 rfl rfl (E.op (E.u (Qx.a s i)) (E.op (.pointer (some ⟨g6, 18, none⟩)) (E.vl (.pointer (some ⟨g6, 18 + (i.imm).toNat, none⟩)) (fun w h => E.idxI (e := 24) g6 18 4 .u32 i.imm (by kernel_rfl) (by kernel_rfl) (by kernel_rfl) (by kernel_rfl) (by have := (hi (Q.eq_of hc4)).imm; have := Q.lt2 hc49; omega) w) (E.G.store 0 (Q.S.cells (⟨s.pc, (Qx.u s), s.f, (Q.up s.c (i.imm).toNat (Qx.a s i)), s.st, s.du⟩)) rfl rfl (Q.sto_c (s := (Qx.s s)) (by kernel_rfl) (by have := (by have := (hi (Q.eq_of hc4)).imm; have := Q.lt2 hc49; omega); omega)) (by kernel_rfl) (E.P.nb (E.To.code (E.wk [(4, E.pt g2), (7, E.pt g6), (11, E.u (Qx.p s))] [(g6, (Q.S.cells (⟨s.pc, (Qx.u s), s.f, (Q.up s.c (i.imm).toNat (Qx.a s i)), s.st, s.du⟩))), (g2, (Q.S.cells Q.z0 ++ [E.i 0, E.u 0]))] Nz.sub (E.sr (E.op (.pointer (some ⟨g6, 1, none⟩)) (E.op (.pointer (some ⟨g6, 1, none⟩)) ?_))))))))))))
  refine E.st 0 (Q.S.cells (⟨s.pc, (Q.up (Qx.u s) 0 0), s.f, (Q.up s.c (i.imm).toNat (Qx.a s i)), s.st, s.du⟩)) rfl rfl (E.tr (E.op (E.u (Qx.p s)) (E.op (E.pt g6) (E.st 0 (Q.S.cells (⟨(Qx.p s), (Q.up (Qx.u s) 0 0), s.f, (Q.up s.c (i.imm).toNat (Qx.a s i)), s.st, s.du⟩)) rfl rfl (E.tr (E.op (.pointer (some ⟨g6, 22, none⟩)) (E.li (E.i s.st) 0 rfl rfl (E.op (E.i (Qx.t s)) (E.op (.pointer (some ⟨g6, 22, none⟩)) (E.st 0 (Q.S.cells (⟨(Qx.p s), (Q.up (Qx.u s) 0 0), s.f, (Q.up s.c (i.imm).toNat (Qx.a s i)), (Qx.t s), s.du⟩)) rfl rfl (E.To.code ?_)))))))))))
  refine E.wk [(4, E.pt g2), (7, E.pt g6)] [(g6, (Q.S.cells (⟨(Qx.p s), (Q.up (Qx.u s) 0 0), s.f, (Q.up s.c (i.imm).toNat (Qx.a s i)), (Qx.t s), s.du⟩))), (g2, (Q.S.cells Q.z0 ++ [E.i 0, E.u 0]))] Nz.sub (E.sr (E.li (Q.S.val (⟨(Qx.p s), (Q.up (Qx.u s) 0 0), s.f, (Q.up s.c (i.imm).toNat (Qx.a s i)), (Qx.t s), s.du⟩)) 0 rfl rfl (E.vl (Q.out (⟨(Qx.p s), (Q.up (Qx.u s) 0 0), s.f, (Q.up s.c (i.imm).toNat (Qx.a s i)), (Qx.t s), s.du⟩ : Q.S) 0 0) (fun w h => E.run_build (Q.S.cells (⟨(Qx.p s), (Q.up (Qx.u s) 0 0), s.f, (Q.up s.c (i.imm).toNat (Qx.a s i)), (Qx.t s), s.du⟩ : Q.S) ++ [Value.int .i64 0, Value.int .u32 0]).toArray (by kernel_rfl) w) (E.st 1 (Q.S.cells (⟨(Qx.p s), (Q.up (Qx.u s) 0 0), s.f, (Q.up s.c (i.imm).toNat (Qx.a s i)), (Qx.t s), s.du⟩) ++ [E.i 0, E.u 0]) rfl rfl (E.To.code (E.C.ret (E.To.body (fn := Tryz.f18) [Q.out (⟨(Qx.p s), (Q.up (Qx.u s) 0 0), s.f, (Q.up s.c (i.imm).toNat (Qx.a s i)), (Qx.t s), s.du⟩ : Q.S) 0 0] ?_ ?_)))))))
  · exact ⟨⟨by kernel_rfl, _, _, 1, _, rfl, rfl, by kernel_rfl⟩, trivial⟩
  intro w h
  have e : (Q6.stepI i k t s V) = (⟨(Qx.p s), (Q.up (Qx.u s) 0 0), s.f, (Q.up s.c (i.imm).toNat (Qx.a s i)), (Qx.t s), s.du⟩, 0, 0, V) := by unfold Q6.stepI; rw [hc4, cond_false, hc11, cond_false, hc12, cond_false, hc15, cond_false, hc22, cond_false, hc28, cond_false, hc31, cond_false, hc33, cond_false, hc34, cond_false, hc35, cond_false, hc36, cond_false, hc37, cond_false, hc38, cond_false, hc39, cond_false, hc42, cond_false, hc45, cond_false, hc49, cond_true] <;> rfl
  rw [e]
  exact ⟨(), trivial, rfl, A.dq [2] [0, 1] h⟩
 refine E.C.skip (E.P.nb (E.To.code (E.sr (E.op (.pointer (some ⟨g6, 1, none⟩)) (E.op (.pointer (some ⟨g6, 1, none⟩)) (E.st 0 (Q.S.cells (⟨s.pc, (Q.up (Qx.u s) 0 0), s.f, s.c, s.st, s.du⟩)) rfl rfl (E.tr (E.op (E.u (Qx.p s)) (E.op (E.pt g6) (E.st 0 (Q.S.cells (⟨(Qx.p s), (Q.up (Qx.u s) 0 0), s.f, s.c, s.st, s.du⟩)) rfl rfl (E.To.code (E.wk [(4, E.pt g2), (7, E.pt g6)] [(g6, (Q.S.cells (⟨(Qx.p s), (Q.up (Qx.u s) 0 0), s.f, s.c, s.st, s.du⟩))), (g2, (Q.S.cells Q.z0 ++ [E.i 0, E.u 0]))] Nz.sub (E.sr ?_)))))))))))))
 refine E.op (.pointer (some ⟨g6, 22, none⟩)) (E.li (E.i s.st) 0 rfl rfl (E.op (E.i (Qx.t s)) (E.op (.pointer (some ⟨g6, 22, none⟩)) (E.st 0 (Q.S.cells (⟨(Qx.p s), (Q.up (Qx.u s) 0 0), s.f, s.c, (Qx.t s), s.du⟩)) rfl rfl (E.tr (E.li (Q.S.val (⟨(Qx.p s), (Q.up (Qx.u s) 0 0), s.f, s.c, (Qx.t s), s.du⟩)) 0 rfl rfl (E.vl (Q.out (⟨(Qx.p s), (Q.up (Qx.u s) 0 0), s.f, s.c, (Qx.t s), s.du⟩ : Q.S) 0 0) (fun w h => E.run_build (Q.S.cells (⟨(Qx.p s), (Q.up (Qx.u s) 0 0), s.f, s.c, (Qx.t s), s.du⟩ : Q.S) ++ [Value.int .i64 0, Value.int .u32 0]).toArray (by kernel_rfl) w) (E.st 1 (Q.S.cells (⟨(Qx.p s), (Q.up (Qx.u s) 0 0), s.f, s.c, (Qx.t s), s.du⟩) ++ [E.i 0, E.u 0]) rfl rfl (E.To.code (E.C.ret (E.To.body (fn := Tryz.f18) [Q.out (⟨(Qx.p s), (Q.up (Qx.u s) 0 0), s.f, s.c, (Qx.t s), s.du⟩ : Q.S) 0 0] ?_ ?_)))))))))))
 · exact ⟨⟨by kernel_rfl, _, _, 1, _, rfl, rfl, by kernel_rfl⟩, trivial⟩
 intro w h
 have e : (Q6.stepI i k t s V) = (⟨(Qx.p s), (Q.up (Qx.u s) 0 0), s.f, s.c, (Qx.t s), s.du⟩, 0, 0, V) := by unfold Q6.stepI; rw [hc4, cond_false, hc11, cond_false, hc12, cond_false, hc15, cond_false, hc22, cond_false, hc28, cond_false, hc31, cond_false, hc33, cond_false, hc34, cond_false, hc35, cond_false, hc36, cond_false, hc37, cond_false, hc38, cond_false, hc39, cond_false, hc42, cond_false, hc45, cond_false, hc49, cond_false] <;> rfl
 rw [e]
 exact ⟨(), trivial, rfl, A.dq [2] [0, 1] h⟩
end Go.Proofs.YtgbndbljohpnmaaGreat

/- XQab -/
namespace Go.Proofs.YtgbndbljohpnmaaGreat
set_option linter.unusedVariables false
set_option linter.unusedSimpArgs false
open Go.RowKit
theorem A.C.drop {P : Program} {n : Nat} {Q : Exit → Act → World → Prop} {w0 : World} {o0 a0 : Nat → Prop} {its : List A.It} {L : List (Nat × List Value)} {fr : E.Fr} {c : Code} (l r : List A.It) (hp : its.Perm (l ++ r)) (k : E.C P n Q c fr o0 w0 (A.X w0 o0 a0 l) L) : E.C P n Q c fr o0 w0 (A.X w0 o0 a0 its) L :=
  fun a w h1 h2 => k a w h1 (h2.monoX fun w ⟨hs, o, a, hh, hg⟩ => by
    obtain ⟨o1, a1, o2, a2, k1, k2, _, _, ho, ha⟩ := (hh.perm hp).append
    exact ⟨hs, o1, a1, k1, fun x hx hk => hg.1 x hx ((ho x).2 (.inl hk)), fun x hx hk => hg.2 x hx ((ha x).2 (.inl hk))⟩)
theorem Q.b01_1 (b : Bool) : (W.b01 b == 1) = b := by cases b <;> rfl
theorem Q.taken_eq {j : Nat} (hj : j < 6) (a b : Int) : Q.taken (32 + ((j : Nat) : Int)) a b = Q6.taken (32 + ((j : Nat) : Int)) a b := by
  have e14 : W.op 14 a b = W.b01 (decide (a < b)) := rfl
  have e15 : W.op 15 a b = W.b01 (decide (W.sg a < W.sg b)) := rfl
  rcases (by omega : j = 0 ∨ j = 1 ∨ j = 2 ∨ j = 3 ∨ j = 4 ∨ j = 5) with rfl | rfl | rfl | rfl | rfl | rfl
  · rfl
  · rfl
  · show (W.op 14 a b == 1) = decide (a < b)
    rw [e14, Q.b01_1]
  · show (!(W.op 14 a b == 1)) = decide (a ≥ b)
    rw [e14, Q.b01_1]; by_cases h : a < b
    · rw [decide_eq_true h, decide_eq_false (by omega)]; rfl
    · rw [decide_eq_false h, decide_eq_true (by omega)]; rfl
  · rfl
  · show (!(W.op 15 a b == 1)) = (W.op 15 a b == 0)
    rw [e15]; cases decide (W.sg a < W.sg b) <;> rfl
end Go.Proofs.YtgbndbljohpnmaaGreat

/- XQbe -/
namespace Go.Proofs.YtgbndbljohpnmaaGreat
set_option linter.unusedVariables false
set_option linter.unusedSimpArgs false
open Go.RowKit
theorem Q.and_not3 {x : Int} (hx : 0 ≤ x ∧ x < 4294967296) : bits .andNot .u32 x 3 = x / 4 * 4 := by
  obtain ⟨A, rfl⟩ := Int.eq_ofNat_of_zero_le hx.1
  have hA : A < 4294967296 := by omega
  have e : bits .andNot .u32 ((A : Nat) : Int) 3 = (((BitVec.ofNat 32 A &&& ~~~(3#32)).toNat : Nat) : Int) % 4294967296 := by
    have h1 : BitVec.ofInt 32 ((A : Nat) : Int) = BitVec.ofNat 32 A := by
      apply BitVec.eq_of_toNat_eq; simp
    show IntKind.wrap .u32 (((BitVec.ofInt 32 ((A : Nat) : Int) &&& ~~~(BitVec.ofInt 32 3)).toNat : Nat) : Int) = _
    rw [h1]; rfl
  have hb : BitVec.ofNat 32 A &&& ~~~(3#32) = (BitVec.ofNat 32 A >>> 2) <<< 2 := by
    apply BitVec.eq_of_getLsbD_eq
    intro i hi
    have h3 : ∀ j : Fin 32, (~~~(3#32)).getLsbD j.val = decide (2 ≤ j.val) := by decide
    rw [BitVec.getLsbD_and, h3 ⟨i, hi⟩, BitVec.getLsbD_shiftLeft, BitVec.getLsbD_ushiftRight]
    by_cases k : 2 ≤ i
    · have e1 : 2 + (i - 2) = i := by omega
      have e2 : ¬ i < 2 := by omega
      simp [k, e1, e2, hi]
    · have e2 : i < 2 := by omega
      simp [k, e2]
  have hn : ((BitVec.ofNat 32 A >>> 2) <<< 2).toNat = A / 4 * 4 := by
    rw [BitVec.toNat_shiftLeft, BitVec.toNat_ushiftRight, BitVec.toNat_ofNat, Nat.mod_eq_of_lt (by omega), Nat.shiftRight_eq_div_pow, Nat.shiftLeft_eq]
    rw [Nat.mod_eq_of_lt (by omega)]
  rw [e, hb, hn]; omega
theorem Q.div4 {x : Int} (hx : 0 ≤ x ∧ x < 4294967296) : IntKind.wrap .u32 ((IntKind.wrap .u32 (Int.tdiv x 4)) * 4) = bits .andNot .u32 x 3 := by
  rw [Q.and_not3 hx, Int.tdiv_eq_ediv_of_nonneg hx.1, Q.wr, Q.wr]; omega
theorem Q.ops39 {x : Int} (h : (Q3.of x).is = true) : x = 1 ∨ x = 2 ∨ x = 3 ∨ x = 4 ∨ x = 5 ∨ x = 6 ∨ x = 7 ∨ x = 8 ∨ x = 9 ∨ x = 10 ∨ x = 11 ∨ x = 12 ∨ x = 16 ∨ x = 17 ∨ x = 18 ∨ x = 19 ∨ x = 20 ∨ x = 21 ∨ x = 22 ∨ x = 23 ∨ x = 24 ∨ x = 25 ∨ x = 26 ∨ x = 27 ∨ x = 32 ∨ x = 33 ∨ x = 34 ∨ x = 35 ∨ x = 36 ∨ x = 37 ∨ x = 40 ∨ x = 41 ∨ x = 48 ∨ x = 49 ∨ x = 50 ∨ x = 51 ∨ x = 52 ∨ x = 53 ∨ x = 54 := by
  have hr := Q3.op_rng h
  obtain ⟨n, rfl⟩ := Int.eq_ofNat_of_zero_le hr.1
  have tab : ∀ k : Fin 64, (Q3.of ((k.val : Nat) : Int)).is = true → (1 ≤ k.val ∧ k.val ≤ 12) ∨ (16 ≤ k.val ∧ k.val ≤ 27) ∨ (32 ≤ k.val ∧ k.val ≤ 37) ∨ k.val = 40 ∨ k.val = 41 ∨ (48 ≤ k.val ∧ k.val ≤ 54) := by decide +kernel
  have := tab ⟨n, by omega⟩ h
  simp only at this
  omega
theorem Q6.st_ld {o n d a b m t : Int} {s : Q.S} {V : M.V} (h : (o = 23 ∧ n = 4) ∨ (o = 24 ∧ n = 1)) : Q6.stepI ⟨o, d, a, b, m⟩ 0 t s V = Q.stepI ⟨o, d, a, b, m⟩ 0 t s V := by
  have key : ∀ r : Int × Int × Bool, ((bif (!r.2.2) then (s, 5, r.2.1, V) else (⟨IntKind.wrap .u32 (s.pc + 4), Q.up (Q.up (Q.up s.r 0 0) d.toNat r.1) 0 0, s.f, s.c, IntKind.wrap .i64 (s.st + 1), s.du⟩, 0, 0, V)) : Q.S × Int × Int × M.V) = (bif ((Q.flt r.2.1 r.2.2).1 != 0) then (s, (Q.flt r.2.1 r.2.2).1, (Q.flt r.2.1 r.2.2).2, V) else (⟨IntKind.wrap .u32 (s.pc + 4), Q.up (Q.up (Q.up s.r 0 0) d.toNat r.1) 0 0, s.f, s.c, IntKind.wrap .i64 (s.st + 1), s.du⟩, (Q.flt r.2.1 r.2.2).1, (Q.flt r.2.1 r.2.2).2, V)) := by
    rintro ⟨v, e, ok⟩
    cases ok <;> rfl
  rcases h with ⟨rfl, rfl⟩ | ⟨rfl, rfl⟩
  · exact key (V.load (IntKind.wrap .u32 (Q.up s.r 0 0 a.toNat + m)).toNat 4)
  · exact key (V.load (IntKind.wrap .u32 (Q.up s.r 0 0 a.toNat + m)).toNat 1)
theorem Q6.st_st {o n d a b m t : Int} {s : Q.S} {V : M.V} (h : (o = 25 ∧ n = 4) ∨ (o = 26 ∧ n = 1)) : Q6.stepI ⟨o, d, a, b, m⟩ 0 t s V = Q.stepI ⟨o, d, a, b, m⟩ 0 t s V := by
  have key : ∀ (W : M.V) (r : Int × Bool), ((bif (!r.2) then (s, 5, r.1, W) else (⟨IntKind.wrap .u32 (s.pc + 4), Q.up (Q.up s.r 0 0) 0 0, s.f, s.c, IntKind.wrap .i64 (s.st + 1), s.du⟩, 0, 0, W)) : Q.S × Int × Int × M.V) = (bif ((Q.flt r.1 r.2).1 != 0) then (s, (Q.flt r.1 r.2).1, (Q.flt r.1 r.2).2, W) else (⟨IntKind.wrap .u32 (s.pc + 4), Q.up (Q.up s.r 0 0) 0 0, s.f, s.c, IntKind.wrap .i64 (s.st + 1), s.du⟩, (Q.flt r.1 r.2).1, (Q.flt r.1 r.2).2, W)) := by
    rintro W ⟨e, ok⟩
    cases ok <;> rfl
  rcases h with ⟨rfl, rfl⟩ | ⟨rfl, rfl⟩
  · exact key (V.sto (IntKind.wrap .u32 (Q.up s.r 0 0 a.toNat + m)).toNat 4 (Q.up s.r 0 0 d.toNat)) (V.chk (IntKind.wrap .u32 (Q.up s.r 0 0 a.toNat + m)).toNat 2 4)
  · exact key (V.sto (IntKind.wrap .u32 (Q.up s.r 0 0 a.toNat + m)).toNat 1 (Q.up s.r 0 0 d.toNat)) (V.chk (IntKind.wrap .u32 (Q.up s.r 0 0 a.toNat + m)).toNat 2 1)
theorem Q6.st_br {j : Nat} (hj : j < 6) {d a b m t : Int} {s : Q.S} {V : M.V} : Q6.stepI ⟨32 + ((j : Nat) : Int), d, a, b, m⟩ 0 t s V = Q.stepI ⟨32 + ((j : Nat) : Int), d, a, b, m⟩ 0 t s V := by
  have key := congrArg (fun c : Bool => ((bif c then (⟨IntKind.wrap .u32 (s.pc + IntKind.wrap .u32 (4 * m)), Q.up (Q.up s.r 0 0) 0 0, s.f, s.c, IntKind.wrap .i64 (s.st + 1), s.du⟩, 0, 0, V) else (⟨IntKind.wrap .u32 (s.pc + 4), Q.up (Q.up s.r 0 0) 0 0, s.f, s.c, IntKind.wrap .i64 (s.st + 1), s.du⟩, 0, 0, V)) : Q.S × Int × Int × M.V)) (Q.taken_eq hj (Q.up s.r 0 0 d.toNat) (Q.up s.r 0 0 a.toNat)).symm
  rcases (by omega : j = 0 ∨ j = 1 ∨ j = 2 ∨ j = 3 ∨ j = 4 ∨ j = 5) with rfl | rfl | rfl | rfl | rfl | rfl <;> exact key
theorem Q6.st_sc {d a b m t : Int} (hm : 0 ≤ m) {s : Q.S} {V : M.V} : Q6.stepI ⟨54, d, a, b, m⟩ 0 t s V = Q.stepI ⟨54, d, a, b, m⟩ 0 t s V := by
  by_cases h4 : m = 4
  · subst h4
    have key : ∀ v : Int, ((bif (v != 0) then (⟨IntKind.wrap .u32 (s.pc + 4), Q.up (Q.up s.r 0 0) 0 0, s.f, s.c, IntKind.wrap .i64 (s.st + 1), IntKind.wrap .i64 (IntKind.wrap .i64 (s.st + 1) + IntKind.wrap .i64 v)⟩, 0, 0, V) else (⟨IntKind.wrap .u32 (s.pc + 4), Q.up (Q.up s.r 0 0) 0 0, s.f, s.c, IntKind.wrap .i64 (s.st + 1), 0⟩, 0, 0, V)) : Q.S × Int × Int × M.V) = (⟨IntKind.wrap .u32 (s.pc + 4), Q.up (Q.ctl ⟨s.pc, Q.up s.r 0 0, s.f, s.c, s.st, s.du⟩ 4 v).r 0 0, (Q.ctl ⟨s.pc, Q.up s.r 0 0, s.f, s.c, s.st, s.du⟩ 4 v).f, (Q.ctl ⟨s.pc, Q.up s.r 0 0, s.f, s.c, s.st, s.du⟩ 4 v).c, IntKind.wrap .i64 ((Q.ctl ⟨s.pc, Q.up s.r 0 0, s.f, s.c, s.st, s.du⟩ 4 v).st + 1), (Q.ctl ⟨s.pc, Q.up s.r 0 0, s.f, s.c, s.st, s.du⟩ 4 v).du⟩, 0, 0, V) := fun v => by
      by_cases h : v = 0
      · subst h; rfl
      · have e1 : (v != 0) = true := by simpa using h
        have e2 : (v == 0) = false := by simpa using h
        unfold Q.ctl
        rw [e1, e2]; rfl
    exact key (Q.up s.r 0 0 a.toNat)
  · by_cases h2 : m < 2
    · rcases (by omega : m = 0 ∨ m = 1) with rfl | rfl <;> rfl
    · have e4 : (m == 4) = false := by simpa using h4
      have e2 : decide (m < 2) = false := by simpa using h2
      have e0 : (m == 0) = false := by simp; omega
      have e1 : (m == 1) = false := by simp; omega
      have key : ∀ v : Int, Q.ctl ⟨s.pc, Q.up s.r 0 0, s.f, s.c, s.st, s.du⟩ m v = ⟨s.pc, Q.up s.r 0 0, s.f, s.c, s.st, s.du⟩ := fun v => by
        unfold Q.ctl; rw [e4, e0, e1]; rfl
      have er : Q.stepI ⟨54, d, a, b, m⟩ 0 t s V = (fun C : Q.S => ((⟨IntKind.wrap .u32 (s.pc + 4), Q.up C.r 0 0, C.f, C.c, IntKind.wrap .i64 (C.st + 1), C.du⟩, 0, 0, V) : Q.S × Int × Int × M.V)) (Q.ctl ⟨s.pc, Q.up s.r 0 0, s.f, s.c, s.st, s.du⟩ m (Q.up s.r 0 0 a.toNat)) := rfl
      have el : ∀ b4 b2 : Bool, (m == 4) = b4 → decide (m < 2) = b2 → Q6.stepI ⟨54, d, a, b, m⟩ 0 t s V = (bif b4 then (bif ((Q.up s.r 0 0 a.toNat) != 0) then (⟨IntKind.wrap .u32 (s.pc + 4), Q.up (Q.up s.r 0 0) 0 0, s.f, s.c, IntKind.wrap .i64 (s.st + 1), IntKind.wrap .i64 (IntKind.wrap .i64 (s.st + 1) + IntKind.wrap .i64 (Q.up s.r 0 0 a.toNat))⟩, 0, 0, V) else (⟨IntKind.wrap .u32 (s.pc + 4), Q.up (Q.up s.r 0 0) 0 0, s.f, s.c, IntKind.wrap .i64 (s.st + 1), 0⟩, 0, 0, V)) else bif b2 then (⟨IntKind.wrap .u32 (s.pc + 4), Q.up (Q.up s.r 0 0) 0 0, s.f, Q.up s.c m.toNat (Q.up s.r 0 0 a.toNat), IntKind.wrap .i64 (s.st + 1), s.du⟩, 0, 0, V) else (⟨IntKind.wrap .u32 (s.pc + 4), Q.up (Q.up s.r 0 0) 0 0, s.f, s.c, IntKind.wrap .i64 (s.st + 1), s.du⟩, 0, 0, V)) := fun b4 b2 h1 h2 => by
        subst h1; subst h2; rfl
      rw [el _ _ e4 e2, er, key]; rfl
/-- Both do the same with an instruction. -/
theorem Q6.stepI_eq {i : Q.I} {k t : Int} {s : Q.S} {V : M.V} (hi : (k == 0) = true → Q.iok i) (hv : (k == 0) = true → (Q3.of i.op).is = true) (hs : Q.wf s) : Q6.stepI i k t s V = Q.stepI i k t s V := by
  cases hk : (k == 0) with
  | false =>
    have hk' : (k != 0) = true := by rw [bne, hk]; rfl
    unfold Q6.stepI Q.stepI
    rw [hk, hk']; rfl
  | true =>
    have k0 : k = 0 := by simpa using hk
    subst k0
    obtain ⟨_, hd, ha, hb, hm, hg⟩ := hi hk
    have h39 := Q.ops39 (hv hk)
    obtain ⟨o, d, a, b, m⟩ := i
    simp only at hd ha hb hm hg h39
    have hz : (0 : Int) ≤ 0 ∧ (0 : Int) < 4294967296 := by decide
    have hr0 : ∀ d, 0 ≤ Q.up s.r 0 0 d ∧ Q.up s.r 0 0 d < 4294967296 := Q.up_bd hs.r hz
    clear hi hv hk hg
    rcases h39 with rfl | rfl | rfl | rfl | rfl | rfl | rfl | rfl | rfl | rfl | rfl | rfl | rfl | rfl | rfl | rfl | rfl | rfl | rfl | rfl | rfl | rfl | rfl | rfl | rfl | rfl | rfl | rfl | rfl | rfl | rfl | rfl | rfl | rfl | rfl | rfl | rfl | rfl | rfl
    iterate 9 rfl
    · -- division
      have key : ∀ (z : Bool) (x y : Q.S × Int × Int × M.V), (bif z then x else y) = (bif z then x else y) := fun _ _ _ => rfl
      exact key (Q.up s.r 0 0 b.toNat == 0) (s, 6, 0, V) (⟨IntKind.wrap .u32 (s.pc + 4), Q.up (Q.up (Q.up s.r 0 0) d.toNat (W.op 12 (Q.up s.r 0 0 a.toNat) (Q.up s.r 0 0 b.toNat))) 0 0, s.f, s.c, IntKind.wrap .i64 (s.st + 1), s.du⟩, 0, 0, V)
    iterate 9 rfl
    · exact Q6.st_ld (n := 4) (.inl ⟨rfl, rfl⟩)
    · exact Q6.st_ld (n := 1) (.inr ⟨rfl, rfl⟩)
    · exact Q6.st_st (n := 4) (.inl ⟨rfl, rfl⟩)
    · exact Q6.st_st (n := 1) (.inr ⟨rfl, rfl⟩)
    · exact congrArg (fun p : Int => ((⟨p, Q.up (Q.up (Q.up s.r 0 0) d.toNat (IntKind.wrap .u32 (s.pc + 4))) 0 0, s.f, s.c, IntKind.wrap .i64 (s.st + 1), s.du⟩, 0, 0, V) : Q.S × Int × Int × M.V)) (Q.div4 (x := IntKind.wrap .u32 (Q.up s.r 0 0 a.toNat + m)) (Q.wrap_bd _))
    · exact Q6.st_br (j := 0) (by decide)
    · exact Q6.st_br (j := 1) (by decide)
    · exact Q6.st_br (j := 2) (by decide)
    · exact Q6.st_br (j := 3) (by decide)
    · exact Q6.st_br (j := 4) (by decide)
    · exact Q6.st_br (j := 5) (by decide)
    iterate 5 rfl
    · exact congrArg (fun p : Int => ((⟨p, Q.up (Q.up s.r 0 0) 0 0, s.f, s.c, IntKind.wrap .i64 (s.st + 1), s.du⟩, 0, 0, V) : Q.S × Int × Int × M.V)) (Q.div4 (x := s.c 1) (hs.c 1))
    · rfl
    · rfl
    · exact Q6.st_sc hm.1
end Go.Proofs.YtgbndbljohpnmaaGreat

/- XQbf -/
namespace Go.Proofs.YtgbndbljohpnmaaGreat
set_option linter.unusedVariables false
set_option linter.unusedSimpArgs false
open Go.RowKit
theorem Q.decode_is {x : Int} (hx : 0 ≤ x ∧ x < 4294967296) (h : ((Q.decode x).2 != 0) = false) : (Q3.of (Q.decode x).1.op).is = true := by
  rw [← Q3.decode_eq hx] at h ⊢
  unfold Q3.decode at h ⊢
  cases hb : ((((Q3.encode (Q3.can x)).2) != 0) || (((Q3.encode (Q3.can x)).1) != x)) with
  | true => rw [hb] at h; cases h
  | false =>
    have hv : Q3.valid (Q3.can x) = true := by
      cases hv : Q3.valid (Q3.can x) with
      | true => rfl
      | false => rw [Q3.enc_no hv] at hb; cases hb
    exact (Q3.valid_parts hv).1
theorem Q.fetch_is {V : M.V} (hw : R.Wf V) {p : Int} (h : ((Q.fetch V p).2.1 == 0) = true) : (Q3.of (Q.fetch V p).1.op).is = true := by
  have hb : 0 ≤ Q6.wd V p ∧ Q6.wd V p < 4294967296 := Q.wrap_bd _
  rw [Q6.wd_eq hw] at hb
  unfold Q.fetch at h ⊢
  revert h
  refine Q.bifP (p := fun x : Q.I × Int × Int => (x.2.1 == 0) = true → (Q3.of x.1.op).is = true) (fun _ h => absurd h (by decide : ¬ (((7 : Int) == 0) = true))) fun _ => ?_
  iterate 4 refine Q.bifP (p := fun x : Q.I × Int × Int => (x.2.1 == 0) = true → (Q3.of x.1.op).is = true) (fun _ h => absurd h (by decide : ¬ (((5 : Int) == 0) = true))) fun _ => ?_
  exact Q.bifP (p := fun x : Q.I × Int × Int => (x.2.1 == 0) = true → (Q3.of x.1.op).is = true) (fun _ h => absurd h (by decide : ¬ (((7 : Int) == 0) = true))) fun hd _ => Q.decode_is hb hd
theorem A.trAs {P : Program} {f : FuncId} {args : Array Value} {p : List A.It} {v v' : Value} {q q' : List A.It} (h : A.Tr P f args p (I := Unit) (fun _ => True) (fun _ => v) (fun _ => q)) (e : v = v') (e2 : q = q') : A.Tr P f args p (I := Unit) (fun _ => True) (fun _ => v') (fun _ => q') := e2 ▸ e ▸ h
theorem Step6_any {m : Nat} (s : Q.S) (V : M.V) (hs : Q.wf s) (hV : R.Wf V) : A.Tr Tryz.prog 18 #[Q.S.val s, .pointer (some ⟨m, 0, none⟩)] [R.It m V] (I := Unit) (fun _ => True) (fun _ => Q.out (Q.step s V).1 (Q.step s V).2.1 (Q.step s V).2.2.1) (fun _ => [R.It m (Q.step s V).2.2.2]) := by
  have h := Step6_i (m := m) (Q.fetch V s.pc).1 (Q.fetch V s.pc).2.1 (Q.fetch V s.pc).2.2 s V (Q6.fetch_eq hV _) Q.fetch_ok hs
  rw [Q6.stepI_eq Q.fetch_ok (Q.fetch_is hV) hs] at h
  exact h
end Go.Proofs.YtgbndbljohpnmaaGreat

/- XQbg -/
namespace Go.Proofs.YtgbndbljohpnmaaGreat
set_option linter.unusedVariables false
set_option linter.unusedSimpArgs false
open Go.RowKit
theorem Q6.tm64 {x : Int} (hx : 0 ≤ x ∧ x < 4294967296) : 0 ≤ Int.tmod x 64 ∧ Int.tmod x 64 < 4294967296 := by
  rw [Int.tmod_eq_emod_of_nonneg hx.1]; omega
def Q6.tame (i : Q.I) (k : Int) : Q.I := (bif ((k % 8) == 0) then i else (bif ((decide (i.op ≥ 23)) && (decide (i.op ≤ 26))) then ⟨i.op, i.d, (IntKind.wrap .i64 (1 + (k % 3))), i.b, (Int.tmod i.imm 64)⟩ else (bif ((decide (i.op ≥ 32)) && (decide (i.op ≤ 40))) then ⟨i.op, i.d, i.a, i.b, (IntKind.wrap .u32 (IntKind.wrap .i64 ((k % 7) - 2)))⟩ else (bif (i.op == 27) then ⟨i.op, i.d, 0, i.b, (IntKind.wrap .u32 (IntKind.wrap .i64 (256 + (IntKind.wrap .i64 (4 * (k % 32))))))⟩ else (bif (i.op == 52) then ⟨i.op, i.d, (IntKind.wrap .i64 (1 + (k % 3))), i.b, i.imm⟩ else (bif ((i.op == 54) && (i.imm == 4)) then ⟨i.op, i.d, 4, i.b, i.imm⟩ else i))))))
theorem Tame6_any (i : Q.I) (k : Int) (hk : -9223372036854775808 ≤ k ∧ k < 9223372036854775808) (w : World) : Calls Tryz.prog 68 #[.agg #[.int .i64 i.op, .int .i64 i.d, .int .i64 i.a, .int .i64 i.b, .int .u32 i.imm], .int .i64 k] w fun e w' => e = .returned (.agg #[.int .i64 ((Q6.tame i k).op), .int .i64 ((Q6.tame i k).d), .int .i64 ((Q6.tame i k).a), .int .i64 ((Q6.tame i k).b), .int .u32 ((Q6.tame i k).imm)]) ∧ Bel w w' := by
 refine E.enter (n := 70) (S := fun _ => False) Tryz.func68 rfl rfl (by kernel_rfl) (E.Hp.start w) (E.sr (E.G.new (fun g => E.pt g) [E.i i.op, E.i i.d, E.i i.a, E.i i.b, E.u i.imm] 71 (fun w => by kernel_rfl) (by kernel_rfl) (fun g1 => E.G.new (fun g => E.pt g) [E.i 0, E.i 0, E.i 0, E.i 0, E.u 0] 71 (fun w => by kernel_rfl) (by kernel_rfl) (fun g2 => E.To.code (E.C.seq (E.C.block (E.sr (E.op (E.i k) (E.G.call (E.i (k % 8)) (fun w h => Mod_any k 8 hk (by decide) w) (fun w _ => by kernel_rfl) (by kernel_rfl) (E.op (.bool ((k % 8) == 0)) (E.op (.bool ((k % 8) == 0)) ?_)))))))))))
 refine E.To.code (E.cd ((k % 8) == 0) (fun hc3 => ?_) (fun hc3 => ?_))
 ·
  refine E.C.skip (E.P.nb (E.To.code (E.sr (E.li (.agg #[E.i i.op, E.i i.d, E.i i.a, E.i i.b, E.u i.imm]) 1 rfl rfl (E.st 0 [E.i i.op, E.i i.d, E.i i.a, E.i i.b, E.u i.imm] rfl rfl (E.To.code (E.wk [(4, E.pt g2)] [(g2, [E.i i.op, E.i i.d, E.i i.a, E.i i.b, E.u i.imm])] Nz.sub (E.C.ret (E.To.body (fn := Tryz.f68) [.agg #[E.i i.op, E.i i.d, E.i i.a, E.i i.b, E.u i.imm]] ?_ ?_)))))))))
  · exact ⟨⟨by kernel_rfl, _, _, 0, _, rfl, rfl, by kernel_rfl⟩, trivial⟩
  intro w h
  exact ⟨by show Ending.returned (.agg #[.int .i64 i.op, .int .i64 i.d, .int .i64 i.a, .int .i64 i.b, .int .u32 i.imm]) = _; unfold Q6.tame; rw [hc3, cond_true] <;> rfl, h.ch.bel (fun _ h => h.elim)⟩
 refine E.sr (E.op (E.pt g1) (E.li (E.i i.op) 1 rfl rfl (E.op (.bool (decide (i.op ≥ 23))) (E.op (.bool (decide (i.op ≥ 23))) (E.G.cut 4 [(1, E.i k), (2, E.pt g1), (4, E.pt g2), (17, .bool ((decide (i.op ≥ 23)) && (decide (i.op ≤ 26))))] (fun _ => True) [(g2, [E.i 0, E.i 0, E.i 0, E.i 0, E.u 0]), (g1, [E.i i.op, E.i i.d, E.i i.a, E.i i.b, E.u i.imm])] ?_ ?_)))))
 ·
  generalize hc4 : (decide (i.op ≥ 23)) = b5
  cases b5
  ·
   exact E.sk (E.sk (E.sk (E.op (.bool false) (E.G.end_pst ⟨by kernel_rfl, by kernel_rfl⟩ Nz.sub (fun _ h => h)))))
  exact E.op (E.pt g1) (E.li (E.i i.op) 1 rfl rfl (E.op (.bool (decide (i.op ≤ 26))) (E.op (.bool (decide (i.op ≤ 26))) (E.G.end_pst ⟨by kernel_rfl, by kernel_rfl⟩ Nz.sub (fun _ h => h)))))
 refine E.op (.bool ((decide (i.op ≥ 23)) && (decide (i.op ≤ 26)))) (E.To.code (E.cd ((decide (i.op ≥ 23)) && (decide (i.op ≤ 26))) (fun hc6 => ?_) (fun hc6 => ?_)))
 ·
  refine E.sr (E.op (E.i k) (E.G.call (E.i (k % 3)) (fun w h => Mod_any k 3 hk (by decide) w) (fun w _ => by kernel_rfl) (by kernel_rfl) (E.op (E.i (IntKind.wrap .i64 (1 + (k % 3)))) (E.op (.pointer (some ⟨g1, 2, none⟩)) (E.st 1 [E.i i.op, E.i i.d, E.i (IntKind.wrap .i64 (1 + (k % 3))), E.i i.b, E.u i.imm] rfl rfl (E.ur (E.op (.pointer (some ⟨g1, 4, none⟩)) (E.li (E.u i.imm) 1 rfl rfl (E.op (E.u (Int.tmod i.imm 64)) (E.op (.pointer (some ⟨g1, 4, none⟩)) (E.st 1 [E.i i.op, E.i i.d, E.i (IntKind.wrap .i64 (1 + (k % 3))), E.i i.b, E.u (Int.tmod i.imm 64)] rfl rfl ?_)))))))))))
  refine E.P.nb (E.To.code (E.wk [(2, E.pt g1), (4, E.pt g2)] [(g2, [E.i 0, E.i 0, E.i 0, E.i 0, E.u 0]), (g1, [E.i i.op, E.i i.d, E.i (IntKind.wrap .i64 (1 + (k % 3))), E.i i.b, E.u (Int.tmod i.imm 64)])] Nz.sub (E.sr (E.li (.agg #[E.i i.op, E.i i.d, E.i (IntKind.wrap .i64 (1 + (k % 3))), E.i i.b, E.u (Int.tmod i.imm 64)]) 1 rfl rfl (E.st 0 [E.i i.op, E.i i.d, E.i (IntKind.wrap .i64 (1 + (k % 3))), E.i i.b, E.u (Int.tmod i.imm 64)] rfl rfl (E.To.code (E.C.ret (E.To.body (fn := Tryz.f68) [.agg #[E.i i.op, E.i i.d, E.i (IntKind.wrap .i64 (1 + (k % 3))), E.i i.b, E.u (Int.tmod i.imm 64)]] ?_ ?_))))))))
  · exact ⟨⟨by kernel_rfl, _, _, 0, _, rfl, rfl, by kernel_rfl⟩, trivial⟩
  intro w h
  exact ⟨by show Ending.returned (.agg #[.int .i64 i.op, .int .i64 i.d, .int .i64 (IntKind.wrap .i64 (1 + (k % 3))), .int .i64 i.b, .int .u32 (Int.tmod i.imm 64)]) = _; unfold Q6.tame; rw [hc3, cond_false, hc6, cond_true] <;> rfl, h.ch.bel (fun _ h => h.elim)⟩
 refine E.sr (E.op (E.pt g1) (E.li (E.i i.op) 1 rfl rfl (E.op (.bool (decide (i.op ≥ 32))) (E.op (.bool (decide (i.op ≥ 32))) (E.G.cut 4 [(1, E.i k), (2, E.pt g1), (4, E.pt g2), (34, .bool ((decide (i.op ≥ 32)) && (decide (i.op ≤ 40))))] (fun _ => True) [(g2, [E.i 0, E.i 0, E.i 0, E.i 0, E.u 0]), (g1, [E.i i.op, E.i i.d, E.i i.a, E.i i.b, E.u i.imm])] ?_ ?_)))))
 ·
  generalize hc7 : (decide (i.op ≥ 32)) = b8
  cases b8
  ·
   exact E.sk (E.sk (E.sk (E.op (.bool false) (E.G.end_pst ⟨by kernel_rfl, by kernel_rfl⟩ Nz.sub (fun _ h => h)))))
  exact E.op (E.pt g1) (E.li (E.i i.op) 1 rfl rfl (E.op (.bool (decide (i.op ≤ 40))) (E.op (.bool (decide (i.op ≤ 40))) (E.G.end_pst ⟨by kernel_rfl, by kernel_rfl⟩ Nz.sub (fun _ h => h)))))
 refine E.op (.bool ((decide (i.op ≥ 32)) && (decide (i.op ≤ 40)))) (E.To.code (E.cd ((decide (i.op ≥ 32)) && (decide (i.op ≤ 40))) (fun hc9 => ?_) (fun hc9 => ?_)))
 ·
  refine E.C.region (E.op (E.i k) (E.G.call (E.i (k % 7)) (fun w h => Mod_any k 7 hk (by decide) w) (fun w _ => by kernel_rfl) (by kernel_rfl) (E.op (E.i (IntKind.wrap .i64 ((k % 7) - 2))) (E.op (E.u (IntKind.wrap .u32 (IntKind.wrap .i64 ((k % 7) - 2)))) (E.op (.pointer (some ⟨g1, 4, none⟩)) (E.st 1 [E.i i.op, E.i i.d, E.i i.a, E.i i.b, E.u (IntKind.wrap .u32 (IntKind.wrap .i64 ((k % 7) - 2)))] rfl rfl (E.P.nb (E.To.code (E.wk [(2, E.pt g1), (4, E.pt g2)] [(g2, [E.i 0, E.i 0, E.i 0, E.i 0, E.u 0]), (g1, [E.i i.op, E.i i.d, E.i i.a, E.i i.b, E.u (IntKind.wrap .u32 (IntKind.wrap .i64 ((k % 7) - 2)))])] Nz.sub (E.sr (E.li (.agg #[E.i i.op, E.i i.d, E.i i.a, E.i i.b, E.u (IntKind.wrap .u32 (IntKind.wrap .i64 ((k % 7) - 2)))]) 1 rfl rfl (E.st 0 [E.i i.op, E.i i.d, E.i i.a, E.i i.b, E.u (IntKind.wrap .u32 (IntKind.wrap .i64 ((k % 7) - 2)))] rfl rfl ?_))))))))))))
  refine E.To.code (E.C.ret (E.To.body (fn := Tryz.f68) [.agg #[E.i i.op, E.i i.d, E.i i.a, E.i i.b, E.u (IntKind.wrap .u32 (IntKind.wrap .i64 ((k % 7) - 2)))]] ?_ ?_))
  · exact ⟨⟨by kernel_rfl, _, _, 0, _, rfl, rfl, by kernel_rfl⟩, trivial⟩
  intro w h
  exact ⟨by show Ending.returned (.agg #[.int .i64 i.op, .int .i64 i.d, .int .i64 i.a, .int .i64 i.b, .int .u32 (IntKind.wrap .u32 (IntKind.wrap .i64 ((k % 7) - 2)))]) = _; unfold Q6.tame; rw [hc3, cond_false, hc6, cond_false, hc9, cond_true] <;> rfl, h.ch.bel (fun _ h => h.elim)⟩
 refine E.sr (E.op (E.pt g1) (E.li (E.i i.op) 1 rfl rfl (E.op (.bool (i.op == 27)) (E.op (.bool (i.op == 27)) (E.To.code (E.cd (i.op == 27) (fun hc10 => ?_) (fun hc10 => ?_)))))))
 ·
  refine E.sr (E.op (.pointer (some ⟨g1, 2, none⟩)) (E.st 1 [E.i i.op, E.i i.d, E.i 0, E.i i.b, E.u i.imm] rfl rfl (E.ur (E.op (E.i k) (E.G.call (E.i (k % 32)) (fun w h => Mod_any k 32 hk (by decide) w) (fun w _ => by kernel_rfl) (by kernel_rfl) (E.op (E.i (IntKind.wrap .i64 (4 * (k % 32)))) (E.op (E.i (IntKind.wrap .i64 (256 + (IntKind.wrap .i64 (4 * (k % 32)))))) (E.op (E.u (IntKind.wrap .u32 (IntKind.wrap .i64 (256 + (IntKind.wrap .i64 (4 * (k % 32))))))) (E.op (.pointer (some ⟨g1, 4, none⟩)) (E.st 1 [E.i i.op, E.i i.d, E.i 0, E.i i.b, E.u (IntKind.wrap .u32 (IntKind.wrap .i64 (256 + (IntKind.wrap .i64 (4 * (k % 32))))))] rfl rfl (E.P.nb (E.To.code ?_))))))))))))
  refine E.wk [(2, E.pt g1), (4, E.pt g2)] [(g2, [E.i 0, E.i 0, E.i 0, E.i 0, E.u 0]), (g1, [E.i i.op, E.i i.d, E.i 0, E.i i.b, E.u (IntKind.wrap .u32 (IntKind.wrap .i64 (256 + (IntKind.wrap .i64 (4 * (k % 32))))))])] Nz.sub (E.sr (E.li (.agg #[E.i i.op, E.i i.d, E.i 0, E.i i.b, E.u (IntKind.wrap .u32 (IntKind.wrap .i64 (256 + (IntKind.wrap .i64 (4 * (k % 32))))))]) 1 rfl rfl (E.st 0 [E.i i.op, E.i i.d, E.i 0, E.i i.b, E.u (IntKind.wrap .u32 (IntKind.wrap .i64 (256 + (IntKind.wrap .i64 (4 * (k % 32))))))] rfl rfl (E.To.code (E.C.ret (E.To.body (fn := Tryz.f68) [.agg #[E.i i.op, E.i i.d, E.i 0, E.i i.b, E.u (IntKind.wrap .u32 (IntKind.wrap .i64 (256 + (IntKind.wrap .i64 (4 * (k % 32))))))]] ?_ ?_))))))
  · exact ⟨⟨by kernel_rfl, _, _, 0, _, rfl, rfl, by kernel_rfl⟩, trivial⟩
  intro w h
  exact ⟨by show Ending.returned (.agg #[.int .i64 i.op, .int .i64 i.d, .int .i64 0, .int .i64 i.b, .int .u32 (IntKind.wrap .u32 (IntKind.wrap .i64 (256 + (IntKind.wrap .i64 (4 * (k % 32))))))]) = _; unfold Q6.tame; rw [hc3, cond_false, hc6, cond_false, hc9, cond_false, hc10, cond_true] <;> rfl, h.ch.bel (fun _ h => h.elim)⟩
 refine E.sr (E.op (E.pt g1) (E.li (E.i i.op) 1 rfl rfl (E.op (.bool (i.op == 52)) (E.op (.bool (i.op == 52)) (E.To.code (E.wk [(1, E.i k), (2, E.pt g1), (4, E.pt g2), (51, .bool (i.op == 52))] [(g2, [E.i 0, E.i 0, E.i 0, E.i 0, E.u 0]), (g1, [E.i i.op, E.i i.d, E.i i.a, E.i i.b, E.u i.imm])] Nz.sub (E.cd (i.op == 52) (fun hc11 => ?_) (fun hc11 => ?_))))))))
 ·
  refine E.C.region (E.op (E.i k) (E.G.call (E.i (k % 3)) (fun w h => Mod_any k 3 hk (by decide) w) (fun w _ => by kernel_rfl) (by kernel_rfl) (E.op (E.i (IntKind.wrap .i64 (1 + (k % 3)))) (E.op (.pointer (some ⟨g1, 2, none⟩)) (E.st 1 [E.i i.op, E.i i.d, E.i (IntKind.wrap .i64 (1 + (k % 3))), E.i i.b, E.u i.imm] rfl rfl (E.P.nb (E.To.code (E.sr (E.li (.agg #[E.i i.op, E.i i.d, E.i (IntKind.wrap .i64 (1 + (k % 3))), E.i i.b, E.u i.imm]) 1 rfl rfl (E.st 0 [E.i i.op, E.i i.d, E.i (IntKind.wrap .i64 (1 + (k % 3))), E.i i.b, E.u i.imm] rfl rfl (E.To.code (E.wk [(4, E.pt g2)] [(g2, [E.i i.op, E.i i.d, E.i (IntKind.wrap .i64 (1 + (k % 3))), E.i i.b, E.u i.imm])] Nz.sub ?_))))))))))))
  refine E.C.ret (E.To.body (fn := Tryz.f68) [.agg #[E.i i.op, E.i i.d, E.i (IntKind.wrap .i64 (1 + (k % 3))), E.i i.b, E.u i.imm]] ?_ ?_)
  · exact ⟨⟨by kernel_rfl, _, _, 0, _, rfl, rfl, by kernel_rfl⟩, trivial⟩
  intro w h
  exact ⟨by show Ending.returned (.agg #[.int .i64 i.op, .int .i64 i.d, .int .i64 (IntKind.wrap .i64 (1 + (k % 3))), .int .i64 i.b, .int .u32 i.imm]) = _; unfold Q6.tame; rw [hc3, cond_false, hc6, cond_false, hc9, cond_false, hc10, cond_false, hc11, cond_true] <;> rfl, h.ch.bel (fun _ h => h.elim)⟩
 refine E.sr (E.op (E.pt g1) (E.li (E.i i.op) 1 rfl rfl (E.op (.bool (i.op == 54)) (E.op (.bool (i.op == 54)) (E.G.cut 4 [(2, E.pt g1), (4, E.pt g2), (67, .bool ((i.op == 54) && (i.imm == 4)))] (fun _ => True) [(g2, [E.i 0, E.i 0, E.i 0, E.i 0, E.u 0]), (g1, [E.i i.op, E.i i.d, E.i i.a, E.i i.b, E.u i.imm])] ?_ ?_)))))
 ·
  generalize hc12 : (i.op == 54) = b13
  cases b13
  ·
   exact E.sk (E.sk (E.sk (E.op (.bool false) (E.G.end_pst ⟨by kernel_rfl, by kernel_rfl⟩ Nz.sub (fun _ h => h)))))
  exact E.op (.pointer (some ⟨g1, 4, none⟩)) (E.li (E.u i.imm) 1 rfl rfl (E.op (.bool (i.imm == 4)) (E.op (.bool (i.imm == 4)) (E.G.end_pst ⟨by kernel_rfl, by kernel_rfl⟩ Nz.sub (fun _ h => h)))))
 refine E.op (.bool ((i.op == 54) && (i.imm == 4))) (E.To.code (E.cd ((i.op == 54) && (i.imm == 4)) (fun hc14 => ?_) (fun hc14 => ?_)))
 ·
  refine E.C.region (E.op (.pointer (some ⟨g1, 2, none⟩)) (E.st 1 [E.i i.op, E.i i.d, E.i 4, E.i i.b, E.u i.imm] rfl rfl (E.P.nb (E.To.code (E.sr (E.li (.agg #[E.i i.op, E.i i.d, E.i 4, E.i i.b, E.u i.imm]) 1 rfl rfl (E.st 0 [E.i i.op, E.i i.d, E.i 4, E.i i.b, E.u i.imm] rfl rfl (E.To.code (E.C.ret (E.To.body (fn := Tryz.f68) [.agg #[E.i i.op, E.i i.d, E.i 4, E.i i.b, E.u i.imm]] ?_ ?_))))))))))
  · exact ⟨⟨by kernel_rfl, _, _, 0, _, rfl, rfl, by kernel_rfl⟩, trivial⟩
  intro w h
  exact ⟨by show Ending.returned (.agg #[.int .i64 i.op, .int .i64 i.d, .int .i64 4, .int .i64 i.b, .int .u32 i.imm]) = _; unfold Q6.tame; rw [hc3, cond_false, hc6, cond_false, hc9, cond_false, hc10, cond_false, hc11, cond_false, hc14, cond_true] <;> rfl, h.ch.bel (fun _ h => h.elim)⟩
 refine E.C.skip (E.P.nb (E.To.code (E.sr (E.li (.agg #[E.i i.op, E.i i.d, E.i i.a, E.i i.b, E.u i.imm]) 1 rfl rfl (E.st 0 [E.i i.op, E.i i.d, E.i i.a, E.i i.b, E.u i.imm] rfl rfl (E.To.code (E.C.ret (E.To.body (fn := Tryz.f68) [.agg #[E.i i.op, E.i i.d, E.i i.a, E.i i.b, E.u i.imm]] ?_ ?_))))))))
 · exact ⟨⟨by kernel_rfl, _, _, 0, _, rfl, rfl, by kernel_rfl⟩, trivial⟩
 intro w h
 exact ⟨by show Ending.returned (.agg #[.int .i64 i.op, .int .i64 i.d, .int .i64 i.a, .int .i64 i.b, .int .u32 i.imm]) = _; unfold Q6.tame; rw [hc3, cond_false, hc6, cond_false, hc9, cond_false, hc10, cond_false, hc11, cond_false, hc14, cond_false] <;> rfl, h.ch.bel (fun _ h => h.elim)⟩
theorem Q6.tame_bd {i : Q.I} (k : Int) (hi : 0 ≤ i.imm ∧ i.imm < 4294967296) : 0 ≤ (Q6.tame i k).imm ∧ (Q6.tame i k).imm < 4294967296 := by
  unfold Q6.tame
  repeat' (first | exact hi | exact Q.wrap_bd _ | exact Q6.tm64 hi | refine Q.bifP (p := fun x : Q.I => 0 ≤ x.imm ∧ x.imm < 4294967296) (fun _ => ?_) (fun _ => ?_))
def Q6.mt (q : Nat → Nat → Int) (k : Nat) : Q.I := Q6.tame (Q3.made (q k 0) (q k 1) (q k 2) (q k 3) (q k 4)) (q k 4)
theorem Q6.mt_bd (q : Nat → Nat → Int) (k : Nat) : 0 ≤ (Q6.mt q k).imm ∧ (Q6.mt q k).imm < 4294967296 := Q6.tame_bd _ (Q3.made_bd _ _ _ _ _)
def Q6.ws (q : Nat → Nat → Int) : Nat → ByteArray
  | 0 => ⟨#[]⟩
  | k + 1 => Q6.ws q k ++ W.put (Q3.encode (Q6.mt q k)).1 4
theorem Q6.ws_size (q : Nat → Nat → Int) : ∀ k, (Q6.ws q k).size = 4 * k
  | 0 => rfl
  | k + 1 => by rw [Q6.ws, ByteArray.size_append, Q.put_size, Q6.ws_size q k]; omega
theorem Q6.wcat (q : Nat → Nat → Int) {k : Nat} (h : k ≤ 100) (z : Int) : (Q6.ws q k).size + (W.put z 4).size ≤ 4000 := by rw [Q6.ws_size, Q.put_size]; omega
theorem Q6.wend {n k : Nat} (h : k ≤ n ∧ k ≤ 100) (h2 : ((decide (((k : Nat) : Int) < ((n : Nat) : Int))) && (decide (((k : Nat) : Int) < 100))) = false) : k = Nat.min n 100 := by
  have e : Nat.min n 100 = if n ≤ 100 then n else 100 := rfl
  rw [e]
  simp only [Bool.and_eq_false_iff, decide_eq_false_iff_not] at h2
  split <;> omega
theorem Q6.w16 {k : Nat} (h : k ≤ 100) : IntKind.wrap .i64 (((k : Nat) : Int) + 1) = ((k + 1 : Nat) : Int) := by rw [IntWalk.i64_in _ (by omega)]; omega
theorem Words6_rd {ao : Option Addr} {ad : Addr} {n cap : Nat} {q : Nat → Nat → Int} (hao : 0 < n → ao = some ad) (hq : ∀ i j, -9223372036854775808 ≤ q i j ∧ q i j < 9223372036854775808) : A.Rd Tryz.prog 41 #[.slice ao n cap] [A.facts (M.rowF 5 ad n q)] (.string (Q6.ws q (Nat.min n 100))) := by
 intro w oo aa hh
 refine E.enter (n := 37) (S := fun _ => False) Tryz.func41 rfl rfl (by kernel_rfl) (A.startY hh) (E.sr (E.op (.string (⟨#[]⟩ : ByteArray)) (E.tr (E.op (.string (⟨#[]⟩ : ByteArray)) (E.To.code (E.C.seq (E.sr (E.op (E.i 0) (E.To.code (E.C.block (E.C.loop (I := Nat) (fun k => 100 - k) (fun k => k ≤ n ∧ k ≤ 100) (fun k => [(0, .slice ao n cap), (2, .string (⟨#[]⟩ : ByteArray)), (3, .string (Q6.ws q k)), (4, E.i ((k : Nat) : Int))]) (fun k => A.Y [A.facts (M.rowF 5 ad n q)]) (fun k => []) 0 (⟨Nat.zero_le _, Nat.zero_le _⟩) ⟨by kernel_rfl, by kernel_rfl⟩ Nz.sub (fun _ h => h) (fun k hk1 => ?_))))))))))))
 refine E.C.seq (E.sr (E.op (E.i ((k : Nat) : Int)) (E.op (.slice ao n cap) (E.op (E.i ((n : Nat) : Int)) (E.op (.bool (decide (((k : Nat) : Int) < ((n : Nat) : Int)))) (E.op (.bool (decide (((k : Nat) : Int) < ((n : Nat) : Int)))) (E.G.cut 3 [(0, .slice ao n cap), (2, .string (⟨#[]⟩ : ByteArray)), (3, .string (Q6.ws q k)), (4, E.i ((k : Nat) : Int)), (7, E.i ((k : Nat) : Int)), (8, .slice ao n cap), (9, E.i ((n : Nat) : Int)), (10, .bool (decide (((k : Nat) : Int) < ((n : Nat) : Int)))), (11, .bool (decide (((k : Nat) : Int) < ((n : Nat) : Int)))), (14, .bool ((decide (((k : Nat) : Int) < ((n : Nat) : Int))) && (decide (((k : Nat) : Int) < 100))))] (A.Y [A.facts (M.rowF 5 ad n q)]) [] ?_ ?_)))))))
 ·
  generalize hc1 : (decide (((k : Nat) : Int) < ((n : Nat) : Int))) = b2
  cases b2
  ·
   exact E.sk (E.sk (E.op (.bool false) (E.G.end_pst ⟨by kernel_rfl, by kernel_rfl⟩ Nz.sub (fun _ h => h))))
  exact E.op (E.i ((k : Nat) : Int)) (E.op (.bool (decide (((k : Nat) : Int) < 100))) (E.op (.bool (decide (((k : Nat) : Int) < 100))) (E.G.end_pst ⟨by kernel_rfl, by kernel_rfl⟩ Nz.sub (fun _ h => h))))
 refine E.To.code (E.cd ((decide (((k : Nat) : Int) < ((n : Nat) : Int))) && (decide (((k : Nat) : Int) < 100))) (fun hc3 => ?_) (fun hc3 => ?_))
 ·
  refine E.C.skip (E.To.code (E.C.seq (E.C.block (E.C.seq (E.C.quiet (by kernel_rfl) (by kernel_rfl) (E.wo (.slice ao n cap) (E.wo (E.i ((k : Nat) : Int)) (E.wv (.pointer (some (ad.add (k * 5)))) (fun w h => A.idxR (e := 131) ad ao n cap 5 .i64 k hao (by kernel_rfl) (by kernel_rfl) (by kernel_rfl) (by kernel_rfl) Nz.pom w) (E.wv (.agg #[E.i (q k 0), E.i (q k 1), E.i (q k 2), E.i (q k 3), E.i (q k 4)]) (fun w h => A.loadR5 (e := 3) (n := n) (i := k) (q := q) h.x (k := 0) rfl (by kernel_rfl) (by kernel_rfl) (by kernel_rfl) Nz.pom) (E.W.call (.agg #[E.i ((Q3.made (q k 0) (q k 1) (q k 2) (q k 3) (q k 4)).op), E.i ((Q3.made (q k 0) (q k 1) (q k 2) (q k 3) (q k 4)).d), E.i ((Q3.made (q k 0) (q k 1) (q k 2) (q k 3) (q k 4)).a), E.i ((Q3.made (q k 0) (q k 1) (q k 2) (q k 3) (q k 4)).b), E.u ((Q3.made (q k 0) (q k 1) (q k 2) (q k 3) (q k 4)).imm)]) (fun w h => Made3_any (q k 0) (q k 1) (q k 2) (q k 3) (q k 4) (hq _ _) (hq _ _) (hq _ _) (hq _ _) (hq _ _) w) (fun w _ => by kernel_rfl) (by kernel_rfl) (E.wo (.slice ao n cap) (E.wo (E.i ((k : Nat) : Int)) ?_))))))))))))
  refine E.wv (.pointer (some (ad.add (k * 5)))) (fun w h => A.idxR (e := 131) ad ao n cap 5 .i64 k hao (by kernel_rfl) (by kernel_rfl) (by kernel_rfl) (by kernel_rfl) Nz.pom w) (E.wo (.pointer (some ((ad.add (k * 5)).add 4))) (E.wv (E.i (q k 4)) (fun w h => A.loadRI (n := n) (i := k) (j := 4) (q := q) h.x (k := 0) rfl (by kernel_rfl) (by kernel_rfl) Nz.pom (by decide)) (E.W.call (.agg #[E.i ((Q6.mt q k).op), E.i ((Q6.mt q k).d), E.i ((Q6.mt q k).a), E.i ((Q6.mt q k).b), E.u ((Q6.mt q k).imm)]) (fun w h => Tame6_any (Q3.made (q k 0) (q k 1) (q k 2) (q k 3) (q k 4)) (q k 4) (hq _ _) w) (fun w _ => by kernel_rfl) (by kernel_rfl) (E.W.call (.tuple #[E.u ((Q3.encode (Q6.mt q k)).1), E.i ((Q3.encode (Q6.mt q k)).2)]) (fun w h => Encode3_any (Q6.mt q k) (Q6.mt_bd q k) w) (fun w _ => by kernel_rfl) (by kernel_rfl) (E.wo (.tuple #[E.u ((Q3.encode (Q6.mt q k)).1), E.i ((Q3.encode (Q6.mt q k)).2)]) (E.wo (E.u ((Q3.encode (Q6.mt q k)).1)) (E.wo (E.i ((Q3.encode (Q6.mt q k)).2)) (E.wo (E.u ((Q3.encode (Q6.mt q k)).1)) (E.wo (E.i ((Q3.encode (Q6.mt q k)).2)) (E.W.done (E.To.code (E.C.region ?_))))))))))))
  exact E.op (.string (Q6.ws q k)) (E.op (E.u ((Q3.encode (Q6.mt q k)).1)) (E.G.call (.string (W.put ((Q3.encode (Q6.mt q k)).1) 4)) (fun w h => rPut_all ((Q3.encode (Q6.mt q k)).1) 4 (Q3.enc_bd _) (by omega) w) (fun w _ => by kernel_rfl) (by kernel_rfl) (E.vl (.string ((Q6.ws q k) ++ (W.put ((Q3.encode (Q6.mt q k)).1) 4))) (fun w h => E.cat (Q6.ws q k) (W.put ((Q3.encode (Q6.mt q k)).1) 4) (by kernel_rfl) (by kernel_rfl) (Nat.le_trans (Q6.wcat q hk1.2 _) (by decide)) w) (E.op (.string ((Q6.ws q k) ++ (W.put ((Q3.encode (Q6.mt q k)).1) 4))) (E.P.nb (E.To.code (E.C.region (E.op (E.i ((k : Nat) : Int)) (E.vl (E.i ((k + 1 : Nat) : Int)) (fun w h => E.run_as (a := E.i (IntKind.wrap .i64 (((k : Nat) : Int) + 1))) (by kernel_rfl) (congrArg (Value.int .i64) (Q6.w16 hk1.2))) (E.op (E.i ((k + 1 : Nat) : Int)) (E.To.round (k + 1) Nz.pom (Nz.pom) ⟨by kernel_rfl, by kernel_rfl⟩ Nz.sub (fun _ h => h))))))))))))
 refine E.C.exit (E.P.et (E.P.et (E.P.eh (E.To.code (E.wk [(2, .string (⟨#[]⟩ : ByteArray)), (3, .string (Q6.ws q k))] [] Nz.sub (E.sr (E.op (.string (Q6.ws q k)) (E.op (.string (Q6.ws q k)) (E.To.code (E.C.ret (E.bd Tryz.f41 [.string (Q6.ws q k)] ?_)))))))))))
 intro w h
 obtain rfl := Q6.wend hk1 hc3
 exact ⟨rfl, h.ch.bel (fun _ h => h.elim)⟩
end Go.Proofs.YtgbndbljohpnmaaGreat

/- XQy -/
namespace Go.Proofs.YtgbndbljohpnmaaGreat
set_option linter.unusedVariables false
set_option linter.unusedSimpArgs false
open Go.RowKit
theorem Q.b30 (b : Int) : 0 ≤ b % 1073741824 ∧ b % 1073741824 < 1073741824 := ⟨Int.emod_nonneg _ (by decide), Int.emod_lt_of_pos _ (by decide)⟩
end Go.Proofs.YtgbndbljohpnmaaGreat

/- XQz -/
namespace Go.Proofs.YtgbndbljohpnmaaGreat
set_option linter.unusedVariables false
set_option linter.unusedSimpArgs false
open Go.RowKit
section
variable {P : Program} {fr : E.Fr} {T : TypeId} {d : Option Nat} {pos : String} {af : Array Edge} {gd : Option (Nat × Bool)}
/-- An element of an array's value. -/
theorem E.aidx {t e : TypeId} {x ix : Operand} (cs : Array Value) (n : Nat) (k : IntKind) (i : Int) (v : Value) {D : TypeDesc} (hu : P.underlying t = some (.array n e)) (hs : (P.info? e).map (·.size) = some 1) (he : P.underlying e = some D) (hD : (match D with | .struct _ => true | .array _ _ => true | _ => false) = false)
    (hx : E.ev fr x = .agg cs) (hi : E.ev fr ix = .int k i) (h0 : 0 ≤ i) (h1 : i < n) (hv : cs[i.toNat]? = some v) (w : World) : (execOp (E.ev fr) ⟨d, .index t x ix, T, pos, af, gd⟩).run P w = .ok (.value v) w := by
  cases hi0 : P.info? e with
  | none => rw [hi0] at hs; cases hs
  | some ie =>
    rw [hi0] at hs
    simp only [Option.map_some, Option.some.injEq] at hs
    have ha := M.one (P := P) (w := w) he hD
    have hp : (part e cs (i.toNat * 1)).run P w = .ok v w := by simp [part, ha, hv]
    show (do let r ← Instr.index t (E.ev fr x) (E.ev fr ix); pure (Next.value r) : Sem Next).run P w = _
    rw [hx, hi]
    rw [← hs] at hp
    simp [Instr.index, asIntOf, underlying, hu, sizeOf, typeInfo, hi0, h0, h1, hp]
end
theorem M.put_f (V : M.V) (a : Nat) (v : Int) : ∀ c, (V.put a v c).n = V.n ∧ (V.put a v c).coh = V.coh ∧ (V.put a v c).r = V.r
  | 0 => ⟨rfl, rfl, rfl⟩
  | c + 1 => by
    have h := M.put_f V a v c
    rw [M.V.put, M.V.set]
    split
    · exact h
    · exact h
theorem Q.one.chk {V : M.V} (h : Q.one V) : (V.chk 8 2 4).2 = true := by
  have ok : ∀ x, x < 256 → V.ok x 2 = true := fun x hx => by
    unfold M.V.ok; rw [show x / 256 = 0 by omega, h.n, h.r]; decide
  show (V.chkN 8 2 0 4).2 = true
  rw [M.V.chkN, ok _ (by decide), cond_true, M.V.chkN, ok _ (by decide), cond_true, M.V.chkN, ok _ (by decide), cond_true, M.V.chkN, ok _ (by decide), cond_true]; rfl
theorem Q.one.put {V : M.V} (h : Q.one V) (a : Nat) (v : Int) (c : Nat) : Q.one (V.put a v c) := ⟨(M.put_f V a v c).1.trans h.n, (M.put_f V a v c).2.1.trans h.coh, by rw [(M.put_f V a v c).2.2]; exact h.r⟩
theorem Q.s1 (s : Q.S) (V : M.V) : Q.stepI ⟨1, 0, 0, 0, 0⟩ 0 0 s V = (⟨IntKind.wrap .u32 (s.pc + 4), Q.up (Q.up (Q.up s.r 0 0) 0 (W.op 3 (Q.up s.r 0 0 0) (Q.up s.r 0 0 0))) 0 0, s.f, s.c, IntKind.wrap .i64 (s.st + 1), s.du⟩, 0, 0, V) := rfl
variable {n4 d : Int}
end Go.Proofs.YtgbndbljohpnmaaGreat

/- XQac -/
namespace Go.Proofs.YtgbndbljohpnmaaGreat
set_option linter.unusedVariables false
set_option linter.unusedSimpArgs false
open Go.RowKit
def Q.ck (d : Int) : Int := 1 + d % 15
theorem Q.c4 (c : Int) : 0 ≤ c % 4 ∧ c % 4 < 4 := ⟨Int.emod_nonneg _ (by decide), Int.emod_lt_of_pos _ (by decide)⟩
variable {n d c : Int}
end Go.Proofs.YtgbndbljohpnmaaGreat

/- XQbh -/
namespace Go.Proofs.YtgbndbljohpnmaaGreat
set_option linter.unusedVariables false
set_option linter.unusedSimpArgs false
open Go.RowKit
def Q6.code (q : Nat → Nat → Int) (n : Nat) : ByteArray := Q6.ws q (Nat.min n 100)
theorem Q6.code_size (q : Nat → Nat → Int) (n : Nat) : (Q6.code q n).size < 4294967296 := by
  have e : Nat.min n 100 = if n ≤ 100 then n else 100 := rfl
  unfold Q6.code; rw [Q6.ws_size, e]; split <;> omega
def Q6.l1 (c : ByteArray) : M.V := (M.V.new (M.np 7) false).poke (256 : Int).toNat c c.size
def Q6.l2 (c : ByteArray) : M.V := (Q6.l1 c).setc 1 c
def Q6.l3 (c : ByteArray) : M.V := bif (decide (((c.size : Nat) : Int) > 256)) then (Q6.l2 c).setc 2 (c.extract 256 c.size) else Q6.l2 c
theorem Q6.l3_t {c : ByteArray} (h : (decide (((c.size : Nat) : Int) > 256)) = true) : (Q6.l2 c).setc 2 (c.extract 256 c.size) = Q6.l3 c := by unfold Q6.l3; rw [h, cond_true]
theorem Q6.l3_f {c : ByteArray} (h : (decide (((c.size : Nat) : Int) > 256)) = false) : Q6.l2 c = Q6.l3 c := by unfold Q6.l3; rw [h, cond_false]
def Q6.l4 (c : ByteArray) (x y : Int) : M.V := (((((((Q6.l3 c).prot 0 0).prot 1 7).prot 2 7).prot 3 3).prot 4 3).prot 5 x).prot 6 y
def Q6.lb (z : Int) (a : Nat) : ByteArray := strOfNums [IntKind.wrap .u8 (IntKind.wrap .i64 ((IntKind.wrap .i64 ((768 + ((a : Nat) : Int)) * (768 + ((a : Nat) : Int)))) + z))]
def Q6.l5 (c : ByteArray) (x y z : Int) : Nat → M.V
  | 0 => Q6.l4 c x y
  | a + 1 => (Q6.l5 c x y z a).poke (IntKind.wrap .u32 (768 + ((a : Nat) : Int))).toNat (Q6.lb z a) (Q6.lb z a).size
def Q6.nn (n0 n1 n2 n3 : Int) (k : Nat) : Int := match k % 4 with
  | 0 => n0
  | 1 => n1
  | 2 => n2
  | _ => n3
def Q6.lr (n0 n1 n2 n3 : Int) : Nat → Nat → Int
  | 0 => Q.up (Q.up (Q.up (fun _ => 0) 1 768) 2 (IntKind.wrap .u32 (IntKind.wrap .i64 (1020 + (n2 % 8))))) 3 (IntKind.wrap .u32 (([256, 1276, 1532, 1790] : List Int).getD (n3 % 4).toNat 0))
  | k + 1 => Q.up (Q6.lr n0 n1 n2 n3 k) (k + 4) (IntKind.wrap .u32 (IntKind.wrap .i64 ((Q6.nn n0 n1 n2 n3 k % 40) * (((k : Nat) : Int) - 4))))
theorem Q6.lr_bd (n0 n1 n2 n3 : Int) : ∀ k j, 0 ≤ Q6.lr n0 n1 n2 n3 k j ∧ Q6.lr n0 n1 n2 n3 k j < 4294967296
  | 0, j => Q.up_bd (Q.up_bd (Q.up_bd (fun _ => by show (0 : Int) ≤ 0 ∧ (0 : Int) < 4294967296; decide) (by decide)) (Q.wrap_bd _)) (Q.wrap_bd _) j
  | k + 1, j => Q.up_bd (Q6.lr_bd n0 n1 n2 n3 k) (Q.wrap_bd _) j
def Q6.lS (n0 n1 n2 n3 : Int) : Q.S := Q.norm ⟨256, Q6.lr n0 n1 n2 n3 12, 0, (Q.up (fun _ => 0) 1 261), (n3 % 1000), 0⟩
theorem Q6.lS_wf (n0 n1 n2 n3 : Int) : Q.wf (Q6.lS n0 n1 n2 n3) := Q.norm_wf ⟨by show (0 : Int) ≤ 256 ∧ (256 : Int) < 4294967296; decide, Q6.lr_bd _ _ _ _ _, Q.up_bd (fun _ => by show (0 : Int) ≤ 0 ∧ (0 : Int) < 4294967296; decide) (by decide)⟩
def Q6.lV (q : Nat → Nat → Int) (n : Nat) (n0 n1 n2 : Int) : M.V := Q6.l5 (Q6.code q n) (n0 % 8) (n1 % 8) n2 64
theorem Q6.l3_wf (c : ByteArray) : R.Wf (Q6.l3 c) := by
  have h2 : R.Wf (Q6.l2 c) := R.Wf.setc (R.Wf.poke (R.Wf.new (M.np_le _) _) _ _ _) _ _
  unfold Q6.l3
  exact Q.bifP (p := R.Wf) (fun _ => R.Wf.setc h2 _ _) (fun _ => h2)
theorem Q6.l5_wf (c : ByteArray) (x y z : Int) : ∀ a, R.Wf (Q6.l5 c x y z a)
  | 0 => R.Wf.prot (R.Wf.prot (R.Wf.prot (R.Wf.prot (R.Wf.prot (R.Wf.prot (R.Wf.prot (Q6.l3_wf c) _ _) _ _) _ _) _ _) _ _) _ _) _ _
  | a + 1 => R.Wf.poke (Q6.l5_wf c x y z a) _ _ _
theorem Q6.lb_size (z : Int) (a : Nat) : (Q6.lb z a).size < 4294967296 := by unfold Q6.lb; rw [strOfNums_size]; show (1 : Nat) < 4294967296; decide
theorem Q6.l59 {a : Nat} (h : a ≤ 64) : IntKind.wrap .i64 (768 + ((a : Nat) : Int) + 1) = 768 + ((a + 1 : Nat) : Int) := by rw [IntWalk.i64_in _ (by omega)]; omega
theorem Q6.l64 {a : Nat} (h : a ≤ 64) (h2 : decide (768 + ((a : Nat) : Int) < 832) = false) : a = 64 := by have := of_decide_eq_false h2; omega
theorem Q6.a4 {i : Int} (h0 : 0 ≤ i) (h1 : i < 4) : (#[.int .i64 256, .int .i64 1276, .int .i64 1532, .int .i64 1790] : Array Value)[i.toNat]? = some (.int .i64 (([256, 1276, 1532, 1790] : List Int).getD i.toNat 0)) := by
  have h : i.toNat < 4 := by omega
  generalize i.toNat = n at h
  rcases (by omega : n = 0 ∨ n = 1 ∨ n = 2 ∨ n = 3) with rfl | rfl | rfl | rfl <;> rfl
set_option maxHeartbeats 4000000 in
theorem CLaid6 {ao : Option Addr} {ad : Addr} {n cap : Nat} {q : Nat → Nat → Int} (hao : 0 < n → ao = some ad) (hq : ∀ i j, -9223372036854775808 ≤ q i j ∧ q i j < 9223372036854775808) (n0 n1 n2 n3 : Int) (hn0 : -9223372036854775808 ≤ n0 ∧ n0 < 9223372036854775808) (hn1 : -9223372036854775808 ≤ n1 ∧ n1 < 9223372036854775808) (hn2 : -9223372036854775808 ≤ n2 ∧ n2 < 9223372036854775808) (hn3 : -9223372036854775808 ≤ n3 ∧ n3 < 9223372036854775808) : A.Tr Tryz.prog 9 #[.slice ao n cap, .agg #[.int .i64 n0, .int .i64 n1, .int .i64 n2, .int .i64 n3]] [A.facts (M.rowF 5 ad n q)] (I := Nat × Nat) (fun _ => True) (fun i => .pointer (some ⟨i.1, 0, none⟩)) (fun i => [A.facts (M.rowF 5 ad n q), A.blk i.1 (Q.S.cells (Q6.lS n0 n1 n2 n3) ++ [.pointer (some ⟨i.2, 0, none⟩)]), R.It i.2 (Q6.lV q n n0 n1 n2)]) := by
 intro w oo aa hh
 refine E.enter (n := 120) (S := oo) Tryz.func9 rfl rfl (by kernel_rfl) (A.start (L := []) hh) (E.sr (E.G.new (fun g => E.pt g) [E.i n0, E.i n1, E.i n2, E.i n3] 23 (fun w => by kernel_rfl) (by kernel_rfl) (fun g1 => E.op (.pointer none) (E.tr (A.G.call (I := Nat × Nat) (D := fun i2 => True) (V := fun i2 => E.pt i2.1) (q := fun i2 => [A.blk i2.1 (Q.S.cells Q.z0 ++ [E.pt i2.2]), R.It i2.2 (M.V.new (M.np 7) false)]) [A.blk g1 ([E.i n0, E.i n1, E.i n2, E.i n3]), A.facts (M.rowF 5 ad n q)] (fun i2 => [(i2.1, (Q.S.cells Q.z0 ++ [E.pt i2.2])), (g1, [E.i n0, E.i n1, E.i n2, E.i n3])]) (fun i2 => [R.It i2.2 (M.V.new (M.np 7) false), A.facts (M.rowF 5 ad n q)]) (CNew6 7) (by kernel_rfl) (A.pn [0, 1]) (fun i2 => A.pm [0, 2, 1, 3] (by kernel_rfl) (by kernel_rfl)) (fun w _ => by kernel_rfl) (by kernel_rfl) (fun i2 hd3 => E.op (E.pt i2.1) (E.tr (E.op (.slice ao n cap) (E.G.call (.string (Q6.code q n)) (fun w h => A.cq [3] [0, 1, 2] (Words6_rd (cap := cap) hao hq) h) (fun w _ => by kernel_rfl) (by kernel_rfl) (E.op (.string (Q6.code q n)) (E.tr ?_)))))))))))
 refine E.op (E.pt i2.1) (E.op (E.pt i2.1) (E.op (.pointer (some ⟨i2.1, 24, none⟩)) (E.li (E.pt i2.2) 0 rfl rfl (E.op (.string (Q6.code q n)) (A.G.call (I := Unit) (D := fun _ => True) (V := fun _ => .tuple #[]) (q := fun _ => [R.It i2.2 (Q6.l1 (Q6.code q n))]) [A.blk i2.1 (Q.S.cells Q.z0 ++ [E.pt i2.2]), A.blk g1 ([E.i n0, E.i n1, E.i n2, E.i n3]), A.facts (M.rowF 5 ad n q)] (fun _ => [(i2.1, (Q.S.cells Q.z0 ++ [E.pt i2.2])), (g1, [E.i n0, E.i n1, E.i n2, E.i n3])]) (fun _ => [R.It i2.2 (Q6.l1 (Q6.code q n)), A.facts (M.rowF 5 ad n q)]) (J_Poke 256 (Q6.code q n) (by decide) (Q6.code_size q n) (m := i2.2) (V := (M.V.new (M.np 7) false))) (by kernel_rfl) (A.pn [2, 0, 1, 3]) (fun _ => A.pm [1, 2, 0, 3] (by kernel_rfl) (by kernel_rfl)) (fun w _ => by kernel_rfl) (by kernel_rfl) (fun _ hd4 => E.To.code (E.wk [(3, E.pt g1), (4, .pointer none), (5, E.pt i2.1), (6, .string (Q6.code q n))] [(i2.1, (Q.S.cells Q.z0 ++ [E.pt i2.2])), (g1, [E.i n0, E.i n1, E.i n2, E.i n3])] Nz.sub (E.sr (E.op (E.pt i2.1) (E.op (E.pt i2.1) (E.op (.pointer (some ⟨i2.1, 24, none⟩)) ?_)))))))))))
 refine E.li (E.pt i2.2) 0 rfl rfl (E.op (.string (Q6.code q n)) (A.G.call (I := Unit) (D := fun _ => True) (V := fun _ => .tuple #[]) (q := fun _ => [R.It i2.2 (Q6.l2 (Q6.code q n))]) [A.blk i2.1 (Q.S.cells Q.z0 ++ [E.pt i2.2]), A.blk g1 ([E.i n0, E.i n1, E.i n2, E.i n3]), A.facts (M.rowF 5 ad n q)] (fun _ => [(i2.1, (Q.S.cells Q.z0 ++ [E.pt i2.2])), (g1, [E.i n0, E.i n1, E.i n2, E.i n3])]) (fun _ => [R.It i2.2 (Q6.l2 (Q6.code q n)), A.facts (M.rowF 5 ad n q)]) (B_SetCode (r := i2.2) (V := (Q6.l1 (Q6.code q n))) 1 (Q6.code q n)) (by kernel_rfl) (A.pn [2, 0, 1, 3]) (fun _ => A.pm [1, 2, 0, 3] (by kernel_rfl) (by kernel_rfl)) (fun w _ => by kernel_rfl) (by kernel_rfl) (fun _ hd5 => E.To.code (E.C.seq (E.sr (E.op (.string (Q6.code q n)) (E.op (E.i (((Q6.code q n).size : Nat) : Int)) (E.op (.bool (decide ((((Q6.code q n).size : Nat) : Int) > 256))) (E.To.code (E.wk [(3, E.pt g1), (4, .pointer none), (5, E.pt i2.1), (6, .string (Q6.code q n)), (29, .bool (decide ((((Q6.code q n).size : Nat) : Int) > 256)))] [(i2.1, (Q.S.cells Q.z0 ++ [E.pt i2.2])), (g1, [E.i n0, E.i n1, E.i n2, E.i n3])] Nz.sub (E.C.thencut [(3, E.pt g1), (4, .pointer none), (5, E.pt i2.1)] (A.X w oo aa [R.It i2.2 (Q6.l3 (Q6.code q n)), A.facts (M.rowF 5 ad n q)]) [(i2.1, (Q.S.cells Q.z0 ++ [E.pt i2.2])), (g1, [E.i n0, E.i n1, E.i n2, E.i n3])] ?_ ?_)))))))))))
 ·
  generalize hc6 : (decide ((((Q6.code q n).size : Nat) : Int) > 256)) = b7
  cases b7
  ·
   exact E.C.condF (by kernel_rfl) (by kernel_rfl) (A.C.eq ([R.It i2.2 (Q6.l3 (Q6.code q n)), A.facts (M.rowF 5 ad n q)]) (by rw [Q6.l3_f (by assumption)] <;> rfl) (E.C.skip (E.To.pst ⟨by kernel_rfl, by kernel_rfl⟩ Nz.sub (fun _ h => h))))
  refine E.C.condT (by kernel_rfl) (by kernel_rfl) (E.C.held (A.Y [A.blk i2.1 (Q.S.cells Q.z0 ++ [E.pt i2.2]), A.blk g1 ([E.i n0, E.i n1, E.i n2, E.i n3]), A.facts (M.rowF 5 ad n q)]) (by kernel_rfl) (E.tk 0 (E.pt i2.1) rfl (fun w h => A.hq [0, 1, 3] [2] h) (E.tk 1 (E.pt i2.1) rfl (fun w h => A.hq [0, 1, 3] [2] h) (E.tk 2 (.pointer (some ⟨i2.1, 24, none⟩)) rfl (fun w h => A.hq [0, 1, 3] [2] h) (E.tj 3 (E.pt i2.2) rfl (fun w h => A.hq [0, 1, 3] [2] h) (fun w h => A.Y.bld h (k := 0) (j := 24) rfl (by kernel_rfl) (by kernel_rfl)) (E.tk 4 (.string (Q6.code q n)) rfl (fun w h => A.hq [0, 1, 3] [2] h) (E.al 5 rfl (E.vl (.string ((Q6.code q n).extract 256 (Q6.code q n).size)) (fun w h => E.slFrom (Q6.code q n) .i64 256 (by kernel_rfl) (by kernel_rfl) (by kernel_rfl) (by first | omega | exact Nz.pom) (by first | omega | exact Nz.pom) w) (E.H.back (fun w h => A.hq [0, 1, 3] [2] h) (E.al 6 rfl (A.G.call (I := Unit) (D := fun _ => True) (V := fun _ => .tuple #[]) (q := fun _ => [R.It i2.2 (Q6.l3 (Q6.code q n))]) [A.blk i2.1 (Q.S.cells Q.z0 ++ [E.pt i2.2]), A.blk g1 ([E.i n0, E.i n1, E.i n2, E.i n3]), A.facts (M.rowF 5 ad n q)] (fun _ => [(i2.1, (Q.S.cells Q.z0 ++ [E.pt i2.2])), (g1, [E.i n0, E.i n1, E.i n2, E.i n3])]) (fun _ => [R.It i2.2 (Q6.l3 (Q6.code q n)), A.facts (M.rowF 5 ad n q)]) (A.trAs (B_SetCode (r := i2.2) (V := (Q6.l2 (Q6.code q n))) 2 ((Q6.code q n).extract 256 (Q6.code q n).size)) rfl (by rw [Q6.l3_t (by assumption)] <;> rfl)) (by kernel_rfl) (A.pn [2, 0, 1, 3]) (fun _ => A.pm [1, 2, 0, 3] (by kernel_rfl) (by kernel_rfl)) (fun w _ => by kernel_rfl) (by kernel_rfl) (fun _ hd8 => ?_))))))))))))
  exact E.H.back (fun w h => A.hq [0, 1, 3] [2] h) (E.H.done (by kernel_rfl) (E.To.pst ⟨by kernel_rfl, by kernel_rfl⟩ Nz.sub (fun _ h => h)))
 refine E.C.seq (E.C.held (A.Y [A.blk i2.1 (Q.S.cells Q.z0 ++ [E.pt i2.2]), A.blk g1 ([E.i n0, E.i n1, E.i n2, E.i n3]), A.facts (M.rowF 5 ad n q)]) (by kernel_rfl) (E.H.gen (fun H up dn => ?_)))
 have nd4 : ∀ (v1_g_7_1 : Nat), H 0 (E.bits 9 511) [(3, E.pt g1), (4, .pointer none), (5, E.pt i2.1), (7, E.pt v1_g_7_1)] (A.X w oo aa [R.It i2.2 (Q6.l3 (Q6.code q n)), A.facts (M.rowF 5 ad n q)]) [(v1_g_7_1, [E.i 0, E.i 7, E.i 7, E.i 3, E.i 3, E.i (n0 % 8), E.i (n1 % 8)]), (i2.1, (Q.S.cells Q.z0 ++ [E.pt i2.2])), (g1, [E.i n0, E.i n1, E.i n2, E.i n3])] := by
  intro v1_g_7_1
  refine up _ _ _ _ _ (E.H.done (by kernel_rfl) (E.To.code (E.C.seq (E.sr (E.op (E.i 0) (E.To.code (E.C.block (E.C.rounds 13 (E.C.seq (E.sr (E.op (E.i 0) ?_)))))))))))
  refine E.op (.bool true) (E.To.code (E.C.condT (by kernel_rfl) (by kernel_rfl) (E.C.skip (E.To.code (E.C.seq (E.C.block (E.C.held (A.Y [A.blk v1_g_7_1 ([E.i 0, E.i 7, E.i 7, E.i 3, E.i 3, E.i (n0 % 8), E.i (n1 % 8)]), A.blk i2.1 (Q.S.cells Q.z0 ++ [E.pt i2.2]), A.blk g1 ([E.i n0, E.i n1, E.i n2, E.i n3]), A.facts (M.rowF 5 ad n q)]) (by kernel_rfl) (E.tk 0 (E.pt i2.1) rfl (fun w h => A.hq [0, 1, 2, 4] [3] h) (E.tk 1 (E.pt i2.1) rfl (fun w h => A.hq [0, 1, 2, 4] [3] h) (E.tk 2 (.pointer (some ⟨i2.1, 24, none⟩)) rfl (fun w h => A.hq [0, 1, 2, 4] [3] h) (E.tj 3 (E.pt i2.2) rfl (fun w h => A.hq [0, 1, 2, 4] [3] h) (fun w h => A.Y.bld h (k := 1) (j := 24) rfl (by kernel_rfl) (by kernel_rfl)) (E.tk 4 (E.i 0) rfl (fun w h => A.hq [0, 1, 2, 4] [3] h) ?_))))))))))))
  refine E.tk 5 (E.i 0) rfl (fun w h => A.hq [0, 1, 2, 4] [3] h) (E.tk 6 (E.pt v1_g_7_1) rfl (fun w h => A.hq [0, 1, 2, 4] [3] h) (E.tj 7 (E.i 0) rfl (fun w h => A.hq [0, 1, 2, 4] [3] h) (fun w h => A.Y.bld h (k := 0) (j := 0) rfl (by kernel_rfl) (by kernel_rfl)) (E.al 8 rfl (A.G.call (I := Unit) (D := fun _ => True) (V := fun _ => .tuple #[]) (q := fun _ => [R.It i2.2 ((Q6.l3 (Q6.code q n)).prot 0 0)]) [A.blk v1_g_7_1 ([E.i 0, E.i 7, E.i 7, E.i 3, E.i 3, E.i (n0 % 8), E.i (n1 % 8)]), A.blk i2.1 (Q.S.cells Q.z0 ++ [E.pt i2.2]), A.blk g1 ([E.i n0, E.i n1, E.i n2, E.i n3]), A.facts (M.rowF 5 ad n q)] (fun _ => [(v1_g_7_1, [E.i 0, E.i 7, E.i 7, E.i 3, E.i 3, E.i (n0 % 8), E.i (n1 % 8)]), (i2.1, (Q.S.cells Q.z0 ++ [E.pt i2.2])), (g1, [E.i n0, E.i n1, E.i n2, E.i n3])]) (fun _ => [R.It i2.2 ((Q6.l3 (Q6.code q n)).prot 0 0), A.facts (M.rowF 5 ad n q)]) (B_Protect 0 0 (r := i2.2) (V := (Q6.l3 (Q6.code q n)))) (by kernel_rfl) (A.pn [3, 0, 1, 2, 4]) (fun _ => A.pm [1, 2, 3, 0, 4] (by kernel_rfl) (by kernel_rfl)) (fun w _ => by kernel_rfl) (by kernel_rfl) (fun _ hd9 => E.H.back (fun w h => A.hq [0, 1, 2, 4] [3] h) (E.H.done (by kernel_rfl) (E.P.nb (E.To.code (E.C.region (E.op (E.i 0) (E.op (E.i 1) (E.op (E.i 1) ?_))))))))))))
  refine E.To.rounds 12 (E.wk [(3, E.pt g1), (4, .pointer none), (5, E.pt i2.1), (7, E.pt v1_g_7_1), (8, E.i 1), (44, E.i 0), (45, .bool true), (46, E.i 0), (47, E.i 1), (48, E.pt i2.1), (49, E.pt i2.1), (50, .pointer (some ⟨i2.1, 24, none⟩)), (51, E.pt i2.2), (52, E.i 0), (53, E.i 0), (54, E.pt v1_g_7_1), (55, E.i 0)] [(v1_g_7_1, [E.i 0, E.i 7, E.i 7, E.i 3, E.i 3, E.i (n0 % 8), E.i (n1 % 8)]), (i2.1, (Q.S.cells Q.z0 ++ [E.pt i2.2])), (g1, [E.i n0, E.i n1, E.i n2, E.i n3])] Nz.sub (E.C.seq (E.sr (E.op (E.i 1) (E.op (.bool true) (E.To.code (E.C.condT (by kernel_rfl) (by kernel_rfl) (E.C.skip (E.To.code (E.C.seq (E.C.block (E.C.held (A.Y [A.blk v1_g_7_1 ([E.i 0, E.i 7, E.i 7, E.i 3, E.i 3, E.i (n0 % 8), E.i (n1 % 8)]), A.blk i2.1 (Q.S.cells Q.z0 ++ [E.pt i2.2]), A.blk g1 ([E.i n0, E.i n1, E.i n2, E.i n3]), A.facts (M.rowF 5 ad n q)]) (by kernel_rfl) ?_))))))))))))
  refine E.tk 0 (E.pt i2.1) rfl (fun w h => A.hq [0, 1, 2, 4] [3] h) (E.tk 1 (E.pt i2.1) rfl (fun w h => A.hq [0, 1, 2, 4] [3] h) (E.tk 2 (.pointer (some ⟨i2.1, 24, none⟩)) rfl (fun w h => A.hq [0, 1, 2, 4] [3] h) (E.tj 3 (E.pt i2.2) rfl (fun w h => A.hq [0, 1, 2, 4] [3] h) (fun w h => A.Y.bld h (k := 1) (j := 24) rfl (by kernel_rfl) (by kernel_rfl)) (E.tk 4 (E.i 1) rfl (fun w h => A.hq [0, 1, 2, 4] [3] h) (E.tk 5 (E.i 1) rfl (fun w h => A.hq [0, 1, 2, 4] [3] h) (E.tk 6 (.pointer (some ⟨v1_g_7_1, 1, none⟩)) rfl (fun w h => A.hq [0, 1, 2, 4] [3] h) (E.tj 7 (E.i 7) rfl (fun w h => A.hq [0, 1, 2, 4] [3] h) (fun w h => A.Y.bld h (k := 0) (j := 1) rfl (by kernel_rfl) (by kernel_rfl)) (E.al 8 rfl (A.G.call (I := Unit) (D := fun _ => True) (V := fun _ => .tuple #[]) (q := fun _ => [R.It i2.2 (((Q6.l3 (Q6.code q n)).prot 0 0).prot 1 7)]) [A.blk v1_g_7_1 ([E.i 0, E.i 7, E.i 7, E.i 3, E.i 3, E.i (n0 % 8), E.i (n1 % 8)]), A.blk i2.1 (Q.S.cells Q.z0 ++ [E.pt i2.2]), A.blk g1 ([E.i n0, E.i n1, E.i n2, E.i n3]), A.facts (M.rowF 5 ad n q)] (fun _ => [(v1_g_7_1, [E.i 0, E.i 7, E.i 7, E.i 3, E.i 3, E.i (n0 % 8), E.i (n1 % 8)]), (i2.1, (Q.S.cells Q.z0 ++ [E.pt i2.2])), (g1, [E.i n0, E.i n1, E.i n2, E.i n3])]) (fun _ => [R.It i2.2 (((Q6.l3 (Q6.code q n)).prot 0 0).prot 1 7), A.facts (M.rowF 5 ad n q)]) (B_Protect 1 7 (r := i2.2) (V := ((Q6.l3 (Q6.code q n)).prot 0 0))) (by kernel_rfl) (A.pn [3, 0, 1, 2, 4]) (fun _ => A.pm [1, 2, 3, 0, 4] (by kernel_rfl) (by kernel_rfl)) (fun w _ => by kernel_rfl) (by kernel_rfl) (fun _ hd10 => E.H.back (fun w h => A.hq [0, 1, 2, 4] [3] h) (E.H.done (by kernel_rfl) ?_)))))))))))
  refine E.P.nb (E.To.code (E.C.region (E.op (E.i 1) (E.op (E.i 2) (E.op (E.i 2) (E.To.rounds 11 (E.wk [(3, E.pt g1), (4, .pointer none), (5, E.pt i2.1), (7, E.pt v1_g_7_1), (8, E.i 2), (44, E.i 1), (45, .bool true), (46, E.i 1), (47, E.i 2), (48, E.pt i2.1), (49, E.pt i2.1), (50, .pointer (some ⟨i2.1, 24, none⟩)), (51, E.pt i2.2), (52, E.i 1), (53, E.i 1), (54, .pointer (some ⟨v1_g_7_1, 1, none⟩)), (55, E.i 7)] [(v1_g_7_1, [E.i 0, E.i 7, E.i 7, E.i 3, E.i 3, E.i (n0 % 8), E.i (n1 % 8)]), (i2.1, (Q.S.cells Q.z0 ++ [E.pt i2.2])), (g1, [E.i n0, E.i n1, E.i n2, E.i n3])] Nz.sub (E.C.seq (E.sr (E.op (E.i 2) (E.op (.bool true) (E.To.code ?_))))))))))))
  refine E.C.condT (by kernel_rfl) (by kernel_rfl) (E.C.skip (E.To.code (E.C.seq (E.C.block (E.C.held (A.Y [A.blk v1_g_7_1 ([E.i 0, E.i 7, E.i 7, E.i 3, E.i 3, E.i (n0 % 8), E.i (n1 % 8)]), A.blk i2.1 (Q.S.cells Q.z0 ++ [E.pt i2.2]), A.blk g1 ([E.i n0, E.i n1, E.i n2, E.i n3]), A.facts (M.rowF 5 ad n q)]) (by kernel_rfl) (E.tk 0 (E.pt i2.1) rfl (fun w h => A.hq [0, 1, 2, 4] [3] h) (E.tk 1 (E.pt i2.1) rfl (fun w h => A.hq [0, 1, 2, 4] [3] h) (E.tk 2 (.pointer (some ⟨i2.1, 24, none⟩)) rfl (fun w h => A.hq [0, 1, 2, 4] [3] h) (E.tj 3 (E.pt i2.2) rfl (fun w h => A.hq [0, 1, 2, 4] [3] h) (fun w h => A.Y.bld h (k := 1) (j := 24) rfl (by kernel_rfl) (by kernel_rfl)) (E.tk 4 (E.i 2) rfl (fun w h => A.hq [0, 1, 2, 4] [3] h) (E.tk 5 (E.i 2) rfl (fun w h => A.hq [0, 1, 2, 4] [3] h) (E.tk 6 (.pointer (some ⟨v1_g_7_1, 2, none⟩)) rfl (fun w h => A.hq [0, 1, 2, 4] [3] h) ?_))))))))))))
  refine E.tj 7 (E.i 7) rfl (fun w h => A.hq [0, 1, 2, 4] [3] h) (fun w h => A.Y.bld h (k := 0) (j := 2) rfl (by kernel_rfl) (by kernel_rfl)) (E.al 8 rfl (A.G.call (I := Unit) (D := fun _ => True) (V := fun _ => .tuple #[]) (q := fun _ => [R.It i2.2 ((((Q6.l3 (Q6.code q n)).prot 0 0).prot 1 7).prot 2 7)]) [A.blk v1_g_7_1 ([E.i 0, E.i 7, E.i 7, E.i 3, E.i 3, E.i (n0 % 8), E.i (n1 % 8)]), A.blk i2.1 (Q.S.cells Q.z0 ++ [E.pt i2.2]), A.blk g1 ([E.i n0, E.i n1, E.i n2, E.i n3]), A.facts (M.rowF 5 ad n q)] (fun _ => [(v1_g_7_1, [E.i 0, E.i 7, E.i 7, E.i 3, E.i 3, E.i (n0 % 8), E.i (n1 % 8)]), (i2.1, (Q.S.cells Q.z0 ++ [E.pt i2.2])), (g1, [E.i n0, E.i n1, E.i n2, E.i n3])]) (fun _ => [R.It i2.2 ((((Q6.l3 (Q6.code q n)).prot 0 0).prot 1 7).prot 2 7), A.facts (M.rowF 5 ad n q)]) (B_Protect 2 7 (r := i2.2) (V := (((Q6.l3 (Q6.code q n)).prot 0 0).prot 1 7))) (by kernel_rfl) (A.pn [3, 0, 1, 2, 4]) (fun _ => A.pm [1, 2, 3, 0, 4] (by kernel_rfl) (by kernel_rfl)) (fun w _ => by kernel_rfl) (by kernel_rfl) (fun _ hd11 => E.H.back (fun w h => A.hq [0, 1, 2, 4] [3] h) (E.H.done (by kernel_rfl) (E.P.nb (E.To.code (E.C.region (E.op (E.i 2) (E.op (E.i 3) (E.op (E.i 3) (E.To.rounds 10 (E.wk [(3, E.pt g1), (4, .pointer none), (5, E.pt i2.1), (7, E.pt v1_g_7_1), (8, E.i 3), (44, E.i 2), (45, .bool true), (46, E.i 2), (47, E.i 3), (48, E.pt i2.1), (49, E.pt i2.1), (50, .pointer (some ⟨i2.1, 24, none⟩)), (51, E.pt i2.2), (52, E.i 2), (53, E.i 2), (54, .pointer (some ⟨v1_g_7_1, 2, none⟩)), (55, E.i 7)] [(v1_g_7_1, [E.i 0, E.i 7, E.i 7, E.i 3, E.i 3, E.i (n0 % 8), E.i (n1 % 8)]), (i2.1, (Q.S.cells Q.z0 ++ [E.pt i2.2])), (g1, [E.i n0, E.i n1, E.i n2, E.i n3])] Nz.sub ?_))))))))))))
  refine E.C.seq (E.sr (E.op (E.i 3) (E.op (.bool true) (E.To.code (E.C.condT (by kernel_rfl) (by kernel_rfl) (E.C.skip (E.To.code (E.C.seq (E.C.block (E.C.held (A.Y [A.blk v1_g_7_1 ([E.i 0, E.i 7, E.i 7, E.i 3, E.i 3, E.i (n0 % 8), E.i (n1 % 8)]), A.blk i2.1 (Q.S.cells Q.z0 ++ [E.pt i2.2]), A.blk g1 ([E.i n0, E.i n1, E.i n2, E.i n3]), A.facts (M.rowF 5 ad n q)]) (by kernel_rfl) (E.tk 0 (E.pt i2.1) rfl (fun w h => A.hq [0, 1, 2, 4] [3] h) (E.tk 1 (E.pt i2.1) rfl (fun w h => A.hq [0, 1, 2, 4] [3] h) ?_))))))))))))
  refine E.tk 2 (.pointer (some ⟨i2.1, 24, none⟩)) rfl (fun w h => A.hq [0, 1, 2, 4] [3] h) (E.tj 3 (E.pt i2.2) rfl (fun w h => A.hq [0, 1, 2, 4] [3] h) (fun w h => A.Y.bld h (k := 1) (j := 24) rfl (by kernel_rfl) (by kernel_rfl)) (E.tk 4 (E.i 3) rfl (fun w h => A.hq [0, 1, 2, 4] [3] h) (E.tk 5 (E.i 3) rfl (fun w h => A.hq [0, 1, 2, 4] [3] h) (E.tk 6 (.pointer (some ⟨v1_g_7_1, 3, none⟩)) rfl (fun w h => A.hq [0, 1, 2, 4] [3] h) (E.tj 7 (E.i 3) rfl (fun w h => A.hq [0, 1, 2, 4] [3] h) (fun w h => A.Y.bld h (k := 0) (j := 3) rfl (by kernel_rfl) (by kernel_rfl)) (E.al 8 rfl (A.G.call (I := Unit) (D := fun _ => True) (V := fun _ => .tuple #[]) (q := fun _ => [R.It i2.2 (((((Q6.l3 (Q6.code q n)).prot 0 0).prot 1 7).prot 2 7).prot 3 3)]) [A.blk v1_g_7_1 ([E.i 0, E.i 7, E.i 7, E.i 3, E.i 3, E.i (n0 % 8), E.i (n1 % 8)]), A.blk i2.1 (Q.S.cells Q.z0 ++ [E.pt i2.2]), A.blk g1 ([E.i n0, E.i n1, E.i n2, E.i n3]), A.facts (M.rowF 5 ad n q)] (fun _ => [(v1_g_7_1, [E.i 0, E.i 7, E.i 7, E.i 3, E.i 3, E.i (n0 % 8), E.i (n1 % 8)]), (i2.1, (Q.S.cells Q.z0 ++ [E.pt i2.2])), (g1, [E.i n0, E.i n1, E.i n2, E.i n3])]) (fun _ => [R.It i2.2 (((((Q6.l3 (Q6.code q n)).prot 0 0).prot 1 7).prot 2 7).prot 3 3), A.facts (M.rowF 5 ad n q)]) (B_Protect 3 3 (r := i2.2) (V := ((((Q6.l3 (Q6.code q n)).prot 0 0).prot 1 7).prot 2 7))) (by kernel_rfl) (A.pn [3, 0, 1, 2, 4]) (fun _ => A.pm [1, 2, 3, 0, 4] (by kernel_rfl) (by kernel_rfl)) (fun w _ => by kernel_rfl) (by kernel_rfl) (fun _ hd12 => E.H.back (fun w h => A.hq [0, 1, 2, 4] [3] h) (E.H.done (by kernel_rfl) (E.P.nb (E.To.code (E.C.region ?_))))))))))))
  refine E.op (E.i 3) (E.op (E.i 4) (E.op (E.i 4) (E.To.rounds 9 (E.wk [(3, E.pt g1), (4, .pointer none), (5, E.pt i2.1), (7, E.pt v1_g_7_1), (8, E.i 4), (44, E.i 3), (45, .bool true), (46, E.i 3), (47, E.i 4), (48, E.pt i2.1), (49, E.pt i2.1), (50, .pointer (some ⟨i2.1, 24, none⟩)), (51, E.pt i2.2), (52, E.i 3), (53, E.i 3), (54, .pointer (some ⟨v1_g_7_1, 3, none⟩)), (55, E.i 3)] [(v1_g_7_1, [E.i 0, E.i 7, E.i 7, E.i 3, E.i 3, E.i (n0 % 8), E.i (n1 % 8)]), (i2.1, (Q.S.cells Q.z0 ++ [E.pt i2.2])), (g1, [E.i n0, E.i n1, E.i n2, E.i n3])] Nz.sub (E.C.seq (E.sr (E.op (E.i 4) (E.op (.bool true) (E.To.code (E.C.condT (by kernel_rfl) (by kernel_rfl) (E.C.skip (E.To.code ?_))))))))))))
  refine E.C.seq (E.C.block (E.C.held (A.Y [A.blk v1_g_7_1 ([E.i 0, E.i 7, E.i 7, E.i 3, E.i 3, E.i (n0 % 8), E.i (n1 % 8)]), A.blk i2.1 (Q.S.cells Q.z0 ++ [E.pt i2.2]), A.blk g1 ([E.i n0, E.i n1, E.i n2, E.i n3]), A.facts (M.rowF 5 ad n q)]) (by kernel_rfl) (E.tk 0 (E.pt i2.1) rfl (fun w h => A.hq [0, 1, 2, 4] [3] h) (E.tk 1 (E.pt i2.1) rfl (fun w h => A.hq [0, 1, 2, 4] [3] h) (E.tk 2 (.pointer (some ⟨i2.1, 24, none⟩)) rfl (fun w h => A.hq [0, 1, 2, 4] [3] h) (E.tj 3 (E.pt i2.2) rfl (fun w h => A.hq [0, 1, 2, 4] [3] h) (fun w h => A.Y.bld h (k := 1) (j := 24) rfl (by kernel_rfl) (by kernel_rfl)) (E.tk 4 (E.i 4) rfl (fun w h => A.hq [0, 1, 2, 4] [3] h) (E.tk 5 (E.i 4) rfl (fun w h => A.hq [0, 1, 2, 4] [3] h) (E.tk 6 (.pointer (some ⟨v1_g_7_1, 4, none⟩)) rfl (fun w h => A.hq [0, 1, 2, 4] [3] h) (E.tj 7 (E.i 3) rfl (fun w h => A.hq [0, 1, 2, 4] [3] h) (fun w h => A.Y.bld h (k := 0) (j := 4) rfl (by kernel_rfl) (by kernel_rfl)) (E.al 8 rfl ?_)))))))))))
  refine A.G.call (I := Unit) (D := fun _ => True) (V := fun _ => .tuple #[]) (q := fun _ => [R.It i2.2 ((((((Q6.l3 (Q6.code q n)).prot 0 0).prot 1 7).prot 2 7).prot 3 3).prot 4 3)]) [A.blk v1_g_7_1 ([E.i 0, E.i 7, E.i 7, E.i 3, E.i 3, E.i (n0 % 8), E.i (n1 % 8)]), A.blk i2.1 (Q.S.cells Q.z0 ++ [E.pt i2.2]), A.blk g1 ([E.i n0, E.i n1, E.i n2, E.i n3]), A.facts (M.rowF 5 ad n q)] (fun _ => [(v1_g_7_1, [E.i 0, E.i 7, E.i 7, E.i 3, E.i 3, E.i (n0 % 8), E.i (n1 % 8)]), (i2.1, (Q.S.cells Q.z0 ++ [E.pt i2.2])), (g1, [E.i n0, E.i n1, E.i n2, E.i n3])]) (fun _ => [R.It i2.2 ((((((Q6.l3 (Q6.code q n)).prot 0 0).prot 1 7).prot 2 7).prot 3 3).prot 4 3), A.facts (M.rowF 5 ad n q)]) (B_Protect 4 3 (r := i2.2) (V := (((((Q6.l3 (Q6.code q n)).prot 0 0).prot 1 7).prot 2 7).prot 3 3))) (by kernel_rfl) (A.pn [3, 0, 1, 2, 4]) (fun _ => A.pm [1, 2, 3, 0, 4] (by kernel_rfl) (by kernel_rfl)) (fun w _ => by kernel_rfl) (by kernel_rfl) (fun _ hd13 => E.H.back (fun w h => A.hq [0, 1, 2, 4] [3] h) (E.H.done (by kernel_rfl) (E.P.nb (E.To.code (E.C.region (E.op (E.i 4) (E.op (E.i 5) (E.op (E.i 5) (E.To.rounds 8 (E.wk [(3, E.pt g1), (4, .pointer none), (5, E.pt i2.1), (7, E.pt v1_g_7_1), (8, E.i 5), (44, E.i 4), (45, .bool true), (46, E.i 4), (47, E.i 5), (48, E.pt i2.1), (49, E.pt i2.1), (50, .pointer (some ⟨i2.1, 24, none⟩)), (51, E.pt i2.2), (52, E.i 4), (53, E.i 4), (54, .pointer (some ⟨v1_g_7_1, 4, none⟩)), (55, E.i 3)] [(v1_g_7_1, [E.i 0, E.i 7, E.i 7, E.i 3, E.i 3, E.i (n0 % 8), E.i (n1 % 8)]), (i2.1, (Q.S.cells Q.z0 ++ [E.pt i2.2])), (g1, [E.i n0, E.i n1, E.i n2, E.i n3])] Nz.sub (E.C.seq (E.sr ?_))))))))))))
  refine E.op (E.i 5) (E.op (.bool true) (E.To.code (E.C.condT (by kernel_rfl) (by kernel_rfl) (E.C.skip (E.To.code (E.C.seq (E.C.block (E.C.held (A.Y [A.blk v1_g_7_1 ([E.i 0, E.i 7, E.i 7, E.i 3, E.i 3, E.i (n0 % 8), E.i (n1 % 8)]), A.blk i2.1 (Q.S.cells Q.z0 ++ [E.pt i2.2]), A.blk g1 ([E.i n0, E.i n1, E.i n2, E.i n3]), A.facts (M.rowF 5 ad n q)]) (by kernel_rfl) (E.tk 0 (E.pt i2.1) rfl (fun w h => A.hq [0, 1, 2, 4] [3] h) (E.tk 1 (E.pt i2.1) rfl (fun w h => A.hq [0, 1, 2, 4] [3] h) (E.tk 2 (.pointer (some ⟨i2.1, 24, none⟩)) rfl (fun w h => A.hq [0, 1, 2, 4] [3] h) (E.tj 3 (E.pt i2.2) rfl (fun w h => A.hq [0, 1, 2, 4] [3] h) (fun w h => A.Y.bld h (k := 1) (j := 24) rfl (by kernel_rfl) (by kernel_rfl)) ?_))))))))))))
  refine E.tk 4 (E.i 5) rfl (fun w h => A.hq [0, 1, 2, 4] [3] h) (E.tk 5 (E.i 5) rfl (fun w h => A.hq [0, 1, 2, 4] [3] h) (E.tk 6 (.pointer (some ⟨v1_g_7_1, 5, none⟩)) rfl (fun w h => A.hq [0, 1, 2, 4] [3] h) (E.tj 7 (E.i (n0 % 8)) rfl (fun w h => A.hq [0, 1, 2, 4] [3] h) (fun w h => A.Y.bld h (k := 0) (j := 5) rfl (by kernel_rfl) (by kernel_rfl)) (E.al 8 rfl (A.G.call (I := Unit) (D := fun _ => True) (V := fun _ => .tuple #[]) (q := fun _ => [R.It i2.2 (((((((Q6.l3 (Q6.code q n)).prot 0 0).prot 1 7).prot 2 7).prot 3 3).prot 4 3).prot 5 (n0 % 8))]) [A.blk v1_g_7_1 ([E.i 0, E.i 7, E.i 7, E.i 3, E.i 3, E.i (n0 % 8), E.i (n1 % 8)]), A.blk i2.1 (Q.S.cells Q.z0 ++ [E.pt i2.2]), A.blk g1 ([E.i n0, E.i n1, E.i n2, E.i n3]), A.facts (M.rowF 5 ad n q)] (fun _ => [(v1_g_7_1, [E.i 0, E.i 7, E.i 7, E.i 3, E.i 3, E.i (n0 % 8), E.i (n1 % 8)]), (i2.1, (Q.S.cells Q.z0 ++ [E.pt i2.2])), (g1, [E.i n0, E.i n1, E.i n2, E.i n3])]) (fun _ => [R.It i2.2 (((((((Q6.l3 (Q6.code q n)).prot 0 0).prot 1 7).prot 2 7).prot 3 3).prot 4 3).prot 5 (n0 % 8)), A.facts (M.rowF 5 ad n q)]) (B_Protect 5 (n0 % 8) (r := i2.2) (V := ((((((Q6.l3 (Q6.code q n)).prot 0 0).prot 1 7).prot 2 7).prot 3 3).prot 4 3))) (by kernel_rfl) (A.pn [3, 0, 1, 2, 4]) (fun _ => A.pm [1, 2, 3, 0, 4] (by kernel_rfl) (by kernel_rfl)) (fun w _ => by kernel_rfl) (by kernel_rfl) (fun _ hd14 => E.H.back (fun w h => A.hq [0, 1, 2, 4] [3] h) (E.H.done (by kernel_rfl) (E.P.nb (E.To.code (E.C.region (E.op (E.i 5) (E.op (E.i 6) ?_))))))))))))
  refine E.op (E.i 6) (E.To.rounds 7 (E.wk [(3, E.pt g1), (4, .pointer none), (5, E.pt i2.1), (7, E.pt v1_g_7_1), (8, E.i 6), (44, E.i 5), (45, .bool true), (46, E.i 5), (47, E.i 6), (48, E.pt i2.1), (49, E.pt i2.1), (50, .pointer (some ⟨i2.1, 24, none⟩)), (51, E.pt i2.2), (52, E.i 5), (53, E.i 5), (54, .pointer (some ⟨v1_g_7_1, 5, none⟩)), (55, E.i (n0 % 8))] [(v1_g_7_1, [E.i 0, E.i 7, E.i 7, E.i 3, E.i 3, E.i (n0 % 8), E.i (n1 % 8)]), (i2.1, (Q.S.cells Q.z0 ++ [E.pt i2.2])), (g1, [E.i n0, E.i n1, E.i n2, E.i n3])] Nz.sub (E.C.seq (E.sr (E.op (E.i 6) (E.op (.bool true) (E.To.code (E.C.condT (by kernel_rfl) (by kernel_rfl) (E.C.skip (E.To.code (E.C.seq (E.C.block ?_))))))))))))
  refine E.C.held (A.Y [A.blk v1_g_7_1 ([E.i 0, E.i 7, E.i 7, E.i 3, E.i 3, E.i (n0 % 8), E.i (n1 % 8)]), A.blk i2.1 (Q.S.cells Q.z0 ++ [E.pt i2.2]), A.blk g1 ([E.i n0, E.i n1, E.i n2, E.i n3]), A.facts (M.rowF 5 ad n q)]) (by kernel_rfl) (E.tk 0 (E.pt i2.1) rfl (fun w h => A.hq [0, 1, 2, 4] [3] h) (E.tk 1 (E.pt i2.1) rfl (fun w h => A.hq [0, 1, 2, 4] [3] h) (E.tk 2 (.pointer (some ⟨i2.1, 24, none⟩)) rfl (fun w h => A.hq [0, 1, 2, 4] [3] h) (E.tj 3 (E.pt i2.2) rfl (fun w h => A.hq [0, 1, 2, 4] [3] h) (fun w h => A.Y.bld h (k := 1) (j := 24) rfl (by kernel_rfl) (by kernel_rfl)) (E.tk 4 (E.i 6) rfl (fun w h => A.hq [0, 1, 2, 4] [3] h) (E.tk 5 (E.i 6) rfl (fun w h => A.hq [0, 1, 2, 4] [3] h) (E.tk 6 (.pointer (some ⟨v1_g_7_1, 6, none⟩)) rfl (fun w h => A.hq [0, 1, 2, 4] [3] h) (E.tj 7 (E.i (n1 % 8)) rfl (fun w h => A.hq [0, 1, 2, 4] [3] h) (fun w h => A.Y.bld h (k := 0) (j := 6) rfl (by kernel_rfl) (by kernel_rfl)) (E.al 8 rfl (A.G.call (I := Unit) (D := fun _ => True) (V := fun _ => .tuple #[]) (q := fun _ => [R.It i2.2 (Q6.l4 (Q6.code q n) (n0 % 8) (n1 % 8))]) [A.blk v1_g_7_1 ([E.i 0, E.i 7, E.i 7, E.i 3, E.i 3, E.i (n0 % 8), E.i (n1 % 8)]), A.blk i2.1 (Q.S.cells Q.z0 ++ [E.pt i2.2]), A.blk g1 ([E.i n0, E.i n1, E.i n2, E.i n3]), A.facts (M.rowF 5 ad n q)] (fun _ => [(v1_g_7_1, [E.i 0, E.i 7, E.i 7, E.i 3, E.i 3, E.i (n0 % 8), E.i (n1 % 8)]), (i2.1, (Q.S.cells Q.z0 ++ [E.pt i2.2])), (g1, [E.i n0, E.i n1, E.i n2, E.i n3])]) (fun _ => [R.It i2.2 (Q6.l4 (Q6.code q n) (n0 % 8) (n1 % 8)), A.facts (M.rowF 5 ad n q)]) (B_Protect 6 (n1 % 8) (r := i2.2) (V := (((((((Q6.l3 (Q6.code q n)).prot 0 0).prot 1 7).prot 2 7).prot 3 3).prot 4 3).prot 5 (n0 % 8)))) (by kernel_rfl) (A.pn [3, 0, 1, 2, 4]) (fun _ => A.pm [1, 2, 3, 0, 4] (by kernel_rfl) (by kernel_rfl)) (fun w _ => by kernel_rfl) (by kernel_rfl) (fun _ hd15 => E.H.back (fun w h => A.hq [0, 1, 2, 4] [3] h) ?_)))))))))))
  refine E.H.done (by kernel_rfl) (E.P.nb (E.To.code (E.C.region (E.op (E.i 6) (E.op (E.i 7) (E.op (E.i 7) (E.To.rounds 6 (E.wk [(3, E.pt g1), (4, .pointer none), (5, E.pt i2.1), (7, E.pt v1_g_7_1), (8, E.i 7), (44, E.i 6), (45, .bool true), (46, E.i 6), (47, E.i 7), (48, E.pt i2.1), (49, E.pt i2.1), (50, .pointer (some ⟨i2.1, 24, none⟩)), (51, E.pt i2.2), (52, E.i 6), (53, E.i 6), (54, .pointer (some ⟨v1_g_7_1, 6, none⟩)), (55, E.i (n1 % 8))] [(v1_g_7_1, [E.i 0, E.i 7, E.i 7, E.i 3, E.i 3, E.i (n0 % 8), E.i (n1 % 8)]), (i2.1, (Q.S.cells Q.z0 ++ [E.pt i2.2])), (g1, [E.i n0, E.i n1, E.i n2, E.i n3])] Nz.sub (E.C.seq (E.sr (E.op (E.i 7) (E.op (.bool false) ?_))))))))))))
  refine E.To.code (E.C.condF (by kernel_rfl) (by kernel_rfl) (E.C.exit (E.P.et (E.P.et (E.P.eh (E.To.code (E.wk [(3, E.pt g1), (4, .pointer none), (5, E.pt i2.1)] [(i2.1, (Q.S.cells Q.z0 ++ [E.pt i2.2])), (g1, [E.i n0, E.i n1, E.i n2, E.i n3])] Nz.sub (E.C.seq (E.sr (E.op (E.i 768) (E.To.code (E.C.block (E.C.loop (I := Nat) (fun a => 64 - a) (fun a => a ≤ 64) (fun a => [(3, E.pt g1), (4, .pointer none), (5, E.pt i2.1), (9, E.i (768 + ((a : Nat) : Int)))]) (fun a => A.X w oo aa [R.It i2.2 (Q6.l5 (Q6.code q n) (n0 % 8) (n1 % 8) n2 a), A.facts (M.rowF 5 ad n q)]) (fun a => [(i2.1, (Q.S.cells Q.z0 ++ [E.pt i2.2])), (g1, [E.i n0, E.i n1, E.i n2, E.i n3])]) 0 ((Nat.zero_le _)) ⟨by kernel_rfl, by kernel_rfl⟩ Nz.sub (fun _ h => h) (fun a hk1 => E.C.seq (E.sr ?_)))))))))))))))
  refine E.op (E.i (768 + ((a : Nat) : Int))) (E.op (.bool (decide ((768 + ((a : Nat) : Int)) < 832))) (E.To.code (E.cd (decide ((768 + ((a : Nat) : Int)) < 832)) (fun hc16 => ?_) (fun hc16 => ?_))))
  ·
   refine E.C.skip (E.To.code (E.C.seq (E.C.block (E.C.held (A.Y [A.blk i2.1 (Q.S.cells Q.z0 ++ [E.pt i2.2]), A.blk g1 ([E.i n0, E.i n1, E.i n2, E.i n3]), A.facts (M.rowF 5 ad n q)]) (by kernel_rfl) (E.tk 0 (E.pt i2.1) rfl (fun w h => A.hq [0, 1, 3] [2] h) (E.tk 1 (E.pt i2.1) rfl (fun w h => A.hq [0, 1, 3] [2] h) (E.tk 2 (.pointer (some ⟨i2.1, 24, none⟩)) rfl (fun w h => A.hq [0, 1, 3] [2] h) (E.tj 3 (E.pt i2.2) rfl (fun w h => A.hq [0, 1, 3] [2] h) (fun w h => A.Y.bld h (k := 0) (j := 24) rfl (by kernel_rfl) (by kernel_rfl)) (E.tk 4 (E.i (768 + ((a : Nat) : Int))) rfl (fun w h => A.hq [0, 1, 3] [2] h) (E.tk 5 (E.u (IntKind.wrap .u32 (768 + ((a : Nat) : Int)))) rfl (fun w h => A.hq [0, 1, 3] [2] h) (E.tk 6 (E.i (768 + ((a : Nat) : Int))) rfl (fun w h => A.hq [0, 1, 3] [2] h) (E.tk 7 (E.i (768 + ((a : Nat) : Int))) rfl (fun w h => A.hq [0, 1, 3] [2] h) ?_))))))))))))
   refine E.tk 8 (E.i (IntKind.wrap .i64 ((768 + ((a : Nat) : Int)) * (768 + ((a : Nat) : Int))))) rfl (fun w h => A.hq [0, 1, 3] [2] h) (E.tk 9 (.pointer (some ⟨g1, 2, none⟩)) rfl (fun w h => A.hq [0, 1, 3] [2] h) (E.tj 10 (E.i n2) rfl (fun w h => A.hq [0, 1, 3] [2] h) (fun w h => A.Y.bld h (k := 1) (j := 2) rfl (by kernel_rfl) (by kernel_rfl)) (E.tk 11 (E.i (IntKind.wrap .i64 ((IntKind.wrap .i64 ((768 + ((a : Nat) : Int)) * (768 + ((a : Nat) : Int)))) + n2))) rfl (fun w h => A.hq [0, 1, 3] [2] h) (E.tk 12 (.int .u8 (IntKind.wrap .u8 (IntKind.wrap .i64 ((IntKind.wrap .i64 ((768 + ((a : Nat) : Int)) * (768 + ((a : Nat) : Int)))) + n2)))) rfl (fun w h => A.hq [0, 1, 3] [2] h) (E.al 13 rfl (E.G.buildSlice [.int .u8 (IntKind.wrap .u8 (IntKind.wrap .i64 ((IntKind.wrap .i64 ((768 + ((a : Nat) : Int)) * (768 + ((a : Nat) : Int)))) + n2)))] (by kernel_rfl) (by kernel_rfl) (fun g17 => E.H.back (fun w h => A.hq [1, 2, 4] [0, 3] h) (E.al 14 rfl (E.vl (.string (Q6.lb n2 a)) (fun w h => E.b2s h 0 g17 0 1 1 [(IntKind.wrap .u8 (IntKind.wrap .i64 ((IntKind.wrap .i64 ((768 + ((a : Nat) : Int)) * (768 + ((a : Nat) : Int)))) + n2)))] (e := 5) (by kernel_rfl) (by kernel_rfl) (by kernel_rfl) (by kernel_rfl) rfl (by kernel_rfl) rfl) (E.H.back (fun w h => A.hq [1, 2, 4] [0, 3] h) (E.al 15 rfl ?_)))))))))))
   exact A.G.call (I := Unit) (D := fun _ => True) (V := fun _ => .tuple #[]) (q := fun _ => [R.It i2.2 ((Q6.l5 (Q6.code q n) (n0 % 8) (n1 % 8) n2 a).poke ((IntKind.wrap .u32 (768 + ((a : Nat) : Int)))).toNat (Q6.lb n2 a) (Q6.lb n2 a).size)]) [A.blk g17 ([.int .u8 (IntKind.wrap .u8 (IntKind.wrap .i64 ((IntKind.wrap .i64 ((768 + ((a : Nat) : Int)) * (768 + ((a : Nat) : Int)))) + n2)))]), A.blk i2.1 (Q.S.cells Q.z0 ++ [E.pt i2.2]), A.blk g1 ([E.i n0, E.i n1, E.i n2, E.i n3]), A.facts (M.rowF 5 ad n q)] (fun _ => [(g17, [.int .u8 (IntKind.wrap .u8 (IntKind.wrap .i64 ((IntKind.wrap .i64 ((768 + ((a : Nat) : Int)) * (768 + ((a : Nat) : Int)))) + n2)))]), (i2.1, (Q.S.cells Q.z0 ++ [E.pt i2.2])), (g1, [E.i n0, E.i n1, E.i n2, E.i n3])]) (fun _ => [R.It i2.2 ((Q6.l5 (Q6.code q n) (n0 % 8) (n1 % 8) n2 a).poke ((IntKind.wrap .u32 (768 + ((a : Nat) : Int)))).toNat (Q6.lb n2 a) (Q6.lb n2 a).size), A.facts (M.rowF 5 ad n q)]) (J_Poke (IntKind.wrap .u32 (768 + ((a : Nat) : Int))) (Q6.lb n2 a) (Q.wrap_bd _) (Q6.lb_size _ _) (m := i2.2) (V := (Q6.l5 (Q6.code q n) (n0 % 8) (n1 % 8) n2 a))) (by kernel_rfl) (A.pn [3, 0, 1, 2, 4]) (fun _ => A.pm [1, 2, 3, 0, 4] (by kernel_rfl) (by kernel_rfl)) (fun w _ => by kernel_rfl) (by kernel_rfl) (fun _ hd18 => E.H.back (fun w h => A.hq [1, 2, 4] [0, 3] h) (E.H.done (by kernel_rfl) (E.P.nb (E.To.code (E.C.region (E.op (E.i (768 + ((a : Nat) : Int))) (E.vl (E.i (768 + ((a + 1 : Nat) : Int))) (fun w h => E.run_as (a := E.i (IntKind.wrap .i64 ((768 + ((a : Nat) : Int)) + 1))) (by kernel_rfl) (congrArg (Value.int .i64) (Q6.l59 hk1))) (E.op (E.i (768 + ((a + 1 : Nat) : Int))) (E.To.round (a + 1) Nz.pom (Nz.pom) ⟨by kernel_rfl, by kernel_rfl⟩ Nz.sub (fun _ h => h))))))))))
  refine E.C.exit (E.P.et (E.P.et (E.P.eh (E.To.code (E.sr (E.op (.pointer (some ⟨g1, 3, none⟩)) (E.li (E.i n3) 1 rfl rfl (E.G.call (E.i (n3 % 1000)) (fun w h => Mod_any n3 1000 hn3 (by decide) w) (fun w _ => by kernel_rfl) (by kernel_rfl) (E.vl (Q.S.val (⟨256, (fun _ => 0), 0, (fun _ => 0), (n3 % 1000), 0⟩)) (fun w h => E.run_build (Q.S.cells ⟨256, (fun _ => 0), 0, (fun _ => 0), (n3 % 1000), 0⟩).toArray (by kernel_rfl) w) (E.G.new (fun g => E.pt g) (Q.S.cells Q.z0) 32 (fun w => by kernel_rfl) (by kernel_rfl) (fun g19 => E.st 0 (Q.S.cells (⟨256, (fun _ => 0), 0, (fun _ => 0), (n3 % 1000), 0⟩)) rfl rfl (E.tr (E.op (.pointer (some ⟨g19, 1, none⟩)) (E.op (.pointer (some ⟨g19, 2, none⟩)) (E.st 0 (Q.S.cells (⟨256, (Q.up (fun _ => 0) 1 768), 0, (fun _ => 0), (n3 % 1000), 0⟩)) rfl rfl ?_)))))))))))))))
  refine E.To.code (E.wk [(3, E.pt g1), (4, .pointer none), (5, E.pt i2.1), (10, E.pt g19)] [(g19, (Q.S.cells (⟨256, (Q.up (fun _ => 0) 1 768), 0, (fun _ => 0), (n3 % 1000), 0⟩))), (i2.1, (Q.S.cells Q.z0 ++ [E.pt i2.2])), (g1, [E.i n0, E.i n1, E.i n2, E.i n3])] Nz.sub (E.sr (E.op (.pointer (some ⟨g1, 2, none⟩)) (E.li (E.i n2) 2 rfl rfl (E.G.call (E.i (n2 % 8)) (fun w h => Mod_any n2 8 hn2 (by decide) w) (fun w _ => by kernel_rfl) (by kernel_rfl) (E.op (E.i (IntKind.wrap .i64 (1020 + (n2 % 8)))) (E.op (E.u (IntKind.wrap .u32 (IntKind.wrap .i64 (1020 + (n2 % 8))))) (E.op (.pointer (some ⟨g19, 1, none⟩)) (E.op (.pointer (some ⟨g19, 3, none⟩)) (E.st 0 (Q.S.cells (⟨256, (Q.up (Q.up (fun _ => 0) 1 768) 2 (IntKind.wrap .u32 (IntKind.wrap .i64 (1020 + (n2 % 8))))), 0, (fun _ => 0), (n3 % 1000), 0⟩)) rfl rfl (E.tr ?_)))))))))))
  refine E.vl (.agg #[E.i 256, E.i 1276, E.i 1532, E.i 1790]) (fun w h => E.run_build #[E.i 256, E.i 1276, E.i 1532, E.i 1790] (by kernel_rfl) w) (E.op (.pointer (some ⟨g1, 3, none⟩)) (E.li (E.i n3) 2 rfl rfl (E.G.call (E.i (n3 % 4)) (fun w h => Mod_any n3 4 hn3 (by decide) w) (fun w _ => by kernel_rfl) (by kernel_rfl) (E.vl (E.i (([256, 1276, 1532, 1790] : List Int).getD ((n3 % 4)).toNat 0)) (fun w h => E.aidx _ 4 .i64 (n3 % 4) _ (by kernel_rfl) (by kernel_rfl) Tryz.underlying3 rfl (by kernel_rfl) (by kernel_rfl) (Q.c4 _).1 (Q.c4 _).2 (Q6.a4 (Q.c4 _).1 (Q.c4 _).2) w) (E.op (E.u (IntKind.wrap .u32 (([256, 1276, 1532, 1790] : List Int).getD ((n3 % 4)).toNat 0))) (E.op (.pointer (some ⟨g19, 1, none⟩)) (E.op (.pointer (some ⟨g19, 4, none⟩)) (E.st 0 (Q.S.cells (⟨256, (Q6.lr n0 n1 n2 n3 0), 0, (fun _ => 0), (n3 % 1000), 0⟩)) rfl rfl (E.To.code (E.wk [(3, E.pt g1), (4, .pointer none), (5, E.pt i2.1), (10, E.pt g19)] [(g19, (Q.S.cells (⟨256, (Q6.lr n0 n1 n2 n3 0), 0, (fun _ => 0), (n3 % 1000), 0⟩))), (i2.1, (Q.S.cells Q.z0 ++ [E.pt i2.2])), (g1, [E.i n0, E.i n1, E.i n2, E.i n3])] Nz.sub (E.C.seq ?_)))))))))))
  refine E.sr (E.op (E.i 4) (E.To.code (E.C.block (E.C.rounds 13 (E.C.seq (E.sr (E.op (E.i 4) (E.op (.bool true) (E.To.code (E.C.condT (by kernel_rfl) (by kernel_rfl) (E.C.skip (E.To.code ?_))))))))))))
  refine E.C.seq (E.C.block (E.C.region (E.op (E.i 4) (E.op (E.i 4) (E.op (E.i 0) (E.op (E.pt g1) (E.li (E.i n0) 2 rfl rfl (E.G.call (E.i (n0 % 40)) (fun w h => Mod_any n0 40 hn0 (by decide) w) (fun w _ => by kernel_rfl) (by kernel_rfl) (E.op (E.i 4) (E.op (E.i (-4)) (E.op (E.i (IntKind.wrap .i64 ((n0 % 40) * (-4)))) ?_)))))))))))
  refine E.op (E.u (IntKind.wrap .u32 (IntKind.wrap .i64 ((n0 % 40) * (-4))))) (E.op (.pointer (some ⟨g19, 1, none⟩)) (E.op (.pointer (some ⟨g19, 5, none⟩)) (E.st 0 (Q.S.cells (⟨256, (Q6.lr n0 n1 n2 n3 1), 0, (fun _ => 0), (n3 % 1000), 0⟩)) rfl rfl (E.P.nb (E.To.code (E.C.region (E.op (E.i 4) (E.op (E.i 5) (E.op (E.i 5) (E.To.rounds 12 (E.wk [(3, E.pt g1), (4, .pointer none), (5, E.pt i2.1), (10, E.pt g19), (11, E.i 5), (98, E.i 4), (99, .bool true), (100, E.i 4), (101, E.i 5), (102, E.i 4), (103, E.i 4), (104, E.i 0), (105, E.pt g1), (106, E.i n0), (107, E.i (n0 % 40)), (108, E.i 4), (109, E.i (-4)), (110, E.i (IntKind.wrap .i64 ((n0 % 40) * (-4)))), (111, E.u (IntKind.wrap .u32 (IntKind.wrap .i64 ((n0 % 40) * (-4))))), (112, .pointer (some ⟨g19, 1, none⟩)), (113, .pointer (some ⟨g19, 5, none⟩))] [(g19, (Q.S.cells (⟨256, (Q6.lr n0 n1 n2 n3 1), 0, (fun _ => 0), (n3 % 1000), 0⟩))), (i2.1, (Q.S.cells Q.z0 ++ [E.pt i2.2])), (g1, [E.i n0, E.i n1, E.i n2, E.i n3])] Nz.sub (E.C.seq ?_))))))))))))
  refine E.sr (E.op (E.i 5) (E.op (.bool true) (E.To.code (E.C.condT (by kernel_rfl) (by kernel_rfl) (E.C.skip (E.To.code (E.C.seq (E.C.block (E.C.region (E.op (E.i 5) (E.op (E.i 5) (E.op (E.i 1) ?_))))))))))))
  refine E.op (.pointer (some ⟨g1, 1, none⟩)) (E.li (E.i n1) 2 rfl rfl (E.G.call (E.i (n1 % 40)) (fun w h => Mod_any n1 40 hn1 (by decide) w) (fun w _ => by kernel_rfl) (by kernel_rfl) (E.op (E.i 5) (E.op (E.i (-3)) (E.op (E.i (IntKind.wrap .i64 ((n1 % 40) * (-3)))) (E.op (E.u (IntKind.wrap .u32 (IntKind.wrap .i64 ((n1 % 40) * (-3))))) (E.op (.pointer (some ⟨g19, 1, none⟩)) (E.op (.pointer (some ⟨g19, 6, none⟩)) (E.st 0 (Q.S.cells (⟨256, (Q6.lr n0 n1 n2 n3 2), 0, (fun _ => 0), (n3 % 1000), 0⟩)) rfl rfl (E.P.nb (E.To.code (E.C.region ?_))))))))))))
  refine E.op (E.i 5) (E.op (E.i 6) (E.op (E.i 6) (E.To.rounds 11 (E.wk [(3, E.pt g1), (4, .pointer none), (5, E.pt i2.1), (10, E.pt g19), (11, E.i 6), (98, E.i 5), (99, .bool true), (100, E.i 5), (101, E.i 6), (102, E.i 5), (103, E.i 5), (104, E.i 1), (105, .pointer (some ⟨g1, 1, none⟩)), (106, E.i n1), (107, E.i (n1 % 40)), (108, E.i 5), (109, E.i (-3)), (110, E.i (IntKind.wrap .i64 ((n1 % 40) * (-3)))), (111, E.u (IntKind.wrap .u32 (IntKind.wrap .i64 ((n1 % 40) * (-3))))), (112, .pointer (some ⟨g19, 1, none⟩)), (113, .pointer (some ⟨g19, 6, none⟩))] [(g19, (Q.S.cells (⟨256, (Q6.lr n0 n1 n2 n3 2), 0, (fun _ => 0), (n3 % 1000), 0⟩))), (i2.1, (Q.S.cells Q.z0 ++ [E.pt i2.2])), (g1, [E.i n0, E.i n1, E.i n2, E.i n3])] Nz.sub (E.C.seq (E.sr (E.op (E.i 6) (E.op (.bool true) (E.To.code (E.C.condT (by kernel_rfl) (by kernel_rfl) (E.C.skip (E.To.code ?_))))))))))))
  refine E.C.seq (E.C.block (E.C.region (E.op (E.i 6) (E.op (E.i 6) (E.op (E.i 2) (E.op (.pointer (some ⟨g1, 2, none⟩)) (E.li (E.i n2) 2 rfl rfl (E.G.call (E.i (n2 % 40)) (fun w h => Mod_any n2 40 hn2 (by decide) w) (fun w _ => by kernel_rfl) (by kernel_rfl) (E.op (E.i 6) (E.op (E.i (-2)) (E.op (E.i (IntKind.wrap .i64 ((n2 % 40) * (-2)))) ?_)))))))))))
  refine E.op (E.u (IntKind.wrap .u32 (IntKind.wrap .i64 ((n2 % 40) * (-2))))) (E.op (.pointer (some ⟨g19, 1, none⟩)) (E.op (.pointer (some ⟨g19, 7, none⟩)) (E.st 0 (Q.S.cells (⟨256, (Q6.lr n0 n1 n2 n3 3), 0, (fun _ => 0), (n3 % 1000), 0⟩)) rfl rfl (E.P.nb (E.To.code (E.C.region (E.op (E.i 6) (E.op (E.i 7) (E.op (E.i 7) (E.To.rounds 10 (E.wk [(3, E.pt g1), (4, .pointer none), (5, E.pt i2.1), (10, E.pt g19), (11, E.i 7), (98, E.i 6), (99, .bool true), (100, E.i 6), (101, E.i 7), (102, E.i 6), (103, E.i 6), (104, E.i 2), (105, .pointer (some ⟨g1, 2, none⟩)), (106, E.i n2), (107, E.i (n2 % 40)), (108, E.i 6), (109, E.i (-2)), (110, E.i (IntKind.wrap .i64 ((n2 % 40) * (-2)))), (111, E.u (IntKind.wrap .u32 (IntKind.wrap .i64 ((n2 % 40) * (-2))))), (112, .pointer (some ⟨g19, 1, none⟩)), (113, .pointer (some ⟨g19, 7, none⟩))] [(g19, (Q.S.cells (⟨256, (Q6.lr n0 n1 n2 n3 3), 0, (fun _ => 0), (n3 % 1000), 0⟩))), (i2.1, (Q.S.cells Q.z0 ++ [E.pt i2.2])), (g1, [E.i n0, E.i n1, E.i n2, E.i n3])] Nz.sub (E.C.seq ?_))))))))))))
  refine E.sr (E.op (E.i 7) (E.op (.bool true) (E.To.code (E.C.condT (by kernel_rfl) (by kernel_rfl) (E.C.skip (E.To.code (E.C.seq (E.C.block (E.C.region (E.op (E.i 7) (E.op (E.i 7) (E.op (E.i 3) ?_))))))))))))
  refine E.op (.pointer (some ⟨g1, 3, none⟩)) (E.li (E.i n3) 2 rfl rfl (E.G.call (E.i (n3 % 40)) (fun w h => Mod_any n3 40 hn3 (by decide) w) (fun w _ => by kernel_rfl) (by kernel_rfl) (E.op (E.i 7) (E.op (E.i (-1)) (E.op (E.i (IntKind.wrap .i64 ((n3 % 40) * (-1)))) (E.op (E.u (IntKind.wrap .u32 (IntKind.wrap .i64 ((n3 % 40) * (-1))))) (E.op (.pointer (some ⟨g19, 1, none⟩)) (E.op (.pointer (some ⟨g19, 8, none⟩)) (E.st 0 (Q.S.cells (⟨256, (Q6.lr n0 n1 n2 n3 4), 0, (fun _ => 0), (n3 % 1000), 0⟩)) rfl rfl (E.P.nb (E.To.code (E.C.region ?_))))))))))))
  refine E.op (E.i 7) (E.op (E.i 8) (E.op (E.i 8) (E.To.rounds 9 (E.wk [(3, E.pt g1), (4, .pointer none), (5, E.pt i2.1), (10, E.pt g19), (11, E.i 8), (98, E.i 7), (99, .bool true), (100, E.i 7), (101, E.i 8), (102, E.i 7), (103, E.i 7), (104, E.i 3), (105, .pointer (some ⟨g1, 3, none⟩)), (106, E.i n3), (107, E.i (n3 % 40)), (108, E.i 7), (109, E.i (-1)), (110, E.i (IntKind.wrap .i64 ((n3 % 40) * (-1)))), (111, E.u (IntKind.wrap .u32 (IntKind.wrap .i64 ((n3 % 40) * (-1))))), (112, .pointer (some ⟨g19, 1, none⟩)), (113, .pointer (some ⟨g19, 8, none⟩))] [(g19, (Q.S.cells (⟨256, (Q6.lr n0 n1 n2 n3 4), 0, (fun _ => 0), (n3 % 1000), 0⟩))), (i2.1, (Q.S.cells Q.z0 ++ [E.pt i2.2])), (g1, [E.i n0, E.i n1, E.i n2, E.i n3])] Nz.sub (E.C.seq (E.sr (E.op (E.i 8) (E.op (.bool true) (E.To.code (E.C.condT (by kernel_rfl) (by kernel_rfl) (E.C.skip (E.To.code ?_))))))))))))
  refine E.C.seq (E.C.block (E.C.region (E.op (E.i 8) (E.op (E.i 8) (E.op (E.i 0) (E.op (E.pt g1) (E.li (E.i n0) 2 rfl rfl (E.G.call (E.i (n0 % 40)) (fun w h => Mod_any n0 40 hn0 (by decide) w) (fun w _ => by kernel_rfl) (by kernel_rfl) (E.op (E.i 8) (E.op (E.i 0) (E.op (E.i (IntKind.wrap .i64 ((n0 % 40) * 0))) ?_)))))))))))
  refine E.op (E.u (IntKind.wrap .u32 (IntKind.wrap .i64 ((n0 % 40) * 0)))) (E.op (.pointer (some ⟨g19, 1, none⟩)) (E.op (.pointer (some ⟨g19, 9, none⟩)) (E.st 0 (Q.S.cells (⟨256, (Q6.lr n0 n1 n2 n3 5), 0, (fun _ => 0), (n3 % 1000), 0⟩)) rfl rfl (E.P.nb (E.To.code (E.C.region (E.op (E.i 8) (E.op (E.i 9) (E.op (E.i 9) (E.To.rounds 8 (E.wk [(3, E.pt g1), (4, .pointer none), (5, E.pt i2.1), (10, E.pt g19), (11, E.i 9), (98, E.i 8), (99, .bool true), (100, E.i 8), (101, E.i 9), (102, E.i 8), (103, E.i 8), (104, E.i 0), (105, E.pt g1), (106, E.i n0), (107, E.i (n0 % 40)), (108, E.i 8), (109, E.i 0), (110, E.i (IntKind.wrap .i64 ((n0 % 40) * 0))), (111, E.u (IntKind.wrap .u32 (IntKind.wrap .i64 ((n0 % 40) * 0)))), (112, .pointer (some ⟨g19, 1, none⟩)), (113, .pointer (some ⟨g19, 9, none⟩))] [(g19, (Q.S.cells (⟨256, (Q6.lr n0 n1 n2 n3 5), 0, (fun _ => 0), (n3 % 1000), 0⟩))), (i2.1, (Q.S.cells Q.z0 ++ [E.pt i2.2])), (g1, [E.i n0, E.i n1, E.i n2, E.i n3])] Nz.sub (E.C.seq ?_))))))))))))
  refine E.sr (E.op (E.i 9) (E.op (.bool true) (E.To.code (E.C.condT (by kernel_rfl) (by kernel_rfl) (E.C.skip (E.To.code (E.C.seq (E.C.block (E.C.region (E.op (E.i 9) (E.op (E.i 9) (E.op (E.i 1) ?_))))))))))))
  refine E.op (.pointer (some ⟨g1, 1, none⟩)) (E.li (E.i n1) 2 rfl rfl (E.G.call (E.i (n1 % 40)) (fun w h => Mod_any n1 40 hn1 (by decide) w) (fun w _ => by kernel_rfl) (by kernel_rfl) (E.op (E.i 9) (E.op (E.i 1) (E.op (E.i (IntKind.wrap .i64 ((n1 % 40) * 1))) (E.op (E.u (IntKind.wrap .u32 (IntKind.wrap .i64 ((n1 % 40) * 1)))) (E.op (.pointer (some ⟨g19, 1, none⟩)) (E.op (.pointer (some ⟨g19, 10, none⟩)) (E.st 0 (Q.S.cells (⟨256, (Q6.lr n0 n1 n2 n3 6), 0, (fun _ => 0), (n3 % 1000), 0⟩)) rfl rfl (E.P.nb (E.To.code (E.C.region ?_))))))))))))
  refine E.op (E.i 9) (E.op (E.i 10) (E.op (E.i 10) (E.To.rounds 7 (E.wk [(3, E.pt g1), (4, .pointer none), (5, E.pt i2.1), (10, E.pt g19), (11, E.i 10), (98, E.i 9), (99, .bool true), (100, E.i 9), (101, E.i 10), (102, E.i 9), (103, E.i 9), (104, E.i 1), (105, .pointer (some ⟨g1, 1, none⟩)), (106, E.i n1), (107, E.i (n1 % 40)), (108, E.i 9), (109, E.i 1), (110, E.i (IntKind.wrap .i64 ((n1 % 40) * 1))), (111, E.u (IntKind.wrap .u32 (IntKind.wrap .i64 ((n1 % 40) * 1)))), (112, .pointer (some ⟨g19, 1, none⟩)), (113, .pointer (some ⟨g19, 10, none⟩))] [(g19, (Q.S.cells (⟨256, (Q6.lr n0 n1 n2 n3 6), 0, (fun _ => 0), (n3 % 1000), 0⟩))), (i2.1, (Q.S.cells Q.z0 ++ [E.pt i2.2])), (g1, [E.i n0, E.i n1, E.i n2, E.i n3])] Nz.sub (E.C.seq (E.sr (E.op (E.i 10) (E.op (.bool true) (E.To.code (E.C.condT (by kernel_rfl) (by kernel_rfl) (E.C.skip (E.To.code ?_))))))))))))
  refine E.C.seq (E.C.block (E.C.region (E.op (E.i 10) (E.op (E.i 10) (E.op (E.i 2) (E.op (.pointer (some ⟨g1, 2, none⟩)) (E.li (E.i n2) 2 rfl rfl (E.G.call (E.i (n2 % 40)) (fun w h => Mod_any n2 40 hn2 (by decide) w) (fun w _ => by kernel_rfl) (by kernel_rfl) (E.op (E.i 10) (E.op (E.i 2) (E.op (E.i (IntKind.wrap .i64 ((n2 % 40) * 2))) ?_)))))))))))
  refine E.op (E.u (IntKind.wrap .u32 (IntKind.wrap .i64 ((n2 % 40) * 2)))) (E.op (.pointer (some ⟨g19, 1, none⟩)) (E.op (.pointer (some ⟨g19, 11, none⟩)) (E.st 0 (Q.S.cells (⟨256, (Q6.lr n0 n1 n2 n3 7), 0, (fun _ => 0), (n3 % 1000), 0⟩)) rfl rfl (E.P.nb (E.To.code (E.C.region (E.op (E.i 10) (E.op (E.i 11) (E.op (E.i 11) (E.To.rounds 6 (E.wk [(3, E.pt g1), (4, .pointer none), (5, E.pt i2.1), (10, E.pt g19), (11, E.i 11), (98, E.i 10), (99, .bool true), (100, E.i 10), (101, E.i 11), (102, E.i 10), (103, E.i 10), (104, E.i 2), (105, .pointer (some ⟨g1, 2, none⟩)), (106, E.i n2), (107, E.i (n2 % 40)), (108, E.i 10), (109, E.i 2), (110, E.i (IntKind.wrap .i64 ((n2 % 40) * 2))), (111, E.u (IntKind.wrap .u32 (IntKind.wrap .i64 ((n2 % 40) * 2)))), (112, .pointer (some ⟨g19, 1, none⟩)), (113, .pointer (some ⟨g19, 11, none⟩))] [(g19, (Q.S.cells (⟨256, (Q6.lr n0 n1 n2 n3 7), 0, (fun _ => 0), (n3 % 1000), 0⟩))), (i2.1, (Q.S.cells Q.z0 ++ [E.pt i2.2])), (g1, [E.i n0, E.i n1, E.i n2, E.i n3])] Nz.sub (E.C.seq ?_))))))))))))
  refine E.sr (E.op (E.i 11) (E.op (.bool true) (E.To.code (E.C.condT (by kernel_rfl) (by kernel_rfl) (E.C.skip (E.To.code (E.C.seq (E.C.block (E.C.region (E.op (E.i 11) (E.op (E.i 11) (E.op (E.i 3) ?_))))))))))))
  refine E.op (.pointer (some ⟨g1, 3, none⟩)) (E.li (E.i n3) 2 rfl rfl (E.G.call (E.i (n3 % 40)) (fun w h => Mod_any n3 40 hn3 (by decide) w) (fun w _ => by kernel_rfl) (by kernel_rfl) (E.op (E.i 11) (E.op (E.i 3) (E.op (E.i (IntKind.wrap .i64 ((n3 % 40) * 3))) (E.op (E.u (IntKind.wrap .u32 (IntKind.wrap .i64 ((n3 % 40) * 3)))) (E.op (.pointer (some ⟨g19, 1, none⟩)) (E.op (.pointer (some ⟨g19, 12, none⟩)) (E.st 0 (Q.S.cells (⟨256, (Q6.lr n0 n1 n2 n3 8), 0, (fun _ => 0), (n3 % 1000), 0⟩)) rfl rfl (E.P.nb (E.To.code (E.C.region ?_))))))))))))
  refine E.op (E.i 11) (E.op (E.i 12) (E.op (E.i 12) (E.To.rounds 5 (E.wk [(3, E.pt g1), (4, .pointer none), (5, E.pt i2.1), (10, E.pt g19), (11, E.i 12), (98, E.i 11), (99, .bool true), (100, E.i 11), (101, E.i 12), (102, E.i 11), (103, E.i 11), (104, E.i 3), (105, .pointer (some ⟨g1, 3, none⟩)), (106, E.i n3), (107, E.i (n3 % 40)), (108, E.i 11), (109, E.i 3), (110, E.i (IntKind.wrap .i64 ((n3 % 40) * 3))), (111, E.u (IntKind.wrap .u32 (IntKind.wrap .i64 ((n3 % 40) * 3)))), (112, .pointer (some ⟨g19, 1, none⟩)), (113, .pointer (some ⟨g19, 12, none⟩))] [(g19, (Q.S.cells (⟨256, (Q6.lr n0 n1 n2 n3 8), 0, (fun _ => 0), (n3 % 1000), 0⟩))), (i2.1, (Q.S.cells Q.z0 ++ [E.pt i2.2])), (g1, [E.i n0, E.i n1, E.i n2, E.i n3])] Nz.sub (E.C.seq (E.sr (E.op (E.i 12) (E.op (.bool true) (E.To.code (E.C.condT (by kernel_rfl) (by kernel_rfl) (E.C.skip (E.To.code ?_))))))))))))
  refine E.C.seq (E.C.block (E.C.region (E.op (E.i 12) (E.op (E.i 12) (E.op (E.i 0) (E.op (E.pt g1) (E.li (E.i n0) 2 rfl rfl (E.G.call (E.i (n0 % 40)) (fun w h => Mod_any n0 40 hn0 (by decide) w) (fun w _ => by kernel_rfl) (by kernel_rfl) (E.op (E.i 12) (E.op (E.i 4) (E.op (E.i (IntKind.wrap .i64 ((n0 % 40) * 4))) ?_)))))))))))
  refine E.op (E.u (IntKind.wrap .u32 (IntKind.wrap .i64 ((n0 % 40) * 4)))) (E.op (.pointer (some ⟨g19, 1, none⟩)) (E.op (.pointer (some ⟨g19, 13, none⟩)) (E.st 0 (Q.S.cells (⟨256, (Q6.lr n0 n1 n2 n3 9), 0, (fun _ => 0), (n3 % 1000), 0⟩)) rfl rfl (E.P.nb (E.To.code (E.C.region (E.op (E.i 12) (E.op (E.i 13) (E.op (E.i 13) (E.To.rounds 4 (E.wk [(3, E.pt g1), (4, .pointer none), (5, E.pt i2.1), (10, E.pt g19), (11, E.i 13), (98, E.i 12), (99, .bool true), (100, E.i 12), (101, E.i 13), (102, E.i 12), (103, E.i 12), (104, E.i 0), (105, E.pt g1), (106, E.i n0), (107, E.i (n0 % 40)), (108, E.i 12), (109, E.i 4), (110, E.i (IntKind.wrap .i64 ((n0 % 40) * 4))), (111, E.u (IntKind.wrap .u32 (IntKind.wrap .i64 ((n0 % 40) * 4)))), (112, .pointer (some ⟨g19, 1, none⟩)), (113, .pointer (some ⟨g19, 13, none⟩))] [(g19, (Q.S.cells (⟨256, (Q6.lr n0 n1 n2 n3 9), 0, (fun _ => 0), (n3 % 1000), 0⟩))), (i2.1, (Q.S.cells Q.z0 ++ [E.pt i2.2])), (g1, [E.i n0, E.i n1, E.i n2, E.i n3])] Nz.sub (E.C.seq ?_))))))))))))
  refine E.sr (E.op (E.i 13) (E.op (.bool true) (E.To.code (E.C.condT (by kernel_rfl) (by kernel_rfl) (E.C.skip (E.To.code (E.C.seq (E.C.block (E.C.region (E.op (E.i 13) (E.op (E.i 13) (E.op (E.i 1) ?_))))))))))))
  refine E.op (.pointer (some ⟨g1, 1, none⟩)) (E.li (E.i n1) 2 rfl rfl (E.G.call (E.i (n1 % 40)) (fun w h => Mod_any n1 40 hn1 (by decide) w) (fun w _ => by kernel_rfl) (by kernel_rfl) (E.op (E.i 13) (E.op (E.i 5) (E.op (E.i (IntKind.wrap .i64 ((n1 % 40) * 5))) (E.op (E.u (IntKind.wrap .u32 (IntKind.wrap .i64 ((n1 % 40) * 5)))) (E.op (.pointer (some ⟨g19, 1, none⟩)) (E.op (.pointer (some ⟨g19, 14, none⟩)) (E.st 0 (Q.S.cells (⟨256, (Q6.lr n0 n1 n2 n3 10), 0, (fun _ => 0), (n3 % 1000), 0⟩)) rfl rfl (E.P.nb (E.To.code (E.C.region ?_))))))))))))
  refine E.op (E.i 13) (E.op (E.i 14) (E.op (E.i 14) (E.To.rounds 3 (E.wk [(3, E.pt g1), (4, .pointer none), (5, E.pt i2.1), (10, E.pt g19), (11, E.i 14), (98, E.i 13), (99, .bool true), (100, E.i 13), (101, E.i 14), (102, E.i 13), (103, E.i 13), (104, E.i 1), (105, .pointer (some ⟨g1, 1, none⟩)), (106, E.i n1), (107, E.i (n1 % 40)), (108, E.i 13), (109, E.i 5), (110, E.i (IntKind.wrap .i64 ((n1 % 40) * 5))), (111, E.u (IntKind.wrap .u32 (IntKind.wrap .i64 ((n1 % 40) * 5)))), (112, .pointer (some ⟨g19, 1, none⟩)), (113, .pointer (some ⟨g19, 14, none⟩))] [(g19, (Q.S.cells (⟨256, (Q6.lr n0 n1 n2 n3 10), 0, (fun _ => 0), (n3 % 1000), 0⟩))), (i2.1, (Q.S.cells Q.z0 ++ [E.pt i2.2])), (g1, [E.i n0, E.i n1, E.i n2, E.i n3])] Nz.sub (E.C.seq (E.sr (E.op (E.i 14) (E.op (.bool true) (E.To.code (E.C.condT (by kernel_rfl) (by kernel_rfl) (E.C.skip (E.To.code ?_))))))))))))
  refine E.C.seq (E.C.block (E.C.region (E.op (E.i 14) (E.op (E.i 14) (E.op (E.i 2) (E.op (.pointer (some ⟨g1, 2, none⟩)) (E.li (E.i n2) 2 rfl rfl (E.G.call (E.i (n2 % 40)) (fun w h => Mod_any n2 40 hn2 (by decide) w) (fun w _ => by kernel_rfl) (by kernel_rfl) (E.op (E.i 14) (E.op (E.i 6) (E.op (E.i (IntKind.wrap .i64 ((n2 % 40) * 6))) ?_)))))))))))
  refine E.op (E.u (IntKind.wrap .u32 (IntKind.wrap .i64 ((n2 % 40) * 6)))) (E.op (.pointer (some ⟨g19, 1, none⟩)) (E.op (.pointer (some ⟨g19, 15, none⟩)) (E.st 0 (Q.S.cells (⟨256, (Q6.lr n0 n1 n2 n3 11), 0, (fun _ => 0), (n3 % 1000), 0⟩)) rfl rfl (E.P.nb (E.To.code (E.C.region (E.op (E.i 14) (E.op (E.i 15) (E.op (E.i 15) (E.To.rounds 2 (E.wk [(3, E.pt g1), (4, .pointer none), (5, E.pt i2.1), (10, E.pt g19), (11, E.i 15), (98, E.i 14), (99, .bool true), (100, E.i 14), (101, E.i 15), (102, E.i 14), (103, E.i 14), (104, E.i 2), (105, .pointer (some ⟨g1, 2, none⟩)), (106, E.i n2), (107, E.i (n2 % 40)), (108, E.i 14), (109, E.i 6), (110, E.i (IntKind.wrap .i64 ((n2 % 40) * 6))), (111, E.u (IntKind.wrap .u32 (IntKind.wrap .i64 ((n2 % 40) * 6)))), (112, .pointer (some ⟨g19, 1, none⟩)), (113, .pointer (some ⟨g19, 15, none⟩))] [(g19, (Q.S.cells (⟨256, (Q6.lr n0 n1 n2 n3 11), 0, (fun _ => 0), (n3 % 1000), 0⟩))), (i2.1, (Q.S.cells Q.z0 ++ [E.pt i2.2])), (g1, [E.i n0, E.i n1, E.i n2, E.i n3])] Nz.sub (E.C.seq ?_))))))))))))
  refine E.sr (E.op (E.i 15) (E.op (.bool true) (E.To.code (E.C.condT (by kernel_rfl) (by kernel_rfl) (E.C.skip (E.To.code (E.C.seq (E.C.block (E.C.region (E.op (E.i 15) (E.op (E.i 15) (E.op (E.i 3) ?_))))))))))))
  refine E.op (.pointer (some ⟨g1, 3, none⟩)) (E.li (E.i n3) 2 rfl rfl (E.G.call (E.i (n3 % 40)) (fun w h => Mod_any n3 40 hn3 (by decide) w) (fun w _ => by kernel_rfl) (by kernel_rfl) (E.op (E.i 15) (E.op (E.i 7) (E.op (E.i (IntKind.wrap .i64 ((n3 % 40) * 7))) (E.op (E.u (IntKind.wrap .u32 (IntKind.wrap .i64 ((n3 % 40) * 7)))) (E.op (.pointer (some ⟨g19, 1, none⟩)) (E.op (.pointer (some ⟨g19, 16, none⟩)) (E.st 0 (Q.S.cells (⟨256, (Q6.lr n0 n1 n2 n3 12), 0, (fun _ => 0), (n3 % 1000), 0⟩)) rfl rfl (E.P.nb (E.To.code (E.C.region ?_))))))))))))
  refine E.op (E.i 15) (E.op (E.i 16) (E.op (E.i 16) (E.To.rounds 1 (E.wk [(3, E.pt g1), (4, .pointer none), (5, E.pt i2.1), (10, E.pt g19), (11, E.i 16), (98, E.i 15), (99, .bool true), (100, E.i 15), (101, E.i 16), (102, E.i 15), (103, E.i 15), (104, E.i 3), (105, .pointer (some ⟨g1, 3, none⟩)), (106, E.i n3), (107, E.i (n3 % 40)), (108, E.i 15), (109, E.i 7), (110, E.i (IntKind.wrap .i64 ((n3 % 40) * 7))), (111, E.u (IntKind.wrap .u32 (IntKind.wrap .i64 ((n3 % 40) * 7)))), (112, .pointer (some ⟨g19, 1, none⟩)), (113, .pointer (some ⟨g19, 16, none⟩))] [(g19, (Q.S.cells (⟨256, (Q6.lr n0 n1 n2 n3 12), 0, (fun _ => 0), (n3 % 1000), 0⟩))), (i2.1, (Q.S.cells Q.z0 ++ [E.pt i2.2])), (g1, [E.i n0, E.i n1, E.i n2, E.i n3])] Nz.sub (E.C.seq (E.sr (E.op (E.i 16) (E.op (.bool false) (E.To.code (E.C.condF (by kernel_rfl) (by kernel_rfl) (E.C.exit (E.P.et (E.P.et (E.P.eh (E.To.code ?_)))))))))))))))
  refine E.wk [(4, .pointer none), (5, E.pt i2.1), (10, E.pt g19)] [(g19, (Q.S.cells (⟨256, (Q6.lr n0 n1 n2 n3 12), 0, (fun _ => 0), (n3 % 1000), 0⟩))), (i2.1, (Q.S.cells Q.z0 ++ [E.pt i2.2]))] Nz.sub (E.sr (E.op (.pointer (some ⟨g19, 18, none⟩)) (E.op (.pointer (some ⟨g19, 19, none⟩)) (E.st 0 (Q.S.cells (⟨256, (Q6.lr n0 n1 n2 n3 12), 0, (Q.up (fun _ => 0) 1 261), (n3 % 1000), 0⟩)) rfl rfl (E.tr (E.op (E.pt i2.1) (E.li (Q.S.val (⟨256, (Q6.lr n0 n1 n2 n3 12), 0, (Q.up (fun _ => 0) 1 261), (n3 % 1000), 0⟩)) 0 rfl rfl (A.G.call (I := Unit) (D := fun _ => True) (V := fun _ => .tuple #[]) (q := fun _ => [A.blk i2.1 (Q.S.cells (Q6.lS n0 n1 n2 n3) ++ [E.pt i2.2])]) [A.blk g19 (Q.S.cells (⟨256, (Q6.lr n0 n1 n2 n3 12), 0, (Q.up (fun _ => 0) 1 261), (n3 % 1000), 0⟩)), R.It i2.2 (Q6.l5 (Q6.code q n) (n0 % 8) (n1 % 8) n2 a), A.facts (M.rowF 5 ad n q)] (fun _ => [(i2.1, (Q.S.cells (Q6.lS n0 n1 n2 n3) ++ [E.pt i2.2])), (g19, (Q.S.cells (⟨256, (Q6.lr n0 n1 n2 n3 12), 0, (Q.up (fun _ => 0) 1 261), (n3 % 1000), 0⟩)))]) (fun _ => [R.It i2.2 (Q6.l5 (Q6.code q n) (n0 % 8) (n1 % 8) n2 a), A.facts (M.rowF 5 ad n q)]) (CSet6 (r := i2.1) (p := E.pt i2.2) (s0 := Q.z0) (⟨256, (Q6.lr n0 n1 n2 n3 12), 0, (Q.up (fun _ => 0) 1 261), (n3 % 1000), 0⟩)) (by kernel_rfl) (A.pn [1, 0, 2, 3]) (fun _ => A.pm [0, 1, 2, 3] (by kernel_rfl) (by kernel_rfl)) (fun w _ => by kernel_rfl) (by kernel_rfl) (fun _ hd20 => E.tr (E.op (E.pt i2.1) (E.op (E.pt i2.1) ?_)))))))))))
  refine E.To.code (E.wk [(4, E.pt i2.1)] [(i2.1, (Q.S.cells (Q6.lS n0 n1 n2 n3) ++ [E.pt i2.2]))] Nz.sub (E.C.ret (E.bd Tryz.f9 [E.pt i2.1] ?_)))
  intro w h
  obtain rfl := Q6.l64 hk1 hc16
  exact ⟨(i2.1, i2.2), trivial, rfl, A.dq [2, 0, 1] [] h⟩
 have nd3 : ∀ (v1_g_7_1 : Nat), H 1 (E.bits 9 255) [(3, E.pt g1), (4, .pointer none), (5, E.pt i2.1), (7, E.pt v1_g_7_1), (43, .agg #[E.i 0, E.i 7, E.i 7, E.i 3, E.i 3, E.i (n0 % 8), E.i (n1 % 8)])] (A.X w oo aa [R.It i2.2 (Q6.l3 (Q6.code q n)), A.facts (M.rowF 5 ad n q)]) [(v1_g_7_1, [E.i 0, E.i 0, E.i 0, E.i 0, E.i 0, E.i 0, E.i 0]), (i2.1, (Q.S.cells Q.z0 ++ [E.pt i2.2])), (g1, [E.i n0, E.i n1, E.i n2, E.i n3])] := by
  intro v1_g_7_1
  exact up _ _ _ _ _ (E.al 8 rfl (E.st 0 [E.i 0, E.i 7, E.i 7, E.i 3, E.i 3, E.i (n0 % 8), E.i (n1 % 8)] rfl rfl (E.H.back (fun w h => A.hq [1, 2, 4] [0, 3] h) (E.H.to _ _ _ (by kernel_rfl) ⟨by kernel_rfl, by kernel_rfl⟩ Nz.sub (dn _ _ _ _ _ (nd4 v1_g_7_1))))))
 have nd2 : H 2 (E.bits 9 127) [(3, E.pt g1), (4, .pointer none), (5, E.pt i2.1), (43, .agg #[E.i 0, E.i 7, E.i 7, E.i 3, E.i 3, E.i (n0 % 8), E.i (n1 % 8)])] (A.X w oo aa [R.It i2.2 (Q6.l3 (Q6.code q n)), A.facts (M.rowF 5 ad n q)]) [(i2.1, (Q.S.cells Q.z0 ++ [E.pt i2.2])), (g1, [E.i n0, E.i n1, E.i n2, E.i n3])] := by
  exact up _ _ _ _ _ (E.al 7 rfl (E.G.new (fun g => E.pt g) [E.i 0, E.i 0, E.i 0, E.i 0, E.i 0, E.i 0, E.i 0] 92 (fun w => by kernel_rfl) (by kernel_rfl) (fun v1_g_7_1 => E.H.back (fun w h => A.hq [1, 2, 4] [0, 3] h) (E.H.to _ _ _ (by kernel_rfl) ⟨by kernel_rfl, by kernel_rfl⟩ Nz.sub (dn _ _ _ _ _ (nd3 v1_g_7_1))))))
 have nd5 : ∀ (v1_g_7_1 : Nat), H 2 (E.bits 9 191) [(3, E.pt g1), (4, .pointer none), (5, E.pt i2.1), (7, E.pt v1_g_7_1), (39, E.i (n0 % 8)), (42, E.i (n1 % 8))] (A.X w oo aa [R.It i2.2 (Q6.l3 (Q6.code q n)), A.facts (M.rowF 5 ad n q)]) [(v1_g_7_1, [E.i 0, E.i 0, E.i 0, E.i 0, E.i 0, E.i 0, E.i 0]), (i2.1, (Q.S.cells Q.z0 ++ [E.pt i2.2])), (g1, [E.i n0, E.i n1, E.i n2, E.i n3])] := by
  intro v1_g_7_1
  exact up _ _ _ _ _ (E.al 6 rfl (E.vl (.agg #[E.i 0, E.i 7, E.i 7, E.i 3, E.i 3, E.i (n0 % 8), E.i (n1 % 8)]) (fun w h => E.run_build #[E.i 0, E.i 7, E.i 7, E.i 3, E.i 3, E.i (n0 % 8), E.i (n1 % 8)] (by kernel_rfl) w) (E.H.back (fun w h => A.hq [1, 2, 4] [0, 3] h) (E.H.to _ _ _ (by kernel_rfl) ⟨by kernel_rfl, by kernel_rfl⟩ Nz.sub (dn _ _ _ _ _ (nd3 v1_g_7_1))))))
 have nd1 : H 3 (E.bits 9 63) [(3, E.pt g1), (4, .pointer none), (5, E.pt i2.1), (39, E.i (n0 % 8)), (42, E.i (n1 % 8))] (A.X w oo aa [R.It i2.2 (Q6.l3 (Q6.code q n)), A.facts (M.rowF 5 ad n q)]) [(i2.1, (Q.S.cells Q.z0 ++ [E.pt i2.2])), (g1, [E.i n0, E.i n1, E.i n2, E.i n3])] := by
  refine up _ _ _ _ _ (E.H.all [6, 7] (by kernel_rfl) (by simp) (List.forall_mem_cons.2 ⟨⟨_, rfl, ?_⟩, List.forall_mem_cons.2 ⟨⟨_, rfl, ?_⟩, fun _ h => (List.not_mem_nil h).elim⟩⟩))
  ·
   exact E.vl (.agg #[E.i 0, E.i 7, E.i 7, E.i 3, E.i 3, E.i (n0 % 8), E.i (n1 % 8)]) (fun w h => E.run_build #[E.i 0, E.i 7, E.i 7, E.i 3, E.i 3, E.i (n0 % 8), E.i (n1 % 8)] (by kernel_rfl) w) (E.H.back (fun w h => A.hq [0, 1, 3] [2] h) (E.H.to _ _ _ (by kernel_rfl) ⟨by kernel_rfl, by kernel_rfl⟩ Nz.sub (dn _ _ _ _ _ (nd2))))
  exact E.G.new (fun g => E.pt g) [E.i 0, E.i 0, E.i 0, E.i 0, E.i 0, E.i 0, E.i 0] 92 (fun w => by kernel_rfl) (by kernel_rfl) (fun v1_g_7_1 => E.H.back (fun w h => A.hq [1, 2, 4] [0, 3] h) (E.H.to _ _ _ (by kernel_rfl) ⟨by kernel_rfl, by kernel_rfl⟩ Nz.sub (dn _ _ _ _ _ (nd5 v1_g_7_1))))
 have nd6 : ∀ (v1_g_7_1 : Nat), H 3 (E.bits 9 159) [(3, E.pt g1), (4, .pointer none), (5, E.pt i2.1), (7, E.pt v1_g_7_1), (39, E.i (n0 % 8)), (41, E.i n1)] (A.X w oo aa [R.It i2.2 (Q6.l3 (Q6.code q n)), A.facts (M.rowF 5 ad n q)]) [(v1_g_7_1, [E.i 0, E.i 0, E.i 0, E.i 0, E.i 0, E.i 0, E.i 0]), (i2.1, (Q.S.cells Q.z0 ++ [E.pt i2.2])), (g1, [E.i n0, E.i n1, E.i n2, E.i n3])] := by
  intro v1_g_7_1
  exact up _ _ _ _ _ (E.al 5 rfl (E.G.call (E.i (n1 % 8)) (fun w h => Mod_any n1 8 hn1 (by decide) w) (fun w _ => by kernel_rfl) (by kernel_rfl) (E.H.back (fun w h => A.hq [1, 2, 4] [0, 3] h) (E.H.to _ _ _ (by kernel_rfl) ⟨by kernel_rfl, by kernel_rfl⟩ Nz.sub (dn _ _ _ _ _ (nd5 v1_g_7_1))))))
 have nd0 : H 4 (E.bits 9 31) [(3, E.pt g1), (4, .pointer none), (5, E.pt i2.1), (39, E.i (n0 % 8)), (41, E.i n1)] (A.X w oo aa [R.It i2.2 (Q6.l3 (Q6.code q n)), A.facts (M.rowF 5 ad n q)]) [(i2.1, (Q.S.cells Q.z0 ++ [E.pt i2.2])), (g1, [E.i n0, E.i n1, E.i n2, E.i n3])] := by
  refine up _ _ _ _ _ (E.H.all [5, 7] (by kernel_rfl) (by simp) (List.forall_mem_cons.2 ⟨⟨_, rfl, ?_⟩, List.forall_mem_cons.2 ⟨⟨_, rfl, ?_⟩, fun _ h => (List.not_mem_nil h).elim⟩⟩))
  ·
   exact E.G.call (E.i (n1 % 8)) (fun w h => Mod_any n1 8 hn1 (by decide) w) (fun w _ => by kernel_rfl) (by kernel_rfl) (E.H.back (fun w h => A.hq [0, 1, 3] [2] h) (E.H.to _ _ _ (by kernel_rfl) ⟨by kernel_rfl, by kernel_rfl⟩ Nz.sub (dn _ _ _ _ _ (nd1))))
  exact E.G.new (fun g => E.pt g) [E.i 0, E.i 0, E.i 0, E.i 0, E.i 0, E.i 0, E.i 0] 92 (fun w => by kernel_rfl) (by kernel_rfl) (fun v1_g_7_1 => E.H.back (fun w h => A.hq [1, 2, 4] [0, 3] h) (E.H.to _ _ _ (by kernel_rfl) ⟨by kernel_rfl, by kernel_rfl⟩ Nz.sub (dn _ _ _ _ _ (nd6 v1_g_7_1))))
 have nd7 : ∀ (v1_g_7_1 : Nat), H 4 (E.bits 9 155) [(3, E.pt g1), (4, .pointer none), (5, E.pt i2.1), (7, E.pt v1_g_7_1), (38, E.i n0), (41, E.i n1)] (A.X w oo aa [R.It i2.2 (Q6.l3 (Q6.code q n)), A.facts (M.rowF 5 ad n q)]) [(v1_g_7_1, [E.i 0, E.i 0, E.i 0, E.i 0, E.i 0, E.i 0, E.i 0]), (i2.1, (Q.S.cells Q.z0 ++ [E.pt i2.2])), (g1, [E.i n0, E.i n1, E.i n2, E.i n3])] := by
  intro v1_g_7_1
  exact up _ _ _ _ _ (E.al 2 rfl (E.G.call (E.i (n0 % 8)) (fun w h => Mod_any n0 8 hn0 (by decide) w) (fun w _ => by kernel_rfl) (by kernel_rfl) (E.H.back (fun w h => A.hq [1, 2, 4] [0, 3] h) (E.H.to _ _ _ (by kernel_rfl) ⟨by kernel_rfl, by kernel_rfl⟩ Nz.sub (dn _ _ _ _ _ (nd6 v1_g_7_1))))))
 refine up _ _ _ _ _ (E.tk 0 (E.pt g1) rfl (fun w h => A.hq [0, 1, 3] [2] h) (E.tj 1 (E.i n0) rfl (fun w h => A.hq [0, 1, 3] [2] h) (fun w h => A.Y.bld h (k := 1) (j := 0) rfl (by kernel_rfl) (by kernel_rfl)) (E.tk 3 (.pointer (some ⟨g1, 1, none⟩)) rfl (fun w h => A.hq [0, 1, 3] [2] h) (E.tj 4 (E.i n1) rfl (fun w h => A.hq [0, 1, 3] [2] h) (fun w h => A.Y.bld h (k := 1) (j := 1) rfl (by kernel_rfl) (by kernel_rfl)) (E.H.all [2, 7] (by kernel_rfl) (by simp) (List.forall_mem_cons.2 ⟨⟨_, rfl, ?_⟩, List.forall_mem_cons.2 ⟨⟨_, rfl, ?_⟩, fun _ h => (List.not_mem_nil h).elim⟩⟩))))))
 ·
  exact E.G.call (E.i (n0 % 8)) (fun w h => Mod_any n0 8 hn0 (by decide) w) (fun w _ => by kernel_rfl) (by kernel_rfl) (E.H.back (fun w h => A.hq [0, 1, 3] [2] h) (E.H.to _ _ _ (by kernel_rfl) ⟨by kernel_rfl, by kernel_rfl⟩ Nz.sub (dn _ _ _ _ _ (nd0))))
 exact E.G.new (fun g => E.pt g) [E.i 0, E.i 0, E.i 0, E.i 0, E.i 0, E.i 0, E.i 0] 92 (fun w => by kernel_rfl) (by kernel_rfl) (fun v1_g_7_1 => E.H.back (fun w h => A.hq [1, 2, 4] [0, 3] h) (E.H.to _ _ _ (by kernel_rfl) ⟨by kernel_rfl, by kernel_rfl⟩ Nz.sub (dn _ _ _ _ _ (nd7 v1_g_7_1))))
end Go.Proofs.YtgbndbljohpnmaaGreat

/- XQbj -/
namespace Go.Proofs.YtgbndbljohpnmaaGreat
set_option linter.unusedVariables false
set_option linter.unusedSimpArgs false
open Go.RowKit
/-- A memory without clean copies that is 0 outside of its pages. -/
structure Q.tight (V : M.V) : Prop where
  coh : V.coh = false
  d : ∀ j x, V.n ≤ j ∨ 256 ≤ x → V.d j x = 0
  i : ∀ j x, V.n ≤ j ∨ 256 ≤ x → V.i j x = 0
  r : ∀ j, V.n ≤ j → V.r j = 0
  cd : V.cd = fun _ _ => 0
  ci : V.ci = fun _ _ => 0
theorem Q.tight.new (n : Nat) : Q.tight (M.V.new n false) := ⟨rfl, fun _ _ _ => rfl, fun _ _ _ => rfl, fun _ _ => rfl, rfl, rfl⟩
theorem Q.tight.set {V : M.V} (h : Q.tight V) (a : Nat) (v : Int) : Q.tight (V.set a v) := by
  unfold M.V.set
  by_cases ha : a / 256 < V.n
  · rw [if_pos ha, h.coh]
    refine ⟨rfl, fun j x hx => ?_, h.i, h.r, h.cd, h.ci⟩
    show (if j = a / 256 ∧ x = a % 256 then v else V.d j x) = 0
    have hx : V.n ≤ j ∨ 256 ≤ x := hx
    rw [if_neg (by omega)]; exact h.d j x hx
  · rw [if_neg ha]; exact h
theorem Q.tight.poke {V : M.V} (h : Q.tight V) (a : Nat) (s : ByteArray) : ∀ c, Q.tight (V.poke a s c)
  | 0 => h
  | c + 1 => (Q.tight.poke h a s c).set _ _
theorem Q.tight.setc {V : M.V} (h : Q.tight V) (p : Int) (s : ByteArray) : Q.tight (V.setc p s) := by
  unfold M.V.setc
  by_cases hp : 0 ≤ p ∧ p < ((V.n : Nat) : Int) ∧ V.coh = false
  · rw [if_pos hp]
    refine ⟨h.coh, h.d, fun j x hx => ?_, h.r, h.cd, h.ci⟩
    show (if j = p.toNat ∧ x < Nat.min s.size 256 then W.byt s.data.toList x else V.i j x) = 0
    have hx : V.n ≤ j ∨ 256 ≤ x := hx
    have : Nat.min s.size 256 ≤ 256 := Nat.min_le_right _ _
    rw [if_neg (by omega)]; exact h.i j x hx
  · rw [if_neg hp]; exact h
theorem Q.tight.prot {V : M.V} (h : Q.tight V) (p r : Int) : Q.tight (V.prot p r) := by
  unfold M.V.prot
  by_cases hp : 0 ≤ p ∧ p < ((V.n : Nat) : Int)
  · rw [if_pos hp]
    refine ⟨h.coh, h.d, h.i, fun j hj => ?_, h.cd, h.ci⟩
    show (if j = p.toNat then bits .and .i64 r 7 else V.r j) = 0
    have hj : V.n ≤ j := hj
    rw [if_neg (by omega)]; exact h.r j hj
  · rw [if_neg hp]; exact h
theorem Q6.l3_tight (c : ByteArray) : Q.tight (Q6.l3 c) := by
  have h2 : Q.tight (Q6.l2 c) := ((Q.tight.new _).poke _ _ _).setc _ _
  unfold Q6.l3
  exact Q.bifP (p := Q.tight) (fun _ => h2.setc _ _) (fun _ => h2)
theorem Q6.l5_tight (c : ByteArray) (x y z : Int) : ∀ a, Q.tight (Q6.l5 c x y z a)
  | 0 => (((((((Q6.l3_tight c).prot _ _).prot _ _).prot _ _).prot _ _).prot _ _).prot _ _).prot _ _
  | a + 1 => (Q6.l5_tight c x y z a).poke _ _ _
theorem Q6.lV_tight (q : Nat → Nat → Int) (n : Nat) (n0 n1 n2 : Int) : Q.tight (Q6.lV q n n0 n1 n2) := Q6.l5_tight _ _ _ _ _
theorem Q6.lV_wf (q : Nat → Nat → Int) (n : Nat) (n0 n1 n2 : Int) : R.Wf (Q6.lV q n n0 n1 n2) := Q6.l5_wf _ _ _ _ _
def Q.img (V : M.V) (p : Nat) : ByteArray := strOfNums (((R.flat V.i (R.len V)).drop (256 * p)).take 256)
def Q.ldW (V : M.V) : Nat → M.V
  | 0 => M.V.new (M.np ((V.n : Nat) : Int)) false
  | p + 1 => (((Q.ldW V p).poke (((256 * p : Nat) : Int)).toNat (V.page ((p : Nat) : Int)) (V.page ((p : Nat) : Int)).size).setc ((p : Nat) : Int) (Q.img V p)).prot ((p : Nat) : Int) (V.rt ((p : Nat) : Int))
theorem Q.ldW_tight {V : M.V} : ∀ p, Q.tight (Q.ldW V p)
  | 0 => Q.tight.new _
  | p + 1 => (((Q.ldW_tight p).poke _ _ _).setc _ _).prot _ _
theorem Q.page_is {V : M.V} (hw : R.Wf V) {p : Nat} (h : p < V.n) : (V.page ((p : Nat) : Int)).size = 256 ∧ ∀ x, x < 256 → W.byt (V.page ((p : Nat) : Int)).data.toList x = V.d p x := by
  have e : V.page ((p : Nat) : Int) = strOfNums ((List.range 256).map (V.d p)) := by unfold M.V.page; rw [if_pos (by omega)]; rfl
  rw [e]
  refine ⟨by rw [strOfNums_size, List.length_map, List.length_range], fun x hx => ?_⟩
  rw [W.byt_nums _ _ (fun y hy => by
    obtain ⟨z, hz, rfl⟩ := List.mem_map.1 hy
    exact hw.d p h z (List.mem_range.1 hz))]
  simp [List.getD, hx]
theorem Q.img_is {V : M.V} (hw : R.Wf V) (hc : V.coh = false) {p : Nat} (h : p < V.n) : (Q.img V p).size = 256 ∧ ∀ x, x < 256 → W.byt (Q.img V p).data.toList x = V.i p x := by
  have hl : R.len V = V.n := R.len_f hc
  have e : ((R.flat V.i (R.len V)).drop (256 * p)).take 256 = (List.range 256).map (V.i p) := by
    refine List.ext_getElem? fun k => ?_
    rw [hl]
    by_cases hk : k < 256
    · have h1 : 256 * p + k < 256 * V.n := by omega
      have e1 : (256 * p + k) / 256 = p := by omega
      have e2 : (256 * p + k) % 256 = k := by omega
      simp [R.flat, List.getElem?_take, List.getElem?_drop, hk, h1, e1, e2]
    · simp [List.getElem?_take, hk]
  unfold Q.img
  rw [e]
  refine ⟨by rw [strOfNums_size, List.length_map, List.length_range], fun x hx => ?_⟩
  rw [W.byt_nums _ _ (fun y hy => by
    obtain ⟨z, hz, rfl⟩ := List.mem_map.1 hy
    exact hw.i p h z (List.mem_range.1 hz))]
  simp [List.getD, hx]
theorem M.poke_dp {V : M.V} (hc : V.coh = false) (hn : V.n ≤ 4096) {p : Nat} (hp : p < V.n) (s : ByteArray) : ∀ c, c ≤ 256 → (V.poke (256 * p) s c).i = V.i ∧ (V.poke (256 * p) s c).n = V.n ∧ (V.poke (256 * p) s c).r = V.r ∧ (V.poke (256 * p) s c).coh = V.coh ∧ ∀ j x, (V.poke (256 * p) s c).d j x = if j = p ∧ x < c then W.byt s.data.toList x else V.d j x
  | 0, _ => ⟨rfl, rfl, rfl, rfl, fun j x => by rw [if_neg (by omega)]; rfl⟩
  | c + 1, h => by
    obtain ⟨h1, h2, h3, h4, h5⟩ := M.poke_dp hc hn hp s c (by omega)
    rw [M.V.poke, M.V.set, Nat.mod_eq_of_lt (by omega), if_pos (by rw [h2]; omega)]
    refine ⟨?_, h2, h3, h4, fun j x => ?_⟩
    · show (if (V.poke (256 * p) s c).coh then _ else (V.poke (256 * p) s c).i) = V.i
      rw [h4, hc]; exact h1
    · show (if j = (256 * p + c) / 256 ∧ x = (256 * p + c) % 256 then W.byt s.data.toList c else (V.poke (256 * p) s c).d j x) = _
      rw [h5]
      by_cases e : j = p ∧ x = c
      · obtain ⟨rfl, rfl⟩ := e
        rw [if_pos (by omega), if_pos (by omega)]
      · rw [if_neg (by omega)]
        by_cases k : j = p ∧ x < c
        · rw [if_pos k, if_pos (by omega)]
        · rw [if_neg k, if_neg (by omega)]
theorem Q.and7 {r : Int} (h : 0 ≤ r ∧ r < 8) : bits .and .i64 r 7 = r := by
  rcases (by omega : r = 0 ∨ r = 1 ∨ r = 2 ∨ r = 3 ∨ r = 4 ∨ r = 5 ∨ r = 6 ∨ r = 7) with rfl | rfl | rfl | rfl | rfl | rfl | rfl | rfl <;> rfl
theorem Q.ldW_is {V : M.V} (hw : R.Wf V) (hc : V.coh = false) : ∀ p, p ≤ V.n → (Q.ldW V p).n = V.n ∧ (∀ j x, j < p → x < 256 → (Q.ldW V p).d j x = V.d j x ∧ (Q.ldW V p).i j x = V.i j x) ∧ (∀ j, j < p → (Q.ldW V p).r j = V.r j)
  | 0, _ => by
    refine ⟨?_, fun _ _ h => by omega, fun _ h => by omega⟩
    show M.np ((V.n : Nat) : Int) = V.n
    have := hw.n
    unfold M.np; rw [if_neg (by omega : ¬ (0 > ((V.n : Nat) : Int))), if_neg (by omega)]; omega
  | p + 1, hp => by
    obtain ⟨h1, h2, h3⟩ := Q.ldW_is hw hc p (by omega)
    have hp' : p < V.n := by omega
    obtain ⟨s1, s2⟩ := Q.page_is hw hp'
    obtain ⟨t1, t2⟩ := Q.img_is hw hc hp'
    have hW := (Q.ldW_tight (V := V) p).coh
    have hl : (Q.ldW V p).n ≤ 4096 := by rw [h1]; exact hw.n
    have e : Q.ldW V (p + 1) = (((Q.ldW V p).poke (256 * p) (V.page ((p : Nat) : Int)) 256).setc ((p : Nat) : Int) (Q.img V p)).prot ((p : Nat) : Int) (V.rt ((p : Nat) : Int)) := by
      rw [Q.ldW, s1]; rfl
    obtain ⟨g1, g2, g3, g4, g5⟩ := M.poke_dp hW hl (p := p) (by rw [h1]; exact hp') (V.page ((p : Nat) : Int)) 256 (by decide)
    rw [e]
    generalize (Q.ldW V p).poke (256 * p) (V.page ((p : Nat) : Int)) 256 = A at *
    have hA : A.n = V.n := g2.trans h1
    have es : A.setc ((p : Nat) : Int) (Q.img V p) = { A with i := fun j x => if j = ((p : Nat) : Int).toNat ∧ x < Nat.min (Q.img V p).size 256 then W.byt (Q.img V p).data.toList x else A.i j x } := by
      unfold M.V.setc
      rw [if_pos ⟨by omega, by rw [hA]; omega, g4.trans hW⟩]
    have er : V.rt ((p : Nat) : Int) = V.r p := by unfold M.V.rt; rw [if_pos (by omega)]; rfl
    have ep : ∀ B : M.V, B.n = V.n → B.prot ((p : Nat) : Int) (V.r p) = { B with r := fun j => if j = ((p : Nat) : Int).toNat then bits .and .i64 (V.r p) 7 else B.r j } := fun B hB => by
      unfold M.V.prot
      rw [if_pos ⟨by omega, by rw [hB]; omega⟩]
    rw [es, er]
    rw [ep _ (by exact hA)]
    have hm : Nat.min (Q.img V p).size 256 = 256 := by rw [t1]; rfl
    refine ⟨hA, fun j x hj hx => ⟨?_, ?_⟩, fun j hj => ?_⟩
    · show A.d j x = V.d j x
      rw [g5]
      by_cases k : j = p
      · subst k; rw [if_pos ⟨rfl, hx⟩, s2 x hx]
      · rw [if_neg (by omega)]; exact (h2 j x (by omega) hx).1
    · show (if j = ((p : Nat) : Int).toNat ∧ x < Nat.min (Q.img V p).size 256 then W.byt (Q.img V p).data.toList x else A.i j x) = V.i j x
      rw [hm, Int.toNat_natCast]
      by_cases k : j = p
      · subst k; rw [if_pos ⟨rfl, hx⟩, t2 x hx]
      · rw [if_neg (by omega), g1]; exact (h2 j x (by omega) hx).2
    · show (if j = ((p : Nat) : Int).toNat then bits .and .i64 (V.r p) 7 else A.r j) = V.r j
      rw [Int.toNat_natCast]
      by_cases k : j = p
      · subst k; rw [if_pos rfl, Q.and7 (hw.r j hp')]
      · rw [if_neg k, g3]; exact h3 j (by omega)
/-- All pages laid: the same memory. -/
theorem Q.ldW_end {V : M.V} (hw : R.Wf V) (ht : Q.tight V) : Q.ldW V V.n = V := by
  obtain ⟨h1, h2, h3⟩ := Q.ldW_is hw ht.coh V.n (Nat.le_refl _)
  have hT := Q.ldW_tight (V := V) V.n
  generalize Q.ldW V V.n = A at *
  have ed : A.d = V.d := by
    funext j x
    by_cases k : j < V.n ∧ x < 256
    · exact (h2 j x k.1 k.2).1
    · rw [hT.d j x (by rw [h1]; omega), ht.d j x (by omega)]
  have ei : A.i = V.i := by
    funext j x
    by_cases k : j < V.n ∧ x < 256
    · exact (h2 j x k.1 k.2).2
    · rw [hT.i j x (by rw [h1]; omega), ht.i j x (by omega)]
  have er : A.r = V.r := by
    funext j
    by_cases k : j < V.n
    · exact h3 j k
    · rw [hT.r j (by rw [h1]; omega), ht.r j (by omega)]
  have e1 := hT.coh.trans ht.coh.symm
  have e2 := hT.cd.trans ht.cd.symm
  have e3 := hT.ci.trans ht.ci.symm
  obtain ⟨n, coh, d, i, cd, ci, r⟩ := A
  obtain ⟨n', coh', d', i', cd', ci', r'⟩ := V
  simp only at h1 ed ei er e1 e2 e3
  subst h1 ed ei er e1 e2 e3
  rfl
end Go.Proofs.YtgbndbljohpnmaaGreat

/- XQad -/
namespace Go.Proofs.YtgbndbljohpnmaaGreat
set_option linter.unusedVariables false
set_option linter.unusedSimpArgs false
open Go.RowKit
theorem Q.sm53 {V : M.V} (hw : R.Wf V) : IntKind.wrap .i64 (256 * ((V.n : Nat) : Int)) = ((256 * V.n : Nat) : Int) := by have := hw.n; rw [IntWalk.i64_in _ (by omega)]; omega
theorem Q.sm54 {V : M.V} (hw : R.Wf V) : IntKind.wrap .u32 ((256 * V.n : Nat) : Int) = ((256 * V.n : Nat) : Int) := by have := hw.n; rw [Q.wr]; omega
theorem Q.sm_bd {V : M.V} {a : Nat} (hw : R.Wf V) (h : a ≤ 256 * V.n) : 0 ≤ ((a : Nat) : Int) ∧ ((a : Nat) : Int) < 4294967296 := by have := hw.n; omega
theorem Q.sm57 {V : M.V} {a : Nat} (hw : R.Wf V) (h : a ≤ 256 * V.n) : IntKind.wrap .u32 (((a : Nat) : Int) + 1) = ((a + 1 : Nat) : Int) := by have := hw.n; rw [Q.wr]; omega
theorem Q.sm34 {V : M.V} {p : Nat} (hw : R.Wf V) (h : p ≤ V.n) : IntKind.wrap .i64 (((p : Nat) : Int) + 1) = ((p + 1 : Nat) : Int) := by have := hw.n; rw [IntWalk.i64_in _ (by omega)]; omega
end Go.Proofs.YtgbndbljohpnmaaGreat

/- XQbi -/
namespace Go.Proofs.YtgbndbljohpnmaaGreat
set_option linter.unusedVariables false
set_option linter.unusedSimpArgs false
open Go.RowKit
theorem A.hp_openR {w0 w : World} {o0 a0 : Nat → Prop} {its rest : List A.It} {L : List (Nat × List Value)} {r : Nat} {V : M.V} (hne : A.ne L = true) (h1 : its.Perm (R.It r V :: rest)) (h : E.Hp o0 w0 (A.X w0 o0 a0 its) L w) : ∃ s, R.Wf V ∧ E.Hp o0 w0 (A.X w0 o0 a0 (R.its r s V ++ rest)) L w := by
  obtain ⟨o, a, hh, hg⟩ := A.hp_has hne h
  have hp : (A.bl L ++ its).Perm ([R.It r V] ++ (A.bl L ++ rest)) := (List.Perm.append_left _ h1).trans List.perm_middle
  obtain ⟨p1, q1, p2, q2, k1, k2, d1, d2, go, ga⟩ := A.Has.append (l := [R.It r V]) (hh.perm hp)
  obtain ⟨p3, q3, ⟨hw, s, hs⟩, e3, e4⟩ := A.Has.one' k1
  have hh' := (hs.join k2 (fun x hx hk => d1 x ((e3 x).1 hx) hk) (fun x hx hk => d2 x hx ((e4 x).1 hk))).iff (o' := o) (a' := a) (fun x => (go x).trans (or_congr (e3 x).symm Iff.rfl)) (fun x => (ga x).trans (or_congr (e4 x).symm Iff.rfl))
  have hq : (R.its r s V ++ (A.bl L ++ rest)).Perm (A.bl L ++ (R.its r s V ++ rest)) := by
    rw [← List.append_assoc, ← List.append_assoc]; exact List.Perm.append_right _ List.perm_append_comm
  exact ⟨s, hw, A.has_hp h.x.1 (hh'.perm hq) hg h.ch⟩
theorem A.C.openR {P : Program} {n : Nat} {Q : Exit → Act → World → Prop} {w0 : World} {o0 a0 : Nat → Prop} {its : List A.It} {L : List (Nat × List Value)} {fr : E.Fr} {c : Code} {r : Nat} {V : M.V} (rest : List A.It) (hne : A.ne L = true) (h1 : its.Perm (R.It r V :: rest)) (its2 : R.Sl → List A.It) (h2 : ∀ s, (R.its r s V ++ rest).Perm (its2 s))
    (k : ∀ s, R.Wf V → E.C P n Q c fr o0 w0 (A.X w0 o0 a0 (its2 s)) L) : E.C P n Q c fr o0 w0 (A.X w0 o0 a0 its) L := fun a w hs h => by
  obtain ⟨s, hw, hb⟩ := A.hp_openR hne h1 h
  exact k s hw a w hs (hb.monoX fun w ⟨u, o, a, hh, hg⟩ => ⟨u, o, a, hh.perm (h2 s), hg⟩)
theorem A.C.closeR {P : Program} {n : Nat} {Q : Exit → Act → World → Prop} {w0 : World} {o0 a0 : Nat → Prop} {its its2 : List A.It} {L : List (Nat × List Value)} {fr : E.Fr} {c : Code} {r : Nat} {V : M.V} {s : R.Sl} (rest : List A.It) (hw : R.Wf V) (h1 : its.Perm (R.its r s V ++ rest)) (h2 : (R.It r V :: rest).Perm its2)
    (k : E.C P n Q c fr o0 w0 (A.X w0 o0 a0 its2) L) : E.C P n Q c fr o0 w0 (A.X w0 o0 a0 its) L := fun a w hs h => k a w hs (h.monoX fun w ⟨u, o, a, hh, hg⟩ => by
    obtain ⟨p1, q1, p2, q2, k1, k2, d1, d2, go, ga⟩ := A.Has.append (l := R.its r s V) (hh.perm h1)
    exact ⟨u, o, a, A.Has.perm h2 (((A.Has.one (it := R.It r V) ⟨hw, s, k1⟩).join k2 d1 d2).iff go ga), hg⟩)
theorem Q.lda {V : M.V} {p : Nat} (hw : R.Wf V) (h : p < V.n) : IntKind.wrap .i64 (256 * ((p : Nat) : Int)) = ((256 * p : Nat) : Int) := by have := hw.n; rw [IntWalk.i64_in _ (by omega)]; omega
theorem Q.ldb {V : M.V} {p : Nat} (hw : R.Wf V) (h : p < V.n) : IntKind.wrap .u32 ((256 * p : Nat) : Int) = ((256 * p : Nat) : Int) := by have := hw.n; rw [Q.wr]; omega
theorem Q.ldc {V : M.V} {p : Nat} (hw : R.Wf V) (h : p < V.n) : IntKind.wrap .i64 (((256 * p : Nat) : Int) + 256) = ((256 * p + 256 : Nat) : Int) := by have := hw.n; rw [IntWalk.i64_in _ (by omega)]; omega
theorem Q.ldd {V : M.V} {p : Nat} (hw : R.Wf V) (h : p < V.n) : 0 ≤ ((256 * p : Nat) : Int) ∧ ((256 * p : Nat) : Int) < 4294967296 := by have := hw.n; omega
theorem Q.page_sz {V : M.V} {p : Nat} (hw : R.Wf V) (h : p < V.n) : (V.page ((p : Nat) : Int)).size < 4294967296 := by
  rw [(Q.page_is hw h).1]; decide
end Go.Proofs.YtgbndbljohpnmaaGreat
