/- Texts of the walk, merged (6): see the remark ahead of each. -/
import Derived.Test.YtgbndbljohpnmaaGreatYf5
import Derived.Test.YtgbndbljohpnmaaGreatProg
namespace Go.Proofs.YtgbndbljohpnmaaGreat
set_option linter.unusedVariables false
set_option linter.unusedSimpArgs false
open Go.RowKit
theorem Q.eq_of {k : Int} (h : (k != 0) = false) : (k == 0) = true := by rw [bne, Bool.not_eq_false'] at h; exact h
/-- What a step gives: a state and a trap. -/
def Q.out (s : Q.S) (k t : Int) : Value := .agg (s.cells ++ [Value.int .i64 k, Value.int .u32 t]).toArray
theorem Trapped6_any (s : Q.S) (k t : Int) (w : World) : Calls Tryz.prog 55 #[Q.S.val s, .int .i64 k, .int .u32 t] w fun e w' => e = .returned (Q.out s k t) ∧ Bel w w' := by
 refine E.enter (n := 12) (S := fun _ => False) Tryz.func55 rfl rfl (by kernel_rfl) (E.Hp.start w) (E.sr (E.G.new (fun g => E.pt g) (Q.S.cells s) 32 (fun w => by kernel_rfl) (by kernel_rfl) (fun g1 => E.G.new (fun g => E.pt g) (Q.S.cells Q.z0 ++ [E.i 0, E.u 0]) 53 (fun w => by kernel_rfl) (by kernel_rfl) (fun g2 => E.tr (E.li (Q.S.val s) 1 rfl rfl (E.op (E.i k) (E.op (E.u t) (E.vl (.agg #[E.i k, E.u t]) (fun w h => E.run_build #[E.i k, E.u t] (by kernel_rfl) w) (E.vl (Q.out s k t) (fun w h => E.run_build (Q.S.cells s ++ [Value.int .i64 k, Value.int .u32 t]).toArray (by kernel_rfl) w) (E.st 0 (Q.S.cells s ++ [E.i k, E.u t]) rfl rfl (E.To.code ?_)))))))))))
 refine E.wk [(6, E.pt g2)] [(g2, (Q.S.cells s ++ [E.i k, E.u t]))] Nz.sub (E.C.ret (E.To.body (fn := Tryz.f55) [Q.out s k t] ?_ ?_))
 · exact ⟨⟨by kernel_rfl, _, _, 0, _, rfl, rfl, by kernel_rfl⟩, trivial⟩
 intro w h
 exact ⟨rfl, h.ch.bel (fun _ h => h.elim)⟩
def Q6.oper (c : Int) : Int := (bif (c == 1) then 3 else (bif (c == 16) then 3 else (bif (c == 2) then 4 else (bif (c == 3) then 5 else (bif (c == 17) then 5 else (bif (c == 4) then 6 else (bif (c == 18) then 6 else (bif (c == 5) then 7 else (bif (c == 19) then 7 else (bif (c == 6) then 8 else (bif (c == 20) then 8 else (bif (c == 7) then 9 else (bif (c == 21) then 9 else (bif (c == 8) then 10 else (bif (c == 22) then 10 else (bif (c == 9) then 11 else (bif (c == 10) then 12 else (bif (c == 11) then 14 else (bif (c == 12) then 15 else 0)))))))))))))))))))
theorem Oper6_any (c : Int) (w : World) : Calls Tryz.prog 54 #[.int .i64 c] w fun e w' => e = .returned (.int .i64 (Q6.oper c)) ∧ Bel w w' := by
 refine E.enter (n := 35) (S := fun _ => False) Tryz.func54 rfl rfl (by kernel_rfl) (E.Hp.start w) (E.sr (E.op (E.i 0) (E.To.code (E.C.seq (E.sr (E.op (E.i c) (E.To.code (E.C.block (E.C.seq (E.sr (E.op (.bool (c == 1)) ?_)))))))))))
 refine E.op (.bool (c == 1)) (E.To.code (E.cd (c == 1) (fun hc1 => ?_) (fun hc1 => ?_)))
 ·
  refine E.C.skip (E.To.code (E.cd (c == 1) (fun hc2 => ?_) (fun hc2 => absurd (hc1.symm.trans hc2) (by decide))))
  exact E.sr (E.op (E.i 3) (E.To.code (E.C.ret (E.P.rb (E.P.rt (E.bd Tryz.f54 [.int .i64 3] (fun w h => ⟨by show Ending.returned (.int .i64 3) = _; unfold Q6.oper; rw [hc1, cond_true] <;> rfl, h.ch.bel (fun _ h => h.elim)⟩)))))))
 refine E.C.region (E.op (.bool (c == 16)) (E.op (.bool (c == 16)) (E.To.code (E.cd (c == 16) (fun hc3 => ?_) (fun hc3 => ?_)))))
 ·
  exact E.sr (E.op (E.i 3) (E.To.code (E.C.ret (E.P.rb (E.P.rt (E.bd Tryz.f54 [.int .i64 3] (fun w h => ⟨by show Ending.returned (.int .i64 3) = _; unfold Q6.oper; rw [hc1, cond_false, hc3, cond_true] <;> rfl, h.ch.bel (fun _ h => h.elim)⟩)))))))
 refine E.sr (E.op (.bool (c == 2)) (E.op (.bool (c == 2)) (E.To.code (E.cd (c == 2) (fun hc4 => ?_) (fun hc4 => ?_)))))
 ·
  exact E.sr (E.op (E.i 4) (E.To.code (E.C.ret (E.P.rb (E.P.rt (E.bd Tryz.f54 [.int .i64 4] (fun w h => ⟨by show Ending.returned (.int .i64 4) = _; unfold Q6.oper; rw [hc1, cond_false, hc3, cond_false, hc4, cond_true] <;> rfl, h.ch.bel (fun _ h => h.elim)⟩)))))))
 refine E.C.seq (E.sr (E.op (.bool (c == 3)) (E.op (.bool (c == 3)) (E.To.code (E.cd (c == 3) (fun hc5 => ?_) (fun hc5 => ?_))))))
 ·
  refine E.C.skip (E.To.code (E.cd (c == 3) (fun hc6 => ?_) (fun hc6 => absurd (hc5.symm.trans hc6) (by decide))))
  exact E.sr (E.op (E.i 5) (E.To.code (E.wk [(2, E.i 5)] [] Nz.sub (E.C.ret (E.P.rb (E.P.rt (E.bd Tryz.f54 [.int .i64 5] (fun w h => ⟨by show Ending.returned (.int .i64 5) = _; unfold Q6.oper; rw [hc1, cond_false, hc3, cond_false, hc4, cond_false, hc5, cond_true] <;> rfl, h.ch.bel (fun _ h => h.elim)⟩))))))))
 refine E.C.region (E.op (.bool (c == 17)) (E.op (.bool (c == 17)) (E.To.code (E.wk [(2, E.i 0), (3, E.i c), (9, .bool (c == 17))] [] Nz.sub (E.cd (c == 17) (fun hc7 => ?_) (fun hc7 => ?_))))))
 ·
  exact E.sr (E.op (E.i 5) (E.To.code (E.C.ret (E.P.rb (E.P.rt (E.bd Tryz.f54 [.int .i64 5] (fun w h => ⟨by show Ending.returned (.int .i64 5) = _; unfold Q6.oper; rw [hc1, cond_false, hc3, cond_false, hc4, cond_false, hc5, cond_false, hc7, cond_true] <;> rfl, h.ch.bel (fun _ h => h.elim)⟩)))))))
 refine E.C.seq (E.sr (E.op (.bool (c == 4)) (E.op (.bool (c == 4)) (E.To.code (E.cd (c == 4) (fun hc8 => ?_) (fun hc8 => ?_))))))
 ·
  refine E.C.skip (E.To.code (E.cd (c == 4) (fun hc9 => ?_) (fun hc9 => absurd (hc8.symm.trans hc9) (by decide))))
  exact E.sr (E.op (E.i 6) (E.To.code (E.C.ret (E.P.rb (E.P.rt (E.bd Tryz.f54 [.int .i64 6] (fun w h => ⟨by show Ending.returned (.int .i64 6) = _; unfold Q6.oper; rw [hc1, cond_false, hc3, cond_false, hc4, cond_false, hc5, cond_false, hc7, cond_false, hc8, cond_true] <;> rfl, h.ch.bel (fun _ h => h.elim)⟩)))))))
 refine E.C.region (E.op (.bool (c == 18)) (E.op (.bool (c == 18)) (E.To.code (E.cd (c == 18) (fun hc10 => ?_) (fun hc10 => ?_)))))
 ·
  exact E.sr (E.op (E.i 6) (E.To.code (E.C.ret (E.P.rb (E.P.rt (E.bd Tryz.f54 [.int .i64 6] (fun w h => ⟨by show Ending.returned (.int .i64 6) = _; unfold Q6.oper; rw [hc1, cond_false, hc3, cond_false, hc4, cond_false, hc5, cond_false, hc7, cond_false, hc8, cond_false, hc10, cond_true] <;> rfl, h.ch.bel (fun _ h => h.elim)⟩)))))))
 refine E.C.seq (E.sr (E.op (.bool (c == 5)) (E.op (.bool (c == 5)) (E.To.code (E.cd (c == 5) (fun hc11 => ?_) (fun hc11 => ?_))))))
 ·
  refine E.C.skip (E.To.code (E.cd (c == 5) (fun hc12 => ?_) (fun hc12 => absurd (hc11.symm.trans hc12) (by decide))))
  exact E.sr (E.op (E.i 7) (E.To.code (E.C.ret (E.P.rb (E.P.rt (E.bd Tryz.f54 [.int .i64 7] (fun w h => ⟨by show Ending.returned (.int .i64 7) = _; unfold Q6.oper; rw [hc1, cond_false, hc3, cond_false, hc4, cond_false, hc5, cond_false, hc7, cond_false, hc8, cond_false, hc10, cond_false, hc11, cond_true] <;> rfl, h.ch.bel (fun _ h => h.elim)⟩)))))))
 refine E.C.region (E.op (.bool (c == 19)) (E.op (.bool (c == 19)) (E.To.code (E.cd (c == 19) (fun hc13 => ?_) (fun hc13 => ?_)))))
 ·
  exact E.sr (E.op (E.i 7) (E.To.code (E.wk [(2, E.i 7)] [] Nz.sub (E.C.ret (E.P.rb (E.P.rt (E.bd Tryz.f54 [.int .i64 7] (fun w h => ⟨by show Ending.returned (.int .i64 7) = _; unfold Q6.oper; rw [hc1, cond_false, hc3, cond_false, hc4, cond_false, hc5, cond_false, hc7, cond_false, hc8, cond_false, hc10, cond_false, hc11, cond_false, hc13, cond_true] <;> rfl, h.ch.bel (fun _ h => h.elim)⟩))))))))
 refine E.C.seq (E.sr (E.op (.bool (c == 6)) (E.op (.bool (c == 6)) (E.To.code (E.wk [(2, E.i 0), (3, E.i c), (18, .bool (c == 6))] [] Nz.sub (E.cd (c == 6) (fun hc14 => ?_) (fun hc14 => ?_)))))))
 ·
  refine E.C.skip (E.To.code (E.cd (c == 6) (fun hc15 => ?_) (fun hc15 => absurd (hc14.symm.trans hc15) (by decide))))
  exact E.sr (E.op (E.i 8) (E.To.code (E.C.ret (E.P.rb (E.P.rt (E.bd Tryz.f54 [.int .i64 8] (fun w h => ⟨by show Ending.returned (.int .i64 8) = _; unfold Q6.oper; rw [hc1, cond_false, hc3, cond_false, hc4, cond_false, hc5, cond_false, hc7, cond_false, hc8, cond_false, hc10, cond_false, hc11, cond_false, hc13, cond_false, hc14, cond_true] <;> rfl, h.ch.bel (fun _ h => h.elim)⟩)))))))
 refine E.C.region (E.op (.bool (c == 20)) (E.op (.bool (c == 20)) (E.To.code (E.cd (c == 20) (fun hc16 => ?_) (fun hc16 => ?_)))))
 ·
  exact E.sr (E.op (E.i 8) (E.To.code (E.C.ret (E.P.rb (E.P.rt (E.bd Tryz.f54 [.int .i64 8] (fun w h => ⟨by show Ending.returned (.int .i64 8) = _; unfold Q6.oper; rw [hc1, cond_false, hc3, cond_false, hc4, cond_false, hc5, cond_false, hc7, cond_false, hc8, cond_false, hc10, cond_false, hc11, cond_false, hc13, cond_false, hc14, cond_false, hc16, cond_true] <;> rfl, h.ch.bel (fun _ h => h.elim)⟩)))))))
 refine E.C.seq (E.sr (E.op (.bool (c == 7)) (E.op (.bool (c == 7)) (E.To.code (E.cd (c == 7) (fun hc17 => ?_) (fun hc17 => ?_))))))
 ·
  refine E.C.skip (E.To.code (E.cd (c == 7) (fun hc18 => ?_) (fun hc18 => absurd (hc17.symm.trans hc18) (by decide))))
  exact E.sr (E.op (E.i 9) (E.To.code (E.C.ret (E.P.rb (E.P.rt (E.bd Tryz.f54 [.int .i64 9] (fun w h => ⟨by show Ending.returned (.int .i64 9) = _; unfold Q6.oper; rw [hc1, cond_false, hc3, cond_false, hc4, cond_false, hc5, cond_false, hc7, cond_false, hc8, cond_false, hc10, cond_false, hc11, cond_false, hc13, cond_false, hc14, cond_false, hc16, cond_false, hc17, cond_true] <;> rfl, h.ch.bel (fun _ h => h.elim)⟩)))))))
 refine E.C.region (E.op (.bool (c == 21)) (E.op (.bool (c == 21)) (E.To.code (E.cd (c == 21) (fun hc19 => ?_) (fun hc19 => ?_)))))
 ·
  exact E.sr (E.op (E.i 9) (E.To.code (E.C.ret (E.P.rb (E.P.rt (E.bd Tryz.f54 [.int .i64 9] (fun w h => ⟨by show Ending.returned (.int .i64 9) = _; unfold Q6.oper; rw [hc1, cond_false, hc3, cond_false, hc4, cond_false, hc5, cond_false, hc7, cond_false, hc8, cond_false, hc10, cond_false, hc11, cond_false, hc13, cond_false, hc14, cond_false, hc16, cond_false, hc17, cond_false, hc19, cond_true] <;> rfl, h.ch.bel (fun _ h => h.elim)⟩)))))))
 refine E.C.seq (E.sr (E.op (.bool (c == 8)) (E.op (.bool (c == 8)) (E.To.code (E.cd (c == 8) (fun hc20 => ?_) (fun hc20 => ?_))))))
 ·
  refine E.C.skip (E.To.code (E.cd (c == 8) (fun hc21 => ?_) (fun hc21 => absurd (hc20.symm.trans hc21) (by decide))))
  exact E.sr (E.op (E.i 10) (E.To.code (E.wk [(2, E.i 10)] [] Nz.sub (E.C.ret (E.P.rb (E.P.rt (E.bd Tryz.f54 [.int .i64 10] (fun w h => ⟨by show Ending.returned (.int .i64 10) = _; unfold Q6.oper; rw [hc1, cond_false, hc3, cond_false, hc4, cond_false, hc5, cond_false, hc7, cond_false, hc8, cond_false, hc10, cond_false, hc11, cond_false, hc13, cond_false, hc14, cond_false, hc16, cond_false, hc17, cond_false, hc19, cond_false, hc20, cond_true] <;> rfl, h.ch.bel (fun _ h => h.elim)⟩))))))))
 refine E.C.region (E.op (.bool (c == 22)) (E.op (.bool (c == 22)) (E.To.code (E.cd (c == 22) (fun hc22 => ?_) (fun hc22 => ?_)))))
 ·
  exact E.sr (E.op (E.i 10) (E.To.code (E.wk [(2, E.i 10)] [] Nz.sub (E.C.ret (E.P.rb (E.P.rt (E.bd Tryz.f54 [.int .i64 10] (fun w h => ⟨by show Ending.returned (.int .i64 10) = _; unfold Q6.oper; rw [hc1, cond_false, hc3, cond_false, hc4, cond_false, hc5, cond_false, hc7, cond_false, hc8, cond_false, hc10, cond_false, hc11, cond_false, hc13, cond_false, hc14, cond_false, hc16, cond_false, hc17, cond_false, hc19, cond_false, hc20, cond_false, hc22, cond_true] <;> rfl, h.ch.bel (fun _ h => h.elim)⟩))))))))
 refine E.sr (E.op (.bool (c == 9)) (E.op (.bool (c == 9)) (E.To.code (E.wk [(2, E.i 0), (3, E.i c), (27, .bool (c == 9))] [] Nz.sub (E.cd (c == 9) (fun hc23 => ?_) (fun hc23 => ?_))))))
 ·
  exact E.sr (E.op (E.i 11) (E.To.code (E.C.ret (E.P.rb (E.P.rt (E.bd Tryz.f54 [.int .i64 11] (fun w h => ⟨by show Ending.returned (.int .i64 11) = _; unfold Q6.oper; rw [hc1, cond_false, hc3, cond_false, hc4, cond_false, hc5, cond_false, hc7, cond_false, hc8, cond_false, hc10, cond_false, hc11, cond_false, hc13, cond_false, hc14, cond_false, hc16, cond_false, hc17, cond_false, hc19, cond_false, hc20, cond_false, hc22, cond_false, hc23, cond_true] <;> rfl, h.ch.bel (fun _ h => h.elim)⟩)))))))
 refine E.sr (E.op (.bool (c == 10)) (E.op (.bool (c == 10)) (E.To.code (E.cd (c == 10) (fun hc24 => ?_) (fun hc24 => ?_)))))
 ·
  exact E.sr (E.op (E.i 12) (E.To.code (E.C.ret (E.P.rb (E.P.rt (E.bd Tryz.f54 [.int .i64 12] (fun w h => ⟨by show Ending.returned (.int .i64 12) = _; unfold Q6.oper; rw [hc1, cond_false, hc3, cond_false, hc4, cond_false, hc5, cond_false, hc7, cond_false, hc8, cond_false, hc10, cond_false, hc11, cond_false, hc13, cond_false, hc14, cond_false, hc16, cond_false, hc17, cond_false, hc19, cond_false, hc20, cond_false, hc22, cond_false, hc23, cond_false, hc24, cond_true] <;> rfl, h.ch.bel (fun _ h => h.elim)⟩)))))))
 refine E.sr (E.op (.bool (c == 11)) (E.op (.bool (c == 11)) (E.To.code (E.cd (c == 11) (fun hc25 => ?_) (fun hc25 => ?_)))))
 ·
  exact E.sr (E.op (E.i 14) (E.To.code (E.C.ret (E.P.rb (E.P.rt (E.bd Tryz.f54 [.int .i64 14] (fun w h => ⟨by show Ending.returned (.int .i64 14) = _; unfold Q6.oper; rw [hc1, cond_false, hc3, cond_false, hc4, cond_false, hc5, cond_false, hc7, cond_false, hc8, cond_false, hc10, cond_false, hc11, cond_false, hc13, cond_false, hc14, cond_false, hc16, cond_false, hc17, cond_false, hc19, cond_false, hc20, cond_false, hc22, cond_false, hc23, cond_false, hc24, cond_false, hc25, cond_true] <;> rfl, h.ch.bel (fun _ h => h.elim)⟩)))))))
 refine E.sr (E.op (.bool (c == 12)) (E.op (.bool (c == 12)) (E.To.code (E.cd (c == 12) (fun hc26 => ?_) (fun hc26 => ?_)))))
 ·
  exact E.sr (E.op (E.i 15) (E.To.code (E.wk [(2, E.i 15)] [] Nz.sub (E.C.ret (E.P.rb (E.P.rt (E.bd Tryz.f54 [.int .i64 15] (fun w h => ⟨by show Ending.returned (.int .i64 15) = _; unfold Q6.oper; rw [hc1, cond_false, hc3, cond_false, hc4, cond_false, hc5, cond_false, hc7, cond_false, hc8, cond_false, hc10, cond_false, hc11, cond_false, hc13, cond_false, hc14, cond_false, hc16, cond_false, hc17, cond_false, hc19, cond_false, hc20, cond_false, hc22, cond_false, hc23, cond_false, hc24, cond_false, hc25, cond_false, hc26, cond_true] <;> rfl, h.ch.bel (fun _ h => h.elim)⟩))))))))
 exact E.C.skip (E.P.nb (E.To.code (E.wk [(2, E.i 0)] [] Nz.sub (E.sr (E.op (E.i 0) (E.To.code (E.C.ret (E.bd Tryz.f54 [.int .i64 0] (fun w h => ⟨by show Ending.returned (.int .i64 0) = _; unfold Q6.oper; rw [hc1, cond_false, hc3, cond_false, hc4, cond_false, hc5, cond_false, hc7, cond_false, hc8, cond_false, hc10, cond_false, hc11, cond_false, hc13, cond_false, hc14, cond_false, hc16, cond_false, hc17, cond_false, hc19, cond_false, hc20, cond_false, hc22, cond_false, hc23, cond_false, hc24, cond_false, hc25, cond_false, hc26, cond_false] <;> rfl, h.ch.bel (fun _ h => h.elim)⟩)))))))))
theorem Q.lt2 {c : Bool} {x : Int} (h : (c && decide (x < 2)) = true) : x < 2 := of_decide_eq_true (Bool.and_eq_true_iff.1 h).2
theorem rOp_all (c a b : Int) (ha : 0 ≤ a ∧ a < 4294967296) (hb : 0 ≤ b ∧ b < 4294967296) (w : World) : Calls Tryz.prog 56 #[.int .i64 c, .int .u32 a, .int .u32 b] w fun e w' => e = .returned (.int .u32 (W.op c a b)) ∧ Bel w w' := rOp_any c a b ha.1 ha.2 hb.1 hb.2 w
def Q6.stepI (i : Q.I) (k t : Int) (s : Q.S) (V : M.V) : Q.S × Int × Int × M.V := (bif (k != 0) then (s, k, t, V) else (bif ((i.op == 10) && ((bif (decide (i.op ≥ 16)) then i.imm else ((Q.up s.r 0 0) ((i.b).toNat))) == 0)) then (s, 6, 0, V) else (bif ((Q6.oper i.op) != 0) then (⟨(IntKind.wrap .u32 (s.pc + 4)), (Q.up (Q.up (Q.up s.r 0 0) (i.d).toNat (W.op (Q6.oper i.op) ((Q.up s.r 0 0) ((i.a).toNat)) (bif (decide (i.op ≥ 16)) then i.imm else ((Q.up s.r 0 0) ((i.b).toNat))))) 0 0), s.f, s.c, (IntKind.wrap .i64 (s.st + 1)), s.du⟩, 0, 0, V) else (bif ((i.op == 23) || (i.op == 24)) then (bif (!((V.load ((IntKind.wrap .u32 (((Q.up s.r 0 0) ((i.a).toNat)) + i.imm))).toNat (bif (i.op == 24) then 1 else 4)).2.2)) then (s, 5, (V.load ((IntKind.wrap .u32 (((Q.up s.r 0 0) ((i.a).toNat)) + i.imm))).toNat (bif (i.op == 24) then 1 else 4)).2.1, V) else (⟨(IntKind.wrap .u32 (s.pc + 4)), (Q.up (Q.up (Q.up s.r 0 0) (i.d).toNat ((V.load ((IntKind.wrap .u32 (((Q.up s.r 0 0) ((i.a).toNat)) + i.imm))).toNat (bif (i.op == 24) then 1 else 4)).1)) 0 0), s.f, s.c, (IntKind.wrap .i64 (s.st + 1)), s.du⟩, 0, 0, V)) else (bif ((i.op == 25) || (i.op == 26)) then (bif (!((V.chk ((IntKind.wrap .u32 (((Q.up s.r 0 0) ((i.a).toNat)) + i.imm))).toNat 2 (bif (i.op == 26) then 1 else 4)).2)) then (s, 5, (V.chk ((IntKind.wrap .u32 (((Q.up s.r 0 0) ((i.a).toNat)) + i.imm))).toNat 2 (bif (i.op == 26) then 1 else 4)).1, (V.sto ((IntKind.wrap .u32 (((Q.up s.r 0 0) ((i.a).toNat)) + i.imm))).toNat (bif (i.op == 26) then 1 else 4) ((Q.up s.r 0 0) ((i.d).toNat)))) else (⟨(IntKind.wrap .u32 (s.pc + 4)), (Q.up (Q.up s.r 0 0) 0 0), s.f, s.c, (IntKind.wrap .i64 (s.st + 1)), s.du⟩, 0, 0, (V.sto ((IntKind.wrap .u32 (((Q.up s.r 0 0) ((i.a).toNat)) + i.imm))).toNat (bif (i.op == 26) then 1 else 4) ((Q.up s.r 0 0) ((i.d).toNat))))) else (bif (i.op == 27) then (⟨(IntKind.wrap .u32 ((IntKind.wrap .u32 (Int.tdiv (IntKind.wrap .u32 (((Q.up s.r 0 0) ((i.a).toNat)) + i.imm)) 4)) * 4)), (Q.up (Q.up (Q.up s.r 0 0) (i.d).toNat (IntKind.wrap .u32 (s.pc + 4))) 0 0), s.f, s.c, (IntKind.wrap .i64 (s.st + 1)), s.du⟩, 0, 0, V) else (bif ((decide (i.op ≥ 32)) && (decide (i.op ≤ 37))) then (bif (Q6.taken i.op ((Q.up s.r 0 0) ((i.d).toNat)) ((Q.up s.r 0 0) ((i.a).toNat))) then (⟨(IntKind.wrap .u32 (s.pc + (IntKind.wrap .u32 (4 * i.imm)))), (Q.up (Q.up s.r 0 0) 0 0), s.f, s.c, (IntKind.wrap .i64 (s.st + 1)), s.du⟩, 0, 0, V) else (⟨(IntKind.wrap .u32 (s.pc + 4)), (Q.up (Q.up s.r 0 0) 0 0), s.f, s.c, (IntKind.wrap .i64 (s.st + 1)), s.du⟩, 0, 0, V)) else (bif (i.op == 40) then (⟨(IntKind.wrap .u32 (s.pc + (IntKind.wrap .u32 (4 * i.imm)))), (Q.up (Q.up (Q.up s.r 0 0) (i.d).toNat (IntKind.wrap .u32 (s.pc + 4))) 0 0), s.f, s.c, (IntKind.wrap .i64 (s.st + 1)), s.du⟩, 0, 0, V) else (bif (i.op == 41) then (⟨(IntKind.wrap .u32 (s.pc + 4)), (Q.up (Q.up (Q.up s.r 0 0) (i.d).toNat (IntKind.wrap .u32 (i.imm * 2 ^ 10))) 0 0), s.f, s.c, (IntKind.wrap .i64 (s.st + 1)), s.du⟩, 0, 0, V) else (bif (i.op == 48) then (s, 4, i.imm, V) else (bif (i.op == 49) then (s, 3, 0, V) else (bif (i.op == 50) then (s, 2, 0, V) else (bif (i.op == 51) then (⟨(IntKind.wrap .u32 ((IntKind.wrap .u32 (Int.tdiv (s.c 1) 4)) * 4)), (Q.up (Q.up s.r 0 0) 0 0), s.f, s.c, (IntKind.wrap .i64 (s.st + 1)), s.du⟩, 0, 0, V) else (bif (i.op == 52) then (bif (!(decide ((((Q.up s.r 0 0) ((i.a).toNat))).toNat / 256 < V.n))) then (s, 5, ((Q.up s.r 0 0) ((i.a).toNat)), (V.sync ((((Q.up s.r 0 0) ((i.a).toNat))).toNat / 256))) else (⟨(IntKind.wrap .u32 (s.pc + 4)), (Q.up (Q.up s.r 0 0) 0 0), s.f, s.c, (IntKind.wrap .i64 (s.st + 1)), s.du⟩, 0, 0, (V.sync ((((Q.up s.r 0 0) ((i.a).toNat))).toNat / 256)))) else (bif (i.op == 53) then (⟨(IntKind.wrap .u32 (s.pc + 4)), (Q.up (Q.up (Q.up s.r 0 0) (i.d).toNat (s.c ((i.imm).toNat))) 0 0), s.f, s.c, (IntKind.wrap .i64 (s.st + 1)), s.du⟩, 0, 0, V) else (bif ((i.op == 54) && (i.imm == 4)) then (bif (((Q.up s.r 0 0) ((i.a).toNat)) != 0) then (⟨(IntKind.wrap .u32 (s.pc + 4)), (Q.up (Q.up s.r 0 0) 0 0), s.f, s.c, (IntKind.wrap .i64 (s.st + 1)), (IntKind.wrap .i64 ((IntKind.wrap .i64 (s.st + 1)) + (IntKind.wrap .i64 ((Q.up s.r 0 0) ((i.a).toNat)))))⟩, 0, 0, V) else (⟨(IntKind.wrap .u32 (s.pc + 4)), (Q.up (Q.up s.r 0 0) 0 0), s.f, s.c, (IntKind.wrap .i64 (s.st + 1)), 0⟩, 0, 0, V)) else (bif ((i.op == 54) && (decide (i.imm < 2))) then (⟨(IntKind.wrap .u32 (s.pc + 4)), (Q.up (Q.up s.r 0 0) 0 0), s.f, (Q.up s.c (i.imm).toNat ((Q.up s.r 0 0) ((i.a).toNat))), (IntKind.wrap .i64 (s.st + 1)), s.du⟩, 0, 0, V) else (⟨(IntKind.wrap .u32 (s.pc + 4)), (Q.up (Q.up s.r 0 0) 0 0), s.f, s.c, (IntKind.wrap .i64 (s.st + 1)), s.du⟩, 0, 0, V))))))))))))))))))
theorem Step6_i {m : Nat} (i : Q.I) (k t : Int) (s : Q.S) (V : M.V) (hf : Q6.fetch V s.pc = (i, k, t)) (hi : (k == 0) = true → Q.iok i) (hs : Q.wf s) : A.Tr Tryz.prog 18 #[Q.S.val s, .pointer (some ⟨m, 0, none⟩)] [R.It m V] (I := Unit) (fun _ => True) (fun _ => Q.out ((Q6.stepI i k t s V).1) ((Q6.stepI i k t s V).2.1) ((Q6.stepI i k t s V).2.2.1)) (fun _ => [R.It m (Q6.stepI i k t s V).2.2.2]) := by
 intro w oo aa hh
 refine E.enter (n := 301) (S := oo) Tryz.func18 rfl rfl (by kernel_rfl) (A.start (L := []) hh) (E.sr (E.G.new (fun g => E.pt g) (Q.S.cells s) 32 (fun w => by kernel_rfl) (by kernel_rfl) (fun g1 => E.G.new (fun g => E.pt g) (Q.S.cells Q.z0 ++ [E.i 0, E.u 0]) 53 (fun w => by kernel_rfl) (by kernel_rfl) (fun g2 => E.tr (E.op (E.pt g1) (E.li (E.u s.pc) 1 rfl rfl (E.op (E.pt m) (E.G.call (.agg #[E.i i.op, E.i i.d, E.i i.a, E.i i.b, E.u i.imm, E.i k, E.u t]) (fun w h => A.cq [2] [0, 1] (A.rdAs (v' := .agg #[E.i i.op, E.i i.d, E.i i.a, E.i i.b, E.u i.imm, E.i k, E.u t]) (Fetch6_rd (m := m) V s.pc) (by rw [hf] <;> rfl)) h) (fun w _ => by kernel_rfl) (by kernel_rfl) (E.G.new (fun g => E.pt g) [E.i 0, E.i 0, E.i 0, E.i 0, E.u 0, E.i 0, E.u 0] 118 (fun w => by kernel_rfl) (by kernel_rfl) (fun g3 => E.st 0 [E.i i.op, E.i i.d, E.i i.a, E.i i.b, E.u i.imm, E.i k, E.u t] rfl rfl (E.To.code ?_)))))))))))
 refine E.C.seq (E.sr (E.op (.pointer (some ⟨g3, 5, none⟩)) (E.op (.pointer (some ⟨g3, 5, none⟩)) (E.li (E.i k) 0 rfl rfl (E.op (.bool (k != 0)) (E.To.code (E.wk [(1, E.pt m), (2, E.pt g1), (4, E.pt g2), (5, E.pt g3), (26, .bool (k != 0))] [(g3, [E.i i.op, E.i i.d, E.i i.a, E.i i.b, E.u i.imm, E.i k, E.u t]), (g2, (Q.S.cells Q.z0 ++ [E.i 0, E.u 0])), (g1, (Q.S.cells s))] Nz.sub (E.cd (k != 0) (fun hc4 => ?_) (fun hc4 => ?_)))))))))
 ·
  refine E.sr (E.li (Q.S.val s) 2 rfl rfl (E.op (.pointer (some ⟨g3, 5, none⟩)) (E.li (.agg #[E.i k, E.u t]) 0 rfl rfl (E.vl (Q.out s k t) (fun w h => E.run_build (Q.S.cells s ++ [Value.int .i64 k, Value.int .u32 t]).toArray (by kernel_rfl) w) (E.st 1 (Q.S.cells s ++ [E.i k, E.u t]) rfl rfl (E.To.code (E.C.ret (E.P.rt (E.To.body (fn := Tryz.f18) [Q.out s k t] ?_ ?_)))))))))
  · exact ⟨⟨by kernel_rfl, _, _, 1, _, rfl, rfl, by kernel_rfl⟩, trivial⟩
  intro w h
  have e : (Q6.stepI i k t s V) = (s, k, t, V) := by unfold Q6.stepI; rw [hc4, cond_true] <;> rfl
  rw [e]
  exact ⟨(), trivial, rfl, A.dq [3] [0, 1, 2] h⟩
 refine E.C.skip (E.To.code (E.sr (E.op (E.pt g3) (E.li (.agg #[E.i i.op, E.i i.d, E.i i.a, E.i i.b, E.u i.imm]) 0 rfl rfl (E.G.new (fun g => E.pt g) [E.i 0, E.i 0, E.i 0, E.i 0, E.u 0] 71 (fun w => by kernel_rfl) (by kernel_rfl) (fun g5 => E.st 0 [E.i i.op, E.i i.d, E.i i.a, E.i i.b, E.u i.imm] rfl rfl (E.tr (E.li (Q.S.val s) 3 rfl rfl (E.G.new (fun g => E.pt g) (Q.S.cells Q.z0) 32 (fun w => by kernel_rfl) (by kernel_rfl) (fun g6 => E.st 0 (Q.S.cells s) rfl rfl (E.tr (E.op (.pointer (some ⟨g6, 1, none⟩)) ?_))))))))))))
 refine E.op (.pointer (some ⟨g6, 1, none⟩)) (E.st 0 (Q.S.cells (Qx.s s)) rfl rfl (E.tr (E.op (.pointer (some ⟨g5, 1, none⟩)) (E.li (E.i i.d) 1 rfl rfl (E.op (.pointer (some ⟨g6, 1, none⟩)) (E.vl (.pointer (some ⟨g6, 1 + (i.d).toNat, none⟩)) (fun w h => E.idxI (e := 24) g6 1 16 .i64 i.d (by kernel_rfl) (by kernel_rfl) (by kernel_rfl) (by kernel_rfl) (by have := (hi (Q.eq_of hc4)).d; omega) w) (E.vl (E.u (Qx.d s i)) (fun w h => E.run_load h 0 rfl rfl (Q.ld_r (by kernel_rfl) (by have := (by have := (hi (Q.eq_of hc4)).d; omega); omega))) (E.op (E.u (Qx.d s i)) (E.To.code (E.wk [(1, E.pt m), (2, E.pt g1), (4, E.pt g2), (6, E.pt g5), (7, E.pt g6), (8, E.u (Qx.d s i))] [(g6, (Q.S.cells (Qx.s s))), (g5, [E.i i.op, E.i i.d, E.i i.a, E.i i.b, E.u i.imm]), (g2, (Q.S.cells Q.z0 ++ [E.i 0, E.u 0])), (g1, (Q.S.cells s))] Nz.sub (E.sr ?_)))))))))))
 refine E.op (.pointer (some ⟨g5, 2, none⟩)) (E.li (E.i i.a) 1 rfl rfl (E.op (.pointer (some ⟨g6, 1, none⟩)) (E.vl (.pointer (some ⟨g6, 1 + (i.a).toNat, none⟩)) (fun w h => E.idxI (e := 24) g6 1 16 .i64 i.a (by kernel_rfl) (by kernel_rfl) (by kernel_rfl) (by kernel_rfl) (by have := (hi (Q.eq_of hc4)).a; omega) w) (E.vl (E.u (Qx.a s i)) (fun w h => E.run_load h 0 rfl rfl (Q.ld_r (by kernel_rfl) (by have := (by have := (hi (Q.eq_of hc4)).a; omega); omega))) (E.op (E.u (Qx.a s i)) (E.tr (E.op (.pointer (some ⟨g5, 3, none⟩)) (E.li (E.i i.b) 1 rfl rfl (E.op (.pointer (some ⟨g6, 1, none⟩)) (E.vl (.pointer (some ⟨g6, 1 + (i.b).toNat, none⟩)) (fun w h => E.idxI (e := 24) g6 1 16 .i64 i.b (by kernel_rfl) (by kernel_rfl) (by kernel_rfl) (by kernel_rfl) (by have := (hi (Q.eq_of hc4)).b; omega) w) (E.vl (E.u (Qx.b s i)) (fun w h => E.run_load h 0 rfl rfl (Q.ld_r (by kernel_rfl) (by have := (by have := (hi (Q.eq_of hc4)).b; omega); omega))) ?_)))))))))))
 refine E.op (E.u (Qx.b s i)) (E.To.code (E.wk [(1, E.pt m), (2, E.pt g1), (4, E.pt g2), (6, E.pt g5), (7, E.pt g6), (8, E.u (Qx.d s i)), (9, E.u (Qx.a s i)), (10, E.u (Qx.b s i))] [(g6, (Q.S.cells (Qx.s s))), (g5, [E.i i.op, E.i i.d, E.i i.a, E.i i.b, E.u i.imm]), (g2, (Q.S.cells Q.z0 ++ [E.i 0, E.u 0])), (g1, (Q.S.cells s))] Nz.sub (E.sr (E.op (E.pt g6) (E.li (E.u s.pc) 0 rfl rfl (E.op (E.u (Qx.p s)) (E.op (E.u (Qx.p s)) (E.tr (E.op (E.pt g5) (E.li (E.i i.op) 1 rfl rfl (E.G.call (E.i (Q6.oper i.op)) (fun w h => Oper6_any i.op w) (fun w _ => by kernel_rfl) (by kernel_rfl) ?_)))))))))))
 refine E.op (E.i (Q6.oper i.op)) (E.To.code (E.C.seq (E.sr (E.op (E.pt g5) (E.li (E.i i.op) 1 rfl rfl (E.op (.bool (decide (i.op ≥ 16))) (E.To.code (E.wk [(1, E.pt m), (2, E.pt g1), (4, E.pt g2), (6, E.pt g5), (7, E.pt g6), (8, E.u (Qx.d s i)), (9, E.u (Qx.a s i)), (10, E.u (Qx.b s i)), (11, E.u (Qx.p s)), (12, E.i (Q6.oper i.op)), (59, .bool (decide (i.op ≥ 16)))] [(g6, (Q.S.cells (Qx.s s))), (g5, [E.i i.op, E.i i.d, E.i i.a, E.i i.b, E.u i.imm]), (g2, (Q.S.cells Q.z0 ++ [E.i 0, E.u 0])), (g1, (Q.S.cells s))] Nz.sub (E.C.thencut [(1, E.pt m), (2, E.pt g1), (4, E.pt g2), (6, E.pt g5), (7, E.pt g6), (8, E.u (Qx.d s i)), (9, E.u (Qx.a s i)), (10, E.u (bif (decide (i.op ≥ 16)) then i.imm else (Qx.b s i))), (11, E.u (Qx.p s)), (12, E.i (Q6.oper i.op))] (A.X w oo aa [R.It m V]) [(g6, (Q.S.cells (Qx.s s))), (g5, [E.i i.op, E.i i.d, E.i i.a, E.i i.b, E.u i.imm]), (g2, (Q.S.cells Q.z0 ++ [E.i 0, E.u 0])), (g1, (Q.S.cells s))] ?_ ?_)))))))))
 ·
  generalize hc7 : (decide (i.op ≥ 16)) = b8
  cases b8
  ·
   exact E.C.condF (by kernel_rfl) (by kernel_rfl) (E.C.skip (E.To.pst ⟨by kernel_rfl, by kernel_rfl⟩ Nz.sub (fun _ h => h)))
  exact E.C.condT (by kernel_rfl) (by kernel_rfl) (E.C.region (E.op (.pointer (some ⟨g5, 4, none⟩)) (E.li (E.u i.imm) 1 rfl rfl (E.op (E.u i.imm) (E.To.pst ⟨by kernel_rfl, by kernel_rfl⟩ Nz.sub (fun _ h => h))))))
 refine E.C.seq (E.C.block (E.sr (E.op (E.pt g5) (E.li (E.i i.op) 1 rfl rfl (E.op (.bool (i.op == 10)) (E.op (.bool (i.op == 10)) (E.G.cut 3 [(1, E.pt m), (2, E.pt g1), (4, E.pt g2), (6, E.pt g5), (7, E.pt g6), (8, E.u (Qx.d s i)), (9, E.u (Qx.a s i)), (10, E.u (bif (decide (i.op ≥ 16)) then i.imm else (Qx.b s i))), (11, E.u (Qx.p s)), (12, E.i (Q6.oper i.op)), (69, .bool ((i.op == 10) && ((bif (decide (i.op ≥ 16)) then i.imm else (Qx.b s i)) == 0)))] (A.X w oo aa [R.It m V]) [(g6, (Q.S.cells (Qx.s s))), (g5, [E.i i.op, E.i i.d, E.i i.a, E.i i.b, E.u i.imm]), (g2, (Q.S.cells Q.z0 ++ [E.i 0, E.u 0])), (g1, (Q.S.cells s))] ?_ ?_)))))))
 ·
  generalize hc9 : (i.op == 10) = b10
  cases b10
  ·
   exact E.sk (E.sk (E.op (.bool false) (E.G.end_pst ⟨by kernel_rfl, by kernel_rfl⟩ Nz.sub (fun _ h => h))))
  exact E.op (E.u (bif (decide (i.op ≥ 16)) then i.imm else (Qx.b s i))) (E.op (.bool ((bif (decide (i.op ≥ 16)) then i.imm else (Qx.b s i)) == 0)) (E.op (.bool ((bif (decide (i.op ≥ 16)) then i.imm else (Qx.b s i)) == 0)) (E.G.end_pst ⟨by kernel_rfl, by kernel_rfl⟩ Nz.sub (fun _ h => h))))
 refine E.op (.bool ((i.op == 10) && ((bif (decide (i.op ≥ 16)) then i.imm else (Qx.b s i)) == 0))) (E.To.code (E.cd ((i.op == 10) && ((bif (decide (i.op ≥ 16)) then i.imm else ((Q.up s.r 0 0) ((i.b).toNat))) == 0)) (fun hc11 => ?_) (fun hc11 => ?_)))
 ·
  refine E.sr (E.li (Q.S.val s) 3 rfl rfl (E.G.call (Q.out s 6 0) (fun w h => Trapped6_any s 6 0 w) (fun w _ => by kernel_rfl) (by kernel_rfl) (E.st 2 (Q.S.cells s ++ [E.i 6, E.u 0]) rfl rfl (E.To.code (E.wk [(4, E.pt g2), (7, E.pt g6), (11, E.u (Qx.p s))] [(g6, (Q.S.cells (Qx.s s))), (g2, (Q.S.cells s ++ [E.i 6, E.u 0]))] Nz.sub (E.C.ret (E.P.rb (E.P.rt (E.To.body (fn := Tryz.f18) [Q.out s 6 0] ?_ ?_)))))))))
  · exact ⟨⟨by kernel_rfl, _, _, 1, _, rfl, rfl, by kernel_rfl⟩, trivial⟩
  intro w h
  have e : (Q6.stepI i k t s V) = (s, 6, 0, V) := by unfold Q6.stepI; rw [hc4, cond_false, hc11, cond_true] <;> rfl
  rw [e]
  exact ⟨(), trivial, rfl, A.dq [2] [0, 1] h⟩
 refine E.sr (E.op (E.i (Q6.oper i.op)) (E.op (.bool ((Q6.oper i.op) != 0)) (E.op (.bool ((Q6.oper i.op) != 0)) (E.To.code (E.cd ((Q6.oper i.op) != 0) (fun hc12 => ?_) (fun hc12 => ?_))))))
 ·
  refine E.C.held (A.Y [A.blk g5 ([E.i i.op, E.i i.d, E.i i.a, E.i i.b, E.u i.imm]), A.blk g2 (Q.S.cells Q.z0 ++ [E.i 0, E.u 0]), A.blk g1 (Q.S.cells s)]) (by kernel_rfl) (E.tk 0 (.pointer (some ⟨g5, 1, none⟩)) rfl (fun w h => A.hq [1, 2, 3] [0, 4] h) (E.tj 1 (E.i i.d) rfl (fun w h => A.hq [1, 2, 3] [0, 4] h) (fun w h => A.Y.bld h (k := 0) (j := 1) rfl (by kernel_rfl) (by kernel_rfl)) (E.tk 2 (E.i (Q6.oper i.op)) rfl (fun w h => A.hq [1, 2, 3] [0, 4] h) (E.tk 3 (E.u (Qx.a s i)) rfl (fun w h => A.hq [1, 2, 3] [0, 4] h) (E.tk 4 (E.u (bif (decide (i.op ≥ 16)) then i.imm else (Qx.b s i))) rfl (fun w h => A.hq [1, 2, 3] [0, 4] h) (E.tk 6 (.pointer (some ⟨g6, 1, none⟩)) rfl (fun w h => A.hq [1, 2, 3] [0, 4] h) (E.al 5 rfl (E.G.call (E.u (W.op (Q6.oper i.op) (Qx.a s i) (bif (decide (i.op ≥ 16)) then i.imm else (Qx.b s i)))) (fun w h => rOp_all (Q6.oper i.op) (Qx.a s i) (bif (decide (i.op ≥ 16)) then i.imm else (Qx.b s i)) (Q.up_bd hs.r (by decide) _) (Q.bif_bd (hi (Q.eq_of hc4)).imm (Q.up_bd hs.r (by decide) _)) w) (fun w _ => by kernel_rfl) (by kernel_rfl) (E.H.back (fun w h => A.hq [1, 2, 3] [0, 4] h) (E.tj 7 (.pointer (some ⟨g6, 1 + (i.d).toNat, none⟩)) rfl (fun w h => A.hq [1, 2, 3] [0, 4] h) (fun w h => E.idxI (e := 24) g6 1 16 .i64 i.d (by kernel_rfl) (by kernel_rfl) (by kernel_rfl) (by kernel_rfl) (by have := (hi (Q.eq_of hc4)).d; omega) w) (E.al 8 rfl ?_)))))))))))
  refine E.G.store 0 (Q.S.cells (⟨s.pc, (Q.up (Qx.u s) (i.d).toNat (W.op (Q6.oper i.op) (Qx.a s i) (bif (decide (i.op ≥ 16)) then i.imm else (Qx.b s i)))), s.f, s.c, s.st, s.du⟩)) rfl rfl (Q.sto_r (s := (Qx.s s)) (by kernel_rfl) (by have := (by have := (hi (Q.eq_of hc4)).d; omega); omega)) (by kernel_rfl) (E.H.back (fun w h => A.hq [1, 2, 3] [0, 4] h) (E.H.done (by kernel_rfl) (E.P.nb (E.To.code (E.wk [(4, E.pt g2), (7, E.pt g6), (11, E.u (Qx.p s))] [(g6, (Q.S.cells (⟨s.pc, (Q.up (Qx.u s) (i.d).toNat (W.op (Q6.oper i.op) (Qx.a s i) (bif (decide (i.op ≥ 16)) then i.imm else (Qx.b s i)))), s.f, s.c, s.st, s.du⟩))), (g2, (Q.S.cells Q.z0 ++ [E.i 0, E.u 0]))] Nz.sub (E.sr (E.op (.pointer (some ⟨g6, 1, none⟩)) (E.op (.pointer (some ⟨g6, 1, none⟩)) (E.st 0 (Q.S.cells (⟨s.pc, (Q.up (Q.up (Qx.u s) (i.d).toNat (W.op (Q6.oper i.op) (Qx.a s i) (bif (decide (i.op ≥ 16)) then i.imm else (Qx.b s i)))) 0 0), s.f, s.c, s.st, s.du⟩)) rfl rfl (E.tr (E.op (E.u (Qx.p s)) (E.op (E.pt g6) ?_))))))))))))
  refine E.st 0 (Q.S.cells (⟨(Qx.p s), (Q.up (Q.up (Qx.u s) (i.d).toNat (W.op (Q6.oper i.op) (Qx.a s i) (bif (decide (i.op ≥ 16)) then i.imm else (Qx.b s i)))) 0 0), s.f, s.c, s.st, s.du⟩)) rfl rfl (E.tr (E.op (.pointer (some ⟨g6, 22, none⟩)) (E.li (E.i s.st) 0 rfl rfl (E.op (E.i (Qx.t s)) (E.op (.pointer (some ⟨g6, 22, none⟩)) (E.st 0 (Q.S.cells (⟨(Qx.p s), (Q.up (Q.up (Qx.u s) (i.d).toNat (W.op (Q6.oper i.op) (Qx.a s i) (bif (decide (i.op ≥ 16)) then i.imm else (Qx.b s i)))) 0 0), s.f, s.c, (Qx.t s), s.du⟩)) rfl rfl (E.To.code (E.wk [(4, E.pt g2), (7, E.pt g6)] [(g6, (Q.S.cells (⟨(Qx.p s), (Q.up (Q.up (Qx.u s) (i.d).toNat (W.op (Q6.oper i.op) (Qx.a s i) (bif (decide (i.op ≥ 16)) then i.imm else (Qx.b s i)))) 0 0), s.f, s.c, (Qx.t s), s.du⟩))), (g2, (Q.S.cells Q.z0 ++ [E.i 0, E.u 0]))] Nz.sub (E.sr (E.li (Q.S.val (⟨(Qx.p s), (Q.up (Q.up (Qx.u s) (i.d).toNat (W.op (Q6.oper i.op) (Qx.a s i) (bif (decide (i.op ≥ 16)) then i.imm else (Qx.b s i)))) 0 0), s.f, s.c, (Qx.t s), s.du⟩)) 0 rfl rfl (E.vl (Q.out (⟨(Qx.p s), (Q.up (Q.up (Qx.u s) (i.d).toNat (W.op (Q6.oper i.op) (Qx.a s i) (bif (decide (i.op ≥ 16)) then i.imm else (Qx.b s i)))) 0 0), s.f, s.c, (Qx.t s), s.du⟩ : Q.S) 0 0) (fun w h => E.run_build (Q.S.cells (⟨(Qx.p s), (Q.up (Q.up (Qx.u s) (i.d).toNat (W.op (Q6.oper i.op) (Qx.a s i) (bif (decide (i.op ≥ 16)) then i.imm else (Qx.b s i)))) 0 0), s.f, s.c, (Qx.t s), s.du⟩ : Q.S) ++ [Value.int .i64 0, Value.int .u32 0]).toArray (by kernel_rfl) w) ?_)))))))))))
  refine E.st 1 (Q.S.cells (⟨(Qx.p s), (Q.up (Q.up (Qx.u s) (i.d).toNat (W.op (Q6.oper i.op) (Qx.a s i) (bif (decide (i.op ≥ 16)) then i.imm else (Qx.b s i)))) 0 0), s.f, s.c, (Qx.t s), s.du⟩) ++ [E.i 0, E.u 0]) rfl rfl (E.To.code (E.C.ret (E.To.body (fn := Tryz.f18) [Q.out (⟨(Qx.p s), (Q.up (Q.up (Qx.u s) (i.d).toNat (W.op (Q6.oper i.op) (Qx.a s i) (bif (decide (i.op ≥ 16)) then i.imm else (Qx.b s i)))) 0 0), s.f, s.c, (Qx.t s), s.du⟩ : Q.S) 0 0] ?_ ?_)))
  · exact ⟨⟨by kernel_rfl, _, _, 1, _, rfl, rfl, by kernel_rfl⟩, trivial⟩
  intro w h
  have e : (Q6.stepI i k t s V) = (⟨(Qx.p s), (Q.up (Q.up (Qx.u s) (i.d).toNat (W.op (Q6.oper i.op) (Qx.a s i) (bif (decide (i.op ≥ 16)) then i.imm else (Qx.b s i)))) 0 0), s.f, s.c, (Qx.t s), s.du⟩, 0, 0, V) := by unfold Q6.stepI; rw [hc4, cond_false, hc11, cond_false, hc12, cond_true] <;> rfl
  rw [e]
  exact ⟨(), trivial, rfl, A.dq [2] [0, 1] h⟩
 refine E.sr (E.op (E.pt g5) (E.li (E.i i.op) 1 rfl rfl (E.op (.bool (i.op == 23)) (E.op (.bool (i.op == 23)) (E.G.cut 4 [(1, E.pt m), (2, E.pt g1), (4, E.pt g2), (6, E.pt g5), (7, E.pt g6), (8, E.u (Qx.d s i)), (9, E.u (Qx.a s i)), (11, E.u (Qx.p s)), (91, .bool ((i.op == 23) || (i.op == 24)))] (A.X w oo aa [R.It m V]) [(g6, (Q.S.cells (Qx.s s))), (g5, [E.i i.op, E.i i.d, E.i i.a, E.i i.b, E.u i.imm]), (g2, (Q.S.cells Q.z0 ++ [E.i 0, E.u 0])), (g1, (Q.S.cells s))] ?_ ?_)))))
 ·
  generalize hc13 : (i.op == 23) = b14
  cases b14
  ·
   exact E.op (E.pt g5) (E.li (E.i i.op) 1 rfl rfl (E.op (.bool (i.op == 24)) (E.op (.bool (i.op == 24)) (E.G.end_pst ⟨by kernel_rfl, by kernel_rfl⟩ Nz.sub (fun _ h => h)))))
  exact E.sk (E.sk (E.sk (E.op (.bool true) (E.G.end_pst ⟨by kernel_rfl, by kernel_rfl⟩ Nz.sub (fun _ h => h)))))
 refine E.op (.bool ((i.op == 23) || (i.op == 24))) (E.To.code (E.cd ((i.op == 23) || (i.op == 24)) (fun hc15 => ?_) (fun hc15 => ?_)))
 ·
  refine E.sr (E.op (E.i 4) (E.To.code (E.C.seq (E.sr (E.op (E.pt g5) (E.li (E.i i.op) 1 rfl rfl (E.op (.bool (i.op == 24)) (E.To.code (E.C.thencut [(1, E.pt m), (2, E.pt g1), (4, E.pt g2), (6, E.pt g5), (7, E.pt g6), (9, E.u (Qx.a s i)), (11, E.u (Qx.p s)), (13, E.i (bif (i.op == 24) then 1 else 4))] (A.X w oo aa [R.It m V]) [(g6, (Q.S.cells (Qx.s s))), (g5, [E.i i.op, E.i i.d, E.i i.a, E.i i.b, E.u i.imm]), (g2, (Q.S.cells Q.z0 ++ [E.i 0, E.u 0])), (g1, (Q.S.cells s))] ?_ ?_)))))))))
  ·
   generalize hc16 : (i.op == 24) = b17
   cases b17
   ·
    exact E.C.condF (by kernel_rfl) (by kernel_rfl) (E.C.skip (E.To.pst ⟨by kernel_rfl, by kernel_rfl⟩ Nz.sub (fun _ h => h)))
   exact E.C.condT (by kernel_rfl) (by kernel_rfl) (E.C.region (E.op (E.i 1) (E.To.pst ⟨by kernel_rfl, by kernel_rfl⟩ Nz.sub (fun _ h => h))))
  refine E.sr (E.op (E.pt m) (E.op (E.u (Qx.a s i)) (E.op (.pointer (some ⟨g5, 4, none⟩)) (E.li (E.u i.imm) 1 rfl rfl (E.op (E.u (Qx.x s i)) (E.op (E.i (bif (i.op == 24) then 1 else 4)) (E.G.call (.agg #[E.u ((V.load ((Qx.x s i)).toNat (bif (i.op == 24) then 1 else 4)).1), E.u ((V.load ((Qx.x s i)).toNat (bif (i.op == 24) then 1 else 4)).2.1), .bool ((V.load ((Qx.x s i)).toNat (bif (i.op == 24) then 1 else 4)).2.2)]) (fun w h => A.cq [4] [0, 1, 2, 3] (J_Load (m := m) (V := V) (Qx.x s i) (bif (i.op == 24) then 1 else 4) (Q.wrap_bd _)) h) (fun w _ => by kernel_rfl) (by kernel_rfl) (E.G.new (fun g => E.pt g) [E.u 0, E.u 0, .bool false] 80 (fun w => by kernel_rfl) (by kernel_rfl) (fun g18 => E.st 0 [E.u ((V.load ((Qx.x s i)).toNat (bif (i.op == 24) then 1 else 4)).1), E.u ((V.load ((Qx.x s i)).toNat (bif (i.op == 24) then 1 else 4)).2.1), .bool ((V.load ((Qx.x s i)).toNat (bif (i.op == 24) then 1 else 4)).2.2)] rfl rfl (E.To.code (E.wk [(2, E.pt g1), (4, E.pt g2), (6, E.pt g5), (7, E.pt g6), (11, E.u (Qx.p s)), (14, E.pt g18)] [(g18, [E.u ((V.load ((Qx.x s i)).toNat (bif (i.op == 24) then 1 else 4)).1), E.u ((V.load ((Qx.x s i)).toNat (bif (i.op == 24) then 1 else 4)).2.1), .bool ((V.load ((Qx.x s i)).toNat (bif (i.op == 24) then 1 else 4)).2.2)]), (g6, (Q.S.cells (Qx.s s))), (g5, [E.i i.op, E.i i.d, E.i i.a, E.i i.b, E.u i.imm]), (g2, (Q.S.cells Q.z0 ++ [E.i 0, E.u 0])), (g1, (Q.S.cells s))] Nz.sub ?_)))))))))))
  refine E.C.seq (E.sr (E.op (.pointer (some ⟨g18, 2, none⟩)) (E.li (.bool ((V.load ((Qx.x s i)).toNat (bif (i.op == 24) then 1 else 4)).2.2)) 0 rfl rfl (E.op (.bool (!((V.load ((Qx.x s i)).toNat (bif (i.op == 24) then 1 else 4)).2.2))) (E.To.code (E.cd (!((V.load ((IntKind.wrap .u32 (((Q.up s.r 0 0) ((i.a).toNat)) + i.imm))).toNat (bif (i.op == 24) then 1 else 4)).2.2)) (fun hc19 => ?_) (fun hc19 => ?_)))))))
  ·
   refine E.sr (E.li (Q.S.val s) 4 rfl rfl (E.op (.pointer (some ⟨g18, 1, none⟩)) (E.li (E.u ((V.load ((Qx.x s i)).toNat (bif (i.op == 24) then 1 else 4)).2.1)) 0 rfl rfl (E.G.call (Q.out s 5 ((V.load ((Qx.x s i)).toNat (bif (i.op == 24) then 1 else 4)).2.1)) (fun w h => Trapped6_any s 5 ((V.load ((Qx.x s i)).toNat (bif (i.op == 24) then 1 else 4)).2.1) w) (fun w _ => by kernel_rfl) (by kernel_rfl) (E.st 3 (Q.S.cells s ++ [E.i 5, E.u ((V.load ((Qx.x s i)).toNat (bif (i.op == 24) then 1 else 4)).2.1)]) rfl rfl (E.To.code (E.wk [(4, E.pt g2), (6, E.pt g5), (7, E.pt g6), (11, E.u (Qx.p s)), (14, E.pt g18)] [(g18, [E.u ((V.load ((Qx.x s i)).toNat (bif (i.op == 24) then 1 else 4)).1), E.u ((V.load ((Qx.x s i)).toNat (bif (i.op == 24) then 1 else 4)).2.1), .bool ((V.load ((Qx.x s i)).toNat (bif (i.op == 24) then 1 else 4)).2.2)]), (g6, (Q.S.cells (Qx.s s))), (g5, [E.i i.op, E.i i.d, E.i i.a, E.i i.b, E.u i.imm]), (g2, (Q.S.cells s ++ [E.i 5, E.u ((V.load ((Qx.x s i)).toNat (bif (i.op == 24) then 1 else 4)).2.1)]))] Nz.sub (E.C.ret (E.P.rt (E.P.rb (E.P.rt (E.To.body (fn := Tryz.f18) [Q.out s 5 ((V.load ((Qx.x s i)).toNat (bif (i.op == 24) then 1 else 4)).2.1)] ?_ ?_))))))))))))
   · exact ⟨⟨by kernel_rfl, _, _, 3, _, rfl, rfl, by kernel_rfl⟩, trivial⟩
   intro w h
   have e : (Q6.stepI i k t s V) = (s, 5, (V.load ((Qx.x s i)).toNat (bif (i.op == 24) then 1 else 4)).2.1, V) := by unfold Q6.stepI; rw [hc4, cond_false, hc11, cond_false, hc12, cond_false, hc15, cond_true, hc19, cond_true] <;> rfl
   rw [e]
   exact ⟨(), trivial, rfl, A.dq [4] [0, 1, 2, 3] h⟩
  refine E.C.skip (E.To.code (E.C.region (E.op (.pointer (some ⟨g5, 1, none⟩)) (E.li (E.i i.d) 2 rfl rfl (E.op (E.pt g18) (E.li (E.u ((V.load ((Qx.x s i)).toNat (bif (i.op == 24) then 1 else 4)).1)) 0 rfl rfl (E.op (.pointer (some ⟨g6, 1, none⟩)) (E.vl (.pointer (some ⟨g6, 1 + (i.d).toNat, none⟩)) (fun w h => E.idxI (e := 24) g6 1 16 .i64 i.d (by kernel_rfl) (by kernel_rfl) (by kernel_rfl) (by kernel_rfl) (by have := (hi (Q.eq_of hc4)).d; omega) w) (E.G.store 1 (Q.S.cells (⟨s.pc, (Q.up (Qx.u s) (i.d).toNat ((V.load ((Qx.x s i)).toNat (bif (i.op == 24) then 1 else 4)).1)), s.f, s.c, s.st, s.du⟩)) rfl rfl (Q.sto_r (s := (Qx.s s)) (by kernel_rfl) (by have := (by have := (hi (Q.eq_of hc4)).d; omega); omega)) (by kernel_rfl) (E.P.nb (E.To.code (E.wk [(4, E.pt g2), (7, E.pt g6), (11, E.u (Qx.p s))] [(g6, (Q.S.cells (⟨s.pc, (Q.up (Qx.u s) (i.d).toNat ((V.load ((Qx.x s i)).toNat (bif (i.op == 24) then 1 else 4)).1)), s.f, s.c, s.st, s.du⟩))), (g2, (Q.S.cells Q.z0 ++ [E.i 0, E.u 0]))] Nz.sub (E.sr ?_)))))))))))))
  refine E.op (.pointer (some ⟨g6, 1, none⟩)) (E.op (.pointer (some ⟨g6, 1, none⟩)) (E.st 0 (Q.S.cells (⟨s.pc, (Q.up (Q.up (Qx.u s) (i.d).toNat ((V.load ((Qx.x s i)).toNat (bif (i.op == 24) then 1 else 4)).1)) 0 0), s.f, s.c, s.st, s.du⟩)) rfl rfl (E.tr (E.op (E.u (Qx.p s)) (E.op (E.pt g6) (E.st 0 (Q.S.cells (⟨(Qx.p s), (Q.up (Q.up (Qx.u s) (i.d).toNat ((V.load ((Qx.x s i)).toNat (bif (i.op == 24) then 1 else 4)).1)) 0 0), s.f, s.c, s.st, s.du⟩)) rfl rfl (E.tr (E.op (.pointer (some ⟨g6, 22, none⟩)) (E.li (E.i s.st) 0 rfl rfl (E.op (E.i (Qx.t s)) (E.op (.pointer (some ⟨g6, 22, none⟩)) ?_)))))))))))
  refine E.st 0 (Q.S.cells (⟨(Qx.p s), (Q.up (Q.up (Qx.u s) (i.d).toNat ((V.load ((Qx.x s i)).toNat (bif (i.op == 24) then 1 else 4)).1)) 0 0), s.f, s.c, (Qx.t s), s.du⟩)) rfl rfl (E.To.code (E.wk [(4, E.pt g2), (7, E.pt g6)] [(g6, (Q.S.cells (⟨(Qx.p s), (Q.up (Q.up (Qx.u s) (i.d).toNat ((V.load ((Qx.x s i)).toNat (bif (i.op == 24) then 1 else 4)).1)) 0 0), s.f, s.c, (Qx.t s), s.du⟩))), (g2, (Q.S.cells Q.z0 ++ [E.i 0, E.u 0]))] Nz.sub (E.sr (E.li (Q.S.val (⟨(Qx.p s), (Q.up (Q.up (Qx.u s) (i.d).toNat ((V.load ((Qx.x s i)).toNat (bif (i.op == 24) then 1 else 4)).1)) 0 0), s.f, s.c, (Qx.t s), s.du⟩)) 0 rfl rfl (E.vl (Q.out (⟨(Qx.p s), (Q.up (Q.up (Qx.u s) (i.d).toNat ((V.load ((Qx.x s i)).toNat (bif (i.op == 24) then 1 else 4)).1)) 0 0), s.f, s.c, (Qx.t s), s.du⟩ : Q.S) 0 0) (fun w h => E.run_build (Q.S.cells (⟨(Qx.p s), (Q.up (Q.up (Qx.u s) (i.d).toNat ((V.load ((Qx.x s i)).toNat (bif (i.op == 24) then 1 else 4)).1)) 0 0), s.f, s.c, (Qx.t s), s.du⟩ : Q.S) ++ [Value.int .i64 0, Value.int .u32 0]).toArray (by kernel_rfl) w) (E.st 1 (Q.S.cells (⟨(Qx.p s), (Q.up (Q.up (Qx.u s) (i.d).toNat ((V.load ((Qx.x s i)).toNat (bif (i.op == 24) then 1 else 4)).1)) 0 0), s.f, s.c, (Qx.t s), s.du⟩) ++ [E.i 0, E.u 0]) rfl rfl (E.To.code (E.C.ret (E.To.body (fn := Tryz.f18) [Q.out (⟨(Qx.p s), (Q.up (Q.up (Qx.u s) (i.d).toNat ((V.load ((Qx.x s i)).toNat (bif (i.op == 24) then 1 else 4)).1)) 0 0), s.f, s.c, (Qx.t s), s.du⟩ : Q.S) 0 0] ?_ ?_)))))))))
  · exact ⟨⟨by kernel_rfl, _, _, 1, _, rfl, rfl, by kernel_rfl⟩, trivial⟩
  intro w h
  have e : (Q6.stepI i k t s V) = (⟨(Qx.p s), (Q.up (Q.up (Qx.u s) (i.d).toNat ((V.load ((Qx.x s i)).toNat (bif (i.op == 24) then 1 else 4)).1)) 0 0), s.f, s.c, (Qx.t s), s.du⟩, 0, 0, V) := by unfold Q6.stepI; rw [hc4, cond_false, hc11, cond_false, hc12, cond_false, hc15, cond_true, hc19, cond_false] <;> rfl
  rw [e]
  exact ⟨(), trivial, rfl, A.dq [2] [0, 1] h⟩
 refine E.sr (E.op (E.pt g5) (E.li (E.i i.op) 1 rfl rfl (E.op (.bool (i.op == 25)) (E.op (.bool (i.op == 25)) (E.G.cut 4 [(1, E.pt m), (2, E.pt g1), (4, E.pt g2), (6, E.pt g5), (7, E.pt g6), (8, E.u (Qx.d s i)), (9, E.u (Qx.a s i)), (11, E.u (Qx.p s)), (123, .bool ((i.op == 25) || (i.op == 26)))] (A.X w oo aa [R.It m V]) [(g6, (Q.S.cells (Qx.s s))), (g5, [E.i i.op, E.i i.d, E.i i.a, E.i i.b, E.u i.imm]), (g2, (Q.S.cells Q.z0 ++ [E.i 0, E.u 0])), (g1, (Q.S.cells s))] ?_ ?_)))))
 ·
  generalize hc20 : (i.op == 25) = b21
  cases b21
  ·
   exact E.op (E.pt g5) (E.li (E.i i.op) 1 rfl rfl (E.op (.bool (i.op == 26)) (E.op (.bool (i.op == 26)) (E.G.end_pst ⟨by kernel_rfl, by kernel_rfl⟩ Nz.sub (fun _ h => h)))))
  exact E.sk (E.sk (E.sk (E.op (.bool true) (E.G.end_pst ⟨by kernel_rfl, by kernel_rfl⟩ Nz.sub (fun _ h => h)))))
 refine E.op (.bool ((i.op == 25) || (i.op == 26))) (E.To.code (E.cd ((i.op == 25) || (i.op == 26)) (fun hc22 => ?_) (fun hc22 => ?_)))
 ·
  refine E.sr (E.op (E.i 4) (E.To.code (E.C.seq (E.sr (E.op (E.pt g5) (E.li (E.i i.op) 1 rfl rfl (E.op (.bool (i.op == 26)) (E.To.code (E.C.thencut [(1, E.pt m), (2, E.pt g1), (4, E.pt g2), (6, E.pt g5), (7, E.pt g6), (8, E.u (Qx.d s i)), (9, E.u (Qx.a s i)), (11, E.u (Qx.p s)), (15, E.i (bif (i.op == 26) then 1 else 4))] (A.X w oo aa [R.It m V]) [(g6, (Q.S.cells (Qx.s s))), (g5, [E.i i.op, E.i i.d, E.i i.a, E.i i.b, E.u i.imm]), (g2, (Q.S.cells Q.z0 ++ [E.i 0, E.u 0])), (g1, (Q.S.cells s))] ?_ ?_)))))))))
  ·
   generalize hc23 : (i.op == 26) = b24
   cases b24
   ·
    exact E.C.condF (by kernel_rfl) (by kernel_rfl) (E.C.skip (E.To.pst ⟨by kernel_rfl, by kernel_rfl⟩ Nz.sub (fun _ h => h)))
   exact E.C.condT (by kernel_rfl) (by kernel_rfl) (E.C.region (E.op (E.i 1) (E.To.pst ⟨by kernel_rfl, by kernel_rfl⟩ Nz.sub (fun _ h => h))))
  refine E.sr (E.op (E.pt m) (E.op (E.u (Qx.a s i)) (E.op (.pointer (some ⟨g5, 4, none⟩)) (E.li (E.u i.imm) 1 rfl rfl (E.op (E.u (Qx.x s i)) (E.op (E.i (bif (i.op == 26) then 1 else 4)) (E.op (E.u (Qx.d s i)) (A.G.call (I := Unit) (D := fun _ => True) (V := fun _ => .agg #[E.u 0, E.u ((V.chk ((Qx.x s i)).toNat 2 (bif (i.op == 26) then 1 else 4)).1), .bool ((V.chk ((Qx.x s i)).toNat 2 (bif (i.op == 26) then 1 else 4)).2)]) (q := fun _ => [R.It m (V.sto ((Qx.x s i)).toNat (bif (i.op == 26) then 1 else 4) (Qx.d s i))]) [A.blk g6 (Q.S.cells (Qx.s s)), A.blk g5 ([E.i i.op, E.i i.d, E.i i.a, E.i i.b, E.u i.imm]), A.blk g2 (Q.S.cells Q.z0 ++ [E.i 0, E.u 0]), A.blk g1 (Q.S.cells s)] (fun _ => [(g6, (Q.S.cells (Qx.s s))), (g5, [E.i i.op, E.i i.d, E.i i.a, E.i i.b, E.u i.imm]), (g2, (Q.S.cells Q.z0 ++ [E.i 0, E.u 0])), (g1, (Q.S.cells s))]) (fun _ => [R.It m (V.sto ((Qx.x s i)).toNat (bif (i.op == 26) then 1 else 4) (Qx.d s i))]) (J_Store (m := m) (V := V) (Qx.x s i) (bif (i.op == 26) then 1 else 4) (Qx.d s i) (Q.wrap_bd _) (Q.up_bd hs.r (by decide) _)) (by kernel_rfl) (A.pn [4, 0, 1, 2, 3]) (fun _ => A.pm [1, 2, 3, 4, 0] (by kernel_rfl) (by kernel_rfl)) (fun w _ => by kernel_rfl) (by kernel_rfl) (fun _ hd25 => E.G.new (fun g => E.pt g) [E.u 0, E.u 0, .bool false] 80 (fun w => by kernel_rfl) (by kernel_rfl) (fun g26 => E.st 0 [E.u 0, E.u ((V.chk ((Qx.x s i)).toNat 2 (bif (i.op == 26) then 1 else 4)).1), .bool ((V.chk ((Qx.x s i)).toNat 2 (bif (i.op == 26) then 1 else 4)).2)] rfl rfl (E.To.code ?_)))))))))))
  refine E.wk [(2, E.pt g1), (4, E.pt g2), (7, E.pt g6), (11, E.u (Qx.p s)), (16, E.pt g26)] [(g26, [E.u 0, E.u ((V.chk ((Qx.x s i)).toNat 2 (bif (i.op == 26) then 1 else 4)).1), .bool ((V.chk ((Qx.x s i)).toNat 2 (bif (i.op == 26) then 1 else 4)).2)]), (g6, (Q.S.cells (Qx.s s))), (g2, (Q.S.cells Q.z0 ++ [E.i 0, E.u 0])), (g1, (Q.S.cells s))] Nz.sub (E.sr (E.op (.pointer (some ⟨g26, 2, none⟩)) (E.li (.bool ((V.chk ((Qx.x s i)).toNat 2 (bif (i.op == 26) then 1 else 4)).2)) 0 rfl rfl (E.op (.bool (!((V.chk ((Qx.x s i)).toNat 2 (bif (i.op == 26) then 1 else 4)).2))) (E.To.code (E.cd (!((V.chk ((IntKind.wrap .u32 (((Q.up s.r 0 0) ((i.a).toNat)) + i.imm))).toNat 2 (bif (i.op == 26) then 1 else 4)).2)) (fun hc27 => ?_) (fun hc27 => ?_)))))))
  ·
   refine E.sr (E.li (Q.S.val s) 3 rfl rfl (E.op (.pointer (some ⟨g26, 1, none⟩)) (E.li (E.u ((V.chk ((Qx.x s i)).toNat 2 (bif (i.op == 26) then 1 else 4)).1)) 0 rfl rfl (E.G.call (Q.out s 5 ((V.chk ((Qx.x s i)).toNat 2 (bif (i.op == 26) then 1 else 4)).1)) (fun w h => Trapped6_any s 5 ((V.chk ((Qx.x s i)).toNat 2 (bif (i.op == 26) then 1 else 4)).1) w) (fun w _ => by kernel_rfl) (by kernel_rfl) (E.st 2 (Q.S.cells s ++ [E.i 5, E.u ((V.chk ((Qx.x s i)).toNat 2 (bif (i.op == 26) then 1 else 4)).1)]) rfl rfl (E.To.code (E.wk [(4, E.pt g2), (7, E.pt g6), (11, E.u (Qx.p s))] [(g6, (Q.S.cells (Qx.s s))), (g2, (Q.S.cells s ++ [E.i 5, E.u ((V.chk ((Qx.x s i)).toNat 2 (bif (i.op == 26) then 1 else 4)).1)]))] Nz.sub (E.C.ret (E.P.rb (E.P.rt (E.To.body (fn := Tryz.f18) [Q.out s 5 ((V.chk ((Qx.x s i)).toNat 2 (bif (i.op == 26) then 1 else 4)).1)] ?_ ?_)))))))))))
   · exact ⟨⟨by kernel_rfl, _, _, 1, _, rfl, rfl, by kernel_rfl⟩, trivial⟩
   intro w h
   have e : (Q6.stepI i k t s V) = (s, 5, (V.chk ((Qx.x s i)).toNat 2 (bif (i.op == 26) then 1 else 4)).1, (V.sto ((Qx.x s i)).toNat (bif (i.op == 26) then 1 else 4) (Qx.d s i))) := by unfold Q6.stepI; rw [hc4, cond_false, hc11, cond_false, hc12, cond_false, hc15, cond_false, hc22, cond_true, hc27, cond_true] <;> rfl
   rw [e]
   exact ⟨(), trivial, rfl, A.dq [2] [0, 1] h⟩
  refine E.C.skip (E.P.nb (E.To.code (E.sr (E.op (.pointer (some ⟨g6, 1, none⟩)) (E.op (.pointer (some ⟨g6, 1, none⟩)) (E.st 1 (Q.S.cells (⟨s.pc, (Q.up (Qx.u s) 0 0), s.f, s.c, s.st, s.du⟩)) rfl rfl (E.tr (E.op (E.u (Qx.p s)) (E.op (E.pt g6) (E.st 1 (Q.S.cells (⟨(Qx.p s), (Q.up (Qx.u s) 0 0), s.f, s.c, s.st, s.du⟩)) rfl rfl (E.To.code (E.wk [(4, E.pt g2), (7, E.pt g6)] [(g6, (Q.S.cells (⟨(Qx.p s), (Q.up (Qx.u s) 0 0), s.f, s.c, s.st, s.du⟩))), (g2, (Q.S.cells Q.z0 ++ [E.i 0, E.u 0]))] Nz.sub (E.sr ?_)))))))))))))
  refine E.op (.pointer (some ⟨g6, 22, none⟩)) (E.li (E.i s.st) 0 rfl rfl (E.op (E.i (Qx.t s)) (E.op (.pointer (some ⟨g6, 22, none⟩)) (E.st 0 (Q.S.cells (⟨(Qx.p s), (Q.up (Qx.u s) 0 0), s.f, s.c, (Qx.t s), s.du⟩)) rfl rfl (E.tr (E.li (Q.S.val (⟨(Qx.p s), (Q.up (Qx.u s) 0 0), s.f, s.c, (Qx.t s), s.du⟩)) 0 rfl rfl (E.vl (Q.out (⟨(Qx.p s), (Q.up (Qx.u s) 0 0), s.f, s.c, (Qx.t s), s.du⟩ : Q.S) 0 0) (fun w h => E.run_build (Q.S.cells (⟨(Qx.p s), (Q.up (Qx.u s) 0 0), s.f, s.c, (Qx.t s), s.du⟩ : Q.S) ++ [Value.int .i64 0, Value.int .u32 0]).toArray (by kernel_rfl) w) (E.st 1 (Q.S.cells (⟨(Qx.p s), (Q.up (Qx.u s) 0 0), s.f, s.c, (Qx.t s), s.du⟩) ++ [E.i 0, E.u 0]) rfl rfl (E.To.code (E.C.ret (E.To.body (fn := Tryz.f18) [Q.out (⟨(Qx.p s), (Q.up (Qx.u s) 0 0), s.f, s.c, (Qx.t s), s.du⟩ : Q.S) 0 0] ?_ ?_)))))))))))
  · exact ⟨⟨by kernel_rfl, _, _, 1, _, rfl, rfl, by kernel_rfl⟩, trivial⟩
  intro w h
  have e : (Q6.stepI i k t s V) = (⟨(Qx.p s), (Q.up (Qx.u s) 0 0), s.f, s.c, (Qx.t s), s.du⟩, 0, 0, (V.sto ((Qx.x s i)).toNat (bif (i.op == 26) then 1 else 4) (Qx.d s i))) := by unfold Q6.stepI; rw [hc4, cond_false, hc11, cond_false, hc12, cond_false, hc15, cond_false, hc22, cond_true, hc27, cond_false] <;> rfl
  rw [e]
  exact ⟨(), trivial, rfl, A.dq [2] [0, 1] h⟩
 refine E.sr (E.op (E.pt g5) (E.li (E.i i.op) 1 rfl rfl (E.op (.bool (i.op == 27)) (E.op (.bool (i.op == 27)) (E.To.code (E.cd (i.op == 27) (fun hc28 => ?_) (fun hc28 => ?_)))))))
 ·
  refine E.sr (E.op (.pointer (some ⟨g5, 1, none⟩)) (E.li (E.i i.d) 1 rfl rfl (E.op (E.u (Qx.p s)) (E.op (.pointer (some ⟨g6, 1, none⟩)) (E.vl (.pointer (some ⟨g6, 1 + (i.d).toNat, none⟩)) (fun w h => E.idxI (e := 24) g6 1 16 .i64 i.d (by kernel_rfl) (by kernel_rfl) (by kernel_rfl) (by kernel_rfl) (by have := (hi (Q.eq_of hc4)).d; omega) w) (E.G.store 0 (Q.S.cells (⟨s.pc, (Q.up (Qx.u s) (i.d).toNat (Qx.p s)), s.f, s.c, s.st, s.du⟩)) rfl rfl (Q.sto_r (s := (Qx.s s)) (by kernel_rfl) (by have := (by have := (hi (Q.eq_of hc4)).d; omega); omega)) (by kernel_rfl) (E.To.code (E.wk [(4, E.pt g2), (6, E.pt g5), (7, E.pt g6), (9, E.u (Qx.a s i)), (11, E.u (Qx.p s))] [(g6, (Q.S.cells (⟨s.pc, (Q.up (Qx.u s) (i.d).toNat (Qx.p s)), s.f, s.c, s.st, s.du⟩))), (g5, [E.i i.op, E.i i.d, E.i i.a, E.i i.b, E.u i.imm]), (g2, (Q.S.cells Q.z0 ++ [E.i 0, E.u 0]))] Nz.sub (E.C.region (E.op (E.u (Qx.a s i)) (E.op (.pointer (some ⟨g5, 4, none⟩)) ?_)))))))))))
  refine E.li (E.u i.imm) 1 rfl rfl (E.op (E.u (Qx.x s i)) (E.op (E.u (IntKind.wrap .u32 (Int.tdiv (Qx.x s i) 4))) (E.op (E.u (IntKind.wrap .u32 ((IntKind.wrap .u32 (Int.tdiv (Qx.x s i) 4)) * 4))) (E.op (E.u (IntKind.wrap .u32 ((IntKind.wrap .u32 (Int.tdiv (Qx.x s i) 4)) * 4))) (E.P.nb (E.To.code (E.wk [(4, E.pt g2), (7, E.pt g6), (11, E.u (IntKind.wrap .u32 ((IntKind.wrap .u32 (Int.tdiv (Qx.x s i) 4)) * 4)))] [(g6, (Q.S.cells (⟨s.pc, (Q.up (Qx.u s) (i.d).toNat (Qx.p s)), s.f, s.c, s.st, s.du⟩))), (g2, (Q.S.cells Q.z0 ++ [E.i 0, E.u 0]))] Nz.sub (E.sr (E.op (.pointer (some ⟨g6, 1, none⟩)) (E.op (.pointer (some ⟨g6, 1, none⟩)) (E.st 0 (Q.S.cells (⟨s.pc, (Q.up (Q.up (Qx.u s) (i.d).toNat (Qx.p s)) 0 0), s.f, s.c, s.st, s.du⟩)) rfl rfl (E.tr ?_))))))))))))
  refine E.op (E.u (IntKind.wrap .u32 ((IntKind.wrap .u32 (Int.tdiv (Qx.x s i) 4)) * 4))) (E.op (E.pt g6) (E.st 0 (Q.S.cells (⟨(IntKind.wrap .u32 ((IntKind.wrap .u32 (Int.tdiv (Qx.x s i) 4)) * 4)), (Q.up (Q.up (Qx.u s) (i.d).toNat (Qx.p s)) 0 0), s.f, s.c, s.st, s.du⟩)) rfl rfl (E.tr (E.op (.pointer (some ⟨g6, 22, none⟩)) (E.li (E.i s.st) 0 rfl rfl (E.op (E.i (Qx.t s)) (E.op (.pointer (some ⟨g6, 22, none⟩)) (E.st 0 (Q.S.cells (⟨(IntKind.wrap .u32 ((IntKind.wrap .u32 (Int.tdiv (Qx.x s i) 4)) * 4)), (Q.up (Q.up (Qx.u s) (i.d).toNat (Qx.p s)) 0 0), s.f, s.c, (Qx.t s), s.du⟩)) rfl rfl (E.To.code (E.wk [(4, E.pt g2), (7, E.pt g6)] [(g6, (Q.S.cells (⟨(IntKind.wrap .u32 ((IntKind.wrap .u32 (Int.tdiv (Qx.x s i) 4)) * 4)), (Q.up (Q.up (Qx.u s) (i.d).toNat (Qx.p s)) 0 0), s.f, s.c, (Qx.t s), s.du⟩))), (g2, (Q.S.cells Q.z0 ++ [E.i 0, E.u 0]))] Nz.sub (E.sr ?_)))))))))))
  refine E.li (Q.S.val (⟨(IntKind.wrap .u32 ((IntKind.wrap .u32 (Int.tdiv (Qx.x s i) 4)) * 4)), (Q.up (Q.up (Qx.u s) (i.d).toNat (Qx.p s)) 0 0), s.f, s.c, (Qx.t s), s.du⟩)) 0 rfl rfl (E.vl (Q.out (⟨(IntKind.wrap .u32 ((IntKind.wrap .u32 (Int.tdiv (Qx.x s i) 4)) * 4)), (Q.up (Q.up (Qx.u s) (i.d).toNat (Qx.p s)) 0 0), s.f, s.c, (Qx.t s), s.du⟩ : Q.S) 0 0) (fun w h => E.run_build (Q.S.cells (⟨(IntKind.wrap .u32 ((IntKind.wrap .u32 (Int.tdiv (Qx.x s i) 4)) * 4)), (Q.up (Q.up (Qx.u s) (i.d).toNat (Qx.p s)) 0 0), s.f, s.c, (Qx.t s), s.du⟩ : Q.S) ++ [Value.int .i64 0, Value.int .u32 0]).toArray (by kernel_rfl) w) (E.st 1 (Q.S.cells (⟨(IntKind.wrap .u32 ((IntKind.wrap .u32 (Int.tdiv (Qx.x s i) 4)) * 4)), (Q.up (Q.up (Qx.u s) (i.d).toNat (Qx.p s)) 0 0), s.f, s.c, (Qx.t s), s.du⟩) ++ [E.i 0, E.u 0]) rfl rfl (E.To.code (E.C.ret (E.To.body (fn := Tryz.f18) [Q.out (⟨(IntKind.wrap .u32 ((IntKind.wrap .u32 (Int.tdiv (Qx.x s i) 4)) * 4)), (Q.up (Q.up (Qx.u s) (i.d).toNat (Qx.p s)) 0 0), s.f, s.c, (Qx.t s), s.du⟩ : Q.S) 0 0] ?_ ?_)))))
  · exact ⟨⟨by kernel_rfl, _, _, 1, _, rfl, rfl, by kernel_rfl⟩, trivial⟩
  intro w h
  have e : (Q6.stepI i k t s V) = (⟨(IntKind.wrap .u32 ((IntKind.wrap .u32 (Int.tdiv (Qx.x s i) 4)) * 4)), (Q.up (Q.up (Qx.u s) (i.d).toNat (Qx.p s)) 0 0), s.f, s.c, (Qx.t s), s.du⟩, 0, 0, V) := by unfold Q6.stepI; rw [hc4, cond_false, hc11, cond_false, hc12, cond_false, hc15, cond_false, hc22, cond_false, hc28, cond_true] <;> rfl
  rw [e]
  exact ⟨(), trivial, rfl, A.dq [2] [0, 1] h⟩
 refine E.sr (E.op (E.pt g5) (E.li (E.i i.op) 1 rfl rfl (E.op (.bool (decide (i.op ≥ 32))) (E.op (.bool (decide (i.op ≥ 32))) (E.G.cut 4 [(1, E.pt m), (2, E.pt g1), (4, E.pt g2), (6, E.pt g5), (7, E.pt g6), (8, E.u (Qx.d s i)), (9, E.u (Qx.a s i)), (11, E.u (Qx.p s)), (165, .bool ((decide (i.op ≥ 32)) && (decide (i.op ≤ 37))))] (A.X w oo aa [R.It m V]) [(g6, (Q.S.cells (Qx.s s))), (g5, [E.i i.op, E.i i.d, E.i i.a, E.i i.b, E.u i.imm]), (g2, (Q.S.cells Q.z0 ++ [E.i 0, E.u 0])), (g1, (Q.S.cells s))] ?_ ?_)))))
 ·
  generalize hc29 : (decide (i.op ≥ 32)) = b30
  cases b30
  ·
   exact E.sk (E.sk (E.sk (E.op (.bool false) (E.G.end_pst ⟨by kernel_rfl, by kernel_rfl⟩ Nz.sub (fun _ h => h)))))
  exact E.op (E.pt g5) (E.li (E.i i.op) 1 rfl rfl (E.op (.bool (decide (i.op ≤ 37))) (E.op (.bool (decide (i.op ≤ 37))) (E.G.end_pst ⟨by kernel_rfl, by kernel_rfl⟩ Nz.sub (fun _ h => h)))))
 refine E.op (.bool ((decide (i.op ≥ 32)) && (decide (i.op ≤ 37)))) (E.To.code (E.cd ((decide (i.op ≥ 32)) && (decide (i.op ≤ 37))) (fun hc31 => ?_) (fun hc31 => ?_)))
 ·
  refine E.sr (E.op (E.pt g5) (E.li (E.i i.op) 1 rfl rfl (E.op (E.u (Qx.d s i)) (E.op (E.u (Qx.a s i)) (E.G.call (.bool (Q6.taken i.op (Qx.d s i) (Qx.a s i))) (fun w h => Taken6_any i.op (Qx.d s i) (Qx.a s i) (Q.up_bd hs.r (by decide) _) (Q.up_bd hs.r (by decide) _) w) (fun w _ => by kernel_rfl) (by kernel_rfl) (E.op (.bool (Q6.taken i.op (Qx.d s i) (Qx.a s i))) (E.To.code (E.wk [(4, E.pt g2), (6, E.pt g5), (7, E.pt g6), (11, E.u (Qx.p s)), (17, .bool (Q6.taken i.op (Qx.d s i) (Qx.a s i)))] [(g6, (Q.S.cells (Qx.s s))), (g5, [E.i i.op, E.i i.d, E.i i.a, E.i i.b, E.u i.imm]), (g2, (Q.S.cells Q.z0 ++ [E.i 0, E.u 0]))] Nz.sub (E.sr (E.op (.bool (Q6.taken i.op (Qx.d s i) (Qx.a s i))) (E.To.code ?_)))))))))))
  refine E.cd (Q6.taken i.op ((Q.up s.r 0 0) ((i.d).toNat)) ((Q.up s.r 0 0) ((i.a).toNat))) (fun hc32 => ?_) (fun hc32 => ?_)
  ·
   refine E.C.region (E.op (E.pt g6) (E.li (E.u s.pc) 0 rfl rfl (E.op (.pointer (some ⟨g5, 4, none⟩)) (E.li (E.u i.imm) 1 rfl rfl (E.op (E.u (IntKind.wrap .u32 (4 * i.imm))) (E.op (E.u (IntKind.wrap .u32 (s.pc + (IntKind.wrap .u32 (4 * i.imm))))) (E.op (E.u (IntKind.wrap .u32 (s.pc + (IntKind.wrap .u32 (4 * i.imm))))) (E.P.nb (E.To.code (E.wk [(4, E.pt g2), (7, E.pt g6), (11, E.u (IntKind.wrap .u32 (s.pc + (IntKind.wrap .u32 (4 * i.imm)))))] [(g6, (Q.S.cells (Qx.s s))), (g2, (Q.S.cells Q.z0 ++ [E.i 0, E.u 0]))] Nz.sub (E.sr (E.op (.pointer (some ⟨g6, 1, none⟩)) ?_))))))))))))
   refine E.op (.pointer (some ⟨g6, 1, none⟩)) (E.st 0 (Q.S.cells (⟨s.pc, (Q.up (Qx.u s) 0 0), s.f, s.c, s.st, s.du⟩)) rfl rfl (E.tr (E.op (E.u (IntKind.wrap .u32 (s.pc + (IntKind.wrap .u32 (4 * i.imm))))) (E.op (E.pt g6) (E.st 0 (Q.S.cells (⟨(IntKind.wrap .u32 (s.pc + (IntKind.wrap .u32 (4 * i.imm)))), (Q.up (Qx.u s) 0 0), s.f, s.c, s.st, s.du⟩)) rfl rfl (E.tr (E.op (.pointer (some ⟨g6, 22, none⟩)) (E.li (E.i s.st) 0 rfl rfl (E.op (E.i (Qx.t s)) (E.op (.pointer (some ⟨g6, 22, none⟩)) (E.st 0 (Q.S.cells (⟨(IntKind.wrap .u32 (s.pc + (IntKind.wrap .u32 (4 * i.imm)))), (Q.up (Qx.u s) 0 0), s.f, s.c, (Qx.t s), s.du⟩)) rfl rfl ?_)))))))))))
   refine E.To.code (E.wk [(4, E.pt g2), (7, E.pt g6)] [(g6, (Q.S.cells (⟨(IntKind.wrap .u32 (s.pc + (IntKind.wrap .u32 (4 * i.imm)))), (Q.up (Qx.u s) 0 0), s.f, s.c, (Qx.t s), s.du⟩))), (g2, (Q.S.cells Q.z0 ++ [E.i 0, E.u 0]))] Nz.sub (E.sr (E.li (Q.S.val (⟨(IntKind.wrap .u32 (s.pc + (IntKind.wrap .u32 (4 * i.imm)))), (Q.up (Qx.u s) 0 0), s.f, s.c, (Qx.t s), s.du⟩)) 0 rfl rfl (E.vl (Q.out (⟨(IntKind.wrap .u32 (s.pc + (IntKind.wrap .u32 (4 * i.imm)))), (Q.up (Qx.u s) 0 0), s.f, s.c, (Qx.t s), s.du⟩ : Q.S) 0 0) (fun w h => E.run_build (Q.S.cells (⟨(IntKind.wrap .u32 (s.pc + (IntKind.wrap .u32 (4 * i.imm)))), (Q.up (Qx.u s) 0 0), s.f, s.c, (Qx.t s), s.du⟩ : Q.S) ++ [Value.int .i64 0, Value.int .u32 0]).toArray (by kernel_rfl) w) (E.st 1 (Q.S.cells (⟨(IntKind.wrap .u32 (s.pc + (IntKind.wrap .u32 (4 * i.imm)))), (Q.up (Qx.u s) 0 0), s.f, s.c, (Qx.t s), s.du⟩) ++ [E.i 0, E.u 0]) rfl rfl (E.To.code (E.C.ret (E.To.body (fn := Tryz.f18) [Q.out (⟨(IntKind.wrap .u32 (s.pc + (IntKind.wrap .u32 (4 * i.imm)))), (Q.up (Qx.u s) 0 0), s.f, s.c, (Qx.t s), s.du⟩ : Q.S) 0 0] ?_ ?_))))))))
   · exact ⟨⟨by kernel_rfl, _, _, 1, _, rfl, rfl, by kernel_rfl⟩, trivial⟩
   intro w h
   have e : (Q6.stepI i k t s V) = (⟨(IntKind.wrap .u32 (s.pc + (IntKind.wrap .u32 (4 * i.imm)))), (Q.up (Qx.u s) 0 0), s.f, s.c, (Qx.t s), s.du⟩, 0, 0, V) := by unfold Q6.stepI; rw [hc4, cond_false, hc11, cond_false, hc12, cond_false, hc15, cond_false, hc22, cond_false, hc28, cond_false, hc31, cond_true, hc32, cond_true] <;> rfl
   rw [e]
   exact ⟨(), trivial, rfl, A.dq [2] [0, 1] h⟩
  refine E.C.skip (E.P.nb (E.To.code (E.sr (E.op (.pointer (some ⟨g6, 1, none⟩)) (E.op (.pointer (some ⟨g6, 1, none⟩)) (E.st 0 (Q.S.cells (⟨s.pc, (Q.up (Qx.u s) 0 0), s.f, s.c, s.st, s.du⟩)) rfl rfl (E.tr (E.op (E.u (Qx.p s)) (E.op (E.pt g6) (E.st 0 (Q.S.cells (⟨(Qx.p s), (Q.up (Qx.u s) 0 0), s.f, s.c, s.st, s.du⟩)) rfl rfl (E.To.code (E.wk [(4, E.pt g2), (7, E.pt g6)] [(g6, (Q.S.cells (⟨(Qx.p s), (Q.up (Qx.u s) 0 0), s.f, s.c, s.st, s.du⟩))), (g2, (Q.S.cells Q.z0 ++ [E.i 0, E.u 0]))] Nz.sub (E.sr ?_)))))))))))))
  refine E.op (.pointer (some ⟨g6, 22, none⟩)) (E.li (E.i s.st) 0 rfl rfl (E.op (E.i (Qx.t s)) (E.op (.pointer (some ⟨g6, 22, none⟩)) (E.st 0 (Q.S.cells (⟨(Qx.p s), (Q.up (Qx.u s) 0 0), s.f, s.c, (Qx.t s), s.du⟩)) rfl rfl (E.tr (E.li (Q.S.val (⟨(Qx.p s), (Q.up (Qx.u s) 0 0), s.f, s.c, (Qx.t s), s.du⟩)) 0 rfl rfl (E.vl (Q.out (⟨(Qx.p s), (Q.up (Qx.u s) 0 0), s.f, s.c, (Qx.t s), s.du⟩ : Q.S) 0 0) (fun w h => E.run_build (Q.S.cells (⟨(Qx.p s), (Q.up (Qx.u s) 0 0), s.f, s.c, (Qx.t s), s.du⟩ : Q.S) ++ [Value.int .i64 0, Value.int .u32 0]).toArray (by kernel_rfl) w) (E.st 1 (Q.S.cells (⟨(Qx.p s), (Q.up (Qx.u s) 0 0), s.f, s.c, (Qx.t s), s.du⟩) ++ [E.i 0, E.u 0]) rfl rfl (E.To.code (E.C.ret (E.To.body (fn := Tryz.f18) [Q.out (⟨(Qx.p s), (Q.up (Qx.u s) 0 0), s.f, s.c, (Qx.t s), s.du⟩ : Q.S) 0 0] ?_ ?_)))))))))))
  · exact ⟨⟨by kernel_rfl, _, _, 1, _, rfl, rfl, by kernel_rfl⟩, trivial⟩
  intro w h
  have e : (Q6.stepI i k t s V) = (⟨(Qx.p s), (Q.up (Qx.u s) 0 0), s.f, s.c, (Qx.t s), s.du⟩, 0, 0, V) := by unfold Q6.stepI; rw [hc4, cond_false, hc11, cond_false, hc12, cond_false, hc15, cond_false, hc22, cond_false, hc28, cond_false, hc31, cond_true, hc32, cond_false] <;> rfl
  rw [e]
  exact ⟨(), trivial, rfl, A.dq [2] [0, 1] h⟩
 refine E.sr (E.op (E.pt g5) (E.li (E.i i.op) 1 rfl rfl (E.op (.bool (i.op == 40)) (E.op (.bool (i.op == 40)) (E.To.code (E.cd (i.op == 40) (fun hc33 => ?_) (fun hc33 => ?_)))))))
 ·
  refine E.sr (E.op (.pointer (some ⟨g5, 1, none⟩)) (E.li (E.i i.d) 1 rfl rfl (E.op (E.u (Qx.p s)) (E.op (.pointer (some ⟨g6, 1, none⟩)) (E.vl (.pointer (some ⟨g6, 1 + (i.d).toNat, none⟩)) (fun w h => E.idxI (e := 24) g6 1 16 .i64 i.d (by kernel_rfl) (by kernel_rfl) (by kernel_rfl) (by kernel_rfl) (by have := (hi (Q.eq_of hc4)).d; omega) w) (E.G.store 0 (Q.S.cells (⟨s.pc, (Q.up (Qx.u s) (i.d).toNat (Qx.p s)), s.f, s.c, s.st, s.du⟩)) rfl rfl (Q.sto_r (s := (Qx.s s)) (by kernel_rfl) (by have := (by have := (hi (Q.eq_of hc4)).d; omega); omega)) (by kernel_rfl) (E.To.code (E.wk [(4, E.pt g2), (6, E.pt g5), (7, E.pt g6), (11, E.u (Qx.p s))] [(g6, (Q.S.cells (⟨s.pc, (Q.up (Qx.u s) (i.d).toNat (Qx.p s)), s.f, s.c, s.st, s.du⟩))), (g5, [E.i i.op, E.i i.d, E.i i.a, E.i i.b, E.u i.imm]), (g2, (Q.S.cells Q.z0 ++ [E.i 0, E.u 0]))] Nz.sub (E.C.region (E.op (E.pt g6) (E.li (E.u s.pc) 0 rfl rfl ?_)))))))))))
  refine E.op (.pointer (some ⟨g5, 4, none⟩)) (E.li (E.u i.imm) 1 rfl rfl (E.op (E.u (IntKind.wrap .u32 (4 * i.imm))) (E.op (E.u (IntKind.wrap .u32 (s.pc + (IntKind.wrap .u32 (4 * i.imm))))) (E.op (E.u (IntKind.wrap .u32 (s.pc + (IntKind.wrap .u32 (4 * i.imm))))) (E.P.nb (E.To.code (E.sr (E.op (.pointer (some ⟨g6, 1, none⟩)) (E.op (.pointer (some ⟨g6, 1, none⟩)) (E.st 0 (Q.S.cells (⟨s.pc, (Q.up (Q.up (Qx.u s) (i.d).toNat (Qx.p s)) 0 0), s.f, s.c, s.st, s.du⟩)) rfl rfl (E.To.code (E.wk [(4, E.pt g2), (7, E.pt g6), (11, E.u (IntKind.wrap .u32 (s.pc + (IntKind.wrap .u32 (4 * i.imm)))))] [(g6, (Q.S.cells (⟨s.pc, (Q.up (Q.up (Qx.u s) (i.d).toNat (Qx.p s)) 0 0), s.f, s.c, s.st, s.du⟩))), (g2, (Q.S.cells Q.z0 ++ [E.i 0, E.u 0]))] Nz.sub ?_))))))))))))
  refine E.sr (E.op (E.u (IntKind.wrap .u32 (s.pc + (IntKind.wrap .u32 (4 * i.imm))))) (E.op (E.pt g6) (E.st 0 (Q.S.cells (⟨(IntKind.wrap .u32 (s.pc + (IntKind.wrap .u32 (4 * i.imm)))), (Q.up (Q.up (Qx.u s) (i.d).toNat (Qx.p s)) 0 0), s.f, s.c, s.st, s.du⟩)) rfl rfl (E.tr (E.op (.pointer (some ⟨g6, 22, none⟩)) (E.li (E.i s.st) 0 rfl rfl (E.op (E.i (Qx.t s)) (E.op (.pointer (some ⟨g6, 22, none⟩)) (E.st 0 (Q.S.cells (⟨(IntKind.wrap .u32 (s.pc + (IntKind.wrap .u32 (4 * i.imm)))), (Q.up (Q.up (Qx.u s) (i.d).toNat (Qx.p s)) 0 0), s.f, s.c, (Qx.t s), s.du⟩)) rfl rfl (E.tr (E.li (Q.S.val (⟨(IntKind.wrap .u32 (s.pc + (IntKind.wrap .u32 (4 * i.imm)))), (Q.up (Q.up (Qx.u s) (i.d).toNat (Qx.p s)) 0 0), s.f, s.c, (Qx.t s), s.du⟩)) 0 rfl rfl ?_)))))))))))
  refine E.vl (Q.out (⟨(IntKind.wrap .u32 (s.pc + (IntKind.wrap .u32 (4 * i.imm)))), (Q.up (Q.up (Qx.u s) (i.d).toNat (Qx.p s)) 0 0), s.f, s.c, (Qx.t s), s.du⟩ : Q.S) 0 0) (fun w h => E.run_build (Q.S.cells (⟨(IntKind.wrap .u32 (s.pc + (IntKind.wrap .u32 (4 * i.imm)))), (Q.up (Q.up (Qx.u s) (i.d).toNat (Qx.p s)) 0 0), s.f, s.c, (Qx.t s), s.du⟩ : Q.S) ++ [Value.int .i64 0, Value.int .u32 0]).toArray (by kernel_rfl) w) (E.st 1 (Q.S.cells (⟨(IntKind.wrap .u32 (s.pc + (IntKind.wrap .u32 (4 * i.imm)))), (Q.up (Q.up (Qx.u s) (i.d).toNat (Qx.p s)) 0 0), s.f, s.c, (Qx.t s), s.du⟩) ++ [E.i 0, E.u 0]) rfl rfl (E.To.code (E.wk [(4, E.pt g2)] [(g2, (Q.S.cells (⟨(IntKind.wrap .u32 (s.pc + (IntKind.wrap .u32 (4 * i.imm)))), (Q.up (Q.up (Qx.u s) (i.d).toNat (Qx.p s)) 0 0), s.f, s.c, (Qx.t s), s.du⟩) ++ [E.i 0, E.u 0]))] Nz.sub (E.C.ret (E.To.body (fn := Tryz.f18) [Q.out (⟨(IntKind.wrap .u32 (s.pc + (IntKind.wrap .u32 (4 * i.imm)))), (Q.up (Q.up (Qx.u s) (i.d).toNat (Qx.p s)) 0 0), s.f, s.c, (Qx.t s), s.du⟩ : Q.S) 0 0] ?_ ?_)))))
  · exact ⟨⟨by kernel_rfl, _, _, 0, _, rfl, rfl, by kernel_rfl⟩, trivial⟩
  intro w h
  have e : (Q6.stepI i k t s V) = (⟨(IntKind.wrap .u32 (s.pc + (IntKind.wrap .u32 (4 * i.imm)))), (Q.up (Q.up (Qx.u s) (i.d).toNat (Qx.p s)) 0 0), s.f, s.c, (Qx.t s), s.du⟩, 0, 0, V) := by unfold Q6.stepI; rw [hc4, cond_false, hc11, cond_false, hc12, cond_false, hc15, cond_false, hc22, cond_false, hc28, cond_false, hc31, cond_false, hc33, cond_true] <;> rfl
  rw [e]
  exact ⟨(), trivial, rfl, A.dq [1] [0] h⟩
 refine E.sr (E.op (E.pt g5) (E.li (E.i i.op) 1 rfl rfl (E.op (.bool (i.op == 41)) (E.op (.bool (i.op == 41)) (E.To.code (E.wk [(1, E.pt m), (2, E.pt g1), (4, E.pt g2), (6, E.pt g5), (7, E.pt g6), (9, E.u (Qx.a s i)), (11, E.u (Qx.p s)), (193, .bool (i.op == 41))] [(g6, (Q.S.cells (Qx.s s))), (g5, [E.i i.op, E.i i.d, E.i i.a, E.i i.b, E.u i.imm]), (g2, (Q.S.cells Q.z0 ++ [E.i 0, E.u 0])), (g1, (Q.S.cells s))] Nz.sub (E.cd (i.op == 41) (fun hc34 => ?_) (fun hc34 => ?_))))))))
 ·
  refine E.C.region (E.op (.pointer (some ⟨g5, 1, none⟩)) (E.li (E.i i.d) 1 rfl rfl (E.op (.pointer (some ⟨g5, 4, none⟩)) (E.li (E.u i.imm) 1 rfl rfl (E.op (E.u (IntKind.wrap .u32 (i.imm * 2 ^ 10))) (E.op (.pointer (some ⟨g6, 1, none⟩)) (E.vl (.pointer (some ⟨g6, 1 + (i.d).toNat, none⟩)) (fun w h => E.idxI (e := 24) g6 1 16 .i64 i.d (by kernel_rfl) (by kernel_rfl) (by kernel_rfl) (by kernel_rfl) (by have := (hi (Q.eq_of hc4)).d; omega) w) (E.G.store 0 (Q.S.cells (⟨s.pc, (Q.up (Qx.u s) (i.d).toNat (IntKind.wrap .u32 (i.imm * 2 ^ 10))), s.f, s.c, s.st, s.du⟩)) rfl rfl (Q.sto_r (s := (Qx.s s)) (by kernel_rfl) (by have := (by have := (hi (Q.eq_of hc4)).d; omega); omega)) (by kernel_rfl) (E.P.nb (E.To.code (E.wk [(4, E.pt g2), (7, E.pt g6), (11, E.u (Qx.p s))] [(g6, (Q.S.cells (⟨s.pc, (Q.up (Qx.u s) (i.d).toNat (IntKind.wrap .u32 (i.imm * 2 ^ 10))), s.f, s.c, s.st, s.du⟩))), (g2, (Q.S.cells Q.z0 ++ [E.i 0, E.u 0]))] Nz.sub (E.sr ?_))))))))))))
  refine E.op (.pointer (some ⟨g6, 1, none⟩)) (E.op (.pointer (some ⟨g6, 1, none⟩)) (E.st 0 (Q.S.cells (⟨s.pc, (Q.up (Q.up (Qx.u s) (i.d).toNat (IntKind.wrap .u32 (i.imm * 2 ^ 10))) 0 0), s.f, s.c, s.st, s.du⟩)) rfl rfl (E.tr (E.op (E.u (Qx.p s)) (E.op (E.pt g6) (E.st 0 (Q.S.cells (⟨(Qx.p s), (Q.up (Q.up (Qx.u s) (i.d).toNat (IntKind.wrap .u32 (i.imm * 2 ^ 10))) 0 0), s.f, s.c, s.st, s.du⟩)) rfl rfl (E.tr (E.op (.pointer (some ⟨g6, 22, none⟩)) (E.li (E.i s.st) 0 rfl rfl (E.op (E.i (Qx.t s)) (E.op (.pointer (some ⟨g6, 22, none⟩)) ?_)))))))))))
  refine E.st 0 (Q.S.cells (⟨(Qx.p s), (Q.up (Q.up (Qx.u s) (i.d).toNat (IntKind.wrap .u32 (i.imm * 2 ^ 10))) 0 0), s.f, s.c, (Qx.t s), s.du⟩)) rfl rfl (E.To.code (E.wk [(4, E.pt g2), (7, E.pt g6)] [(g6, (Q.S.cells (⟨(Qx.p s), (Q.up (Q.up (Qx.u s) (i.d).toNat (IntKind.wrap .u32 (i.imm * 2 ^ 10))) 0 0), s.f, s.c, (Qx.t s), s.du⟩))), (g2, (Q.S.cells Q.z0 ++ [E.i 0, E.u 0]))] Nz.sub (E.sr (E.li (Q.S.val (⟨(Qx.p s), (Q.up (Q.up (Qx.u s) (i.d).toNat (IntKind.wrap .u32 (i.imm * 2 ^ 10))) 0 0), s.f, s.c, (Qx.t s), s.du⟩)) 0 rfl rfl (E.vl (Q.out (⟨(Qx.p s), (Q.up (Q.up (Qx.u s) (i.d).toNat (IntKind.wrap .u32 (i.imm * 2 ^ 10))) 0 0), s.f, s.c, (Qx.t s), s.du⟩ : Q.S) 0 0) (fun w h => E.run_build (Q.S.cells (⟨(Qx.p s), (Q.up (Q.up (Qx.u s) (i.d).toNat (IntKind.wrap .u32 (i.imm * 2 ^ 10))) 0 0), s.f, s.c, (Qx.t s), s.du⟩ : Q.S) ++ [Value.int .i64 0, Value.int .u32 0]).toArray (by kernel_rfl) w) (E.st 1 (Q.S.cells (⟨(Qx.p s), (Q.up (Q.up (Qx.u s) (i.d).toNat (IntKind.wrap .u32 (i.imm * 2 ^ 10))) 0 0), s.f, s.c, (Qx.t s), s.du⟩) ++ [E.i 0, E.u 0]) rfl rfl (E.To.code (E.C.ret (E.To.body (fn := Tryz.f18) [Q.out (⟨(Qx.p s), (Q.up (Q.up (Qx.u s) (i.d).toNat (IntKind.wrap .u32 (i.imm * 2 ^ 10))) 0 0), s.f, s.c, (Qx.t s), s.du⟩ : Q.S) 0 0] ?_ ?_)))))))))
  · exact ⟨⟨by kernel_rfl, _, _, 1, _, rfl, rfl, by kernel_rfl⟩, trivial⟩
  intro w h
  have e : (Q6.stepI i k t s V) = (⟨(Qx.p s), (Q.up (Q.up (Qx.u s) (i.d).toNat (IntKind.wrap .u32 (i.imm * 2 ^ 10))) 0 0), s.f, s.c, (Qx.t s), s.du⟩, 0, 0, V) := by unfold Q6.stepI; rw [hc4, cond_false, hc11, cond_false, hc12, cond_false, hc15, cond_false, hc22, cond_false, hc28, cond_false, hc31, cond_false, hc33, cond_false, hc34, cond_true] <;> rfl
  rw [e]
  exact ⟨(), trivial, rfl, A.dq [2] [0, 1] h⟩
 refine E.sr (E.op (E.pt g5) (E.li (E.i i.op) 1 rfl rfl (E.op (.bool (i.op == 48)) (E.op (.bool (i.op == 48)) (E.To.code (E.cd (i.op == 48) (fun hc35 => ?_) (fun hc35 => ?_)))))))
 ·
  refine E.sr (E.li (Q.S.val s) 3 rfl rfl (E.op (.pointer (some ⟨g5, 4, none⟩)) (E.li (E.u i.imm) 1 rfl rfl (E.G.call (Q.out s 4 i.imm) (fun w h => Trapped6_any s 4 i.imm w) (fun w _ => by kernel_rfl) (by kernel_rfl) (E.st 2 (Q.S.cells s ++ [E.i 4, E.u i.imm]) rfl rfl (E.To.code (E.wk [(4, E.pt g2), (7, E.pt g6), (11, E.u (Qx.p s))] [(g6, (Q.S.cells (Qx.s s))), (g2, (Q.S.cells s ++ [E.i 4, E.u i.imm]))] Nz.sub (E.C.ret (E.P.rb (E.P.rt (E.To.body (fn := Tryz.f18) [Q.out s 4 i.imm] ?_ ?_)))))))))))
  · exact ⟨⟨by kernel_rfl, _, _, 1, _, rfl, rfl, by kernel_rfl⟩, trivial⟩
  intro w h
  have e : (Q6.stepI i k t s V) = (s, 4, i.imm, V) := by unfold Q6.stepI; rw [hc4, cond_false, hc11, cond_false, hc12, cond_false, hc15, cond_false, hc22, cond_false, hc28, cond_false, hc31, cond_false, hc33, cond_false, hc34, cond_false, hc35, cond_true] <;> rfl
  rw [e]
  exact ⟨(), trivial, rfl, A.dq [2] [0, 1] h⟩
 refine E.sr (E.op (E.pt g5) (E.li (E.i i.op) 1 rfl rfl (E.op (.bool (i.op == 49)) (E.op (.bool (i.op == 49)) (E.To.code (E.wk [(1, E.pt m), (2, E.pt g1), (4, E.pt g2), (6, E.pt g5), (7, E.pt g6), (9, E.u (Qx.a s i)), (11, E.u (Qx.p s)), (212, .bool (i.op == 49))] [(g6, (Q.S.cells (Qx.s s))), (g5, [E.i i.op, E.i i.d, E.i i.a, E.i i.b, E.u i.imm]), (g2, (Q.S.cells Q.z0 ++ [E.i 0, E.u 0])), (g1, (Q.S.cells s))] Nz.sub (E.cd (i.op == 49) (fun hc36 => ?_) (fun hc36 => ?_))))))))
 ·
  refine E.sr (E.li (Q.S.val s) 3 rfl rfl (E.G.call (Q.out s 3 0) (fun w h => Trapped6_any s 3 0 w) (fun w _ => by kernel_rfl) (by kernel_rfl) (E.st 2 (Q.S.cells s ++ [E.i 3, E.u 0]) rfl rfl (E.To.code (E.C.ret (E.P.rb (E.P.rt (E.To.body (fn := Tryz.f18) [Q.out s 3 0] ?_ ?_))))))))
  · exact ⟨⟨by kernel_rfl, _, _, 2, _, rfl, rfl, by kernel_rfl⟩, trivial⟩
  intro w h
  have e : (Q6.stepI i k t s V) = (s, 3, 0, V) := by unfold Q6.stepI; rw [hc4, cond_false, hc11, cond_false, hc12, cond_false, hc15, cond_false, hc22, cond_false, hc28, cond_false, hc31, cond_false, hc33, cond_false, hc34, cond_false, hc35, cond_false, hc36, cond_true] <;> rfl
  rw [e]
  exact ⟨(), trivial, rfl, A.dq [4] [0, 1, 2, 3] h⟩
 refine E.sr (E.op (E.pt g5) (E.li (E.i i.op) 1 rfl rfl (E.op (.bool (i.op == 50)) (E.op (.bool (i.op == 50)) (E.To.code (E.cd (i.op == 50) (fun hc37 => ?_) (fun hc37 => ?_)))))))
 ·
  refine E.sr (E.li (Q.S.val s) 3 rfl rfl (E.G.call (Q.out s 2 0) (fun w h => Trapped6_any s 2 0 w) (fun w _ => by kernel_rfl) (by kernel_rfl) (E.st 2 (Q.S.cells s ++ [E.i 2, E.u 0]) rfl rfl (E.To.code (E.wk [(4, E.pt g2), (7, E.pt g6), (11, E.u (Qx.p s))] [(g6, (Q.S.cells (Qx.s s))), (g2, (Q.S.cells s ++ [E.i 2, E.u 0]))] Nz.sub (E.C.ret (E.P.rb (E.P.rt (E.To.body (fn := Tryz.f18) [Q.out s 2 0] ?_ ?_)))))))))
  · exact ⟨⟨by kernel_rfl, _, _, 1, _, rfl, rfl, by kernel_rfl⟩, trivial⟩
  intro w h
  have e : (Q6.stepI i k t s V) = (s, 2, 0, V) := by unfold Q6.stepI; rw [hc4, cond_false, hc11, cond_false, hc12, cond_false, hc15, cond_false, hc22, cond_false, hc28, cond_false, hc31, cond_false, hc33, cond_false, hc34, cond_false, hc35, cond_false, hc36, cond_false, hc37, cond_true] <;> rfl
  rw [e]
  exact ⟨(), trivial, rfl, A.dq [2] [0, 1] h⟩
 refine E.sr (E.op (E.pt g5) (E.li (E.i i.op) 1 rfl rfl (E.op (.bool (i.op == 51)) (E.op (.bool (i.op == 51)) (E.To.code (E.wk [(1, E.pt m), (2, E.pt g1), (4, E.pt g2), (6, E.pt g5), (7, E.pt g6), (9, E.u (Qx.a s i)), (11, E.u (Qx.p s)), (224, .bool (i.op == 51))] [(g6, (Q.S.cells (Qx.s s))), (g5, [E.i i.op, E.i i.d, E.i i.a, E.i i.b, E.u i.imm]), (g2, (Q.S.cells Q.z0 ++ [E.i 0, E.u 0])), (g1, (Q.S.cells s))] Nz.sub (E.cd (i.op == 51) (fun hc38 => ?_) (fun hc38 => ?_))))))))
 ·
  refine E.C.region (E.op (.pointer (some ⟨g6, 18, none⟩)) (E.op (.pointer (some ⟨g6, 19, none⟩)) (E.li (E.u (s.c 1)) 0 rfl rfl (E.op (E.u (IntKind.wrap .u32 (Int.tdiv (s.c 1) 4))) (E.op (E.u (IntKind.wrap .u32 ((IntKind.wrap .u32 (Int.tdiv (s.c 1) 4)) * 4))) (E.op (E.u (IntKind.wrap .u32 ((IntKind.wrap .u32 (Int.tdiv (s.c 1) 4)) * 4))) (E.P.nb (E.To.code (E.wk [(4, E.pt g2), (7, E.pt g6), (11, E.u (IntKind.wrap .u32 ((IntKind.wrap .u32 (Int.tdiv (s.c 1) 4)) * 4)))] [(g6, (Q.S.cells (Qx.s s))), (g2, (Q.S.cells Q.z0 ++ [E.i 0, E.u 0]))] Nz.sub (E.sr (E.op (.pointer (some ⟨g6, 1, none⟩)) (E.op (.pointer (some ⟨g6, 1, none⟩)) ?_))))))))))))
  refine E.st 0 (Q.S.cells (⟨s.pc, (Q.up (Qx.u s) 0 0), s.f, s.c, s.st, s.du⟩)) rfl rfl (E.tr (E.op (E.u (IntKind.wrap .u32 ((IntKind.wrap .u32 (Int.tdiv (s.c 1) 4)) * 4))) (E.op (E.pt g6) (E.st 0 (Q.S.cells (⟨(IntKind.wrap .u32 ((IntKind.wrap .u32 (Int.tdiv (s.c 1) 4)) * 4)), (Q.up (Qx.u s) 0 0), s.f, s.c, s.st, s.du⟩)) rfl rfl (E.tr (E.op (.pointer (some ⟨g6, 22, none⟩)) (E.li (E.i s.st) 0 rfl rfl (E.op (E.i (Qx.t s)) (E.op (.pointer (some ⟨g6, 22, none⟩)) (E.st 0 (Q.S.cells (⟨(IntKind.wrap .u32 ((IntKind.wrap .u32 (Int.tdiv (s.c 1) 4)) * 4)), (Q.up (Qx.u s) 0 0), s.f, s.c, (Qx.t s), s.du⟩)) rfl rfl (E.To.code ?_)))))))))))
  refine E.wk [(4, E.pt g2), (7, E.pt g6)] [(g6, (Q.S.cells (⟨(IntKind.wrap .u32 ((IntKind.wrap .u32 (Int.tdiv (s.c 1) 4)) * 4)), (Q.up (Qx.u s) 0 0), s.f, s.c, (Qx.t s), s.du⟩))), (g2, (Q.S.cells Q.z0 ++ [E.i 0, E.u 0]))] Nz.sub (E.sr (E.li (Q.S.val (⟨(IntKind.wrap .u32 ((IntKind.wrap .u32 (Int.tdiv (s.c 1) 4)) * 4)), (Q.up (Qx.u s) 0 0), s.f, s.c, (Qx.t s), s.du⟩)) 0 rfl rfl (E.vl (Q.out (⟨(IntKind.wrap .u32 ((IntKind.wrap .u32 (Int.tdiv (s.c 1) 4)) * 4)), (Q.up (Qx.u s) 0 0), s.f, s.c, (Qx.t s), s.du⟩ : Q.S) 0 0) (fun w h => E.run_build (Q.S.cells (⟨(IntKind.wrap .u32 ((IntKind.wrap .u32 (Int.tdiv (s.c 1) 4)) * 4)), (Q.up (Qx.u s) 0 0), s.f, s.c, (Qx.t s), s.du⟩ : Q.S) ++ [Value.int .i64 0, Value.int .u32 0]).toArray (by kernel_rfl) w) (E.st 1 (Q.S.cells (⟨(IntKind.wrap .u32 ((IntKind.wrap .u32 (Int.tdiv (s.c 1) 4)) * 4)), (Q.up (Qx.u s) 0 0), s.f, s.c, (Qx.t s), s.du⟩) ++ [E.i 0, E.u 0]) rfl rfl (E.To.code (E.C.ret (E.To.body (fn := Tryz.f18) [Q.out (⟨(IntKind.wrap .u32 ((IntKind.wrap .u32 (Int.tdiv (s.c 1) 4)) * 4)), (Q.up (Qx.u s) 0 0), s.f, s.c, (Qx.t s), s.du⟩ : Q.S) 0 0] ?_ ?_)))))))
  · exact ⟨⟨by kernel_rfl, _, _, 1, _, rfl, rfl, by kernel_rfl⟩, trivial⟩
  intro w h
  have e : (Q6.stepI i k t s V) = (⟨(IntKind.wrap .u32 ((IntKind.wrap .u32 (Int.tdiv (s.c 1) 4)) * 4)), (Q.up (Qx.u s) 0 0), s.f, s.c, (Qx.t s), s.du⟩, 0, 0, V) := by unfold Q6.stepI; rw [hc4, cond_false, hc11, cond_false, hc12, cond_false, hc15, cond_false, hc22, cond_false, hc28, cond_false, hc31, cond_false, hc33, cond_false, hc34, cond_false, hc35, cond_false, hc36, cond_false, hc37, cond_false, hc38, cond_true] <;> rfl
  rw [e]
  exact ⟨(), trivial, rfl, A.dq [2] [0, 1] h⟩
 refine E.sr (E.op (E.pt g5) (E.li (E.i i.op) 1 rfl rfl (E.op (.bool (i.op == 52)) (E.op (.bool (i.op == 52)) (E.To.code (E.cd (i.op == 52) (fun hc39 => ?_) (fun hc39 => ?_)))))))
 ·
  refine E.sr (E.op (E.pt m) (E.op (E.u (Qx.a s i)) (A.G.call (I := Unit) (D := fun _ => True) (V := fun _ => .bool (decide (((Qx.a s i)).toNat / 256 < V.n))) (q := fun _ => [R.It m (V.sync (((Qx.a s i)).toNat / 256))]) [A.blk g6 (Q.S.cells (Qx.s s)), A.blk g5 ([E.i i.op, E.i i.d, E.i i.a, E.i i.b, E.u i.imm]), A.blk g2 (Q.S.cells Q.z0 ++ [E.i 0, E.u 0]), A.blk g1 (Q.S.cells s)] (fun _ => [(g6, (Q.S.cells (Qx.s s))), (g5, [E.i i.op, E.i i.d, E.i i.a, E.i i.b, E.u i.imm]), (g2, (Q.S.cells Q.z0 ++ [E.i 0, E.u 0])), (g1, (Q.S.cells s))]) (fun _ => [R.It m (V.sync (((Qx.a s i)).toNat / 256))]) (J_Sync (m := m) (V := V) (Qx.a s i) (Q.up_bd hs.r (by decide) _)) (by kernel_rfl) (A.pn [4, 0, 1, 2, 3]) (fun _ => A.pm [1, 2, 3, 4, 0] (by kernel_rfl) (by kernel_rfl)) (fun w _ => by kernel_rfl) (by kernel_rfl) (fun _ hd40 => E.op (.bool (decide (((Qx.a s i)).toNat / 256 < V.n))) (E.To.code (E.wk [(2, E.pt g1), (4, E.pt g2), (7, E.pt g6), (9, E.u (Qx.a s i)), (11, E.u (Qx.p s)), (18, .bool (decide (((Qx.a s i)).toNat / 256 < V.n)))] [(g6, (Q.S.cells (Qx.s s))), (g2, (Q.S.cells Q.z0 ++ [E.i 0, E.u 0])), (g1, (Q.S.cells s))] Nz.sub (E.sr (E.op (.bool (decide (((Qx.a s i)).toNat / 256 < V.n))) (E.op (.bool (!(decide (((Qx.a s i)).toNat / 256 < V.n)))) (E.To.code (E.cd (!(decide ((((Q.up s.r 0 0) ((i.a).toNat))).toNat / 256 < V.n))) (fun hc41 => ?_) (fun hc41 => ?_))))))))))))
  ·
   refine E.sr (E.li (Q.S.val s) 2 rfl rfl (E.op (E.u (Qx.a s i)) (E.G.call (Q.out s 5 (Qx.a s i)) (fun w h => Trapped6_any s 5 (Qx.a s i) w) (fun w _ => by kernel_rfl) (by kernel_rfl) (E.st 1 (Q.S.cells s ++ [E.i 5, E.u (Qx.a s i)]) rfl rfl (E.To.code (E.wk [(4, E.pt g2), (7, E.pt g6), (11, E.u (Qx.p s))] [(g6, (Q.S.cells (Qx.s s))), (g2, (Q.S.cells s ++ [E.i 5, E.u (Qx.a s i)]))] Nz.sub (E.C.ret (E.P.rb (E.P.rt (E.To.body (fn := Tryz.f18) [Q.out s 5 (Qx.a s i)] ?_ ?_))))))))))
   · exact ⟨⟨by kernel_rfl, _, _, 1, _, rfl, rfl, by kernel_rfl⟩, trivial⟩
   intro w h
   have e : (Q6.stepI i k t s V) = (s, 5, (Qx.a s i), (V.sync (((Qx.a s i)).toNat / 256))) := by unfold Q6.stepI; rw [hc4, cond_false, hc11, cond_false, hc12, cond_false, hc15, cond_false, hc22, cond_false, hc28, cond_false, hc31, cond_false, hc33, cond_false, hc34, cond_false, hc35, cond_false, hc36, cond_false, hc37, cond_false, hc38, cond_false, hc39, cond_true, hc41, cond_true] <;> rfl
   rw [e]
   exact ⟨(), trivial, rfl, A.dq [2] [0, 1] h⟩
  refine E.C.skip (E.P.nb (E.To.code (E.sr (E.op (.pointer (some ⟨g6, 1, none⟩)) (E.op (.pointer (some ⟨g6, 1, none⟩)) (E.st 0 (Q.S.cells (⟨s.pc, (Q.up (Qx.u s) 0 0), s.f, s.c, s.st, s.du⟩)) rfl rfl (E.tr (E.op (E.u (Qx.p s)) (E.op (E.pt g6) (E.st 0 (Q.S.cells (⟨(Qx.p s), (Q.up (Qx.u s) 0 0), s.f, s.c, s.st, s.du⟩)) rfl rfl (E.To.code (E.wk [(4, E.pt g2), (7, E.pt g6)] [(g6, (Q.S.cells (⟨(Qx.p s), (Q.up (Qx.u s) 0 0), s.f, s.c, s.st, s.du⟩))), (g2, (Q.S.cells Q.z0 ++ [E.i 0, E.u 0]))] Nz.sub (E.sr ?_)))))))))))))
  refine E.op (.pointer (some ⟨g6, 22, none⟩)) (E.li (E.i s.st) 0 rfl rfl (E.op (E.i (Qx.t s)) (E.op (.pointer (some ⟨g6, 22, none⟩)) (E.st 0 (Q.S.cells (⟨(Qx.p s), (Q.up (Qx.u s) 0 0), s.f, s.c, (Qx.t s), s.du⟩)) rfl rfl (E.tr (E.li (Q.S.val (⟨(Qx.p s), (Q.up (Qx.u s) 0 0), s.f, s.c, (Qx.t s), s.du⟩)) 0 rfl rfl (E.vl (Q.out (⟨(Qx.p s), (Q.up (Qx.u s) 0 0), s.f, s.c, (Qx.t s), s.du⟩ : Q.S) 0 0) (fun w h => E.run_build (Q.S.cells (⟨(Qx.p s), (Q.up (Qx.u s) 0 0), s.f, s.c, (Qx.t s), s.du⟩ : Q.S) ++ [Value.int .i64 0, Value.int .u32 0]).toArray (by kernel_rfl) w) (E.st 1 (Q.S.cells (⟨(Qx.p s), (Q.up (Qx.u s) 0 0), s.f, s.c, (Qx.t s), s.du⟩) ++ [E.i 0, E.u 0]) rfl rfl (E.To.code (E.C.ret (E.To.body (fn := Tryz.f18) [Q.out (⟨(Qx.p s), (Q.up (Qx.u s) 0 0), s.f, s.c, (Qx.t s), s.du⟩ : Q.S) 0 0] ?_ ?_)))))))))))
  · exact ⟨⟨by kernel_rfl, _, _, 1, _, rfl, rfl, by kernel_rfl⟩, trivial⟩
  intro w h
  have e : (Q6.stepI i k t s V) = (⟨(Qx.p s), (Q.up (Qx.u s) 0 0), s.f, s.c, (Qx.t s), s.du⟩, 0, 0, (V.sync (((Qx.a s i)).toNat / 256))) := by unfold Q6.stepI; rw [hc4, cond_false, hc11, cond_false, hc12, cond_false, hc15, cond_false, hc22, cond_false, hc28, cond_false, hc31, cond_false, hc33, cond_false, hc34, cond_false, hc35, cond_false, hc36, cond_false, hc37, cond_false, hc38, cond_false, hc39, cond_true, hc41, cond_false] <;> rfl
  rw [e]
  exact ⟨(), trivial, rfl, A.dq [2] [0, 1] h⟩
 refine E.sr (E.op (E.pt g5) (E.li (E.i i.op) 1 rfl rfl (E.op (.bool (i.op == 53)) (E.op (.bool (i.op == 53)) (E.To.code (E.wk [(4, E.pt g2), (6, E.pt g5), (7, E.pt g6), (9, E.u (Qx.a s i)), (11, E.u (Qx.p s)), (245, .bool (i.op == 53))] [(g6, (Q.S.cells (Qx.s s))), (g5, [E.i i.op, E.i i.d, E.i i.a, E.i i.b, E.u i.imm]), (g2, (Q.S.cells Q.z0 ++ [E.i 0, E.u 0]))] Nz.sub (E.cd (i.op == 53) (fun hc42 => ?_) (fun hc42 => ?_))))))))
 ·
  refine E.C.held (A.Y [A.blk g5 ([E.i i.op, E.i i.d, E.i i.a, E.i i.b, E.u i.imm]), A.blk g2 (Q.S.cells Q.z0 ++ [E.i 0, E.u 0])]) (by kernel_rfl) (E.tk 0 (.pointer (some ⟨g5, 1, none⟩)) rfl (fun w h => A.hq [1, 2] [0, 3] h) (E.tj 1 (E.i i.d) rfl (fun w h => A.hq [1, 2] [0, 3] h) (fun w h => A.Y.bld h (k := 0) (j := 1) rfl (by kernel_rfl) (by kernel_rfl)) (E.tk 2 (.pointer (some ⟨g5, 4, none⟩)) rfl (fun w h => A.hq [1, 2] [0, 3] h) (E.tj 3 (E.u i.imm) rfl (fun w h => A.hq [1, 2] [0, 3] h) (fun w h => A.Y.bld h (k := 0) (j := 4) rfl (by kernel_rfl) (by kernel_rfl)) (E.tk 4 (.pointer (some ⟨g6, 18, none⟩)) rfl (fun w h => A.hq [1, 2] [0, 3] h) (E.tj 5 (.pointer (some ⟨g6, 18 + (i.imm).toNat, none⟩)) rfl (fun w h => A.hq [1, 2] [0, 3] h) (fun w h => E.idxI (e := 24) g6 18 4 .u32 i.imm (by kernel_rfl) (by kernel_rfl) (by kernel_rfl) (by kernel_rfl) (by have := (hi (Q.eq_of hc4)).imm; have := (hi (Q.eq_of hc4)).get hc42; omega) w) (E.tk 7 (.pointer (some ⟨g6, 1, none⟩)) rfl (fun w h => A.hq [1, 2] [0, 3] h) (E.al 6 rfl (E.vl (E.u (s.c ((i.imm).toNat))) (fun w h => E.run_load h 0 rfl rfl (Q.ld_c (by kernel_rfl) (by have := (by have := (hi (Q.eq_of hc4)).imm; have := (hi (Q.eq_of hc4)).get hc42; omega); omega))) (E.H.back (fun w h => A.hq [1, 2] [0, 3] h) (E.tj 8 (.pointer (some ⟨g6, 1 + (i.d).toNat, none⟩)) rfl (fun w h => A.hq [1, 2] [0, 3] h) (fun w h => E.idxI (e := 24) g6 1 16 .i64 i.d (by kernel_rfl) (by kernel_rfl) (by kernel_rfl) (by kernel_rfl) (by have := (hi (Q.eq_of hc4)).d; omega) w) ?_)))))))))))
  refine E.al 9 rfl (E.G.store 0 (Q.S.cells (⟨s.pc, (Q.up (Qx.u s) (i.d).toNat (s.c ((i.imm).toNat))), s.f, s.c, s.st, s.du⟩)) rfl rfl (Q.sto_r (s := (Qx.s s)) (by kernel_rfl) (by have := (by have := (hi (Q.eq_of hc4)).d; omega); omega)) (by kernel_rfl) (E.H.back (fun w h => A.hq [1, 2] [0, 3] h) (E.H.done (by kernel_rfl) (E.P.nb (E.To.code (E.wk [(4, E.pt g2), (7, E.pt g6), (11, E.u (Qx.p s))] [(g6, (Q.S.cells (⟨s.pc, (Q.up (Qx.u s) (i.d).toNat (s.c ((i.imm).toNat))), s.f, s.c, s.st, s.du⟩))), (g2, (Q.S.cells Q.z0 ++ [E.i 0, E.u 0]))] Nz.sub (E.sr (E.op (.pointer (some ⟨g6, 1, none⟩)) (E.op (.pointer (some ⟨g6, 1, none⟩)) (E.st 0 (Q.S.cells (⟨s.pc, (Q.up (Q.up (Qx.u s) (i.d).toNat (s.c ((i.imm).toNat))) 0 0), s.f, s.c, s.st, s.du⟩)) rfl rfl (E.tr (E.op (E.u (Qx.p s)) ?_))))))))))))
  refine E.op (E.pt g6) (E.st 0 (Q.S.cells (⟨(Qx.p s), (Q.up (Q.up (Qx.u s) (i.d).toNat (s.c ((i.imm).toNat))) 0 0), s.f, s.c, s.st, s.du⟩)) rfl rfl (E.tr (E.op (.pointer (some ⟨g6, 22, none⟩)) (E.li (E.i s.st) 0 rfl rfl (E.op (E.i (Qx.t s)) (E.op (.pointer (some ⟨g6, 22, none⟩)) (E.st 0 (Q.S.cells (⟨(Qx.p s), (Q.up (Q.up (Qx.u s) (i.d).toNat (s.c ((i.imm).toNat))) 0 0), s.f, s.c, (Qx.t s), s.du⟩)) rfl rfl (E.To.code (E.wk [(4, E.pt g2), (7, E.pt g6)] [(g6, (Q.S.cells (⟨(Qx.p s), (Q.up (Q.up (Qx.u s) (i.d).toNat (s.c ((i.imm).toNat))) 0 0), s.f, s.c, (Qx.t s), s.du⟩))), (g2, (Q.S.cells Q.z0 ++ [E.i 0, E.u 0]))] Nz.sub (E.sr (E.li (Q.S.val (⟨(Qx.p s), (Q.up (Q.up (Qx.u s) (i.d).toNat (s.c ((i.imm).toNat))) 0 0), s.f, s.c, (Qx.t s), s.du⟩)) 0 rfl rfl ?_)))))))))))
  refine E.vl (Q.out (⟨(Qx.p s), (Q.up (Q.up (Qx.u s) (i.d).toNat (s.c ((i.imm).toNat))) 0 0), s.f, s.c, (Qx.t s), s.du⟩ : Q.S) 0 0) (fun w h => E.run_build (Q.S.cells (⟨(Qx.p s), (Q.up (Q.up (Qx.u s) (i.d).toNat (s.c ((i.imm).toNat))) 0 0), s.f, s.c, (Qx.t s), s.du⟩ : Q.S) ++ [Value.int .i64 0, Value.int .u32 0]).toArray (by kernel_rfl) w) (E.st 1 (Q.S.cells (⟨(Qx.p s), (Q.up (Q.up (Qx.u s) (i.d).toNat (s.c ((i.imm).toNat))) 0 0), s.f, s.c, (Qx.t s), s.du⟩) ++ [E.i 0, E.u 0]) rfl rfl (E.To.code (E.C.ret (E.To.body (fn := Tryz.f18) [Q.out (⟨(Qx.p s), (Q.up (Q.up (Qx.u s) (i.d).toNat (s.c ((i.imm).toNat))) 0 0), s.f, s.c, (Qx.t s), s.du⟩ : Q.S) 0 0] ?_ ?_))))
  · exact ⟨⟨by kernel_rfl, _, _, 1, _, rfl, rfl, by kernel_rfl⟩, trivial⟩
  intro w h
  have e : (Q6.stepI i k t s V) = (⟨(Qx.p s), (Q.up (Q.up (Qx.u s) (i.d).toNat (s.c ((i.imm).toNat))) 0 0), s.f, s.c, (Qx.t s), s.du⟩, 0, 0, V) := by unfold Q6.stepI; rw [hc4, cond_false, hc11, cond_false, hc12, cond_false, hc15, cond_false, hc22, cond_false, hc28, cond_false, hc31, cond_false, hc33, cond_false, hc34, cond_false, hc35, cond_false, hc36, cond_false, hc37, cond_false, hc38, cond_false, hc39, cond_false, hc42, cond_true] <;> rfl
  rw [e]
  exact ⟨(), trivial, rfl, A.dq [2] [0, 1] h⟩
 refine E.sr (E.op (E.pt g5) (E.li (E.i i.op) 1 rfl rfl (E.op (.bool (i.op == 54)) (E.op (.bool (i.op == 54)) (E.G.cut 4 [(4, E.pt g2), (6, E.pt g5), (7, E.pt g6), (9, E.u (Qx.a s i)), (11, E.u (Qx.p s)), (266, .bool ((i.op == 54) && (i.imm == 4)))] (A.X w oo aa [R.It m V]) [(g6, (Q.S.cells (Qx.s s))), (g5, [E.i i.op, E.i i.d, E.i i.a, E.i i.b, E.u i.imm]), (g2, (Q.S.cells Q.z0 ++ [E.i 0, E.u 0]))] ?_ ?_)))))
 ·
  generalize hc43 : (i.op == 54) = b44
  cases b44
  ·
   exact E.sk (E.sk (E.sk (E.op (.bool false) (E.G.end_pst ⟨by kernel_rfl, by kernel_rfl⟩ Nz.sub (fun _ h => h)))))
  exact E.op (.pointer (some ⟨g5, 4, none⟩)) (E.li (E.u i.imm) 1 rfl rfl (E.op (.bool (i.imm == 4)) (E.op (.bool (i.imm == 4)) (E.G.end_pst ⟨by kernel_rfl, by kernel_rfl⟩ Nz.sub (fun _ h => h)))))
 refine E.op (.bool ((i.op == 54) && (i.imm == 4))) (E.To.code (E.cd ((i.op == 54) && (i.imm == 4)) (fun hc45 => ?_) (fun hc45 => ?_)))
 ·
  refine E.sr (E.op (.pointer (some ⟨g6, 23, none⟩)) (E.st 0 (Q.S.cells (⟨s.pc, (Qx.u s), s.f, s.c, s.st, 0⟩)) rfl rfl (E.tr (E.op (E.u (Qx.a s i)) (E.op (.bool ((Qx.a s i) != 0)) (E.To.code (E.cd (((Q.up s.r 0 0) ((i.a).toNat)) != 0) (fun hc46 => ?_) (fun hc46 => ?_))))))))
  ·
   refine E.C.region (E.op (.pointer (some ⟨g6, 22, none⟩)) (E.li (E.i s.st) 0 rfl rfl (E.op (E.i (Qx.t s)) (E.op (E.u (Qx.a s i)) (E.op (E.i (IntKind.wrap .i64 (Qx.a s i))) (E.op (E.i (IntKind.wrap .i64 ((Qx.t s) + (IntKind.wrap .i64 (Qx.a s i))))) (E.op (.pointer (some ⟨g6, 23, none⟩)) (E.st 0 (Q.S.cells (⟨s.pc, (Qx.u s), s.f, s.c, s.st, (IntKind.wrap .i64 ((Qx.t s) + (IntKind.wrap .i64 (Qx.a s i))))⟩)) rfl rfl (E.P.nb (E.To.code (E.wk [(4, E.pt g2), (7, E.pt g6), (11, E.u (Qx.p s))] [(g6, (Q.S.cells (⟨s.pc, (Qx.u s), s.f, s.c, s.st, (IntKind.wrap .i64 ((Qx.t s) + (IntKind.wrap .i64 (Qx.a s i))))⟩))), (g2, (Q.S.cells Q.z0 ++ [E.i 0, E.u 0]))] Nz.sub (E.sr ?_))))))))))))
   refine E.op (.pointer (some ⟨g6, 1, none⟩)) (E.op (.pointer (some ⟨g6, 1, none⟩)) (E.st 0 (Q.S.cells (⟨s.pc, (Q.up (Qx.u s) 0 0), s.f, s.c, s.st, (IntKind.wrap .i64 ((Qx.t s) + (IntKind.wrap .i64 (Qx.a s i))))⟩)) rfl rfl (E.tr (E.op (E.u (Qx.p s)) (E.op (E.pt g6) (E.st 0 (Q.S.cells (⟨(Qx.p s), (Q.up (Qx.u s) 0 0), s.f, s.c, s.st, (IntKind.wrap .i64 ((Qx.t s) + (IntKind.wrap .i64 (Qx.a s i))))⟩)) rfl rfl (E.tr (E.op (.pointer (some ⟨g6, 22, none⟩)) (E.li (E.i s.st) 0 rfl rfl (E.op (E.i (Qx.t s)) (E.op (.pointer (some ⟨g6, 22, none⟩)) ?_)))))))))))
   refine E.st 0 (Q.S.cells (⟨(Qx.p s), (Q.up (Qx.u s) 0 0), s.f, s.c, (Qx.t s), (IntKind.wrap .i64 ((Qx.t s) + (IntKind.wrap .i64 (Qx.a s i))))⟩)) rfl rfl (E.To.code (E.wk [(4, E.pt g2), (7, E.pt g6)] [(g6, (Q.S.cells (⟨(Qx.p s), (Q.up (Qx.u s) 0 0), s.f, s.c, (Qx.t s), (IntKind.wrap .i64 ((Qx.t s) + (IntKind.wrap .i64 (Qx.a s i))))⟩))), (g2, (Q.S.cells Q.z0 ++ [E.i 0, E.u 0]))] Nz.sub (E.sr (E.li (Q.S.val (⟨(Qx.p s), (Q.up (Qx.u s) 0 0), s.f, s.c, (Qx.t s), (IntKind.wrap .i64 ((Qx.t s) + (IntKind.wrap .i64 (Qx.a s i))))⟩)) 0 rfl rfl (E.vl (Q.out (⟨(Qx.p s), (Q.up (Qx.u s) 0 0), s.f, s.c, (Qx.t s), (IntKind.wrap .i64 ((Qx.t s) + (IntKind.wrap .i64 (Qx.a s i))))⟩ : Q.S) 0 0) (fun w h => E.run_build (Q.S.cells (⟨(Qx.p s), (Q.up (Qx.u s) 0 0), s.f, s.c, (Qx.t s), (IntKind.wrap .i64 ((Qx.t s) + (IntKind.wrap .i64 (Qx.a s i))))⟩ : Q.S) ++ [Value.int .i64 0, Value.int .u32 0]).toArray (by kernel_rfl) w) (E.st 1 (Q.S.cells (⟨(Qx.p s), (Q.up (Qx.u s) 0 0), s.f, s.c, (Qx.t s), (IntKind.wrap .i64 ((Qx.t s) + (IntKind.wrap .i64 (Qx.a s i))))⟩) ++ [E.i 0, E.u 0]) rfl rfl (E.To.code (E.C.ret (E.To.body (fn := Tryz.f18) [Q.out (⟨(Qx.p s), (Q.up (Qx.u s) 0 0), s.f, s.c, (Qx.t s), (IntKind.wrap .i64 ((Qx.t s) + (IntKind.wrap .i64 (Qx.a s i))))⟩ : Q.S) 0 0] ?_ ?_)))))))))
   · exact ⟨⟨by kernel_rfl, _, _, 1, _, rfl, rfl, by kernel_rfl⟩, trivial⟩
   intro w h
   have e : (Q6.stepI i k t s V) = (⟨(Qx.p s), (Q.up (Qx.u s) 0 0), s.f, s.c, (Qx.t s), (IntKind.wrap .i64 ((Qx.t s) + (IntKind.wrap .i64 (Qx.a s i))))⟩, 0, 0, V) := by unfold Q6.stepI; rw [hc4, cond_false, hc11, cond_false, hc12, cond_false, hc15, cond_false, hc22, cond_false, hc28, cond_false, hc31, cond_false, hc33, cond_false, hc34, cond_false, hc35, cond_false, hc36, cond_false, hc37, cond_false, hc38, cond_false, hc39, cond_false, hc42, cond_false, hc45, cond_true, hc46, cond_true] <;> rfl
   rw [e]
   exact ⟨(), trivial, rfl, A.dq [2] [0, 1] h⟩
  refine E.C.skip (E.P.nb (E.To.code (E.sr (E.op (.pointer (some ⟨g6, 1, none⟩)) (E.op (.pointer (some ⟨g6, 1, none⟩)) (E.st 0 (Q.S.cells (⟨s.pc, (Q.up (Qx.u s) 0 0), s.f, s.c, s.st, 0⟩)) rfl rfl (E.To.code (E.wk [(4, E.pt g2), (7, E.pt g6), (11, E.u (Qx.p s))] [(g6, (Q.S.cells (⟨s.pc, (Q.up (Qx.u s) 0 0), s.f, s.c, s.st, 0⟩))), (g2, (Q.S.cells Q.z0 ++ [E.i 0, E.u 0]))] Nz.sub (E.sr (E.op (E.u (Qx.p s)) (E.op (E.pt g6) (E.st 0 (Q.S.cells (⟨(Qx.p s), (Q.up (Qx.u s) 0 0), s.f, s.c, s.st, 0⟩)) rfl rfl (E.tr ?_)))))))))))))
  refine E.op (.pointer (some ⟨g6, 22, none⟩)) (E.li (E.i s.st) 0 rfl rfl (E.op (E.i (Qx.t s)) (E.op (.pointer (some ⟨g6, 22, none⟩)) (E.st 0 (Q.S.cells (⟨(Qx.p s), (Q.up (Qx.u s) 0 0), s.f, s.c, (Qx.t s), 0⟩)) rfl rfl (E.tr (E.li (Q.S.val (⟨(Qx.p s), (Q.up (Qx.u s) 0 0), s.f, s.c, (Qx.t s), 0⟩)) 0 rfl rfl (E.vl (Q.out (⟨(Qx.p s), (Q.up (Qx.u s) 0 0), s.f, s.c, (Qx.t s), 0⟩ : Q.S) 0 0) (fun w h => E.run_build (Q.S.cells (⟨(Qx.p s), (Q.up (Qx.u s) 0 0), s.f, s.c, (Qx.t s), 0⟩ : Q.S) ++ [Value.int .i64 0, Value.int .u32 0]).toArray (by kernel_rfl) w) (E.st 1 (Q.S.cells (⟨(Qx.p s), (Q.up (Qx.u s) 0 0), s.f, s.c, (Qx.t s), 0⟩) ++ [E.i 0, E.u 0]) rfl rfl (E.To.code (E.wk [(4, E.pt g2)] [(g2, (Q.S.cells (⟨(Qx.p s), (Q.up (Qx.u s) 0 0), s.f, s.c, (Qx.t s), 0⟩) ++ [E.i 0, E.u 0]))] Nz.sub (E.C.ret (E.To.body (fn := Tryz.f18) [Q.out (⟨(Qx.p s), (Q.up (Qx.u s) 0 0), s.f, s.c, (Qx.t s), 0⟩ : Q.S) 0 0] ?_ ?_))))))))))))
  · exact ⟨⟨by kernel_rfl, _, _, 0, _, rfl, rfl, by kernel_rfl⟩, trivial⟩
  intro w h
  have e : (Q6.stepI i k t s V) = (⟨(Qx.p s), (Q.up (Qx.u s) 0 0), s.f, s.c, (Qx.t s), 0⟩, 0, 0, V) := by unfold Q6.stepI; rw [hc4, cond_false, hc11, cond_false, hc12, cond_false, hc15, cond_false, hc22, cond_false, hc28, cond_false, hc31, cond_false, hc33, cond_false, hc34, cond_false, hc35, cond_false, hc36, cond_false, hc37, cond_false, hc38, cond_false, hc39, cond_false, hc42, cond_false, hc45, cond_true, hc46, cond_false] <;> rfl
  rw [e]
  exact ⟨(), trivial, rfl, A.dq [1] [0] h⟩
 refine E.sr (E.op (E.pt g5) (E.li (E.i i.op) 1 rfl rfl (E.op (.bool (i.op == 54)) (E.op (.bool (i.op == 54)) (E.G.cut 4 [(4, E.pt g2), (6, E.pt g5), (7, E.pt g6), (9, E.u (Qx.a s i)), (11, E.u (Qx.p s)), (285, .bool ((i.op == 54) && (decide (i.imm < 2))))] (A.X w oo aa [R.It m V]) [(g6, (Q.S.cells (Qx.s s))), (g5, [E.i i.op, E.i i.d, E.i i.a, E.i i.b, E.u i.imm]), (g2, (Q.S.cells Q.z0 ++ [E.i 0, E.u 0]))] ?_ ?_)))))
 ·
  generalize hc47 : (i.op == 54) = b48
  cases b48
  ·
   exact E.sk (E.sk (E.sk (E.op (.bool false) (E.G.end_pst ⟨by kernel_rfl, by kernel_rfl⟩ Nz.sub (fun _ h => h)))))
  exact E.op (.pointer (some ⟨g5, 4, none⟩)) (E.li (E.u i.imm) 1 rfl rfl (E.op (.bool (decide (i.imm < 2))) (E.op (.bool (decide (i.imm < 2))) (E.G.end_pst ⟨by kernel_rfl, by kernel_rfl⟩ Nz.sub (fun _ h => h)))))
 refine E.op (.bool ((i.op == 54) && (decide (i.imm < 2)))) (E.To.code (E.cd ((i.op == 54) && (decide (i.imm < 2))) (fun hc49 => ?_) (fun hc49 => ?_)))
 ·
  refine E.C.region (E.op (.pointer (some ⟨g5, 4, none⟩)) (E.li (E.u i.imm) 1 rfl rfl (E.op (E.u (Qx.a s i)) (E.op (.pointer (some ⟨g6, 18, none⟩)) (E.vl (.pointer (some ⟨g6, 18 + (i.imm).toNat, none⟩)) (fun w h => E.idxI (e := 24) g6 18 4 .u32 i.imm (by kernel_rfl) (by kernel_rfl) (by kernel_rfl) (by kernel_rfl) (by have := (hi (Q.eq_of hc4)).imm; have := Q.lt2 hc49; omega) w) (E.G.store 0 (Q.S.cells (⟨s.pc, (Qx.u s), s.f, (Q.up s.c (i.imm).toNat (Qx.a s i)), s.st, s.du⟩)) rfl rfl (Q.sto_c (s := (Qx.s s)) (by kernel_rfl) (by have := (by have := (hi (Q.eq_of hc4)).imm; have := Q.lt2 hc49; omega); omega)) (by kernel_rfl) (E.P.nb (E.To.code (E.wk [(4, E.pt g2), (7, E.pt g6), (11, E.u (Qx.p s))] [(g6, (Q.S.cells (⟨s.pc, (Qx.u s), s.f, (Q.up s.c (i.imm).toNat (Qx.a s i)), s.st, s.du⟩))), (g2, (Q.S.cells Q.z0 ++ [E.i 0, E.u 0]))] Nz.sub (E.sr (E.op (.pointer (some ⟨g6, 1, none⟩)) (E.op (.pointer (some ⟨g6, 1, none⟩)) ?_))))))))))))
  refine E.st 0 (Q.S.cells (⟨s.pc, (Q.up (Qx.u s) 0 0), s.f, (Q.up s.c (i.imm).toNat (Qx.a s i)), s.st, s.du⟩)) rfl rfl (E.tr (E.op (E.u (Qx.p s)) (E.op (E.pt g6) (E.st 0 (Q.S.cells (⟨(Qx.p s), (Q.up (Qx.u s) 0 0), s.f, (Q.up s.c (i.imm).toNat (Qx.a s i)), s.st, s.du⟩)) rfl rfl (E.tr (E.op (.pointer (some ⟨g6, 22, none⟩)) (E.li (E.i s.st) 0 rfl rfl (E.op (E.i (Qx.t s)) (E.op (.pointer (some ⟨g6, 22, none⟩)) (E.st 0 (Q.S.cells (⟨(Qx.p s), (Q.up (Qx.u s) 0 0), s.f, (Q.up s.c (i.imm).toNat (Qx.a s i)), (Qx.t s), s.du⟩)) rfl rfl (E.To.code ?_)))))))))))
  refine E.wk [(4, E.pt g2), (7, E.pt g6)] [(g6, (Q.S.cells (⟨(Qx.p s), (Q.up (Qx.u s) 0 0), s.f, (Q.up s.c (i.imm).toNat (Qx.a s i)), (Qx.t s), s.du⟩))), (g2, (Q.S.cells Q.z0 ++ [E.i 0, E.u 0]))] Nz.sub (E.sr (E.li (Q.S.val (⟨(Qx.p s), (Q.up (Qx.u s) 0 0), s.f, (Q.up s.c (i.imm).toNat (Qx.a s i)), (Qx.t s), s.du⟩)) 0 rfl rfl (E.vl (Q.out (⟨(Qx.p s), (Q.up (Qx.u s) 0 0), s.f, (Q.up s.c (i.imm).toNat (Qx.a s i)), (Qx.t s), s.du⟩ : Q.S) 0 0) (fun w h => E.run_build (Q.S.cells (⟨(Qx.p s), (Q.up (Qx.u s) 0 0), s.f, (Q.up s.c (i.imm).toNat (Qx.a s i)), (Qx.t s), s.du⟩ : Q.S) ++ [Value.int .i64 0, Value.int .u32 0]).toArray (by kernel_rfl) w) (E.st 1 (Q.S.cells (⟨(Qx.p s), (Q.up (Qx.u s) 0 0), s.f, (Q.up s.c (i.imm).toNat (Qx.a s i)), (Qx.t s), s.du⟩) ++ [E.i 0, E.u 0]) rfl rfl (E.To.code (E.C.ret (E.To.body (fn := Tryz.f18) [Q.out (⟨(Qx.p s), (Q.up (Qx.u s) 0 0), s.f, (Q.up s.c (i.imm).toNat (Qx.a s i)), (Qx.t s), s.du⟩ : Q.S) 0 0] ?_ ?_)))))))
  · exact ⟨⟨by kernel_rfl, _, _, 1, _, rfl, rfl, by kernel_rfl⟩, trivial⟩
  intro w h
  have e : (Q6.stepI i k t s V) = (⟨(Qx.p s), (Q.up (Qx.u s) 0 0), s.f, (Q.up s.c (i.imm).toNat (Qx.a s i)), (Qx.t s), s.du⟩, 0, 0, V) := by unfold Q6.stepI; rw [hc4, cond_false, hc11, cond_false, hc12, cond_false, hc15, cond_false, hc22, cond_false, hc28, cond_false, hc31, cond_false, hc33, cond_false, hc34, cond_false, hc35, cond_false, hc36, cond_false, hc37, cond_false, hc38, cond_false, hc39, cond_false, hc42, cond_false, hc45, cond_false, hc49, cond_true] <;> rfl
  rw [e]
  exact ⟨(), trivial, rfl, A.dq [2] [0, 1] h⟩
 refine E.C.skip (E.P.nb (E.To.code (E.sr (E.op (.pointer (some ⟨g6, 1, none⟩)) (E.op (.pointer (some ⟨g6, 1, none⟩)) (E.st 0 (Q.S.cells (⟨s.pc, (Q.up (Qx.u s) 0 0), s.f, s.c, s.st, s.du⟩)) rfl rfl (E.tr (E.op (E.u (Qx.p s)) (E.op (E.pt g6) (E.st 0 (Q.S.cells (⟨(Qx.p s), (Q.up (Qx.u s) 0 0), s.f, s.c, s.st, s.du⟩)) rfl rfl (E.To.code (E.wk [(4, E.pt g2), (7, E.pt g6)] [(g6, (Q.S.cells (⟨(Qx.p s), (Q.up (Qx.u s) 0 0), s.f, s.c, s.st, s.du⟩))), (g2, (Q.S.cells Q.z0 ++ [E.i 0, E.u 0]))] Nz.sub (E.sr ?_)))))))))))))
 refine E.op (.pointer (some ⟨g6, 22, none⟩)) (E.li (E.i s.st) 0 rfl rfl (E.op (E.i (Qx.t s)) (E.op (.pointer (some ⟨g6, 22, none⟩)) (E.st 0 (Q.S.cells (⟨(Qx.p s), (Q.up (Qx.u s) 0 0), s.f, s.c, (Qx.t s), s.du⟩)) rfl rfl (E.tr (E.li (Q.S.val (⟨(Qx.p s), (Q.up (Qx.u s) 0 0), s.f, s.c, (Qx.t s), s.du⟩)) 0 rfl rfl (E.vl (Q.out (⟨(Qx.p s), (Q.up (Qx.u s) 0 0), s.f, s.c, (Qx.t s), s.du⟩ : Q.S) 0 0) (fun w h => E.run_build (Q.S.cells (⟨(Qx.p s), (Q.up (Qx.u s) 0 0), s.f, s.c, (Qx.t s), s.du⟩ : Q.S) ++ [Value.int .i64 0, Value.int .u32 0]).toArray (by kernel_rfl) w) (E.st 1 (Q.S.cells (⟨(Qx.p s), (Q.up (Qx.u s) 0 0), s.f, s.c, (Qx.t s), s.du⟩) ++ [E.i 0, E.u 0]) rfl rfl (E.To.code (E.C.ret (E.To.body (fn := Tryz.f18) [Q.out (⟨(Qx.p s), (Q.up (Qx.u s) 0 0), s.f, s.c, (Qx.t s), s.du⟩ : Q.S) 0 0] ?_ ?_)))))))))))
 · exact ⟨⟨by kernel_rfl, _, _, 1, _, rfl, rfl, by kernel_rfl⟩, trivial⟩
 intro w h
 have e : (Q6.stepI i k t s V) = (⟨(Qx.p s), (Q.up (Qx.u s) 0 0), s.f, s.c, (Qx.t s), s.du⟩, 0, 0, V) := by unfold Q6.stepI; rw [hc4, cond_false, hc11, cond_false, hc12, cond_false, hc15, cond_false, hc22, cond_false, hc28, cond_false, hc31, cond_false, hc33, cond_false, hc34, cond_false, hc35, cond_false, hc36, cond_false, hc37, cond_false, hc38, cond_false, hc39, cond_false, hc42, cond_false, hc45, cond_false, hc49, cond_false] <;> rfl
 rw [e]
 exact ⟨(), trivial, rfl, A.dq [2] [0, 1] h⟩
theorem A.C.drop {P : Program} {n : Nat} {Q : Exit → Act → World → Prop} {w0 : World} {o0 a0 : Nat → Prop} {its : List A.It} {L : List (Nat × List Value)} {fr : E.Fr} {c : Code} (l r : List A.It) (hp : its.Perm (l ++ r)) (k : E.C P n Q c fr o0 w0 (A.X w0 o0 a0 l) L) : E.C P n Q c fr o0 w0 (A.X w0 o0 a0 its) L :=
  fun a w h1 h2 => k a w h1 (h2.monoX fun w ⟨hs, o, a, hh, hg⟩ => by
    obtain ⟨o1, a1, o2, a2, k1, k2, _, _, ho, ha⟩ := (hh.perm hp).append
    exact ⟨hs, o1, a1, k1, fun x hx hk => hg.1 x hx ((ho x).2 (.inl hk)), fun x hx hk => hg.2 x hx ((ha x).2 (.inl hk))⟩)
def Q.brs (a b : Int) : Q.S := Q.norm ⟨0, (Q.up (Q.up (fun _ => 0) 1 a) 2 b), 0, (fun _ => 0), 0, 0⟩
theorem Q.brs_wf {a b : Int} (ha : 0 ≤ a ∧ a < 4294967296) (hb : 0 ≤ b ∧ b < 4294967296) : Q.wf (Q.brs a b) := Q.norm_wf ⟨by show (0 : Int) ≤ 0 ∧ (0 : Int) < 4294967296; decide, Q.up_bd (Q.up_bd (fun _ => by show (0 : Int) ≤ 0 ∧ (0 : Int) < 4294967296; decide) ha) hb, fun _ => by show (0 : Int) ≤ 0 ∧ (0 : Int) < 4294967296; decide⟩
theorem Q.b01_1 (b : Bool) : (W.b01 b == 1) = b := by cases b <;> rfl
theorem Q.taken_eq {j : Nat} (hj : j < 6) (a b : Int) : Q.taken (32 + ((j : Nat) : Int)) a b = Q6.taken (32 + ((j : Nat) : Int)) a b := by
  have e14 : W.op 14 a b = W.b01 (decide (a < b)) := rfl
  have e15 : W.op 15 a b = W.b01 (decide (W.sg a < W.sg b)) := rfl
  rcases (by omega : j = 0 ∨ j = 1 ∨ j = 2 ∨ j = 3 ∨ j = 4 ∨ j = 5) with rfl | rfl | rfl | rfl | rfl | rfl
  · rfl
  · rfl
  · show (W.op 14 a b == 1) = decide (a < b)
    rw [e14, Q.b01_1]
  · show (!(W.op 14 a b == 1)) = decide (a ≥ b)
    rw [e14, Q.b01_1]; by_cases h : a < b
    · rw [decide_eq_true h, decide_eq_false (by omega)]; rfl
    · rw [decide_eq_false h, decide_eq_true (by omega)]; rfl
  · rfl
  · show (!(W.op 15 a b == 1)) = (W.op 15 a b == 0)
    rw [e15]; cases decide (W.sg a < W.sg b) <;> rfl
theorem Q.run1b {s s1 : Q.S} {V V1 : M.V} (h0 : s.du = 0) (e1 : Q.step s V = (s1, 0, 0, V1)) (h1 : s1.du = 0) : Q.runs 1 s V = (s1, 1, 0, V1) := by
  show Q.run 1 2 0 s V = _
  rw [Q.run, h0, e1]
  show Q.run 1 1 1 s1 V1 = _
  rw [Q.run, h1]; rfl
theorem Q.and_not3 {x : Int} (hx : 0 ≤ x ∧ x < 4294967296) : bits .andNot .u32 x 3 = x / 4 * 4 := by
  obtain ⟨A, rfl⟩ := Int.eq_ofNat_of_zero_le hx.1
  have hA : A < 4294967296 := by omega
  have e : bits .andNot .u32 ((A : Nat) : Int) 3 = (((BitVec.ofNat 32 A &&& ~~~(3#32)).toNat : Nat) : Int) % 4294967296 := by
    have h1 : BitVec.ofInt 32 ((A : Nat) : Int) = BitVec.ofNat 32 A := by
      apply BitVec.eq_of_toNat_eq; simp
    show IntKind.wrap .u32 (((BitVec.ofInt 32 ((A : Nat) : Int) &&& ~~~(BitVec.ofInt 32 3)).toNat : Nat) : Int) = _
    rw [h1]; rfl
  have hb : BitVec.ofNat 32 A &&& ~~~(3#32) = (BitVec.ofNat 32 A >>> 2) <<< 2 := by
    apply BitVec.eq_of_getLsbD_eq
    intro i hi
    have h3 : ∀ j : Fin 32, (~~~(3#32)).getLsbD j.val = decide (2 ≤ j.val) := by decide
    rw [BitVec.getLsbD_and, h3 ⟨i, hi⟩, BitVec.getLsbD_shiftLeft, BitVec.getLsbD_ushiftRight]
    by_cases k : 2 ≤ i
    · have e1 : 2 + (i - 2) = i := by omega
      have e2 : ¬ i < 2 := by omega
      simp [k, e1, e2, hi]
    · have e2 : i < 2 := by omega
      simp [k, e2]
  have hn : ((BitVec.ofNat 32 A >>> 2) <<< 2).toNat = A / 4 * 4 := by
    rw [BitVec.toNat_shiftLeft, BitVec.toNat_ushiftRight, BitVec.toNat_ofNat, Nat.mod_eq_of_lt (by omega), Nat.shiftRight_eq_div_pow, Nat.shiftLeft_eq]
    rw [Nat.mod_eq_of_lt (by omega)]
  rw [e, hb, hn]; omega
theorem Q.div4 {x : Int} (hx : 0 ≤ x ∧ x < 4294967296) : IntKind.wrap .u32 ((IntKind.wrap .u32 (Int.tdiv x 4)) * 4) = bits .andNot .u32 x 3 := by
  rw [Q.and_not3 hx, Int.tdiv_eq_ediv_of_nonneg hx.1, Q.wr, Q.wr]; omega
theorem Q.ops39 {x : Int} (h : (Q3.of x).is = true) : x = 1 ∨ x = 2 ∨ x = 3 ∨ x = 4 ∨ x = 5 ∨ x = 6 ∨ x = 7 ∨ x = 8 ∨ x = 9 ∨ x = 10 ∨ x = 11 ∨ x = 12 ∨ x = 16 ∨ x = 17 ∨ x = 18 ∨ x = 19 ∨ x = 20 ∨ x = 21 ∨ x = 22 ∨ x = 23 ∨ x = 24 ∨ x = 25 ∨ x = 26 ∨ x = 27 ∨ x = 32 ∨ x = 33 ∨ x = 34 ∨ x = 35 ∨ x = 36 ∨ x = 37 ∨ x = 40 ∨ x = 41 ∨ x = 48 ∨ x = 49 ∨ x = 50 ∨ x = 51 ∨ x = 52 ∨ x = 53 ∨ x = 54 := by
  have hr := Q3.op_rng h
  obtain ⟨n, rfl⟩ := Int.eq_ofNat_of_zero_le hr.1
  have tab : ∀ k : Fin 64, (Q3.of ((k.val : Nat) : Int)).is = true → (1 ≤ k.val ∧ k.val ≤ 12) ∨ (16 ≤ k.val ∧ k.val ≤ 27) ∨ (32 ≤ k.val ∧ k.val ≤ 37) ∨ k.val = 40 ∨ k.val = 41 ∨ (48 ≤ k.val ∧ k.val ≤ 54) := by decide +kernel
  have := tab ⟨n, by omega⟩ h
  simp only at this
  omega
theorem Q6.st_ld {o n d a b m t : Int} {s : Q.S} {V : M.V} (h : (o = 23 ∧ n = 4) ∨ (o = 24 ∧ n = 1)) : Q6.stepI ⟨o, d, a, b, m⟩ 0 t s V = Q.stepI ⟨o, d, a, b, m⟩ 0 t s V := by
  have key : ∀ r : Int × Int × Bool, ((bif (!r.2.2) then (s, 5, r.2.1, V) else (⟨IntKind.wrap .u32 (s.pc + 4), Q.up (Q.up (Q.up s.r 0 0) d.toNat r.1) 0 0, s.f, s.c, IntKind.wrap .i64 (s.st + 1), s.du⟩, 0, 0, V)) : Q.S × Int × Int × M.V) = (bif ((Q.flt r.2.1 r.2.2).1 != 0) then (s, (Q.flt r.2.1 r.2.2).1, (Q.flt r.2.1 r.2.2).2, V) else (⟨IntKind.wrap .u32 (s.pc + 4), Q.up (Q.up (Q.up s.r 0 0) d.toNat r.1) 0 0, s.f, s.c, IntKind.wrap .i64 (s.st + 1), s.du⟩, (Q.flt r.2.1 r.2.2).1, (Q.flt r.2.1 r.2.2).2, V)) := by
    rintro ⟨v, e, ok⟩
    cases ok <;> rfl
  rcases h with ⟨rfl, rfl⟩ | ⟨rfl, rfl⟩
  · exact key (V.load (IntKind.wrap .u32 (Q.up s.r 0 0 a.toNat + m)).toNat 4)
  · exact key (V.load (IntKind.wrap .u32 (Q.up s.r 0 0 a.toNat + m)).toNat 1)
theorem Q6.st_st {o n d a b m t : Int} {s : Q.S} {V : M.V} (h : (o = 25 ∧ n = 4) ∨ (o = 26 ∧ n = 1)) : Q6.stepI ⟨o, d, a, b, m⟩ 0 t s V = Q.stepI ⟨o, d, a, b, m⟩ 0 t s V := by
  have key : ∀ (W : M.V) (r : Int × Bool), ((bif (!r.2) then (s, 5, r.1, W) else (⟨IntKind.wrap .u32 (s.pc + 4), Q.up (Q.up s.r 0 0) 0 0, s.f, s.c, IntKind.wrap .i64 (s.st + 1), s.du⟩, 0, 0, W)) : Q.S × Int × Int × M.V) = (bif ((Q.flt r.1 r.2).1 != 0) then (s, (Q.flt r.1 r.2).1, (Q.flt r.1 r.2).2, W) else (⟨IntKind.wrap .u32 (s.pc + 4), Q.up (Q.up s.r 0 0) 0 0, s.f, s.c, IntKind.wrap .i64 (s.st + 1), s.du⟩, (Q.flt r.1 r.2).1, (Q.flt r.1 r.2).2, W)) := by
    rintro W ⟨e, ok⟩
    cases ok <;> rfl
  rcases h with ⟨rfl, rfl⟩ | ⟨rfl, rfl⟩
  · exact key (V.sto (IntKind.wrap .u32 (Q.up s.r 0 0 a.toNat + m)).toNat 4 (Q.up s.r 0 0 d.toNat)) (V.chk (IntKind.wrap .u32 (Q.up s.r 0 0 a.toNat + m)).toNat 2 4)
  · exact key (V.sto (IntKind.wrap .u32 (Q.up s.r 0 0 a.toNat + m)).toNat 1 (Q.up s.r 0 0 d.toNat)) (V.chk (IntKind.wrap .u32 (Q.up s.r 0 0 a.toNat + m)).toNat 2 1)
theorem Q6.st_br {j : Nat} (hj : j < 6) {d a b m t : Int} {s : Q.S} {V : M.V} : Q6.stepI ⟨32 + ((j : Nat) : Int), d, a, b, m⟩ 0 t s V = Q.stepI ⟨32 + ((j : Nat) : Int), d, a, b, m⟩ 0 t s V := by
  have key := congrArg (fun c : Bool => ((bif c then (⟨IntKind.wrap .u32 (s.pc + IntKind.wrap .u32 (4 * m)), Q.up (Q.up s.r 0 0) 0 0, s.f, s.c, IntKind.wrap .i64 (s.st + 1), s.du⟩, 0, 0, V) else (⟨IntKind.wrap .u32 (s.pc + 4), Q.up (Q.up s.r 0 0) 0 0, s.f, s.c, IntKind.wrap .i64 (s.st + 1), s.du⟩, 0, 0, V)) : Q.S × Int × Int × M.V)) (Q.taken_eq hj (Q.up s.r 0 0 d.toNat) (Q.up s.r 0 0 a.toNat)).symm
  rcases (by omega : j = 0 ∨ j = 1 ∨ j = 2 ∨ j = 3 ∨ j = 4 ∨ j = 5) with rfl | rfl | rfl | rfl | rfl | rfl <;> exact key
theorem Q6.st_sc {d a b m t : Int} (hm : 0 ≤ m) {s : Q.S} {V : M.V} : Q6.stepI ⟨54, d, a, b, m⟩ 0 t s V = Q.stepI ⟨54, d, a, b, m⟩ 0 t s V := by
  by_cases h4 : m = 4
  · subst h4
    have key : ∀ v : Int, ((bif (v != 0) then (⟨IntKind.wrap .u32 (s.pc + 4), Q.up (Q.up s.r 0 0) 0 0, s.f, s.c, IntKind.wrap .i64 (s.st + 1), IntKind.wrap .i64 (IntKind.wrap .i64 (s.st + 1) + IntKind.wrap .i64 v)⟩, 0, 0, V) else (⟨IntKind.wrap .u32 (s.pc + 4), Q.up (Q.up s.r 0 0) 0 0, s.f, s.c, IntKind.wrap .i64 (s.st + 1), 0⟩, 0, 0, V)) : Q.S × Int × Int × M.V) = (⟨IntKind.wrap .u32 (s.pc + 4), Q.up (Q.ctl ⟨s.pc, Q.up s.r 0 0, s.f, s.c, s.st, s.du⟩ 4 v).r 0 0, (Q.ctl ⟨s.pc, Q.up s.r 0 0, s.f, s.c, s.st, s.du⟩ 4 v).f, (Q.ctl ⟨s.pc, Q.up s.r 0 0, s.f, s.c, s.st, s.du⟩ 4 v).c, IntKind.wrap .i64 ((Q.ctl ⟨s.pc, Q.up s.r 0 0, s.f, s.c, s.st, s.du⟩ 4 v).st + 1), (Q.ctl ⟨s.pc, Q.up s.r 0 0, s.f, s.c, s.st, s.du⟩ 4 v).du⟩, 0, 0, V) := fun v => by
      by_cases h : v = 0
      · subst h; rfl
      · have e1 : (v != 0) = true := by simpa using h
        have e2 : (v == 0) = false := by simpa using h
        unfold Q.ctl
        rw [e1, e2]; rfl
    exact key (Q.up s.r 0 0 a.toNat)
  · by_cases h2 : m < 2
    · rcases (by omega : m = 0 ∨ m = 1) with rfl | rfl <;> rfl
    · have e4 : (m == 4) = false := by simpa using h4
      have e2 : decide (m < 2) = false := by simpa using h2
      have e0 : (m == 0) = false := by simp; omega
      have e1 : (m == 1) = false := by simp; omega
      have key : ∀ v : Int, Q.ctl ⟨s.pc, Q.up s.r 0 0, s.f, s.c, s.st, s.du⟩ m v = ⟨s.pc, Q.up s.r 0 0, s.f, s.c, s.st, s.du⟩ := fun v => by
        unfold Q.ctl; rw [e4, e0, e1]; rfl
      have er : Q.stepI ⟨54, d, a, b, m⟩ 0 t s V = (fun C : Q.S => ((⟨IntKind.wrap .u32 (s.pc + 4), Q.up C.r 0 0, C.f, C.c, IntKind.wrap .i64 (C.st + 1), C.du⟩, 0, 0, V) : Q.S × Int × Int × M.V)) (Q.ctl ⟨s.pc, Q.up s.r 0 0, s.f, s.c, s.st, s.du⟩ m (Q.up s.r 0 0 a.toNat)) := rfl
      have el : ∀ b4 b2 : Bool, (m == 4) = b4 → decide (m < 2) = b2 → Q6.stepI ⟨54, d, a, b, m⟩ 0 t s V = (bif b4 then (bif ((Q.up s.r 0 0 a.toNat) != 0) then (⟨IntKind.wrap .u32 (s.pc + 4), Q.up (Q.up s.r 0 0) 0 0, s.f, s.c, IntKind.wrap .i64 (s.st + 1), IntKind.wrap .i64 (IntKind.wrap .i64 (s.st + 1) + IntKind.wrap .i64 (Q.up s.r 0 0 a.toNat))⟩, 0, 0, V) else (⟨IntKind.wrap .u32 (s.pc + 4), Q.up (Q.up s.r 0 0) 0 0, s.f, s.c, IntKind.wrap .i64 (s.st + 1), 0⟩, 0, 0, V)) else bif b2 then (⟨IntKind.wrap .u32 (s.pc + 4), Q.up (Q.up s.r 0 0) 0 0, s.f, Q.up s.c m.toNat (Q.up s.r 0 0 a.toNat), IntKind.wrap .i64 (s.st + 1), s.du⟩, 0, 0, V) else (⟨IntKind.wrap .u32 (s.pc + 4), Q.up (Q.up s.r 0 0) 0 0, s.f, s.c, IntKind.wrap .i64 (s.st + 1), s.du⟩, 0, 0, V)) := fun b4 b2 h1 h2 => by
        subst h1; subst h2; rfl
      rw [el _ _ e4 e2, er, key]; rfl
/-- Both do the same with an instruction. -/
theorem Q6.stepI_eq {i : Q.I} {k t : Int} {s : Q.S} {V : M.V} (hi : (k == 0) = true → Q.iok i) (hv : (k == 0) = true → (Q3.of i.op).is = true) (hs : Q.wf s) : Q6.stepI i k t s V = Q.stepI i k t s V := by
  cases hk : (k == 0) with
  | false =>
    have hk' : (k != 0) = true := by rw [bne, hk]; rfl
    unfold Q6.stepI Q.stepI
    rw [hk, hk']; rfl
  | true =>
    have k0 : k = 0 := by simpa using hk
    subst k0
    obtain ⟨_, hd, ha, hb, hm, hg⟩ := hi hk
    have h39 := Q.ops39 (hv hk)
    obtain ⟨o, d, a, b, m⟩ := i
    simp only at hd ha hb hm hg h39
    have hz : (0 : Int) ≤ 0 ∧ (0 : Int) < 4294967296 := by decide
    have hr0 : ∀ d, 0 ≤ Q.up s.r 0 0 d ∧ Q.up s.r 0 0 d < 4294967296 := Q.up_bd hs.r hz
    clear hi hv hk hg
    rcases h39 with rfl | rfl | rfl | rfl | rfl | rfl | rfl | rfl | rfl | rfl | rfl | rfl | rfl | rfl | rfl | rfl | rfl | rfl | rfl | rfl | rfl | rfl | rfl | rfl | rfl | rfl | rfl | rfl | rfl | rfl | rfl | rfl | rfl | rfl | rfl | rfl | rfl | rfl | rfl
    iterate 9 rfl
    · -- division
      have key : ∀ (z : Bool) (x y : Q.S × Int × Int × M.V), (bif z then x else y) = (bif z then x else y) := fun _ _ _ => rfl
      exact key (Q.up s.r 0 0 b.toNat == 0) (s, 6, 0, V) (⟨IntKind.wrap .u32 (s.pc + 4), Q.up (Q.up (Q.up s.r 0 0) d.toNat (W.op 12 (Q.up s.r 0 0 a.toNat) (Q.up s.r 0 0 b.toNat))) 0 0, s.f, s.c, IntKind.wrap .i64 (s.st + 1), s.du⟩, 0, 0, V)
    iterate 9 rfl
    · exact Q6.st_ld (n := 4) (.inl ⟨rfl, rfl⟩)
    · exact Q6.st_ld (n := 1) (.inr ⟨rfl, rfl⟩)
    · exact Q6.st_st (n := 4) (.inl ⟨rfl, rfl⟩)
    · exact Q6.st_st (n := 1) (.inr ⟨rfl, rfl⟩)
    · exact congrArg (fun p : Int => ((⟨p, Q.up (Q.up (Q.up s.r 0 0) d.toNat (IntKind.wrap .u32 (s.pc + 4))) 0 0, s.f, s.c, IntKind.wrap .i64 (s.st + 1), s.du⟩, 0, 0, V) : Q.S × Int × Int × M.V)) (Q.div4 (x := IntKind.wrap .u32 (Q.up s.r 0 0 a.toNat + m)) (Q.wrap_bd _))
    · exact Q6.st_br (j := 0) (by decide)
    · exact Q6.st_br (j := 1) (by decide)
    · exact Q6.st_br (j := 2) (by decide)
    · exact Q6.st_br (j := 3) (by decide)
    · exact Q6.st_br (j := 4) (by decide)
    · exact Q6.st_br (j := 5) (by decide)
    iterate 5 rfl
    · exact congrArg (fun p : Int => ((⟨p, Q.up (Q.up s.r 0 0) 0 0, s.f, s.c, IntKind.wrap .i64 (s.st + 1), s.du⟩, 0, 0, V) : Q.S × Int × Int × M.V)) (Q.div4 (x := s.c 1) (hs.c 1))
    · rfl
    · rfl
    · exact Q6.st_sc hm.1
theorem Q.decode_is {x : Int} (hx : 0 ≤ x ∧ x < 4294967296) (h : ((Q.decode x).2 != 0) = false) : (Q3.of (Q.decode x).1.op).is = true := by
  rw [← Q3.decode_eq hx] at h ⊢
  unfold Q3.decode at h ⊢
  cases hb : ((((Q3.encode (Q3.can x)).2) != 0) || (((Q3.encode (Q3.can x)).1) != x)) with
  | true => rw [hb] at h; cases h
  | false =>
    have hv : Q3.valid (Q3.can x) = true := by
      cases hv : Q3.valid (Q3.can x) with
      | true => rfl
      | false => rw [Q3.enc_no hv] at hb; cases hb
    exact (Q3.valid_parts hv).1
theorem Q.fetch_is {V : M.V} (hw : R.Wf V) {p : Int} (h : ((Q.fetch V p).2.1 == 0) = true) : (Q3.of (Q.fetch V p).1.op).is = true := by
  have hb : 0 ≤ Q6.wd V p ∧ Q6.wd V p < 4294967296 := Q.wrap_bd _
  rw [Q6.wd_eq hw] at hb
  unfold Q.fetch at h ⊢
  revert h
  refine Q.bifP (p := fun x : Q.I × Int × Int => (x.2.1 == 0) = true → (Q3.of x.1.op).is = true) (fun _ h => absurd h (by decide : ¬ (((7 : Int) == 0) = true))) fun _ => ?_
  iterate 4 refine Q.bifP (p := fun x : Q.I × Int × Int => (x.2.1 == 0) = true → (Q3.of x.1.op).is = true) (fun _ h => absurd h (by decide : ¬ (((5 : Int) == 0) = true))) fun _ => ?_
  exact Q.bifP (p := fun x : Q.I × Int × Int => (x.2.1 == 0) = true → (Q3.of x.1.op).is = true) (fun _ h => absurd h (by decide : ¬ (((7 : Int) == 0) = true))) fun hd _ => Q.decode_is hb hd
theorem A.trAs {P : Program} {f : FuncId} {args : Array Value} {p : List A.It} {v v' : Value} {q q' : List A.It} (h : A.Tr P f args p (I := Unit) (fun _ => True) (fun _ => v) (fun _ => q)) (e : v = v') (e2 : q = q') : A.Tr P f args p (I := Unit) (fun _ => True) (fun _ => v') (fun _ => q') := e2 ▸ e ▸ h
theorem Step6_any {m : Nat} (s : Q.S) (V : M.V) (hs : Q.wf s) (hV : R.Wf V) : A.Tr Tryz.prog 18 #[Q.S.val s, .pointer (some ⟨m, 0, none⟩)] [R.It m V] (I := Unit) (fun _ => True) (fun _ => Q.out (Q.step s V).1 (Q.step s V).2.1 (Q.step s V).2.2.1) (fun _ => [R.It m (Q.step s V).2.2.2]) := by
  have h := Step6_i (m := m) (Q.fetch V s.pc).1 (Q.fetch V s.pc).2.1 (Q.fetch V s.pc).2.2 s V (Q6.fetch_eq hV _) Q.fetch_ok hs
  rw [Q6.stepI_eq Q.fetch_ok (Q.fetch_is hV) hs] at h
  exact h
theorem CRun6 {r m : Nat} (most : Int) (s : Q.S) (V : M.V) (hm : -9223372036854775808 ≤ most ∧ most < 9223372036854775808) (hs : Q.wf s) (hV : R.Wf V) : A.Tr Tryz.prog 25 #[.pointer (some ⟨r, 0, none⟩), .int .i64 most] [A.blk r (Q.S.cells s ++ [.pointer (some ⟨m, 0, none⟩)]), R.It m V] (I := Unit) (fun _ => True) (fun _ => .agg #[.int .i64 (Q.runs most s V).2.1, .int .u32 (Q.runs most s V).2.2.1]) (fun _ => [A.blk r (Q.S.cells (Q.runs most s V).1 ++ [.pointer (some ⟨m, 0, none⟩)]), R.It m (Q.runs most s V).2.2.2]) := by
 intro w oo aa hh
 refine E.enter (n := 53) (S := oo) Tryz.func25 rfl rfl (by kernel_rfl) (A.start (L := [(r, (Q.S.cells s ++ [E.pt m]))]) hh) (E.sr (E.G.new (fun g => E.pt g) [E.i 0, E.u 0] 49 (fun w => by kernel_rfl) (by kernel_rfl) (fun g1 => E.tr (E.op (E.i 0) (E.To.code (E.C.block (E.C.loop (I := Nat × Q.S × M.V) (fun i => (most.toNat + 1) - i.1) (fun i => i.1 < (most.toNat + 1) ∧ Q.wf i.2.1 ∧ R.Wf i.2.2 ∧ Q.run most ((most.toNat + 1) - i.1) i.1 i.2.1 i.2.2 = (Q.runs most s V)) (fun i => [(0, E.pt r), (1, E.i most), (4, E.pt g1), (5, E.i ((i.1 : Nat) : Int))]) (fun i => A.X w oo aa [R.It m i.2.2]) (fun i => [(g1, [E.i 0, E.u 0]), (r, (Q.S.cells i.2.1 ++ [E.pt m]))]) (0, s, V) (⟨Nat.succ_pos _, hs, hV, rfl⟩) ⟨by kernel_rfl, by kernel_rfl⟩ Nz.sub (fun _ h => h) (fun i hk1 => E.C.block (E.C.seq (E.C.seq (E.C.quiet (by kernel_rfl) (by kernel_rfl) ?_)))))))))))
 refine E.wo (E.pt r) (E.wo (E.pt r) (E.wo (E.pt r) (E.wo (.pointer (some ⟨r, 23, none⟩)) (E.wv (E.i i.2.1.du) (fun w h => E.run_load h 1 rfl rfl (by kernel_rfl)) (E.wo (.bool (decide (i.2.1.du > 0))) (E.wo (.bool (decide (i.2.1.du > 0))) (E.W.cut 12 [(0, E.pt r), (1, E.i most), (4, E.pt g1), (5, E.i ((i.1 : Nat) : Int)), (7, E.pt r), (8, E.pt r), (9, E.pt r), (10, .pointer (some ⟨r, 23, none⟩)), (11, E.i i.2.1.du), (12, .bool (decide (i.2.1.du > 0))), (13, .bool (decide (i.2.1.du > 0))), (25, .bool ((decide (i.2.1.du > 0)) && (decide (i.2.1.st ≥ i.2.1.du))))] ?_ ?_)))))))
 ·
  generalize hc2 : (decide (i.2.1.du > 0)) = b3
  cases b3
  ·
   refine E.ws (E.ws (E.ws (E.ws (E.ws (E.ws (E.ws (E.ws (E.ws (E.ws (E.ws (E.wo (.bool false) ?_)))))))))))
   exact E.W.end_cut ⟨by kernel_rfl, by kernel_rfl⟩
  refine E.wo (E.pt r) (E.wo (E.pt r) (E.wo (E.pt r) (E.wo (.pointer (some ⟨r, 22, none⟩)) (E.wv (E.i i.2.1.st) (fun w h => E.run_load h 1 rfl rfl (by kernel_rfl)) (E.wo (E.pt r) (E.wo (E.pt r) (E.wo (E.pt r) (E.wo (.pointer (some ⟨r, 23, none⟩)) (E.wv (E.i i.2.1.du) (fun w h => E.run_load h 1 rfl rfl (by kernel_rfl)) (E.wo (.bool (decide (i.2.1.st ≥ i.2.1.du))) (E.wo (.bool (decide (i.2.1.st ≥ i.2.1.du))) ?_)))))))))))
  exact E.W.end_cut ⟨by kernel_rfl, by kernel_rfl⟩
 refine E.W.done (E.To.code (E.cd ((decide (i.2.1.du > 0)) && (decide (i.2.1.st ≥ i.2.1.du))) (fun hc4 => ?_) (fun hc4 => ?_)))
 ·
  refine E.sr (E.vl (.agg #[E.i 8, E.u 0]) (fun w h => E.run_build #[E.i 8, E.u 0] (by kernel_rfl) w) (E.st 0 [E.i 8, E.u 0] rfl rfl (E.To.code (E.C.ret (E.P.rt (E.P.rb (E.P.rt (E.P.rb (E.To.body (fn := Tryz.f25) [.agg #[E.i 8, E.u 0]] ?_ ?_)))))))))
  · exact ⟨⟨by kernel_rfl, _, _, 0, _, rfl, rfl, by kernel_rfl⟩, trivial⟩
  intro w h
  have e := hk1.2.2.2
  rw [Q.run_t hk1.1 hc4] at e
  rw [← e]
  exact ⟨(), trivial, rfl, A.dq [1, 2] [0] h⟩
 refine E.C.skip (E.To.code (E.C.seq (E.sr (E.op (E.i ((i.1 : Nat) : Int)) (E.op (E.i most) (E.op (.bool (decide (((i.1 : Nat) : Int) ≥ most))) (E.To.code (E.cd (decide (((i.1 : Nat) : Int) ≥ most)) (fun hc5 => ?_) (fun hc5 => ?_)))))))))
 ·
  refine E.sr (E.vl (.agg #[E.i 1, E.u 0]) (fun w h => E.run_build #[E.i 1, E.u 0] (by kernel_rfl) w) (E.st 0 [E.i 1, E.u 0] rfl rfl (E.To.code (E.C.ret (E.P.rt (E.P.rb (E.P.rt (E.P.rb (E.To.body (fn := Tryz.f25) [.agg #[E.i 1, E.u 0]] ?_ ?_)))))))))
  · exact ⟨⟨by kernel_rfl, _, _, 0, _, rfl, rfl, by kernel_rfl⟩, trivial⟩
  intro w h
  have e := hk1.2.2.2
  rw [Q.run_b hk1.1 hc4 hc5] at e
  rw [← e]
  exact ⟨(), trivial, rfl, A.dq [1, 2] [0] h⟩
 refine E.C.skip (E.To.code (E.C.seq (E.C.held (A.Y [A.blk g1 ([E.i 0, E.u 0]), A.blk r (Q.S.cells i.2.1 ++ [E.pt m])]) (by kernel_rfl) (E.tk 0 (E.pt r) rfl (fun w h => A.hq [0, 1] [2] h) (E.tk 1 (E.pt r) rfl (fun w h => A.hq [0, 1] [2] h) (E.tk 2 (E.pt r) rfl (fun w h => A.hq [0, 1] [2] h) (E.tj 3 (Q.S.val i.2.1) rfl (fun w h => A.hq [0, 1] [2] h) (fun w h => A.Y.bld h (k := 1) (j := 0) rfl (by kernel_rfl) (by kernel_rfl)) (E.tk 4 (E.pt r) rfl (fun w h => A.hq [0, 1] [2] h) (E.tk 5 (E.pt r) rfl (fun w h => A.hq [0, 1] [2] h) (E.tk 6 (.pointer (some ⟨r, 24, none⟩)) rfl (fun w h => A.hq [0, 1] [2] h) (E.tj 7 (E.pt m) rfl (fun w h => A.hq [0, 1] [2] h) (fun w h => A.Y.bld h (k := 1) (j := 24) rfl (by kernel_rfl) (by kernel_rfl)) (E.al2 8 9 rfl rfl ?_ ?_))))))))))))
 ·
  refine A.G.call (I := Unit) (D := fun _ => True) (V := fun _ => Q.out ((Q.step i.2.1 i.2.2).1) ((Q.step i.2.1 i.2.2).2.1) ((Q.step i.2.1 i.2.2).2.2.1)) (q := fun _ => [R.It m ((Q.step i.2.1 i.2.2).2.2.2)]) [A.blk g1 ([E.i 0, E.u 0]), A.blk r (Q.S.cells i.2.1 ++ [E.pt m])] (fun _ => [(g1, [E.i 0, E.u 0]), (r, (Q.S.cells i.2.1 ++ [E.pt m]))]) (fun _ => [R.It m ((Q.step i.2.1 i.2.2).2.2.2)]) (Step6_any (m := m) i.2.1 i.2.2 hk1.2.1 hk1.2.2.1) (by kernel_rfl) (A.pn [2, 0, 1]) (fun _ => A.pm [1, 2, 0] (by kernel_rfl) (by kernel_rfl)) (fun w _ => by kernel_rfl) (by kernel_rfl) (fun _ hd6 => E.H.back (fun w h => A.hq [0, 1] [2] h) (E.al 9 rfl (E.G.new (fun g => E.pt g) (Q.S.cells Q.z0 ++ [E.i 0, E.u 0]) 53 (fun w => by kernel_rfl) (by kernel_rfl) (fun g7 => E.H.back (fun w h => A.hq [1, 2] [0, 3] h) (E.al 10 rfl (E.st 0 (Q.S.cells ((Q.step i.2.1 i.2.2).1) ++ [E.i ((Q.step i.2.1 i.2.2).2.1), E.u ((Q.step i.2.1 i.2.2).2.2.1)]) rfl rfl (E.H.back (fun w h => A.hq [1, 2] [0, 3] h) (E.H.done (by kernel_rfl) (E.To.code (E.C.seq (E.sr ?_)))))))))))
  refine E.op (.pointer (some ⟨g7, 24, none⟩)) (E.op (.pointer (some ⟨g7, 24, none⟩)) (E.li (E.i ((Q.step i.2.1 i.2.2).2.1)) 0 rfl rfl (E.op (.bool (((Q.step i.2.1 i.2.2).2.1) != 0)) (E.To.code (E.cd (((Q.step i.2.1 i.2.2).2.1) != 0) (fun hc8 => ?_) (fun hc8 => ?_))))))
  ·
   refine E.sr (E.op (.pointer (some ⟨g7, 24, none⟩)) (E.li (.agg #[E.i ((Q.step i.2.1 i.2.2).2.1), E.u ((Q.step i.2.1 i.2.2).2.2.1)]) 0 rfl rfl (E.st 1 [E.i ((Q.step i.2.1 i.2.2).2.1), E.u ((Q.step i.2.1 i.2.2).2.2.1)] rfl rfl (E.To.code (E.C.ret (E.P.rt (E.P.rb (E.P.rt (E.P.rb (E.To.body (fn := Tryz.f25) [.agg #[E.i ((Q.step i.2.1 i.2.2).2.1), E.u ((Q.step i.2.1 i.2.2).2.2.1)]] ?_ ?_))))))))))
   · exact ⟨⟨by kernel_rfl, _, _, 1, _, rfl, rfl, by kernel_rfl⟩, trivial⟩
   intro w h
   have e := hk1.2.2.2
   rw [Q.run_s hk1.1 hc4 hc5 hc8] at e
   rw [← e]
   exact ⟨(), trivial, rfl, A.dq [2, 3] [0, 1] h⟩
  refine E.C.skip (E.To.code (E.sr (E.op (E.pt r) (E.op (E.pt g7) (E.li (Q.S.val ((Q.step i.2.1 i.2.2).1)) 0 rfl rfl (E.op (E.pt r) (E.op (E.pt r) (E.st 2 (Q.S.cells ((Q.step i.2.1 i.2.2).1) ++ [E.pt m]) rfl rfl (E.ur (E.op (E.i ((i.1 : Nat) : Int)) (E.vl (E.i ((i.1 + 1 : Nat) : Int)) (fun w h => E.run_as (a := E.i (IntKind.wrap .i64 (((i.1 : Nat) : Int) + 1))) (by kernel_rfl) (congrArg (Value.int .i64) (Q.run_lt hm.2 hc5).2)) (E.op (E.i ((i.1 + 1 : Nat) : Int)) ?_))))))))))))
  exact E.P.nb (E.To.round (i.1 + 1, (Q.step i.2.1 i.2.2).1, (Q.step i.2.1 i.2.2).2.2.2) (by show (most.toNat + 1) - (i.1 + 1) < (most.toNat + 1) - i.1; have := hk1.1; omega) (⟨(Q.run_lt hm.2 hc5).1, (Q.step_wf hk1.2.1 hk1.2.2.1).1, (Q.step_wf hk1.2.1 hk1.2.2.1).2, (Q.run_n hk1.1 hc4 hc5 hc8).symm.trans hk1.2.2.2⟩) ⟨by kernel_rfl, by kernel_rfl⟩ Nz.sub (fun _ h => h))
 refine E.G.new (fun g => E.pt g) (Q.S.cells Q.z0 ++ [E.i 0, E.u 0]) 53 (fun w => by kernel_rfl) (by kernel_rfl) (fun g9 => E.H.back (fun w h => A.hq [1, 2] [0, 3] h) (E.al 8 rfl (A.G.call (I := Unit) (D := fun _ => True) (V := fun _ => Q.out ((Q.step i.2.1 i.2.2).1) ((Q.step i.2.1 i.2.2).2.1) ((Q.step i.2.1 i.2.2).2.2.1)) (q := fun _ => [R.It m ((Q.step i.2.1 i.2.2).2.2.2)]) [A.blk g9 (Q.S.cells Q.z0 ++ [E.i 0, E.u 0]), A.blk g1 ([E.i 0, E.u 0]), A.blk r (Q.S.cells i.2.1 ++ [E.pt m])] (fun _ => [(g9, (Q.S.cells Q.z0 ++ [E.i 0, E.u 0])), (g1, [E.i 0, E.u 0]), (r, (Q.S.cells i.2.1 ++ [E.pt m]))]) (fun _ => [R.It m ((Q.step i.2.1 i.2.2).2.2.2)]) (Step6_any (m := m) i.2.1 i.2.2 hk1.2.1 hk1.2.2.1) (by kernel_rfl) (A.pn [3, 0, 1, 2]) (fun _ => A.pm [1, 2, 3, 0] (by kernel_rfl) (by kernel_rfl)) (fun w _ => by kernel_rfl) (by kernel_rfl) (fun _ hd10 => E.H.back (fun w h => A.hq [1, 2] [0, 3] h) (E.al 10 rfl (E.st 0 (Q.S.cells ((Q.step i.2.1 i.2.2).1) ++ [E.i ((Q.step i.2.1 i.2.2).2.1), E.u ((Q.step i.2.1 i.2.2).2.2.1)]) rfl rfl (E.H.back (fun w h => A.hq [1, 2] [0, 3] h) (E.H.done (by kernel_rfl) (E.To.code (E.C.seq (E.sr ?_)))))))))))
 refine E.op (.pointer (some ⟨g9, 24, none⟩)) (E.op (.pointer (some ⟨g9, 24, none⟩)) (E.li (E.i ((Q.step i.2.1 i.2.2).2.1)) 0 rfl rfl (E.op (.bool (((Q.step i.2.1 i.2.2).2.1) != 0)) (E.To.code (E.cd (((Q.step i.2.1 i.2.2).2.1) != 0) (fun hc11 => ?_) (fun hc11 => ?_))))))
 ·
  refine E.sr (E.op (.pointer (some ⟨g9, 24, none⟩)) (E.li (.agg #[E.i ((Q.step i.2.1 i.2.2).2.1), E.u ((Q.step i.2.1 i.2.2).2.2.1)]) 0 rfl rfl (E.st 1 [E.i ((Q.step i.2.1 i.2.2).2.1), E.u ((Q.step i.2.1 i.2.2).2.2.1)] rfl rfl (E.To.code (E.C.ret (E.P.rt (E.P.rb (E.P.rt (E.P.rb (E.To.body (fn := Tryz.f25) [.agg #[E.i ((Q.step i.2.1 i.2.2).2.1), E.u ((Q.step i.2.1 i.2.2).2.2.1)]] ?_ ?_))))))))))
  · exact ⟨⟨by kernel_rfl, _, _, 1, _, rfl, rfl, by kernel_rfl⟩, trivial⟩
  intro w h
  have e := hk1.2.2.2
  rw [Q.run_s hk1.1 hc4 hc5 hc11] at e
  rw [← e]
  exact ⟨(), trivial, rfl, A.dq [2, 3] [0, 1] h⟩
 refine E.C.skip (E.To.code (E.sr (E.op (E.pt r) (E.op (E.pt g9) (E.li (Q.S.val ((Q.step i.2.1 i.2.2).1)) 0 rfl rfl (E.op (E.pt r) (E.op (E.pt r) (E.st 2 (Q.S.cells ((Q.step i.2.1 i.2.2).1) ++ [E.pt m]) rfl rfl (E.ur (E.op (E.i ((i.1 : Nat) : Int)) (E.vl (E.i ((i.1 + 1 : Nat) : Int)) (fun w h => E.run_as (a := E.i (IntKind.wrap .i64 (((i.1 : Nat) : Int) + 1))) (by kernel_rfl) (congrArg (Value.int .i64) (Q.run_lt hm.2 hc5).2)) (E.op (E.i ((i.1 + 1 : Nat) : Int)) ?_))))))))))))
 exact E.P.nb (E.To.round (i.1 + 1, (Q.step i.2.1 i.2.2).1, (Q.step i.2.1 i.2.2).2.2.2) (by show (most.toNat + 1) - (i.1 + 1) < (most.toNat + 1) - i.1; have := hk1.1; omega) (⟨(Q.run_lt hm.2 hc5).1, (Q.step_wf hk1.2.1 hk1.2.2.1).1, (Q.step_wf hk1.2.1 hk1.2.2.1).2, (Q.run_n hk1.1 hc4 hc5 hc11).symm.trans hk1.2.2.2⟩) ⟨by kernel_rfl, by kernel_rfl⟩ Nz.sub (fun _ h => h))
def Q6.tame (i : Q.I) (k : Int) : Q.I := (bif ((k % 8) == 0) then i else (bif ((decide (i.op ≥ 23)) && (decide (i.op ≤ 26))) then ⟨i.op, i.d, (IntKind.wrap .i64 (1 + (k % 3))), i.b, (Int.tmod i.imm 64)⟩ else (bif ((decide (i.op ≥ 32)) && (decide (i.op ≤ 40))) then ⟨i.op, i.d, i.a, i.b, (IntKind.wrap .u32 (IntKind.wrap .i64 ((k % 7) - 2)))⟩ else (bif (i.op == 27) then ⟨i.op, i.d, 0, i.b, (IntKind.wrap .u32 (IntKind.wrap .i64 (256 + (IntKind.wrap .i64 (4 * (k % 32))))))⟩ else (bif (i.op == 52) then ⟨i.op, i.d, (IntKind.wrap .i64 (1 + (k % 3))), i.b, i.imm⟩ else (bif ((i.op == 54) && (i.imm == 4)) then ⟨i.op, i.d, 4, i.b, i.imm⟩ else i))))))
def Q6.mt (q : Nat → Nat → Int) (k : Nat) : Q.I := Q6.tame (Q3.made (q k 0) (q k 1) (q k 2) (q k 3) (q k 4)) (q k 4)
def Q6.ws (q : Nat → Nat → Int) : Nat → ByteArray
  | 0 => ⟨#[]⟩
  | k + 1 => Q6.ws q k ++ W.put (Q3.encode (Q6.mt q k)).1 4
theorem Q.b30 (b : Int) : 0 ≤ b % 1073741824 ∧ b % 1073741824 < 1073741824 := ⟨Int.emod_nonneg _ (by decide), Int.emod_lt_of_pos _ (by decide)⟩
section
variable {P : Program} {fr : E.Fr} {T : TypeId} {d : Option Nat} {pos : String} {af : Array Edge} {gd : Option (Nat × Bool)}
end
theorem M.put_f (V : M.V) (a : Nat) (v : Int) : ∀ c, (V.put a v c).n = V.n ∧ (V.put a v c).coh = V.coh ∧ (V.put a v c).r = V.r
  | 0 => ⟨rfl, rfl, rfl⟩
  | c + 1 => by
    have h := M.put_f V a v c
    rw [M.V.put, M.V.set]
    split
    · exact h
    · exact h
theorem Q.one.chk {V : M.V} (h : Q.one V) : (V.chk 8 2 4).2 = true := by
  have ok : ∀ x, x < 256 → V.ok x 2 = true := fun x hx => by
    unfold M.V.ok; rw [show x / 256 = 0 by omega, h.n, h.r]; decide
  show (V.chkN 8 2 0 4).2 = true
  rw [M.V.chkN, ok _ (by decide), cond_true, M.V.chkN, ok _ (by decide), cond_true, M.V.chkN, ok _ (by decide), cond_true, M.V.chkN, ok _ (by decide), cond_true]; rfl
theorem Q.one.put {V : M.V} (h : Q.one V) (a : Nat) (v : Int) (c : Nat) : Q.one (V.put a v c) := ⟨(M.put_f V a v c).1.trans h.n, (M.put_f V a v c).2.1.trans h.coh, by rw [(M.put_f V a v c).2.2]; exact h.r⟩
theorem Q.s1 (s : Q.S) (V : M.V) : Q.stepI ⟨1, 0, 0, 0, 0⟩ 0 0 s V = (⟨IntKind.wrap .u32 (s.pc + 4), Q.up (Q.up (Q.up s.r 0 0) 0 (W.op 3 (Q.up s.r 0 0 0) (Q.up s.r 0 0 0))) 0 0, s.f, s.c, IntKind.wrap .i64 (s.st + 1), s.du⟩, 0, 0, V) := rfl
variable {n4 d : Int}
end Go.Proofs.YtgbndbljohpnmaaGreat
namespace Go.Proofs.YtgbndbljohpnmaaGreat
set_option linter.unusedVariables false
set_option linter.unusedSimpArgs false
open Go.RowKit
def Q.ck (d : Int) : Int := 1 + d % 15
theorem Q.c4 (c : Int) : 0 ≤ c % 4 ∧ c % 4 < 4 := ⟨Int.emod_nonneg _ (by decide), Int.emod_lt_of_pos _ (by decide)⟩
theorem Q.co_valid {i : Q.I} {F : Q3.Fm} (e : Q3.of i.op = F) (h1 : F.is = true) (hd : Q3.reg i.d F.d = true) (ha : Q3.reg i.a F.a = true) (hb : Q3.reg i.b F.b = true) (hm : Q3.iimm F i.imm = true) : Q3.valid i = true := by
  unfold Q3.valid
  show (bif (!((Q3.of i.op).is)) then false else (bif (((!(Q3.reg i.d ((Q3.of i.op).d))) || (!(Q3.reg i.a ((Q3.of i.op).a)))) || (!(Q3.reg i.b ((Q3.of i.op).b)))) then false else Q3.iimm (Q3.of i.op) i.imm)) = true
  rw [e, h1, hd, ha, hb, hm]; rfl
variable {n d c : Int}
end Go.Proofs.YtgbndbljohpnmaaGreat
namespace Go.Proofs.YtgbndbljohpnmaaGreat
set_option linter.unusedVariables false
set_option linter.unusedSimpArgs false
open Go.RowKit
def Q6.code (q : Nat → Nat → Int) (n : Nat) : ByteArray := Q6.ws q (Nat.min n 100)
def Q6.nn (n0 n1 n2 n3 : Int) (k : Nat) : Int := match k % 4 with
  | 0 => n0
  | 1 => n1
  | 2 => n2
  | _ => n3
theorem Q6.a4 {i : Int} (h0 : 0 ≤ i) (h1 : i < 4) : (#[.int .i64 256, .int .i64 1276, .int .i64 1532, .int .i64 1790] : Array Value)[i.toNat]? = some (.int .i64 (([256, 1276, 1532, 1790] : List Int).getD i.toNat 0)) := by
  have h : i.toNat < 4 := by omega
  generalize i.toNat = n at h
  rcases (by omega : n = 0 ∨ n = 1 ∨ n = 2 ∨ n = 3) with rfl | rfl | rfl | rfl <;> rfl
/-- A memory without clean copies that is 0 outside of its pages. -/
structure Q.tight (V : M.V) : Prop where
  coh : V.coh = false
  d : ∀ j x, V.n ≤ j ∨ 256 ≤ x → V.d j x = 0
  i : ∀ j x, V.n ≤ j ∨ 256 ≤ x → V.i j x = 0
  r : ∀ j, V.n ≤ j → V.r j = 0
  cd : V.cd = fun _ _ => 0
  ci : V.ci = fun _ _ => 0
theorem Q.tight.new (n : Nat) : Q.tight (M.V.new n false) := ⟨rfl, fun _ _ _ => rfl, fun _ _ _ => rfl, fun _ _ => rfl, rfl, rfl⟩
theorem Q.tight.set {V : M.V} (h : Q.tight V) (a : Nat) (v : Int) : Q.tight (V.set a v) := by
  unfold M.V.set
  by_cases ha : a / 256 < V.n
  · rw [if_pos ha, h.coh]
    refine ⟨rfl, fun j x hx => ?_, h.i, h.r, h.cd, h.ci⟩
    show (if j = a / 256 ∧ x = a % 256 then v else V.d j x) = 0
    have hx : V.n ≤ j ∨ 256 ≤ x := hx
    rw [if_neg (by omega)]; exact h.d j x hx
  · rw [if_neg ha]; exact h
theorem Q.tight.poke {V : M.V} (h : Q.tight V) (a : Nat) (s : ByteArray) : ∀ c, Q.tight (V.poke a s c)
  | 0 => h
  | c + 1 => (Q.tight.poke h a s c).set _ _
theorem Q.tight.setc {V : M.V} (h : Q.tight V) (p : Int) (s : ByteArray) : Q.tight (V.setc p s) := by
  unfold M.V.setc
  by_cases hp : 0 ≤ p ∧ p < ((V.n : Nat) : Int) ∧ V.coh = false
  · rw [if_pos hp]
    refine ⟨h.coh, h.d, fun j x hx => ?_, h.r, h.cd, h.ci⟩
    show (if j = p.toNat ∧ x < Nat.min s.size 256 then W.byt s.data.toList x else V.i j x) = 0
    have hx : V.n ≤ j ∨ 256 ≤ x := hx
    have : Nat.min s.size 256 ≤ 256 := Nat.min_le_right _ _
    rw [if_neg (by omega)]; exact h.i j x hx
  · rw [if_neg hp]; exact h
theorem Q.tight.prot {V : M.V} (h : Q.tight V) (p r : Int) : Q.tight (V.prot p r) := by
  unfold M.V.prot
  by_cases hp : 0 ≤ p ∧ p < ((V.n : Nat) : Int)
  · rw [if_pos hp]
    refine ⟨h.coh, h.d, h.i, fun j hj => ?_, h.cd, h.ci⟩
    show (if j = p.toNat then bits .and .i64 r 7 else V.r j) = 0
    have hj : V.n ≤ j := hj
    rw [if_neg (by omega)]; exact h.r j hj
  · rw [if_neg hp]; exact h
def Q.img (V : M.V) (p : Nat) : ByteArray := strOfNums (((R.flat V.i (R.len V)).drop (256 * p)).take 256)
def Q.ldW (V : M.V) : Nat → M.V
  | 0 => M.V.new (M.np ((V.n : Nat) : Int)) false
  | p + 1 => (((Q.ldW V p).poke (((256 * p : Nat) : Int)).toNat (V.page ((p : Nat) : Int)) (V.page ((p : Nat) : Int)).size).setc ((p : Nat) : Int) (Q.img V p)).prot ((p : Nat) : Int) (V.rt ((p : Nat) : Int))
theorem Q.ldW_tight {V : M.V} : ∀ p, Q.tight (Q.ldW V p)
  | 0 => Q.tight.new _
  | p + 1 => (((Q.ldW_tight p).poke _ _ _).setc _ _).prot _ _
theorem Q.page_is {V : M.V} (hw : R.Wf V) {p : Nat} (h : p < V.n) : (V.page ((p : Nat) : Int)).size = 256 ∧ ∀ x, x < 256 → W.byt (V.page ((p : Nat) : Int)).data.toList x = V.d p x := by
  have e : V.page ((p : Nat) : Int) = strOfNums ((List.range 256).map (V.d p)) := by unfold M.V.page; rw [if_pos (by omega)]; rfl
  rw [e]
  refine ⟨by rw [strOfNums_size, List.length_map, List.length_range], fun x hx => ?_⟩
  rw [W.byt_nums _ _ (fun y hy => by
    obtain ⟨z, hz, rfl⟩ := List.mem_map.1 hy
    exact hw.d p h z (List.mem_range.1 hz))]
  simp [List.getD, hx]
theorem Q.img_is {V : M.V} (hw : R.Wf V) (hc : V.coh = false) {p : Nat} (h : p < V.n) : (Q.img V p).size = 256 ∧ ∀ x, x < 256 → W.byt (Q.img V p).data.toList x = V.i p x := by
  have hl : R.len V = V.n := R.len_f hc
  have e : ((R.flat V.i (R.len V)).drop (256 * p)).take 256 = (List.range 256).map (V.i p) := by
    refine List.ext_getElem? fun k => ?_
    rw [hl]
    by_cases hk : k < 256
    · have h1 : 256 * p + k < 256 * V.n := by omega
      have e1 : (256 * p + k) / 256 = p := by omega
      have e2 : (256 * p + k) % 256 = k := by omega
      simp [R.flat, List.getElem?_take, List.getElem?_drop, hk, h1, e1, e2]
    · simp [List.getElem?_take, hk]
  unfold Q.img
  rw [e]
  refine ⟨by rw [strOfNums_size, List.length_map, List.length_range], fun x hx => ?_⟩
  rw [W.byt_nums _ _ (fun y hy => by
    obtain ⟨z, hz, rfl⟩ := List.mem_map.1 hy
    exact hw.i p h z (List.mem_range.1 hz))]
  simp [List.getD, hx]
theorem M.poke_dp {V : M.V} (hc : V.coh = false) (hn : V.n ≤ 4096) {p : Nat} (hp : p < V.n) (s : ByteArray) : ∀ c, c ≤ 256 → (V.poke (256 * p) s c).i = V.i ∧ (V.poke (256 * p) s c).n = V.n ∧ (V.poke (256 * p) s c).r = V.r ∧ (V.poke (256 * p) s c).coh = V.coh ∧ ∀ j x, (V.poke (256 * p) s c).d j x = if j = p ∧ x < c then W.byt s.data.toList x else V.d j x
  | 0, _ => ⟨rfl, rfl, rfl, rfl, fun j x => by rw [if_neg (by omega)]; rfl⟩
  | c + 1, h => by
    obtain ⟨h1, h2, h3, h4, h5⟩ := M.poke_dp hc hn hp s c (by omega)
    rw [M.V.poke, M.V.set, Nat.mod_eq_of_lt (by omega), if_pos (by rw [h2]; omega)]
    refine ⟨?_, h2, h3, h4, fun j x => ?_⟩
    · show (if (V.poke (256 * p) s c).coh then _ else (V.poke (256 * p) s c).i) = V.i
      rw [h4, hc]; exact h1
    · show (if j = (256 * p + c) / 256 ∧ x = (256 * p + c) % 256 then W.byt s.data.toList c else (V.poke (256 * p) s c).d j x) = _
      rw [h5]
      by_cases e : j = p ∧ x = c
      · obtain ⟨rfl, rfl⟩ := e
        rw [if_pos (by omega), if_pos (by omega)]
      · rw [if_neg (by omega)]
        by_cases k : j = p ∧ x < c
        · rw [if_pos k, if_pos (by omega)]
        · rw [if_neg k, if_neg (by omega)]
theorem Q.and7 {r : Int} (h : 0 ≤ r ∧ r < 8) : bits .and .i64 r 7 = r := by
  rcases (by omega : r = 0 ∨ r = 1 ∨ r = 2 ∨ r = 3 ∨ r = 4 ∨ r = 5 ∨ r = 6 ∨ r = 7) with rfl | rfl | rfl | rfl | rfl | rfl | rfl | rfl <;> rfl
theorem Q.ldW_is {V : M.V} (hw : R.Wf V) (hc : V.coh = false) : ∀ p, p ≤ V.n → (Q.ldW V p).n = V.n ∧ (∀ j x, j < p → x < 256 → (Q.ldW V p).d j x = V.d j x ∧ (Q.ldW V p).i j x = V.i j x) ∧ (∀ j, j < p → (Q.ldW V p).r j = V.r j)
  | 0, _ => by
    refine ⟨?_, fun _ _ h => by omega, fun _ h => by omega⟩
    show M.np ((V.n : Nat) : Int) = V.n
    have := hw.n
    unfold M.np; rw [if_neg (by omega : ¬ (0 > ((V.n : Nat) : Int))), if_neg (by omega)]; omega
  | p + 1, hp => by
    obtain ⟨h1, h2, h3⟩ := Q.ldW_is hw hc p (by omega)
    have hp' : p < V.n := by omega
    obtain ⟨s1, s2⟩ := Q.page_is hw hp'
    obtain ⟨t1, t2⟩ := Q.img_is hw hc hp'
    have hW := (Q.ldW_tight (V := V) p).coh
    have hl : (Q.ldW V p).n ≤ 4096 := by rw [h1]; exact hw.n
    have e : Q.ldW V (p + 1) = (((Q.ldW V p).poke (256 * p) (V.page ((p : Nat) : Int)) 256).setc ((p : Nat) : Int) (Q.img V p)).prot ((p : Nat) : Int) (V.rt ((p : Nat) : Int)) := by
      rw [Q.ldW, s1]; rfl
    obtain ⟨g1, g2, g3, g4, g5⟩ := M.poke_dp hW hl (p := p) (by rw [h1]; exact hp') (V.page ((p : Nat) : Int)) 256 (by decide)
    rw [e]
    generalize (Q.ldW V p).poke (256 * p) (V.page ((p : Nat) : Int)) 256 = A at *
    have hA : A.n = V.n := g2.trans h1
    have es : A.setc ((p : Nat) : Int) (Q.img V p) = { A with i := fun j x => if j = ((p : Nat) : Int).toNat ∧ x < Nat.min (Q.img V p).size 256 then W.byt (Q.img V p).data.toList x else A.i j x } := by
      unfold M.V.setc
      rw [if_pos ⟨by omega, by rw [hA]; omega, g4.trans hW⟩]
    have er : V.rt ((p : Nat) : Int) = V.r p := by unfold M.V.rt; rw [if_pos (by omega)]; rfl
    have ep : ∀ B : M.V, B.n = V.n → B.prot ((p : Nat) : Int) (V.r p) = { B with r := fun j => if j = ((p : Nat) : Int).toNat then bits .and .i64 (V.r p) 7 else B.r j } := fun B hB => by
      unfold M.V.prot
      rw [if_pos ⟨by omega, by rw [hB]; omega⟩]
    rw [es, er]
    rw [ep _ (by exact hA)]
    have hm : Nat.min (Q.img V p).size 256 = 256 := by rw [t1]; rfl
    refine ⟨hA, fun j x hj hx => ⟨?_, ?_⟩, fun j hj => ?_⟩
    · show A.d j x = V.d j x
      rw [g5]
      by_cases k : j = p
      · subst k; rw [if_pos ⟨rfl, hx⟩, s2 x hx]
      · rw [if_neg (by omega)]; exact (h2 j x (by omega) hx).1
    · show (if j = ((p : Nat) : Int).toNat ∧ x < Nat.min (Q.img V p).size 256 then W.byt (Q.img V p).data.toList x else A.i j x) = V.i j x
      rw [hm, Int.toNat_natCast]
      by_cases k : j = p
      · subst k; rw [if_pos ⟨rfl, hx⟩, t2 x hx]
      · rw [if_neg (by omega), g1]; exact (h2 j x (by omega) hx).2
    · show (if j = ((p : Nat) : Int).toNat then bits .and .i64 (V.r p) 7 else A.r j) = V.r j
      rw [Int.toNat_natCast]
      by_cases k : j = p
      · subst k; rw [if_pos rfl, Q.and7 (hw.r j hp')]
      · rw [if_neg k, g3]; exact h3 j (by omega)
/-- All pages laid: the same memory. -/
theorem Q.ldW_end {V : M.V} (hw : R.Wf V) (ht : Q.tight V) : Q.ldW V V.n = V := by
  obtain ⟨h1, h2, h3⟩ := Q.ldW_is hw ht.coh V.n (Nat.le_refl _)
  have hT := Q.ldW_tight (V := V) V.n
  generalize Q.ldW V V.n = A at *
  have ed : A.d = V.d := by
    funext j x
    by_cases k : j < V.n ∧ x < 256
    · exact (h2 j x k.1 k.2).1
    · rw [hT.d j x (by rw [h1]; omega), ht.d j x (by omega)]
  have ei : A.i = V.i := by
    funext j x
    by_cases k : j < V.n ∧ x < 256
    · exact (h2 j x k.1 k.2).2
    · rw [hT.i j x (by rw [h1]; omega), ht.i j x (by omega)]
  have er : A.r = V.r := by
    funext j
    by_cases k : j < V.n
    · exact h3 j k
    · rw [hT.r j (by rw [h1]; omega), ht.r j (by omega)]
  have e1 := hT.coh.trans ht.coh.symm
  have e2 := hT.cd.trans ht.cd.symm
  have e3 := hT.ci.trans ht.ci.symm
  obtain ⟨n, coh, d, i, cd, ci, r⟩ := A
  obtain ⟨n', coh', d', i', cd', ci', r'⟩ := V
  simp only at h1 ed ei er e1 e2 e3
  subst h1 ed ei er e1 e2 e3
  rfl
theorem Q.sm53 {V : M.V} (hw : R.Wf V) : IntKind.wrap .i64 (256 * ((V.n : Nat) : Int)) = ((256 * V.n : Nat) : Int) := by have := hw.n; rw [IntWalk.i64_in _ (by omega)]; omega
theorem Q.sm54 {V : M.V} (hw : R.Wf V) : IntKind.wrap .u32 ((256 * V.n : Nat) : Int) = ((256 * V.n : Nat) : Int) := by have := hw.n; rw [Q.wr]; omega
theorem Q.sm_bd {V : M.V} {a : Nat} (hw : R.Wf V) (h : a ≤ 256 * V.n) : 0 ≤ ((a : Nat) : Int) ∧ ((a : Nat) : Int) < 4294967296 := by have := hw.n; omega
theorem Q.sm57 {V : M.V} {a : Nat} (hw : R.Wf V) (h : a ≤ 256 * V.n) : IntKind.wrap .u32 (((a : Nat) : Int) + 1) = ((a + 1 : Nat) : Int) := by have := hw.n; rw [Q.wr]; omega
theorem Q.sm34 {V : M.V} {p : Nat} (hw : R.Wf V) (h : p ≤ V.n) : IntKind.wrap .i64 (((p : Nat) : Int) + 1) = ((p + 1 : Nat) : Int) := by have := hw.n; rw [IntWalk.i64_in _ (by omega)]; omega
theorem CSame {c r m : Nat} {s : Q.S} {V : M.V} (hw : R.Wf V) : A.Tr Tryz.prog 26 #[.pointer (some ⟨c, 0, none⟩), .pointer (some ⟨r, 0, none⟩)] [A.blk r (Q.S.cells s ++ [.pointer (some ⟨m, 0, none⟩)]), M.It c V (Q.S.cells s), R.It m V] (I := Unit) (fun _ => True) (fun _ => .bool true) (fun _ => [A.blk r (Q.S.cells s ++ [.pointer (some ⟨m, 0, none⟩)]), M.It c V (Q.S.cells s), R.It m V]) := by
 intro w oo aa hh
 refine E.enter (n := 84) (S := oo) Tryz.func26 rfl rfl (by kernel_rfl) (A.start (L := [(r, (Q.S.cells s ++ [E.pt m]))]) hh) (E.sr (E.op (.bool false) (E.To.code (E.C.seq (E.C.seq (E.C.quiet (by kernel_rfl) (by kernel_rfl) (E.wo (E.pt c) (E.W.call (Q.S.val s) (fun w h => A.cq [1] [0, 2] (CState (c := c) (V := V) s) h) (fun w _ => by kernel_rfl) (by kernel_rfl) (E.wo (E.pt r) (E.wo (E.pt r) (E.wo (E.pt r) ?_)))))))))))
 refine E.wv (Q.S.val s) (fun w h => E.run_load h 0 rfl rfl (by kernel_rfl)) (E.wv (.bool false) (fun w h => E.api_State_nself s (by kernel_rfl) (by kernel_rfl)) (E.wo (.bool false) (E.wo (E.pt c) (E.wo (E.pt c) (E.wo (E.pt c) (E.W.call (E.i ((V.n : Nat) : Int)) (fun w h => A.cq [1] [0, 2] (A_Pages (m := c) (V := V) (xs := (Q.S.cells s))) h) (fun w _ => by kernel_rfl) (by kernel_rfl) (E.wo (E.pt r) (E.wo (E.pt r) (E.wo (.pointer (some ⟨r, 24, none⟩)) (E.wv (E.pt m) (fun w h => E.run_load h 0 rfl rfl (by kernel_rfl)) (E.W.call (E.i ((V.n : Nat) : Int)) (fun w h => A.cq [2] [0, 1] (B_Pages (r := m) (V := V)) h) (fun w _ => by kernel_rfl) (by kernel_rfl) ?_)))))))))))
 refine E.wv (.bool false) (fun w h => E.run_as (a := .bool (((V.n : Nat) : Int) != ((V.n : Nat) : Int))) (by kernel_rfl) (congrArg Value.bool (bne_self_eq_false _))) (E.wo (.bool false) (E.W.done (E.To.code (E.wk [(0, E.pt c), (1, E.pt r), (4, .bool false), (25, .bool false)] [(r, (Q.S.cells s ++ [E.pt m]))] Nz.sub (E.C.condF (by kernel_rfl) (by kernel_rfl) (E.C.skip (E.To.code (E.C.seq (E.sr (E.op (E.i 0) (E.To.code (E.C.block (E.C.loop (I := Nat) (fun p => V.n - p) (fun p => p ≤ V.n) (fun p => [(0, E.pt c), (1, E.pt r), (4, .bool false), (5, E.i ((p : Nat) : Int))]) (fun p => A.X w oo aa [M.It c V (Q.S.cells s), R.It m V]) (fun p => [(r, (Q.S.cells s ++ [E.pt m]))]) 0 ((Nat.zero_le _)) ⟨by kernel_rfl, by kernel_rfl⟩ Nz.sub (fun _ h => h) (fun p hk1 => ?_))))))))))))))
 refine E.C.seq (E.sr (E.op (E.i ((p : Nat) : Int)) (E.op (E.pt r) (E.op (E.pt r) (E.op (.pointer (some ⟨r, 24, none⟩)) (E.li (E.pt m) 0 rfl rfl (E.G.call (E.i ((V.n : Nat) : Int)) (fun w h => A.cq [2] [0, 1] (B_Pages (r := m) (V := V)) h) (fun w _ => by kernel_rfl) (by kernel_rfl) (E.op (.bool (decide (((p : Nat) : Int) < ((V.n : Nat) : Int)))) (E.To.code (E.cd (decide (((p : Nat) : Int) < ((V.n : Nat) : Int))) (fun hc1 => ?_) (fun hc1 => ?_)))))))))))
 ·
  refine E.C.skip (E.To.code (E.C.seq (E.C.block (E.C.seq (E.C.quiet (by kernel_rfl) (by kernel_rfl) (E.wo (E.pt c) (E.wo (E.pt c) (E.wo (E.pt c) (E.wo (E.i ((p : Nat) : Int)) (E.W.call (E.i (V.rt ((p : Nat) : Int))) (fun w h => A.cq [1] [0, 2] (A_Rights ((p : Nat) : Int) (m := c) (V := V) (xs := (Q.S.cells s))) h) (fun w _ => by kernel_rfl) (by kernel_rfl) (E.wo (E.pt r) (E.wo (E.pt r) ?_))))))))))))
  refine E.wo (.pointer (some ⟨r, 24, none⟩)) (E.wv (E.pt m) (fun w h => E.run_load h 0 rfl rfl (by kernel_rfl)) (E.wo (E.i ((p : Nat) : Int)) (E.W.call (E.i (V.rt ((p : Nat) : Int))) (fun w h => A.cq [2] [0, 1] (B_RightsOf ((p : Nat) : Int) (r := m) (V := V)) h) (fun w _ => by kernel_rfl) (by kernel_rfl) (E.wv (.bool false) (fun w h => E.run_as (a := .bool ((V.rt ((p : Nat) : Int)) != (V.rt ((p : Nat) : Int)))) (by kernel_rfl) (congrArg Value.bool (bne_self_eq_false _))) (E.W.done (E.To.code (E.C.condF (by kernel_rfl) (by kernel_rfl) (E.C.skip (E.P.nb (E.To.code (E.C.region (E.op (E.i ((p : Nat) : Int)) (E.vl (E.i ((p + 1 : Nat) : Int)) (fun w h => E.run_as (a := E.i (IntKind.wrap .i64 (((p : Nat) : Int) + 1))) (by kernel_rfl) (congrArg (Value.int .i64) (Q.sm34 hw hk1))) (E.op (E.i ((p + 1 : Nat) : Int)) ?_))))))))))))))
  exact E.To.round (p + 1) Nz.pom (Nz.pom) ⟨by kernel_rfl, by kernel_rfl⟩ Nz.sub (fun _ h => h)
 refine E.C.exit (E.P.et (E.P.et (E.P.eh (E.To.code (E.wk [(0, E.pt c), (1, E.pt r), (4, .bool false)] [(r, (Q.S.cells s ++ [E.pt m]))] Nz.sub (E.C.seq (E.sr (E.op (E.u 0) (E.To.code (E.C.block (E.C.loop (I := Nat) (fun a => 256 * V.n - a) (fun a => a ≤ 256 * V.n) (fun a => [(0, E.pt c), (1, E.pt r), (4, .bool false), (6, E.u ((a : Nat) : Int))]) (fun a => A.X w oo aa [M.It c V (Q.S.cells s), R.It m V]) (fun a => [(r, (Q.S.cells s ++ [E.pt m]))]) 0 ((Nat.zero_le _)) ⟨by kernel_rfl, by kernel_rfl⟩ Nz.sub (fun _ h => h) (fun a hk2 => E.C.seq (E.sr (E.op (E.u ((a : Nat) : Int)) (E.op (E.pt r) ?_)))))))))))))))
 refine E.op (E.pt r) (E.op (.pointer (some ⟨r, 24, none⟩)) (E.li (E.pt m) 0 rfl rfl (E.G.call (E.i ((V.n : Nat) : Int)) (fun w h => A.cq [2] [0, 1] (B_Pages (r := m) (V := V)) h) (fun w _ => by kernel_rfl) (by kernel_rfl) (E.vl (E.i ((256 * V.n : Nat) : Int)) (fun w h => E.run_as (a := E.i (IntKind.wrap .i64 (256 * ((V.n : Nat) : Int)))) (by kernel_rfl) (congrArg (Value.int .i64) (Q.sm53 hw))) (E.vl (E.u ((256 * V.n : Nat) : Int)) (fun w h => E.run_as (a := E.u (IntKind.wrap .u32 ((256 * V.n : Nat) : Int))) (by kernel_rfl) (congrArg (Value.int .u32) (Q.sm54 hw))) (E.op (.bool (decide (((a : Nat) : Int) < ((256 * V.n : Nat) : Int)))) (E.To.code (E.cd (decide (((a : Nat) : Int) < ((256 * V.n : Nat) : Int))) (fun hc2 => ?_) (fun hc2 => ?_)))))))))
 ·
  refine E.C.skip (E.To.code (E.C.seq (E.C.block (E.C.seq (E.C.quiet (by kernel_rfl) (by kernel_rfl) (E.wo (E.pt c) (E.wo (E.pt c) (E.wo (E.pt c) (E.wo (E.u ((a : Nat) : Int)) (E.W.call (.int .u8 (V.peek (((a : Nat) : Int)).toNat)) (fun w h => A.cq [1] [0, 2] (I_Peek ((a : Nat) : Int) (Q.sm_bd hw hk2) (m := c) (V := V) (xs := (Q.S.cells s))) h) (fun w _ => by kernel_rfl) (by kernel_rfl) (E.wo (E.pt r) (E.wo (E.pt r) ?_))))))))))))
  refine E.wo (.pointer (some ⟨r, 24, none⟩)) (E.wv (E.pt m) (fun w h => E.run_load h 0 rfl rfl (by kernel_rfl)) (E.wo (E.u ((a : Nat) : Int)) (E.W.call (.int .u8 (V.peek (((a : Nat) : Int)).toNat)) (fun w h => A.cq [2] [0, 1] (J_Peek ((a : Nat) : Int) (Q.sm_bd hw hk2) (m := m) (V := V)) h) (fun w _ => by kernel_rfl) (by kernel_rfl) (E.wv (.bool false) (fun w h => E.run_as (a := .bool ((V.peek (((a : Nat) : Int)).toNat) != (V.peek (((a : Nat) : Int)).toNat))) (by kernel_rfl) (congrArg Value.bool (bne_self_eq_false _))) (E.wo (.bool false) (E.wo (E.pt c) (E.wo (E.pt c) (E.wo (E.pt c) (E.wo (E.u ((a : Nat) : Int)) (E.W.call (.int .u8 (V.code (((a : Nat) : Int)).toNat)) (fun w h => A.cq [1] [0, 2] (I_Code ((a : Nat) : Int) (Q.sm_bd hw hk2) (m := c) (V := V) (xs := (Q.S.cells s))) h) (fun w _ => by kernel_rfl) (by kernel_rfl) (E.wo (E.pt r) ?_)))))))))))
  refine E.wo (E.pt r) (E.wo (.pointer (some ⟨r, 24, none⟩)) (E.wv (E.pt m) (fun w h => E.run_load h 0 rfl rfl (by kernel_rfl)) (E.wo (E.u ((a : Nat) : Int)) (E.W.call (.int .u8 (V.code (((a : Nat) : Int)).toNat)) (fun w h => A.cq [2] [0, 1] (J_Code ((a : Nat) : Int) (Q.sm_bd hw hk2) (m := m) (V := V)) h) (fun w _ => by kernel_rfl) (by kernel_rfl) (E.wv (.bool false) (fun w h => E.run_as (a := .bool ((V.code (((a : Nat) : Int)).toNat) != (V.code (((a : Nat) : Int)).toNat))) (by kernel_rfl) (congrArg Value.bool (bne_self_eq_false _))) (E.wo (.bool false) (E.W.done (E.To.code (E.C.condF (by kernel_rfl) (by kernel_rfl) (E.C.skip (E.P.nb (E.To.code (E.C.region (E.op (E.u ((a : Nat) : Int)) ?_))))))))))))))
  exact E.vl (E.u ((a + 1 : Nat) : Int)) (fun w h => E.run_as (a := E.u (IntKind.wrap .u32 (((a : Nat) : Int) + 1))) (by kernel_rfl) (congrArg (Value.int .u32) (Q.sm57 hw hk2))) (E.op (E.u ((a + 1 : Nat) : Int)) (E.To.round (a + 1) Nz.pom (Nz.pom) ⟨by kernel_rfl, by kernel_rfl⟩ Nz.sub (fun _ h => h)))
 exact E.C.exit (E.P.et (E.P.et (E.P.eh (E.To.code (E.wk [(4, .bool false)] [(r, (Q.S.cells s ++ [E.pt m]))] Nz.sub (E.sr (E.op (.bool true) (E.To.code (E.C.ret (E.bd Tryz.f26 [.bool true] (fun w h => ⟨(), trivial, rfl, A.dq [0, 1, 2] [] h⟩)))))))))))
theorem A.hp_openR {w0 w : World} {o0 a0 : Nat → Prop} {its rest : List A.It} {L : List (Nat × List Value)} {r : Nat} {V : M.V} (hne : A.ne L = true) (h1 : its.Perm (R.It r V :: rest)) (h : E.Hp o0 w0 (A.X w0 o0 a0 its) L w) : ∃ s, R.Wf V ∧ E.Hp o0 w0 (A.X w0 o0 a0 (R.its r s V ++ rest)) L w := by
  obtain ⟨o, a, hh, hg⟩ := A.hp_has hne h
  have hp : (A.bl L ++ its).Perm ([R.It r V] ++ (A.bl L ++ rest)) := (List.Perm.append_left _ h1).trans List.perm_middle
  obtain ⟨p1, q1, p2, q2, k1, k2, d1, d2, go, ga⟩ := A.Has.append (l := [R.It r V]) (hh.perm hp)
  obtain ⟨p3, q3, ⟨hw, s, hs⟩, e3, e4⟩ := A.Has.one' k1
  have hh' := (hs.join k2 (fun x hx hk => d1 x ((e3 x).1 hx) hk) (fun x hx hk => d2 x hx ((e4 x).1 hk))).iff (o' := o) (a' := a) (fun x => (go x).trans (or_congr (e3 x).symm Iff.rfl)) (fun x => (ga x).trans (or_congr (e4 x).symm Iff.rfl))
  have hq : (R.its r s V ++ (A.bl L ++ rest)).Perm (A.bl L ++ (R.its r s V ++ rest)) := by
    rw [← List.append_assoc, ← List.append_assoc]; exact List.Perm.append_right _ List.perm_append_comm
  exact ⟨s, hw, A.has_hp h.x.1 (hh'.perm hq) hg h.ch⟩
theorem A.C.openR {P : Program} {n : Nat} {Q : Exit → Act → World → Prop} {w0 : World} {o0 a0 : Nat → Prop} {its : List A.It} {L : List (Nat × List Value)} {fr : E.Fr} {c : Code} {r : Nat} {V : M.V} (rest : List A.It) (hne : A.ne L = true) (h1 : its.Perm (R.It r V :: rest)) (its2 : R.Sl → List A.It) (h2 : ∀ s, (R.its r s V ++ rest).Perm (its2 s))
    (k : ∀ s, R.Wf V → E.C P n Q c fr o0 w0 (A.X w0 o0 a0 (its2 s)) L) : E.C P n Q c fr o0 w0 (A.X w0 o0 a0 its) L := fun a w hs h => by
  obtain ⟨s, hw, hb⟩ := A.hp_openR hne h1 h
  exact k s hw a w hs (hb.monoX fun w ⟨u, o, a, hh, hg⟩ => ⟨u, o, a, hh.perm (h2 s), hg⟩)
theorem A.C.closeR {P : Program} {n : Nat} {Q : Exit → Act → World → Prop} {w0 : World} {o0 a0 : Nat → Prop} {its its2 : List A.It} {L : List (Nat × List Value)} {fr : E.Fr} {c : Code} {r : Nat} {V : M.V} {s : R.Sl} (rest : List A.It) (hw : R.Wf V) (h1 : its.Perm (R.its r s V ++ rest)) (h2 : (R.It r V :: rest).Perm its2)
    (k : E.C P n Q c fr o0 w0 (A.X w0 o0 a0 its2) L) : E.C P n Q c fr o0 w0 (A.X w0 o0 a0 its) L := fun a w hs h => k a w hs (h.monoX fun w ⟨u, o, a, hh, hg⟩ => by
    obtain ⟨p1, q1, p2, q2, k1, k2, d1, d2, go, ga⟩ := A.Has.append (l := R.its r s V) (hh.perm h1)
    exact ⟨u, o, a, A.Has.perm h2 (((A.Has.one (it := R.It r V) ⟨hw, s, k1⟩).join k2 d1 d2).iff go ga), hg⟩)
theorem Q.lda {V : M.V} {p : Nat} (hw : R.Wf V) (h : p < V.n) : IntKind.wrap .i64 (256 * ((p : Nat) : Int)) = ((256 * p : Nat) : Int) := by have := hw.n; rw [IntWalk.i64_in _ (by omega)]; omega
theorem Q.ldb {V : M.V} {p : Nat} (hw : R.Wf V) (h : p < V.n) : IntKind.wrap .u32 ((256 * p : Nat) : Int) = ((256 * p : Nat) : Int) := by have := hw.n; rw [Q.wr]; omega
theorem Q.ldc {V : M.V} {p : Nat} (hw : R.Wf V) (h : p < V.n) : IntKind.wrap .i64 (((256 * p : Nat) : Int) + 256) = ((256 * p + 256 : Nat) : Int) := by have := hw.n; rw [IntWalk.i64_in _ (by omega)]; omega
theorem Q.ldd {V : M.V} {p : Nat} (hw : R.Wf V) (h : p < V.n) : 0 ≤ ((256 * p : Nat) : Int) ∧ ((256 * p : Nat) : Int) < 4294967296 := by have := hw.n; omega
theorem Q.page_sz {V : M.V} {p : Nat} (hw : R.Wf V) (h : p < V.n) : (V.page ((p : Nat) : Int)).size < 4294967296 := by
  rw [(Q.page_is hw h).1]; decide
theorem CLaid {r m : Nat} {s : Q.S} {V : M.V} (hw : R.Wf V) (ht : Q.tight V) (hs : Q.wf s) (hn : Q.norm s = s) : A.Tr Tryz.prog 23 #[.pointer (some ⟨r, 0, none⟩)] [A.blk r (Q.S.cells s ++ [.pointer (some ⟨m, 0, none⟩)]), R.It m V] (I := Nat) (fun _ => True) (fun c => .pointer (some ⟨c, 0, none⟩)) (fun c => [A.blk r (Q.S.cells s ++ [.pointer (some ⟨m, 0, none⟩)]), M.It c V (Q.S.cells s), R.It m V]) := by
 intro w oo aa hh
 have hlen : R.len V = V.n := by unfold R.len; rw [ht.coh]; rfl
 refine E.enter (n := 72) (S := oo) Tryz.func23 rfl rfl (by kernel_rfl) (A.start (L := [(r, (Q.S.cells s ++ [E.pt m]))]) hh) (E.sr (E.op (.pointer none) (E.tr (E.op (E.pt r) (E.op (E.pt r) (E.op (.pointer (some ⟨r, 24, none⟩)) (E.li (E.pt m) 0 rfl rfl (E.G.call (E.i ((V.n : Nat) : Int)) (fun w h => A.cq [1] [0] (B_Pages (r := m) (V := V)) h) (fun w _ => by kernel_rfl) (by kernel_rfl) (A.G.call (I := Nat) (D := fun m1 => True) (V := fun m1 => E.pt m1) (q := fun m1 => [M.It m1 (M.V.new (M.np ((V.n : Nat) : Int)) false) (Q.S.cells Q.z0)]) [A.blk r (Q.S.cells s ++ [E.pt m]), R.It m V] (fun m1 => [(r, (Q.S.cells s ++ [E.pt m]))]) (fun m1 => [M.It m1 (M.V.new (M.np ((V.n : Nat) : Int)) false) (Q.S.cells Q.z0), R.It m V]) (CNew ((V.n : Nat) : Int)) (by kernel_rfl) (A.pn [0, 1]) (fun m1 => A.pm [1, 0, 2] (by kernel_rfl) (by kernel_rfl)) (fun w _ => by kernel_rfl) (by kernel_rfl) (fun m1 hd2 => E.op (E.pt m1) (E.To.code ?_)))))))))))
 refine E.C.seq (E.sr (E.op (E.pt m1) (E.op (.bool false) (E.To.code (E.C.condF (by kernel_rfl) (by kernel_rfl) (E.C.skip (E.To.code (E.wk [(0, E.pt r), (2, .pointer none), (3, E.pt m1)] [(r, (Q.S.cells s ++ [E.pt m]))] Nz.sub (E.C.seq (E.sr (E.op (E.i 0) (E.To.code ?_))))))))))))
 refine E.C.block (E.C.loop (I := Nat) (fun p => V.n - p) (fun p => p ≤ V.n) (fun p => [(0, E.pt r), (2, .pointer none), (3, E.pt m1), (4, E.i ((p : Nat) : Int))]) (fun p => A.X w oo aa [M.It m1 (Q.ldW V p) (Q.S.cells Q.z0), R.It m V]) (fun p => [(r, (Q.S.cells s ++ [E.pt m]))]) 0 ((Nat.zero_le _)) ⟨by kernel_rfl, by kernel_rfl⟩ Nz.sub (fun _ h => h) (fun p hk1 => E.C.seq (E.sr (E.op (E.i ((p : Nat) : Int)) (E.op (E.pt r) (E.op (E.pt r) (E.op (.pointer (some ⟨r, 24, none⟩)) (E.li (E.pt m) 0 rfl rfl (E.G.call (E.i ((V.n : Nat) : Int)) (fun w h => A.cq [2] [0, 1] (B_Pages (r := m) (V := V)) h) (fun w _ => by kernel_rfl) (by kernel_rfl) (E.op (.bool (decide (((p : Nat) : Int) < ((V.n : Nat) : Int)))) (E.To.code ?_)))))))))))
 refine E.cd (decide (((p : Nat) : Int) < ((V.n : Nat) : Int))) (fun hc3 => ?_) (fun hc3 => ?_)
 ·
  refine E.C.skip (E.To.code (E.C.seq (E.C.block (E.C.seq ?_))))
  have hpn : p < V.n := by have := of_decide_eq_true hc3; omega
  refine E.C.held (A.Y [A.blk r (Q.S.cells s ++ [E.pt m])]) (by kernel_rfl) (E.tk 0 (E.pt m1) rfl (fun w h => A.hq [0] [1, 2] h) (E.tk 1 (E.pt m1) rfl (fun w h => A.hq [0] [1, 2] h) (E.tk 2 (E.pt m1) rfl (fun w h => A.hq [0] [1, 2] h) (E.tk 3 (E.i ((p : Nat) : Int)) rfl (fun w h => A.hq [0] [1, 2] h) (E.tj 4 (E.i ((256 * p : Nat) : Int)) rfl (fun w h => A.hq [0] [1, 2] h) (fun w h => E.run_as (a := E.i (IntKind.wrap .i64 (256 * ((p : Nat) : Int)))) (by kernel_rfl) (congrArg (Value.int .i64) (Q.lda hw hpn))) (E.tj 5 (E.u ((256 * p : Nat) : Int)) rfl (fun w h => A.hq [0] [1, 2] h) (fun w h => E.run_as (a := E.u (IntKind.wrap .u32 ((256 * p : Nat) : Int))) (by kernel_rfl) (congrArg (Value.int .u32) (Q.ldb hw hpn))) (E.tk 6 (E.pt r) rfl (fun w h => A.hq [0] [1, 2] h) (E.tk 7 (E.pt r) rfl (fun w h => A.hq [0] [1, 2] h) (E.tk 8 (.pointer (some ⟨r, 24, none⟩)) rfl (fun w h => A.hq [0] [1, 2] h) (E.tj 9 (E.pt m) rfl (fun w h => A.hq [0] [1, 2] h) (fun w h => A.Y.bld h (k := 0) (j := 24) rfl (by kernel_rfl) (by kernel_rfl)) (E.tk 10 (E.i ((p : Nat) : Int)) rfl (fun w h => A.hq [0] [1, 2] h) ?_)))))))))))
  refine E.al 11 rfl (E.G.call (.string (V.page ((p : Nat) : Int))) (fun w h => A.cq [2] [0, 1] (B_Page ((p : Nat) : Int) (r := m) (V := V)) h) (fun w _ => by kernel_rfl) (by kernel_rfl) (E.H.back (fun w h => A.hq [0] [1, 2] h) (E.al 12 rfl (A.G.call (I := Unit) (D := fun _ => True) (V := fun _ => .tuple #[]) (q := fun _ => [M.It m1 ((Q.ldW V p).poke (((256 * p : Nat) : Int)).toNat (V.page ((p : Nat) : Int)) (V.page ((p : Nat) : Int)).size) (Q.S.cells Q.z0)]) [A.blk r (Q.S.cells s ++ [E.pt m]), R.It m V] (fun _ => [(r, (Q.S.cells s ++ [E.pt m]))]) (fun _ => [M.It m1 ((Q.ldW V p).poke (((256 * p : Nat) : Int)).toNat (V.page ((p : Nat) : Int)) (V.page ((p : Nat) : Int)).size) (Q.S.cells Q.z0), R.It m V]) (I_Poke ((256 * p : Nat) : Int) (V.page ((p : Nat) : Int)) (Q.ldd hw hpn) (Q.page_sz hw hpn) (m := m1) (V := (Q.ldW V p)) (xs := (Q.S.cells Q.z0))) (by kernel_rfl) (A.pn [1, 0, 2]) (fun _ => A.pm [1, 0, 2] (by kernel_rfl) (by kernel_rfl)) (fun w _ => by kernel_rfl) (by kernel_rfl) (fun _ hd4 => E.H.back (fun w h => A.hq [0] [1, 2] h) (E.H.done (by kernel_rfl) (E.To.code (E.C.seq (A.C.openR (r := m) (V := V) [M.It m1 ((Q.ldW V p).poke (((256 * p : Nat) : Int)).toNat (V.page ((p : Nat) : Int)) (V.page ((p : Nat) : Int)).size) (Q.S.cells Q.z0)] (by kernel_rfl) (A.pn [1, 0]) (fun sl5 => [A.blk m [.slice sl5.a0 (256 * V.n) sl5.c0, .slice sl5.a1 (256 * R.len V) sl5.c1, .slice sl5.a2 (256 * V.n) sl5.c2, .slice sl5.a3 (256 * R.len V) sl5.c3, .slice sl5.a4 V.n sl5.c4, .bool V.coh], A.vec .u8 sl5.a0 sl5.c0 (R.flat V.d V.n), A.vec .u8 sl5.a1 sl5.c1 (R.flat V.i (R.len V)), A.vec .u8 sl5.a2 sl5.c2 (R.flat V.cd V.n), A.vec .u8 sl5.a3 sl5.c3 (R.flat V.ci (R.len V)), A.vec .i64 sl5.a4 sl5.c4 (R.rts V.r V.n), M.It m1 ((Q.ldW V p).poke (((256 * p : Nat) : Int)).toNat (V.page ((p : Nat) : Int)) (V.page ((p : Nat) : Int)).size) (Q.S.cells Q.z0)]) (fun sl5 => A.pm [0, 1, 2, 3, 4, 5, 6] (by kernel_rfl) (by kernel_rfl)) (fun sl5 _ => E.C.held (A.Y [A.blk r (Q.S.cells s ++ [E.pt m]), A.blk m [.slice sl5.a0 (256 * V.n) sl5.c0, .slice sl5.a1 (256 * R.len V) sl5.c1, .slice sl5.a2 (256 * V.n) sl5.c2, .slice sl5.a3 (256 * R.len V) sl5.c3, .slice sl5.a4 V.n sl5.c4, .bool V.coh], A.vec .u8 sl5.a1 sl5.c1 (R.flat V.i (R.len V))]) (by kernel_rfl) (E.tk 0 (E.pt m1) rfl (fun w h => A.hq [0, 1, 3] [2, 4, 5, 6, 7] h) ?_)))))))))))
  refine E.tk 1 (E.pt m1) rfl (fun w h => A.hq [0, 1, 3] [2, 4, 5, 6, 7] h) (E.tk 2 (E.pt m1) rfl (fun w h => A.hq [0, 1, 3] [2, 4, 5, 6, 7] h) (E.tk 3 (E.i ((p : Nat) : Int)) rfl (fun w h => A.hq [0, 1, 3] [2, 4, 5, 6, 7] h) (E.tk 4 (E.pt r) rfl (fun w h => A.hq [0, 1, 3] [2, 4, 5, 6, 7] h) (E.tk 5 (E.pt r) rfl (fun w h => A.hq [0, 1, 3] [2, 4, 5, 6, 7] h) (E.tk 6 (.pointer (some ⟨r, 24, none⟩)) rfl (fun w h => A.hq [0, 1, 3] [2, 4, 5, 6, 7] h) (E.tj 7 (E.pt m) rfl (fun w h => A.hq [0, 1, 3] [2, 4, 5, 6, 7] h) (fun w h => A.Y.bld h (k := 0) (j := 24) rfl (by kernel_rfl) (by kernel_rfl)) (E.tk 8 (E.pt m) rfl (fun w h => A.hq [0, 1, 3] [2, 4, 5, 6, 7] h) (E.tk 9 (.pointer (some ⟨m, 1, none⟩)) rfl (fun w h => A.hq [0, 1, 3] [2, 4, 5, 6, 7] h) (E.tj 10 (.slice sl5.a1 (256 * R.len V) sl5.c1) rfl (fun w h => A.hq [0, 1, 3] [2, 4, 5, 6, 7] h) (fun w h => A.Y.bld h (k := 1) (j := 1) rfl (by kernel_rfl) (by kernel_rfl)) (E.tk 11 (E.i ((p : Nat) : Int)) rfl (fun w h => A.hq [0, 1, 3] [2, 4, 5, 6, 7] h) (E.tj 12 (E.i ((256 * p : Nat) : Int)) rfl (fun w h => A.hq [0, 1, 3] [2, 4, 5, 6, 7] h) (fun w h => E.run_as (a := E.i (IntKind.wrap .i64 (256 * ((p : Nat) : Int)))) (by kernel_rfl) (congrArg (Value.int .i64) (Q.lda hw hpn))) ?_)))))))))))
  refine E.tk 13 (E.i ((p : Nat) : Int)) rfl (fun w h => A.hq [0, 1, 3] [2, 4, 5, 6, 7] h) (E.tj 14 (E.i ((256 * p : Nat) : Int)) rfl (fun w h => A.hq [0, 1, 3] [2, 4, 5, 6, 7] h) (fun w h => E.run_as (a := E.i (IntKind.wrap .i64 (256 * ((p : Nat) : Int)))) (by kernel_rfl) (congrArg (Value.int .i64) (Q.lda hw hpn))) (E.tj 15 (E.i ((256 * p + 256 : Nat) : Int)) rfl (fun w h => A.hq [0, 1, 3] [2, 4, 5, 6, 7] h) (fun w h => E.run_as (a := E.i (IntKind.wrap .i64 (((256 * p : Nat) : Int) + 256))) (by kernel_rfl) (congrArg (Value.int .i64) (Q.ldc hw hpn))) (E.tj 16 (.slice (some ⟨(A.bk sl5.a1), 256 * p, none⟩) 256 (sl5.c1 - 256 * p)) rfl (fun w h => A.hq [0, 1, 3] [2, 4, 5, 6, 7] h) (fun w h => A.Y.sl (e := 5) (ik := .i64) (jk := .i64) (len := 256 * R.len V) (lo := 256 * p) (hi := 256 * p + 256) h (k := 2) rfl (by kernel_rfl) (by kernel_rfl) (by kernel_rfl) (by kernel_rfl) (by kernel_rfl) (by omega) (by rw [R.flat_len]; omega) (by omega)) (E.tj 17 (.string (Q.img V p)) rfl (fun w h => A.hq [0, 1, 3] [2, 4, 5, 6, 7] h) (fun w h => A.Y.str (e := 5) (j := 256 * p) (len := 256) (c2 := sl5.c1 - 256 * p) h (k := 2) rfl (by kernel_rfl) (by kernel_rfl) (by kernel_rfl) (by kernel_rfl) (by rw [R.flat_len]; omega)) (E.al 18 rfl (A.G.call (I := Unit) (D := fun _ => True) (V := fun _ => .tuple #[]) (q := fun _ => [M.It m1 (((Q.ldW V p).poke (((256 * p : Nat) : Int)).toNat (V.page ((p : Nat) : Int)) (V.page ((p : Nat) : Int)).size).setc ((p : Nat) : Int) (Q.img V p)) (Q.S.cells Q.z0)]) [A.blk r (Q.S.cells s ++ [E.pt m]), A.blk m [.slice sl5.a0 (256 * V.n) sl5.c0, .slice sl5.a1 (256 * R.len V) sl5.c1, .slice sl5.a2 (256 * V.n) sl5.c2, .slice sl5.a3 (256 * R.len V) sl5.c3, .slice sl5.a4 V.n sl5.c4, .bool V.coh], A.vec .u8 sl5.a0 sl5.c0 (R.flat V.d V.n), A.vec .u8 sl5.a1 sl5.c1 (R.flat V.i (R.len V)), A.vec .u8 sl5.a2 sl5.c2 (R.flat V.cd V.n), A.vec .u8 sl5.a3 sl5.c3 (R.flat V.ci (R.len V)), A.vec .i64 sl5.a4 sl5.c4 (R.rts V.r V.n)] (fun _ => [(r, (Q.S.cells s ++ [E.pt m]))]) (fun _ => [A.blk m [.slice sl5.a0 (256 * V.n) sl5.c0, .slice sl5.a1 (256 * R.len V) sl5.c1, .slice sl5.a2 (256 * V.n) sl5.c2, .slice sl5.a3 (256 * R.len V) sl5.c3, .slice sl5.a4 V.n sl5.c4, .bool V.coh], A.vec .u8 sl5.a0 sl5.c0 (R.flat V.d V.n), A.vec .u8 sl5.a1 sl5.c1 (R.flat V.i (R.len V)), A.vec .u8 sl5.a2 sl5.c2 (R.flat V.cd V.n), A.vec .u8 sl5.a3 sl5.c3 (R.flat V.ci (R.len V)), A.vec .i64 sl5.a4 sl5.c4 (R.rts V.r V.n), M.It m1 (((Q.ldW V p).poke (((256 * p : Nat) : Int)).toNat (V.page ((p : Nat) : Int)) (V.page ((p : Nat) : Int)).size).setc ((p : Nat) : Int) (Q.img V p)) (Q.S.cells Q.z0)]) (A_SetCode ((p : Nat) : Int) (Q.img V p) (m := m1) (V := ((Q.ldW V p).poke (((256 * p : Nat) : Int)).toNat (V.page ((p : Nat) : Int)) (V.page ((p : Nat) : Int)).size)) (xs := (Q.S.cells Q.z0))) (by kernel_rfl) (A.pn [7, 0, 1, 2, 3, 4, 5, 6]) (fun _ => A.pm [1, 2, 3, 4, 5, 6, 7, 0] (by kernel_rfl) (by kernel_rfl)) (fun w _ => by kernel_rfl) (by kernel_rfl) (fun _ hd6 => E.H.back (fun w h => A.hq [0, 1, 3] [2, 4, 5, 6, 7] h) (E.H.done (by kernel_rfl) (E.To.code (A.C.closeR (r := m) (V := V) (s := sl5) (its2 := [R.It m V, M.It m1 (((Q.ldW V p).poke (((256 * p : Nat) : Int)).toNat (V.page ((p : Nat) : Int)) (V.page ((p : Nat) : Int)).size).setc ((p : Nat) : Int) (Q.img V p)) (Q.S.cells Q.z0)]) [M.It m1 (((Q.ldW V p).poke (((256 * p : Nat) : Int)).toNat (V.page ((p : Nat) : Int)) (V.page ((p : Nat) : Int)).size).setc ((p : Nat) : Int) (Q.img V p)) (Q.S.cells Q.z0)] hw (A.pn [0, 1, 2, 3, 4, 5, 6]) (A.pn [0, 1]) (E.C.held (A.Y [A.blk r (Q.S.cells s ++ [E.pt m])]) (by kernel_rfl) ?_)))))))))))
  refine E.tk 0 (E.pt m1) rfl (fun w h => A.hq [0] [1, 2] h) (E.tk 1 (E.pt m1) rfl (fun w h => A.hq [0] [1, 2] h) (E.tk 2 (E.pt m1) rfl (fun w h => A.hq [0] [1, 2] h) (E.tk 3 (E.i ((p : Nat) : Int)) rfl (fun w h => A.hq [0] [1, 2] h) (E.tk 4 (E.pt r) rfl (fun w h => A.hq [0] [1, 2] h) (E.tk 5 (E.pt r) rfl (fun w h => A.hq [0] [1, 2] h) (E.tk 6 (.pointer (some ⟨r, 24, none⟩)) rfl (fun w h => A.hq [0] [1, 2] h) (E.tj 7 (E.pt m) rfl (fun w h => A.hq [0] [1, 2] h) (fun w h => A.Y.bld h (k := 0) (j := 24) rfl (by kernel_rfl) (by kernel_rfl)) (E.tk 8 (E.i ((p : Nat) : Int)) rfl (fun w h => A.hq [0] [1, 2] h) (E.al 9 rfl (E.G.call (E.i (V.rt ((p : Nat) : Int))) (fun w h => A.cq [1] [0, 2] (B_RightsOf ((p : Nat) : Int) (r := m) (V := V)) h) (fun w _ => by kernel_rfl) (by kernel_rfl) (E.H.back (fun w h => A.hq [0] [1, 2] h) ?_)))))))))))
  exact E.al 10 rfl (A.G.call (I := Unit) (D := fun _ => True) (V := fun _ => .tuple #[]) (q := fun _ => [M.It m1 ((((Q.ldW V p).poke (((256 * p : Nat) : Int)).toNat (V.page ((p : Nat) : Int)) (V.page ((p : Nat) : Int)).size).setc ((p : Nat) : Int) (Q.img V p)).prot ((p : Nat) : Int) (V.rt ((p : Nat) : Int))) (Q.S.cells Q.z0)]) [A.blk r (Q.S.cells s ++ [E.pt m]), R.It m V] (fun _ => [(r, (Q.S.cells s ++ [E.pt m]))]) (fun _ => [R.It m V, M.It m1 ((((Q.ldW V p).poke (((256 * p : Nat) : Int)).toNat (V.page ((p : Nat) : Int)) (V.page ((p : Nat) : Int)).size).setc ((p : Nat) : Int) (Q.img V p)).prot ((p : Nat) : Int) (V.rt ((p : Nat) : Int))) (Q.S.cells Q.z0)]) (A_Protect ((p : Nat) : Int) (V.rt ((p : Nat) : Int)) (m := m1) (V := (((Q.ldW V p).poke (((256 * p : Nat) : Int)).toNat (V.page ((p : Nat) : Int)) (V.page ((p : Nat) : Int)).size).setc ((p : Nat) : Int) (Q.img V p))) (xs := (Q.S.cells Q.z0))) (by kernel_rfl) (A.pn [2, 0, 1]) (fun _ => A.pm [1, 2, 0] (by kernel_rfl) (by kernel_rfl)) (fun w _ => by kernel_rfl) (by kernel_rfl) (fun _ hd7 => E.H.back (fun w h => A.hq [0] [1, 2] h) (E.H.done (by kernel_rfl) (E.P.nb (E.To.code (A.C.drop [M.It m1 ((((Q.ldW V p).poke (((256 * p : Nat) : Int)).toNat (V.page ((p : Nat) : Int)) (V.page ((p : Nat) : Int)).size).setc ((p : Nat) : Int) (Q.img V p)).prot ((p : Nat) : Int) (V.rt ((p : Nat) : Int))) (Q.S.cells Q.z0), R.It m V] [] (A.pn [1, 0]) (E.C.region (E.op (E.i ((p : Nat) : Int)) (E.vl (E.i ((p + 1 : Nat) : Int)) (fun w h => E.run_as (a := E.i (IntKind.wrap .i64 (((p : Nat) : Int) + 1))) (by kernel_rfl) (congrArg (Value.int .i64) (Q.sm34 hw hk1))) (E.op (E.i ((p + 1 : Nat) : Int)) (E.To.round (p + 1) Nz.pom (Nz.pom) ⟨by kernel_rfl, by kernel_rfl⟩ Nz.sub (fun _ h => h))))))))))))
 refine E.C.exit (E.P.et (E.P.et (E.P.eh (E.To.code (E.wk [(0, E.pt r), (2, .pointer none), (3, E.pt m1)] [(r, (Q.S.cells s ++ [E.pt m]))] Nz.sub (E.C.seq ?_))))))
 have hpe : p = V.n := by have := of_decide_eq_false hc3; omega
 refine A.C.eq ([M.It m1 V (Q.S.cells Q.z0), R.It m V]) (by rw [hpe, Q.ldW_end hw ht] <;> rfl) (E.C.region (E.op (E.pt m1) (E.op (E.pt r) (E.op (E.pt r) (E.op (E.pt r) (E.li (Q.S.val s) 0 rfl rfl (A.G.call (I := Unit) (D := fun _ => True) (V := fun _ => .tuple #[]) (q := fun _ => [M.It m1 V (Q.S.cells (Q.norm s))]) [A.blk r (Q.S.cells s ++ [E.pt m]), R.It m V] (fun _ => [(r, (Q.S.cells s ++ [E.pt m]))]) (fun _ => [M.It m1 V (Q.S.cells (Q.norm s)), R.It m V]) (CSet (c := m1) (V := V) (s0 := Q.z0) s) (by kernel_rfl) (A.pn [1, 0, 2]) (fun _ => A.pm [1, 0, 2] (by kernel_rfl) (by kernel_rfl)) (fun w _ => by kernel_rfl) (by kernel_rfl) (fun _ hd8 => E.To.code (E.C.seq (A.C.eq ([M.It m1 V (Q.S.cells s), R.It m V]) (by rw [hn] <;> rfl) (E.C.region ?_)))))))))))
 exact E.op (E.pt m1) (E.op (E.pt m1) (E.To.code (E.wk [(2, E.pt m1)] [(r, (Q.S.cells s ++ [E.pt m]))] Nz.sub (E.C.ret (E.bd Tryz.f23 [E.pt m1] (fun w h => ⟨m1, trivial, rfl, A.dq [0, 1, 2] [] h⟩))))))
/-- What a step's trap may be, and that a trap leaves the memory. -/
structure Q.trp (V : M.V) (x : Q.S × Int × Int × M.V) : Prop where
  one : x.2.1 ≠ 1
  mem : (x.2.1 != 0) = true → x.2.2.2 = V
theorem Q.sync_no {V : M.V} {k : Nat} (h : (!(decide (k < V.n))) = true) : V.sync k = V := by
  unfold M.V.sync
  rw [if_neg (by simp at h; omega)]
theorem Q.shr8 {w : Int} (h : 0 ≤ w ∧ w < 4294967296) : 0 ≤ Int.fdiv w (2 ^ 8) ∧ Int.fdiv w (2 ^ 8) < 4294967296 := by
  rw [Int.fdiv_eq_ediv_of_nonneg _ (by decide)]
  show 0 ≤ w / 256 ∧ w / 256 < 4294967296
  omega
def Q6.fo (w : Int) : Int := 23 + w % 4
def Q6.fm (w : Int) : Int := W.sign (Int.fdiv w (2 ^ 8)) 8
def Q6.fn (w : Int) : Int := 4 - 3 * (w % 2)
theorem Q6.fm_bd {w : Int} (h : 0 ≤ w ∧ w < 4294967296) : 0 ≤ Q6.fm w ∧ Q6.fm w < 4294967296 := Q.sign_bd (Q.shr8 h) _
theorem Q6.f23 {w : Int} (h : 0 ≤ w ∧ w < 4294967296) : Int.tmod w 4 = w % 4 := Int.tmod_eq_emod_of_nonneg h.1
theorem Q6.f24 (w : Int) : IntKind.wrap .i64 (w % 4) = w % 4 := by have := Int.emod_nonneg w (by decide : (4 : Int) ≠ 0); have := Int.emod_lt_of_pos w (by decide : (0 : Int) < 4); exact IntWalk.i64_in _ (by omega)
theorem Q6.f25 (w : Int) : IntKind.wrap .i64 (23 + w % 4) = Q6.fo w := by have := Int.emod_nonneg w (by decide : (4 : Int) ≠ 0); have := Int.emod_lt_of_pos w (by decide : (0 : Int) < 4); exact IntWalk.i64_in _ (by omega)
theorem Q6.f100 {w : Int} (h : 0 ≤ w ∧ w < 4294967296) : Int.tmod w 2 = w % 2 := Int.tmod_eq_emod_of_nonneg h.1
theorem Q6.f101 (w : Int) : IntKind.wrap .i64 (w % 2) = w % 2 := by have := Int.emod_nonneg w (by decide : (2 : Int) ≠ 0); have := Int.emod_lt_of_pos w (by decide : (0 : Int) < 2); exact IntWalk.i64_in _ (by omega)
theorem Q6.f102 (w : Int) : IntKind.wrap .i64 (3 * (w % 2)) = 3 * (w % 2) := by have := Int.emod_nonneg w (by decide : (2 : Int) ≠ 0); have := Int.emod_lt_of_pos w (by decide : (0 : Int) < 2); exact IntWalk.i64_in _ (by omega)
theorem Q6.f103 (w : Int) : IntKind.wrap .i64 (4 - 3 * (w % 2)) = Q6.fn w := by have := Int.emod_nonneg w (by decide : (2 : Int) ≠ 0); have := Int.emod_lt_of_pos w (by decide : (0 : Int) < 2); exact IntWalk.i64_in _ (by omega)
def Q6.ft : ByteArray := ⟨#[97, 98, 99, 100, 101, 102, 103, 104, 105, 106, 107, 108]⟩
def Q6.f0 (w : Int) : M.V := ((M.V.new (M.np 4) false).setc 0 (W.put ((Q3.encode (⟨(Q6.fo w), 2, 1, 0, (Q6.fm w)⟩ : Q.I)).1) 4))
def Q6.g1 (w r0 : Int) : M.V := ((Q6.f0 w).prot 0 r0).poke (250 : Int).toNat Q6.ft Q6.ft.size
def Q6.g2 (w r0 r1 : Int) : M.V := ((Q6.g1 w r0).prot 1 r1).poke (506 : Int).toNat Q6.ft Q6.ft.size
def Q6.g3 (w r0 r1 r2 : Int) : M.V := ((Q6.g2 w r0 r1).prot 2 r2).poke (762 : Int).toNat Q6.ft Q6.ft.size
def Q6.g4 (w r0 r1 r2 r3 : Int) : M.V := ((Q6.g3 w r0 r1 r2).prot 3 r3).poke (1018 : Int).toNat Q6.ft Q6.ft.size
def Q6.fV (w r0 r1 r2 r3 : Int) : M.V := (Q6.g4 w r0 r1 r2 r3).prot 0 (bits .or .i64 r0 4)
theorem Q6.fV_tight (w r0 r1 r2 r3 : Int) : Q.tight (Q6.fV w r0 r1 r2 r3) := ((((((((((Q.tight.new _).setc _ _).prot _ _).poke _ _ _).prot _ _).poke _ _ _).prot _ _).poke _ _ _).prot _ _).poke _ _ _).prot _ _
theorem Q.brs_norm (a b : Int) : Q.norm (Q.brs a b) = Q.brs a b := by
  unfold Q.brs Q.norm
  have h : ∀ f : Nat → Int, Q.up (Q.up f 0 0) 0 0 = Q.up f 0 0 := fun f => Q.up_same rfl
  simp only [h]; rfl
/-- What is kept of image and size. -/
structure Q6.kp (A B : M.V) : Prop where
  n : B.n = A.n
  i : B.i = A.i
  coh : B.coh = A.coh
theorem Q6.kp.prot {A B : M.V} (h : Q6.kp A B) (p r : Int) : Q6.kp A (B.prot p r) := by
  unfold M.V.prot; split
  · exact ⟨h.n, h.i, h.coh⟩
  · exact h
theorem Q6.kp.poke {A B : M.V} (h : Q6.kp A B) (hc : A.coh = false) (a : Nat) (s : ByteArray) : ∀ c, Q6.kp A (B.poke a s c)
  | 0 => h
  | c + 1 => by
    have k := Q6.kp.poke h hc a s c
    rw [M.V.poke, M.V.set]
    split
    · refine ⟨k.n, ?_, k.coh⟩
      show (if (B.poke a s c).coh then _ else (B.poke a s c).i) = A.i
      rw [k.coh, hc]; exact k.i
    · exact k
theorem Q6.or4 {r : Int} (h : -9223372036854775808 ≤ r ∧ r < 9223372036854775808) : (bits .and .i64 (bits .and .i64 (bits .or .i64 r 4) 7) 4 == 0) = false := by
  have hX : ∀ x : BitVec 64, ((x ||| 4#64) &&& 7#64) &&& 4#64 = 4#64 := fun x => by
    apply BitVec.eq_of_getLsbD_eq
    intro i hi
    have h4 : ∀ j : Fin 64, (4#64).getLsbD j.val = decide (j.val = 2) := by decide
    have h7 : ∀ j : Fin 64, (7#64).getLsbD j.val = decide (j.val < 3) := by decide
    rw [BitVec.getLsbD_and, BitVec.getLsbD_and, BitVec.getLsbD_or, h4 ⟨i, hi⟩, h7 ⟨i, hi⟩]
    by_cases k : i = 2
    · simp [k]
    · simp [k]
  have back : ∀ y : BitVec 64, BitVec.ofInt 64 (IntKind.wrap .i64 ((y.toNat : Nat) : Int)) = y := fun y => by
    have e : IntKind.wrap .i64 ((y.toNat : Nat) : Int) = y.toInt := by
      rw [IntKind.wrap_i64, BitVec.toInt_eq_toNat_cond]
      have := y.isLt
      split <;> omega
    rw [e, BitVec.ofInt_toInt]
  have e : bits .and .i64 (bits .and .i64 (bits .or .i64 r 4) 7) 4 = IntKind.wrap .i64 (((((BitVec.ofInt 64 r ||| 4#64) &&& 7#64) &&& 4#64).toNat : Nat) : Int) := by
    show IntKind.wrap .i64 (((BitVec.ofInt 64 (IntKind.wrap .i64 (((BitVec.ofInt 64 (IntKind.wrap .i64 (((BitVec.ofInt 64 r ||| 4#64).toNat : Nat) : Int)) &&& 7#64).toNat : Nat) : Int)) &&& 4#64).toNat : Nat) : Int) = _
    rw [back, back]
  rw [e, hX]; rfl
theorem Q6.fV_holds {w r0 r1 r2 r3 : Int} (hr : -9223372036854775808 ≤ r0 ∧ r0 < 9223372036854775808) : Q.holds (Q6.fV w r0 r1 r2 r3) 0 (Q3.encode (⟨(Q6.fo w), 2, 1, 0, (Q6.fm w)⟩ : Q.I)).1 := by
  have hg : Q6.kp (Q6.f0 w) (Q6.g4 w r0 r1 r2 r3) := ((((((((⟨rfl, rfl, rfl⟩ : Q6.kp (Q6.f0 w) (Q6.f0 w)).prot _ _).poke rfl _ _ _).prot _ _).poke rfl _ _ _).prot _ _).poke rfl _ _ _).prot _ _).poke rfl _ _ _
  have hk : Q6.kp (Q6.f0 w) (Q6.fV w r0 r1 r2 r3) := hg.prot _ _
  have hn : (Q6.fV w r0 r1 r2 r3).n = 4 := hk.n
  have hr0 : (Q6.fV w r0 r1 r2 r3).r 0 = bits .and .i64 (bits .or .i64 r0 4) 7 := by
    have h4 : (Q6.g4 w r0 r1 r2 r3).n = 4 := hg.n
    unfold Q6.fV M.V.prot
    rw [if_pos ⟨Int.le_refl _, by rw [h4]; decide⟩]; rfl
  intro k hk4
  have ok : (Q6.fV w r0 r1 r2 r3).ok (0 + k) 4 = true := by
    unfold M.V.ok
    rw [show (0 + k) / 256 = 0 by omega, hn, hr0, Q6.or4 hr]; rfl
  unfold M.V.fetch
  rw [if_pos ok]
  unfold M.V.code
  rw [show (0 + k) / 256 = 0 by omega, show (0 + k) % 256 = k by omega, if_pos (by rw [hn]; decide), hk.i]
  show ((if 0 = (0 : Int).toNat ∧ k < Nat.min (W.put ((Q3.encode (⟨(Q6.fo w), 2, 1, 0, (Q6.fm w)⟩ : Q.I)).1) 4).size 256 then W.byt (W.put ((Q3.encode (⟨(Q6.fo w), 2, 1, 0, (Q6.fm w)⟩ : Q.I)).1) 4).data.toList k else (M.V.new (M.np 4) false).i 0 k), true) = _
  rw [Q.put_size, if_pos ⟨rfl, by show k < 4; omega⟩]
theorem Q6.fo_bd (w : Int) : Q6.fo w = 23 ∧ Q6.fn w = 4 ∨ Q6.fo w = 24 ∧ Q6.fn w = 1 ∨ Q6.fo w = 25 ∧ Q6.fn w = 4 ∨ Q6.fo w = 26 ∧ Q6.fn w = 1 := by
  unfold Q6.fo Q6.fn; omega
theorem Q6.fi_valid {w : Int} (h : 0 ≤ w ∧ w < 4294967296) : Q3.valid ⟨(Q6.fo w), 2, 1, 0, (Q6.fm w)⟩ = true := by
  have hs : W.sign (Q6.fm w) 18 = Q6.fm w := by
    have hb := Q.shr8 h
    unfold Q6.fm
    generalize Int.fdiv w (2 ^ 8) = z at *
    simp only [W.sign, Int.reduceSub, Int.reduceToNat, Int.reducePow, Int.reduceLT, Int.reduceLE, ↓reduceIte]
    split <;> split <;> omega
  have hi : Q3.iimm ⟨true, true, true, false, true, 18, 0⟩ (Q6.fm w) = true := by
    show (W.sign (Q6.fm w) 18 == Q6.fm w) = true
    rw [hs]; simp
  refine Q.co_valid (F := ⟨true, true, true, false, true, 18, 0⟩) ?_ rfl rfl rfl rfl hi
  show Q3.of (Q6.fo w) = _
  rcases Q6.fo_bd w with ⟨e, _⟩ | ⟨e, _⟩ | ⟨e, _⟩ | ⟨e, _⟩ <;> rw [e] <;> rfl
theorem M.put_r (V : M.V) (a : Nat) (v : Int) : ∀ c, (V.put a v c).n = V.n ∧ (V.put a v c).r = V.r
  | 0 => ⟨rfl, rfl⟩
  | c + 1 => by
    have h := M.put_r V a v c
    rw [M.V.put, M.V.set]
    split
    · exact h
    · exact h
theorem M.chk_same {V W : M.V} (h1 : W.n = V.n) (h2 : W.r = V.r) (a : Nat) (r n : Int) : W.chk a r n = V.chk a r n := by
  have ok : ∀ x, W.ok x r = V.ok x r := fun x => by unfold M.V.ok; rw [h1, h2]
  have hN : ∀ c i, W.chkN a r i c = V.chkN a r i c := by
    intro c
    induction c with
    | zero => intro i; rfl
    | succ c ih => intro i; rw [M.V.chkN, M.V.chkN, ok, ih]
  unfold M.V.chk; rw [hN]
/-- What the run of a load or of a store gives. -/
theorem Q6.fault {a w w1 r0 r1 r2 r3 : Int} (ha : 0 ≤ a ∧ a < 4294967296) (hw : 0 ≤ w ∧ w < 4294967296) (hr : -9223372036854775808 ≤ r0 ∧ r0 < 9223372036854775808) {R : Q.S × Int × Int × M.V} (e : Q.runs 1 (Q.brs a w1) (Q6.fV w r0 r1 r2 r3) = R) :
    (Q6.fo w < 25 → (((R.2.1 == 5) && (R.2.2.1 == (R.2.2.2.load (IntKind.wrap .u32 (a + Q6.fm w)).toNat (Q6.fn w)).2.1)) == (!(R.2.2.2.load (IntKind.wrap .u32 (a + Q6.fm w)).toNat (Q6.fn w)).2.2)) = true) ∧
    (25 ≤ Q6.fo w → (((R.2.1 == 5) && (R.2.2.1 == (R.2.2.2.chk (IntKind.wrap .u32 (a + Q6.fm w)).toNat 2 (Q6.fn w)).1)) == (!(R.2.2.2.chk (IntKind.wrap .u32 (a + Q6.fm w)).toNat 2 (Q6.fn w)).2)) = true) := by
  have f0 := Q.fetch_holds (p := 0) (by decide) (by decide) (Q3.enc_bd _) (Q6.fV_holds (w := w) (r1 := r1) (r2 := r2) (r3 := r3) hr) (Q3.valid_enc (Q6.fm_bd hw) (Q6.fi_valid hw)).2.2
  have f0 : Q.fetch (Q6.fV w r0 r1 r2 r3) 0 = (⟨(Q6.fo w), 2, 1, 0, (Q6.fm w)⟩, 0, 0) := f0
  generalize Q6.fV w r0 r1 r2 r3 = V at *
  have es : Q.step (Q.brs a w1) V = Q6.stepI ⟨(Q6.fo w), 2, 1, 0, (Q6.fm w)⟩ 0 0 (Q.brs a w1) V := by
    unfold Q.step
    have hp : (Q.brs a w1).pc = 0 := rfl
    rw [hp, f0]
    rcases Q6.fo_bd w with ⟨k, _⟩ | ⟨k, _⟩ | ⟨k, _⟩ | ⟨k, _⟩ <;> rw [k]
    · exact (Q6.st_ld (n := 4) (.inl ⟨rfl, rfl⟩)).symm
    · exact (Q6.st_ld (n := 1) (.inr ⟨rfl, rfl⟩)).symm
    · exact (Q6.st_st (n := 4) (.inl ⟨rfl, rfl⟩)).symm
    · exact (Q6.st_st (n := 1) (.inr ⟨rfl, rfl⟩)).symm
  generalize hS : Q.brs a w1 = S at *
  have hdu : S.du = 0 := by rw [← hS]; rfl
  have hra : Q.up S.r 0 0 1 = a := by rw [← hS]; rfl
  have bad : ∀ {t : Int} {W : M.V}, Q.step S V = (S, 5, t, W) → R = (S, 5, t, W) := fun {t W} h => by
    rw [← e]
    show Q.run 1 2 0 S V = _
    rw [Q.run, hdu, h]; rfl
  have good : ∀ {s1 : Q.S} {W : M.V}, Q.step S V = (s1, 0, 0, W) → s1.du = 0 → R = (s1, 1, 0, W) := fun {s1 W} h h1 => by
    rw [← e]; exact Q.run1b hdu h h1
  constructor
  · intro hlt
    have ld : ∃ s1 : Q.S, s1.du = 0 ∧ Q6.stepI ⟨(Q6.fo w), 2, 1, 0, (Q6.fm w)⟩ 0 0 S V = (bif (!((V.load (IntKind.wrap .u32 (a + Q6.fm w)).toNat (Q6.fn w)).2.2)) then (S, 5, (V.load (IntKind.wrap .u32 (a + Q6.fm w)).toNat (Q6.fn w)).2.1, V) else (s1, 0, 0, V)) := by
      rcases Q6.fo_bd w with ⟨k, k2⟩ | ⟨k, k2⟩ | ⟨k, _⟩ | ⟨k, _⟩
      · rw [k, k2, ← hra]; exact ⟨⟨IntKind.wrap .u32 (S.pc + 4), Q.up (Q.up (Q.up S.r 0 0) 2 (V.load (IntKind.wrap .u32 (Q.up S.r 0 0 1 + Q6.fm w)).toNat 4).1) 0 0, S.f, S.c, IntKind.wrap .i64 (S.st + 1), S.du⟩, hdu, rfl⟩
      · rw [k, k2, ← hra]; exact ⟨⟨IntKind.wrap .u32 (S.pc + 4), Q.up (Q.up (Q.up S.r 0 0) 2 (V.load (IntKind.wrap .u32 (Q.up S.r 0 0 1 + Q6.fm w)).toNat 1).1) 0 0, S.f, S.c, IntKind.wrap .i64 (S.st + 1), S.du⟩, hdu, rfl⟩
      · omega
      · omega
    obtain ⟨s1, h1, h2⟩ := ld
    rw [h2] at es
    cases hx : (V.load (IntKind.wrap .u32 (a + Q6.fm w)).toNat (Q6.fn w)).2.2 with
    | true => rw [hx] at es; rw [good es h1, hx]; rfl
    | false => rw [hx] at es; rw [bad es, hx]; simp
  · intro hge
    have st : ∃ s1 : Q.S, s1.du = 0 ∧ Q6.stepI ⟨(Q6.fo w), 2, 1, 0, (Q6.fm w)⟩ 0 0 S V = (bif (!((V.chk (IntKind.wrap .u32 (a + Q6.fm w)).toNat 2 (Q6.fn w)).2)) then (S, 5, (V.chk (IntKind.wrap .u32 (a + Q6.fm w)).toNat 2 (Q6.fn w)).1, (V.sto (IntKind.wrap .u32 (a + Q6.fm w)).toNat (Q6.fn w) (Q.up S.r 0 0 2))) else (s1, 0, 0, (V.sto (IntKind.wrap .u32 (a + Q6.fm w)).toNat (Q6.fn w) (Q.up S.r 0 0 2)))) := by
      rcases Q6.fo_bd w with ⟨k, _⟩ | ⟨k, _⟩ | ⟨k, k2⟩ | ⟨k, k2⟩
      · omega
      · omega
      · rw [k, k2, ← hra]; exact ⟨⟨IntKind.wrap .u32 (S.pc + 4), Q.up (Q.up S.r 0 0) 0 0, S.f, S.c, IntKind.wrap .i64 (S.st + 1), S.du⟩, hdu, rfl⟩
      · rw [k, k2, ← hra]; exact ⟨⟨IntKind.wrap .u32 (S.pc + 4), Q.up (Q.up S.r 0 0) 0 0, S.f, S.c, IntKind.wrap .i64 (S.st + 1), S.du⟩, hdu, rfl⟩
    obtain ⟨s1, h1, h2⟩ := st
    rw [h2] at es
    have hc : ∀ W : M.V, W = V.sto (IntKind.wrap .u32 (a + Q6.fm w)).toNat (Q6.fn w) (Q.up S.r 0 0 2) → W.chk (IntKind.wrap .u32 (a + Q6.fm w)).toNat 2 (Q6.fn w) = V.chk (IntKind.wrap .u32 (a + Q6.fm w)).toNat 2 (Q6.fn w) := fun W hW => by
      subst hW
      unfold M.V.sto
      split
      · exact M.chk_same (M.put_r _ _ _ _).1 (M.put_r _ _ _ _).2 _ _ _
      · rfl
    cases hx : (V.chk (IntKind.wrap .u32 (a + Q6.fm w)).toNat 2 (Q6.fn w)).2 with
    | true => rw [hx] at es; rw [good es h1, hc _ rfl, hx]; rfl
    | false => rw [hx] at es; rw [bad es, hc _ rfl, hx]; simp
theorem R.copy_it {P : Program} {f : FuncId} {args : Array Value} {p : List A.It} {r : Nat} {V : M.V} (hp : ∀ s, R.Wf V → A.Tr P f args (R.its r s V) (I := Nat × R.Sl) (fun _ => True) (fun i => .pointer (some ⟨i.1, 0, none⟩)) (fun i => R.its i.1 i.2 V ++ R.its r s V)) : A.Tr P f args [R.It r V] (I := Nat) (fun _ => True) (fun g => .pointer (some ⟨g, 0, none⟩)) (fun g => [R.It r V, R.It g V]) := by
  intro w o a hh
  obtain ⟨o1, a1, ⟨hw, s, hs⟩, e3, e4⟩ := A.Has.one' hh
  have hs' := hs.iff (o' := o) (a' := a) (fun x => (e3 x).symm) (fun x => (e4 x).symm)
  refine (hp s hw w o a hs').mono fun e w' ⟨i, hD, he, o', a', hq, hc, hg⟩ => ?_
  obtain ⟨p1, q1, p2, q2, k1, k2, d1, d2, go, ga⟩ := hq.append
  refine ⟨i.1, trivial, he, o', a', ?_, hc, hg⟩
  have j1 : A.Has [R.It i.1 V] w' p1 q1 := A.Has.one ⟨hw, i.2, k1⟩
  have j2 : A.Has [R.It r V] w' p2 q2 := A.Has.one ⟨hw, s, k2⟩
  exact ((j2.join j1 d2 d1).iff (o' := o') (a' := a') (fun x => (go x).trans or_comm) (fun x => (ga x).trans or_comm))
set_option maxHeartbeats 8000000 in
theorem R_Copy_s {r : Nat} {s : R.Sl} {V : M.V} (hw : R.Wf V) : A.Tr Tryz.prog 37 #[.pointer (some ⟨r, 0, none⟩)] (R.its r s V) (I := Nat × R.Sl) (fun _ => True) (fun i => .pointer (some ⟨i.1, 0, none⟩)) (fun i => R.its i.1 i.2 V ++ R.its r s V) := by
 intro w oo aa hh
 refine E.enter (n := 39) (S := oo) Tryz.func37 rfl rfl (by kernel_rfl) (A.start (L := [(r, R.cells s V)]) hh) (E.sr (E.op (.pointer none) (E.To.code (E.C.seq (E.C.held (A.Y [A.blk r (R.cells s V)]) (by kernel_rfl) (E.H.gen (fun H up dn => ?_)))))))
 have nd11 : ∀ (ι μ ξ ρ α : Option Addr) (κ ν ο σ β τ : Nat), H 1 (E.bits 37 68719476735) [(2, .pointer none), (38, E.pt τ)] (A.X w oo aa ([A.vec .i64 ρ σ (R.rts V.r V.n), A.vec .u8 ξ ο (R.flat V.ci (R.len V)), A.vec .u8 μ ν (R.flat V.cd V.n), A.vec .u8 ι κ (R.flat V.i (R.len V)), A.vec .u8 α β (R.flat V.d V.n)] ++ R.vs s V)) [(τ, [.slice α (256 * V.n) β, .slice ι (256 * R.len V) κ, .slice μ (256 * V.n) ν, .slice ξ (256 * R.len V) ο, .slice ρ V.n σ, .bool V.coh]), (r, R.cells s V)] := by
  intro ι μ ξ ρ α κ ν ο σ β τ
  refine up _ _ _ _ _ (E.tk 36 (E.pt τ) rfl (fun w h => A.hq [1] [0, 2, 3, 4, 5, 6, 7, 8, 9, 10, 11] h) (E.H.done (by kernel_rfl) (E.To.code (E.C.ret (E.bd Tryz.f37 [E.pt τ] ?_)))))
  intro w h
  have hq := A.done (q := [A.blk τ ([.slice α (256 * V.n) β, .slice ι (256 * R.len V) κ, .slice μ (256 * V.n) ν, .slice ξ (256 * R.len V) ο, .slice ρ V.n σ, .bool V.coh]), A.vec .u8 α β (R.flat V.d V.n), A.vec .u8 ι κ (R.flat V.i (R.len V)), A.vec .u8 μ ν (R.flat V.cd V.n), A.vec .u8 ξ ο (R.flat V.ci (R.len V)), A.vec .i64 ρ σ (R.rts V.r V.n), A.blk r (R.cells s V), A.vec .u8 s.a0 s.c0 (R.flat V.d V.n), A.vec .u8 s.a1 s.c1 (R.flat V.i (R.len V)), A.vec .u8 s.a2 s.c2 (R.flat V.cd V.n), A.vec .u8 s.a3 s.c3 (R.flat V.ci (R.len V)), A.vec .i64 s.a4 s.c4 (R.rts V.r V.n)]) (r := []) h (by kernel_rfl) (A.pn [0, 6, 5, 4, 3, 2, 1, 7, 8, 9, 10, 11])
  exact ⟨(τ, ⟨α, ι, μ, ξ, ρ, β, κ, ν, ο, σ⟩), trivial, rfl, hq⟩
 have nd10 : ∀ (ι μ ξ ρ α : Option Addr) (κ ν ο σ β : Nat), H 2 (E.bits 37 34359738367) [(2, .pointer none), (37, .agg #[.slice α (256 * V.n) β, .slice ι (256 * R.len V) κ, .slice μ (256 * V.n) ν, .slice ξ (256 * R.len V) ο, .slice ρ V.n σ, .bool V.coh])] (A.X w oo aa ([A.vec .i64 ρ σ (R.rts V.r V.n), A.vec .u8 ξ ο (R.flat V.ci (R.len V)), A.vec .u8 μ ν (R.flat V.cd V.n), A.vec .u8 ι κ (R.flat V.i (R.len V)), A.vec .u8 α β (R.flat V.d V.n)] ++ R.vs s V)) [(r, R.cells s V)] := by
  intro ι μ ξ ρ α κ ν ο σ β
  exact up _ _ _ _ _ (E.al 35 rfl (E.G.new (fun g => E.pt g) [.slice α (256 * V.n) β, .slice ι (256 * R.len V) κ, .slice μ (256 * V.n) ν, .slice ξ (256 * R.len V) ο, .slice ρ V.n σ, .bool V.coh] 45 (fun w => by kernel_rfl) (by kernel_rfl) (fun τ => E.H.back (fun w h => A.hq [1] [0, 2, 3, 4, 5, 6, 7, 8, 9, 10, 11] h) (E.ho (dn _ _ _ _ _ (nd11 ι μ ξ ρ α κ ν ο σ β τ))))))
 have nd9 : ∀ (ι μ ξ ρ α : Option Addr) (κ ν ο σ β : Nat), H 3 (E.bits 37 17179869183) [(2, .pointer none), (8, .slice α (256 * V.n) β), (14, .slice ι (256 * R.len V) κ), (20, .slice μ (256 * V.n) ν), (26, .slice ξ (256 * R.len V) ο), (32, .slice ρ V.n σ), (36, .bool V.coh)] (A.X w oo aa ([A.vec .i64 ρ σ (R.rts V.r V.n), A.vec .u8 ξ ο (R.flat V.ci (R.len V)), A.vec .u8 μ ν (R.flat V.cd V.n), A.vec .u8 ι κ (R.flat V.i (R.len V)), A.vec .u8 α β (R.flat V.d V.n)] ++ R.vs s V)) [(r, R.cells s V)] := by
  intro ι μ ξ ρ α κ ν ο σ β
  exact up _ _ _ _ _ (E.al 34 rfl (E.vl (.agg #[.slice α (256 * V.n) β, .slice ι (256 * R.len V) κ, .slice μ (256 * V.n) ν, .slice ξ (256 * R.len V) ο, .slice ρ V.n σ, .bool V.coh]) (fun w h => E.run_build #[.slice α (256 * V.n) β, .slice ι (256 * R.len V) κ, .slice μ (256 * V.n) ν, .slice ξ (256 * R.len V) ο, .slice ρ V.n σ, .bool V.coh] (by kernel_rfl) w) (E.hb (dn _ _ _ _ _ (nd10 ι μ ξ ρ α κ ν ο σ β)))))
 have nd8 : ∀ (ι μ ξ α : Option Addr) (κ ν ο β δ : Nat), H 4 (E.bits 37 16642998271) [(2, .pointer none), (8, .slice α (256 * V.n) β), (14, .slice ι (256 * R.len V) κ), (20, .slice μ (256 * V.n) ν), (26, .slice ξ (256 * R.len V) ο), (27, .slice (some ⟨δ, 0, none⟩) 0 0), (31, .slice s.a4 V.n s.c4), (36, .bool V.coh)] (A.X w oo aa ([A.vec .u8 ξ ο (R.flat V.ci (R.len V)), A.vec .u8 μ ν (R.flat V.cd V.n), A.vec .u8 ι κ (R.flat V.i (R.len V)), A.vec .u8 α β (R.flat V.d V.n)] ++ R.vs s V)) [(r, R.cells s V)] := by
  intro ι μ ξ α κ ν ο β δ
  exact up _ _ _ _ _ (E.al 29 rfl (A.G.dup (e := 3) (a0' := ⟨δ, 0, none⟩) (c2 := s.c4) 8 8 (R.rts V.r V.n) rfl (by kernel_rfl) (by kernel_rfl) (by rw [R.rts_len] <;> rfl) (by kernel_rfl) (by kernel_rfl) (by rw [R.rts_len]; have := hw.n; have := R.len_le V; omega) (by rw [R.rts_len]; have := hw.n; have := R.len_le V; omega) (by kernel_rfl) (fun ρ σ => E.hb (dn _ _ _ _ _ (nd9 ι μ ξ ρ α κ ν ο σ β)))))
 have nd7 : ∀ (ι μ ξ α : Option Addr) (κ ν ο β : Nat), H 5 (E.bits 37 16626221055) [(2, .pointer none), (8, .slice α (256 * V.n) β), (14, .slice ι (256 * R.len V) κ), (20, .slice μ (256 * V.n) ν), (26, .slice ξ (256 * R.len V) ο), (31, .slice s.a4 V.n s.c4), (36, .bool V.coh)] (A.X w oo aa ([A.vec .u8 ξ ο (R.flat V.ci (R.len V)), A.vec .u8 μ ν (R.flat V.cd V.n), A.vec .u8 ι κ (R.flat V.i (R.len V)), A.vec .u8 α β (R.flat V.d V.n)] ++ R.vs s V)) [(r, R.cells s V)] := by
  intro ι μ ξ α κ ν ο β
  exact up _ _ _ _ _ (E.al 24 rfl (A.G.empty (e := 3) (sz := 1) (by kernel_rfl) (by kernel_rfl) (by kernel_rfl) (fun δ => E.hb (dn _ _ _ _ _ (nd8 ι μ ξ α κ ν ο β δ)))))
 have nd12 : ∀ (ι μ α : Option Addr) (κ ν β ε δ : Nat), H 5 (E.bits 37 16634609663) [(2, .pointer none), (8, .slice α (256 * V.n) β), (14, .slice ι (256 * R.len V) κ), (20, .slice μ (256 * V.n) ν), (21, .slice (some ⟨ε, 0, none⟩) 0 0), (25, .slice s.a3 (256 * R.len V) s.c3), (27, .slice (some ⟨δ, 0, none⟩) 0 0), (31, .slice s.a4 V.n s.c4), (36, .bool V.coh)] (A.X w oo aa ([A.vec .u8 μ ν (R.flat V.cd V.n), A.vec .u8 ι κ (R.flat V.i (R.len V)), A.vec .u8 α β (R.flat V.d V.n)] ++ R.vs s V)) [(r, R.cells s V)] := by
  intro ι μ α κ ν β ε δ
  exact up _ _ _ _ _ (E.al 23 rfl (A.G.dup (e := 5) (a0' := ⟨ε, 0, none⟩) (c2 := s.c3) 6 1 (R.flat V.ci (R.len V)) rfl (by kernel_rfl) (by kernel_rfl) (R.flat_len _ _).symm (by kernel_rfl) (by kernel_rfl) (by rw [R.flat_len]; have := hw.n; have := R.len_le V; omega) (by rw [R.flat_len]; have := hw.n; have := R.len_le V; omega) (by kernel_rfl) (fun ξ ο => E.hb (dn _ _ _ _ _ (nd8 ι μ ξ α κ ν ο β δ)))))
 have nd6 : ∀ (ι μ α : Option Addr) (κ ν β ε : Nat), H 6 (E.bits 37 16617832447) [(2, .pointer none), (8, .slice α (256 * V.n) β), (14, .slice ι (256 * R.len V) κ), (20, .slice μ (256 * V.n) ν), (21, .slice (some ⟨ε, 0, none⟩) 0 0), (25, .slice s.a3 (256 * R.len V) s.c3), (31, .slice s.a4 V.n s.c4), (36, .bool V.coh)] (A.X w oo aa ([A.vec .u8 μ ν (R.flat V.cd V.n), A.vec .u8 ι κ (R.flat V.i (R.len V)), A.vec .u8 α β (R.flat V.d V.n)] ++ R.vs s V)) [(r, R.cells s V)] := by
  intro ι μ α κ ν β ε
  refine up _ _ _ _ _ (E.al2 23 24 rfl rfl ?_ ?_)
  ·
   exact A.G.dup (e := 5) (a0' := ⟨ε, 0, none⟩) (c2 := s.c3) 6 1 (R.flat V.ci (R.len V)) rfl (by kernel_rfl) (by kernel_rfl) (R.flat_len _ _).symm (by kernel_rfl) (by kernel_rfl) (by rw [R.flat_len]; have := hw.n; have := R.len_le V; omega) (by rw [R.flat_len]; have := hw.n; have := R.len_le V; omega) (by kernel_rfl) (fun ξ ο => E.hb (dn _ _ _ _ _ (nd7 ι μ ξ α κ ν ο β)))
  exact A.G.empty (e := 3) (sz := 1) (by kernel_rfl) (by kernel_rfl) (by kernel_rfl) (fun δ => E.hb (dn _ _ _ _ _ (nd12 ι μ α κ ν β ε δ)))
 have nd13 : ∀ (ι μ α : Option Addr) (κ ν β δ : Nat), H 6 (E.bits 37 16634347519) [(2, .pointer none), (8, .slice α (256 * V.n) β), (14, .slice ι (256 * R.len V) κ), (20, .slice μ (256 * V.n) ν), (25, .slice s.a3 (256 * R.len V) s.c3), (27, .slice (some ⟨δ, 0, none⟩) 0 0), (31, .slice s.a4 V.n s.c4), (36, .bool V.coh)] (A.X w oo aa ([A.vec .u8 μ ν (R.flat V.cd V.n), A.vec .u8 ι κ (R.flat V.i (R.len V)), A.vec .u8 α β (R.flat V.d V.n)] ++ R.vs s V)) [(r, R.cells s V)] := by
  intro ι μ α κ ν β δ
  exact up _ _ _ _ _ (E.al 18 rfl (A.G.empty (e := 5) (sz := 1) (by kernel_rfl) (by kernel_rfl) (by kernel_rfl) (fun ε => E.hb (dn _ _ _ _ _ (nd12 ι μ α κ ν β ε δ)))))
 have nd5 : ∀ (ι μ α : Option Addr) (κ ν β : Nat), H 7 (E.bits 37 16617570303) [(2, .pointer none), (8, .slice α (256 * V.n) β), (14, .slice ι (256 * R.len V) κ), (20, .slice μ (256 * V.n) ν), (25, .slice s.a3 (256 * R.len V) s.c3), (31, .slice s.a4 V.n s.c4), (36, .bool V.coh)] (A.X w oo aa ([A.vec .u8 μ ν (R.flat V.cd V.n), A.vec .u8 ι κ (R.flat V.i (R.len V)), A.vec .u8 α β (R.flat V.d V.n)] ++ R.vs s V)) [(r, R.cells s V)] := by
  intro ι μ α κ ν β
  refine up _ _ _ _ _ (E.al2 18 24 rfl rfl ?_ ?_)
  ·
   exact A.G.empty (e := 5) (sz := 1) (by kernel_rfl) (by kernel_rfl) (by kernel_rfl) (fun ε => E.hb (dn _ _ _ _ _ (nd6 ι μ α κ ν β ε)))
  exact A.G.empty (e := 3) (sz := 1) (by kernel_rfl) (by kernel_rfl) (by kernel_rfl) (fun δ => E.hb (dn _ _ _ _ _ (nd13 ι μ α κ ν β δ)))
 have nd15 : ∀ (ι α : Option Addr) (κ β ζ ε δ : Nat), H 6 (E.bits 37 16634478591) [(2, .pointer none), (8, .slice α (256 * V.n) β), (14, .slice ι (256 * R.len V) κ), (15, .slice (some ⟨ζ, 0, none⟩) 0 0), (19, .slice s.a2 (256 * V.n) s.c2), (21, .slice (some ⟨ε, 0, none⟩) 0 0), (25, .slice s.a3 (256 * R.len V) s.c3), (27, .slice (some ⟨δ, 0, none⟩) 0 0), (31, .slice s.a4 V.n s.c4), (36, .bool V.coh)] (A.X w oo aa ([A.vec .u8 ι κ (R.flat V.i (R.len V)), A.vec .u8 α β (R.flat V.d V.n)] ++ R.vs s V)) [(r, R.cells s V)] := by
  intro ι α κ β ζ ε δ
  exact up _ _ _ _ _ (E.al 17 rfl (A.G.dup (e := 5) (a0' := ⟨ζ, 0, none⟩) (c2 := s.c2) 4 1 (R.flat V.cd V.n) rfl (by kernel_rfl) (by kernel_rfl) (R.flat_len _ _).symm (by kernel_rfl) (by kernel_rfl) (by rw [R.flat_len]; have := hw.n; have := R.len_le V; omega) (by rw [R.flat_len]; have := hw.n; have := R.len_le V; omega) (by kernel_rfl) (fun μ ν => E.hb (dn _ _ _ _ _ (nd12 ι μ α κ ν β ε δ)))))
 have nd14 : ∀ (ι α : Option Addr) (κ β ζ ε : Nat), H 7 (E.bits 37 16617701375) [(2, .pointer none), (8, .slice α (256 * V.n) β), (14, .slice ι (256 * R.len V) κ), (15, .slice (some ⟨ζ, 0, none⟩) 0 0), (19, .slice s.a2 (256 * V.n) s.c2), (21, .slice (some ⟨ε, 0, none⟩) 0 0), (25, .slice s.a3 (256 * R.len V) s.c3), (31, .slice s.a4 V.n s.c4), (36, .bool V.coh)] (A.X w oo aa ([A.vec .u8 ι κ (R.flat V.i (R.len V)), A.vec .u8 α β (R.flat V.d V.n)] ++ R.vs s V)) [(r, R.cells s V)] := by
  intro ι α κ β ζ ε
  refine up _ _ _ _ _ (E.al2 17 24 rfl rfl ?_ ?_)
  ·
   exact A.G.dup (e := 5) (a0' := ⟨ζ, 0, none⟩) (c2 := s.c2) 4 1 (R.flat V.cd V.n) rfl (by kernel_rfl) (by kernel_rfl) (R.flat_len _ _).symm (by kernel_rfl) (by kernel_rfl) (by rw [R.flat_len]; have := hw.n; have := R.len_le V; omega) (by rw [R.flat_len]; have := hw.n; have := R.len_le V; omega) (by kernel_rfl) (fun μ ν => E.hb (dn _ _ _ _ _ (nd6 ι μ α κ ν β ε)))
  exact A.G.empty (e := 3) (sz := 1) (by kernel_rfl) (by kernel_rfl) (by kernel_rfl) (fun δ => E.hb (dn _ _ _ _ _ (nd15 ι α κ β ζ ε δ)))
 have nd16 : ∀ (ι α : Option Addr) (κ β ζ δ : Nat), H 7 (E.bits 37 16634216447) [(2, .pointer none), (8, .slice α (256 * V.n) β), (14, .slice ι (256 * R.len V) κ), (15, .slice (some ⟨ζ, 0, none⟩) 0 0), (19, .slice s.a2 (256 * V.n) s.c2), (25, .slice s.a3 (256 * R.len V) s.c3), (27, .slice (some ⟨δ, 0, none⟩) 0 0), (31, .slice s.a4 V.n s.c4), (36, .bool V.coh)] (A.X w oo aa ([A.vec .u8 ι κ (R.flat V.i (R.len V)), A.vec .u8 α β (R.flat V.d V.n)] ++ R.vs s V)) [(r, R.cells s V)] := by
  intro ι α κ β ζ δ
  refine up _ _ _ _ _ (E.al2 17 18 rfl rfl ?_ ?_)
  ·
   exact A.G.dup (e := 5) (a0' := ⟨ζ, 0, none⟩) (c2 := s.c2) 4 1 (R.flat V.cd V.n) rfl (by kernel_rfl) (by kernel_rfl) (R.flat_len _ _).symm (by kernel_rfl) (by kernel_rfl) (by rw [R.flat_len]; have := hw.n; have := R.len_le V; omega) (by rw [R.flat_len]; have := hw.n; have := R.len_le V; omega) (by kernel_rfl) (fun μ ν => E.hb (dn _ _ _ _ _ (nd13 ι μ α κ ν β δ)))
  exact A.G.empty (e := 5) (sz := 1) (by kernel_rfl) (by kernel_rfl) (by kernel_rfl) (fun ε => E.hb (dn _ _ _ _ _ (nd15 ι α κ β ζ ε δ)))
 have nd4 : ∀ (ι α : Option Addr) (κ β ζ : Nat), H 8 (E.bits 37 16617439231) [(2, .pointer none), (8, .slice α (256 * V.n) β), (14, .slice ι (256 * R.len V) κ), (15, .slice (some ⟨ζ, 0, none⟩) 0 0), (19, .slice s.a2 (256 * V.n) s.c2), (25, .slice s.a3 (256 * R.len V) s.c3), (31, .slice s.a4 V.n s.c4), (36, .bool V.coh)] (A.X w oo aa ([A.vec .u8 ι κ (R.flat V.i (R.len V)), A.vec .u8 α β (R.flat V.d V.n)] ++ R.vs s V)) [(r, R.cells s V)] := by
  intro ι α κ β ζ
  refine up _ _ _ _ _ (E.al3 17 18 24 rfl rfl rfl ?_ ?_ ?_)
  ·
   exact A.G.dup (e := 5) (a0' := ⟨ζ, 0, none⟩) (c2 := s.c2) 4 1 (R.flat V.cd V.n) rfl (by kernel_rfl) (by kernel_rfl) (R.flat_len _ _).symm (by kernel_rfl) (by kernel_rfl) (by rw [R.flat_len]; have := hw.n; have := R.len_le V; omega) (by rw [R.flat_len]; have := hw.n; have := R.len_le V; omega) (by kernel_rfl) (fun μ ν => E.hb (dn _ _ _ _ _ (nd5 ι μ α κ ν β)))
  ·
   exact A.G.empty (e := 5) (sz := 1) (by kernel_rfl) (by kernel_rfl) (by kernel_rfl) (fun ε => E.hb (dn _ _ _ _ _ (nd14 ι α κ β ζ ε)))
  exact A.G.empty (e := 3) (sz := 1) (by kernel_rfl) (by kernel_rfl) (by kernel_rfl) (fun δ => E.hb (dn _ _ _ _ _ (nd16 ι α κ β ζ δ)))
 have nd18 : ∀ (ι α : Option Addr) (κ β ε δ : Nat), H 7 (E.bits 37 16634474495) [(2, .pointer none), (8, .slice α (256 * V.n) β), (14, .slice ι (256 * R.len V) κ), (19, .slice s.a2 (256 * V.n) s.c2), (21, .slice (some ⟨ε, 0, none⟩) 0 0), (25, .slice s.a3 (256 * R.len V) s.c3), (27, .slice (some ⟨δ, 0, none⟩) 0 0), (31, .slice s.a4 V.n s.c4), (36, .bool V.coh)] (A.X w oo aa ([A.vec .u8 ι κ (R.flat V.i (R.len V)), A.vec .u8 α β (R.flat V.d V.n)] ++ R.vs s V)) [(r, R.cells s V)] := by
  intro ι α κ β ε δ
  exact up _ _ _ _ _ (E.al 12 rfl (A.G.empty (e := 5) (sz := 1) (by kernel_rfl) (by kernel_rfl) (by kernel_rfl) (fun ζ => E.hb (dn _ _ _ _ _ (nd15 ι α κ β ζ ε δ)))))
 have nd17 : ∀ (ι α : Option Addr) (κ β ε : Nat), H 8 (E.bits 37 16617697279) [(2, .pointer none), (8, .slice α (256 * V.n) β), (14, .slice ι (256 * R.len V) κ), (19, .slice s.a2 (256 * V.n) s.c2), (21, .slice (some ⟨ε, 0, none⟩) 0 0), (25, .slice s.a3 (256 * R.len V) s.c3), (31, .slice s.a4 V.n s.c4), (36, .bool V.coh)] (A.X w oo aa ([A.vec .u8 ι κ (R.flat V.i (R.len V)), A.vec .u8 α β (R.flat V.d V.n)] ++ R.vs s V)) [(r, R.cells s V)] := by
  intro ι α κ β ε
  refine up _ _ _ _ _ (E.al2 12 24 rfl rfl ?_ ?_)
  ·
   exact A.G.empty (e := 5) (sz := 1) (by kernel_rfl) (by kernel_rfl) (by kernel_rfl) (fun ζ => E.hb (dn _ _ _ _ _ (nd14 ι α κ β ζ ε)))
  exact A.G.empty (e := 3) (sz := 1) (by kernel_rfl) (by kernel_rfl) (by kernel_rfl) (fun δ => E.hb (dn _ _ _ _ _ (nd18 ι α κ β ε δ)))
 have nd19 : ∀ (ι α : Option Addr) (κ β δ : Nat), H 8 (E.bits 37 16634212351) [(2, .pointer none), (8, .slice α (256 * V.n) β), (14, .slice ι (256 * R.len V) κ), (19, .slice s.a2 (256 * V.n) s.c2), (25, .slice s.a3 (256 * R.len V) s.c3), (27, .slice (some ⟨δ, 0, none⟩) 0 0), (31, .slice s.a4 V.n s.c4), (36, .bool V.coh)] (A.X w oo aa ([A.vec .u8 ι κ (R.flat V.i (R.len V)), A.vec .u8 α β (R.flat V.d V.n)] ++ R.vs s V)) [(r, R.cells s V)] := by
  intro ι α κ β δ
  refine up _ _ _ _ _ (E.al2 12 18 rfl rfl ?_ ?_)
  ·
   exact A.G.empty (e := 5) (sz := 1) (by kernel_rfl) (by kernel_rfl) (by kernel_rfl) (fun ζ => E.hb (dn _ _ _ _ _ (nd16 ι α κ β ζ δ)))
  exact A.G.empty (e := 5) (sz := 1) (by kernel_rfl) (by kernel_rfl) (by kernel_rfl) (fun ε => E.hb (dn _ _ _ _ _ (nd18 ι α κ β ε δ)))
 have nd3 : ∀ (ι α : Option Addr) (κ β : Nat), H 9 (E.bits 37 16617435135) [(2, .pointer none), (8, .slice α (256 * V.n) β), (14, .slice ι (256 * R.len V) κ), (19, .slice s.a2 (256 * V.n) s.c2), (25, .slice s.a3 (256 * R.len V) s.c3), (31, .slice s.a4 V.n s.c4), (36, .bool V.coh)] (A.X w oo aa ([A.vec .u8 ι κ (R.flat V.i (R.len V)), A.vec .u8 α β (R.flat V.d V.n)] ++ R.vs s V)) [(r, R.cells s V)] := by
  intro ι α κ β
  refine up _ _ _ _ _ (E.al3 12 18 24 rfl rfl rfl ?_ ?_ ?_)
  ·
   exact A.G.empty (e := 5) (sz := 1) (by kernel_rfl) (by kernel_rfl) (by kernel_rfl) (fun ζ => E.hb (dn _ _ _ _ _ (nd4 ι α κ β ζ)))
  ·
   exact A.G.empty (e := 5) (sz := 1) (by kernel_rfl) (by kernel_rfl) (by kernel_rfl) (fun ε => E.hb (dn _ _ _ _ _ (nd17 ι α κ β ε)))
  exact A.G.empty (e := 3) (sz := 1) (by kernel_rfl) (by kernel_rfl) (by kernel_rfl) (fun δ => E.hb (dn _ _ _ _ _ (nd19 ι α κ β δ)))
 have nd22 : ∀ (α : Option Addr) (β ζ ε δ η : Nat), H 7 (E.bits 37 16634476543) [(2, .pointer none), (8, .slice α (256 * V.n) β), (9, .slice (some ⟨η, 0, none⟩) 0 0), (13, .slice s.a1 (256 * R.len V) s.c1), (15, .slice (some ⟨ζ, 0, none⟩) 0 0), (19, .slice s.a2 (256 * V.n) s.c2), (21, .slice (some ⟨ε, 0, none⟩) 0 0), (25, .slice s.a3 (256 * R.len V) s.c3), (27, .slice (some ⟨δ, 0, none⟩) 0 0), (31, .slice s.a4 V.n s.c4), (36, .bool V.coh)] (A.X w oo aa ([A.vec .u8 α β (R.flat V.d V.n)] ++ R.vs s V)) [(r, R.cells s V)] := by
  intro α β ζ ε δ η
  exact up _ _ _ _ _ (E.al 11 rfl (A.G.dup (e := 5) (a0' := ⟨η, 0, none⟩) (c2 := s.c1) 2 1 (R.flat V.i (R.len V)) rfl (by kernel_rfl) (by kernel_rfl) (R.flat_len _ _).symm (by kernel_rfl) (by kernel_rfl) (by rw [R.flat_len]; have := hw.n; have := R.len_le V; omega) (by rw [R.flat_len]; have := hw.n; have := R.len_le V; omega) (by kernel_rfl) (fun ι κ => E.hb (dn _ _ _ _ _ (nd15 ι α κ β ζ ε δ)))))
 have nd21 : ∀ (α : Option Addr) (β ζ ε η : Nat), H 8 (E.bits 37 16617699327) [(2, .pointer none), (8, .slice α (256 * V.n) β), (9, .slice (some ⟨η, 0, none⟩) 0 0), (13, .slice s.a1 (256 * R.len V) s.c1), (15, .slice (some ⟨ζ, 0, none⟩) 0 0), (19, .slice s.a2 (256 * V.n) s.c2), (21, .slice (some ⟨ε, 0, none⟩) 0 0), (25, .slice s.a3 (256 * R.len V) s.c3), (31, .slice s.a4 V.n s.c4), (36, .bool V.coh)] (A.X w oo aa ([A.vec .u8 α β (R.flat V.d V.n)] ++ R.vs s V)) [(r, R.cells s V)] := by
  intro α β ζ ε η
  refine up _ _ _ _ _ (E.al2 11 24 rfl rfl ?_ ?_)
  ·
   exact A.G.dup (e := 5) (a0' := ⟨η, 0, none⟩) (c2 := s.c1) 2 1 (R.flat V.i (R.len V)) rfl (by kernel_rfl) (by kernel_rfl) (R.flat_len _ _).symm (by kernel_rfl) (by kernel_rfl) (by rw [R.flat_len]; have := hw.n; have := R.len_le V; omega) (by rw [R.flat_len]; have := hw.n; have := R.len_le V; omega) (by kernel_rfl) (fun ι κ => E.hb (dn _ _ _ _ _ (nd14 ι α κ β ζ ε)))
  exact A.G.empty (e := 3) (sz := 1) (by kernel_rfl) (by kernel_rfl) (by kernel_rfl) (fun δ => E.hb (dn _ _ _ _ _ (nd22 α β ζ ε δ η)))
 have nd23 : ∀ (α : Option Addr) (β ζ δ η : Nat), H 8 (E.bits 37 16634214399) [(2, .pointer none), (8, .slice α (256 * V.n) β), (9, .slice (some ⟨η, 0, none⟩) 0 0), (13, .slice s.a1 (256 * R.len V) s.c1), (15, .slice (some ⟨ζ, 0, none⟩) 0 0), (19, .slice s.a2 (256 * V.n) s.c2), (25, .slice s.a3 (256 * R.len V) s.c3), (27, .slice (some ⟨δ, 0, none⟩) 0 0), (31, .slice s.a4 V.n s.c4), (36, .bool V.coh)] (A.X w oo aa ([A.vec .u8 α β (R.flat V.d V.n)] ++ R.vs s V)) [(r, R.cells s V)] := by
  intro α β ζ δ η
  refine up _ _ _ _ _ (E.al2 11 18 rfl rfl ?_ ?_)
  ·
   exact A.G.dup (e := 5) (a0' := ⟨η, 0, none⟩) (c2 := s.c1) 2 1 (R.flat V.i (R.len V)) rfl (by kernel_rfl) (by kernel_rfl) (R.flat_len _ _).symm (by kernel_rfl) (by kernel_rfl) (by rw [R.flat_len]; have := hw.n; have := R.len_le V; omega) (by rw [R.flat_len]; have := hw.n; have := R.len_le V; omega) (by kernel_rfl) (fun ι κ => E.hb (dn _ _ _ _ _ (nd16 ι α κ β ζ δ)))
  exact A.G.empty (e := 5) (sz := 1) (by kernel_rfl) (by kernel_rfl) (by kernel_rfl) (fun ε => E.hb (dn _ _ _ _ _ (nd22 α β ζ ε δ η)))
 have nd20 : ∀ (α : Option Addr) (β ζ η : Nat), H 9 (E.bits 37 16617437183) [(2, .pointer none), (8, .slice α (256 * V.n) β), (9, .slice (some ⟨η, 0, none⟩) 0 0), (13, .slice s.a1 (256 * R.len V) s.c1), (15, .slice (some ⟨ζ, 0, none⟩) 0 0), (19, .slice s.a2 (256 * V.n) s.c2), (25, .slice s.a3 (256 * R.len V) s.c3), (31, .slice s.a4 V.n s.c4), (36, .bool V.coh)] (A.X w oo aa ([A.vec .u8 α β (R.flat V.d V.n)] ++ R.vs s V)) [(r, R.cells s V)] := by
  intro α β ζ η
  refine up _ _ _ _ _ (E.al3 11 18 24 rfl rfl rfl ?_ ?_ ?_)
  ·
   exact A.G.dup (e := 5) (a0' := ⟨η, 0, none⟩) (c2 := s.c1) 2 1 (R.flat V.i (R.len V)) rfl (by kernel_rfl) (by kernel_rfl) (R.flat_len _ _).symm (by kernel_rfl) (by kernel_rfl) (by rw [R.flat_len]; have := hw.n; have := R.len_le V; omega) (by rw [R.flat_len]; have := hw.n; have := R.len_le V; omega) (by kernel_rfl) (fun ι κ => E.hb (dn _ _ _ _ _ (nd4 ι α κ β ζ)))
  ·
   exact A.G.empty (e := 5) (sz := 1) (by kernel_rfl) (by kernel_rfl) (by kernel_rfl) (fun ε => E.hb (dn _ _ _ _ _ (nd21 α β ζ ε η)))
  exact A.G.empty (e := 3) (sz := 1) (by kernel_rfl) (by kernel_rfl) (by kernel_rfl) (fun δ => E.hb (dn _ _ _ _ _ (nd23 α β ζ δ η)))
 have nd25 : ∀ (α : Option Addr) (β ε δ η : Nat), H 8 (E.bits 37 16634472447) [(2, .pointer none), (8, .slice α (256 * V.n) β), (9, .slice (some ⟨η, 0, none⟩) 0 0), (13, .slice s.a1 (256 * R.len V) s.c1), (19, .slice s.a2 (256 * V.n) s.c2), (21, .slice (some ⟨ε, 0, none⟩) 0 0), (25, .slice s.a3 (256 * R.len V) s.c3), (27, .slice (some ⟨δ, 0, none⟩) 0 0), (31, .slice s.a4 V.n s.c4), (36, .bool V.coh)] (A.X w oo aa ([A.vec .u8 α β (R.flat V.d V.n)] ++ R.vs s V)) [(r, R.cells s V)] := by
  intro α β ε δ η
  refine up _ _ _ _ _ (E.al2 11 12 rfl rfl ?_ ?_)
  ·
   exact A.G.dup (e := 5) (a0' := ⟨η, 0, none⟩) (c2 := s.c1) 2 1 (R.flat V.i (R.len V)) rfl (by kernel_rfl) (by kernel_rfl) (R.flat_len _ _).symm (by kernel_rfl) (by kernel_rfl) (by rw [R.flat_len]; have := hw.n; have := R.len_le V; omega) (by rw [R.flat_len]; have := hw.n; have := R.len_le V; omega) (by kernel_rfl) (fun ι κ => E.hb (dn _ _ _ _ _ (nd18 ι α κ β ε δ)))
  exact A.G.empty (e := 5) (sz := 1) (by kernel_rfl) (by kernel_rfl) (by kernel_rfl) (fun ζ => E.hb (dn _ _ _ _ _ (nd22 α β ζ ε δ η)))
 have nd24 : ∀ (α : Option Addr) (β ε η : Nat), H 9 (E.bits 37 16617695231) [(2, .pointer none), (8, .slice α (256 * V.n) β), (9, .slice (some ⟨η, 0, none⟩) 0 0), (13, .slice s.a1 (256 * R.len V) s.c1), (19, .slice s.a2 (256 * V.n) s.c2), (21, .slice (some ⟨ε, 0, none⟩) 0 0), (25, .slice s.a3 (256 * R.len V) s.c3), (31, .slice s.a4 V.n s.c4), (36, .bool V.coh)] (A.X w oo aa ([A.vec .u8 α β (R.flat V.d V.n)] ++ R.vs s V)) [(r, R.cells s V)] := by
  intro α β ε η
  refine up _ _ _ _ _ (E.al3 11 12 24 rfl rfl rfl ?_ ?_ ?_)
  ·
   exact A.G.dup (e := 5) (a0' := ⟨η, 0, none⟩) (c2 := s.c1) 2 1 (R.flat V.i (R.len V)) rfl (by kernel_rfl) (by kernel_rfl) (R.flat_len _ _).symm (by kernel_rfl) (by kernel_rfl) (by rw [R.flat_len]; have := hw.n; have := R.len_le V; omega) (by rw [R.flat_len]; have := hw.n; have := R.len_le V; omega) (by kernel_rfl) (fun ι κ => E.hb (dn _ _ _ _ _ (nd17 ι α κ β ε)))
  ·
   exact A.G.empty (e := 5) (sz := 1) (by kernel_rfl) (by kernel_rfl) (by kernel_rfl) (fun ζ => E.hb (dn _ _ _ _ _ (nd21 α β ζ ε η)))
  exact A.G.empty (e := 3) (sz := 1) (by kernel_rfl) (by kernel_rfl) (by kernel_rfl) (fun δ => E.hb (dn _ _ _ _ _ (nd25 α β ε δ η)))
 have nd26 : ∀ (α : Option Addr) (β δ η : Nat), H 9 (E.bits 37 16634210303) [(2, .pointer none), (8, .slice α (256 * V.n) β), (9, .slice (some ⟨η, 0, none⟩) 0 0), (13, .slice s.a1 (256 * R.len V) s.c1), (19, .slice s.a2 (256 * V.n) s.c2), (25, .slice s.a3 (256 * R.len V) s.c3), (27, .slice (some ⟨δ, 0, none⟩) 0 0), (31, .slice s.a4 V.n s.c4), (36, .bool V.coh)] (A.X w oo aa ([A.vec .u8 α β (R.flat V.d V.n)] ++ R.vs s V)) [(r, R.cells s V)] := by
  intro α β δ η
  refine up _ _ _ _ _ (E.al3 11 12 18 rfl rfl rfl ?_ ?_ ?_)
  ·
   exact A.G.dup (e := 5) (a0' := ⟨η, 0, none⟩) (c2 := s.c1) 2 1 (R.flat V.i (R.len V)) rfl (by kernel_rfl) (by kernel_rfl) (R.flat_len _ _).symm (by kernel_rfl) (by kernel_rfl) (by rw [R.flat_len]; have := hw.n; have := R.len_le V; omega) (by rw [R.flat_len]; have := hw.n; have := R.len_le V; omega) (by kernel_rfl) (fun ι κ => E.hb (dn _ _ _ _ _ (nd19 ι α κ β δ)))
  ·
   exact A.G.empty (e := 5) (sz := 1) (by kernel_rfl) (by kernel_rfl) (by kernel_rfl) (fun ζ => E.hb (dn _ _ _ _ _ (nd23 α β ζ δ η)))
  exact A.G.empty (e := 5) (sz := 1) (by kernel_rfl) (by kernel_rfl) (by kernel_rfl) (fun ε => E.hb (dn _ _ _ _ _ (nd25 α β ε δ η)))
 have nd2 : ∀ (α : Option Addr) (β η : Nat), H 10 (E.bits 37 16617433087) [(2, .pointer none), (8, .slice α (256 * V.n) β), (9, .slice (some ⟨η, 0, none⟩) 0 0), (13, .slice s.a1 (256 * R.len V) s.c1), (19, .slice s.a2 (256 * V.n) s.c2), (25, .slice s.a3 (256 * R.len V) s.c3), (31, .slice s.a4 V.n s.c4), (36, .bool V.coh)] (A.X w oo aa ([A.vec .u8 α β (R.flat V.d V.n)] ++ R.vs s V)) [(r, R.cells s V)] := by
  intro α β η
  refine up _ _ _ _ _ (E.al4 11 12 18 24 rfl rfl rfl rfl ?_ ?_ ?_ ?_)
  ·
   exact A.G.dup (e := 5) (a0' := ⟨η, 0, none⟩) (c2 := s.c1) 2 1 (R.flat V.i (R.len V)) rfl (by kernel_rfl) (by kernel_rfl) (R.flat_len _ _).symm (by kernel_rfl) (by kernel_rfl) (by rw [R.flat_len]; have := hw.n; have := R.len_le V; omega) (by rw [R.flat_len]; have := hw.n; have := R.len_le V; omega) (by kernel_rfl) (fun ι κ => E.hb (dn _ _ _ _ _ (nd3 ι α κ β)))
  ·
   exact A.G.empty (e := 5) (sz := 1) (by kernel_rfl) (by kernel_rfl) (by kernel_rfl) (fun ζ => E.hb (dn _ _ _ _ _ (nd20 α β ζ η)))
  ·
   exact A.G.empty (e := 5) (sz := 1) (by kernel_rfl) (by kernel_rfl) (by kernel_rfl) (fun ε => E.hb (dn _ _ _ _ _ (nd24 α β ε η)))
  exact A.G.empty (e := 3) (sz := 1) (by kernel_rfl) (by kernel_rfl) (by kernel_rfl) (fun δ => E.hb (dn _ _ _ _ _ (nd26 α β δ η)))
 have nd29 : ∀ (α : Option Addr) (β ζ ε δ : Nat), H 8 (E.bits 37 16634476479) [(2, .pointer none), (8, .slice α (256 * V.n) β), (13, .slice s.a1 (256 * R.len V) s.c1), (15, .slice (some ⟨ζ, 0, none⟩) 0 0), (19, .slice s.a2 (256 * V.n) s.c2), (21, .slice (some ⟨ε, 0, none⟩) 0 0), (25, .slice s.a3 (256 * R.len V) s.c3), (27, .slice (some ⟨δ, 0, none⟩) 0 0), (31, .slice s.a4 V.n s.c4), (36, .bool V.coh)] (A.X w oo aa ([A.vec .u8 α β (R.flat V.d V.n)] ++ R.vs s V)) [(r, R.cells s V)] := by
  intro α β ζ ε δ
  exact up _ _ _ _ _ (E.al 6 rfl (A.G.empty (e := 5) (sz := 1) (by kernel_rfl) (by kernel_rfl) (by kernel_rfl) (fun η => E.hb (dn _ _ _ _ _ (nd22 α β ζ ε δ η)))))
 have nd28 : ∀ (α : Option Addr) (β ζ ε : Nat), H 9 (E.bits 37 16617699263) [(2, .pointer none), (8, .slice α (256 * V.n) β), (13, .slice s.a1 (256 * R.len V) s.c1), (15, .slice (some ⟨ζ, 0, none⟩) 0 0), (19, .slice s.a2 (256 * V.n) s.c2), (21, .slice (some ⟨ε, 0, none⟩) 0 0), (25, .slice s.a3 (256 * R.len V) s.c3), (31, .slice s.a4 V.n s.c4), (36, .bool V.coh)] (A.X w oo aa ([A.vec .u8 α β (R.flat V.d V.n)] ++ R.vs s V)) [(r, R.cells s V)] := by
  intro α β ζ ε
  refine up _ _ _ _ _ (E.al2 6 24 rfl rfl ?_ ?_)
  ·
   exact A.G.empty (e := 5) (sz := 1) (by kernel_rfl) (by kernel_rfl) (by kernel_rfl) (fun η => E.hb (dn _ _ _ _ _ (nd21 α β ζ ε η)))
  exact A.G.empty (e := 3) (sz := 1) (by kernel_rfl) (by kernel_rfl) (by kernel_rfl) (fun δ => E.hb (dn _ _ _ _ _ (nd29 α β ζ ε δ)))
 have nd30 : ∀ (α : Option Addr) (β ζ δ : Nat), H 9 (E.bits 37 16634214335) [(2, .pointer none), (8, .slice α (256 * V.n) β), (13, .slice s.a1 (256 * R.len V) s.c1), (15, .slice (some ⟨ζ, 0, none⟩) 0 0), (19, .slice s.a2 (256 * V.n) s.c2), (25, .slice s.a3 (256 * R.len V) s.c3), (27, .slice (some ⟨δ, 0, none⟩) 0 0), (31, .slice s.a4 V.n s.c4), (36, .bool V.coh)] (A.X w oo aa ([A.vec .u8 α β (R.flat V.d V.n)] ++ R.vs s V)) [(r, R.cells s V)] := by
  intro α β ζ δ
  refine up _ _ _ _ _ (E.al2 6 18 rfl rfl ?_ ?_)
  ·
   exact A.G.empty (e := 5) (sz := 1) (by kernel_rfl) (by kernel_rfl) (by kernel_rfl) (fun η => E.hb (dn _ _ _ _ _ (nd23 α β ζ δ η)))
  exact A.G.empty (e := 5) (sz := 1) (by kernel_rfl) (by kernel_rfl) (by kernel_rfl) (fun ε => E.hb (dn _ _ _ _ _ (nd29 α β ζ ε δ)))
 have nd27 : ∀ (α : Option Addr) (β ζ : Nat), H 10 (E.bits 37 16617437119) [(2, .pointer none), (8, .slice α (256 * V.n) β), (13, .slice s.a1 (256 * R.len V) s.c1), (15, .slice (some ⟨ζ, 0, none⟩) 0 0), (19, .slice s.a2 (256 * V.n) s.c2), (25, .slice s.a3 (256 * R.len V) s.c3), (31, .slice s.a4 V.n s.c4), (36, .bool V.coh)] (A.X w oo aa ([A.vec .u8 α β (R.flat V.d V.n)] ++ R.vs s V)) [(r, R.cells s V)] := by
  intro α β ζ
  refine up _ _ _ _ _ (E.al3 6 18 24 rfl rfl rfl ?_ ?_ ?_)
  ·
   exact A.G.empty (e := 5) (sz := 1) (by kernel_rfl) (by kernel_rfl) (by kernel_rfl) (fun η => E.hb (dn _ _ _ _ _ (nd20 α β ζ η)))
  ·
   exact A.G.empty (e := 5) (sz := 1) (by kernel_rfl) (by kernel_rfl) (by kernel_rfl) (fun ε => E.hb (dn _ _ _ _ _ (nd28 α β ζ ε)))
  exact A.G.empty (e := 3) (sz := 1) (by kernel_rfl) (by kernel_rfl) (by kernel_rfl) (fun δ => E.hb (dn _ _ _ _ _ (nd30 α β ζ δ)))
 have nd32 : ∀ (α : Option Addr) (β ε δ : Nat), H 9 (E.bits 37 16634472383) [(2, .pointer none), (8, .slice α (256 * V.n) β), (13, .slice s.a1 (256 * R.len V) s.c1), (19, .slice s.a2 (256 * V.n) s.c2), (21, .slice (some ⟨ε, 0, none⟩) 0 0), (25, .slice s.a3 (256 * R.len V) s.c3), (27, .slice (some ⟨δ, 0, none⟩) 0 0), (31, .slice s.a4 V.n s.c4), (36, .bool V.coh)] (A.X w oo aa ([A.vec .u8 α β (R.flat V.d V.n)] ++ R.vs s V)) [(r, R.cells s V)] := by
  intro α β ε δ
  refine up _ _ _ _ _ (E.al2 6 12 rfl rfl ?_ ?_)
  ·
   exact A.G.empty (e := 5) (sz := 1) (by kernel_rfl) (by kernel_rfl) (by kernel_rfl) (fun η => E.hb (dn _ _ _ _ _ (nd25 α β ε δ η)))
  exact A.G.empty (e := 5) (sz := 1) (by kernel_rfl) (by kernel_rfl) (by kernel_rfl) (fun ζ => E.hb (dn _ _ _ _ _ (nd29 α β ζ ε δ)))
 have nd31 : ∀ (α : Option Addr) (β ε : Nat), H 10 (E.bits 37 16617695167) [(2, .pointer none), (8, .slice α (256 * V.n) β), (13, .slice s.a1 (256 * R.len V) s.c1), (19, .slice s.a2 (256 * V.n) s.c2), (21, .slice (some ⟨ε, 0, none⟩) 0 0), (25, .slice s.a3 (256 * R.len V) s.c3), (31, .slice s.a4 V.n s.c4), (36, .bool V.coh)] (A.X w oo aa ([A.vec .u8 α β (R.flat V.d V.n)] ++ R.vs s V)) [(r, R.cells s V)] := by
  intro α β ε
  refine up _ _ _ _ _ (E.al3 6 12 24 rfl rfl rfl ?_ ?_ ?_)
  ·
   exact A.G.empty (e := 5) (sz := 1) (by kernel_rfl) (by kernel_rfl) (by kernel_rfl) (fun η => E.hb (dn _ _ _ _ _ (nd24 α β ε η)))
  ·
   exact A.G.empty (e := 5) (sz := 1) (by kernel_rfl) (by kernel_rfl) (by kernel_rfl) (fun ζ => E.hb (dn _ _ _ _ _ (nd28 α β ζ ε)))
  exact A.G.empty (e := 3) (sz := 1) (by kernel_rfl) (by kernel_rfl) (by kernel_rfl) (fun δ => E.hb (dn _ _ _ _ _ (nd32 α β ε δ)))
 have nd33 : ∀ (α : Option Addr) (β δ : Nat), H 10 (E.bits 37 16634210239) [(2, .pointer none), (8, .slice α (256 * V.n) β), (13, .slice s.a1 (256 * R.len V) s.c1), (19, .slice s.a2 (256 * V.n) s.c2), (25, .slice s.a3 (256 * R.len V) s.c3), (27, .slice (some ⟨δ, 0, none⟩) 0 0), (31, .slice s.a4 V.n s.c4), (36, .bool V.coh)] (A.X w oo aa ([A.vec .u8 α β (R.flat V.d V.n)] ++ R.vs s V)) [(r, R.cells s V)] := by
  intro α β δ
  refine up _ _ _ _ _ (E.al3 6 12 18 rfl rfl rfl ?_ ?_ ?_)
  ·
   exact A.G.empty (e := 5) (sz := 1) (by kernel_rfl) (by kernel_rfl) (by kernel_rfl) (fun η => E.hb (dn _ _ _ _ _ (nd26 α β δ η)))
  ·
   exact A.G.empty (e := 5) (sz := 1) (by kernel_rfl) (by kernel_rfl) (by kernel_rfl) (fun ζ => E.hb (dn _ _ _ _ _ (nd30 α β ζ δ)))
  exact A.G.empty (e := 5) (sz := 1) (by kernel_rfl) (by kernel_rfl) (by kernel_rfl) (fun ε => E.hb (dn _ _ _ _ _ (nd32 α β ε δ)))
 have nd1 : ∀ (α : Option Addr) (β : Nat), H 11 (E.bits 37 16617433023) [(2, .pointer none), (8, .slice α (256 * V.n) β), (13, .slice s.a1 (256 * R.len V) s.c1), (19, .slice s.a2 (256 * V.n) s.c2), (25, .slice s.a3 (256 * R.len V) s.c3), (31, .slice s.a4 V.n s.c4), (36, .bool V.coh)] (A.X w oo aa ([A.vec .u8 α β (R.flat V.d V.n)] ++ R.vs s V)) [(r, R.cells s V)] := by
  intro α β
  refine up _ _ _ _ _ (E.al4 6 12 18 24 rfl rfl rfl rfl ?_ ?_ ?_ ?_)
  ·
   exact A.G.empty (e := 5) (sz := 1) (by kernel_rfl) (by kernel_rfl) (by kernel_rfl) (fun η => E.hb (dn _ _ _ _ _ (nd2 α β η)))
  ·
   exact A.G.empty (e := 5) (sz := 1) (by kernel_rfl) (by kernel_rfl) (by kernel_rfl) (fun ζ => E.hb (dn _ _ _ _ _ (nd27 α β ζ)))
  ·
   exact A.G.empty (e := 5) (sz := 1) (by kernel_rfl) (by kernel_rfl) (by kernel_rfl) (fun ε => E.hb (dn _ _ _ _ _ (nd31 α β ε)))
  exact A.G.empty (e := 3) (sz := 1) (by kernel_rfl) (by kernel_rfl) (by kernel_rfl) (fun δ => E.hb (dn _ _ _ _ _ (nd33 α β δ)))
 have nd37 : ∀ (ζ ε δ θ η : Nat), H 8 (E.bits 37 16634476511) [(2, .pointer none), (3, .slice (some ⟨θ, 0, none⟩) 0 0), (7, .slice s.a0 (256 * V.n) s.c0), (9, .slice (some ⟨η, 0, none⟩) 0 0), (13, .slice s.a1 (256 * R.len V) s.c1), (15, .slice (some ⟨ζ, 0, none⟩) 0 0), (19, .slice s.a2 (256 * V.n) s.c2), (21, .slice (some ⟨ε, 0, none⟩) 0 0), (25, .slice s.a3 (256 * R.len V) s.c3), (27, .slice (some ⟨δ, 0, none⟩) 0 0), (31, .slice s.a4 V.n s.c4), (36, .bool V.coh)] (A.X w oo aa (R.vs s V)) [(r, R.cells s V)] := by
  intro ζ ε δ θ η
  exact up _ _ _ _ _ (E.al 5 rfl (A.G.dup (e := 5) (a0' := ⟨θ, 0, none⟩) (c2 := s.c0) 0 1 (R.flat V.d V.n) rfl (by kernel_rfl) (by kernel_rfl) (R.flat_len _ _).symm (by kernel_rfl) (by kernel_rfl) (by rw [R.flat_len]; have := hw.n; have := R.len_le V; omega) (by rw [R.flat_len]; have := hw.n; have := R.len_le V; omega) (by kernel_rfl) (fun α β => E.hb (dn _ _ _ _ _ (nd22 α β ζ ε δ η)))))
 have nd36 : ∀ (ζ ε θ η : Nat), H 9 (E.bits 37 16617699295) [(2, .pointer none), (3, .slice (some ⟨θ, 0, none⟩) 0 0), (7, .slice s.a0 (256 * V.n) s.c0), (9, .slice (some ⟨η, 0, none⟩) 0 0), (13, .slice s.a1 (256 * R.len V) s.c1), (15, .slice (some ⟨ζ, 0, none⟩) 0 0), (19, .slice s.a2 (256 * V.n) s.c2), (21, .slice (some ⟨ε, 0, none⟩) 0 0), (25, .slice s.a3 (256 * R.len V) s.c3), (31, .slice s.a4 V.n s.c4), (36, .bool V.coh)] (A.X w oo aa (R.vs s V)) [(r, R.cells s V)] := by
  intro ζ ε θ η
  refine up _ _ _ _ _ (E.al2 5 24 rfl rfl ?_ ?_)
  ·
   exact A.G.dup (e := 5) (a0' := ⟨θ, 0, none⟩) (c2 := s.c0) 0 1 (R.flat V.d V.n) rfl (by kernel_rfl) (by kernel_rfl) (R.flat_len _ _).symm (by kernel_rfl) (by kernel_rfl) (by rw [R.flat_len]; have := hw.n; have := R.len_le V; omega) (by rw [R.flat_len]; have := hw.n; have := R.len_le V; omega) (by kernel_rfl) (fun α β => E.hb (dn _ _ _ _ _ (nd21 α β ζ ε η)))
  exact A.G.empty (e := 3) (sz := 1) (by kernel_rfl) (by kernel_rfl) (by kernel_rfl) (fun δ => E.hb (dn _ _ _ _ _ (nd37 ζ ε δ θ η)))
 have nd38 : ∀ (ζ δ θ η : Nat), H 9 (E.bits 37 16634214367) [(2, .pointer none), (3, .slice (some ⟨θ, 0, none⟩) 0 0), (7, .slice s.a0 (256 * V.n) s.c0), (9, .slice (some ⟨η, 0, none⟩) 0 0), (13, .slice s.a1 (256 * R.len V) s.c1), (15, .slice (some ⟨ζ, 0, none⟩) 0 0), (19, .slice s.a2 (256 * V.n) s.c2), (25, .slice s.a3 (256 * R.len V) s.c3), (27, .slice (some ⟨δ, 0, none⟩) 0 0), (31, .slice s.a4 V.n s.c4), (36, .bool V.coh)] (A.X w oo aa (R.vs s V)) [(r, R.cells s V)] := by
  intro ζ δ θ η
  refine up _ _ _ _ _ (E.al2 5 18 rfl rfl ?_ ?_)
  ·
   exact A.G.dup (e := 5) (a0' := ⟨θ, 0, none⟩) (c2 := s.c0) 0 1 (R.flat V.d V.n) rfl (by kernel_rfl) (by kernel_rfl) (R.flat_len _ _).symm (by kernel_rfl) (by kernel_rfl) (by rw [R.flat_len]; have := hw.n; have := R.len_le V; omega) (by rw [R.flat_len]; have := hw.n; have := R.len_le V; omega) (by kernel_rfl) (fun α β => E.hb (dn _ _ _ _ _ (nd23 α β ζ δ η)))
  exact A.G.empty (e := 5) (sz := 1) (by kernel_rfl) (by kernel_rfl) (by kernel_rfl) (fun ε => E.hb (dn _ _ _ _ _ (nd37 ζ ε δ θ η)))
 have nd35 : ∀ (ζ θ η : Nat), H 10 (E.bits 37 16617437151) [(2, .pointer none), (3, .slice (some ⟨θ, 0, none⟩) 0 0), (7, .slice s.a0 (256 * V.n) s.c0), (9, .slice (some ⟨η, 0, none⟩) 0 0), (13, .slice s.a1 (256 * R.len V) s.c1), (15, .slice (some ⟨ζ, 0, none⟩) 0 0), (19, .slice s.a2 (256 * V.n) s.c2), (25, .slice s.a3 (256 * R.len V) s.c3), (31, .slice s.a4 V.n s.c4), (36, .bool V.coh)] (A.X w oo aa (R.vs s V)) [(r, R.cells s V)] := by
  intro ζ θ η
  refine up _ _ _ _ _ (E.al3 5 18 24 rfl rfl rfl ?_ ?_ ?_)
  ·
   exact A.G.dup (e := 5) (a0' := ⟨θ, 0, none⟩) (c2 := s.c0) 0 1 (R.flat V.d V.n) rfl (by kernel_rfl) (by kernel_rfl) (R.flat_len _ _).symm (by kernel_rfl) (by kernel_rfl) (by rw [R.flat_len]; have := hw.n; have := R.len_le V; omega) (by rw [R.flat_len]; have := hw.n; have := R.len_le V; omega) (by kernel_rfl) (fun α β => E.hb (dn _ _ _ _ _ (nd20 α β ζ η)))
  ·
   exact A.G.empty (e := 5) (sz := 1) (by kernel_rfl) (by kernel_rfl) (by kernel_rfl) (fun ε => E.hb (dn _ _ _ _ _ (nd36 ζ ε θ η)))
  exact A.G.empty (e := 3) (sz := 1) (by kernel_rfl) (by kernel_rfl) (by kernel_rfl) (fun δ => E.hb (dn _ _ _ _ _ (nd38 ζ δ θ η)))
 have nd40 : ∀ (ε δ θ η : Nat), H 9 (E.bits 37 16634472415) [(2, .pointer none), (3, .slice (some ⟨θ, 0, none⟩) 0 0), (7, .slice s.a0 (256 * V.n) s.c0), (9, .slice (some ⟨η, 0, none⟩) 0 0), (13, .slice s.a1 (256 * R.len V) s.c1), (19, .slice s.a2 (256 * V.n) s.c2), (21, .slice (some ⟨ε, 0, none⟩) 0 0), (25, .slice s.a3 (256 * R.len V) s.c3), (27, .slice (some ⟨δ, 0, none⟩) 0 0), (31, .slice s.a4 V.n s.c4), (36, .bool V.coh)] (A.X w oo aa (R.vs s V)) [(r, R.cells s V)] := by
  intro ε δ θ η
  refine up _ _ _ _ _ (E.al2 5 12 rfl rfl ?_ ?_)
  ·
   exact A.G.dup (e := 5) (a0' := ⟨θ, 0, none⟩) (c2 := s.c0) 0 1 (R.flat V.d V.n) rfl (by kernel_rfl) (by kernel_rfl) (R.flat_len _ _).symm (by kernel_rfl) (by kernel_rfl) (by rw [R.flat_len]; have := hw.n; have := R.len_le V; omega) (by rw [R.flat_len]; have := hw.n; have := R.len_le V; omega) (by kernel_rfl) (fun α β => E.hb (dn _ _ _ _ _ (nd25 α β ε δ η)))
  exact A.G.empty (e := 5) (sz := 1) (by kernel_rfl) (by kernel_rfl) (by kernel_rfl) (fun ζ => E.hb (dn _ _ _ _ _ (nd37 ζ ε δ θ η)))
 have nd39 : ∀ (ε θ η : Nat), H 10 (E.bits 37 16617695199) [(2, .pointer none), (3, .slice (some ⟨θ, 0, none⟩) 0 0), (7, .slice s.a0 (256 * V.n) s.c0), (9, .slice (some ⟨η, 0, none⟩) 0 0), (13, .slice s.a1 (256 * R.len V) s.c1), (19, .slice s.a2 (256 * V.n) s.c2), (21, .slice (some ⟨ε, 0, none⟩) 0 0), (25, .slice s.a3 (256 * R.len V) s.c3), (31, .slice s.a4 V.n s.c4), (36, .bool V.coh)] (A.X w oo aa (R.vs s V)) [(r, R.cells s V)] := by
  intro ε θ η
  refine up _ _ _ _ _ (E.al3 5 12 24 rfl rfl rfl ?_ ?_ ?_)
  ·
   exact A.G.dup (e := 5) (a0' := ⟨θ, 0, none⟩) (c2 := s.c0) 0 1 (R.flat V.d V.n) rfl (by kernel_rfl) (by kernel_rfl) (R.flat_len _ _).symm (by kernel_rfl) (by kernel_rfl) (by rw [R.flat_len]; have := hw.n; have := R.len_le V; omega) (by rw [R.flat_len]; have := hw.n; have := R.len_le V; omega) (by kernel_rfl) (fun α β => E.hb (dn _ _ _ _ _ (nd24 α β ε η)))
  ·
   exact A.G.empty (e := 5) (sz := 1) (by kernel_rfl) (by kernel_rfl) (by kernel_rfl) (fun ζ => E.hb (dn _ _ _ _ _ (nd36 ζ ε θ η)))
  exact A.G.empty (e := 3) (sz := 1) (by kernel_rfl) (by kernel_rfl) (by kernel_rfl) (fun δ => E.hb (dn _ _ _ _ _ (nd40 ε δ θ η)))
 have nd41 : ∀ (δ θ η : Nat), H 10 (E.bits 37 16634210271) [(2, .pointer none), (3, .slice (some ⟨θ, 0, none⟩) 0 0), (7, .slice s.a0 (256 * V.n) s.c0), (9, .slice (some ⟨η, 0, none⟩) 0 0), (13, .slice s.a1 (256 * R.len V) s.c1), (19, .slice s.a2 (256 * V.n) s.c2), (25, .slice s.a3 (256 * R.len V) s.c3), (27, .slice (some ⟨δ, 0, none⟩) 0 0), (31, .slice s.a4 V.n s.c4), (36, .bool V.coh)] (A.X w oo aa (R.vs s V)) [(r, R.cells s V)] := by
  intro δ θ η
  refine up _ _ _ _ _ (E.al3 5 12 18 rfl rfl rfl ?_ ?_ ?_)
  ·
   exact A.G.dup (e := 5) (a0' := ⟨θ, 0, none⟩) (c2 := s.c0) 0 1 (R.flat V.d V.n) rfl (by kernel_rfl) (by kernel_rfl) (R.flat_len _ _).symm (by kernel_rfl) (by kernel_rfl) (by rw [R.flat_len]; have := hw.n; have := R.len_le V; omega) (by rw [R.flat_len]; have := hw.n; have := R.len_le V; omega) (by kernel_rfl) (fun α β => E.hb (dn _ _ _ _ _ (nd26 α β δ η)))
  ·
   exact A.G.empty (e := 5) (sz := 1) (by kernel_rfl) (by kernel_rfl) (by kernel_rfl) (fun ζ => E.hb (dn _ _ _ _ _ (nd38 ζ δ θ η)))
  exact A.G.empty (e := 5) (sz := 1) (by kernel_rfl) (by kernel_rfl) (by kernel_rfl) (fun ε => E.hb (dn _ _ _ _ _ (nd40 ε δ θ η)))
 have nd34 : ∀ (θ η : Nat), H 11 (E.bits 37 16617433055) [(2, .pointer none), (3, .slice (some ⟨θ, 0, none⟩) 0 0), (7, .slice s.a0 (256 * V.n) s.c0), (9, .slice (some ⟨η, 0, none⟩) 0 0), (13, .slice s.a1 (256 * R.len V) s.c1), (19, .slice s.a2 (256 * V.n) s.c2), (25, .slice s.a3 (256 * R.len V) s.c3), (31, .slice s.a4 V.n s.c4), (36, .bool V.coh)] (A.X w oo aa (R.vs s V)) [(r, R.cells s V)] := by
  intro θ η
  refine up _ _ _ _ _ (E.al4 5 12 18 24 rfl rfl rfl rfl ?_ ?_ ?_ ?_)
  ·
   exact A.G.dup (e := 5) (a0' := ⟨θ, 0, none⟩) (c2 := s.c0) 0 1 (R.flat V.d V.n) rfl (by kernel_rfl) (by kernel_rfl) (R.flat_len _ _).symm (by kernel_rfl) (by kernel_rfl) (by rw [R.flat_len]; have := hw.n; have := R.len_le V; omega) (by rw [R.flat_len]; have := hw.n; have := R.len_le V; omega) (by kernel_rfl) (fun α β => E.hb (dn _ _ _ _ _ (nd2 α β η)))
  ·
   exact A.G.empty (e := 5) (sz := 1) (by kernel_rfl) (by kernel_rfl) (by kernel_rfl) (fun ζ => E.hb (dn _ _ _ _ _ (nd35 ζ θ η)))
  ·
   exact A.G.empty (e := 5) (sz := 1) (by kernel_rfl) (by kernel_rfl) (by kernel_rfl) (fun ε => E.hb (dn _ _ _ _ _ (nd39 ε θ η)))
  exact A.G.empty (e := 3) (sz := 1) (by kernel_rfl) (by kernel_rfl) (by kernel_rfl) (fun δ => E.hb (dn _ _ _ _ _ (nd41 δ θ η)))
 have nd44 : ∀ (ζ ε δ θ : Nat), H 9 (E.bits 37 16634476447) [(2, .pointer none), (3, .slice (some ⟨θ, 0, none⟩) 0 0), (7, .slice s.a0 (256 * V.n) s.c0), (13, .slice s.a1 (256 * R.len V) s.c1), (15, .slice (some ⟨ζ, 0, none⟩) 0 0), (19, .slice s.a2 (256 * V.n) s.c2), (21, .slice (some ⟨ε, 0, none⟩) 0 0), (25, .slice s.a3 (256 * R.len V) s.c3), (27, .slice (some ⟨δ, 0, none⟩) 0 0), (31, .slice s.a4 V.n s.c4), (36, .bool V.coh)] (A.X w oo aa (R.vs s V)) [(r, R.cells s V)] := by
  intro ζ ε δ θ
  refine up _ _ _ _ _ (E.al2 5 6 rfl rfl ?_ ?_)
  ·
   exact A.G.dup (e := 5) (a0' := ⟨θ, 0, none⟩) (c2 := s.c0) 0 1 (R.flat V.d V.n) rfl (by kernel_rfl) (by kernel_rfl) (R.flat_len _ _).symm (by kernel_rfl) (by kernel_rfl) (by rw [R.flat_len]; have := hw.n; have := R.len_le V; omega) (by rw [R.flat_len]; have := hw.n; have := R.len_le V; omega) (by kernel_rfl) (fun α β => E.hb (dn _ _ _ _ _ (nd29 α β ζ ε δ)))
  exact A.G.empty (e := 5) (sz := 1) (by kernel_rfl) (by kernel_rfl) (by kernel_rfl) (fun η => E.hb (dn _ _ _ _ _ (nd37 ζ ε δ θ η)))
 have nd43 : ∀ (ζ ε θ : Nat), H 10 (E.bits 37 16617699231) [(2, .pointer none), (3, .slice (some ⟨θ, 0, none⟩) 0 0), (7, .slice s.a0 (256 * V.n) s.c0), (13, .slice s.a1 (256 * R.len V) s.c1), (15, .slice (some ⟨ζ, 0, none⟩) 0 0), (19, .slice s.a2 (256 * V.n) s.c2), (21, .slice (some ⟨ε, 0, none⟩) 0 0), (25, .slice s.a3 (256 * R.len V) s.c3), (31, .slice s.a4 V.n s.c4), (36, .bool V.coh)] (A.X w oo aa (R.vs s V)) [(r, R.cells s V)] := by
  intro ζ ε θ
  refine up _ _ _ _ _ (E.al3 5 6 24 rfl rfl rfl ?_ ?_ ?_)
  ·
   exact A.G.dup (e := 5) (a0' := ⟨θ, 0, none⟩) (c2 := s.c0) 0 1 (R.flat V.d V.n) rfl (by kernel_rfl) (by kernel_rfl) (R.flat_len _ _).symm (by kernel_rfl) (by kernel_rfl) (by rw [R.flat_len]; have := hw.n; have := R.len_le V; omega) (by rw [R.flat_len]; have := hw.n; have := R.len_le V; omega) (by kernel_rfl) (fun α β => E.hb (dn _ _ _ _ _ (nd28 α β ζ ε)))
  ·
   exact A.G.empty (e := 5) (sz := 1) (by kernel_rfl) (by kernel_rfl) (by kernel_rfl) (fun η => E.hb (dn _ _ _ _ _ (nd36 ζ ε θ η)))
  exact A.G.empty (e := 3) (sz := 1) (by kernel_rfl) (by kernel_rfl) (by kernel_rfl) (fun δ => E.hb (dn _ _ _ _ _ (nd44 ζ ε δ θ)))
 have nd45 : ∀ (ζ δ θ : Nat), H 10 (E.bits 37 16634214303) [(2, .pointer none), (3, .slice (some ⟨θ, 0, none⟩) 0 0), (7, .slice s.a0 (256 * V.n) s.c0), (13, .slice s.a1 (256 * R.len V) s.c1), (15, .slice (some ⟨ζ, 0, none⟩) 0 0), (19, .slice s.a2 (256 * V.n) s.c2), (25, .slice s.a3 (256 * R.len V) s.c3), (27, .slice (some ⟨δ, 0, none⟩) 0 0), (31, .slice s.a4 V.n s.c4), (36, .bool V.coh)] (A.X w oo aa (R.vs s V)) [(r, R.cells s V)] := by
  intro ζ δ θ
  refine up _ _ _ _ _ (E.al3 5 6 18 rfl rfl rfl ?_ ?_ ?_)
  ·
   exact A.G.dup (e := 5) (a0' := ⟨θ, 0, none⟩) (c2 := s.c0) 0 1 (R.flat V.d V.n) rfl (by kernel_rfl) (by kernel_rfl) (R.flat_len _ _).symm (by kernel_rfl) (by kernel_rfl) (by rw [R.flat_len]; have := hw.n; have := R.len_le V; omega) (by rw [R.flat_len]; have := hw.n; have := R.len_le V; omega) (by kernel_rfl) (fun α β => E.hb (dn _ _ _ _ _ (nd30 α β ζ δ)))
  ·
   exact A.G.empty (e := 5) (sz := 1) (by kernel_rfl) (by kernel_rfl) (by kernel_rfl) (fun η => E.hb (dn _ _ _ _ _ (nd38 ζ δ θ η)))
  exact A.G.empty (e := 5) (sz := 1) (by kernel_rfl) (by kernel_rfl) (by kernel_rfl) (fun ε => E.hb (dn _ _ _ _ _ (nd44 ζ ε δ θ)))
 have nd42 : ∀ (ζ θ : Nat), H 11 (E.bits 37 16617437087) [(2, .pointer none), (3, .slice (some ⟨θ, 0, none⟩) 0 0), (7, .slice s.a0 (256 * V.n) s.c0), (13, .slice s.a1 (256 * R.len V) s.c1), (15, .slice (some ⟨ζ, 0, none⟩) 0 0), (19, .slice s.a2 (256 * V.n) s.c2), (25, .slice s.a3 (256 * R.len V) s.c3), (31, .slice s.a4 V.n s.c4), (36, .bool V.coh)] (A.X w oo aa (R.vs s V)) [(r, R.cells s V)] := by
  intro ζ θ
  refine up _ _ _ _ _ (E.al4 5 6 18 24 rfl rfl rfl rfl ?_ ?_ ?_ ?_)
  ·
   exact A.G.dup (e := 5) (a0' := ⟨θ, 0, none⟩) (c2 := s.c0) 0 1 (R.flat V.d V.n) rfl (by kernel_rfl) (by kernel_rfl) (R.flat_len _ _).symm (by kernel_rfl) (by kernel_rfl) (by rw [R.flat_len]; have := hw.n; have := R.len_le V; omega) (by rw [R.flat_len]; have := hw.n; have := R.len_le V; omega) (by kernel_rfl) (fun α β => E.hb (dn _ _ _ _ _ (nd27 α β ζ)))
  ·
   exact A.G.empty (e := 5) (sz := 1) (by kernel_rfl) (by kernel_rfl) (by kernel_rfl) (fun η => E.hb (dn _ _ _ _ _ (nd35 ζ θ η)))
  ·
   exact A.G.empty (e := 5) (sz := 1) (by kernel_rfl) (by kernel_rfl) (by kernel_rfl) (fun ε => E.hb (dn _ _ _ _ _ (nd43 ζ ε θ)))
  exact A.G.empty (e := 3) (sz := 1) (by kernel_rfl) (by kernel_rfl) (by kernel_rfl) (fun δ => E.hb (dn _ _ _ _ _ (nd45 ζ δ θ)))
 have nd47 : ∀ (ε δ θ : Nat), H 10 (E.bits 37 16634472351) [(2, .pointer none), (3, .slice (some ⟨θ, 0, none⟩) 0 0), (7, .slice s.a0 (256 * V.n) s.c0), (13, .slice s.a1 (256 * R.len V) s.c1), (19, .slice s.a2 (256 * V.n) s.c2), (21, .slice (some ⟨ε, 0, none⟩) 0 0), (25, .slice s.a3 (256 * R.len V) s.c3), (27, .slice (some ⟨δ, 0, none⟩) 0 0), (31, .slice s.a4 V.n s.c4), (36, .bool V.coh)] (A.X w oo aa (R.vs s V)) [(r, R.cells s V)] := by
  intro ε δ θ
  refine up _ _ _ _ _ (E.al3 5 6 12 rfl rfl rfl ?_ ?_ ?_)
  ·
   exact A.G.dup (e := 5) (a0' := ⟨θ, 0, none⟩) (c2 := s.c0) 0 1 (R.flat V.d V.n) rfl (by kernel_rfl) (by kernel_rfl) (R.flat_len _ _).symm (by kernel_rfl) (by kernel_rfl) (by rw [R.flat_len]; have := hw.n; have := R.len_le V; omega) (by rw [R.flat_len]; have := hw.n; have := R.len_le V; omega) (by kernel_rfl) (fun α β => E.hb (dn _ _ _ _ _ (nd32 α β ε δ)))
  ·
   exact A.G.empty (e := 5) (sz := 1) (by kernel_rfl) (by kernel_rfl) (by kernel_rfl) (fun η => E.hb (dn _ _ _ _ _ (nd40 ε δ θ η)))
  exact A.G.empty (e := 5) (sz := 1) (by kernel_rfl) (by kernel_rfl) (by kernel_rfl) (fun ζ => E.hb (dn _ _ _ _ _ (nd44 ζ ε δ θ)))
 have nd46 : ∀ (ε θ : Nat), H 11 (E.bits 37 16617695135) [(2, .pointer none), (3, .slice (some ⟨θ, 0, none⟩) 0 0), (7, .slice s.a0 (256 * V.n) s.c0), (13, .slice s.a1 (256 * R.len V) s.c1), (19, .slice s.a2 (256 * V.n) s.c2), (21, .slice (some ⟨ε, 0, none⟩) 0 0), (25, .slice s.a3 (256 * R.len V) s.c3), (31, .slice s.a4 V.n s.c4), (36, .bool V.coh)] (A.X w oo aa (R.vs s V)) [(r, R.cells s V)] := by
  intro ε θ
  refine up _ _ _ _ _ (E.al4 5 6 12 24 rfl rfl rfl rfl ?_ ?_ ?_ ?_)
  ·
   exact A.G.dup (e := 5) (a0' := ⟨θ, 0, none⟩) (c2 := s.c0) 0 1 (R.flat V.d V.n) rfl (by kernel_rfl) (by kernel_rfl) (R.flat_len _ _).symm (by kernel_rfl) (by kernel_rfl) (by rw [R.flat_len]; have := hw.n; have := R.len_le V; omega) (by rw [R.flat_len]; have := hw.n; have := R.len_le V; omega) (by kernel_rfl) (fun α β => E.hb (dn _ _ _ _ _ (nd31 α β ε)))
  ·
   exact A.G.empty (e := 5) (sz := 1) (by kernel_rfl) (by kernel_rfl) (by kernel_rfl) (fun η => E.hb (dn _ _ _ _ _ (nd39 ε θ η)))
  ·
   exact A.G.empty (e := 5) (sz := 1) (by kernel_rfl) (by kernel_rfl) (by kernel_rfl) (fun ζ => E.hb (dn _ _ _ _ _ (nd43 ζ ε θ)))
  exact A.G.empty (e := 3) (sz := 1) (by kernel_rfl) (by kernel_rfl) (by kernel_rfl) (fun δ => E.hb (dn _ _ _ _ _ (nd47 ε δ θ)))
 have nd48 : ∀ (δ θ : Nat), H 11 (E.bits 37 16634210207) [(2, .pointer none), (3, .slice (some ⟨θ, 0, none⟩) 0 0), (7, .slice s.a0 (256 * V.n) s.c0), (13, .slice s.a1 (256 * R.len V) s.c1), (19, .slice s.a2 (256 * V.n) s.c2), (25, .slice s.a3 (256 * R.len V) s.c3), (27, .slice (some ⟨δ, 0, none⟩) 0 0), (31, .slice s.a4 V.n s.c4), (36, .bool V.coh)] (A.X w oo aa (R.vs s V)) [(r, R.cells s V)] := by
  intro δ θ
  refine up _ _ _ _ _ (E.al4 5 6 12 18 rfl rfl rfl rfl ?_ ?_ ?_ ?_)
  ·
   exact A.G.dup (e := 5) (a0' := ⟨θ, 0, none⟩) (c2 := s.c0) 0 1 (R.flat V.d V.n) rfl (by kernel_rfl) (by kernel_rfl) (R.flat_len _ _).symm (by kernel_rfl) (by kernel_rfl) (by rw [R.flat_len]; have := hw.n; have := R.len_le V; omega) (by rw [R.flat_len]; have := hw.n; have := R.len_le V; omega) (by kernel_rfl) (fun α β => E.hb (dn _ _ _ _ _ (nd33 α β δ)))
  ·
   exact A.G.empty (e := 5) (sz := 1) (by kernel_rfl) (by kernel_rfl) (by kernel_rfl) (fun η => E.hb (dn _ _ _ _ _ (nd41 δ θ η)))
  ·
   exact A.G.empty (e := 5) (sz := 1) (by kernel_rfl) (by kernel_rfl) (by kernel_rfl) (fun ζ => E.hb (dn _ _ _ _ _ (nd45 ζ δ θ)))
  exact A.G.empty (e := 5) (sz := 1) (by kernel_rfl) (by kernel_rfl) (by kernel_rfl) (fun ε => E.hb (dn _ _ _ _ _ (nd47 ε δ θ)))
 have nd0 : ∀ (θ : Nat), H 12 (E.bits 37 16617432991) [(2, .pointer none), (3, .slice (some ⟨θ, 0, none⟩) 0 0), (7, .slice s.a0 (256 * V.n) s.c0), (13, .slice s.a1 (256 * R.len V) s.c1), (19, .slice s.a2 (256 * V.n) s.c2), (25, .slice s.a3 (256 * R.len V) s.c3), (31, .slice s.a4 V.n s.c4), (36, .bool V.coh)] (A.X w oo aa (R.vs s V)) [(r, R.cells s V)] := by
  intro θ
  refine up _ _ _ _ _ (E.al5 5 6 12 18 24 rfl rfl rfl rfl rfl ?_ ?_ ?_ ?_ ?_)
  ·
   exact A.G.dup (e := 5) (a0' := ⟨θ, 0, none⟩) (c2 := s.c0) 0 1 (R.flat V.d V.n) rfl (by kernel_rfl) (by kernel_rfl) (R.flat_len _ _).symm (by kernel_rfl) (by kernel_rfl) (by rw [R.flat_len]; have := hw.n; have := R.len_le V; omega) (by rw [R.flat_len]; have := hw.n; have := R.len_le V; omega) (by kernel_rfl) (fun α β => E.hb (dn _ _ _ _ _ (nd1 α β)))
  ·
   exact A.G.empty (e := 5) (sz := 1) (by kernel_rfl) (by kernel_rfl) (by kernel_rfl) (fun η => E.hb (dn _ _ _ _ _ (nd34 θ η)))
  ·
   exact A.G.empty (e := 5) (sz := 1) (by kernel_rfl) (by kernel_rfl) (by kernel_rfl) (fun ζ => E.hb (dn _ _ _ _ _ (nd42 ζ θ)))
  ·
   exact A.G.empty (e := 5) (sz := 1) (by kernel_rfl) (by kernel_rfl) (by kernel_rfl) (fun ε => E.hb (dn _ _ _ _ _ (nd46 ε θ)))
  exact A.G.empty (e := 3) (sz := 1) (by kernel_rfl) (by kernel_rfl) (by kernel_rfl) (fun δ => E.hb (dn _ _ _ _ _ (nd48 δ θ)))
 have nd52 : ∀ (ζ ε δ η : Nat), H 9 (E.bits 37 16634476510) [(2, .pointer none), (7, .slice s.a0 (256 * V.n) s.c0), (9, .slice (some ⟨η, 0, none⟩) 0 0), (13, .slice s.a1 (256 * R.len V) s.c1), (15, .slice (some ⟨ζ, 0, none⟩) 0 0), (19, .slice s.a2 (256 * V.n) s.c2), (21, .slice (some ⟨ε, 0, none⟩) 0 0), (25, .slice s.a3 (256 * R.len V) s.c3), (27, .slice (some ⟨δ, 0, none⟩) 0 0), (31, .slice s.a4 V.n s.c4), (36, .bool V.coh)] (A.X w oo aa (R.vs s V)) [(r, R.cells s V)] := by
  intro ζ ε δ η
  exact up _ _ _ _ _ (E.al 0 rfl (A.G.empty (e := 5) (sz := 1) (by kernel_rfl) (by kernel_rfl) (by kernel_rfl) (fun θ => E.hb (dn _ _ _ _ _ (nd37 ζ ε δ θ η)))))
 have nd51 : ∀ (ζ ε η : Nat), H 10 (E.bits 37 16617699294) [(2, .pointer none), (7, .slice s.a0 (256 * V.n) s.c0), (9, .slice (some ⟨η, 0, none⟩) 0 0), (13, .slice s.a1 (256 * R.len V) s.c1), (15, .slice (some ⟨ζ, 0, none⟩) 0 0), (19, .slice s.a2 (256 * V.n) s.c2), (21, .slice (some ⟨ε, 0, none⟩) 0 0), (25, .slice s.a3 (256 * R.len V) s.c3), (31, .slice s.a4 V.n s.c4), (36, .bool V.coh)] (A.X w oo aa (R.vs s V)) [(r, R.cells s V)] := by
  intro ζ ε η
  refine up _ _ _ _ _ (E.al2 0 24 rfl rfl ?_ ?_)
  ·
   exact A.G.empty (e := 5) (sz := 1) (by kernel_rfl) (by kernel_rfl) (by kernel_rfl) (fun θ => E.hb (dn _ _ _ _ _ (nd36 ζ ε θ η)))
  exact A.G.empty (e := 3) (sz := 1) (by kernel_rfl) (by kernel_rfl) (by kernel_rfl) (fun δ => E.hb (dn _ _ _ _ _ (nd52 ζ ε δ η)))
 have nd53 : ∀ (ζ δ η : Nat), H 10 (E.bits 37 16634214366) [(2, .pointer none), (7, .slice s.a0 (256 * V.n) s.c0), (9, .slice (some ⟨η, 0, none⟩) 0 0), (13, .slice s.a1 (256 * R.len V) s.c1), (15, .slice (some ⟨ζ, 0, none⟩) 0 0), (19, .slice s.a2 (256 * V.n) s.c2), (25, .slice s.a3 (256 * R.len V) s.c3), (27, .slice (some ⟨δ, 0, none⟩) 0 0), (31, .slice s.a4 V.n s.c4), (36, .bool V.coh)] (A.X w oo aa (R.vs s V)) [(r, R.cells s V)] := by
  intro ζ δ η
  refine up _ _ _ _ _ (E.al2 0 18 rfl rfl ?_ ?_)
  ·
   exact A.G.empty (e := 5) (sz := 1) (by kernel_rfl) (by kernel_rfl) (by kernel_rfl) (fun θ => E.hb (dn _ _ _ _ _ (nd38 ζ δ θ η)))
  exact A.G.empty (e := 5) (sz := 1) (by kernel_rfl) (by kernel_rfl) (by kernel_rfl) (fun ε => E.hb (dn _ _ _ _ _ (nd52 ζ ε δ η)))
 have nd50 : ∀ (ζ η : Nat), H 11 (E.bits 37 16617437150) [(2, .pointer none), (7, .slice s.a0 (256 * V.n) s.c0), (9, .slice (some ⟨η, 0, none⟩) 0 0), (13, .slice s.a1 (256 * R.len V) s.c1), (15, .slice (some ⟨ζ, 0, none⟩) 0 0), (19, .slice s.a2 (256 * V.n) s.c2), (25, .slice s.a3 (256 * R.len V) s.c3), (31, .slice s.a4 V.n s.c4), (36, .bool V.coh)] (A.X w oo aa (R.vs s V)) [(r, R.cells s V)] := by
  intro ζ η
  refine up _ _ _ _ _ (E.al3 0 18 24 rfl rfl rfl ?_ ?_ ?_)
  ·
   exact A.G.empty (e := 5) (sz := 1) (by kernel_rfl) (by kernel_rfl) (by kernel_rfl) (fun θ => E.hb (dn _ _ _ _ _ (nd35 ζ θ η)))
  ·
   exact A.G.empty (e := 5) (sz := 1) (by kernel_rfl) (by kernel_rfl) (by kernel_rfl) (fun ε => E.hb (dn _ _ _ _ _ (nd51 ζ ε η)))
  exact A.G.empty (e := 3) (sz := 1) (by kernel_rfl) (by kernel_rfl) (by kernel_rfl) (fun δ => E.hb (dn _ _ _ _ _ (nd53 ζ δ η)))
 have nd55 : ∀ (ε δ η : Nat), H 10 (E.bits 37 16634472414) [(2, .pointer none), (7, .slice s.a0 (256 * V.n) s.c0), (9, .slice (some ⟨η, 0, none⟩) 0 0), (13, .slice s.a1 (256 * R.len V) s.c1), (19, .slice s.a2 (256 * V.n) s.c2), (21, .slice (some ⟨ε, 0, none⟩) 0 0), (25, .slice s.a3 (256 * R.len V) s.c3), (27, .slice (some ⟨δ, 0, none⟩) 0 0), (31, .slice s.a4 V.n s.c4), (36, .bool V.coh)] (A.X w oo aa (R.vs s V)) [(r, R.cells s V)] := by
  intro ε δ η
  refine up _ _ _ _ _ (E.al2 0 12 rfl rfl ?_ ?_)
  ·
   exact A.G.empty (e := 5) (sz := 1) (by kernel_rfl) (by kernel_rfl) (by kernel_rfl) (fun θ => E.hb (dn _ _ _ _ _ (nd40 ε δ θ η)))
  exact A.G.empty (e := 5) (sz := 1) (by kernel_rfl) (by kernel_rfl) (by kernel_rfl) (fun ζ => E.hb (dn _ _ _ _ _ (nd52 ζ ε δ η)))
 have nd54 : ∀ (ε η : Nat), H 11 (E.bits 37 16617695198) [(2, .pointer none), (7, .slice s.a0 (256 * V.n) s.c0), (9, .slice (some ⟨η, 0, none⟩) 0 0), (13, .slice s.a1 (256 * R.len V) s.c1), (19, .slice s.a2 (256 * V.n) s.c2), (21, .slice (some ⟨ε, 0, none⟩) 0 0), (25, .slice s.a3 (256 * R.len V) s.c3), (31, .slice s.a4 V.n s.c4), (36, .bool V.coh)] (A.X w oo aa (R.vs s V)) [(r, R.cells s V)] := by
  intro ε η
  refine up _ _ _ _ _ (E.al3 0 12 24 rfl rfl rfl ?_ ?_ ?_)
  ·
   exact A.G.empty (e := 5) (sz := 1) (by kernel_rfl) (by kernel_rfl) (by kernel_rfl) (fun θ => E.hb (dn _ _ _ _ _ (nd39 ε θ η)))
  ·
   exact A.G.empty (e := 5) (sz := 1) (by kernel_rfl) (by kernel_rfl) (by kernel_rfl) (fun ζ => E.hb (dn _ _ _ _ _ (nd51 ζ ε η)))
  exact A.G.empty (e := 3) (sz := 1) (by kernel_rfl) (by kernel_rfl) (by kernel_rfl) (fun δ => E.hb (dn _ _ _ _ _ (nd55 ε δ η)))
 have nd56 : ∀ (δ η : Nat), H 11 (E.bits 37 16634210270) [(2, .pointer none), (7, .slice s.a0 (256 * V.n) s.c0), (9, .slice (some ⟨η, 0, none⟩) 0 0), (13, .slice s.a1 (256 * R.len V) s.c1), (19, .slice s.a2 (256 * V.n) s.c2), (25, .slice s.a3 (256 * R.len V) s.c3), (27, .slice (some ⟨δ, 0, none⟩) 0 0), (31, .slice s.a4 V.n s.c4), (36, .bool V.coh)] (A.X w oo aa (R.vs s V)) [(r, R.cells s V)] := by
  intro δ η
  refine up _ _ _ _ _ (E.al3 0 12 18 rfl rfl rfl ?_ ?_ ?_)
  ·
   exact A.G.empty (e := 5) (sz := 1) (by kernel_rfl) (by kernel_rfl) (by kernel_rfl) (fun θ => E.hb (dn _ _ _ _ _ (nd41 δ θ η)))
  ·
   exact A.G.empty (e := 5) (sz := 1) (by kernel_rfl) (by kernel_rfl) (by kernel_rfl) (fun ζ => E.hb (dn _ _ _ _ _ (nd53 ζ δ η)))
  exact A.G.empty (e := 5) (sz := 1) (by kernel_rfl) (by kernel_rfl) (by kernel_rfl) (fun ε => E.hb (dn _ _ _ _ _ (nd55 ε δ η)))
 have nd49 : ∀ (η : Nat), H 12 (E.bits 37 16617433054) [(2, .pointer none), (7, .slice s.a0 (256 * V.n) s.c0), (9, .slice (some ⟨η, 0, none⟩) 0 0), (13, .slice s.a1 (256 * R.len V) s.c1), (19, .slice s.a2 (256 * V.n) s.c2), (25, .slice s.a3 (256 * R.len V) s.c3), (31, .slice s.a4 V.n s.c4), (36, .bool V.coh)] (A.X w oo aa (R.vs s V)) [(r, R.cells s V)] := by
  intro η
  refine up _ _ _ _ _ (E.al4 0 12 18 24 rfl rfl rfl rfl ?_ ?_ ?_ ?_)
  ·
   exact A.G.empty (e := 5) (sz := 1) (by kernel_rfl) (by kernel_rfl) (by kernel_rfl) (fun θ => E.hb (dn _ _ _ _ _ (nd34 θ η)))
  ·
   exact A.G.empty (e := 5) (sz := 1) (by kernel_rfl) (by kernel_rfl) (by kernel_rfl) (fun ζ => E.hb (dn _ _ _ _ _ (nd50 ζ η)))
  ·
   exact A.G.empty (e := 5) (sz := 1) (by kernel_rfl) (by kernel_rfl) (by kernel_rfl) (fun ε => E.hb (dn _ _ _ _ _ (nd54 ε η)))
  exact A.G.empty (e := 3) (sz := 1) (by kernel_rfl) (by kernel_rfl) (by kernel_rfl) (fun δ => E.hb (dn _ _ _ _ _ (nd56 δ η)))
 have nd59 : ∀ (ζ ε δ : Nat), H 10 (E.bits 37 16634476446) [(2, .pointer none), (7, .slice s.a0 (256 * V.n) s.c0), (13, .slice s.a1 (256 * R.len V) s.c1), (15, .slice (some ⟨ζ, 0, none⟩) 0 0), (19, .slice s.a2 (256 * V.n) s.c2), (21, .slice (some ⟨ε, 0, none⟩) 0 0), (25, .slice s.a3 (256 * R.len V) s.c3), (27, .slice (some ⟨δ, 0, none⟩) 0 0), (31, .slice s.a4 V.n s.c4), (36, .bool V.coh)] (A.X w oo aa (R.vs s V)) [(r, R.cells s V)] := by
  intro ζ ε δ
  refine up _ _ _ _ _ (E.al2 0 6 rfl rfl ?_ ?_)
  ·
   exact A.G.empty (e := 5) (sz := 1) (by kernel_rfl) (by kernel_rfl) (by kernel_rfl) (fun θ => E.hb (dn _ _ _ _ _ (nd44 ζ ε δ θ)))
  exact A.G.empty (e := 5) (sz := 1) (by kernel_rfl) (by kernel_rfl) (by kernel_rfl) (fun η => E.hb (dn _ _ _ _ _ (nd52 ζ ε δ η)))
 have nd58 : ∀ (ζ ε : Nat), H 11 (E.bits 37 16617699230) [(2, .pointer none), (7, .slice s.a0 (256 * V.n) s.c0), (13, .slice s.a1 (256 * R.len V) s.c1), (15, .slice (some ⟨ζ, 0, none⟩) 0 0), (19, .slice s.a2 (256 * V.n) s.c2), (21, .slice (some ⟨ε, 0, none⟩) 0 0), (25, .slice s.a3 (256 * R.len V) s.c3), (31, .slice s.a4 V.n s.c4), (36, .bool V.coh)] (A.X w oo aa (R.vs s V)) [(r, R.cells s V)] := by
  intro ζ ε
  refine up _ _ _ _ _ (E.al3 0 6 24 rfl rfl rfl ?_ ?_ ?_)
  ·
   exact A.G.empty (e := 5) (sz := 1) (by kernel_rfl) (by kernel_rfl) (by kernel_rfl) (fun θ => E.hb (dn _ _ _ _ _ (nd43 ζ ε θ)))
  ·
   exact A.G.empty (e := 5) (sz := 1) (by kernel_rfl) (by kernel_rfl) (by kernel_rfl) (fun η => E.hb (dn _ _ _ _ _ (nd51 ζ ε η)))
  exact A.G.empty (e := 3) (sz := 1) (by kernel_rfl) (by kernel_rfl) (by kernel_rfl) (fun δ => E.hb (dn _ _ _ _ _ (nd59 ζ ε δ)))
 have nd60 : ∀ (ζ δ : Nat), H 11 (E.bits 37 16634214302) [(2, .pointer none), (7, .slice s.a0 (256 * V.n) s.c0), (13, .slice s.a1 (256 * R.len V) s.c1), (15, .slice (some ⟨ζ, 0, none⟩) 0 0), (19, .slice s.a2 (256 * V.n) s.c2), (25, .slice s.a3 (256 * R.len V) s.c3), (27, .slice (some ⟨δ, 0, none⟩) 0 0), (31, .slice s.a4 V.n s.c4), (36, .bool V.coh)] (A.X w oo aa (R.vs s V)) [(r, R.cells s V)] := by
  intro ζ δ
  refine up _ _ _ _ _ (E.al3 0 6 18 rfl rfl rfl ?_ ?_ ?_)
  ·
   exact A.G.empty (e := 5) (sz := 1) (by kernel_rfl) (by kernel_rfl) (by kernel_rfl) (fun θ => E.hb (dn _ _ _ _ _ (nd45 ζ δ θ)))
  ·
   exact A.G.empty (e := 5) (sz := 1) (by kernel_rfl) (by kernel_rfl) (by kernel_rfl) (fun η => E.hb (dn _ _ _ _ _ (nd53 ζ δ η)))
  exact A.G.empty (e := 5) (sz := 1) (by kernel_rfl) (by kernel_rfl) (by kernel_rfl) (fun ε => E.hb (dn _ _ _ _ _ (nd59 ζ ε δ)))
 have nd57 : ∀ (ζ : Nat), H 12 (E.bits 37 16617437086) [(2, .pointer none), (7, .slice s.a0 (256 * V.n) s.c0), (13, .slice s.a1 (256 * R.len V) s.c1), (15, .slice (some ⟨ζ, 0, none⟩) 0 0), (19, .slice s.a2 (256 * V.n) s.c2), (25, .slice s.a3 (256 * R.len V) s.c3), (31, .slice s.a4 V.n s.c4), (36, .bool V.coh)] (A.X w oo aa (R.vs s V)) [(r, R.cells s V)] := by
  intro ζ
  refine up _ _ _ _ _ (E.al4 0 6 18 24 rfl rfl rfl rfl ?_ ?_ ?_ ?_)
  ·
   exact A.G.empty (e := 5) (sz := 1) (by kernel_rfl) (by kernel_rfl) (by kernel_rfl) (fun θ => E.hb (dn _ _ _ _ _ (nd42 ζ θ)))
  ·
   exact A.G.empty (e := 5) (sz := 1) (by kernel_rfl) (by kernel_rfl) (by kernel_rfl) (fun η => E.hb (dn _ _ _ _ _ (nd50 ζ η)))
  ·
   exact A.G.empty (e := 5) (sz := 1) (by kernel_rfl) (by kernel_rfl) (by kernel_rfl) (fun ε => E.hb (dn _ _ _ _ _ (nd58 ζ ε)))
  exact A.G.empty (e := 3) (sz := 1) (by kernel_rfl) (by kernel_rfl) (by kernel_rfl) (fun δ => E.hb (dn _ _ _ _ _ (nd60 ζ δ)))
 have nd62 : ∀ (ε δ : Nat), H 11 (E.bits 37 16634472350) [(2, .pointer none), (7, .slice s.a0 (256 * V.n) s.c0), (13, .slice s.a1 (256 * R.len V) s.c1), (19, .slice s.a2 (256 * V.n) s.c2), (21, .slice (some ⟨ε, 0, none⟩) 0 0), (25, .slice s.a3 (256 * R.len V) s.c3), (27, .slice (some ⟨δ, 0, none⟩) 0 0), (31, .slice s.a4 V.n s.c4), (36, .bool V.coh)] (A.X w oo aa (R.vs s V)) [(r, R.cells s V)] := by
  intro ε δ
  refine up _ _ _ _ _ (E.al3 0 6 12 rfl rfl rfl ?_ ?_ ?_)
  ·
   exact A.G.empty (e := 5) (sz := 1) (by kernel_rfl) (by kernel_rfl) (by kernel_rfl) (fun θ => E.hb (dn _ _ _ _ _ (nd47 ε δ θ)))
  ·
   exact A.G.empty (e := 5) (sz := 1) (by kernel_rfl) (by kernel_rfl) (by kernel_rfl) (fun η => E.hb (dn _ _ _ _ _ (nd55 ε δ η)))
  exact A.G.empty (e := 5) (sz := 1) (by kernel_rfl) (by kernel_rfl) (by kernel_rfl) (fun ζ => E.hb (dn _ _ _ _ _ (nd59 ζ ε δ)))
 have nd61 : ∀ (ε : Nat), H 12 (E.bits 37 16617695134) [(2, .pointer none), (7, .slice s.a0 (256 * V.n) s.c0), (13, .slice s.a1 (256 * R.len V) s.c1), (19, .slice s.a2 (256 * V.n) s.c2), (21, .slice (some ⟨ε, 0, none⟩) 0 0), (25, .slice s.a3 (256 * R.len V) s.c3), (31, .slice s.a4 V.n s.c4), (36, .bool V.coh)] (A.X w oo aa (R.vs s V)) [(r, R.cells s V)] := by
  intro ε
  refine up _ _ _ _ _ (E.al4 0 6 12 24 rfl rfl rfl rfl ?_ ?_ ?_ ?_)
  ·
   exact A.G.empty (e := 5) (sz := 1) (by kernel_rfl) (by kernel_rfl) (by kernel_rfl) (fun θ => E.hb (dn _ _ _ _ _ (nd46 ε θ)))
  ·
   exact A.G.empty (e := 5) (sz := 1) (by kernel_rfl) (by kernel_rfl) (by kernel_rfl) (fun η => E.hb (dn _ _ _ _ _ (nd54 ε η)))
  ·
   exact A.G.empty (e := 5) (sz := 1) (by kernel_rfl) (by kernel_rfl) (by kernel_rfl) (fun ζ => E.hb (dn _ _ _ _ _ (nd58 ζ ε)))
  exact A.G.empty (e := 3) (sz := 1) (by kernel_rfl) (by kernel_rfl) (by kernel_rfl) (fun δ => E.hb (dn _ _ _ _ _ (nd62 ε δ)))
 have nd63 : ∀ (δ : Nat), H 12 (E.bits 37 16634210206) [(2, .pointer none), (7, .slice s.a0 (256 * V.n) s.c0), (13, .slice s.a1 (256 * R.len V) s.c1), (19, .slice s.a2 (256 * V.n) s.c2), (25, .slice s.a3 (256 * R.len V) s.c3), (27, .slice (some ⟨δ, 0, none⟩) 0 0), (31, .slice s.a4 V.n s.c4), (36, .bool V.coh)] (A.X w oo aa (R.vs s V)) [(r, R.cells s V)] := by
  intro δ
  refine up _ _ _ _ _ (E.al4 0 6 12 18 rfl rfl rfl rfl ?_ ?_ ?_ ?_)
  ·
   exact A.G.empty (e := 5) (sz := 1) (by kernel_rfl) (by kernel_rfl) (by kernel_rfl) (fun θ => E.hb (dn _ _ _ _ _ (nd48 δ θ)))
  ·
   exact A.G.empty (e := 5) (sz := 1) (by kernel_rfl) (by kernel_rfl) (by kernel_rfl) (fun η => E.hb (dn _ _ _ _ _ (nd56 δ η)))
  ·
   exact A.G.empty (e := 5) (sz := 1) (by kernel_rfl) (by kernel_rfl) (by kernel_rfl) (fun ζ => E.hb (dn _ _ _ _ _ (nd60 ζ δ)))
  exact A.G.empty (e := 5) (sz := 1) (by kernel_rfl) (by kernel_rfl) (by kernel_rfl) (fun ε => E.hb (dn _ _ _ _ _ (nd62 ε δ)))
 refine up _ _ _ _ _ (E.tk 1 (E.pt r) rfl (fun w h => A.hpY0 h (by kernel_rfl)) (E.tk 2 (E.pt r) rfl (fun w h => A.hpY0 h (by kernel_rfl)) (E.tk 3 (E.pt r) rfl (fun w h => A.hpY0 h (by kernel_rfl)) (E.tj 4 (.slice s.a0 (256 * V.n) s.c0) rfl (fun w h => A.hpY0 h (by kernel_rfl)) (fun w h => A.Y.bld h (k := 0) (j := 0) rfl (by kernel_rfl) (by kernel_rfl)) (E.tk 7 (E.pt r) rfl (fun w h => A.hpY0 h (by kernel_rfl)) (E.tk 8 (E.pt r) rfl (fun w h => A.hpY0 h (by kernel_rfl)) (E.tk 9 (.pointer (some ⟨r, 1, none⟩)) rfl (fun w h => A.hpY0 h (by kernel_rfl)) (E.tj 10 (.slice s.a1 (256 * R.len V) s.c1) rfl (fun w h => A.hpY0 h (by kernel_rfl)) (fun w h => A.Y.bld h (k := 0) (j := 1) rfl (by kernel_rfl) (by kernel_rfl)) (E.tk 13 (E.pt r) rfl (fun w h => A.hpY0 h (by kernel_rfl)) (E.tk 14 (E.pt r) rfl (fun w h => A.hpY0 h (by kernel_rfl)) (E.tk 15 (.pointer (some ⟨r, 2, none⟩)) rfl (fun w h => A.hpY0 h (by kernel_rfl)) ?_)))))))))))
 refine E.tj 16 (.slice s.a2 (256 * V.n) s.c2) rfl (fun w h => A.hpY0 h (by kernel_rfl)) (fun w h => A.Y.bld h (k := 0) (j := 2) rfl (by kernel_rfl) (by kernel_rfl)) (E.tk 19 (E.pt r) rfl (fun w h => A.hpY0 h (by kernel_rfl)) (E.tk 20 (E.pt r) rfl (fun w h => A.hpY0 h (by kernel_rfl)) (E.tk 21 (.pointer (some ⟨r, 3, none⟩)) rfl (fun w h => A.hpY0 h (by kernel_rfl)) (E.tj 22 (.slice s.a3 (256 * R.len V) s.c3) rfl (fun w h => A.hpY0 h (by kernel_rfl)) (fun w h => A.Y.bld h (k := 0) (j := 3) rfl (by kernel_rfl) (by kernel_rfl)) (E.tk 25 (E.pt r) rfl (fun w h => A.hpY0 h (by kernel_rfl)) (E.tk 26 (E.pt r) rfl (fun w h => A.hpY0 h (by kernel_rfl)) (E.tk 27 (.pointer (some ⟨r, 4, none⟩)) rfl (fun w h => A.hpY0 h (by kernel_rfl)) (E.tj 28 (.slice s.a4 V.n s.c4) rfl (fun w h => A.hpY0 h (by kernel_rfl)) (fun w h => A.Y.bld h (k := 0) (j := 4) rfl (by kernel_rfl) (by kernel_rfl)) (E.tk 30 (E.pt r) rfl (fun w h => A.hpY0 h (by kernel_rfl)) (E.tk 31 (E.pt r) rfl (fun w h => A.hpY0 h (by kernel_rfl)) (E.tk 32 (.pointer (some ⟨r, 5, none⟩)) rfl (fun w h => A.hpY0 h (by kernel_rfl)) ?_)))))))))))
 refine E.tj 33 (.bool V.coh) rfl (fun w h => A.hpY0 h (by kernel_rfl)) (fun w h => A.Y.bld h (k := 0) (j := 5) rfl (by kernel_rfl) (by kernel_rfl)) (E.al5 0 6 12 18 24 rfl rfl rfl rfl rfl ?_ ?_ ?_ ?_ ?_)
 ·
  exact A.G.empty (e := 5) (sz := 1) (by kernel_rfl) (by kernel_rfl) (by kernel_rfl) (fun θ => E.hb (dn _ _ _ _ _ (nd0 θ)))
 ·
  exact A.G.empty (e := 5) (sz := 1) (by kernel_rfl) (by kernel_rfl) (by kernel_rfl) (fun η => E.hb (dn _ _ _ _ _ (nd49 η)))
 ·
  exact A.G.empty (e := 5) (sz := 1) (by kernel_rfl) (by kernel_rfl) (by kernel_rfl) (fun ζ => E.hb (dn _ _ _ _ _ (nd57 ζ)))
 ·
  exact A.G.empty (e := 5) (sz := 1) (by kernel_rfl) (by kernel_rfl) (by kernel_rfl) (fun ε => E.hb (dn _ _ _ _ _ (nd61 ε)))
 exact A.G.empty (e := 3) (sz := 1) (by kernel_rfl) (by kernel_rfl) (by kernel_rfl) (fun δ => E.hb (dn _ _ _ _ _ (nd63 δ)))
theorem R_Copy {r : Nat} {V : M.V} : A.Tr Tryz.prog 37 #[.pointer (some ⟨r, 0, none⟩)] [R.It r V] (I := Nat) (fun _ => True) (fun g => .pointer (some ⟨g, 0, none⟩)) (fun g => [R.It r V, R.It g V]) := R.copy_it (p := []) fun s hw => R_Copy_s hw
end Go.Proofs.YtgbndbljohpnmaaGreat
