/- Texts of the walk, merged (4): see the remark ahead of each. -/
import Derived.Test.YtgbndbljohpnmaaGreatYd3
import Derived.Test.YtgbndbljohpnmaaGreatProg
import Derived.Lib.ConvBytes
namespace Go.Proofs.YtgbndbljohpnmaaGreat
set_option linter.unusedVariables false
set_option linter.unusedSimpArgs false
open Go.RowKit
theorem Q.wrap_bd (x : Int) : 0 ≤ IntKind.wrap .u32 x ∧ IntKind.wrap .u32 x < 4294967296 := by
  show 0 ≤ x % 4294967296 ∧ x % 4294967296 < 4294967296
  omega
def Q.of (op : Int) : Q.Sh := (bif ((decide (op < 0)) || (decide (op ≥ 64))) then ⟨false, false, false, false, 0, 0, 0⟩ else (Q.shf (op).toNat))
theorem of_any (op : Int) (w : World) : Calls Tryz.prog 84 #[.int .i64 op] w fun e w' => e = .returned (.agg #[.bool ((Q.of op).kn), .bool ((Q.of op).d), .bool ((Q.of op).a), .bool ((Q.of op).b), .int .i64 ((Q.of op).kind), .int .i64 (((Q.of op).bits : Nat) : Int), .int .u32 ((Q.of op).most)]) ∧ Bel w w' := by
 refine E.enter (n := 15) (S := fun _ => False) Tryz.func84 rfl rfl (by kernel_rfl) (E.Hp.start w) (E.sr (E.G.new (fun g => E.pt g) [.bool false, .bool false, .bool false, .bool false, E.i 0, E.i 0, E.u 0] 155 (fun w => by kernel_rfl) (by kernel_rfl) (fun g1 => E.tr (E.G.call (.agg (Q.tab Q.shf).toArray) (fun w h => shapes_any w) (fun w _ => by kernel_rfl) (by kernel_rfl) (E.G.new (fun g => E.pt g) (Q.tab (fun _ => Q.sh0)) 158 (fun w => by kernel_rfl) (by kernel_rfl) (fun g2 => E.G.store 0 (Q.tab Q.shf) rfl rfl (Q.sto_all (by kernel_rfl)) (by kernel_rfl) (E.To.code (E.C.seq (E.sr (E.op (E.i op) (E.op (.bool (decide (op < 0))) ?_)))))))))))
 refine E.op (.bool (decide (op < 0))) (E.G.cut 3 [(0, E.i op), (2, E.pt g1), (3, E.pt g2), (10, .bool ((decide (op < 0)) || (decide (op ≥ 64))))] (fun _ => True) [(g2, (Q.tab Q.shf)), (g1, [.bool false, .bool false, .bool false, .bool false, E.i 0, E.i 0, E.u 0])] ?_ ?_)
 ·
  generalize hc3 : (decide (op < 0)) = b4
  cases b4
  ·
   exact E.op (E.i op) (E.op (.bool (decide (op ≥ 64))) (E.op (.bool (decide (op ≥ 64))) (E.G.end_pst ⟨by kernel_rfl, by kernel_rfl⟩ Nz.sub (fun _ h => h))))
  exact E.sk (E.sk (E.op (.bool true) (E.G.end_pst ⟨by kernel_rfl, by kernel_rfl⟩ Nz.sub (fun _ h => h))))
 refine E.To.code (E.cd ((decide (op < 0)) || (decide (op ≥ 64))) (fun hc5 => ?_) (fun hc5 => ?_))
 ·
  refine E.sr (E.vl (.agg #[.bool false, .bool false, .bool false, .bool false, E.i 0, E.i 0, E.u 0]) (fun w h => E.run_build #[.bool false, .bool false, .bool false, .bool false, E.i 0, E.i 0, E.u 0] (by kernel_rfl) w) (E.st 1 [.bool false, .bool false, .bool false, .bool false, E.i 0, E.i 0, E.u 0] rfl rfl (E.To.code (E.C.ret (E.P.rt (E.To.body (fn := Tryz.f84) [.agg #[.bool false, .bool false, .bool false, .bool false, E.i 0, E.i 0, E.u 0]] ?_ ?_))))))
  · exact ⟨⟨by kernel_rfl, _, _, 1, _, rfl, rfl, by kernel_rfl⟩, trivial⟩
  intro w h
  exact ⟨by show Ending.returned (.agg #[.bool false, .bool false, .bool false, .bool false, .int .i64 0, .int .i64 0, .int .u32 0]) = _; unfold Q.of; rw [hc5, cond_true] <;> rfl, h.ch.bel (fun _ h => h.elim)⟩
 refine E.C.skip (E.To.code (E.sr (E.op (E.i op) (E.vl (.pointer (some ⟨g2, 0 + (op).toNat * 7, none⟩)) (fun w h => E.idxA (e := 155) g2 0 64 7 .i64 (op) (by kernel_rfl) (by kernel_rfl) (by kernel_rfl) (by kernel_rfl) (by simp only [Bool.or_eq_false_iff, decide_eq_false_iff_not] at *; omega) (by simp only [Bool.or_eq_false_iff, decide_eq_false_iff_not] at *; omega) w) (E.vl (.agg #[.bool ((Q.shf (op).toNat).kn), .bool ((Q.shf (op).toNat).d), .bool ((Q.shf (op).toNat).a), .bool ((Q.shf (op).toNat).b), E.i ((Q.shf (op).toNat).kind), E.i (((Q.shf (op).toNat).bits : Nat) : Int), E.u ((Q.shf (op).toNat).most)]) (fun w h => E.run_load h 0 rfl rfl (Q.ld_tab (by kernel_rfl) (by kernel_rfl) (by simp only [Bool.or_eq_false_iff, decide_eq_false_iff_not] at *; omega))) (E.st 1 [.bool ((Q.shf (op).toNat).kn), .bool ((Q.shf (op).toNat).d), .bool ((Q.shf (op).toNat).a), .bool ((Q.shf (op).toNat).b), E.i ((Q.shf (op).toNat).kind), E.i (((Q.shf (op).toNat).bits : Nat) : Int), E.u ((Q.shf (op).toNat).most)] rfl rfl (E.To.code (E.C.ret (E.To.body (fn := Tryz.f84) [.agg #[.bool ((Q.shf (op).toNat).kn), .bool ((Q.shf (op).toNat).d), .bool ((Q.shf (op).toNat).a), .bool ((Q.shf (op).toNat).b), E.i ((Q.shf (op).toNat).kind), E.i (((Q.shf (op).toNat).bits : Nat) : Int), E.u ((Q.shf (op).toNat).most)]] ?_ ?_)))))))))
 · exact ⟨⟨by kernel_rfl, _, _, 1, _, rfl, rfl, by kernel_rfl⟩, trivial⟩
 intro w h
 exact ⟨by show Ending.returned (.agg #[.bool ((Q.shf (op).toNat).kn), .bool ((Q.shf (op).toNat).d), .bool ((Q.shf (op).toNat).a), .bool ((Q.shf (op).toNat).b), .int .i64 ((Q.shf (op).toNat).kind), .int .i64 (((Q.shf (op).toNat).bits : Nat) : Int), .int .u32 ((Q.shf (op).toNat).most)]) = _; unfold Q.of; rw [hc5, cond_false] <;> rfl, h.ch.bel (fun _ h => h.elim)⟩
def Q.fits (n : Int) (u : Bool) : Bool := ((n == 0) || ((u && (decide (n > 0))) && (decide (n < 16))))
theorem fits_any (n : Int) (u : Bool) (w : World) : Calls Tryz.prog 105 #[.int .i64 n, .bool u] w fun e w' => e = .returned (.bool (Q.fits n u)) ∧ Bel w w' := by
 refine E.enter (n := 18) (S := fun _ => False) Tryz.func105 rfl rfl (by kernel_rfl) (E.Hp.start w) (E.sr (E.op (.bool false) (E.tr (E.op (E.i n) (E.op (.bool (n == 0)) (E.op (.bool (n == 0)) (E.G.cut 10 [(4, .bool false), (17, .bool ((n == 0) || ((u && (decide (n > 0))) && (decide (n < 16)))))] (fun _ => True) [] ?_ ?_)))))))
 ·
  generalize hc1 : (n == 0) = b2
  cases b2
  ·
   refine E.op (.bool u) (E.op (.bool u) (E.G.cut 3 [(0, E.i n), (4, .bool false), (7, .bool false), (12, .bool (u && (decide (n > 0))))] (fun _ => True) [] ?_ ?_))
   ·
    generalize hc3 : u = b4
    cases b4
    ·
     exact E.sk (E.sk (E.op (.bool false) (E.G.end_pst ⟨by kernel_rfl, by kernel_rfl⟩ Nz.sub (fun _ h => h))))
    exact E.op (E.i n) (E.op (.bool (decide (n > 0))) (E.op (.bool (decide (n > 0))) (E.G.end_pst ⟨by kernel_rfl, by kernel_rfl⟩ Nz.sub (fun _ h => h))))
   refine E.op (.bool (u && (decide (n > 0)))) (E.G.cut 3 [(4, .bool false), (7, .bool false), (16, .bool ((u && (decide (n > 0))) && (decide (n < 16))))] (fun _ => True) [] ?_ ?_)
   ·
    generalize hc5 : (u && (decide (n > 0))) = b6
    cases b6
    ·
     exact E.sk (E.sk (E.op (.bool false) (E.G.end_pst ⟨by kernel_rfl, by kernel_rfl⟩ Nz.sub (fun _ h => h))))
    exact E.op (E.i n) (E.op (.bool (decide (n < 16))) (E.op (.bool (decide (n < 16))) (E.G.end_pst ⟨by kernel_rfl, by kernel_rfl⟩ Nz.sub (fun _ h => h))))
   exact E.op (.bool ((u && (decide (n > 0))) && (decide (n < 16)))) (E.G.end_pst ⟨by kernel_rfl, by kernel_rfl⟩ Nz.sub (fun _ h => h))
  exact E.sk (E.sk (E.sk (E.sk (E.sk (E.sk (E.sk (E.sk (E.sk (E.op (.bool true) (E.G.end_pst ⟨by kernel_rfl, by kernel_rfl⟩ Nz.sub (fun _ h => h)))))))))))
 exact E.op (.bool ((n == 0) || ((u && (decide (n > 0))) && (decide (n < 16))))) (E.To.code (E.C.ret (E.bd Tryz.f105 [.bool ((n == 0) || ((u && (decide (n > 0))) && (decide (n < 16))))] (fun w h => ⟨rfl, h.ch.bel (fun _ h => h.elim)⟩))))

/-- Formats are small. -/
def Q.Sh.ok (s : Q.Sh) : Prop := s.bits ≤ 32

def Q.immediate (s : Q.Sh) (n : Int) : Bool := (bif (s.kind == 0) then (n == 0) else (bif (s.kind == 1) then (W.sign n ((s.bits : Nat) : Int) == n) else (bif (decide (s.most > 0)) then (decide (n ≤ s.most)) else ((Int.fdiv n (2 ^ (min s.bits 32))) == 0))))
theorem immediate_any (s : Q.Sh) (n : Int) (hs : s.bits ≤ 32) (hm : 0 ≤ n ∧ n < 4294967296) (w : World) : Calls Tryz.prog 106 #[.agg #[.bool s.kn, .bool s.d, .bool s.a, .bool s.b, .int .i64 s.kind, .int .i64 ((s.bits : Nat) : Int), .int .u32 s.most], .int .u32 n] w fun e w' => e = .returned (.bool (Q.immediate s n)) ∧ Bel w w' := by
 refine E.enter (n := 32) (S := fun _ => False) Tryz.func106 rfl rfl (by kernel_rfl) (E.Hp.start w) (E.sr (E.G.new (fun g => E.pt g) [.bool s.kn, .bool s.d, .bool s.a, .bool s.b, E.i s.kind, E.i ((s.bits : Nat) : Int), E.u s.most] 155 (fun w => by kernel_rfl) (by kernel_rfl) (fun g1 => E.op (.bool false) (E.To.code (E.C.seq (E.C.block (E.sr (E.op (.pointer (some ⟨g1, 4, none⟩)) (E.li (E.i s.kind) 0 rfl rfl (E.op (.bool (s.kind == 0)) (E.op (.bool (s.kind == 0)) ?_)))))))))))
 refine E.To.code (E.cd (s.kind == 0) (fun hc2 => ?_) (fun hc2 => ?_))
 ·
  exact E.sr (E.op (E.u n) (E.op (.bool (n == 0)) (E.op (.bool (n == 0)) (E.To.code (E.C.ret (E.P.rb (E.P.rt (E.bd Tryz.f106 [.bool (n == 0)] (fun w h => ⟨by show Ending.returned (.bool (n == 0)) = _; unfold Q.immediate; rw [hc2, cond_true] <;> rfl, h.ch.bel (fun _ h => h.elim)⟩)))))))))
 refine E.sr (E.op (.pointer (some ⟨g1, 4, none⟩)) (E.li (E.i s.kind) 0 rfl rfl (E.op (.bool (s.kind == 1)) (E.op (.bool (s.kind == 1)) (E.To.code (E.wk [(1, E.u n), (2, E.pt g1), (4, .bool false), (11, .bool (s.kind == 1))] [(g1, [.bool s.kn, .bool s.d, .bool s.a, .bool s.b, E.i s.kind, E.i ((s.bits : Nat) : Int), E.u s.most])] Nz.sub (E.cd (s.kind == 1) (fun hc3 => ?_) (fun hc3 => ?_))))))))
 ·
  exact E.sr (E.op (E.u n) (E.op (.pointer (some ⟨g1, 5, none⟩)) (E.li (E.i ((s.bits : Nat) : Int)) 0 rfl rfl (E.G.call (.bool (W.sign n ((s.bits : Nat) : Int) == n)) (fun w h => Fits_any n ((s.bits : Nat) : Int) hm.1 hm.2 (by omega) (by omega) w) (fun w _ => by kernel_rfl) (by kernel_rfl) (E.op (.bool (W.sign n ((s.bits : Nat) : Int) == n)) (E.To.code (E.C.ret (E.P.rb (E.P.rt (E.bd Tryz.f106 [.bool (W.sign n ((s.bits : Nat) : Int) == n)] (fun w h => ⟨by show Ending.returned (.bool (W.sign n ((s.bits : Nat) : Int) == n)) = _; unfold Q.immediate; rw [hc2, cond_false, hc3, cond_true] <;> rfl, h.ch.bel (fun _ h => h.elim)⟩)))))))))))
 refine E.sr (E.op (.pointer (some ⟨g1, 6, none⟩)) (E.li (E.u s.most) 0 rfl rfl (E.op (.bool (decide (s.most > 0))) (E.op (.bool (decide (s.most > 0))) (E.To.code (E.cd (decide (s.most > 0)) (fun hc4 => ?_) (fun hc4 => ?_)))))))
 ·
  exact E.sr (E.op (E.u n) (E.op (.pointer (some ⟨g1, 6, none⟩)) (E.li (E.u s.most) 0 rfl rfl (E.op (.bool (decide (n ≤ s.most))) (E.op (.bool (decide (n ≤ s.most))) (E.To.code (E.wk [(1, E.u n), (2, E.pt g1), (4, .bool (decide (n ≤ s.most)))] [(g1, [.bool s.kn, .bool s.d, .bool s.a, .bool s.b, E.i s.kind, E.i ((s.bits : Nat) : Int), E.u s.most])] Nz.sub (E.C.ret (E.P.rb (E.P.rt (E.bd Tryz.f106 [.bool (decide (n ≤ s.most))] (fun w h => ⟨by show Ending.returned (.bool (decide (n ≤ s.most))) = _; unfold Q.immediate; rw [hc2, cond_false, hc3, cond_false, hc4, cond_true] <;> rfl, h.ch.bel (fun _ h => h.elim)⟩))))))))))))
 exact E.C.skip (E.P.nb (E.To.code (E.sr (E.op (E.u n) (E.op (.pointer (some ⟨g1, 5, none⟩)) (E.li (E.i ((s.bits : Nat) : Int)) 0 rfl rfl (E.vl (E.u (Int.fdiv n (2 ^ (min s.bits 32)))) (fun w h => E.shrN (k2 := .i64) n s.bits 32 (by rfl) (by kernel_rfl) (by kernel_rfl) w) (E.op (.bool ((Int.fdiv n (2 ^ (min s.bits 32))) == 0)) (E.op (.bool ((Int.fdiv n (2 ^ (min s.bits 32))) == 0)) (E.To.code (E.wk [(4, .bool ((Int.fdiv n (2 ^ (min s.bits 32))) == 0))] [] Nz.sub (E.C.ret (E.bd Tryz.f106 [.bool ((Int.fdiv n (2 ^ (min s.bits 32))) == 0)] (fun w h => ⟨by show Ending.returned (.bool ((Int.fdiv n (2 ^ (min s.bits 32))) == 0)) = _; unfold Q.immediate; rw [hc2, cond_false, hc3, cond_false, hc4, cond_false] <;> rfl, h.ch.bel (fun _ h => h.elim)⟩))))))))))))))

theorem Q.of_lt {x : Int} (h : 0 ≤ x ∧ x < 64) : Q.of x = Q.shf x.toNat := by
  unfold Q.of; rw [show (decide (x < 0) || decide (x ≥ 64)) = false by rw [Bool.or_eq_false_iff, decide_eq_false_iff_not, decide_eq_false_iff_not]; omega]; rfl
theorem Q.of_out {x : Int} (h : ¬ (0 ≤ x ∧ x < 64)) : Q.of x = ⟨false, false, false, false, 0, 0, 0⟩ := by
  unfold Q.of; rw [show (decide (x < 0) || decide (x ≥ 64)) = true by rw [Bool.or_eq_true, decide_eq_true_eq, decide_eq_true_eq]; omega]; rfl
theorem Q.shf_bits : ∀ k : Fin 64, (Q.shf k.val).bits ≤ 32 := by decide +kernel
theorem Q.of_bits (x : Int) : (Q.of x).bits ≤ 32 := by
  by_cases h : 0 ≤ x ∧ x < 64
  · rw [Q.of_lt h]; exact Q.shf_bits ⟨x.toNat, by omega⟩
  · rw [Q.of_out h]; exact Nat.zero_le _

def Q.valid (i : Q.I) : Bool := ((((((Q.of i.op).kn) && (Q.fits i.d ((Q.of i.op).d))) && (Q.fits i.a ((Q.of i.op).a))) && (Q.fits i.b ((Q.of i.op).b))) && (Q.immediate (Q.of i.op) i.imm))
theorem Valid_any (i : Q.I) (hm : 0 ≤ i.imm ∧ i.imm < 4294967296) (w : World) : Calls Tryz.prog 103 #[.agg #[.int .i64 i.op, .int .i64 i.d, .int .i64 i.a, .int .i64 i.b, .int .u32 i.imm]] w fun e w' => e = .returned (.bool (Q.valid i)) ∧ Bel w w' := by
 refine E.enter (n := 36) (S := fun _ => False) Tryz.func103 rfl rfl (by kernel_rfl) (E.Hp.start w) (E.sr (E.G.new (fun g => E.pt g) [E.i i.op, E.i i.d, E.i i.a, E.i i.b, E.u i.imm] 71 (fun w => by kernel_rfl) (by kernel_rfl) (fun g1 => E.op (.bool false) (E.tr (E.op (E.pt g1) (E.li (E.i i.op) 0 rfl rfl (E.G.call (.agg #[.bool ((Q.of i.op).kn), .bool ((Q.of i.op).d), .bool ((Q.of i.op).a), .bool ((Q.of i.op).b), E.i ((Q.of i.op).kind), E.i (((Q.of i.op).bits : Nat) : Int), E.u ((Q.of i.op).most)]) (fun w h => of_any i.op w) (fun w _ => by kernel_rfl) (by kernel_rfl) (E.G.new (fun g => E.pt g) [.bool false, .bool false, .bool false, .bool false, E.i 0, E.i 0, E.u 0] 155 (fun w => by kernel_rfl) (by kernel_rfl) (fun g2 => E.st 0 [.bool ((Q.of i.op).kn), .bool ((Q.of i.op).d), .bool ((Q.of i.op).a), .bool ((Q.of i.op).b), E.i ((Q.of i.op).kind), E.i (((Q.of i.op).bits : Nat) : Int), E.u ((Q.of i.op).most)] rfl rfl (E.tr (E.op (E.pt g2) ?_)))))))))))
 refine E.li (.bool ((Q.of i.op).kn)) 0 rfl rfl (E.op (.bool ((Q.of i.op).kn)) (E.G.cut 6 [(1, E.pt g1), (2, .bool false), (3, E.pt g2), (15, .bool (((Q.of i.op).kn) && (Q.fits i.d ((Q.of i.op).d))))] (fun _ => True) [(g2, [.bool ((Q.of i.op).kn), .bool ((Q.of i.op).d), .bool ((Q.of i.op).a), .bool ((Q.of i.op).b), E.i ((Q.of i.op).kind), E.i (((Q.of i.op).bits : Nat) : Int), E.u ((Q.of i.op).most)]), (g1, [E.i i.op, E.i i.d, E.i i.a, E.i i.b, E.u i.imm])] ?_ ?_))
 ·
  generalize hc3 : (Q.of i.op).kn = b4
  cases b4
  ·
   exact E.sk (E.sk (E.sk (E.sk (E.sk (E.op (.bool false) (E.G.end_pst ⟨by kernel_rfl, by kernel_rfl⟩ Nz.sub (fun _ h => h)))))))
  exact E.op (.pointer (some ⟨g1, 1, none⟩)) (E.li (E.i i.d) 1 rfl rfl (E.op (.pointer (some ⟨g2, 1, none⟩)) (E.li (.bool ((Q.of i.op).d)) 0 rfl rfl (E.G.call (.bool (Q.fits i.d ((Q.of i.op).d))) (fun w h => fits_any i.d ((Q.of i.op).d) w) (fun w _ => by kernel_rfl) (by kernel_rfl) (E.op (.bool (Q.fits i.d ((Q.of i.op).d))) (E.G.end_pst ⟨by kernel_rfl, by kernel_rfl⟩ Nz.sub (fun _ h => h)))))))
 refine E.op (.bool (((Q.of i.op).kn) && (Q.fits i.d ((Q.of i.op).d)))) (E.G.cut 6 [(1, E.pt g1), (2, .bool false), (3, E.pt g2), (22, .bool ((((Q.of i.op).kn) && (Q.fits i.d ((Q.of i.op).d))) && (Q.fits i.a ((Q.of i.op).a))))] (fun _ => True) [(g2, [.bool ((Q.of i.op).kn), .bool ((Q.of i.op).d), .bool ((Q.of i.op).a), .bool ((Q.of i.op).b), E.i ((Q.of i.op).kind), E.i (((Q.of i.op).bits : Nat) : Int), E.u ((Q.of i.op).most)]), (g1, [E.i i.op, E.i i.d, E.i i.a, E.i i.b, E.u i.imm])] ?_ ?_)
 ·
  generalize hc5 : (((Q.of i.op).kn) && (Q.fits i.d ((Q.of i.op).d))) = b6
  cases b6
  ·
   exact E.sk (E.sk (E.sk (E.sk (E.sk (E.op (.bool false) (E.G.end_pst ⟨by kernel_rfl, by kernel_rfl⟩ Nz.sub (fun _ h => h)))))))
  exact E.op (.pointer (some ⟨g1, 2, none⟩)) (E.li (E.i i.a) 1 rfl rfl (E.op (.pointer (some ⟨g2, 2, none⟩)) (E.li (.bool ((Q.of i.op).a)) 0 rfl rfl (E.G.call (.bool (Q.fits i.a ((Q.of i.op).a))) (fun w h => fits_any i.a ((Q.of i.op).a) w) (fun w _ => by kernel_rfl) (by kernel_rfl) (E.op (.bool (Q.fits i.a ((Q.of i.op).a))) (E.G.end_pst ⟨by kernel_rfl, by kernel_rfl⟩ Nz.sub (fun _ h => h)))))))
 refine E.op (.bool ((((Q.of i.op).kn) && (Q.fits i.d ((Q.of i.op).d))) && (Q.fits i.a ((Q.of i.op).a)))) (E.G.cut 6 [(1, E.pt g1), (2, .bool false), (3, E.pt g2), (29, .bool (((((Q.of i.op).kn) && (Q.fits i.d ((Q.of i.op).d))) && (Q.fits i.a ((Q.of i.op).a))) && (Q.fits i.b ((Q.of i.op).b))))] (fun _ => True) [(g2, [.bool ((Q.of i.op).kn), .bool ((Q.of i.op).d), .bool ((Q.of i.op).a), .bool ((Q.of i.op).b), E.i ((Q.of i.op).kind), E.i (((Q.of i.op).bits : Nat) : Int), E.u ((Q.of i.op).most)]), (g1, [E.i i.op, E.i i.d, E.i i.a, E.i i.b, E.u i.imm])] ?_ ?_)
 ·
  generalize hc7 : ((((Q.of i.op).kn) && (Q.fits i.d ((Q.of i.op).d))) && (Q.fits i.a ((Q.of i.op).a))) = b8
  cases b8
  ·
   exact E.sk (E.sk (E.sk (E.sk (E.sk (E.op (.bool false) (E.G.end_pst ⟨by kernel_rfl, by kernel_rfl⟩ Nz.sub (fun _ h => h)))))))
  exact E.op (.pointer (some ⟨g1, 3, none⟩)) (E.li (E.i i.b) 1 rfl rfl (E.op (.pointer (some ⟨g2, 3, none⟩)) (E.li (.bool ((Q.of i.op).b)) 0 rfl rfl (E.G.call (.bool (Q.fits i.b ((Q.of i.op).b))) (fun w h => fits_any i.b ((Q.of i.op).b) w) (fun w _ => by kernel_rfl) (by kernel_rfl) (E.op (.bool (Q.fits i.b ((Q.of i.op).b))) (E.G.end_pst ⟨by kernel_rfl, by kernel_rfl⟩ Nz.sub (fun _ h => h)))))))
 refine E.op (.bool (((((Q.of i.op).kn) && (Q.fits i.d ((Q.of i.op).d))) && (Q.fits i.a ((Q.of i.op).a))) && (Q.fits i.b ((Q.of i.op).b)))) (E.G.cut 5 [(2, .bool false), (35, .bool ((((((Q.of i.op).kn) && (Q.fits i.d ((Q.of i.op).d))) && (Q.fits i.a ((Q.of i.op).a))) && (Q.fits i.b ((Q.of i.op).b))) && (Q.immediate (Q.of i.op) i.imm)))] (fun _ => True) [(g2, [.bool ((Q.of i.op).kn), .bool ((Q.of i.op).d), .bool ((Q.of i.op).a), .bool ((Q.of i.op).b), E.i ((Q.of i.op).kind), E.i (((Q.of i.op).bits : Nat) : Int), E.u ((Q.of i.op).most)]), (g1, [E.i i.op, E.i i.d, E.i i.a, E.i i.b, E.u i.imm])] ?_ ?_)
 ·
  generalize hc9 : (((((Q.of i.op).kn) && (Q.fits i.d ((Q.of i.op).d))) && (Q.fits i.a ((Q.of i.op).a))) && (Q.fits i.b ((Q.of i.op).b))) = b10
  cases b10
  ·
   exact E.sk (E.sk (E.sk (E.sk (E.op (.bool false) (E.G.end_pst ⟨by kernel_rfl, by kernel_rfl⟩ Nz.sub (fun _ h => h))))))
  exact E.li (.agg #[.bool ((Q.of i.op).kn), .bool ((Q.of i.op).d), .bool ((Q.of i.op).a), .bool ((Q.of i.op).b), E.i ((Q.of i.op).kind), E.i (((Q.of i.op).bits : Nat) : Int), E.u ((Q.of i.op).most)]) 0 rfl rfl (E.op (.pointer (some ⟨g1, 4, none⟩)) (E.li (E.u i.imm) 1 rfl rfl (E.G.call (.bool (Q.immediate (Q.of i.op) i.imm)) (fun w h => immediate_any (Q.of i.op) i.imm (Q.of_bits _) hm w) (fun w _ => by kernel_rfl) (by kernel_rfl) (E.op (.bool (Q.immediate (Q.of i.op) i.imm)) (E.G.end_pst ⟨by kernel_rfl, by kernel_rfl⟩ Nz.sub (fun _ h => h))))))
 exact E.op (.bool ((((((Q.of i.op).kn) && (Q.fits i.d ((Q.of i.op).d))) && (Q.fits i.a ((Q.of i.op).a))) && (Q.fits i.b ((Q.of i.op).b))) && (Q.immediate (Q.of i.op) i.imm))) (E.To.code (E.C.ret (E.bd Tryz.f103 [.bool ((((((Q.of i.op).kn) && (Q.fits i.d ((Q.of i.op).d))) && (Q.fits i.a ((Q.of i.op).a))) && (Q.fits i.b ((Q.of i.op).b))) && (Q.immediate (Q.of i.op) i.imm))] (fun w h => ⟨rfl, h.ch.bel (fun _ h => h.elim)⟩))))

def Q.encode (i : Q.I) : Int × Int := (bif (!(Q.valid i)) then (0, 12) else ((bits .or .u32 (bits .or .u32 (bits .or .u32 (bits .or .u32 (IntKind.wrap .u32 ((IntKind.wrap .u32 i.op) * 2 ^ 26)) (IntKind.wrap .u32 ((IntKind.wrap .u32 i.d) * 2 ^ 22))) (IntKind.wrap .u32 ((IntKind.wrap .u32 i.a) * 2 ^ 18))) (IntKind.wrap .u32 ((IntKind.wrap .u32 i.b) * 2 ^ 14))) (bits .and .u32 i.imm (IntKind.wrap .u32 ((IntKind.wrap .u32 (1 * 2 ^ (min ((Q.of i.op).bits) 32))) - 1)))), 0))
theorem Encode_any (i : Q.I) (hm : 0 ≤ i.imm ∧ i.imm < 4294967296) (w : World) : Calls Tryz.prog 87 #[.agg #[.int .i64 i.op, .int .i64 i.d, .int .i64 i.a, .int .i64 i.b, .int .u32 i.imm]] w fun e w' => e = .returned (.tuple #[.int .u32 (((Q.encode i)).1), .int .i64 (((Q.encode i)).2)]) ∧ Bel w w' := by
 refine E.enter (n := 38) (S := fun _ => False) Tryz.func87 rfl rfl (by kernel_rfl) (E.Hp.start w) (E.sr (E.G.new (fun g => E.pt g) [E.i i.op, E.i i.d, E.i i.a, E.i i.b, E.u i.imm] 71 (fun w => by kernel_rfl) (by kernel_rfl) (fun g1 => E.op (E.u 0) (E.op (E.i 0) (E.To.code (E.C.seq (E.sr (E.li (.agg #[E.i i.op, E.i i.d, E.i i.a, E.i i.b, E.u i.imm]) 0 rfl rfl (E.G.call (.bool (Q.valid i)) (fun w h => Valid_any i hm w) (fun w _ => by kernel_rfl) (by kernel_rfl) (E.op (.bool (!(Q.valid i))) (E.To.code ?_)))))))))))
 refine E.cd (!(Q.valid i)) (fun hc2 => ?_) (fun hc2 => ?_)
 ·
  refine E.sr (E.op (E.u 0) (E.op (E.i 12) (E.To.code (E.C.ret (E.P.rt (E.To.body (fn := Tryz.f87) [E.u 0, E.i 12] ?_ ?_))))))
  · exact ⟨⟨by kernel_rfl, by kernel_rfl⟩, ⟨by kernel_rfl, by kernel_rfl⟩, trivial⟩
  intro w h
  exact ⟨by show Ending.returned (.tuple #[.int .u32 0, .int .i64 12]) = _; unfold Q.encode; rw [hc2, cond_true] <;> rfl, h.ch.bel (fun _ h => h.elim)⟩
 refine E.C.skip (E.To.code (E.sr (E.op (E.pt g1) (E.li (E.i i.op) 0 rfl rfl (E.op (E.u (IntKind.wrap .u32 i.op)) (E.op (E.u (IntKind.wrap .u32 ((IntKind.wrap .u32 i.op) * 2 ^ 26))) (E.op (.pointer (some ⟨g1, 1, none⟩)) (E.li (E.i i.d) 0 rfl rfl (E.op (E.u (IntKind.wrap .u32 i.d)) (E.op (E.u (IntKind.wrap .u32 ((IntKind.wrap .u32 i.d) * 2 ^ 22))) (E.op (E.u (bits .or .u32 (IntKind.wrap .u32 ((IntKind.wrap .u32 i.op) * 2 ^ 26)) (IntKind.wrap .u32 ((IntKind.wrap .u32 i.d) * 2 ^ 22)))) (E.op (.pointer (some ⟨g1, 2, none⟩)) ?_))))))))))))
 refine E.li (E.i i.a) 0 rfl rfl (E.op (E.u (IntKind.wrap .u32 i.a)) (E.op (E.u (IntKind.wrap .u32 ((IntKind.wrap .u32 i.a) * 2 ^ 18))) (E.op (E.u (bits .or .u32 (bits .or .u32 (IntKind.wrap .u32 ((IntKind.wrap .u32 i.op) * 2 ^ 26)) (IntKind.wrap .u32 ((IntKind.wrap .u32 i.d) * 2 ^ 22))) (IntKind.wrap .u32 ((IntKind.wrap .u32 i.a) * 2 ^ 18)))) (E.op (.pointer (some ⟨g1, 3, none⟩)) (E.li (E.i i.b) 0 rfl rfl (E.op (E.u (IntKind.wrap .u32 i.b)) (E.op (E.u (IntKind.wrap .u32 ((IntKind.wrap .u32 i.b) * 2 ^ 14))) (E.op (E.u (bits .or .u32 (bits .or .u32 (bits .or .u32 (IntKind.wrap .u32 ((IntKind.wrap .u32 i.op) * 2 ^ 26)) (IntKind.wrap .u32 ((IntKind.wrap .u32 i.d) * 2 ^ 22))) (IntKind.wrap .u32 ((IntKind.wrap .u32 i.a) * 2 ^ 18))) (IntKind.wrap .u32 ((IntKind.wrap .u32 i.b) * 2 ^ 14)))) (E.op (E.u (bits .or .u32 (bits .or .u32 (bits .or .u32 (IntKind.wrap .u32 ((IntKind.wrap .u32 i.op) * 2 ^ 26)) (IntKind.wrap .u32 ((IntKind.wrap .u32 i.d) * 2 ^ 22))) (IntKind.wrap .u32 ((IntKind.wrap .u32 i.a) * 2 ^ 18))) (IntKind.wrap .u32 ((IntKind.wrap .u32 i.b) * 2 ^ 14)))) (E.To.code (E.wk [(1, E.pt g1), (2, E.u 0), (3, E.i 0), (4, E.u (bits .or .u32 (bits .or .u32 (bits .or .u32 (IntKind.wrap .u32 ((IntKind.wrap .u32 i.op) * 2 ^ 26)) (IntKind.wrap .u32 ((IntKind.wrap .u32 i.d) * 2 ^ 22))) (IntKind.wrap .u32 ((IntKind.wrap .u32 i.a) * 2 ^ 18))) (IntKind.wrap .u32 ((IntKind.wrap .u32 i.b) * 2 ^ 14))))] [(g1, [E.i i.op, E.i i.d, E.i i.a, E.i i.b, E.u i.imm])] Nz.sub ?_)))))))))))
 refine E.C.seq (E.C.quiet (by kernel_rfl) (by kernel_rfl) (E.wo (E.u (bits .or .u32 (bits .or .u32 (bits .or .u32 (IntKind.wrap .u32 ((IntKind.wrap .u32 i.op) * 2 ^ 26)) (IntKind.wrap .u32 ((IntKind.wrap .u32 i.d) * 2 ^ 22))) (IntKind.wrap .u32 ((IntKind.wrap .u32 i.a) * 2 ^ 18))) (IntKind.wrap .u32 ((IntKind.wrap .u32 i.b) * 2 ^ 14)))) (E.wo (.pointer (some ⟨g1, 4, none⟩)) (E.wv (E.u i.imm) (fun w h => E.run_load h 0 rfl rfl (by kernel_rfl)) (E.wo (E.pt g1) (E.wv (E.i i.op) (fun w h => E.run_load h 0 rfl rfl (by kernel_rfl)) (E.W.call (.agg #[.bool ((Q.of i.op).kn), .bool ((Q.of i.op).d), .bool ((Q.of i.op).a), .bool ((Q.of i.op).b), E.i ((Q.of i.op).kind), E.i (((Q.of i.op).bits : Nat) : Int), E.u ((Q.of i.op).most)]) (fun w h => of_any i.op w) (fun w _ => by kernel_rfl) (by kernel_rfl) (E.wo (E.i (((Q.of i.op).bits : Nat) : Int)) (E.wv (E.u (IntKind.wrap .u32 (1 * 2 ^ (min ((Q.of i.op).bits) 32)))) (fun w h => E.shlN (k2 := .i64) 1 ((Q.of i.op).bits) 32 (by rfl) (by kernel_rfl) (by kernel_rfl) w) (E.wo (E.u (IntKind.wrap .u32 ((IntKind.wrap .u32 (1 * 2 ^ (min ((Q.of i.op).bits) 32))) - 1))) (E.wo (E.u (bits .and .u32 i.imm (IntKind.wrap .u32 ((IntKind.wrap .u32 (1 * 2 ^ (min ((Q.of i.op).bits) 32))) - 1)))) ?_)))))))))))
 refine E.wo (E.u (bits .or .u32 (bits .or .u32 (bits .or .u32 (bits .or .u32 (IntKind.wrap .u32 ((IntKind.wrap .u32 i.op) * 2 ^ 26)) (IntKind.wrap .u32 ((IntKind.wrap .u32 i.d) * 2 ^ 22))) (IntKind.wrap .u32 ((IntKind.wrap .u32 i.a) * 2 ^ 18))) (IntKind.wrap .u32 ((IntKind.wrap .u32 i.b) * 2 ^ 14))) (bits .and .u32 i.imm (IntKind.wrap .u32 ((IntKind.wrap .u32 (1 * 2 ^ (min ((Q.of i.op).bits) 32))) - 1))))) (E.wo (E.u (bits .or .u32 (bits .or .u32 (bits .or .u32 (bits .or .u32 (IntKind.wrap .u32 ((IntKind.wrap .u32 i.op) * 2 ^ 26)) (IntKind.wrap .u32 ((IntKind.wrap .u32 i.d) * 2 ^ 22))) (IntKind.wrap .u32 ((IntKind.wrap .u32 i.a) * 2 ^ 18))) (IntKind.wrap .u32 ((IntKind.wrap .u32 i.b) * 2 ^ 14))) (bits .and .u32 i.imm (IntKind.wrap .u32 ((IntKind.wrap .u32 (1 * 2 ^ (min ((Q.of i.op).bits) 32))) - 1))))) (E.wo (E.i 0) (E.W.done (E.To.code (E.wk [(2, E.u (bits .or .u32 (bits .or .u32 (bits .or .u32 (bits .or .u32 (IntKind.wrap .u32 ((IntKind.wrap .u32 i.op) * 2 ^ 26)) (IntKind.wrap .u32 ((IntKind.wrap .u32 i.d) * 2 ^ 22))) (IntKind.wrap .u32 ((IntKind.wrap .u32 i.a) * 2 ^ 18))) (IntKind.wrap .u32 ((IntKind.wrap .u32 i.b) * 2 ^ 14))) (bits .and .u32 i.imm (IntKind.wrap .u32 ((IntKind.wrap .u32 (1 * 2 ^ (min ((Q.of i.op).bits) 32))) - 1))))), (3, E.i 0)] [] Nz.sub (E.C.ret (E.To.body (fn := Tryz.f87) [E.u (bits .or .u32 (bits .or .u32 (bits .or .u32 (bits .or .u32 (IntKind.wrap .u32 ((IntKind.wrap .u32 i.op) * 2 ^ 26)) (IntKind.wrap .u32 ((IntKind.wrap .u32 i.d) * 2 ^ 22))) (IntKind.wrap .u32 ((IntKind.wrap .u32 i.a) * 2 ^ 18))) (IntKind.wrap .u32 ((IntKind.wrap .u32 i.b) * 2 ^ 14))) (bits .and .u32 i.imm (IntKind.wrap .u32 ((IntKind.wrap .u32 (1 * 2 ^ (min ((Q.of i.op).bits) 32))) - 1)))), E.i 0] ?_ ?_)))))))
 · exact ⟨⟨by kernel_rfl, by kernel_rfl⟩, ⟨by kernel_rfl, by kernel_rfl⟩, trivial⟩
 intro w h
 exact ⟨by show Ending.returned (.tuple #[.int .u32 (bits .or .u32 (bits .or .u32 (bits .or .u32 (bits .or .u32 (IntKind.wrap .u32 ((IntKind.wrap .u32 i.op) * 2 ^ 26)) (IntKind.wrap .u32 ((IntKind.wrap .u32 i.d) * 2 ^ 22))) (IntKind.wrap .u32 ((IntKind.wrap .u32 i.a) * 2 ^ 18))) (IntKind.wrap .u32 ((IntKind.wrap .u32 i.b) * 2 ^ 14))) (bits .and .u32 i.imm (IntKind.wrap .u32 ((IntKind.wrap .u32 (1 * 2 ^ (min ((Q.of i.op).bits) 32))) - 1)))), .int .i64 0]) = _; unfold Q.encode; rw [hc2, cond_false] <;> rfl, h.ch.bel (fun _ h => h.elim)⟩
/-- A register field of a word. -/
def Q.field (x : Int) (u : Bool) (m : Nat) : Int := bif (!u) then 0 else (IntKind.wrap .i64 (Int.tmod (Int.fdiv x (2 ^ (min m 32))) 16))
theorem Field_rd {g : Nat} (x : Int) (u : Bool) (m : Nat) : A.Rd Tryz.prog 85 #[.bool u, .int .i64 ((m : Nat) : Int), .pointer (some ⟨g, 0, none⟩)] [A.blk g [.int .u32 x]] (.int .i64 (Q.field x u m)) := by
 intro w oo aa hh
 refine E.enter (n := 13) (S := fun _ => False) Tryz.func85 rfl rfl (by kernel_rfl) (A.startY hh) (E.sr (E.op (E.i 0) (E.To.code (E.C.seq (E.sr (E.op (.bool u) (E.op (.bool (!u)) (E.To.code (E.cd (!u) (fun hc1 => ?_) (fun hc1 => ?_))))))))))
 ·
  exact E.sr (E.op (E.i 0) (E.To.code (E.C.ret (E.P.rt (E.bd Tryz.f85 [.int .i64 0] (fun w h => ⟨by show Ending.returned (.int .i64 0) = _; unfold Q.field; rw [hc1, cond_true] <;> rfl, h.ch.bel (fun _ h => h.elim)⟩))))))
 exact E.C.skip (E.To.code (E.sr (E.vl (E.u x) (fun w h => A.Y.bld h.x (k := 0) (j := 0) rfl (by kernel_rfl) (by kernel_rfl)) (E.op (E.i ((m : Nat) : Int)) (E.vl (E.u (Int.fdiv x (2 ^ (min m 32)))) (fun w h => E.shrN (k2 := .i64) x m 32 (by rfl) (by kernel_rfl) (by kernel_rfl) w) (E.op (E.u (Int.tmod (Int.fdiv x (2 ^ (min m 32))) 16)) (E.op (E.i (IntKind.wrap .i64 (Int.tmod (Int.fdiv x (2 ^ (min m 32))) 16))) (E.op (E.i (IntKind.wrap .i64 (Int.tmod (Int.fdiv x (2 ^ (min m 32))) 16))) (E.To.code (E.wk [(5, E.i (IntKind.wrap .i64 (Int.tmod (Int.fdiv x (2 ^ (min m 32))) 16)))] [] Nz.sub (E.C.ret (E.bd Tryz.f85 [.int .i64 (IntKind.wrap .i64 (Int.tmod (Int.fdiv x (2 ^ (min m 32))) 16))] (fun w h => ⟨by show Ending.returned (.int .i64 (IntKind.wrap .i64 (Int.tmod (Int.fdiv x (2 ^ (min m 32))) 16))) = _; unfold Q.field; rw [hc1, cond_false] <;> rfl, h.ch.bel (fun _ h => h.elim)⟩)))))))))))))
theorem Q.sign_bd {n : Int} (h : 0 ≤ n ∧ n < 4294967296) (k : Int) : 0 ≤ W.sign n k ∧ W.sign n k < 4294967296 := W.sign_bd n k h.1 h.2
def Q.dop (x : Int) : Int := IntKind.wrap .i64 (Int.fdiv x (2 ^ 26))
def Q.dimm (x : Int) : Int := bits .and .u32 x (IntKind.wrap .u32 ((IntKind.wrap .u32 (1 * 2 ^ (min ((Q.of (Q.dop x)).bits) 32))) - 1))
def Q.dsg (x : Int) : Int := W.sign (Q.dimm x) (((Q.of (Q.dop x)).bits : Nat) : Int)
def Q.c0 (x : Int) : Q.I := ⟨Q.dop x, Q.field x (Q.of (Q.dop x)).d 22, Q.field x (Q.of (Q.dop x)).a 18, Q.field x (Q.of (Q.dop x)).b 14, Q.dimm x⟩
def Q.c1 (x : Int) : Q.I := ⟨Q.dop x, Q.field x (Q.of (Q.dop x)).d 22, Q.field x (Q.of (Q.dop x)).a 18, Q.field x (Q.of (Q.dop x)).b 14, Q.dsg x⟩
theorem Q.dimm_bd (x : Int) : 0 ≤ Q.dimm x ∧ Q.dimm x < 4294967296 := W.bits_bd _ _ _
theorem Q.dsg_bd (x : Int) : 0 ≤ Q.dsg x ∧ Q.dsg x < 4294967296 := Q.sign_bd (W.bits_bd _ _ _) _
def Q.decode (x : Int) : Q.I × Int := (bif (((Q.of (Q.dop x)).kind) == 1) then (bif ((((Q.encode (Q.c1 x)).2) != 0) || (((Q.encode (Q.c1 x)).1) != x)) then (⟨0, 0, 0, 0, 0⟩, 12) else ((Q.c1 x), 0)) else (bif ((((Q.encode (Q.c0 x)).2) != 0) || (((Q.encode (Q.c0 x)).1) != x)) then (⟨0, 0, 0, 0, 0⟩, 12) else ((Q.c0 x), 0)))
theorem Decode_any (x : Int) (w : World) : Calls Tryz.prog 71 #[.int .u32 x] w fun e w' => e = .returned (.tuple #[.agg #[.int .i64 ((((Q.decode x)).1).op), .int .i64 ((((Q.decode x)).1).d), .int .i64 ((((Q.decode x)).1).a), .int .i64 ((((Q.decode x)).1).b), .int .u32 ((((Q.decode x)).1).imm)], .int .i64 (((Q.decode x)).2)]) ∧ Bel w w' := by
 have hb := Q.of_bits (Q.dop x)
 refine E.enter (n := 62) (S := fun _ => False) Tryz.func71 rfl rfl (by kernel_rfl) (E.Hp.start w) (E.sr (E.G.new (fun g => E.pt g) [E.u x] 24 (fun w => by kernel_rfl) (by kernel_rfl) (fun g1 => E.G.new (fun g => E.pt g) [E.i 0, E.i 0, E.i 0, E.i 0, E.u 0] 71 (fun w => by kernel_rfl) (by kernel_rfl) (fun g2 => E.op (E.i 0) (E.tr (E.li (E.u x) 1 rfl rfl (E.op (E.u (Int.fdiv x (2 ^ 26))) (E.op (E.i (Q.dop x)) (E.vl (.agg #[E.i (Q.dop x), E.i 0, E.i 0, E.i 0, E.u 0]) (fun w h => E.run_build #[E.i (Q.dop x), E.i 0, E.i 0, E.i 0, E.u 0] (by kernel_rfl) w) (E.G.new (fun g => E.pt g) [E.i 0, E.i 0, E.i 0, E.i 0, E.u 0] 71 (fun w => by kernel_rfl) (by kernel_rfl) (fun g3 => E.st 0 [E.i (Q.dop x), E.i 0, E.i 0, E.i 0, E.u 0] rfl rfl ?_)))))))))))
 refine E.tr (E.op (E.pt g3) (E.li (E.i (Q.dop x)) 0 rfl rfl (E.G.call (.agg #[.bool ((Q.of (Q.dop x)).kn), .bool ((Q.of (Q.dop x)).d), .bool ((Q.of (Q.dop x)).a), .bool ((Q.of (Q.dop x)).b), E.i ((Q.of (Q.dop x)).kind), E.i (((Q.of (Q.dop x)).bits : Nat) : Int), E.u ((Q.of (Q.dop x)).most)]) (fun w h => of_any (Q.dop x) w) (fun w _ => by kernel_rfl) (by kernel_rfl) (E.G.new (fun g => E.pt g) [.bool false, .bool false, .bool false, .bool false, E.i 0, E.i 0, E.u 0] 155 (fun w => by kernel_rfl) (by kernel_rfl) (fun g4 => E.st 0 [.bool ((Q.of (Q.dop x)).kn), .bool ((Q.of (Q.dop x)).d), .bool ((Q.of (Q.dop x)).a), .bool ((Q.of (Q.dop x)).b), E.i ((Q.of (Q.dop x)).kind), E.i (((Q.of (Q.dop x)).bits : Nat) : Int), E.u ((Q.of (Q.dop x)).most)] rfl rfl (E.To.code (E.wk [(1, E.pt g1), (2, E.pt g2), (3, E.i 0), (4, E.pt g3), (5, E.pt g4)] [(g4, [.bool ((Q.of (Q.dop x)).kn), .bool ((Q.of (Q.dop x)).d), .bool ((Q.of (Q.dop x)).a), .bool ((Q.of (Q.dop x)).b), E.i ((Q.of (Q.dop x)).kind), E.i (((Q.of (Q.dop x)).bits : Nat) : Int), E.u ((Q.of (Q.dop x)).most)]), (g3, [E.i (Q.dop x), E.i 0, E.i 0, E.i 0, E.u 0]), (g2, [E.i 0, E.i 0, E.i 0, E.i 0, E.u 0]), (g1, [E.u x])] Nz.sub (E.sr (E.op (.func (.func 85) #[] #[E.pt g1]) (E.op (.func (.func 85) #[] #[E.pt g1]) (E.To.code ?_)))))))))))
 refine E.C.seq (E.C.held (E.Hp (fun _ => False) w (fun _ => True) [(g4, [.bool ((Q.of (Q.dop x)).kn), .bool ((Q.of (Q.dop x)).d), .bool ((Q.of (Q.dop x)).a), .bool ((Q.of (Q.dop x)).b), E.i ((Q.of (Q.dop x)).kind), E.i (((Q.of (Q.dop x)).bits : Nat) : Int), E.u ((Q.of (Q.dop x)).most)]), (g2, [E.i 0, E.i 0, E.i 0, E.i 0, E.u 0]), (g1, [E.u x])]) (by kernel_rfl) (E.tk 0 (.func (.func 85) #[] #[E.pt g1]) rfl (fun w h => h.less Nz.sub) (E.tk 1 (.pointer (some ⟨g4, 1, none⟩)) rfl (fun w h => h.less Nz.sub) (E.tj 2 (.bool ((Q.of (Q.dop x)).d)) rfl (fun w h => h.less Nz.sub) (fun w h => E.run_load h 0 rfl rfl (by kernel_rfl)) (E.tk 4 (.func (.func 85) #[] #[E.pt g1]) rfl (fun w h => h.less Nz.sub) (E.tk 5 (.pointer (some ⟨g4, 2, none⟩)) rfl (fun w h => h.less Nz.sub) (E.tj 6 (.bool ((Q.of (Q.dop x)).a)) rfl (fun w h => h.less Nz.sub) (fun w h => E.run_load h 0 rfl rfl (by kernel_rfl)) (E.tk 8 (.func (.func 85) #[] #[E.pt g1]) rfl (fun w h => h.less Nz.sub) (E.tk 9 (.pointer (some ⟨g4, 3, none⟩)) rfl (fun w h => h.less Nz.sub) (E.tj 10 (.bool ((Q.of (Q.dop x)).b)) rfl (fun w h => h.less Nz.sub) (fun w h => E.run_load h 0 rfl rfl (by kernel_rfl)) (E.al 3 rfl ?_)))))))))))
 refine E.G.call (E.i (Q.field x ((Q.of (Q.dop x)).d) 22)) (fun w h => Field_rd (g := g1) x ((Q.of (Q.dop x)).d) 22 w _ _ (A.of_hp h 3 rfl rfl)) (fun w _ => by kernel_rfl) (by kernel_rfl) (E.H.back (fun w h => h.less Nz.sub) (E.tk 12 (.pointer (some ⟨g3, 1, none⟩)) rfl (fun w h => h.less Nz.sub) (E.al 7 rfl (E.G.call (E.i (Q.field x ((Q.of (Q.dop x)).a) 18)) (fun w h => Field_rd (g := g1) x ((Q.of (Q.dop x)).a) 18 w _ _ (A.of_hp h 3 rfl rfl)) (fun w _ => by kernel_rfl) (by kernel_rfl) (E.H.back (fun w h => h.less Nz.sub) (E.al 11 rfl (E.G.call (E.i (Q.field x ((Q.of (Q.dop x)).b) 14)) (fun w h => Field_rd (g := g1) x ((Q.of (Q.dop x)).b) 14 w _ _ (A.of_hp h 3 rfl rfl)) (fun w _ => by kernel_rfl) (by kernel_rfl) (E.H.back (fun w h => h.less Nz.sub) (E.al 13 rfl (E.st 1 [E.i (Q.dop x), E.i (Q.field x ((Q.of (Q.dop x)).d) 22), E.i 0, E.i 0, E.u 0] rfl rfl (E.H.back (fun w h => h.less Nz.sub) ?_)))))))))))
 refine E.tk 14 (.pointer (some ⟨g3, 2, none⟩)) rfl (fun w h => h.less Nz.sub) (E.al 15 rfl (E.st 1 [E.i (Q.dop x), E.i (Q.field x ((Q.of (Q.dop x)).d) 22), E.i (Q.field x ((Q.of (Q.dop x)).a) 18), E.i 0, E.u 0] rfl rfl (E.H.back (fun w h => h.less Nz.sub) (E.tk 16 (.pointer (some ⟨g3, 3, none⟩)) rfl (fun w h => h.less Nz.sub) (E.al 17 rfl (E.st 1 [E.i (Q.dop x), E.i (Q.field x ((Q.of (Q.dop x)).d) 22), E.i (Q.field x ((Q.of (Q.dop x)).a) 18), E.i (Q.field x ((Q.of (Q.dop x)).b) 14), E.u 0] rfl rfl (E.H.back (fun w h => h.less Nz.sub) (E.H.done (by kernel_rfl) (E.To.code (E.wk [(1, E.pt g1), (2, E.pt g2), (3, E.i 0), (4, E.pt g3), (5, E.pt g4)] [(g4, [.bool ((Q.of (Q.dop x)).kn), .bool ((Q.of (Q.dop x)).d), .bool ((Q.of (Q.dop x)).a), .bool ((Q.of (Q.dop x)).b), E.i ((Q.of (Q.dop x)).kind), E.i (((Q.of (Q.dop x)).bits : Nat) : Int), E.u ((Q.of (Q.dop x)).most)]), (g3, [E.i (Q.dop x), E.i (Q.field x ((Q.of (Q.dop x)).d) 22), E.i (Q.field x ((Q.of (Q.dop x)).a) 18), E.i (Q.field x ((Q.of (Q.dop x)).b) 14), E.u 0]), (g2, [E.i 0, E.i 0, E.i 0, E.i 0, E.u 0]), (g1, [E.u x])] Nz.sub (E.C.seq ?_)))))))))))
 refine E.C.held (E.Hp (fun _ => False) w (fun _ => True) [(g4, [.bool ((Q.of (Q.dop x)).kn), .bool ((Q.of (Q.dop x)).d), .bool ((Q.of (Q.dop x)).a), .bool ((Q.of (Q.dop x)).b), E.i ((Q.of (Q.dop x)).kind), E.i (((Q.of (Q.dop x)).bits : Nat) : Int), E.u ((Q.of (Q.dop x)).most)]), (g2, [E.i 0, E.i 0, E.i 0, E.i 0, E.u 0]), (g1, [E.u x])]) (by kernel_rfl) (E.tj 0 (E.u x) rfl (fun w h => h.less Nz.sub) (fun w h => E.run_load h 2 rfl rfl (by kernel_rfl)) (E.tk 1 (.pointer (some ⟨g4, 5, none⟩)) rfl (fun w h => h.less Nz.sub) (E.tj 2 (E.i (((Q.of (Q.dop x)).bits : Nat) : Int)) rfl (fun w h => h.less Nz.sub) (fun w h => E.run_load h 0 rfl rfl (by kernel_rfl)) (E.tj 3 (E.u (IntKind.wrap .u32 (1 * 2 ^ (min ((Q.of (Q.dop x)).bits) 32)))) rfl (fun w h => h.less Nz.sub) (fun w h => E.shlN (k2 := .i64) 1 ((Q.of (Q.dop x)).bits) 32 (by rfl) (by kernel_rfl) (by kernel_rfl) w) (E.tk 4 (E.u (IntKind.wrap .u32 ((IntKind.wrap .u32 (1 * 2 ^ (min ((Q.of (Q.dop x)).bits) 32))) - 1))) rfl (fun w h => h.less Nz.sub) (E.tk 5 (E.u (Q.dimm x)) rfl (fun w h => h.less Nz.sub) (E.tk 6 (.pointer (some ⟨g3, 4, none⟩)) rfl (fun w h => h.less Nz.sub) (E.al 7 rfl (E.st 1 [E.i (Q.dop x), E.i (Q.field x ((Q.of (Q.dop x)).d) 22), E.i (Q.field x ((Q.of (Q.dop x)).a) 18), E.i (Q.field x ((Q.of (Q.dop x)).b) 14), E.u (Q.dimm x)] rfl rfl (E.H.back (fun w h => h.less Nz.sub) (E.H.done (by kernel_rfl) ?_)))))))))))
 refine E.To.code (E.C.seq (E.sr (E.op (.pointer (some ⟨g4, 4, none⟩)) (E.li (E.i ((Q.of (Q.dop x)).kind)) 0 rfl rfl (E.op (.bool (((Q.of (Q.dop x)).kind) == 1)) (E.To.code (E.wk [(1, E.pt g1), (2, E.pt g2), (3, E.i 0), (4, E.pt g3), (5, E.pt g4), (41, .bool (((Q.of (Q.dop x)).kind) == 1))] [(g4, [.bool ((Q.of (Q.dop x)).kn), .bool ((Q.of (Q.dop x)).d), .bool ((Q.of (Q.dop x)).a), .bool ((Q.of (Q.dop x)).b), E.i ((Q.of (Q.dop x)).kind), E.i (((Q.of (Q.dop x)).bits : Nat) : Int), E.u ((Q.of (Q.dop x)).most)]), (g3, [E.i (Q.dop x), E.i (Q.field x ((Q.of (Q.dop x)).d) 22), E.i (Q.field x ((Q.of (Q.dop x)).a) 18), E.i (Q.field x ((Q.of (Q.dop x)).b) 14), E.u (Q.dimm x)]), (g2, [E.i 0, E.i 0, E.i 0, E.i 0, E.u 0]), (g1, [E.u x])] Nz.sub (E.cd (((Q.of (Q.dop x)).kind) == 1) (fun hc5 => ?_) (fun hc5 => ?_)))))))))
 ·
  refine E.C.region (E.op (.pointer (some ⟨g3, 4, none⟩)) (E.li (E.u (Q.dimm x)) 1 rfl rfl (E.op (.pointer (some ⟨g4, 5, none⟩)) (E.li (E.i (((Q.of (Q.dop x)).bits : Nat) : Int)) 0 rfl rfl (E.G.call (E.u (Q.dsg x)) (fun w h => Sign_any (Q.dimm x) (((Q.of (Q.dop x)).bits : Nat) : Int) (W.bits_bd _ _ _).1 (W.bits_bd _ _ _).2 (by omega) (by omega) w) (fun w _ => by kernel_rfl) (by kernel_rfl) (E.op (.pointer (some ⟨g3, 4, none⟩)) (E.st 1 [E.i (Q.dop x), E.i (Q.field x ((Q.of (Q.dop x)).d) 22), E.i (Q.field x ((Q.of (Q.dop x)).a) 18), E.i (Q.field x ((Q.of (Q.dop x)).b) 14), E.u (Q.dsg x)] rfl rfl (E.To.code (E.wk [(1, E.pt g1), (2, E.pt g2), (3, E.i 0), (4, E.pt g3)] [(g3, [E.i (Q.dop x), E.i (Q.field x ((Q.of (Q.dop x)).d) 22), E.i (Q.field x ((Q.of (Q.dop x)).a) 18), E.i (Q.field x ((Q.of (Q.dop x)).b) 14), E.u (Q.dsg x)]), (g2, [E.i 0, E.i 0, E.i 0, E.i 0, E.u 0]), (g1, [E.u x])] Nz.sub (E.C.seq (E.sr ?_)))))))))))
  refine E.li (.agg #[E.i (Q.dop x), E.i (Q.field x ((Q.of (Q.dop x)).d) 22), E.i (Q.field x ((Q.of (Q.dop x)).a) 18), E.i (Q.field x ((Q.of (Q.dop x)).b) 14), E.u (Q.dsg x)]) 0 rfl rfl (E.G.call (.tuple #[E.u ((Q.encode (Q.c1 x)).1), E.i ((Q.encode (Q.c1 x)).2)]) (fun w h => Encode_any (Q.c1 x) (Q.dsg_bd x) w) (fun w _ => by kernel_rfl) (by kernel_rfl) (E.op (.tuple #[E.u ((Q.encode (Q.c1 x)).1), E.i ((Q.encode (Q.c1 x)).2)]) (E.op (E.u ((Q.encode (Q.c1 x)).1)) (E.op (E.i ((Q.encode (Q.c1 x)).2)) (E.op (E.u ((Q.encode (Q.c1 x)).1)) (E.op (E.i ((Q.encode (Q.c1 x)).2)) (E.tr (E.op (E.i ((Q.encode (Q.c1 x)).2)) (E.op (.bool (((Q.encode (Q.c1 x)).2) != 0)) (E.op (.bool (((Q.encode (Q.c1 x)).2) != 0)) (E.G.cut 4 [(2, E.pt g2), (3, E.i 0), (4, E.pt g3), (59, .bool ((((Q.encode (Q.c1 x)).2) != 0) || (((Q.encode (Q.c1 x)).1) != x)))] (fun _ => True) [(g3, [E.i (Q.dop x), E.i (Q.field x ((Q.of (Q.dop x)).d) 22), E.i (Q.field x ((Q.of (Q.dop x)).a) 18), E.i (Q.field x ((Q.of (Q.dop x)).b) 14), E.u (Q.dsg x)]), (g2, [E.i 0, E.i 0, E.i 0, E.i 0, E.u 0]), (g1, [E.u x])] ?_ ?_)))))))))))
  ·
   generalize hc6 : (((Q.encode (Q.c1 x)).2) != 0) = b7
   cases b7
   ·
    exact E.op (E.u ((Q.encode (Q.c1 x)).1)) (E.li (E.u x) 2 rfl rfl (E.op (.bool (((Q.encode (Q.c1 x)).1) != x)) (E.op (.bool (((Q.encode (Q.c1 x)).1) != x)) (E.G.end_pst ⟨by kernel_rfl, by kernel_rfl⟩ Nz.sub (fun _ h => h)))))
   exact E.sk (E.sk (E.sk (E.op (.bool true) (E.G.end_pst ⟨by kernel_rfl, by kernel_rfl⟩ Nz.sub (fun _ h => h)))))
  refine E.To.code (E.cd ((((Q.encode (Q.c1 x)).2) != 0) || (((Q.encode (Q.c1 x)).1) != x)) (fun hc8 => ?_) (fun hc8 => ?_))
  ·
   refine E.sr (E.vl (.agg #[E.i 0, E.i 0, E.i 0, E.i 0, E.u 0]) (fun w h => E.run_build #[E.i 0, E.i 0, E.i 0, E.i 0, E.u 0] (by kernel_rfl) w) (E.st 1 [E.i 0, E.i 0, E.i 0, E.i 0, E.u 0] rfl rfl (E.op (E.i 12) (E.To.code (E.C.ret (E.P.rt (E.To.body (fn := Tryz.f71) [.agg #[E.i 0, E.i 0, E.i 0, E.i 0, E.u 0], E.i 12] ?_ ?_)))))))
   · exact ⟨⟨by kernel_rfl, _, _, 1, _, rfl, rfl, by kernel_rfl⟩, ⟨by kernel_rfl, by kernel_rfl⟩, trivial⟩
   intro w h
   exact ⟨by show Ending.returned (.tuple #[.agg #[.int .i64 0, .int .i64 0, .int .i64 0, .int .i64 0, .int .u32 0], .int .i64 12]) = _; unfold Q.decode; rw [hc5, cond_true, hc8, cond_true] <;> rfl, h.ch.bel (fun _ h => h.elim)⟩
  refine E.C.skip (E.To.code (E.sr (E.li (.agg #[E.i (Q.dop x), E.i (Q.field x ((Q.of (Q.dop x)).d) 22), E.i (Q.field x ((Q.of (Q.dop x)).a) 18), E.i (Q.field x ((Q.of (Q.dop x)).b) 14), E.u (Q.dsg x)]) 0 rfl rfl (E.st 1 [E.i (Q.dop x), E.i (Q.field x ((Q.of (Q.dop x)).d) 22), E.i (Q.field x ((Q.of (Q.dop x)).a) 18), E.i (Q.field x ((Q.of (Q.dop x)).b) 14), E.u (Q.dsg x)] rfl rfl (E.op (E.i 0) (E.To.code (E.C.ret (E.To.body (fn := Tryz.f71) [.agg #[E.i (Q.dop x), E.i (Q.field x ((Q.of (Q.dop x)).d) 22), E.i (Q.field x ((Q.of (Q.dop x)).a) 18), E.i (Q.field x ((Q.of (Q.dop x)).b) 14), E.u (Q.dsg x)], E.i 0] ?_ ?_))))))))
  · exact ⟨⟨by kernel_rfl, _, _, 1, _, rfl, rfl, by kernel_rfl⟩, ⟨by kernel_rfl, by kernel_rfl⟩, trivial⟩
  intro w h
  exact ⟨by show Ending.returned (.tuple #[.agg #[.int .i64 (Q.dop x), .int .i64 (Q.field x ((Q.of (Q.dop x)).d) 22), .int .i64 (Q.field x ((Q.of (Q.dop x)).a) 18), .int .i64 (Q.field x ((Q.of (Q.dop x)).b) 14), .int .u32 (Q.dsg x)], .int .i64 0]) = _; unfold Q.decode; rw [hc5, cond_true, hc8, cond_false] <;> rfl, h.ch.bel (fun _ h => h.elim)⟩
 refine E.C.skip (E.To.code (E.C.seq (E.sr (E.li (.agg #[E.i (Q.dop x), E.i (Q.field x ((Q.of (Q.dop x)).d) 22), E.i (Q.field x ((Q.of (Q.dop x)).a) 18), E.i (Q.field x ((Q.of (Q.dop x)).b) 14), E.u (Q.dimm x)]) 1 rfl rfl (E.G.call (.tuple #[E.u ((Q.encode (Q.c0 x)).1), E.i ((Q.encode (Q.c0 x)).2)]) (fun w h => Encode_any (Q.c0 x) (Q.dimm_bd x) w) (fun w _ => by kernel_rfl) (by kernel_rfl) (E.op (.tuple #[E.u ((Q.encode (Q.c0 x)).1), E.i ((Q.encode (Q.c0 x)).2)]) (E.op (E.u ((Q.encode (Q.c0 x)).1)) (E.op (E.i ((Q.encode (Q.c0 x)).2)) (E.op (E.u ((Q.encode (Q.c0 x)).1)) (E.op (E.i ((Q.encode (Q.c0 x)).2)) (E.tr (E.op (E.i ((Q.encode (Q.c0 x)).2)) ?_))))))))))))
 refine E.op (.bool (((Q.encode (Q.c0 x)).2) != 0)) (E.op (.bool (((Q.encode (Q.c0 x)).2) != 0)) (E.G.cut 4 [(2, E.pt g2), (3, E.i 0), (4, E.pt g3), (59, .bool ((((Q.encode (Q.c0 x)).2) != 0) || (((Q.encode (Q.c0 x)).1) != x)))] (fun _ => True) [(g4, [.bool ((Q.of (Q.dop x)).kn), .bool ((Q.of (Q.dop x)).d), .bool ((Q.of (Q.dop x)).a), .bool ((Q.of (Q.dop x)).b), E.i ((Q.of (Q.dop x)).kind), E.i (((Q.of (Q.dop x)).bits : Nat) : Int), E.u ((Q.of (Q.dop x)).most)]), (g3, [E.i (Q.dop x), E.i (Q.field x ((Q.of (Q.dop x)).d) 22), E.i (Q.field x ((Q.of (Q.dop x)).a) 18), E.i (Q.field x ((Q.of (Q.dop x)).b) 14), E.u (Q.dimm x)]), (g2, [E.i 0, E.i 0, E.i 0, E.i 0, E.u 0]), (g1, [E.u x])] ?_ ?_))
 ·
  generalize hc9 : (((Q.encode (Q.c0 x)).2) != 0) = b10
  cases b10
  ·
   exact E.op (E.u ((Q.encode (Q.c0 x)).1)) (E.li (E.u x) 3 rfl rfl (E.op (.bool (((Q.encode (Q.c0 x)).1) != x)) (E.op (.bool (((Q.encode (Q.c0 x)).1) != x)) (E.G.end_pst ⟨by kernel_rfl, by kernel_rfl⟩ Nz.sub (fun _ h => h)))))
  exact E.sk (E.sk (E.sk (E.op (.bool true) (E.G.end_pst ⟨by kernel_rfl, by kernel_rfl⟩ Nz.sub (fun _ h => h)))))
 refine E.To.code (E.cd ((((Q.encode (Q.c0 x)).2) != 0) || (((Q.encode (Q.c0 x)).1) != x)) (fun hc11 => ?_) (fun hc11 => ?_))
 ·
  refine E.sr (E.vl (.agg #[E.i 0, E.i 0, E.i 0, E.i 0, E.u 0]) (fun w h => E.run_build #[E.i 0, E.i 0, E.i 0, E.i 0, E.u 0] (by kernel_rfl) w) (E.st 2 [E.i 0, E.i 0, E.i 0, E.i 0, E.u 0] rfl rfl (E.op (E.i 12) (E.To.code (E.C.ret (E.P.rt (E.To.body (fn := Tryz.f71) [.agg #[E.i 0, E.i 0, E.i 0, E.i 0, E.u 0], E.i 12] ?_ ?_)))))))
  · exact ⟨⟨by kernel_rfl, _, _, 2, _, rfl, rfl, by kernel_rfl⟩, ⟨by kernel_rfl, by kernel_rfl⟩, trivial⟩
  intro w h
  exact ⟨by show Ending.returned (.tuple #[.agg #[.int .i64 0, .int .i64 0, .int .i64 0, .int .i64 0, .int .u32 0], .int .i64 12]) = _; unfold Q.decode; rw [hc5, cond_false, hc11, cond_true] <;> rfl, h.ch.bel (fun _ h => h.elim)⟩
 refine E.C.skip (E.To.code (E.sr (E.li (.agg #[E.i (Q.dop x), E.i (Q.field x ((Q.of (Q.dop x)).d) 22), E.i (Q.field x ((Q.of (Q.dop x)).a) 18), E.i (Q.field x ((Q.of (Q.dop x)).b) 14), E.u (Q.dimm x)]) 1 rfl rfl (E.st 2 [E.i (Q.dop x), E.i (Q.field x ((Q.of (Q.dop x)).d) 22), E.i (Q.field x ((Q.of (Q.dop x)).a) 18), E.i (Q.field x ((Q.of (Q.dop x)).b) 14), E.u (Q.dimm x)] rfl rfl (E.op (E.i 0) (E.To.code (E.wk [(2, E.pt g2), (3, E.i 0)] [(g2, [E.i (Q.dop x), E.i (Q.field x ((Q.of (Q.dop x)).d) 22), E.i (Q.field x ((Q.of (Q.dop x)).a) 18), E.i (Q.field x ((Q.of (Q.dop x)).b) 14), E.u (Q.dimm x)])] Nz.sub (E.C.ret (E.To.body (fn := Tryz.f71) [.agg #[E.i (Q.dop x), E.i (Q.field x ((Q.of (Q.dop x)).d) 22), E.i (Q.field x ((Q.of (Q.dop x)).a) 18), E.i (Q.field x ((Q.of (Q.dop x)).b) 14), E.u (Q.dimm x)], E.i 0] ?_ ?_)))))))))
 · exact ⟨⟨by kernel_rfl, _, _, 0, _, rfl, rfl, by kernel_rfl⟩, ⟨by kernel_rfl, by kernel_rfl⟩, trivial⟩
 intro w h
 exact ⟨by show Ending.returned (.tuple #[.agg #[.int .i64 (Q.dop x), .int .i64 (Q.field x ((Q.of (Q.dop x)).d) 22), .int .i64 (Q.field x ((Q.of (Q.dop x)).a) 18), .int .i64 (Q.field x ((Q.of (Q.dop x)).b) 14), .int .u32 (Q.dimm x)], .int .i64 0]) = _; unfold Q.decode; rw [hc5, cond_false, hc11, cond_false] <;> rfl, h.ch.bel (fun _ h => h.elim)⟩
theorem byt_extract (s : ByteArray) (m j : Nat) (hj : j < m) : W.byt (s.extract 0 m).data.toList j = W.byt s.data.toList j := by
  unfold W.byt
  have : (s.extract 0 m).data.toList = s.data.toList.take m := by simp [ByteArray.data_extract]
  rw [this]
  simp [List.getD, hj]

theorem bel_bytes (w : World) (e : TypeId) (s : ByteArray) : Bel w (Lib.bytesWorld w e s) :=
  ⟨rfl, rfl, rfl, by rw [Lib.bytesWorld_size]; omega, fun k hk => Lib.bytesWorld_at_old w e s k hk⟩

theorem Get_any (s : ByteArray) (hs : s.size ≤ maxLen) (w : World) :
    Calls Tryz.prog 72 #[.string s] w fun e w' => e = .returned (.int .u32 (W.get s.data.toList)) ∧ Bel w w' := by
  unfold maxLen at hs
  have hcv : ∀ s' : ByteArray, (convert 9 42 (.string s')).run Tryz.prog w = .ok (.slice (some ⟨w.heap.size, 0, none⟩) s'.size (grownCap w s'.size 0 5)) (Lib.bytesWorld w 5 s') :=
    fun s' => Lib.run_convert_string_bytes w 9 42 5 s' Tryz.underlying9 Tryz.underlying42 Tryz.underlying5
  have hcell : ∀ (s' : ByteArray) (j : Nat), j < s'.size → (Lib.bytesWorld w 5 s').cell? ⟨w.heap.size, j, none⟩ = some (.int .u8 (W.byt s'.data.toList j)) := fun s' j hj => Lib.bytesWorld_cell w 5 s' j hj
  have hbd := W.byt_bd
  by_cases h4 : s.size ≤ 4
  · have hB : Bel w (Lib.bytesWorld w 5 s) := bel_bytes w _ s
    go_enter Tryz.func72, Tryz.ntmps72
    go_wp2
    go_loop [3, 4, 5, 13] (fun n _ _ i => ∃ k : Nat, k ≤ s.size ∧ i = .int .i64 k ∧ n = .int .u32 (W.getK s.data.toList k)) (fun _ _ _ i => s.size - (intOf i).toNat)
    case atStart => exact ⟨0, by omega, rfl, rfl⟩
    case round =>
      obtain ⟨k, hk, rfl, rfl⟩ := hrel
      have hb1 := hbd s.data.toList k
      clear hbd
      by_cases c1 : k < s.size
      · have HK := hid (W.getK_or s.data.toList k (by omega))
        go_wp2
        go_round
        case rel => exact ⟨k + 1, by omega, by go_num, by rw [← HK.out]⟩
        case measure => simp [intOf]; omega
      · have HK := hid (W.getK_eq s.data.toList k (by omega) (Or.inr (by simp; omega)))
        go_wp2
        go_ret
        exact ⟨ret_int (by rw [HK.out]), hB⟩
  · have hB : Bel w (Lib.bytesWorld w 5 (s.extract 0 4)) := bel_bytes w _ _
    have hmin : min 4 s.size = 4 := by omega
    have hcell4 : ∀ j : Nat, j < 4 → (Lib.bytesWorld w 5 (s.extract 0 4)).cell? ⟨w.heap.size, j, none⟩ = some (.int .u8 (W.byt s.data.toList j)) := fun j hj => by
      rw [hcell _ j (by simp; omega), byt_extract s 4 j hj]
    clear hcell
    go_enter Tryz.func72, Tryz.ntmps72
    go_wp2
    go_loop [3, 4, 5, 13] (fun n _ _ i => ∃ k : Nat, k ≤ 4 ∧ i = .int .i64 k ∧ n = .int .u32 (W.getK s.data.toList k)) (fun _ _ _ i => 4 - (intOf i).toNat)
    case atStart => exact ⟨0, by omega, rfl, rfl⟩
    case round =>
      obtain ⟨k, hk, rfl, rfl⟩ := hrel
      have hb1 := hbd s.data.toList k
      clear hbd
      by_cases c1 : k < 4
      · have HK := hid (W.getK_or s.data.toList k (by omega))
        go_wp2
        go_round
        case rel => exact ⟨k + 1, by omega, by go_num, by rw [← HK.out]⟩
        case measure => simp [intOf]; omega
      · have HK := hid (W.getK_eq s.data.toList k (by omega) (Or.inl (by omega)))
        go_wp2
        go_ret
        exact ⟨ret_int (by rw [HK.out]), hB⟩
theorem rsigned_any (a : Int) (h0 : 0 ≤ a) (h1 : a < 4294967296) (w : World) :
    Calls Tryz.prog 78 #[.int .u32 a] w fun e w' => e = .returned (.int .i64 (W.sg a)) ∧ Bel w w' := by
  by_cases h : 2147483648 ≤ a
  · have HS := hid (show W.sg a = a - 4294967296 by simp [W.sg, h])
    go_enter Tryz.func78, Tryz.ntmps78
    go_wp2
    go_ret
    exact ⟨ret_int (by rw [HS.out]), Nz.bel⟩
  · have HS := hid (show W.sg a = a by simp [W.sg, h])
    go_enter Tryz.func78, Tryz.ntmps78
    go_wp2
    go_ret
    exact ⟨ret_int (by rw [HS.out]), Nz.bel⟩
def opsEnt : Array MapEntry := #[⟨.int .i64 3, .func (.func 88) #[] #[], 0⟩, ⟨.int .i64 4, .func (.func 89) #[] #[], 1⟩, ⟨.int .i64 5, .func (.func 90) #[] #[], 2⟩, ⟨.int .i64 6, .func (.func 91) #[] #[], 3⟩, ⟨.int .i64 7, .func (.func 92) #[] #[], 4⟩, ⟨.int .i64 8, .func (.func 93) #[] #[], 5⟩, ⟨.int .i64 9, .func (.func 94) #[] #[], 6⟩, ⟨.int .i64 10, .func (.func 95) #[] #[], 7⟩, ⟨.int .i64 11, .func (.func 96) #[] #[], 8⟩, ⟨.int .i64 12, .func (.func 97) #[] #[], 9⟩, ⟨.int .i64 13, .func (.func 98) #[] #[], 10⟩, ⟨.int .i64 14, .func (.func 100) #[] #[], 11⟩, ⟨.int .i64 15, .func (.func 101) #[] #[], 12⟩]
theorem ops_any (w : World) : Calls Tryz.prog 73 #[] w fun e w' => e = .returned (.map (some w.heap.size)) ∧ w'.heap[w.heap.size]? = some (.map opsEnt 13) ∧ Bel w w' := by
  have hmm := @run_makeMap Tryz.prog
  have hu : ∀ (es : Array MapEntry) (clock : Nat) (a : Int) (v : Value), Instr.findNow (.int .i64) (.int .i64 a) es.toList 0 = some none →
    (Instr.mapUpdate 140 (.map (some w.heap.size)) (.int .i64 a) v).run Tryz.prog (w.alloc (.map es clock)) = .ok () (w.alloc (.map (es.push ⟨.int .i64 a, v, clock⟩) (clock + 1))) :=
    fun es clock a v h => run_mapUpdate_new w 140 3 138 .i64 es clock a v Tryz.underlying140 Tryz.underlying3 h
  have h0 : (Instr.mapUpdate 140 (.map (some w.heap.size)) (.int .i64 3) (.func (.func 88) #[] #[])).run Tryz.prog (w.alloc (.map #[] 0)) = .ok () (w.alloc (.map #[⟨.int .i64 3, .func (.func 88) #[] #[], 0⟩] 1)) := hu _ 0 3 _ (by rfl)
  have h1 : (Instr.mapUpdate 140 (.map (some w.heap.size)) (.int .i64 4) (.func (.func 89) #[] #[])).run Tryz.prog (w.alloc (.map #[⟨.int .i64 3, .func (.func 88) #[] #[], 0⟩] 1)) = .ok () (w.alloc (.map #[⟨.int .i64 3, .func (.func 88) #[] #[], 0⟩, ⟨.int .i64 4, .func (.func 89) #[] #[], 1⟩] 2)) := hu _ 1 4 _ (by rfl)
  have h2 : (Instr.mapUpdate 140 (.map (some w.heap.size)) (.int .i64 5) (.func (.func 90) #[] #[])).run Tryz.prog (w.alloc (.map #[⟨.int .i64 3, .func (.func 88) #[] #[], 0⟩, ⟨.int .i64 4, .func (.func 89) #[] #[], 1⟩] 2)) = .ok () (w.alloc (.map #[⟨.int .i64 3, .func (.func 88) #[] #[], 0⟩, ⟨.int .i64 4, .func (.func 89) #[] #[], 1⟩, ⟨.int .i64 5, .func (.func 90) #[] #[], 2⟩] 3)) := hu _ 2 5 _ (by rfl)
  have h3 : (Instr.mapUpdate 140 (.map (some w.heap.size)) (.int .i64 6) (.func (.func 91) #[] #[])).run Tryz.prog (w.alloc (.map #[⟨.int .i64 3, .func (.func 88) #[] #[], 0⟩, ⟨.int .i64 4, .func (.func 89) #[] #[], 1⟩, ⟨.int .i64 5, .func (.func 90) #[] #[], 2⟩] 3)) = .ok () (w.alloc (.map #[⟨.int .i64 3, .func (.func 88) #[] #[], 0⟩, ⟨.int .i64 4, .func (.func 89) #[] #[], 1⟩, ⟨.int .i64 5, .func (.func 90) #[] #[], 2⟩, ⟨.int .i64 6, .func (.func 91) #[] #[], 3⟩] 4)) := hu _ 3 6 _ (by rfl)
  have h4 : (Instr.mapUpdate 140 (.map (some w.heap.size)) (.int .i64 7) (.func (.func 92) #[] #[])).run Tryz.prog (w.alloc (.map #[⟨.int .i64 3, .func (.func 88) #[] #[], 0⟩, ⟨.int .i64 4, .func (.func 89) #[] #[], 1⟩, ⟨.int .i64 5, .func (.func 90) #[] #[], 2⟩, ⟨.int .i64 6, .func (.func 91) #[] #[], 3⟩] 4)) = .ok () (w.alloc (.map #[⟨.int .i64 3, .func (.func 88) #[] #[], 0⟩, ⟨.int .i64 4, .func (.func 89) #[] #[], 1⟩, ⟨.int .i64 5, .func (.func 90) #[] #[], 2⟩, ⟨.int .i64 6, .func (.func 91) #[] #[], 3⟩, ⟨.int .i64 7, .func (.func 92) #[] #[], 4⟩] 5)) := hu _ 4 7 _ (by rfl)
  have h5 : (Instr.mapUpdate 140 (.map (some w.heap.size)) (.int .i64 8) (.func (.func 93) #[] #[])).run Tryz.prog (w.alloc (.map #[⟨.int .i64 3, .func (.func 88) #[] #[], 0⟩, ⟨.int .i64 4, .func (.func 89) #[] #[], 1⟩, ⟨.int .i64 5, .func (.func 90) #[] #[], 2⟩, ⟨.int .i64 6, .func (.func 91) #[] #[], 3⟩, ⟨.int .i64 7, .func (.func 92) #[] #[], 4⟩] 5)) = .ok () (w.alloc (.map #[⟨.int .i64 3, .func (.func 88) #[] #[], 0⟩, ⟨.int .i64 4, .func (.func 89) #[] #[], 1⟩, ⟨.int .i64 5, .func (.func 90) #[] #[], 2⟩, ⟨.int .i64 6, .func (.func 91) #[] #[], 3⟩, ⟨.int .i64 7, .func (.func 92) #[] #[], 4⟩, ⟨.int .i64 8, .func (.func 93) #[] #[], 5⟩] 6)) := hu _ 5 8 _ (by rfl)
  have h6 : (Instr.mapUpdate 140 (.map (some w.heap.size)) (.int .i64 9) (.func (.func 94) #[] #[])).run Tryz.prog (w.alloc (.map #[⟨.int .i64 3, .func (.func 88) #[] #[], 0⟩, ⟨.int .i64 4, .func (.func 89) #[] #[], 1⟩, ⟨.int .i64 5, .func (.func 90) #[] #[], 2⟩, ⟨.int .i64 6, .func (.func 91) #[] #[], 3⟩, ⟨.int .i64 7, .func (.func 92) #[] #[], 4⟩, ⟨.int .i64 8, .func (.func 93) #[] #[], 5⟩] 6)) = .ok () (w.alloc (.map #[⟨.int .i64 3, .func (.func 88) #[] #[], 0⟩, ⟨.int .i64 4, .func (.func 89) #[] #[], 1⟩, ⟨.int .i64 5, .func (.func 90) #[] #[], 2⟩, ⟨.int .i64 6, .func (.func 91) #[] #[], 3⟩, ⟨.int .i64 7, .func (.func 92) #[] #[], 4⟩, ⟨.int .i64 8, .func (.func 93) #[] #[], 5⟩, ⟨.int .i64 9, .func (.func 94) #[] #[], 6⟩] 7)) := hu _ 6 9 _ (by rfl)
  have h7 : (Instr.mapUpdate 140 (.map (some w.heap.size)) (.int .i64 10) (.func (.func 95) #[] #[])).run Tryz.prog (w.alloc (.map #[⟨.int .i64 3, .func (.func 88) #[] #[], 0⟩, ⟨.int .i64 4, .func (.func 89) #[] #[], 1⟩, ⟨.int .i64 5, .func (.func 90) #[] #[], 2⟩, ⟨.int .i64 6, .func (.func 91) #[] #[], 3⟩, ⟨.int .i64 7, .func (.func 92) #[] #[], 4⟩, ⟨.int .i64 8, .func (.func 93) #[] #[], 5⟩, ⟨.int .i64 9, .func (.func 94) #[] #[], 6⟩] 7)) = .ok () (w.alloc (.map #[⟨.int .i64 3, .func (.func 88) #[] #[], 0⟩, ⟨.int .i64 4, .func (.func 89) #[] #[], 1⟩, ⟨.int .i64 5, .func (.func 90) #[] #[], 2⟩, ⟨.int .i64 6, .func (.func 91) #[] #[], 3⟩, ⟨.int .i64 7, .func (.func 92) #[] #[], 4⟩, ⟨.int .i64 8, .func (.func 93) #[] #[], 5⟩, ⟨.int .i64 9, .func (.func 94) #[] #[], 6⟩, ⟨.int .i64 10, .func (.func 95) #[] #[], 7⟩] 8)) := hu _ 7 10 _ (by rfl)
  have h8 : (Instr.mapUpdate 140 (.map (some w.heap.size)) (.int .i64 11) (.func (.func 96) #[] #[])).run Tryz.prog (w.alloc (.map #[⟨.int .i64 3, .func (.func 88) #[] #[], 0⟩, ⟨.int .i64 4, .func (.func 89) #[] #[], 1⟩, ⟨.int .i64 5, .func (.func 90) #[] #[], 2⟩, ⟨.int .i64 6, .func (.func 91) #[] #[], 3⟩, ⟨.int .i64 7, .func (.func 92) #[] #[], 4⟩, ⟨.int .i64 8, .func (.func 93) #[] #[], 5⟩, ⟨.int .i64 9, .func (.func 94) #[] #[], 6⟩, ⟨.int .i64 10, .func (.func 95) #[] #[], 7⟩] 8)) = .ok () (w.alloc (.map #[⟨.int .i64 3, .func (.func 88) #[] #[], 0⟩, ⟨.int .i64 4, .func (.func 89) #[] #[], 1⟩, ⟨.int .i64 5, .func (.func 90) #[] #[], 2⟩, ⟨.int .i64 6, .func (.func 91) #[] #[], 3⟩, ⟨.int .i64 7, .func (.func 92) #[] #[], 4⟩, ⟨.int .i64 8, .func (.func 93) #[] #[], 5⟩, ⟨.int .i64 9, .func (.func 94) #[] #[], 6⟩, ⟨.int .i64 10, .func (.func 95) #[] #[], 7⟩, ⟨.int .i64 11, .func (.func 96) #[] #[], 8⟩] 9)) := hu _ 8 11 _ (by rfl)
  have h9 : (Instr.mapUpdate 140 (.map (some w.heap.size)) (.int .i64 12) (.func (.func 97) #[] #[])).run Tryz.prog (w.alloc (.map #[⟨.int .i64 3, .func (.func 88) #[] #[], 0⟩, ⟨.int .i64 4, .func (.func 89) #[] #[], 1⟩, ⟨.int .i64 5, .func (.func 90) #[] #[], 2⟩, ⟨.int .i64 6, .func (.func 91) #[] #[], 3⟩, ⟨.int .i64 7, .func (.func 92) #[] #[], 4⟩, ⟨.int .i64 8, .func (.func 93) #[] #[], 5⟩, ⟨.int .i64 9, .func (.func 94) #[] #[], 6⟩, ⟨.int .i64 10, .func (.func 95) #[] #[], 7⟩, ⟨.int .i64 11, .func (.func 96) #[] #[], 8⟩] 9)) = .ok () (w.alloc (.map #[⟨.int .i64 3, .func (.func 88) #[] #[], 0⟩, ⟨.int .i64 4, .func (.func 89) #[] #[], 1⟩, ⟨.int .i64 5, .func (.func 90) #[] #[], 2⟩, ⟨.int .i64 6, .func (.func 91) #[] #[], 3⟩, ⟨.int .i64 7, .func (.func 92) #[] #[], 4⟩, ⟨.int .i64 8, .func (.func 93) #[] #[], 5⟩, ⟨.int .i64 9, .func (.func 94) #[] #[], 6⟩, ⟨.int .i64 10, .func (.func 95) #[] #[], 7⟩, ⟨.int .i64 11, .func (.func 96) #[] #[], 8⟩, ⟨.int .i64 12, .func (.func 97) #[] #[], 9⟩] 10)) := hu _ 9 12 _ (by rfl)
  have h10 : (Instr.mapUpdate 140 (.map (some w.heap.size)) (.int .i64 13) (.func (.func 98) #[] #[])).run Tryz.prog (w.alloc (.map #[⟨.int .i64 3, .func (.func 88) #[] #[], 0⟩, ⟨.int .i64 4, .func (.func 89) #[] #[], 1⟩, ⟨.int .i64 5, .func (.func 90) #[] #[], 2⟩, ⟨.int .i64 6, .func (.func 91) #[] #[], 3⟩, ⟨.int .i64 7, .func (.func 92) #[] #[], 4⟩, ⟨.int .i64 8, .func (.func 93) #[] #[], 5⟩, ⟨.int .i64 9, .func (.func 94) #[] #[], 6⟩, ⟨.int .i64 10, .func (.func 95) #[] #[], 7⟩, ⟨.int .i64 11, .func (.func 96) #[] #[], 8⟩, ⟨.int .i64 12, .func (.func 97) #[] #[], 9⟩] 10)) = .ok () (w.alloc (.map #[⟨.int .i64 3, .func (.func 88) #[] #[], 0⟩, ⟨.int .i64 4, .func (.func 89) #[] #[], 1⟩, ⟨.int .i64 5, .func (.func 90) #[] #[], 2⟩, ⟨.int .i64 6, .func (.func 91) #[] #[], 3⟩, ⟨.int .i64 7, .func (.func 92) #[] #[], 4⟩, ⟨.int .i64 8, .func (.func 93) #[] #[], 5⟩, ⟨.int .i64 9, .func (.func 94) #[] #[], 6⟩, ⟨.int .i64 10, .func (.func 95) #[] #[], 7⟩, ⟨.int .i64 11, .func (.func 96) #[] #[], 8⟩, ⟨.int .i64 12, .func (.func 97) #[] #[], 9⟩, ⟨.int .i64 13, .func (.func 98) #[] #[], 10⟩] 11)) := hu _ 10 13 _ (by rfl)
  have h11 : (Instr.mapUpdate 140 (.map (some w.heap.size)) (.int .i64 14) (.func (.func 100) #[] #[])).run Tryz.prog (w.alloc (.map #[⟨.int .i64 3, .func (.func 88) #[] #[], 0⟩, ⟨.int .i64 4, .func (.func 89) #[] #[], 1⟩, ⟨.int .i64 5, .func (.func 90) #[] #[], 2⟩, ⟨.int .i64 6, .func (.func 91) #[] #[], 3⟩, ⟨.int .i64 7, .func (.func 92) #[] #[], 4⟩, ⟨.int .i64 8, .func (.func 93) #[] #[], 5⟩, ⟨.int .i64 9, .func (.func 94) #[] #[], 6⟩, ⟨.int .i64 10, .func (.func 95) #[] #[], 7⟩, ⟨.int .i64 11, .func (.func 96) #[] #[], 8⟩, ⟨.int .i64 12, .func (.func 97) #[] #[], 9⟩, ⟨.int .i64 13, .func (.func 98) #[] #[], 10⟩] 11)) = .ok () (w.alloc (.map #[⟨.int .i64 3, .func (.func 88) #[] #[], 0⟩, ⟨.int .i64 4, .func (.func 89) #[] #[], 1⟩, ⟨.int .i64 5, .func (.func 90) #[] #[], 2⟩, ⟨.int .i64 6, .func (.func 91) #[] #[], 3⟩, ⟨.int .i64 7, .func (.func 92) #[] #[], 4⟩, ⟨.int .i64 8, .func (.func 93) #[] #[], 5⟩, ⟨.int .i64 9, .func (.func 94) #[] #[], 6⟩, ⟨.int .i64 10, .func (.func 95) #[] #[], 7⟩, ⟨.int .i64 11, .func (.func 96) #[] #[], 8⟩, ⟨.int .i64 12, .func (.func 97) #[] #[], 9⟩, ⟨.int .i64 13, .func (.func 98) #[] #[], 10⟩, ⟨.int .i64 14, .func (.func 100) #[] #[], 11⟩] 12)) := hu _ 11 14 _ (by rfl)
  have h12 : (Instr.mapUpdate 140 (.map (some w.heap.size)) (.int .i64 15) (.func (.func 101) #[] #[])).run Tryz.prog (w.alloc (.map #[⟨.int .i64 3, .func (.func 88) #[] #[], 0⟩, ⟨.int .i64 4, .func (.func 89) #[] #[], 1⟩, ⟨.int .i64 5, .func (.func 90) #[] #[], 2⟩, ⟨.int .i64 6, .func (.func 91) #[] #[], 3⟩, ⟨.int .i64 7, .func (.func 92) #[] #[], 4⟩, ⟨.int .i64 8, .func (.func 93) #[] #[], 5⟩, ⟨.int .i64 9, .func (.func 94) #[] #[], 6⟩, ⟨.int .i64 10, .func (.func 95) #[] #[], 7⟩, ⟨.int .i64 11, .func (.func 96) #[] #[], 8⟩, ⟨.int .i64 12, .func (.func 97) #[] #[], 9⟩, ⟨.int .i64 13, .func (.func 98) #[] #[], 10⟩, ⟨.int .i64 14, .func (.func 100) #[] #[], 11⟩] 12)) = .ok () (w.alloc (.map #[⟨.int .i64 3, .func (.func 88) #[] #[], 0⟩, ⟨.int .i64 4, .func (.func 89) #[] #[], 1⟩, ⟨.int .i64 5, .func (.func 90) #[] #[], 2⟩, ⟨.int .i64 6, .func (.func 91) #[] #[], 3⟩, ⟨.int .i64 7, .func (.func 92) #[] #[], 4⟩, ⟨.int .i64 8, .func (.func 93) #[] #[], 5⟩, ⟨.int .i64 9, .func (.func 94) #[] #[], 6⟩, ⟨.int .i64 10, .func (.func 95) #[] #[], 7⟩, ⟨.int .i64 11, .func (.func 96) #[] #[], 8⟩, ⟨.int .i64 12, .func (.func 97) #[] #[], 9⟩, ⟨.int .i64 13, .func (.func 98) #[] #[], 10⟩, ⟨.int .i64 14, .func (.func 100) #[] #[], 11⟩, ⟨.int .i64 15, .func (.func 101) #[] #[], 12⟩] 13)) := hu _ 12 15 _ (by rfl)
  clear hu
  go_enter Tryz.func73, Tryz.ntmps73
  go_wp2
  go_ret
  exact ⟨rfl, (MapKept.heap_alloc w _).1, Nz.bel⟩
theorem wbit_any (b : Bool) (w : World) : Calls Tryz.prog 99 #[.bool b] w fun e w' => e = .returned (.int .u32 (W.b01 b)) ∧ Bel w w' := by
  cases b
  · go_enter Tryz.func99, Tryz.ntmps99
    go_wp2
    go_ret
    exact ⟨rfl, Nz.bel⟩
  · go_enter Tryz.func99, Tryz.ntmps99
    go_wp2
    go_ret
    exact ⟨rfl, Nz.bel⟩
theorem rbit_any (b : Bool) (w : World) : Calls Tryz.prog 79 #[.bool b] w fun e w' => e = .returned (.int .u32 (W.b01 b)) ∧ Bel w w' := by
  cases b
  · go_enter Tryz.func79, Tryz.ntmps79
    go_wp2
    go_ret
    exact ⟨rfl, Nz.bel⟩
  · go_enter Tryz.func79, Tryz.ntmps79
    go_wp2
    go_ret
    exact ⟨rfl, Nz.bel⟩
theorem clo_3 (a b : Int) (ha : 0 ≤ a) (ha' : a < 4294967296) (hb : 0 ≤ b) (hb' : b < 4294967296) (w : World) :
    Calls Tryz.prog 88 #[.int .u32 a, .int .u32 b] w fun e w' => e = .returned (.int .u32 (W.op 3 a b)) ∧ Bel w w' := by
  go_enter Tryz.func88, Tryz.ntmps88
  go_wp2
  go_ret
  exact ⟨ret_int (by rw [W.op_3]), Nz.bel⟩
theorem clo_4 (a b : Int) (ha : 0 ≤ a) (ha' : a < 4294967296) (hb : 0 ≤ b) (hb' : b < 4294967296) (w : World) :
    Calls Tryz.prog 89 #[.int .u32 a, .int .u32 b] w fun e w' => e = .returned (.int .u32 (W.op 4 a b)) ∧ Bel w w' := by
  go_enter Tryz.func89, Tryz.ntmps89
  go_wp2
  go_ret
  exact ⟨ret_int (by rw [W.op_4]), Nz.bel⟩
theorem clo_5 (a b : Int) (ha : 0 ≤ a) (ha' : a < 4294967296) (hb : 0 ≤ b) (hb' : b < 4294967296) (w : World) :
    Calls Tryz.prog 90 #[.int .u32 a, .int .u32 b] w fun e w' => e = .returned (.int .u32 (W.op 5 a b)) ∧ Bel w w' := by
  go_enter Tryz.func90, Tryz.ntmps90
  go_wp2
  go_ret
  exact ⟨ret_int (by rw [W.op_5]), Nz.bel⟩
theorem clo_6 (a b : Int) (ha : 0 ≤ a) (ha' : a < 4294967296) (hb : 0 ≤ b) (hb' : b < 4294967296) (w : World) :
    Calls Tryz.prog 91 #[.int .u32 a, .int .u32 b] w fun e w' => e = .returned (.int .u32 (W.op 6 a b)) ∧ Bel w w' := by
  go_enter Tryz.func91, Tryz.ntmps91
  go_wp2
  go_ret
  exact ⟨ret_int (by rw [W.op_6]), Nz.bel⟩
theorem clo_7 (a b : Int) (ha : 0 ≤ a) (ha' : a < 4294967296) (hb : 0 ≤ b) (hb' : b < 4294967296) (w : World) :
    Calls Tryz.prog 92 #[.int .u32 a, .int .u32 b] w fun e w' => e = .returned (.int .u32 (W.op 7 a b)) ∧ Bel w w' := by
  go_enter Tryz.func92, Tryz.ntmps92
  go_wp2
  go_ret
  exact ⟨ret_int (by rw [W.op_7]), Nz.bel⟩
theorem clo_8 (a b : Int) (ha : 0 ≤ a) (ha' : a < 4294967296) (hb : 0 ≤ b) (hb' : b < 4294967296) (w : World) :
    Calls Tryz.prog 93 #[.int .u32 a, .int .u32 b] w fun e w' => e = .returned (.int .u32 (W.op 8 a b)) ∧ Bel w w' := by
  have hd : 0 ≤ b % 32 ∧ b % 32 < 32 := by omega
  go_enter Tryz.func93, Tryz.ntmps93
  go_wp2
  go_ret
  exact ⟨ret_int (by rw [W.op_8]), Nz.bel⟩
theorem clo_9 (a b : Int) (ha : 0 ≤ a) (ha' : a < 4294967296) (hb : 0 ≤ b) (hb' : b < 4294967296) (w : World) :
    Calls Tryz.prog 94 #[.int .u32 a, .int .u32 b] w fun e w' => e = .returned (.int .u32 (W.op 9 a b)) ∧ Bel w w' := by
  have hd : 0 ≤ b % 32 ∧ b % 32 < 32 := by omega
  go_enter Tryz.func94, Tryz.ntmps94
  go_wp2
  go_ret
  exact ⟨ret_int (by rw [W.op_9]), Nz.bel⟩
theorem clo_10 (a b : Int) (ha : 0 ≤ a) (ha' : a < 4294967296) (hb : 0 ≤ b) (hb' : b < 4294967296) (w : World) :
    Calls Tryz.prog 95 #[.int .u32 a, .int .u32 b] w fun e w' => e = .returned (.int .u32 (W.op 10 a b)) ∧ Bel w w' := by
  have hd : 0 ≤ b % 32 ∧ b % 32 < 32 := by omega
  have hs := W.sg_wrap a ha ha'
  go_enter Tryz.func95, Tryz.ntmps95
  go_wp2
  go_ret
  exact ⟨ret_int (by rw [W.op_10]), Nz.bel⟩
theorem clo_11 (a b : Int) (ha : 0 ≤ a) (ha' : a < 4294967296) (hb : 0 ≤ b) (hb' : b < 4294967296) (w : World) :
    Calls Tryz.prog 96 #[.int .u32 a, .int .u32 b] w fun e w' => e = .returned (.int .u32 (W.op 11 a b)) ∧ Bel w w' := by
  go_enter Tryz.func96, Tryz.ntmps96
  go_wp2
  go_ret
  exact ⟨ret_int (by rw [W.op_11]), Nz.bel⟩
theorem clo_12 (a b : Int) (ha : 0 ≤ a) (ha' : a < 4294967296) (hb : 0 ≤ b) (hb' : b < 4294967296) (w : World) :
    Calls Tryz.prog 97 #[.int .u32 a, .int .u32 b] w fun e w' => e = .returned (.int .u32 (W.op 12 a b)) ∧ Bel w w' := by
  by_cases h : b = 0
  · subst h
    go_enter Tryz.func97, Tryz.ntmps97
    go_wp2
    go_ret
    exact ⟨ret_int (by rw [W.op_12]; simp), Nz.bel⟩
  · have h0 : (b == 0) = false := by simp [h]
    go_enter Tryz.func97, Tryz.ntmps97
    go_wp2
    go_ret
    exact ⟨ret_int (by rw [W.op_12]), Nz.bel⟩
theorem clo_13 (a b : Int) (ha : 0 ≤ a) (ha' : a < 4294967296) (hb : 0 ≤ b) (hb' : b < 4294967296) (w : World) :
    Calls Tryz.prog 98 #[.int .u32 a, .int .u32 b] w fun e w' => e = .returned (.int .u32 (W.op 13 a b)) ∧ Bel w w' := by
  go_enter Tryz.func98, Tryz.ntmps98
  go_wp2_with (go_at_call 99; refine (wbit_any _ _).mono ?_; rintro e w' ⟨rfl, hb⟩)
  go_ret
  exact ⟨ret_int (by rw [W.op_13]), Nz.bel⟩
theorem clo_14 (a b : Int) (ha : 0 ≤ a) (ha' : a < 4294967296) (hb : 0 ≤ b) (hb' : b < 4294967296) (w : World) :
    Calls Tryz.prog 100 #[.int .u32 a, .int .u32 b] w fun e w' => e = .returned (.int .u32 (W.op 14 a b)) ∧ Bel w w' := by
  go_enter Tryz.func100, Tryz.ntmps100
  go_wp2_with (go_at_call 99; refine (wbit_any _ _).mono ?_; rintro e w' ⟨rfl, hb⟩)
  go_ret
  exact ⟨ret_int (by rw [W.op_14]), Nz.bel⟩
theorem clo_15 (a b : Int) (ha : 0 ≤ a) (ha' : a < 4294967296) (hb : 0 ≤ b) (hb' : b < 4294967296) (w : World) :
    Calls Tryz.prog 101 #[.int .u32 a, .int .u32 b] w fun e w' => e = .returned (.int .u32 (W.op 15 a b)) ∧ Bel w w' := by
  have hs := W.sg_wrap a ha ha'
  have hs' := W.sg_wrap b hb hb'
  go_enter Tryz.func101, Tryz.ntmps101
  go_wp2_with (go_at_call 99; refine (wbit_any _ _).mono ?_; rintro e w' ⟨rfl, hb⟩)
  go_ret
  exact ⟨ret_int (by rw [W.op_15]), Nz.bel⟩
theorem Op_3 (a b : Int) (ha : 0 ≤ a) (ha' : a < 4294967296) (hb : 0 ≤ b) (hb' : b < 4294967296) (w : World) :
    Calls Tryz.prog 49 #[.int .i64 3, .int .u32 a, .int .u32 b] w fun e w' => e = .returned (.int .u32 (W.op 3 a b)) ∧ Bel w w' := by
  have hl : ∀ w1 : World, w1.heap[w.heap.size]? = some (.map opsEnt 13) → (Instr.lookup 140 (.map (some w.heap.size)) (.int .i64 3) true).run Tryz.prog w1 = .ok (.tuple #[.func (.func 88) #[] #[], .bool true]) w1 :=
    fun w1 h => run_lookup_hit w1 140 3 138 .i64 _ opsEnt 13 3 _ 0 Tryz.underlying140 Tryz.underlying3 h rfl
  go_enter Tryz.func49, Tryz.ntmps49
  go_wp2_with (first
    | (go_at_call 73; refine (ops_any _).mono ?_; rintro e w1 ⟨rfl, hm, hb1⟩)
    | (go_at_call 88; refine (clo_3 a b ha ha' hb hb' _).mono ?_; rintro e w2 ⟨rfl, hb2⟩))
  go_ret
  exact ⟨rfl, Nz.bel⟩
theorem Op_4 (a b : Int) (ha : 0 ≤ a) (ha' : a < 4294967296) (hb : 0 ≤ b) (hb' : b < 4294967296) (w : World) :
    Calls Tryz.prog 49 #[.int .i64 4, .int .u32 a, .int .u32 b] w fun e w' => e = .returned (.int .u32 (W.op 4 a b)) ∧ Bel w w' := by
  have hl : ∀ w1 : World, w1.heap[w.heap.size]? = some (.map opsEnt 13) → (Instr.lookup 140 (.map (some w.heap.size)) (.int .i64 4) true).run Tryz.prog w1 = .ok (.tuple #[.func (.func 89) #[] #[], .bool true]) w1 :=
    fun w1 h => run_lookup_hit w1 140 3 138 .i64 _ opsEnt 13 4 _ 1 Tryz.underlying140 Tryz.underlying3 h rfl
  go_enter Tryz.func49, Tryz.ntmps49
  go_wp2_with (first
    | (go_at_call 73; refine (ops_any _).mono ?_; rintro e w1 ⟨rfl, hm, hb1⟩)
    | (go_at_call 89; refine (clo_4 a b ha ha' hb hb' _).mono ?_; rintro e w2 ⟨rfl, hb2⟩))
  go_ret
  exact ⟨rfl, Nz.bel⟩
theorem Op_5 (a b : Int) (ha : 0 ≤ a) (ha' : a < 4294967296) (hb : 0 ≤ b) (hb' : b < 4294967296) (w : World) :
    Calls Tryz.prog 49 #[.int .i64 5, .int .u32 a, .int .u32 b] w fun e w' => e = .returned (.int .u32 (W.op 5 a b)) ∧ Bel w w' := by
  have hl : ∀ w1 : World, w1.heap[w.heap.size]? = some (.map opsEnt 13) → (Instr.lookup 140 (.map (some w.heap.size)) (.int .i64 5) true).run Tryz.prog w1 = .ok (.tuple #[.func (.func 90) #[] #[], .bool true]) w1 :=
    fun w1 h => run_lookup_hit w1 140 3 138 .i64 _ opsEnt 13 5 _ 2 Tryz.underlying140 Tryz.underlying3 h rfl
  go_enter Tryz.func49, Tryz.ntmps49
  go_wp2_with (first
    | (go_at_call 73; refine (ops_any _).mono ?_; rintro e w1 ⟨rfl, hm, hb1⟩)
    | (go_at_call 90; refine (clo_5 a b ha ha' hb hb' _).mono ?_; rintro e w2 ⟨rfl, hb2⟩))
  go_ret
  exact ⟨rfl, Nz.bel⟩
theorem Op_6 (a b : Int) (ha : 0 ≤ a) (ha' : a < 4294967296) (hb : 0 ≤ b) (hb' : b < 4294967296) (w : World) :
    Calls Tryz.prog 49 #[.int .i64 6, .int .u32 a, .int .u32 b] w fun e w' => e = .returned (.int .u32 (W.op 6 a b)) ∧ Bel w w' := by
  have hl : ∀ w1 : World, w1.heap[w.heap.size]? = some (.map opsEnt 13) → (Instr.lookup 140 (.map (some w.heap.size)) (.int .i64 6) true).run Tryz.prog w1 = .ok (.tuple #[.func (.func 91) #[] #[], .bool true]) w1 :=
    fun w1 h => run_lookup_hit w1 140 3 138 .i64 _ opsEnt 13 6 _ 3 Tryz.underlying140 Tryz.underlying3 h rfl
  go_enter Tryz.func49, Tryz.ntmps49
  go_wp2_with (first
    | (go_at_call 73; refine (ops_any _).mono ?_; rintro e w1 ⟨rfl, hm, hb1⟩)
    | (go_at_call 91; refine (clo_6 a b ha ha' hb hb' _).mono ?_; rintro e w2 ⟨rfl, hb2⟩))
  go_ret
  exact ⟨rfl, Nz.bel⟩
theorem Op_7 (a b : Int) (ha : 0 ≤ a) (ha' : a < 4294967296) (hb : 0 ≤ b) (hb' : b < 4294967296) (w : World) :
    Calls Tryz.prog 49 #[.int .i64 7, .int .u32 a, .int .u32 b] w fun e w' => e = .returned (.int .u32 (W.op 7 a b)) ∧ Bel w w' := by
  have hl : ∀ w1 : World, w1.heap[w.heap.size]? = some (.map opsEnt 13) → (Instr.lookup 140 (.map (some w.heap.size)) (.int .i64 7) true).run Tryz.prog w1 = .ok (.tuple #[.func (.func 92) #[] #[], .bool true]) w1 :=
    fun w1 h => run_lookup_hit w1 140 3 138 .i64 _ opsEnt 13 7 _ 4 Tryz.underlying140 Tryz.underlying3 h rfl
  go_enter Tryz.func49, Tryz.ntmps49
  go_wp2_with (first
    | (go_at_call 73; refine (ops_any _).mono ?_; rintro e w1 ⟨rfl, hm, hb1⟩)
    | (go_at_call 92; refine (clo_7 a b ha ha' hb hb' _).mono ?_; rintro e w2 ⟨rfl, hb2⟩))
  go_ret
  exact ⟨rfl, Nz.bel⟩
theorem Op_8 (a b : Int) (ha : 0 ≤ a) (ha' : a < 4294967296) (hb : 0 ≤ b) (hb' : b < 4294967296) (w : World) :
    Calls Tryz.prog 49 #[.int .i64 8, .int .u32 a, .int .u32 b] w fun e w' => e = .returned (.int .u32 (W.op 8 a b)) ∧ Bel w w' := by
  have hl : ∀ w1 : World, w1.heap[w.heap.size]? = some (.map opsEnt 13) → (Instr.lookup 140 (.map (some w.heap.size)) (.int .i64 8) true).run Tryz.prog w1 = .ok (.tuple #[.func (.func 93) #[] #[], .bool true]) w1 :=
    fun w1 h => run_lookup_hit w1 140 3 138 .i64 _ opsEnt 13 8 _ 5 Tryz.underlying140 Tryz.underlying3 h rfl
  go_enter Tryz.func49, Tryz.ntmps49
  go_wp2_with (first
    | (go_at_call 73; refine (ops_any _).mono ?_; rintro e w1 ⟨rfl, hm, hb1⟩)
    | (go_at_call 93; refine (clo_8 a b ha ha' hb hb' _).mono ?_; rintro e w2 ⟨rfl, hb2⟩))
  go_ret
  exact ⟨rfl, Nz.bel⟩
theorem Op_9 (a b : Int) (ha : 0 ≤ a) (ha' : a < 4294967296) (hb : 0 ≤ b) (hb' : b < 4294967296) (w : World) :
    Calls Tryz.prog 49 #[.int .i64 9, .int .u32 a, .int .u32 b] w fun e w' => e = .returned (.int .u32 (W.op 9 a b)) ∧ Bel w w' := by
  have hl : ∀ w1 : World, w1.heap[w.heap.size]? = some (.map opsEnt 13) → (Instr.lookup 140 (.map (some w.heap.size)) (.int .i64 9) true).run Tryz.prog w1 = .ok (.tuple #[.func (.func 94) #[] #[], .bool true]) w1 :=
    fun w1 h => run_lookup_hit w1 140 3 138 .i64 _ opsEnt 13 9 _ 6 Tryz.underlying140 Tryz.underlying3 h rfl
  go_enter Tryz.func49, Tryz.ntmps49
  go_wp2_with (first
    | (go_at_call 73; refine (ops_any _).mono ?_; rintro e w1 ⟨rfl, hm, hb1⟩)
    | (go_at_call 94; refine (clo_9 a b ha ha' hb hb' _).mono ?_; rintro e w2 ⟨rfl, hb2⟩))
  go_ret
  exact ⟨rfl, Nz.bel⟩
theorem Op_10 (a b : Int) (ha : 0 ≤ a) (ha' : a < 4294967296) (hb : 0 ≤ b) (hb' : b < 4294967296) (w : World) :
    Calls Tryz.prog 49 #[.int .i64 10, .int .u32 a, .int .u32 b] w fun e w' => e = .returned (.int .u32 (W.op 10 a b)) ∧ Bel w w' := by
  have hl : ∀ w1 : World, w1.heap[w.heap.size]? = some (.map opsEnt 13) → (Instr.lookup 140 (.map (some w.heap.size)) (.int .i64 10) true).run Tryz.prog w1 = .ok (.tuple #[.func (.func 95) #[] #[], .bool true]) w1 :=
    fun w1 h => run_lookup_hit w1 140 3 138 .i64 _ opsEnt 13 10 _ 7 Tryz.underlying140 Tryz.underlying3 h rfl
  go_enter Tryz.func49, Tryz.ntmps49
  go_wp2_with (first
    | (go_at_call 73; refine (ops_any _).mono ?_; rintro e w1 ⟨rfl, hm, hb1⟩)
    | (go_at_call 95; refine (clo_10 a b ha ha' hb hb' _).mono ?_; rintro e w2 ⟨rfl, hb2⟩))
  go_ret
  exact ⟨rfl, Nz.bel⟩
theorem Op_11 (a b : Int) (ha : 0 ≤ a) (ha' : a < 4294967296) (hb : 0 ≤ b) (hb' : b < 4294967296) (w : World) :
    Calls Tryz.prog 49 #[.int .i64 11, .int .u32 a, .int .u32 b] w fun e w' => e = .returned (.int .u32 (W.op 11 a b)) ∧ Bel w w' := by
  have hl : ∀ w1 : World, w1.heap[w.heap.size]? = some (.map opsEnt 13) → (Instr.lookup 140 (.map (some w.heap.size)) (.int .i64 11) true).run Tryz.prog w1 = .ok (.tuple #[.func (.func 96) #[] #[], .bool true]) w1 :=
    fun w1 h => run_lookup_hit w1 140 3 138 .i64 _ opsEnt 13 11 _ 8 Tryz.underlying140 Tryz.underlying3 h rfl
  go_enter Tryz.func49, Tryz.ntmps49
  go_wp2_with (first
    | (go_at_call 73; refine (ops_any _).mono ?_; rintro e w1 ⟨rfl, hm, hb1⟩)
    | (go_at_call 96; refine (clo_11 a b ha ha' hb hb' _).mono ?_; rintro e w2 ⟨rfl, hb2⟩))
  go_ret
  exact ⟨rfl, Nz.bel⟩
theorem Op_12 (a b : Int) (ha : 0 ≤ a) (ha' : a < 4294967296) (hb : 0 ≤ b) (hb' : b < 4294967296) (w : World) :
    Calls Tryz.prog 49 #[.int .i64 12, .int .u32 a, .int .u32 b] w fun e w' => e = .returned (.int .u32 (W.op 12 a b)) ∧ Bel w w' := by
  have hl : ∀ w1 : World, w1.heap[w.heap.size]? = some (.map opsEnt 13) → (Instr.lookup 140 (.map (some w.heap.size)) (.int .i64 12) true).run Tryz.prog w1 = .ok (.tuple #[.func (.func 97) #[] #[], .bool true]) w1 :=
    fun w1 h => run_lookup_hit w1 140 3 138 .i64 _ opsEnt 13 12 _ 9 Tryz.underlying140 Tryz.underlying3 h rfl
  go_enter Tryz.func49, Tryz.ntmps49
  go_wp2_with (first
    | (go_at_call 73; refine (ops_any _).mono ?_; rintro e w1 ⟨rfl, hm, hb1⟩)
    | (go_at_call 97; refine (clo_12 a b ha ha' hb hb' _).mono ?_; rintro e w2 ⟨rfl, hb2⟩))
  go_ret
  exact ⟨rfl, Nz.bel⟩
theorem Op_13 (a b : Int) (ha : 0 ≤ a) (ha' : a < 4294967296) (hb : 0 ≤ b) (hb' : b < 4294967296) (w : World) :
    Calls Tryz.prog 49 #[.int .i64 13, .int .u32 a, .int .u32 b] w fun e w' => e = .returned (.int .u32 (W.op 13 a b)) ∧ Bel w w' := by
  have hl : ∀ w1 : World, w1.heap[w.heap.size]? = some (.map opsEnt 13) → (Instr.lookup 140 (.map (some w.heap.size)) (.int .i64 13) true).run Tryz.prog w1 = .ok (.tuple #[.func (.func 98) #[] #[], .bool true]) w1 :=
    fun w1 h => run_lookup_hit w1 140 3 138 .i64 _ opsEnt 13 13 _ 10 Tryz.underlying140 Tryz.underlying3 h rfl
  go_enter Tryz.func49, Tryz.ntmps49
  go_wp2_with (first
    | (go_at_call 73; refine (ops_any _).mono ?_; rintro e w1 ⟨rfl, hm, hb1⟩)
    | (go_at_call 98; refine (clo_13 a b ha ha' hb hb' _).mono ?_; rintro e w2 ⟨rfl, hb2⟩))
  go_ret
  exact ⟨rfl, Nz.bel⟩
theorem Op_14 (a b : Int) (ha : 0 ≤ a) (ha' : a < 4294967296) (hb : 0 ≤ b) (hb' : b < 4294967296) (w : World) :
    Calls Tryz.prog 49 #[.int .i64 14, .int .u32 a, .int .u32 b] w fun e w' => e = .returned (.int .u32 (W.op 14 a b)) ∧ Bel w w' := by
  have hl : ∀ w1 : World, w1.heap[w.heap.size]? = some (.map opsEnt 13) → (Instr.lookup 140 (.map (some w.heap.size)) (.int .i64 14) true).run Tryz.prog w1 = .ok (.tuple #[.func (.func 100) #[] #[], .bool true]) w1 :=
    fun w1 h => run_lookup_hit w1 140 3 138 .i64 _ opsEnt 13 14 _ 11 Tryz.underlying140 Tryz.underlying3 h rfl
  go_enter Tryz.func49, Tryz.ntmps49
  go_wp2_with (first
    | (go_at_call 73; refine (ops_any _).mono ?_; rintro e w1 ⟨rfl, hm, hb1⟩)
    | (go_at_call 100; refine (clo_14 a b ha ha' hb hb' _).mono ?_; rintro e w2 ⟨rfl, hb2⟩))
  go_ret
  exact ⟨rfl, Nz.bel⟩
theorem Op_15 (a b : Int) (ha : 0 ≤ a) (ha' : a < 4294967296) (hb : 0 ≤ b) (hb' : b < 4294967296) (w : World) :
    Calls Tryz.prog 49 #[.int .i64 15, .int .u32 a, .int .u32 b] w fun e w' => e = .returned (.int .u32 (W.op 15 a b)) ∧ Bel w w' := by
  have hl : ∀ w1 : World, w1.heap[w.heap.size]? = some (.map opsEnt 13) → (Instr.lookup 140 (.map (some w.heap.size)) (.int .i64 15) true).run Tryz.prog w1 = .ok (.tuple #[.func (.func 101) #[] #[], .bool true]) w1 :=
    fun w1 h => run_lookup_hit w1 140 3 138 .i64 _ opsEnt 13 15 _ 12 Tryz.underlying140 Tryz.underlying3 h rfl
  go_enter Tryz.func49, Tryz.ntmps49
  go_wp2_with (first
    | (go_at_call 73; refine (ops_any _).mono ?_; rintro e w1 ⟨rfl, hm, hb1⟩)
    | (go_at_call 101; refine (clo_15 a b ha ha' hb hb' _).mono ?_; rintro e w2 ⟨rfl, hb2⟩))
  go_ret
  exact ⟨rfl, Nz.bel⟩
theorem opsEnt_miss (c : Int) (h : c < 3 ∨ 15 < c) : Instr.findNow (.int .i64) (.int .i64 c) opsEnt.toList 0 = some none := by
  have e : ∀ k : Int, 3 ≤ k → k ≤ 15 → (c == k) = false := fun k _ _ => by simp; omega
  simp [opsEnt, Instr.findNow, Instr.sameNow, e]
theorem Op_n (c a b : Int) (hc : c < 3 ∨ 15 < c) (w : World) :
    Calls Tryz.prog 49 #[.int .i64 c, .int .u32 a, .int .u32 b] w fun e w' => e = .returned (.int .u32 (W.op c a b)) ∧ Bel w w' := by
  have hz : ∀ w : World, (zeroValue 138).run Tryz.prog w = .ok .nilFunc w := fun w => by kernel_rfl
  have hl : ∀ w1 : World, w1.heap[w.heap.size]? = some (.map opsEnt 13) → (Instr.lookup 140 (.map (some w.heap.size)) (.int .i64 c) true).run Tryz.prog w1 = .ok (.tuple #[.nilFunc, .bool false]) w1 :=
    fun w1 h => run_lookup_miss w1 140 3 138 .i64 _ opsEnt 13 c _ Tryz.underlying140 Tryz.underlying3 (hz _) h (opsEnt_miss c hc)
  have HN := hid (W.op_n c a b hc)
  clear hz
  go_enter Tryz.func49, Tryz.ntmps49
  go_wp2_with (go_at_call 73; refine (ops_any _).mono ?_; rintro e w1 ⟨rfl, hm, hb1⟩)
  go_ret
  exact ⟨ret_int (by rw [HN.out]), Nz.bel⟩
theorem Op_any (c a b : Int) (ha : 0 ≤ a) (ha' : a < 4294967296) (hb : 0 ≤ b) (hb' : b < 4294967296) (w : World) :
    Calls Tryz.prog 49 #[.int .i64 c, .int .u32 a, .int .u32 b] w fun e w' => e = .returned (.int .u32 (W.op c a b)) ∧ Bel w w' := by
  rcases (by omega : c = 3 ∨ c = 4 ∨ c = 5 ∨ c = 6 ∨ c = 7 ∨ c = 8 ∨ c = 9 ∨ c = 10 ∨ c = 11 ∨ c = 12 ∨ c = 13 ∨ c = 14 ∨ c = 15 ∨ (c < 3 ∨ 15 < c)) with rfl | rfl | rfl | rfl | rfl | rfl | rfl | rfl | rfl | rfl | rfl | rfl | rfl | h
  · exact Op_3 a b ha ha' hb hb' w
  · exact Op_4 a b ha ha' hb hb' w
  · exact Op_5 a b ha ha' hb hb' w
  · exact Op_6 a b ha ha' hb hb' w
  · exact Op_7 a b ha ha' hb hb' w
  · exact Op_8 a b ha ha' hb hb' w
  · exact Op_9 a b ha ha' hb hb' w
  · exact Op_10 a b ha ha' hb hb' w
  · exact Op_11 a b ha ha' hb hb' w
  · exact Op_12 a b ha ha' hb hb' w
  · exact Op_13 a b ha ha' hb hb' w
  · exact Op_14 a b ha ha' hb hb' w
  · exact Op_15 a b ha ha' hb hb' w
  · exact Op_n c a b h w
def Q.fetch (V : M.V) (p : Int) : Q.I × Int × Int := (bif ((Int.tmod p 4) != 0) then (⟨0, 0, 0, 0, 0⟩, 7, 0) else (bif (!((V.fetch ((IntKind.wrap .u32 (p + 0))).toNat).2)) then (⟨0, 0, 0, 0, 0⟩, 5, (IntKind.wrap .u32 (p + 0))) else (bif (!((V.fetch ((IntKind.wrap .u32 (p + 1))).toNat).2)) then (⟨0, 0, 0, 0, 0⟩, 5, (IntKind.wrap .u32 (p + 1))) else (bif (!((V.fetch ((IntKind.wrap .u32 (p + 2))).toNat).2)) then (⟨0, 0, 0, 0, 0⟩, 5, (IntKind.wrap .u32 (p + 2))) else (bif (!((V.fetch ((IntKind.wrap .u32 (p + 3))).toNat).2)) then (⟨0, 0, 0, 0, 0⟩, 5, (IntKind.wrap .u32 (p + 3))) else (bif (((Q.decode (W.get (strOfNums [(V.fetch ((IntKind.wrap .u32 (p + 0))).toNat).1, (V.fetch ((IntKind.wrap .u32 (p + 1))).toNat).1, (V.fetch ((IntKind.wrap .u32 (p + 2))).toNat).1, (V.fetch ((IntKind.wrap .u32 (p + 3))).toNat).1]).data.toList)).2) != 0) then (((Q.decode (W.get (strOfNums [(V.fetch ((IntKind.wrap .u32 (p + 0))).toNat).1, (V.fetch ((IntKind.wrap .u32 (p + 1))).toNat).1, (V.fetch ((IntKind.wrap .u32 (p + 2))).toNat).1, (V.fetch ((IntKind.wrap .u32 (p + 3))).toNat).1]).data.toList)).1), 7, 0) else (((Q.decode (W.get (strOfNums [(V.fetch ((IntKind.wrap .u32 (p + 0))).toNat).1, (V.fetch ((IntKind.wrap .u32 (p + 1))).toNat).1, (V.fetch ((IntKind.wrap .u32 (p + 2))).toNat).1, (V.fetch ((IntKind.wrap .u32 (p + 3))).toNat).1]).data.toList)).1), 0, 0)))))))
def Qx.f (V : M.V) (p k : Int) : Int × Bool := V.fetch ((IntKind.wrap .u32 (p + k))).toNat
def Qx.w (V : M.V) (p : Int) : Int := (W.get (strOfNums [(Qx.f V p 0).1, (Qx.f V p 1).1, (Qx.f V p 2).1, (Qx.f V p 3).1]).data.toList)
theorem Fetch_rd {m : Nat} {xs : List Value} (V : M.V) (p : Int)  : A.Rd Tryz.prog 46 #[.int .u32 p, .iface 36 (.pointer (some ⟨m, 0, none⟩))] [M.It m V xs] (.tuple #[.agg #[.int .i64 (((Q.fetch V p).1).op), .int .i64 (((Q.fetch V p).1).d), .int .i64 (((Q.fetch V p).1).a), .int .i64 (((Q.fetch V p).1).b), .int .u32 (((Q.fetch V p).1).imm)], .agg #[.int .i64 ((Q.fetch V p).2.1), .int .u32 ((Q.fetch V p).2.2)]]) := by
 intro w oo aa hh
 refine E.enter (n := 54) (S := fun _ => False) Tryz.func46 rfl rfl (by kernel_rfl) (A.startY hh) (E.sr (E.G.new (fun g => E.pt g) [E.i 0, E.i 0, E.i 0, E.i 0, E.u 0] 71 (fun w => by kernel_rfl) (by kernel_rfl) (fun g1 => E.G.new (fun g => E.pt g) [E.i 0, E.u 0] 49 (fun w => by kernel_rfl) (by kernel_rfl) (fun g2 => E.To.code (E.C.seq (E.sr (E.op (E.u p) (E.op (E.u (Int.tmod p 4)) (E.op (.bool ((Int.tmod p 4) != 0)) (E.To.code (E.cd ((Int.tmod p 4) != 0) (fun hc3 => ?_) (fun hc3 => ?_))))))))))))
 ·
  refine E.sr (E.vl (.agg #[E.i 0, E.i 0, E.i 0, E.i 0, E.u 0]) (fun w h => E.run_build #[E.i 0, E.i 0, E.i 0, E.i 0, E.u 0] (by kernel_rfl) w) (E.vl (.agg #[E.i 7, E.u 0]) (fun w h => E.run_build #[E.i 7, E.u 0] (by kernel_rfl) w) (E.st 1 [E.i 0, E.i 0, E.i 0, E.i 0, E.u 0] rfl rfl (E.st 0 [E.i 7, E.u 0] rfl rfl (E.To.code (E.C.ret (E.P.rt (E.To.body (fn := Tryz.f46) [.agg #[E.i 0, E.i 0, E.i 0, E.i 0, E.u 0], .agg #[E.i 7, E.u 0]] ?_ ?_))))))))
  · exact ⟨⟨by kernel_rfl, _, _, 1, _, rfl, rfl, by kernel_rfl⟩, ⟨by kernel_rfl, _, _, 0, _, rfl, rfl, by kernel_rfl⟩, trivial⟩
  intro w h
  exact ⟨by show Ending.returned (.tuple #[.agg #[.int .i64 0, .int .i64 0, .int .i64 0, .int .i64 0, .int .u32 0], .agg #[.int .i64 7, .int .u32 0]]) = _; unfold Q.fetch; rw [hc3, cond_true] <;> rfl, h.ch.bel (fun _ h => h.elim)⟩
 refine E.C.skip (E.To.code (E.sr (E.G.new (fun g => E.pt g) [.int .u8 0, .int .u8 0, .int .u8 0, .int .u8 0] 132 (fun w => by kernel_rfl) (by kernel_rfl) (fun g4 => E.To.code (E.C.seq (E.sr (E.op (E.i 0) (E.To.code (E.C.block (E.C.rounds 4 (E.sr (E.op (.bool true) ?_))))))))))))
 refine E.To.code (E.C.seq (E.C.condT (by kernel_rfl) (by kernel_rfl) (E.C.skip (E.To.code (E.C.seq (E.C.block (E.sr (E.op (E.i 0) (E.op (E.i 0) (E.tr (E.op (.iface 36 (E.pt m)) (E.op (E.u p) ?_))))))))))))
 refine E.op (E.i 0) (E.op (E.u 0) (E.op (E.u (IntKind.wrap .u32 (p + 0))) (E.G.call (.tuple #[.int .u8 ((Qx.f V p 0).1), .bool ((Qx.f V p 0).2)]) (fun w h => A.Y.rd [] (I_Fetch (IntKind.wrap .u32 (p + 0)) (Q.wrap_bd _) (m := m) (V := V) (xs := xs)) h.x (A.pn [0])) (fun w _ => by kernel_rfl) (by kernel_rfl) (E.op (.tuple #[.int .u8 ((Qx.f V p 0).1), .bool ((Qx.f V p 0).2)]) (E.op (.int .u8 ((Qx.f V p 0).1)) (E.op (.bool ((Qx.f V p 0).2)) (E.op (.int .u8 ((Qx.f V p 0).1)) (E.op (.bool ((Qx.f V p 0).2)) (E.To.code (E.C.seq (E.sr ?_)))))))))))
 refine E.op (.bool ((Qx.f V p 0).2)) (E.op (.bool (!((Qx.f V p 0).2))) (E.To.code (E.cd (!((V.fetch ((IntKind.wrap .u32 (p + 0))).toNat).2)) (fun hc5 => ?_) (fun hc5 => ?_))))
 ·
  refine E.sr (E.vl (.agg #[E.i 0, E.i 0, E.i 0, E.i 0, E.u 0]) (fun w h => E.run_build #[E.i 0, E.i 0, E.i 0, E.i 0, E.u 0] (by kernel_rfl) w) (E.op (E.u p) (E.op (E.i 0) (E.op (E.u 0) (E.op (E.u (IntKind.wrap .u32 (p + 0))) (E.vl (.agg #[E.i 5, E.u (IntKind.wrap .u32 (p + 0))]) (fun w h => E.run_build #[E.i 5, E.u (IntKind.wrap .u32 (p + 0))] (by kernel_rfl) w) (E.st 2 [E.i 0, E.i 0, E.i 0, E.i 0, E.u 0] rfl rfl (E.st 1 [E.i 5, E.u (IntKind.wrap .u32 (p + 0))] rfl rfl (E.To.code (E.C.ret (E.P.rt (E.P.rb (E.P.rt (E.P.rt (E.P.rb (E.P.rt (E.To.body (fn := Tryz.f46) [.agg #[E.i 0, E.i 0, E.i 0, E.i 0, E.u 0], .agg #[E.i 5, E.u (IntKind.wrap .u32 (p + 0))]] ?_ ?_)))))))))))))))))
  · exact ⟨⟨by kernel_rfl, _, _, 2, _, rfl, rfl, by kernel_rfl⟩, ⟨by kernel_rfl, _, _, 1, _, rfl, rfl, by kernel_rfl⟩, trivial⟩
  intro w h
  exact ⟨by show Ending.returned (.tuple #[.agg #[.int .i64 0, .int .i64 0, .int .i64 0, .int .i64 0, .int .u32 0], .agg #[.int .i64 5, .int .u32 (IntKind.wrap .u32 (p + 0))]]) = _; unfold Q.fetch; rw [hc3, cond_false, hc5, cond_true] <;> rfl, h.ch.bel (fun _ h => h.elim)⟩
 refine E.C.skip (E.To.code (E.C.region (E.op (E.i 0) (E.op (.int .u8 ((Qx.f V p 0).1)) (E.op (E.pt g4) (E.st 0 [.int .u8 ((Qx.f V p 0).1), .int .u8 0, .int .u8 0, .int .u8 0] rfl rfl (E.P.nb (E.To.code (E.C.region (E.op (E.i 1) (E.op (E.i 1) (E.To.rounds 3 (E.wk [(0, E.u p), (1, .iface 36 (E.pt m)), (4, E.pt g1), (5, E.pt g2), (6, E.pt g4), (7, E.i 0), (8, .int .u8 ((Qx.f V p 0).1)), (9, .bool ((Qx.f V p 0).2)), (17, E.i 1), (18, .bool true), (19, E.i 0), (20, .tuple #[.int .u8 ((Qx.f V p 0).1), .bool ((Qx.f V p 0).2)]), (21, .iface 36 (E.pt m)), (22, E.u p), (23, E.i 0), (24, E.u 0), (25, E.u (IntKind.wrap .u32 (p + 0))), (26, .tuple #[.int .u8 ((Qx.f V p 0).1), .bool ((Qx.f V p 0).2)]), (27, .int .u8 ((Qx.f V p 0).1)), (28, .bool ((Qx.f V p 0).2)), (29, .bool ((Qx.f V p 0).2)), (30, .bool (!((Qx.f V p 0).2))), (37, E.i 0), (38, .int .u8 ((Qx.f V p 0).1)), (39, E.pt g4), (40, E.i 1)] [(g4, [.int .u8 ((Qx.f V p 0).1), .int .u8 0, .int .u8 0, .int .u8 0]), (g2, [E.i 0, E.u 0]), (g1, [E.i 0, E.i 0, E.i 0, E.i 0, E.u 0])] Nz.sub ?_)))))))))))))
 refine E.sr (E.op (.bool true) (E.To.code (E.C.seq (E.C.condT (by kernel_rfl) (by kernel_rfl) (E.C.skip (E.To.code (E.C.seq (E.C.block (E.sr (E.op (E.i 1) (E.op (E.i 1) (E.tr ?_))))))))))))
 refine E.op (.iface 36 (E.pt m)) (E.op (E.u p) (E.op (E.i 1) (E.op (E.u 1) (E.op (E.u (IntKind.wrap .u32 (p + 1))) (E.G.call (.tuple #[.int .u8 ((Qx.f V p 1).1), .bool ((Qx.f V p 1).2)]) (fun w h => A.Y.rd [] (I_Fetch (IntKind.wrap .u32 (p + 1)) (Q.wrap_bd _) (m := m) (V := V) (xs := xs)) h.x (A.pn [0])) (fun w _ => by kernel_rfl) (by kernel_rfl) (E.op (.tuple #[.int .u8 ((Qx.f V p 1).1), .bool ((Qx.f V p 1).2)]) (E.op (.int .u8 ((Qx.f V p 1).1)) (E.op (.bool ((Qx.f V p 1).2)) (E.op (.int .u8 ((Qx.f V p 1).1)) (E.op (.bool ((Qx.f V p 1).2)) (E.To.code ?_)))))))))))
 refine E.C.seq (E.sr (E.op (.bool ((Qx.f V p 1).2)) (E.op (.bool (!((Qx.f V p 1).2))) (E.To.code (E.cd (!((V.fetch ((IntKind.wrap .u32 (p + 1))).toNat).2)) (fun hc6 => ?_) (fun hc6 => ?_))))))
 ·
  refine E.sr (E.vl (.agg #[E.i 0, E.i 0, E.i 0, E.i 0, E.u 0]) (fun w h => E.run_build #[E.i 0, E.i 0, E.i 0, E.i 0, E.u 0] (by kernel_rfl) w) (E.op (E.u p) (E.op (E.i 1) (E.op (E.u 1) (E.op (E.u (IntKind.wrap .u32 (p + 1))) (E.vl (.agg #[E.i 5, E.u (IntKind.wrap .u32 (p + 1))]) (fun w h => E.run_build #[E.i 5, E.u (IntKind.wrap .u32 (p + 1))] (by kernel_rfl) w) (E.st 2 [E.i 0, E.i 0, E.i 0, E.i 0, E.u 0] rfl rfl (E.st 1 [E.i 5, E.u (IntKind.wrap .u32 (p + 1))] rfl rfl (E.To.code (E.C.ret (E.P.rt (E.P.rb (E.P.rt (E.P.rt (E.P.rb (E.P.rt (E.To.body (fn := Tryz.f46) [.agg #[E.i 0, E.i 0, E.i 0, E.i 0, E.u 0], .agg #[E.i 5, E.u (IntKind.wrap .u32 (p + 1))]] ?_ ?_)))))))))))))))))
  · exact ⟨⟨by kernel_rfl, _, _, 2, _, rfl, rfl, by kernel_rfl⟩, ⟨by kernel_rfl, _, _, 1, _, rfl, rfl, by kernel_rfl⟩, trivial⟩
  intro w h
  exact ⟨by show Ending.returned (.tuple #[.agg #[.int .i64 0, .int .i64 0, .int .i64 0, .int .i64 0, .int .u32 0], .agg #[.int .i64 5, .int .u32 (IntKind.wrap .u32 (p + 1))]]) = _; unfold Q.fetch; rw [hc3, cond_false, hc5, cond_false, hc6, cond_true] <;> rfl, h.ch.bel (fun _ h => h.elim)⟩
 refine E.C.skip (E.To.code (E.C.region (E.op (E.i 1) (E.op (.int .u8 ((Qx.f V p 1).1)) (E.op (.pointer (some ⟨g4, 1, none⟩)) (E.st 0 [.int .u8 ((Qx.f V p 0).1), .int .u8 ((Qx.f V p 1).1), .int .u8 0, .int .u8 0] rfl rfl (E.P.nb (E.To.code (E.C.region (E.op (E.i 2) (E.op (E.i 2) (E.To.rounds 2 (E.wk [(0, E.u p), (1, .iface 36 (E.pt m)), (4, E.pt g1), (5, E.pt g2), (6, E.pt g4), (7, E.i 1), (8, .int .u8 ((Qx.f V p 1).1)), (9, .bool ((Qx.f V p 1).2)), (17, E.i 2), (18, .bool true), (19, E.i 1), (20, .tuple #[.int .u8 ((Qx.f V p 1).1), .bool ((Qx.f V p 1).2)]), (21, .iface 36 (E.pt m)), (22, E.u p), (23, E.i 1), (24, E.u 1), (25, E.u (IntKind.wrap .u32 (p + 1))), (26, .tuple #[.int .u8 ((Qx.f V p 1).1), .bool ((Qx.f V p 1).2)]), (27, .int .u8 ((Qx.f V p 1).1)), (28, .bool ((Qx.f V p 1).2)), (29, .bool ((Qx.f V p 1).2)), (30, .bool (!((Qx.f V p 1).2))), (37, E.i 1), (38, .int .u8 ((Qx.f V p 1).1)), (39, .pointer (some ⟨g4, 1, none⟩)), (40, E.i 2)] [(g4, [.int .u8 ((Qx.f V p 0).1), .int .u8 ((Qx.f V p 1).1), .int .u8 0, .int .u8 0]), (g2, [E.i 0, E.u 0]), (g1, [E.i 0, E.i 0, E.i 0, E.i 0, E.u 0])] Nz.sub ?_)))))))))))))
 refine E.sr (E.op (.bool true) (E.To.code (E.C.seq (E.C.condT (by kernel_rfl) (by kernel_rfl) (E.C.skip (E.To.code (E.C.seq (E.C.block (E.sr (E.op (E.i 2) (E.op (E.i 2) (E.tr ?_))))))))))))
 refine E.op (.iface 36 (E.pt m)) (E.op (E.u p) (E.op (E.i 2) (E.op (E.u 2) (E.op (E.u (IntKind.wrap .u32 (p + 2))) (E.G.call (.tuple #[.int .u8 ((Qx.f V p 2).1), .bool ((Qx.f V p 2).2)]) (fun w h => A.Y.rd [] (I_Fetch (IntKind.wrap .u32 (p + 2)) (Q.wrap_bd _) (m := m) (V := V) (xs := xs)) h.x (A.pn [0])) (fun w _ => by kernel_rfl) (by kernel_rfl) (E.op (.tuple #[.int .u8 ((Qx.f V p 2).1), .bool ((Qx.f V p 2).2)]) (E.op (.int .u8 ((Qx.f V p 2).1)) (E.op (.bool ((Qx.f V p 2).2)) (E.op (.int .u8 ((Qx.f V p 2).1)) (E.op (.bool ((Qx.f V p 2).2)) (E.To.code ?_)))))))))))
 refine E.C.seq (E.sr (E.op (.bool ((Qx.f V p 2).2)) (E.op (.bool (!((Qx.f V p 2).2))) (E.To.code (E.cd (!((V.fetch ((IntKind.wrap .u32 (p + 2))).toNat).2)) (fun hc7 => ?_) (fun hc7 => ?_))))))
 ·
  refine E.sr (E.vl (.agg #[E.i 0, E.i 0, E.i 0, E.i 0, E.u 0]) (fun w h => E.run_build #[E.i 0, E.i 0, E.i 0, E.i 0, E.u 0] (by kernel_rfl) w) (E.op (E.u p) (E.op (E.i 2) (E.op (E.u 2) (E.op (E.u (IntKind.wrap .u32 (p + 2))) (E.vl (.agg #[E.i 5, E.u (IntKind.wrap .u32 (p + 2))]) (fun w h => E.run_build #[E.i 5, E.u (IntKind.wrap .u32 (p + 2))] (by kernel_rfl) w) (E.st 2 [E.i 0, E.i 0, E.i 0, E.i 0, E.u 0] rfl rfl (E.st 1 [E.i 5, E.u (IntKind.wrap .u32 (p + 2))] rfl rfl (E.To.code (E.C.ret (E.P.rt (E.P.rb (E.P.rt (E.P.rt (E.P.rb (E.P.rt (E.To.body (fn := Tryz.f46) [.agg #[E.i 0, E.i 0, E.i 0, E.i 0, E.u 0], .agg #[E.i 5, E.u (IntKind.wrap .u32 (p + 2))]] ?_ ?_)))))))))))))))))
  · exact ⟨⟨by kernel_rfl, _, _, 2, _, rfl, rfl, by kernel_rfl⟩, ⟨by kernel_rfl, _, _, 1, _, rfl, rfl, by kernel_rfl⟩, trivial⟩
  intro w h
  exact ⟨by show Ending.returned (.tuple #[.agg #[.int .i64 0, .int .i64 0, .int .i64 0, .int .i64 0, .int .u32 0], .agg #[.int .i64 5, .int .u32 (IntKind.wrap .u32 (p + 2))]]) = _; unfold Q.fetch; rw [hc3, cond_false, hc5, cond_false, hc6, cond_false, hc7, cond_true] <;> rfl, h.ch.bel (fun _ h => h.elim)⟩
 refine E.C.skip (E.To.code (E.C.region (E.op (E.i 2) (E.op (.int .u8 ((Qx.f V p 2).1)) (E.op (.pointer (some ⟨g4, 2, none⟩)) (E.st 0 [.int .u8 ((Qx.f V p 0).1), .int .u8 ((Qx.f V p 1).1), .int .u8 ((Qx.f V p 2).1), .int .u8 0] rfl rfl (E.P.nb (E.To.code (E.C.region (E.op (E.i 3) (E.op (E.i 3) (E.To.rounds 1 (E.wk [(0, E.u p), (1, .iface 36 (E.pt m)), (4, E.pt g1), (5, E.pt g2), (6, E.pt g4), (7, E.i 2), (8, .int .u8 ((Qx.f V p 2).1)), (9, .bool ((Qx.f V p 2).2)), (17, E.i 3), (18, .bool true), (19, E.i 2), (20, .tuple #[.int .u8 ((Qx.f V p 2).1), .bool ((Qx.f V p 2).2)]), (21, .iface 36 (E.pt m)), (22, E.u p), (23, E.i 2), (24, E.u 2), (25, E.u (IntKind.wrap .u32 (p + 2))), (26, .tuple #[.int .u8 ((Qx.f V p 2).1), .bool ((Qx.f V p 2).2)]), (27, .int .u8 ((Qx.f V p 2).1)), (28, .bool ((Qx.f V p 2).2)), (29, .bool ((Qx.f V p 2).2)), (30, .bool (!((Qx.f V p 2).2))), (37, E.i 2), (38, .int .u8 ((Qx.f V p 2).1)), (39, .pointer (some ⟨g4, 2, none⟩)), (40, E.i 3)] [(g4, [.int .u8 ((Qx.f V p 0).1), .int .u8 ((Qx.f V p 1).1), .int .u8 ((Qx.f V p 2).1), .int .u8 0]), (g2, [E.i 0, E.u 0]), (g1, [E.i 0, E.i 0, E.i 0, E.i 0, E.u 0])] Nz.sub ?_)))))))))))))
 refine E.sr (E.op (.bool true) (E.To.code (E.C.seq (E.C.condT (by kernel_rfl) (by kernel_rfl) (E.C.skip (E.To.code (E.C.seq (E.C.block (E.sr (E.op (E.i 3) (E.op (E.i 3) (E.tr ?_))))))))))))
 refine E.op (.iface 36 (E.pt m)) (E.op (E.u p) (E.op (E.i 3) (E.op (E.u 3) (E.op (E.u (IntKind.wrap .u32 (p + 3))) (E.G.call (.tuple #[.int .u8 ((Qx.f V p 3).1), .bool ((Qx.f V p 3).2)]) (fun w h => A.Y.rd [] (I_Fetch (IntKind.wrap .u32 (p + 3)) (Q.wrap_bd _) (m := m) (V := V) (xs := xs)) h.x (A.pn [0])) (fun w _ => by kernel_rfl) (by kernel_rfl) (E.op (.tuple #[.int .u8 ((Qx.f V p 3).1), .bool ((Qx.f V p 3).2)]) (E.op (.int .u8 ((Qx.f V p 3).1)) (E.op (.bool ((Qx.f V p 3).2)) (E.op (.int .u8 ((Qx.f V p 3).1)) (E.op (.bool ((Qx.f V p 3).2)) (E.To.code ?_)))))))))))
 refine E.C.seq (E.sr (E.op (.bool ((Qx.f V p 3).2)) (E.op (.bool (!((Qx.f V p 3).2))) (E.To.code (E.cd (!((V.fetch ((IntKind.wrap .u32 (p + 3))).toNat).2)) (fun hc8 => ?_) (fun hc8 => ?_))))))
 ·
  refine E.sr (E.vl (.agg #[E.i 0, E.i 0, E.i 0, E.i 0, E.u 0]) (fun w h => E.run_build #[E.i 0, E.i 0, E.i 0, E.i 0, E.u 0] (by kernel_rfl) w) (E.op (E.u p) (E.op (E.i 3) (E.op (E.u 3) (E.op (E.u (IntKind.wrap .u32 (p + 3))) (E.vl (.agg #[E.i 5, E.u (IntKind.wrap .u32 (p + 3))]) (fun w h => E.run_build #[E.i 5, E.u (IntKind.wrap .u32 (p + 3))] (by kernel_rfl) w) (E.st 2 [E.i 0, E.i 0, E.i 0, E.i 0, E.u 0] rfl rfl (E.st 1 [E.i 5, E.u (IntKind.wrap .u32 (p + 3))] rfl rfl (E.To.code (E.C.ret (E.P.rt (E.P.rb (E.P.rt (E.P.rt (E.P.rb (E.P.rt (E.To.body (fn := Tryz.f46) [.agg #[E.i 0, E.i 0, E.i 0, E.i 0, E.u 0], .agg #[E.i 5, E.u (IntKind.wrap .u32 (p + 3))]] ?_ ?_)))))))))))))))))
  · exact ⟨⟨by kernel_rfl, _, _, 2, _, rfl, rfl, by kernel_rfl⟩, ⟨by kernel_rfl, _, _, 1, _, rfl, rfl, by kernel_rfl⟩, trivial⟩
  intro w h
  exact ⟨by show Ending.returned (.tuple #[.agg #[.int .i64 0, .int .i64 0, .int .i64 0, .int .i64 0, .int .u32 0], .agg #[.int .i64 5, .int .u32 (IntKind.wrap .u32 (p + 3))]]) = _; unfold Q.fetch; rw [hc3, cond_false, hc5, cond_false, hc6, cond_false, hc7, cond_false, hc8, cond_true] <;> rfl, h.ch.bel (fun _ h => h.elim)⟩
 refine E.C.skip (E.To.code (E.C.region (E.op (E.i 3) (E.op (.int .u8 ((Qx.f V p 3).1)) (E.op (.pointer (some ⟨g4, 3, none⟩)) (E.st 0 [.int .u8 ((Qx.f V p 0).1), .int .u8 ((Qx.f V p 1).1), .int .u8 ((Qx.f V p 2).1), .int .u8 ((Qx.f V p 3).1)] rfl rfl (E.P.nb (E.To.code (E.C.region (E.op (E.i 4) (E.op (E.i 4) (E.To.rounds 0 (E.wk [(0, E.u p), (1, .iface 36 (E.pt m)), (4, E.pt g1), (5, E.pt g2), (6, E.pt g4), (7, E.i 3), (8, .int .u8 ((Qx.f V p 3).1)), (9, .bool ((Qx.f V p 3).2)), (17, E.i 4), (18, .bool true), (19, E.i 3), (20, .tuple #[.int .u8 ((Qx.f V p 3).1), .bool ((Qx.f V p 3).2)]), (21, .iface 36 (E.pt m)), (22, E.u p), (23, E.i 3), (24, E.u 3), (25, E.u (IntKind.wrap .u32 (p + 3))), (26, .tuple #[.int .u8 ((Qx.f V p 3).1), .bool ((Qx.f V p 3).2)]), (27, .int .u8 ((Qx.f V p 3).1)), (28, .bool ((Qx.f V p 3).2)), (29, .bool ((Qx.f V p 3).2)), (30, .bool (!((Qx.f V p 3).2))), (37, E.i 3), (38, .int .u8 ((Qx.f V p 3).1)), (39, .pointer (some ⟨g4, 3, none⟩)), (40, E.i 4)] [(g4, [.int .u8 ((Qx.f V p 0).1), .int .u8 ((Qx.f V p 1).1), .int .u8 ((Qx.f V p 2).1), .int .u8 ((Qx.f V p 3).1)]), (g2, [E.i 0, E.u 0]), (g1, [E.i 0, E.i 0, E.i 0, E.i 0, E.u 0])] Nz.sub ?_)))))))))))))
 refine E.sr (E.op (.bool false) (E.To.code (E.C.seq (E.C.condF (by kernel_rfl) (by kernel_rfl) (E.C.exit (E.P.et (E.P.et (E.P.eh (E.To.code (E.wk [(4, E.pt g1), (5, E.pt g2), (6, E.pt g4)] [(g4, [.int .u8 ((Qx.f V p 0).1), .int .u8 ((Qx.f V p 1).1), .int .u8 ((Qx.f V p 2).1), .int .u8 ((Qx.f V p 3).1)]), (g2, [E.i 0, E.u 0]), (g1, [E.i 0, E.i 0, E.i 0, E.i 0, E.u 0])] Nz.sub (E.sr (E.vl (.slice (some ⟨g4, 0, none⟩) 4 4) (fun w h => by kernel_rfl) (E.vl (.string (strOfNums [(Qx.f V p 0).1, (Qx.f V p 1).1, (Qx.f V p 2).1, (Qx.f V p 3).1])) (fun w h => E.b2s h 0 g4 0 4 4 [(Qx.f V p 0).1, (Qx.f V p 1).1, (Qx.f V p 2).1, (Qx.f V p 3).1] (e := 5) (by kernel_rfl) (by kernel_rfl) (by kernel_rfl) (by kernel_rfl) rfl (by kernel_rfl) rfl) (E.G.call (.int .u32 (Qx.w V p)) (fun w h => Get_any (strOfNums [(Qx.f V p 0).1, (Qx.f V p 1).1, (Qx.f V p 2).1, (Qx.f V p 3).1]) (by rw [strOfNums_size]; show (4 : Nat) ≤ maxLen; decide) w) (fun w _ => by kernel_rfl) (by kernel_rfl) (E.G.call (.tuple #[.agg #[E.i (((Q.decode (Qx.w V p)).1).op), E.i (((Q.decode (Qx.w V p)).1).d), E.i (((Q.decode (Qx.w V p)).1).a), E.i (((Q.decode (Qx.w V p)).1).b), E.u (((Q.decode (Qx.w V p)).1).imm)], E.i ((Q.decode (Qx.w V p)).2)]) (fun w h => Decode_any (Qx.w V p) w) (fun w _ => by kernel_rfl) (by kernel_rfl) ?_)))))))))))))))
 refine E.op (.tuple #[.agg #[E.i (((Q.decode (Qx.w V p)).1).op), E.i (((Q.decode (Qx.w V p)).1).d), E.i (((Q.decode (Qx.w V p)).1).a), E.i (((Q.decode (Qx.w V p)).1).b), E.u (((Q.decode (Qx.w V p)).1).imm)], E.i ((Q.decode (Qx.w V p)).2)]) (E.op (.agg #[E.i (((Q.decode (Qx.w V p)).1).op), E.i (((Q.decode (Qx.w V p)).1).d), E.i (((Q.decode (Qx.w V p)).1).a), E.i (((Q.decode (Qx.w V p)).1).b), E.u (((Q.decode (Qx.w V p)).1).imm)]) (E.op (E.i ((Q.decode (Qx.w V p)).2)) (E.G.new (fun g => E.pt g) [E.i 0, E.i 0, E.i 0, E.i 0, E.u 0] 71 (fun w => by kernel_rfl) (by kernel_rfl) (fun g9 => E.st 0 [E.i (((Q.decode (Qx.w V p)).1).op), E.i (((Q.decode (Qx.w V p)).1).d), E.i (((Q.decode (Qx.w V p)).1).a), E.i (((Q.decode (Qx.w V p)).1).b), E.u (((Q.decode (Qx.w V p)).1).imm)] rfl rfl (E.op (E.i ((Q.decode (Qx.w V p)).2)) (E.To.code (E.wk [(4, E.pt g1), (5, E.pt g2), (10, E.pt g9), (11, E.i ((Q.decode (Qx.w V p)).2))] [(g9, [E.i (((Q.decode (Qx.w V p)).1).op), E.i (((Q.decode (Qx.w V p)).1).d), E.i (((Q.decode (Qx.w V p)).1).a), E.i (((Q.decode (Qx.w V p)).1).b), E.u (((Q.decode (Qx.w V p)).1).imm)]), (g2, [E.i 0, E.u 0]), (g1, [E.i 0, E.i 0, E.i 0, E.i 0, E.u 0])] Nz.sub (E.C.seq (E.sr (E.op (E.i ((Q.decode (Qx.w V p)).2)) (E.op (.bool (((Q.decode (Qx.w V p)).2) != 0)) ?_)))))))))))
 refine E.To.code (E.cd (((Q.decode (W.get (strOfNums [(V.fetch ((IntKind.wrap .u32 (p + 0))).toNat).1, (V.fetch ((IntKind.wrap .u32 (p + 1))).toNat).1, (V.fetch ((IntKind.wrap .u32 (p + 2))).toNat).1, (V.fetch ((IntKind.wrap .u32 (p + 3))).toNat).1]).data.toList)).2) != 0) (fun hc10 => ?_) (fun hc10 => ?_))
 ·
  refine E.sr (E.li (.agg #[E.i (((Q.decode (Qx.w V p)).1).op), E.i (((Q.decode (Qx.w V p)).1).d), E.i (((Q.decode (Qx.w V p)).1).a), E.i (((Q.decode (Qx.w V p)).1).b), E.u (((Q.decode (Qx.w V p)).1).imm)]) 0 rfl rfl (E.vl (.agg #[E.i 7, E.u 0]) (fun w h => E.run_build #[E.i 7, E.u 0] (by kernel_rfl) w) (E.st 2 [E.i (((Q.decode (Qx.w V p)).1).op), E.i (((Q.decode (Qx.w V p)).1).d), E.i (((Q.decode (Qx.w V p)).1).a), E.i (((Q.decode (Qx.w V p)).1).b), E.u (((Q.decode (Qx.w V p)).1).imm)] rfl rfl (E.st 1 [E.i 7, E.u 0] rfl rfl (E.To.code (E.C.ret (E.P.rt (E.To.body (fn := Tryz.f46) [.agg #[E.i (((Q.decode (Qx.w V p)).1).op), E.i (((Q.decode (Qx.w V p)).1).d), E.i (((Q.decode (Qx.w V p)).1).a), E.i (((Q.decode (Qx.w V p)).1).b), E.u (((Q.decode (Qx.w V p)).1).imm)], .agg #[E.i 7, E.u 0]] ?_ ?_))))))))
  · exact ⟨⟨by kernel_rfl, _, _, 2, _, rfl, rfl, by kernel_rfl⟩, ⟨by kernel_rfl, _, _, 1, _, rfl, rfl, by kernel_rfl⟩, trivial⟩
  intro w h
  exact ⟨by show Ending.returned (.tuple #[.agg #[.int .i64 (((Q.decode (Qx.w V p)).1).op), .int .i64 (((Q.decode (Qx.w V p)).1).d), .int .i64 (((Q.decode (Qx.w V p)).1).a), .int .i64 (((Q.decode (Qx.w V p)).1).b), .int .u32 (((Q.decode (Qx.w V p)).1).imm)], .agg #[.int .i64 7, .int .u32 0]]) = _; unfold Q.fetch; rw [hc3, cond_false, hc5, cond_false, hc6, cond_false, hc7, cond_false, hc8, cond_false, hc10, cond_true] <;> rfl, h.ch.bel (fun _ h => h.elim)⟩
 refine E.C.skip (E.To.code (E.sr (E.li (.agg #[E.i (((Q.decode (Qx.w V p)).1).op), E.i (((Q.decode (Qx.w V p)).1).d), E.i (((Q.decode (Qx.w V p)).1).a), E.i (((Q.decode (Qx.w V p)).1).b), E.u (((Q.decode (Qx.w V p)).1).imm)]) 0 rfl rfl (E.vl (.agg #[E.i 0, E.u 0]) (fun w h => E.run_build #[E.i 0, E.u 0] (by kernel_rfl) w) (E.st 2 [E.i (((Q.decode (Qx.w V p)).1).op), E.i (((Q.decode (Qx.w V p)).1).d), E.i (((Q.decode (Qx.w V p)).1).a), E.i (((Q.decode (Qx.w V p)).1).b), E.u (((Q.decode (Qx.w V p)).1).imm)] rfl rfl (E.st 1 [E.i 0, E.u 0] rfl rfl (E.To.code (E.C.ret (E.To.body (fn := Tryz.f46) [.agg #[E.i (((Q.decode (Qx.w V p)).1).op), E.i (((Q.decode (Qx.w V p)).1).d), E.i (((Q.decode (Qx.w V p)).1).a), E.i (((Q.decode (Qx.w V p)).1).b), E.u (((Q.decode (Qx.w V p)).1).imm)], .agg #[E.i 0, E.u 0]] ?_ ?_)))))))))
 · exact ⟨⟨by kernel_rfl, _, _, 2, _, rfl, rfl, by kernel_rfl⟩, ⟨by kernel_rfl, _, _, 1, _, rfl, rfl, by kernel_rfl⟩, trivial⟩
 intro w h
 exact ⟨by show Ending.returned (.tuple #[.agg #[.int .i64 (((Q.decode (Qx.w V p)).1).op), .int .i64 (((Q.decode (Qx.w V p)).1).d), .int .i64 (((Q.decode (Qx.w V p)).1).a), .int .i64 (((Q.decode (Qx.w V p)).1).b), .int .u32 (((Q.decode (Qx.w V p)).1).imm)], .agg #[.int .i64 0, .int .u32 0]]) = _; unfold Q.fetch; rw [hc3, cond_false, hc5, cond_false, hc6, cond_false, hc7, cond_false, hc8, cond_false, hc10, cond_false] <;> rfl, h.ch.bel (fun _ h => h.elim)⟩
def Q.stop (i : Q.I) : Int × Int := (bif (i.op == 48) then (4, i.imm) else (bif (i.op == 49) then (3, 0) else (bif (i.op == 50) then (2, 0) else (0, 0))))
theorem stop_any (i : Q.I) (w : World) : Calls Tryz.prog 47 #[.agg #[.int .i64 i.op, .int .i64 i.d, .int .i64 i.a, .int .i64 i.b, .int .u32 i.imm]] w fun e w' => e = .returned (.agg #[.int .i64 ((Q.stop i).1), .int .u32 ((Q.stop i).2)]) ∧ Bel w w' := by
 refine E.enter (n := 17) (S := fun _ => False) Tryz.func47 rfl rfl (by kernel_rfl) (E.Hp.start w) (E.sr (E.G.new (fun g => E.pt g) [E.i i.op, E.i i.d, E.i i.a, E.i i.b, E.u i.imm] 71 (fun w => by kernel_rfl) (by kernel_rfl) (fun g1 => E.G.new (fun g => E.pt g) [E.i 0, E.u 0] 49 (fun w => by kernel_rfl) (by kernel_rfl) (fun g2 => E.To.code (E.C.seq (E.sr (E.op (E.pt g1) (E.li (E.i i.op) 1 rfl rfl (E.To.code (E.C.block (E.sr ?_)))))))))))
 refine E.op (.bool (i.op == 48)) (E.op (.bool (i.op == 48)) (E.To.code (E.cd (i.op == 48) (fun hc3 => ?_) (fun hc3 => ?_))))
 ·
  refine E.sr (E.op (.pointer (some ⟨g1, 4, none⟩)) (E.li (E.u i.imm) 1 rfl rfl (E.vl (.agg #[E.i 4, E.u i.imm]) (fun w h => E.run_build #[E.i 4, E.u i.imm] (by kernel_rfl) w) (E.st 0 [E.i 4, E.u i.imm] rfl rfl (E.To.code (E.wk [(2, E.pt g2)] [(g2, [E.i 4, E.u i.imm])] Nz.sub (E.C.ret (E.P.rb (E.P.rt (E.To.body (fn := Tryz.f47) [.agg #[E.i 4, E.u i.imm]] ?_ ?_))))))))))
  · exact ⟨⟨by kernel_rfl, _, _, 0, _, rfl, rfl, by kernel_rfl⟩, trivial⟩
  intro w h
  exact ⟨by show Ending.returned (.agg #[.int .i64 4, .int .u32 i.imm]) = _; unfold Q.stop; rw [hc3, cond_true] <;> rfl, h.ch.bel (fun _ h => h.elim)⟩
 refine E.sr (E.op (.bool (i.op == 49)) (E.op (.bool (i.op == 49)) (E.To.code (E.cd (i.op == 49) (fun hc4 => ?_) (fun hc4 => ?_)))))
 ·
  refine E.sr (E.vl (.agg #[E.i 3, E.u 0]) (fun w h => E.run_build #[E.i 3, E.u 0] (by kernel_rfl) w) (E.st 0 [E.i 3, E.u 0] rfl rfl (E.To.code (E.wk [(2, E.pt g2)] [(g2, [E.i 3, E.u 0])] Nz.sub (E.C.ret (E.P.rb (E.P.rt (E.To.body (fn := Tryz.f47) [.agg #[E.i 3, E.u 0]] ?_ ?_))))))))
  · exact ⟨⟨by kernel_rfl, _, _, 0, _, rfl, rfl, by kernel_rfl⟩, trivial⟩
  intro w h
  exact ⟨by show Ending.returned (.agg #[.int .i64 3, .int .u32 0]) = _; unfold Q.stop; rw [hc3, cond_false, hc4, cond_true] <;> rfl, h.ch.bel (fun _ h => h.elim)⟩
 refine E.sr (E.op (.bool (i.op == 50)) (E.op (.bool (i.op == 50)) (E.To.code (E.wk [(2, E.pt g2), (13, .bool (i.op == 50))] [(g2, [E.i 0, E.u 0])] Nz.sub (E.cd (i.op == 50) (fun hc5 => ?_) (fun hc5 => ?_))))))
 ·
  refine E.sr (E.vl (.agg #[E.i 2, E.u 0]) (fun w h => E.run_build #[E.i 2, E.u 0] (by kernel_rfl) w) (E.st 0 [E.i 2, E.u 0] rfl rfl (E.To.code (E.C.ret (E.P.rb (E.P.rt (E.To.body (fn := Tryz.f47) [.agg #[E.i 2, E.u 0]] ?_ ?_)))))))
  · exact ⟨⟨by kernel_rfl, _, _, 0, _, rfl, rfl, by kernel_rfl⟩, trivial⟩
  intro w h
  exact ⟨by show Ending.returned (.agg #[.int .i64 2, .int .u32 0]) = _; unfold Q.stop; rw [hc3, cond_false, hc4, cond_false, hc5, cond_true] <;> rfl, h.ch.bel (fun _ h => h.elim)⟩
 refine E.C.skip (E.P.nb (E.To.code (E.sr (E.vl (.agg #[E.i 0, E.u 0]) (fun w h => E.run_build #[E.i 0, E.u 0] (by kernel_rfl) w) (E.st 0 [E.i 0, E.u 0] rfl rfl (E.To.code (E.C.ret (E.To.body (fn := Tryz.f47) [.agg #[E.i 0, E.u 0]] ?_ ?_))))))))
 · exact ⟨⟨by kernel_rfl, _, _, 0, _, rfl, rfl, by kernel_rfl⟩, trivial⟩
 intro w h
 exact ⟨by show Ending.returned (.agg #[.int .i64 0, .int .u32 0]) = _; unfold Q.stop; rw [hc3, cond_false, hc4, cond_false, hc5, cond_false] <;> rfl, h.ch.bel (fun _ h => h.elim)⟩
theorem Less_rd {g1 g2 : Nat} (c a b : Int) (ha : 0 ≤ a ∧ a < 4294967296) (hb : 0 ≤ b ∧ b < 4294967296) : A.Rd Tryz.prog 75 #[.int .i64 c, .pointer (some ⟨g1, 0, none⟩), .pointer (some ⟨g2, 0, none⟩)] [A.blk g1 [.int .u32 a], A.blk g2 [.int .u32 b]] (.bool (W.op c a b == 1)) := by
 intro w oo aa hh
 refine E.enter (n := 10) (S := fun _ => False) Tryz.func75 rfl rfl (by kernel_rfl) (A.startY hh) (E.sr (E.op (.bool false) (E.tr (E.op (E.i c) (E.vl (E.u a) (fun w h => A.Y.bld h.x (k := 0) (j := 0) rfl (by kernel_rfl) (by kernel_rfl)) (E.vl (E.u b) (fun w h => A.Y.bld h.x (k := 1) (j := 0) rfl (by kernel_rfl) (by kernel_rfl)) (E.G.call (E.u (W.op c a b)) (fun w h => Op_any c a b ha.1 ha.2 hb.1 hb.2 w) (fun w _ => by kernel_rfl) (by kernel_rfl) (E.op (.bool ((W.op c a b) == 1)) (E.op (.bool ((W.op c a b) == 1)) (E.To.code (E.wk [(4, .bool ((W.op c a b) == 1))] [] Nz.sub ?_)))))))))))
 exact E.C.ret (E.bd Tryz.f75 [.bool ((W.op c a b) == 1)] (fun w h => ⟨rfl, h.ch.bel (fun _ h => h.elim)⟩))
theorem A.of_hp2 {S : Nat → Prop} {w0 w : World} {X : World → Prop} {L : List (Nat × List Value)} (h : E.Hp S w0 X L w) (i j : Nat) {g1 g2 : Nat} {c1 c2 : List Value} (hi : L[i]? = some (g1, c1)) (hj : L[j]? = some (g2, c2)) (n1 : c1.isEmpty = false) (n2 : c2.isEmpty = false) (hne : i ≠ j) : A.Has [A.blk g1 c1, A.blk g2 c2] w (fun x => x = g1 ∨ x = g2) (fun x => x = g1 ∨ x = g2) := by
  have hg : g1 ≠ g2 := fun e => hne (E.nodup_of h.nodup hi hj e)
  have h1 := A.of_hp h i hi n1
  have h2 := A.of_hp h j hj n2
  exact h1.join h2 (fun x hx hy => hg (hx.symm.trans hy)) (fun x hx hy => hg (hy.symm.trans hx))
def Q.taken (c a b : Int) : Bool := (bif (c == 32) then (a == b) else (bif (c == 33) then (a != b) else (bif (c == 34) then (W.op 14 a b == 1) else (bif (c == 35) then (!(W.op 14 a b == 1)) else (bif (c == 36) then (W.op 15 a b == 1) else (!(W.op 15 a b == 1)))))))
theorem taken_any (c a b : Int) (ha : 0 ≤ a ∧ a < 4294967296) (hb : 0 ≤ b ∧ b < 4294967296) (w : World) : Calls Tryz.prog 52 #[.int .i64 c, .int .u32 a, .int .u32 b] w fun e w' => e = .returned (.bool (Q.taken c a b)) ∧ Bel w w' := by
 refine E.enter (n := 36) (S := fun _ => False) Tryz.func52 rfl rfl (by kernel_rfl) (E.Hp.start w) (E.sr (E.G.new (fun g => E.pt g) [E.u a] 24 (fun w => by kernel_rfl) (by kernel_rfl) (fun g1 => E.G.new (fun g => E.pt g) [E.u b] 24 (fun w => by kernel_rfl) (by kernel_rfl) (fun g2 => E.op (.bool false) (E.tr (E.op (.func (.func 75) #[] #[E.pt g1, E.pt g2]) (E.op (.func (.func 75) #[] #[E.pt g1, E.pt g2]) (E.To.code (E.C.seq (E.sr (E.op (E.i c) ?_)))))))))))
 refine E.To.code (E.C.block (E.sr (E.op (.bool (c == 32)) (E.op (.bool (c == 32)) (E.To.code (E.cd (c == 32) (fun hc3 => ?_) (fun hc3 => ?_)))))))
 ·
  exact E.sr (E.li (E.u a) 1 rfl rfl (E.li (E.u b) 0 rfl rfl (E.op (.bool (a == b)) (E.op (.bool (a == b)) (E.To.code (E.wk [(6, .bool (a == b)), (7, .func (.func 75) #[] #[E.pt g1, E.pt g2])] [(g2, [E.u b]), (g1, [E.u a])] Nz.sub (E.C.ret (E.P.rb (E.P.rt (E.bd Tryz.f52 [.bool (a == b)] (fun w h => ⟨by show Ending.returned (.bool (a == b)) = _; unfold Q.taken; rw [hc3, cond_true] <;> rfl, h.ch.bel (fun _ h => h.elim)⟩)))))))))))
 refine E.sr (E.op (.bool (c == 33)) (E.op (.bool (c == 33)) (E.To.code (E.cd (c == 33) (fun hc4 => ?_) (fun hc4 => ?_)))))
 ·
  exact E.sr (E.li (E.u a) 1 rfl rfl (E.li (E.u b) 0 rfl rfl (E.op (.bool (a != b)) (E.op (.bool (a != b)) (E.To.code (E.wk [(6, .bool (a != b)), (7, .func (.func 75) #[] #[E.pt g1, E.pt g2])] [(g2, [E.u b]), (g1, [E.u a])] Nz.sub (E.C.ret (E.P.rb (E.P.rt (E.bd Tryz.f52 [.bool (a != b)] (fun w h => ⟨by show Ending.returned (.bool (a != b)) = _; unfold Q.taken; rw [hc3, cond_false, hc4, cond_true] <;> rfl, h.ch.bel (fun _ h => h.elim)⟩)))))))))))
 refine E.sr (E.op (.bool (c == 34)) (E.op (.bool (c == 34)) (E.To.code (E.wk [(6, .bool false), (7, .func (.func 75) #[] #[E.pt g1, E.pt g2]), (9, E.i c), (20, .bool (c == 34))] [(g2, [E.u b]), (g1, [E.u a])] Nz.sub (E.cd (c == 34) (fun hc5 => ?_) (fun hc5 => ?_))))))
 ·
  exact E.sr (E.op (.func (.func 75) #[] #[E.pt g1, E.pt g2]) (E.G.call (.bool (W.op 14 a b == 1)) (fun w h => Less_rd (g1 := g1) (g2 := g2) 14 a b ha hb w _ _ (A.of_hp2 h 1 0 rfl rfl rfl rfl (by decide))) (fun w _ => by kernel_rfl) (by kernel_rfl) (E.op (.bool (W.op 14 a b == 1)) (E.To.code (E.C.ret (E.P.rb (E.P.rt (E.bd Tryz.f52 [.bool (W.op 14 a b == 1)] (fun w h => ⟨by show Ending.returned (.bool (W.op 14 a b == 1)) = _; unfold Q.taken; rw [hc3, cond_false, hc4, cond_false, hc5, cond_true] <;> rfl, h.ch.bel (fun _ h => h.elim)⟩)))))))))
 refine E.sr (E.op (.bool (c == 35)) (E.op (.bool (c == 35)) (E.To.code (E.cd (c == 35) (fun hc6 => ?_) (fun hc6 => ?_)))))
 ·
  exact E.sr (E.op (.func (.func 75) #[] #[E.pt g1, E.pt g2]) (E.G.call (.bool (W.op 14 a b == 1)) (fun w h => Less_rd (g1 := g1) (g2 := g2) 14 a b ha hb w _ _ (A.of_hp2 h 1 0 rfl rfl rfl rfl (by decide))) (fun w _ => by kernel_rfl) (by kernel_rfl) (E.op (.bool (!(W.op 14 a b == 1))) (E.op (.bool (!(W.op 14 a b == 1))) (E.To.code (E.C.ret (E.P.rb (E.P.rt (E.bd Tryz.f52 [.bool (!(W.op 14 a b == 1))] (fun w h => ⟨by show Ending.returned (.bool (!(W.op 14 a b == 1))) = _; unfold Q.taken; rw [hc3, cond_false, hc4, cond_false, hc5, cond_false, hc6, cond_true] <;> rfl, h.ch.bel (fun _ h => h.elim)⟩))))))))))
 refine E.sr (E.op (.bool (c == 36)) (E.op (.bool (c == 36)) (E.To.code (E.cd (c == 36) (fun hc7 => ?_) (fun hc7 => ?_)))))
 ·
  exact E.sr (E.op (.func (.func 75) #[] #[E.pt g1, E.pt g2]) (E.G.call (.bool (W.op 15 a b == 1)) (fun w h => Less_rd (g1 := g1) (g2 := g2) 15 a b ha hb w _ _ (A.of_hp2 h 1 0 rfl rfl rfl rfl (by decide))) (fun w _ => by kernel_rfl) (by kernel_rfl) (E.op (.bool (W.op 15 a b == 1)) (E.To.code (E.wk [(6, .bool (W.op 15 a b == 1)), (7, .func (.func 75) #[] #[E.pt g1, E.pt g2])] [(g2, [E.u b]), (g1, [E.u a])] Nz.sub (E.C.ret (E.P.rb (E.P.rt (E.bd Tryz.f52 [.bool (W.op 15 a b == 1)] (fun w h => ⟨by show Ending.returned (.bool (W.op 15 a b == 1)) = _; unfold Q.taken; rw [hc3, cond_false, hc4, cond_false, hc5, cond_false, hc6, cond_false, hc7, cond_true] <;> rfl, h.ch.bel (fun _ h => h.elim)⟩))))))))))
 exact E.C.skip (E.P.nb (E.To.code (E.sr (E.op (.func (.func 75) #[] #[E.pt g1, E.pt g2]) (E.G.call (.bool (W.op 15 a b == 1)) (fun w h => Less_rd (g1 := g1) (g2 := g2) 15 a b ha hb w _ _ (A.of_hp2 h 1 0 rfl rfl rfl rfl (by decide))) (fun w _ => by kernel_rfl) (by kernel_rfl) (E.op (.bool (!(W.op 15 a b == 1))) (E.op (.bool (!(W.op 15 a b == 1))) (E.To.code (E.wk [(6, .bool (!(W.op 15 a b == 1)))] [] Nz.sub (E.C.ret (E.bd Tryz.f52 [.bool (!(W.op 15 a b == 1))] (fun w h => ⟨by show Ending.returned (.bool (!(W.op 15 a b == 1))) = _; unfold Q.taken; rw [hc3, cond_false, hc4, cond_false, hc5, cond_false, hc6, cond_false, hc7, cond_false] <;> rfl, h.ch.bel (fun _ h => h.elim)⟩))))))))))))
def Q.flt (a : Int) (ok : Bool) : Int × Int := (bif ok then (0, 0) else (5, a))
theorem fault_any (a : Int) (ok : Bool) (w : World) : Calls Tryz.prog 74 #[.int .u32 a, .bool ok] w fun e w' => e = .returned (.agg #[.int .i64 ((Q.flt a ok).1), .int .u32 ((Q.flt a ok).2)]) ∧ Bel w w' := by
 refine E.enter (n := 9) (S := fun _ => False) Tryz.func74 rfl rfl (by kernel_rfl) (E.Hp.start w) (E.sr (E.G.new (fun g => E.pt g) [E.i 0, E.u 0] 49 (fun w => by kernel_rfl) (by kernel_rfl) (fun g1 => E.To.code (E.C.seq (E.sr (E.op (.bool ok) (E.To.code (E.cd ok (fun hc2 => ?_) (fun hc2 => ?_)))))))))
 ·
  refine E.sr (E.vl (.agg #[E.i 0, E.u 0]) (fun w h => E.run_build #[E.i 0, E.u 0] (by kernel_rfl) w) (E.st 0 [E.i 0, E.u 0] rfl rfl (E.To.code (E.C.ret (E.P.rt (E.To.body (fn := Tryz.f74) [.agg #[E.i 0, E.u 0]] ?_ ?_))))))
  · exact ⟨⟨by kernel_rfl, _, _, 0, _, rfl, rfl, by kernel_rfl⟩, trivial⟩
  intro w h
  exact ⟨by show Ending.returned (.agg #[.int .i64 0, .int .u32 0]) = _; unfold Q.flt; rw [hc2, cond_true] <;> rfl, h.ch.bel (fun _ h => h.elim)⟩
 refine E.C.skip (E.To.code (E.sr (E.op (E.u a) (E.vl (.agg #[E.i 5, E.u a]) (fun w h => E.run_build #[E.i 5, E.u a] (by kernel_rfl) w) (E.st 0 [E.i 5, E.u a] rfl rfl (E.To.code (E.C.ret (E.To.body (fn := Tryz.f74) [.agg #[E.i 5, E.u a]] ?_ ?_))))))))
 · exact ⟨⟨by kernel_rfl, _, _, 0, _, rfl, rfl, by kernel_rfl⟩, trivial⟩
 intro w h
 exact ⟨by show Ending.returned (.agg #[.int .i64 5, .int .u32 a]) = _; unfold Q.flt; rw [hc2, cond_false] <;> rfl, h.ch.bel (fun _ h => h.elim)⟩
def Q.acc (i : Q.I) (V : M.V) (x v : Int) : Int × Int × Int × M.V := (bif ((i.op == 24) || (i.op == 26)) then (bif ((i.op == 25) || (i.op == 26)) then (0, (Q.flt ((V.chk (x).toNat 2 1).1) ((V.chk (x).toNat 2 1).2)).1, (Q.flt ((V.chk (x).toNat 2 1).1) ((V.chk (x).toNat 2 1).2)).2, (V.sto (x).toNat 1 v)) else ((V.load (x).toNat 1).1, (Q.flt ((V.load (x).toNat 1).2.1) ((V.load (x).toNat 1).2.2)).1, (Q.flt ((V.load (x).toNat 1).2.1) ((V.load (x).toNat 1).2.2)).2, V)) else (bif ((i.op == 25) || (i.op == 26)) then (0, (Q.flt ((V.chk (x).toNat 2 4).1) ((V.chk (x).toNat 2 4).2)).1, (Q.flt ((V.chk (x).toNat 2 4).1) ((V.chk (x).toNat 2 4).2)).2, (V.sto (x).toNat 4 v)) else ((V.load (x).toNat 4).1, (Q.flt ((V.load (x).toNat 4).2.1) ((V.load (x).toNat 4).2.2)).1, (Q.flt ((V.load (x).toNat 4).2.1) ((V.load (x).toNat 4).2.2)).2, V)))
theorem Access {m : Nat} {xs : List Value} (i : Q.I) (V : M.V) (x v : Int) (hx : 0 ≤ x ∧ x < 4294967296) : A.Tr Tryz.prog 50 #[.agg #[.int .i64 i.op, .int .i64 i.d, .int .i64 i.a, .int .i64 i.b, .int .u32 i.imm], .int .u32 x, .int .u32 v, .iface 36 (.pointer (some ⟨m, 0, none⟩))] [M.It m V xs] (I := Unit) (fun _ => True) (fun _ => .tuple #[.int .u32 ((Q.acc i V x v).1), .agg #[.int .i64 ((Q.acc i V x v).2.1), .int .u32 ((Q.acc i V x v).2.2.1)]]) (fun _ => [M.It m (Q.acc i V x v).2.2.2 xs]) := by
 intro w oo aa hh
 refine E.enter (n := 53) (S := oo) Tryz.func50 rfl rfl (by kernel_rfl) (A.start (L := []) hh) (E.sr (E.G.new (fun g => E.pt g) [E.i i.op, E.i i.d, E.i i.a, E.i i.b, E.u i.imm] 71 (fun w => by kernel_rfl) (by kernel_rfl) (fun g1 => E.op (E.u 0) (E.G.new (fun g => E.pt g) [E.i 0, E.u 0] 49 (fun w => by kernel_rfl) (by kernel_rfl) (fun g2 => E.tr (E.op (E.i 4) (E.To.code (E.C.seq (E.sr (E.op (E.pt g1) (E.li (E.i i.op) 1 rfl rfl ?_)))))))))))
 refine E.op (.bool (i.op == 24)) (E.op (.bool (i.op == 24)) (E.G.cut 4 [(1, E.u x), (2, E.u v), (3, .iface 36 (E.pt m)), (4, E.pt g1), (8, E.u 0), (9, E.pt g2), (10, E.i 4), (22, .bool ((i.op == 24) || (i.op == 26)))] (A.X w oo aa [M.It m V xs]) [(g2, [E.i 0, E.u 0]), (g1, [E.i i.op, E.i i.d, E.i i.a, E.i i.b, E.u i.imm])] ?_ ?_))
 ·
  generalize hc3 : (i.op == 24) = b4
  cases b4
  ·
   exact E.op (E.pt g1) (E.li (E.i i.op) 1 rfl rfl (E.op (.bool (i.op == 26)) (E.op (.bool (i.op == 26)) (E.G.end_pst ⟨by kernel_rfl, by kernel_rfl⟩ Nz.sub (fun _ h => h)))))
  exact E.sk (E.sk (E.sk (E.op (.bool true) (E.G.end_pst ⟨by kernel_rfl, by kernel_rfl⟩ Nz.sub (fun _ h => h)))))
 refine E.To.code (E.cd ((i.op == 24) || (i.op == 26)) (fun hc5 => ?_) (fun hc5 => ?_))
 ·
  refine E.C.region (E.op (E.i 1) (E.tr (E.op (.func (.func 74) #[] #[]) (E.To.code (E.C.seq (E.sr (E.op (E.pt g1) (E.li (E.i i.op) 1 rfl rfl (E.op (.bool (i.op == 25)) (E.op (.bool (i.op == 25)) (E.G.cut 4 [(1, E.u x), (2, E.u v), (3, .iface 36 (E.pt m)), (8, E.u 0), (9, E.pt g2), (10, E.i 1), (11, .func (.func 74) #[] #[]), (30, .bool ((i.op == 25) || (i.op == 26)))] (A.X w oo aa [M.It m V xs]) [(g2, [E.i 0, E.u 0]), (g1, [E.i i.op, E.i i.d, E.i i.a, E.i i.b, E.u i.imm])] ?_ ?_)))))))))))
  ·
   generalize hc6 : (i.op == 25) = b7
   cases b7
   ·
    exact E.op (E.pt g1) (E.li (E.i i.op) 1 rfl rfl (E.op (.bool (i.op == 26)) (E.op (.bool (i.op == 26)) (E.G.end_pst ⟨by kernel_rfl, by kernel_rfl⟩ Nz.sub (fun _ h => h)))))
   exact E.sk (E.sk (E.sk (E.op (.bool true) (E.G.end_pst ⟨by kernel_rfl, by kernel_rfl⟩ Nz.sub (fun _ h => h)))))
  refine E.To.code (E.cd ((i.op == 25) || (i.op == 26)) (fun hc8 => ?_) (fun hc8 => ?_))
  ·
   refine E.sr (E.op (.func (.func 74) #[] #[]) (E.op (.iface 36 (E.pt m)) (E.op (E.u x) (E.op (E.i 1) (E.op (E.u v) (A.G.call (I := Unit) (D := fun _ => True) (V := fun _ => .tuple #[E.u ((V.chk (x).toNat 2 1).1), .bool ((V.chk (x).toNat 2 1).2)]) (q := fun _ => [M.It m (V.sto (x).toNat 1 v) xs]) [A.blk g2 ([E.i 0, E.u 0]), A.blk g1 ([E.i i.op, E.i i.d, E.i i.a, E.i i.b, E.u i.imm])] (fun _ => [(g2, [E.i 0, E.u 0]), (g1, [E.i i.op, E.i i.d, E.i i.a, E.i i.b, E.u i.imm])]) (fun _ => [M.It m (V.sto (x).toNat 1 v) xs]) (I_Store x 1 v (by assumption) (m := m) (V := V) (xs := xs)) (by kernel_rfl) (A.pn [2, 0, 1]) (fun _ => A.pm [1, 2, 0] (by kernel_rfl) (by kernel_rfl)) (fun w _ => by kernel_rfl) (by kernel_rfl) (fun _ hd9 => E.op (E.u ((V.chk (x).toNat 2 1).1)) (E.op (.bool ((V.chk (x).toNat 2 1).2)) (E.G.call (.agg #[E.i ((Q.flt ((V.chk (x).toNat 2 1).1) ((V.chk (x).toNat 2 1).2)).1), E.u ((Q.flt ((V.chk (x).toNat 2 1).1) ((V.chk (x).toNat 2 1).2)).2)]) (fun w h => fault_any ((V.chk (x).toNat 2 1).1) ((V.chk (x).toNat 2 1).2) w) (fun w _ => by kernel_rfl) (by kernel_rfl) (E.op (E.u 0) (E.st 0 [E.i ((Q.flt ((V.chk (x).toNat 2 1).1) ((V.chk (x).toNat 2 1).2)).1), E.u ((Q.flt ((V.chk (x).toNat 2 1).1) ((V.chk (x).toNat 2 1).2)).2)] rfl rfl ?_)))))))))))
   refine E.To.code (E.wk [(1, E.u x), (3, .iface 36 (E.pt m)), (8, E.u 0), (9, E.pt g2), (10, E.i 1), (11, .func (.func 74) #[] #[])] [(g2, [E.i ((Q.flt ((V.chk (x).toNat 2 1).1) ((V.chk (x).toNat 2 1).2)).1), E.u ((Q.flt ((V.chk (x).toNat 2 1).1) ((V.chk (x).toNat 2 1).2)).2)])] Nz.sub (E.C.ret (E.P.rt (E.To.body (fn := Tryz.f50) [E.u 0, .agg #[E.i ((Q.flt ((V.chk (x).toNat 2 1).1) ((V.chk (x).toNat 2 1).2)).1), E.u ((Q.flt ((V.chk (x).toNat 2 1).1) ((V.chk (x).toNat 2 1).2)).2)]] ?_ ?_))))
   · exact ⟨⟨by kernel_rfl, by kernel_rfl⟩, ⟨by kernel_rfl, _, _, 0, _, rfl, rfl, by kernel_rfl⟩, trivial⟩
   intro w h
   have e : (Q.acc i V x v) = (0, (Q.flt ((V.chk (x).toNat 2 1).1) ((V.chk (x).toNat 2 1).2)).1, (Q.flt ((V.chk (x).toNat 2 1).1) ((V.chk (x).toNat 2 1).2)).2, (V.sto (x).toNat 1 v)) := by unfold Q.acc; rw [hc5, cond_true, hc8, cond_true] <;> rfl
   rw [e]
   exact ⟨(), trivial, rfl, A.dq [1] [0] h⟩
  refine E.C.skip (E.To.code (E.sr (E.op (.iface 36 (E.pt m)) (E.op (E.u x) (E.op (E.i 1) (E.G.call (.tuple #[E.u ((V.load (x).toNat 1).1), E.u ((V.load (x).toNat 1).2.1), .bool ((V.load (x).toNat 1).2.2)]) (fun w h => A.cq [2] [0, 1] (I_Load x 1 (by assumption) (m := m) (V := V) (xs := xs)) h) (fun w _ => by kernel_rfl) (by kernel_rfl) (E.op (.tuple #[E.u ((V.load (x).toNat 1).1), E.u ((V.load (x).toNat 1).2.1), .bool ((V.load (x).toNat 1).2.2)]) (E.op (E.u ((V.load (x).toNat 1).1)) (E.op (E.u ((V.load (x).toNat 1).2.1)) (E.op (.bool ((V.load (x).toNat 1).2.2)) (E.op (E.u ((V.load (x).toNat 1).1)) (E.op (E.u ((V.load (x).toNat 1).2.1)) ?_))))))))))))
  refine E.op (.bool ((V.load (x).toNat 1).2.2)) (E.To.code (E.wk [(8, E.u 0), (9, E.pt g2), (11, .func (.func 74) #[] #[]), (12, E.u ((V.load (x).toNat 1).1)), (13, E.u ((V.load (x).toNat 1).2.1)), (14, .bool ((V.load (x).toNat 1).2.2))] [(g2, [E.i 0, E.u 0])] Nz.sub (E.sr (E.op (E.u ((V.load (x).toNat 1).1)) (E.op (.func (.func 74) #[] #[]) (E.op (E.u ((V.load (x).toNat 1).2.1)) (E.op (.bool ((V.load (x).toNat 1).2.2)) (E.G.call (.agg #[E.i ((Q.flt ((V.load (x).toNat 1).2.1) ((V.load (x).toNat 1).2.2)).1), E.u ((Q.flt ((V.load (x).toNat 1).2.1) ((V.load (x).toNat 1).2.2)).2)]) (fun w h => fault_any ((V.load (x).toNat 1).2.1) ((V.load (x).toNat 1).2.2) w) (fun w _ => by kernel_rfl) (by kernel_rfl) (E.op (E.u ((V.load (x).toNat 1).1)) (E.st 0 [E.i ((Q.flt ((V.load (x).toNat 1).2.1) ((V.load (x).toNat 1).2.2)).1), E.u ((Q.flt ((V.load (x).toNat 1).2.1) ((V.load (x).toNat 1).2.2)).2)] rfl rfl (E.To.code ?_)))))))))))
  refine E.wk [(8, E.u ((V.load (x).toNat 1).1)), (9, E.pt g2)] [(g2, [E.i ((Q.flt ((V.load (x).toNat 1).2.1) ((V.load (x).toNat 1).2.2)).1), E.u ((Q.flt ((V.load (x).toNat 1).2.1) ((V.load (x).toNat 1).2.2)).2)])] Nz.sub (E.C.ret (E.To.body (fn := Tryz.f50) [E.u ((V.load (x).toNat 1).1), .agg #[E.i ((Q.flt ((V.load (x).toNat 1).2.1) ((V.load (x).toNat 1).2.2)).1), E.u ((Q.flt ((V.load (x).toNat 1).2.1) ((V.load (x).toNat 1).2.2)).2)]] ?_ ?_))
  · exact ⟨⟨by kernel_rfl, by kernel_rfl⟩, ⟨by kernel_rfl, _, _, 0, _, rfl, rfl, by kernel_rfl⟩, trivial⟩
  intro w h
  have e : (Q.acc i V x v) = ((V.load (x).toNat 1).1, (Q.flt ((V.load (x).toNat 1).2.1) ((V.load (x).toNat 1).2.2)).1, (Q.flt ((V.load (x).toNat 1).2.1) ((V.load (x).toNat 1).2.2)).2, V) := by unfold Q.acc; rw [hc5, cond_true, hc8, cond_false] <;> rfl
  rw [e]
  exact ⟨(), trivial, rfl, A.dq [1] [0] h⟩
 refine E.C.skip (E.To.code (E.sr (E.op (.func (.func 74) #[] #[]) (E.To.code (E.C.seq (E.sr (E.op (E.pt g1) (E.li (E.i i.op) 1 rfl rfl (E.op (.bool (i.op == 25)) (E.op (.bool (i.op == 25)) (E.G.cut 4 [(1, E.u x), (2, E.u v), (3, .iface 36 (E.pt m)), (8, E.u 0), (9, E.pt g2), (10, E.i 4), (11, .func (.func 74) #[] #[]), (30, .bool ((i.op == 25) || (i.op == 26)))] (A.X w oo aa [M.It m V xs]) [(g2, [E.i 0, E.u 0]), (g1, [E.i i.op, E.i i.d, E.i i.a, E.i i.b, E.u i.imm])] ?_ ?_)))))))))))
 ·
  generalize hc10 : (i.op == 25) = b11
  cases b11
  ·
   exact E.op (E.pt g1) (E.li (E.i i.op) 1 rfl rfl (E.op (.bool (i.op == 26)) (E.op (.bool (i.op == 26)) (E.G.end_pst ⟨by kernel_rfl, by kernel_rfl⟩ Nz.sub (fun _ h => h)))))
  exact E.sk (E.sk (E.sk (E.op (.bool true) (E.G.end_pst ⟨by kernel_rfl, by kernel_rfl⟩ Nz.sub (fun _ h => h)))))
 refine E.To.code (E.cd ((i.op == 25) || (i.op == 26)) (fun hc12 => ?_) (fun hc12 => ?_))
 ·
  refine E.sr (E.op (.func (.func 74) #[] #[]) (E.op (.iface 36 (E.pt m)) (E.op (E.u x) (E.op (E.i 4) (E.op (E.u v) (A.G.call (I := Unit) (D := fun _ => True) (V := fun _ => .tuple #[E.u ((V.chk (x).toNat 2 4).1), .bool ((V.chk (x).toNat 2 4).2)]) (q := fun _ => [M.It m (V.sto (x).toNat 4 v) xs]) [A.blk g2 ([E.i 0, E.u 0]), A.blk g1 ([E.i i.op, E.i i.d, E.i i.a, E.i i.b, E.u i.imm])] (fun _ => [(g2, [E.i 0, E.u 0]), (g1, [E.i i.op, E.i i.d, E.i i.a, E.i i.b, E.u i.imm])]) (fun _ => [M.It m (V.sto (x).toNat 4 v) xs]) (I_Store x 4 v (by assumption) (m := m) (V := V) (xs := xs)) (by kernel_rfl) (A.pn [2, 0, 1]) (fun _ => A.pm [1, 2, 0] (by kernel_rfl) (by kernel_rfl)) (fun w _ => by kernel_rfl) (by kernel_rfl) (fun _ hd13 => E.op (E.u ((V.chk (x).toNat 2 4).1)) (E.op (.bool ((V.chk (x).toNat 2 4).2)) (E.G.call (.agg #[E.i ((Q.flt ((V.chk (x).toNat 2 4).1) ((V.chk (x).toNat 2 4).2)).1), E.u ((Q.flt ((V.chk (x).toNat 2 4).1) ((V.chk (x).toNat 2 4).2)).2)]) (fun w h => fault_any ((V.chk (x).toNat 2 4).1) ((V.chk (x).toNat 2 4).2) w) (fun w _ => by kernel_rfl) (by kernel_rfl) (E.op (E.u 0) (E.st 0 [E.i ((Q.flt ((V.chk (x).toNat 2 4).1) ((V.chk (x).toNat 2 4).2)).1), E.u ((Q.flt ((V.chk (x).toNat 2 4).1) ((V.chk (x).toNat 2 4).2)).2)] rfl rfl ?_)))))))))))
  refine E.To.code (E.wk [(1, E.u x), (3, .iface 36 (E.pt m)), (8, E.u 0), (9, E.pt g2), (10, E.i 4), (11, .func (.func 74) #[] #[])] [(g2, [E.i ((Q.flt ((V.chk (x).toNat 2 4).1) ((V.chk (x).toNat 2 4).2)).1), E.u ((Q.flt ((V.chk (x).toNat 2 4).1) ((V.chk (x).toNat 2 4).2)).2)])] Nz.sub (E.C.ret (E.P.rt (E.To.body (fn := Tryz.f50) [E.u 0, .agg #[E.i ((Q.flt ((V.chk (x).toNat 2 4).1) ((V.chk (x).toNat 2 4).2)).1), E.u ((Q.flt ((V.chk (x).toNat 2 4).1) ((V.chk (x).toNat 2 4).2)).2)]] ?_ ?_))))
  · exact ⟨⟨by kernel_rfl, by kernel_rfl⟩, ⟨by kernel_rfl, _, _, 0, _, rfl, rfl, by kernel_rfl⟩, trivial⟩
  intro w h
  have e : (Q.acc i V x v) = (0, (Q.flt ((V.chk (x).toNat 2 4).1) ((V.chk (x).toNat 2 4).2)).1, (Q.flt ((V.chk (x).toNat 2 4).1) ((V.chk (x).toNat 2 4).2)).2, (V.sto (x).toNat 4 v)) := by unfold Q.acc; rw [hc5, cond_false, hc12, cond_true] <;> rfl
  rw [e]
  exact ⟨(), trivial, rfl, A.dq [1] [0] h⟩
 refine E.C.skip (E.To.code (E.sr (E.op (.iface 36 (E.pt m)) (E.op (E.u x) (E.op (E.i 4) (E.G.call (.tuple #[E.u ((V.load (x).toNat 4).1), E.u ((V.load (x).toNat 4).2.1), .bool ((V.load (x).toNat 4).2.2)]) (fun w h => A.cq [2] [0, 1] (I_Load x 4 (by assumption) (m := m) (V := V) (xs := xs)) h) (fun w _ => by kernel_rfl) (by kernel_rfl) (E.op (.tuple #[E.u ((V.load (x).toNat 4).1), E.u ((V.load (x).toNat 4).2.1), .bool ((V.load (x).toNat 4).2.2)]) (E.op (E.u ((V.load (x).toNat 4).1)) (E.op (E.u ((V.load (x).toNat 4).2.1)) (E.op (.bool ((V.load (x).toNat 4).2.2)) (E.op (E.u ((V.load (x).toNat 4).1)) (E.op (E.u ((V.load (x).toNat 4).2.1)) ?_))))))))))))
 refine E.op (.bool ((V.load (x).toNat 4).2.2)) (E.To.code (E.wk [(8, E.u 0), (9, E.pt g2), (11, .func (.func 74) #[] #[]), (12, E.u ((V.load (x).toNat 4).1)), (13, E.u ((V.load (x).toNat 4).2.1)), (14, .bool ((V.load (x).toNat 4).2.2))] [(g2, [E.i 0, E.u 0])] Nz.sub (E.sr (E.op (E.u ((V.load (x).toNat 4).1)) (E.op (.func (.func 74) #[] #[]) (E.op (E.u ((V.load (x).toNat 4).2.1)) (E.op (.bool ((V.load (x).toNat 4).2.2)) (E.G.call (.agg #[E.i ((Q.flt ((V.load (x).toNat 4).2.1) ((V.load (x).toNat 4).2.2)).1), E.u ((Q.flt ((V.load (x).toNat 4).2.1) ((V.load (x).toNat 4).2.2)).2)]) (fun w h => fault_any ((V.load (x).toNat 4).2.1) ((V.load (x).toNat 4).2.2) w) (fun w _ => by kernel_rfl) (by kernel_rfl) (E.op (E.u ((V.load (x).toNat 4).1)) (E.st 0 [E.i ((Q.flt ((V.load (x).toNat 4).2.1) ((V.load (x).toNat 4).2.2)).1), E.u ((Q.flt ((V.load (x).toNat 4).2.1) ((V.load (x).toNat 4).2.2)).2)] rfl rfl (E.To.code ?_)))))))))))
 refine E.wk [(8, E.u ((V.load (x).toNat 4).1)), (9, E.pt g2)] [(g2, [E.i ((Q.flt ((V.load (x).toNat 4).2.1) ((V.load (x).toNat 4).2.2)).1), E.u ((Q.flt ((V.load (x).toNat 4).2.1) ((V.load (x).toNat 4).2.2)).2)])] Nz.sub (E.C.ret (E.To.body (fn := Tryz.f50) [E.u ((V.load (x).toNat 4).1), .agg #[E.i ((Q.flt ((V.load (x).toNat 4).2.1) ((V.load (x).toNat 4).2.2)).1), E.u ((Q.flt ((V.load (x).toNat 4).2.1) ((V.load (x).toNat 4).2.2)).2)]] ?_ ?_))
 · exact ⟨⟨by kernel_rfl, by kernel_rfl⟩, ⟨by kernel_rfl, _, _, 0, _, rfl, rfl, by kernel_rfl⟩, trivial⟩
 intro w h
 have e : (Q.acc i V x v) = ((V.load (x).toNat 4).1, (Q.flt ((V.load (x).toNat 4).2.1) ((V.load (x).toNat 4).2.2)).1, (Q.flt ((V.load (x).toNat 4).2.1) ((V.load (x).toNat 4).2.2)).2, V) := by unfold Q.acc; rw [hc5, cond_false, hc12, cond_false] <;> rfl
 rw [e]
 exact ⟨(), trivial, rfl, A.dq [1] [0] h⟩
theorem Q.ctl_ok {n : Int} (h : ((n == 0) || (n == 1)) = true) : 0 ≤ n ∧ n < ((4 : Nat) : Int) := by simp at h; omega
def Q.ctl (s : Q.S) (n v : Int) : Q.S := (bif ((n == 4) && (v == 0)) then ⟨s.pc, s.r, s.f, s.c, s.st, 0⟩ else (bif (n == 4) then ⟨s.pc, s.r, s.f, s.c, s.st, (IntKind.wrap .i64 ((IntKind.wrap .i64 (s.st + 1)) + (IntKind.wrap .i64 v)))⟩ else (bif ((n == 0) || (n == 1)) then ⟨s.pc, s.r, s.f, (Q.up s.c (n).toNat v), s.st, s.du⟩ else s)))
theorem Control {g : Nat} (s : Q.S) (n v : Int) (hn : 0 ≤ n ∧ n < 4294967296) : A.Tr Tryz.prog 51 #[.pointer (some ⟨g, 0, none⟩), .int .u32 n, .int .u32 v] [A.blk g (Q.S.cells s)] (I := Unit) (fun _ => True) (fun _ => .tuple #[]) (fun _ => [A.blk g (Q.S.cells (Q.ctl s n v))]) := by
 intro w oo aa hh
 refine E.enter (n := 43) (S := oo) Tryz.func51 rfl rfl (by kernel_rfl) (A.start (L := [(g, (Q.S.cells s))]) hh) (E.C.block (E.sr (E.op (E.u n) (E.op (.bool (n == 4)) (E.op (.bool (n == 4)) (E.G.cut 3 [(0, E.pt g), (1, E.u n), (2, E.u v), (12, .bool ((n == 4) && (v == 0)))] (A.X w oo aa []) [(g, (Q.S.cells s))] ?_ ?_))))))
 ·
  generalize hc1 : (n == 4) = b2
  cases b2
  ·
   exact E.sk (E.sk (E.op (.bool false) (E.G.end_pst ⟨by kernel_rfl, by kernel_rfl⟩ Nz.sub (fun _ h => h))))
  exact E.op (E.u v) (E.op (.bool (v == 0)) (E.op (.bool (v == 0)) (E.G.end_pst ⟨by kernel_rfl, by kernel_rfl⟩ Nz.sub (fun _ h => h))))
 refine E.op (.bool ((n == 4) && (v == 0))) (E.To.code (E.cd ((n == 4) && (v == 0)) (fun hc3 => ?_) (fun hc3 => ?_)))
 ·
  refine E.C.region (E.op (E.pt g) (E.op (E.pt g) (E.op (.pointer (some ⟨g, 23, none⟩)) (E.st 0 (Q.S.cells (⟨s.pc, s.r, s.f, s.c, s.st, 0⟩)) rfl rfl (E.P.nb (E.To.bodyN (fn := Tryz.f51) [] ?_ ?_))))))
  · exact trivial
  intro w h
  have e : (Q.ctl s n v) = ⟨s.pc, s.r, s.f, s.c, s.st, 0⟩ := by unfold Q.ctl; rw [hc3, cond_true] <;> rfl
  rw [e]
  exact ⟨(), trivial, rfl, A.dq [0] [] h⟩
 refine E.sr (E.op (E.u n) (E.op (.bool (n == 4)) (E.op (.bool (n == 4)) (E.To.code (E.cd (n == 4) (fun hc4 => ?_) (fun hc4 => ?_))))))
 ·
  refine E.C.region (E.op (E.pt g) (E.op (E.pt g) (E.op (E.pt g) (E.op (.pointer (some ⟨g, 22, none⟩)) (E.li (E.i s.st) 0 rfl rfl (E.op (E.i (IntKind.wrap .i64 (s.st + 1))) (E.op (E.u v) (E.op (E.i (IntKind.wrap .i64 v)) (E.op (E.i (IntKind.wrap .i64 ((IntKind.wrap .i64 (s.st + 1)) + (IntKind.wrap .i64 v)))) (E.op (E.pt g) (E.op (.pointer (some ⟨g, 23, none⟩)) ?_)))))))))))
  refine E.st 0 (Q.S.cells (⟨s.pc, s.r, s.f, s.c, s.st, (IntKind.wrap .i64 ((IntKind.wrap .i64 (s.st + 1)) + (IntKind.wrap .i64 v)))⟩)) rfl rfl (E.P.nb (E.To.bodyN (fn := Tryz.f51) [] ?_ ?_))
  · exact trivial
  intro w h
  have e : (Q.ctl s n v) = ⟨s.pc, s.r, s.f, s.c, s.st, (IntKind.wrap .i64 ((IntKind.wrap .i64 (s.st + 1)) + (IntKind.wrap .i64 v)))⟩ := by unfold Q.ctl; rw [hc3, cond_false, hc4, cond_true] <;> rfl
  rw [e]
  exact ⟨(), trivial, rfl, A.dq [0] [] h⟩
 refine E.sr (E.op (E.u n) (E.op (.bool (n == 0)) (E.op (.bool (n == 0)) (E.G.cut 3 [(0, E.pt g), (1, E.u n), (2, E.u v), (36, .bool ((n == 0) || (n == 1)))] (A.X w oo aa []) [(g, (Q.S.cells s))] ?_ ?_))))
 ·
  generalize hc5 : (n == 0) = b6
  cases b6
  ·
   exact E.op (E.u n) (E.op (.bool (n == 1)) (E.op (.bool (n == 1)) (E.G.end_pst ⟨by kernel_rfl, by kernel_rfl⟩ Nz.sub (fun _ h => h))))
  exact E.sk (E.sk (E.op (.bool true) (E.G.end_pst ⟨by kernel_rfl, by kernel_rfl⟩ Nz.sub (fun _ h => h))))
 refine E.op (.bool ((n == 0) || (n == 1))) (E.To.code (E.cd ((n == 0) || (n == 1)) (fun hc7 => ?_) (fun hc7 => ?_)))
 ·
  refine E.C.region (E.op (E.pt g) (E.op (E.u n) (E.op (E.u v) (E.op (E.pt g) (E.op (.pointer (some ⟨g, 18, none⟩)) (E.vl (.pointer (some ⟨g, 18 + (n).toNat, none⟩)) (fun w h => E.idxI (e := 24) g 18 4 .u32 n (by kernel_rfl) (by kernel_rfl) (by kernel_rfl) (by kernel_rfl) (Q.ctl_ok hc7) w) (E.G.store 0 (Q.S.cells (⟨s.pc, s.r, s.f, (Q.up s.c (n).toNat v), s.st, s.du⟩)) rfl rfl (Q.sto_c (s := s) (by kernel_rfl) (by have := (Q.ctl_ok hc7); omega)) (by kernel_rfl) (E.P.nb (E.To.bodyN (fn := Tryz.f51) [] ?_ ?_)))))))))
  · exact trivial
  intro w h
  have e : (Q.ctl s n v) = ⟨s.pc, s.r, s.f, (Q.up s.c (n).toNat v), s.st, s.du⟩ := by unfold Q.ctl; rw [hc3, cond_false, hc4, cond_false, hc7, cond_true] <;> rfl
  rw [e]
  exact ⟨(), trivial, rfl, A.dq [0] [] h⟩
 refine E.C.skip (E.P.nb (E.To.bodyN (fn := Tryz.f51) [] ?_ ?_))
 · exact trivial
 intro w h
 have e : (Q.ctl s n v) = s := by unfold Q.ctl; rw [hc3, cond_false, hc4, cond_false, hc7, cond_false] <;> rfl
 rw [e]
 exact ⟨(), trivial, rfl, A.dq [0] [] h⟩
def Q.z0 : Q.S := ⟨0, fun _ => 0, 0, fun _ => 0, 0, 0⟩
theorem A.rdAs {P : Program} {f : FuncId} {args : Array Value} {p : List A.It} {v v' : Value} (h : A.Rd P f args p v) (e : v = v') : A.Rd P f args p v' := e ▸ h
/-- A valid instruction's fields. -/
structure Q.iok (i : Q.I) : Prop where
  op : 0 ≤ i.op ∧ i.op < 64
  d : 0 ≤ i.d ∧ i.d < 16
  a : 0 ≤ i.a ∧ i.a < 16
  b : 0 ≤ i.b ∧ i.b < 16
  imm : 0 ≤ i.imm ∧ i.imm < 4294967296
  get : (i.op == 53) = true → i.imm < 4
/-- A state's words are words. -/
structure Q.wf (s : Q.S) : Prop where
  pc : 0 ≤ s.pc ∧ s.pc < 4294967296
  r : ∀ k, 0 ≤ s.r k ∧ s.r k < 4294967296
  c : ∀ k, 0 ≤ s.c k ∧ s.c k < 4294967296
theorem Q.bif_bd {c : Bool} {x y : Int} (hx : 0 ≤ x ∧ x < 4294967296) (hy : 0 ≤ y ∧ y < 4294967296) : 0 ≤ (bif c then x else y) ∧ (bif c then x else y) < 4294967296 := by
  cases c
  · exact hy
  · exact hx
theorem Op_all (c a b : Int) (ha : 0 ≤ a ∧ a < 4294967296) (hb : 0 ≤ b ∧ b < 4294967296) (w : World) : Calls Tryz.prog 49 #[.int .i64 c, .int .u32 a, .int .u32 b] w fun e w' => e = .returned (.int .u32 (W.op c a b)) ∧ Bel w w' := Op_any c a b ha.1 ha.2 hb.1 hb.2 w
theorem Q.ne_of {k : Int} (h : (k == 0) = false) : (k != 0) = true := by rw [bne, h]; rfl
theorem Q.hp_map {S : Nat → Prop} {w0 w w' : World} {X : World → Prop} {L : List (Nat × List Value)} {g c : Nat} {es : Array MapEntry} (h : E.Hp S w0 X L w) (hb : Bel w w') (hm : E.Mp g es c w') (hne : A.ne L = true) : E.Hp S w0 (fun w => X w ∧ E.Mp g es c w) L w' := by
  have h1 := h.bel hb
  have hlt : g < w'.heap.size := by
    unfold E.Mp at hm
    rcases Nat.lt_or_ge g w'.heap.size with k | k
    · exact k
    · rw [Array.getElem?_eq_none k] at hm; cases hm
  have hn : g ∉ L.map (·.1) := fun hx => by
    obtain ⟨p, hp, e⟩ := List.mem_map.1 hx
    have hq := List.all_eq_true.1 hne p hp
    cases hc : p.2 with
    | nil => rw [hc] at hq; cases hq
    | cons v l =>
      have := h1.mem p hp 0 v (by rw [hc]; rfl)
      rw [World.cell?, e] at this
      unfold E.Mp at hm
      simp only [hm] at this
      cases this
  refine h1.addX fun w2 hs hw => ?_
  unfold E.Mp at hm ⊢
  rw [hw g hlt hn]; exact hm
def Q.stepI (i : Q.I) (k t : Int) (s : Q.S) (V : M.V) : Q.S × Int × Int × M.V := (bif (k == 0) then (bif (((Q.stop i).1) != 0) then (s, (Q.stop i).1, (Q.stop i).2, V) else (bif ((i.op == 10) && ((bif (decide (i.op ≥ 16)) then i.imm else ((Q.up s.r 0 0) ((i.b).toNat))) == 0)) then (s, 6, (Q.stop i).2, V) else (bif (Q.ar i.op).2 then (⟨(IntKind.wrap .u32 (s.pc + 4)), (Q.up (Q.up (Q.up s.r 0 0) (i.d).toNat (W.op ((Q.ar i.op).1) ((Q.up s.r 0 0) ((i.a).toNat)) (bif (decide (i.op ≥ 16)) then i.imm else ((Q.up s.r 0 0) ((i.b).toNat))))) 0 0), s.f, s.c, (IntKind.wrap .i64 (s.st + 1)), s.du⟩, (Q.stop i).1, (Q.stop i).2, V) else (bif ((i.op == 23) || (i.op == 24)) then (bif (((Q.acc i V (IntKind.wrap .u32 (((Q.up s.r 0 0) ((i.a).toNat)) + i.imm)) ((Q.up s.r 0 0) ((i.d).toNat))).2.1) != 0) then (s, (Q.acc i V (IntKind.wrap .u32 (((Q.up s.r 0 0) ((i.a).toNat)) + i.imm)) ((Q.up s.r 0 0) ((i.d).toNat))).2.1, (Q.acc i V (IntKind.wrap .u32 (((Q.up s.r 0 0) ((i.a).toNat)) + i.imm)) ((Q.up s.r 0 0) ((i.d).toNat))).2.2.1, (Q.acc i V (IntKind.wrap .u32 (((Q.up s.r 0 0) ((i.a).toNat)) + i.imm)) ((Q.up s.r 0 0) ((i.d).toNat))).2.2.2) else (⟨(IntKind.wrap .u32 (s.pc + 4)), (Q.up (Q.up (Q.up s.r 0 0) (i.d).toNat ((Q.acc i V (IntKind.wrap .u32 (((Q.up s.r 0 0) ((i.a).toNat)) + i.imm)) ((Q.up s.r 0 0) ((i.d).toNat))).1)) 0 0), s.f, s.c, (IntKind.wrap .i64 (s.st + 1)), s.du⟩, (Q.acc i V (IntKind.wrap .u32 (((Q.up s.r 0 0) ((i.a).toNat)) + i.imm)) ((Q.up s.r 0 0) ((i.d).toNat))).2.1, (Q.acc i V (IntKind.wrap .u32 (((Q.up s.r 0 0) ((i.a).toNat)) + i.imm)) ((Q.up s.r 0 0) ((i.d).toNat))).2.2.1, (Q.acc i V (IntKind.wrap .u32 (((Q.up s.r 0 0) ((i.a).toNat)) + i.imm)) ((Q.up s.r 0 0) ((i.d).toNat))).2.2.2)) else (bif ((i.op == 25) || (i.op == 26)) then (bif (((Q.acc i V (IntKind.wrap .u32 (((Q.up s.r 0 0) ((i.a).toNat)) + i.imm)) ((Q.up s.r 0 0) ((i.d).toNat))).2.1) != 0) then (s, (Q.acc i V (IntKind.wrap .u32 (((Q.up s.r 0 0) ((i.a).toNat)) + i.imm)) ((Q.up s.r 0 0) ((i.d).toNat))).2.1, (Q.acc i V (IntKind.wrap .u32 (((Q.up s.r 0 0) ((i.a).toNat)) + i.imm)) ((Q.up s.r 0 0) ((i.d).toNat))).2.2.1, (Q.acc i V (IntKind.wrap .u32 (((Q.up s.r 0 0) ((i.a).toNat)) + i.imm)) ((Q.up s.r 0 0) ((i.d).toNat))).2.2.2) else (⟨(IntKind.wrap .u32 (s.pc + 4)), (Q.up (Q.up s.r 0 0) 0 0), s.f, s.c, (IntKind.wrap .i64 (s.st + 1)), s.du⟩, (Q.acc i V (IntKind.wrap .u32 (((Q.up s.r 0 0) ((i.a).toNat)) + i.imm)) ((Q.up s.r 0 0) ((i.d).toNat))).2.1, (Q.acc i V (IntKind.wrap .u32 (((Q.up s.r 0 0) ((i.a).toNat)) + i.imm)) ((Q.up s.r 0 0) ((i.d).toNat))).2.2.1, (Q.acc i V (IntKind.wrap .u32 (((Q.up s.r 0 0) ((i.a).toNat)) + i.imm)) ((Q.up s.r 0 0) ((i.d).toNat))).2.2.2)) else (bif (i.op == 27) then (⟨(bits .andNot .u32 (IntKind.wrap .u32 (((Q.up s.r 0 0) ((i.a).toNat)) + i.imm)) 3), (Q.up (Q.up (Q.up s.r 0 0) (i.d).toNat (IntKind.wrap .u32 (s.pc + 4))) 0 0), s.f, s.c, (IntKind.wrap .i64 (s.st + 1)), s.du⟩, (Q.stop i).1, (Q.stop i).2, V) else (bif (i.op == 40) then (⟨(IntKind.wrap .u32 (s.pc + (IntKind.wrap .u32 (4 * i.imm)))), (Q.up (Q.up (Q.up s.r 0 0) (i.d).toNat (IntKind.wrap .u32 (s.pc + 4))) 0 0), s.f, s.c, (IntKind.wrap .i64 (s.st + 1)), s.du⟩, (Q.stop i).1, (Q.stop i).2, V) else (bif (i.op == 41) then (⟨(IntKind.wrap .u32 (s.pc + 4)), (Q.up (Q.up (Q.up s.r 0 0) (i.d).toNat (IntKind.wrap .u32 (i.imm * 2 ^ 10))) 0 0), s.f, s.c, (IntKind.wrap .i64 (s.st + 1)), s.du⟩, (Q.stop i).1, (Q.stop i).2, V) else (bif (i.op == 51) then (⟨(bits .andNot .u32 (s.c 1) 3), (Q.up (Q.up s.r 0 0) 0 0), s.f, s.c, (IntKind.wrap .i64 (s.st + 1)), s.du⟩, (Q.stop i).1, (Q.stop i).2, V) else (bif (i.op == 52) then (bif (!(decide ((((Q.up s.r 0 0) ((i.a).toNat))).toNat / 256 < V.n))) then (s, 5, ((Q.up s.r 0 0) ((i.a).toNat)), (V.sync ((((Q.up s.r 0 0) ((i.a).toNat))).toNat / 256))) else (⟨(IntKind.wrap .u32 (s.pc + 4)), (Q.up (Q.up s.r 0 0) 0 0), s.f, s.c, (IntKind.wrap .i64 (s.st + 1)), s.du⟩, (Q.stop i).1, (Q.stop i).2, (V.sync ((((Q.up s.r 0 0) ((i.a).toNat))).toNat / 256)))) else (bif (i.op == 53) then (⟨(IntKind.wrap .u32 (s.pc + 4)), (Q.up (Q.up (Q.up s.r 0 0) (i.d).toNat (s.c ((i.imm).toNat))) 0 0), s.f, s.c, (IntKind.wrap .i64 (s.st + 1)), s.du⟩, (Q.stop i).1, (Q.stop i).2, V) else (bif (i.op == 54) then (⟨(IntKind.wrap .u32 (s.pc + 4)), (Q.up ((Q.ctl (⟨s.pc, (Q.up s.r 0 0), s.f, s.c, s.st, s.du⟩ : Q.S) i.imm ((Q.up s.r 0 0) ((i.a).toNat))).r) 0 0), (Q.ctl (⟨s.pc, (Q.up s.r 0 0), s.f, s.c, s.st, s.du⟩ : Q.S) i.imm ((Q.up s.r 0 0) ((i.a).toNat))).f, (Q.ctl (⟨s.pc, (Q.up s.r 0 0), s.f, s.c, s.st, s.du⟩ : Q.S) i.imm ((Q.up s.r 0 0) ((i.a).toNat))).c, (IntKind.wrap .i64 (((Q.ctl (⟨s.pc, (Q.up s.r 0 0), s.f, s.c, s.st, s.du⟩ : Q.S) i.imm ((Q.up s.r 0 0) ((i.a).toNat))).st) + 1)), (Q.ctl (⟨s.pc, (Q.up s.r 0 0), s.f, s.c, s.st, s.du⟩ : Q.S) i.imm ((Q.up s.r 0 0) ((i.a).toNat))).du⟩, (Q.stop i).1, (Q.stop i).2, V) else (bif (Q.taken i.op ((Q.up s.r 0 0) ((i.d).toNat)) ((Q.up s.r 0 0) ((i.a).toNat))) then (⟨(IntKind.wrap .u32 (s.pc + (IntKind.wrap .u32 (4 * i.imm)))), (Q.up (Q.up s.r 0 0) 0 0), s.f, s.c, (IntKind.wrap .i64 (s.st + 1)), s.du⟩, (Q.stop i).1, (Q.stop i).2, V) else (⟨(IntKind.wrap .u32 (s.pc + 4)), (Q.up (Q.up s.r 0 0) 0 0), s.f, s.c, (IntKind.wrap .i64 (s.st + 1)), s.du⟩, (Q.stop i).1, (Q.stop i).2, V)))))))))))))) else (s, k, t, V))
def Qx.a (s : Q.S) (i : Q.I) : Int := ((Q.up s.r 0 0) ((i.a).toNat))
def Qx.d (s : Q.S) (i : Q.I) : Int := ((Q.up s.r 0 0) ((i.d).toNat))
def Qx.b (s : Q.S) (i : Q.I) : Int := ((Q.up s.r 0 0) ((i.b).toNat))
def Qx.x (s : Q.S) (i : Q.I) : Int := (IntKind.wrap .u32 (((Q.up s.r 0 0) ((i.a).toNat)) + i.imm))
def Qx.s (s : Q.S) : Q.S := ⟨s.pc, (Q.up s.r 0 0), s.f, s.c, s.st, s.du⟩
def Qx.u (s : Q.S) : Nat → Int := (Q.up s.r 0 0)
def Qx.p (s : Q.S) : Int := (IntKind.wrap .u32 (s.pc + 4))
def Qx.t (s : Q.S) : Int := (IntKind.wrap .i64 (s.st + 1))
theorem Step_i {m : Nat} {xs : List Value} (i : Q.I) (k t : Int) (s : Q.S) (V : M.V) (hf : Q.fetch V s.pc = (i, k, t)) (hi : (k == 0) = true → Q.iok i) (hs : Q.wf s) : A.Tr Tryz.prog 17 #[Q.S.val s, .iface 36 (.pointer (some ⟨m, 0, none⟩))] [M.It m V xs] (I := Unit) (fun _ => True) (fun _ => .tuple #[Q.S.val ((Q.stepI i k t s V).1), .agg #[.int .i64 ((Q.stepI i k t s V).2.1), .int .u32 ((Q.stepI i k t s V).2.2.1)]]) (fun _ => [M.It m (Q.stepI i k t s V).2.2.2 xs]) := by
 intro w oo aa hh
 refine E.enter (n := 231) (S := oo) Tryz.func17 rfl rfl (by kernel_rfl) (A.start (L := []) hh) (E.sr (E.G.new (fun g => E.pt g) (Q.S.cells s) 32 (fun w => by kernel_rfl) (by kernel_rfl) (fun g1 => E.G.new (fun g => E.pt g) (Q.S.cells Q.z0) 32 (fun w => by kernel_rfl) (by kernel_rfl) (fun g2 => E.G.new (fun g => E.pt g) [E.i 0, E.u 0] 49 (fun w => by kernel_rfl) (by kernel_rfl) (fun g3 => E.tr (E.op (E.pt g1) (E.li (E.u s.pc) 2 rfl rfl (E.op (.iface 36 (E.pt m)) (E.G.call (.tuple #[.agg #[E.i i.op, E.i i.d, E.i i.a, E.i i.b, E.u i.imm], .agg #[E.i k, E.u t]]) (fun w h => A.cq [3] [0, 1, 2] (A.rdAs (v' := .tuple #[.agg #[E.i i.op, E.i i.d, E.i i.a, E.i i.b, E.u i.imm], .agg #[E.i k, E.u t]]) (Fetch_rd (m := m) (xs := xs) V s.pc) (by rw [hf] <;> rfl)) h) (fun w _ => by kernel_rfl) (by kernel_rfl) (E.op (.tuple #[.agg #[E.i i.op, E.i i.d, E.i i.a, E.i i.b, E.u i.imm], .agg #[E.i k, E.u t]]) (E.op (.agg #[E.i i.op, E.i i.d, E.i i.a, E.i i.b, E.u i.imm]) ?_)))))))))))
 refine E.op (.agg #[E.i k, E.u t]) (E.G.new (fun g => E.pt g) [E.i 0, E.i 0, E.i 0, E.i 0, E.u 0] 71 (fun w => by kernel_rfl) (by kernel_rfl) (fun g4 => E.G.new (fun g => E.pt g) [E.i 0, E.u 0] 49 (fun w => by kernel_rfl) (by kernel_rfl) (fun g5 => E.st 1 [E.i i.op, E.i i.d, E.i i.a, E.i i.b, E.u i.imm] rfl rfl (E.st 0 [E.i k, E.u t] rfl rfl (E.To.code (E.wk [(1, .iface 36 (E.pt m)), (2, E.pt g1), (4, E.pt g2), (5, E.pt g3), (6, E.pt g4), (7, E.pt g5)] [(g5, [E.i k, E.u t]), (g4, [E.i i.op, E.i i.d, E.i i.a, E.i i.b, E.u i.imm]), (g3, [E.i 0, E.u 0]), (g2, (Q.S.cells Q.z0)), (g1, (Q.S.cells s))] Nz.sub (E.C.seq (E.sr (E.op (E.pt g5) (E.li (E.i k) 0 rfl rfl (E.op (.bool (k == 0)) ?_)))))))))))
 refine E.To.code (E.cd (k == 0) (fun hc6 => ?_) (fun hc6 => ?_))
 ·
  refine E.C.region (E.li (.agg #[E.i i.op, E.i i.d, E.i i.a, E.i i.b, E.u i.imm]) 1 rfl rfl (E.G.call (.agg #[E.i ((Q.stop i).1), E.u ((Q.stop i).2)]) (fun w h => stop_any i w) (fun w _ => by kernel_rfl) (by kernel_rfl) (E.st 0 [E.i ((Q.stop i).1), E.u ((Q.stop i).2)] rfl rfl (E.To.code (E.C.seq (E.sr (E.op (E.pt g5) (E.li (E.i ((Q.stop i).1)) 0 rfl rfl (E.vl (.bool (((Q.stop i).1) != 0)) (fun w h => E.run_as (a := .bool (((Q.stop i).1) != 0)) (by kernel_rfl) (rfl)) (E.To.code (E.cd (((Q.stop i).1) != 0) (fun hc7 => ?_) (fun hc7 => ?_))))))))))))
  ·
   refine E.C.seq (E.C.held (E.Hp (oo) w (A.X w oo aa [M.It m V xs]) [(g5, [E.i ((Q.stop i).1), E.u ((Q.stop i).2)]), (g4, [E.i i.op, E.i i.d, E.i i.a, E.i i.b, E.u i.imm]), (g1, (Q.S.cells s))]) (by kernel_rfl) (E.tj 0 (Q.S.val s) rfl (fun w h => h.less Nz.sub) (fun w h => E.run_load h 2 rfl rfl (by kernel_rfl)) (E.tj 1 (.agg #[E.i ((Q.stop i).1), E.u ((Q.stop i).2)]) rfl (fun w h => h.less Nz.sub) (fun w h => E.run_load h 0 rfl rfl (by kernel_rfl)) (E.al 2 rfl (E.st 3 (Q.S.cells s) rfl rfl (E.H.back (fun w h => h.less Nz.sub) (E.al 3 rfl (E.st 2 [E.i ((Q.stop i).1), E.u ((Q.stop i).2)] rfl rfl (E.H.back (fun w h => h.less Nz.sub) (E.H.done (by kernel_rfl) (E.To.code ?_)))))))))))
   refine E.wk [(1, .iface 36 (E.pt m)), (2, E.pt g1), (4, E.pt g2), (5, E.pt g3), (6, E.pt g4), (7, E.pt g5)] [(g5, [E.i ((Q.stop i).1), E.u ((Q.stop i).2)]), (g4, [E.i i.op, E.i i.d, E.i i.a, E.i i.b, E.u i.imm]), (g3, [E.i ((Q.stop i).1), E.u ((Q.stop i).2)]), (g2, (Q.S.cells s)), (g1, (Q.S.cells s))] Nz.sub (E.C.ret (E.P.rt (E.To.body (fn := Tryz.f17) [Q.S.val s, .agg #[E.i ((Q.stop i).1), E.u ((Q.stop i).2)]] ?_ ?_)))
   · exact ⟨⟨by kernel_rfl, _, _, 3, _, rfl, rfl, by kernel_rfl⟩, ⟨by kernel_rfl, _, _, 2, _, rfl, rfl, by kernel_rfl⟩, trivial⟩
   intro w h
   have e : (Q.stepI i k t s V) = (s, (Q.stop i).1, (Q.stop i).2, V) := by unfold Q.stepI; rw [hc6, cond_true, hc7, cond_true] <;> rfl
   rw [e]
   exact ⟨(), trivial, rfl, A.dq [5] [0, 1, 2, 3, 4] h⟩
  refine E.C.skip (E.To.code (E.wk [(1, .iface 36 (E.pt m)), (2, E.pt g1), (4, E.pt g2), (5, E.pt g3), (6, E.pt g4), (7, E.pt g5)] [(g5, [E.i ((Q.stop i).1), E.u ((Q.stop i).2)]), (g4, [E.i i.op, E.i i.d, E.i i.a, E.i i.b, E.u i.imm]), (g3, [E.i 0, E.u 0]), (g2, (Q.S.cells Q.z0)), (g1, (Q.S.cells s))] Nz.sub (E.sr (E.li (Q.S.val s) 4 rfl rfl (E.G.new (fun g => E.pt g) (Q.S.cells Q.z0) 32 (fun w => by kernel_rfl) (by kernel_rfl) (fun g8 => E.st 0 (Q.S.cells s) rfl rfl (E.tr (E.op (.pointer (some ⟨g1, 1, none⟩)) (E.op (.pointer (some ⟨g1, 1, none⟩)) (E.st 5 (Q.S.cells (Qx.s s)) rfl rfl (E.To.code (E.C.seq ?_))))))))))))
  refine E.C.quiet (by kernel_rfl) (by kernel_rfl) (E.wo (.pointer (some ⟨g4, 1, none⟩)) (E.wv (E.i i.d) (fun w h => E.run_load h 2 rfl rfl (by kernel_rfl)) (E.wo (.pointer (some ⟨g1, 1, none⟩)) (E.wv (.pointer (some ⟨g1, 1 + (i.d).toNat, none⟩)) (fun w h => E.idxI (e := 24) g1 1 16 .i64 i.d (by kernel_rfl) (by kernel_rfl) (by kernel_rfl) (by kernel_rfl) (by have := (hi hc6).d; omega) w) (E.wv (E.u (Qx.d s i)) (fun w h => E.run_load h 5 rfl rfl (Q.ld_r (by kernel_rfl) (by have := (by have := (hi hc6).d; omega); omega))) (E.wo (.pointer (some ⟨g4, 2, none⟩)) (E.wv (E.i i.a) (fun w h => E.run_load h 2 rfl rfl (by kernel_rfl)) (E.wo (.pointer (some ⟨g1, 1, none⟩)) (E.wv (.pointer (some ⟨g1, 1 + (i.a).toNat, none⟩)) (fun w h => E.idxI (e := 24) g1 1 16 .i64 i.a (by kernel_rfl) (by kernel_rfl) (by kernel_rfl) (by kernel_rfl) (by have := (hi hc6).a; omega) w) (E.wv (E.u (Qx.a s i)) (fun w h => E.run_load h 5 rfl rfl (Q.ld_r (by kernel_rfl) (by have := (by have := (hi hc6).a; omega); omega))) (E.wo (.pointer (some ⟨g4, 3, none⟩)) ?_)))))))))))
  refine E.wv (E.i i.b) (fun w h => E.run_load h 2 rfl rfl (by kernel_rfl)) (E.wo (.pointer (some ⟨g1, 1, none⟩)) (E.wv (.pointer (some ⟨g1, 1 + (i.b).toNat, none⟩)) (fun w h => E.idxI (e := 24) g1 1 16 .i64 i.b (by kernel_rfl) (by kernel_rfl) (by kernel_rfl) (by kernel_rfl) (by have := (hi hc6).b; omega) w) (E.wv (E.u (Qx.b s i)) (fun w h => E.run_load h 5 rfl rfl (Q.ld_r (by kernel_rfl) (by have := (by have := (hi hc6).b; omega); omega))) (E.wo (E.u (Qx.d s i)) (E.wo (E.u (Qx.a s i)) (E.wo (E.u (Qx.b s i)) (E.W.done (E.To.code (E.wk [(1, .iface 36 (E.pt m)), (2, E.pt g1), (4, E.pt g2), (5, E.pt g3), (6, E.pt g4), (7, E.pt g5), (8, E.pt g8), (9, E.u (Qx.d s i)), (10, E.u (Qx.a s i)), (11, E.u (Qx.b s i))] [(g8, (Q.S.cells s)), (g5, [E.i ((Q.stop i).1), E.u ((Q.stop i).2)]), (g4, [E.i i.op, E.i i.d, E.i i.a, E.i i.b, E.u i.imm]), (g3, [E.i 0, E.u 0]), (g2, (Q.S.cells Q.z0)), (g1, (Q.S.cells (Qx.s s)))] Nz.sub (E.C.seq (E.sr (E.op (E.pt g4) ?_))))))))))))
  refine E.li (E.i i.op) 2 rfl rfl (E.op (.bool (decide (i.op ≥ 16))) (E.To.code (E.C.thencut [(1, .iface 36 (E.pt m)), (2, E.pt g1), (4, E.pt g2), (5, E.pt g3), (6, E.pt g4), (7, E.pt g5), (8, E.pt g8), (9, E.u (Qx.d s i)), (10, E.u (Qx.a s i)), (11, E.u (bif (decide (i.op ≥ 16)) then i.imm else (Qx.b s i)))] (A.X w oo aa [M.It m V xs]) [(g8, (Q.S.cells s)), (g5, [E.i ((Q.stop i).1), E.u ((Q.stop i).2)]), (g4, [E.i i.op, E.i i.d, E.i i.a, E.i i.b, E.u i.imm]), (g3, [E.i 0, E.u 0]), (g2, (Q.S.cells Q.z0)), (g1, (Q.S.cells (Qx.s s)))] ?_ ?_)))
  ·
   generalize hc9 : (decide (i.op ≥ 16)) = b10
   cases b10
   ·
    exact E.C.condF (by kernel_rfl) (by kernel_rfl) (E.C.skip (E.To.pst ⟨by kernel_rfl, by kernel_rfl⟩ Nz.sub (fun _ h => h)))
   exact E.C.condT (by kernel_rfl) (by kernel_rfl) (E.C.region (E.op (.pointer (some ⟨g4, 4, none⟩)) (E.li (E.u i.imm) 2 rfl rfl (E.op (E.u i.imm) (E.To.pst ⟨by kernel_rfl, by kernel_rfl⟩ Nz.sub (fun _ h => h))))))
  refine E.sr (E.op (E.pt g1) (E.li (E.u s.pc) 5 rfl rfl (E.op (E.u (Qx.p s)) (E.op (E.u (Qx.p s)) (E.tr (E.op (E.pt g1) (E.li (E.u s.pc) 5 rfl rfl (E.op (.pointer (some ⟨g4, 4, none⟩)) (E.li (E.u i.imm) 2 rfl rfl (E.op (E.u (IntKind.wrap .u32 (4 * i.imm))) (E.op (E.u (IntKind.wrap .u32 (s.pc + (IntKind.wrap .u32 (4 * i.imm))))) ?_)))))))))))
  refine E.op (E.u (IntKind.wrap .u32 (s.pc + (IntKind.wrap .u32 (4 * i.imm))))) (E.To.code (E.wk [(1, .iface 36 (E.pt m)), (2, E.pt g1), (4, E.pt g2), (5, E.pt g3), (6, E.pt g4), (7, E.pt g5), (8, E.pt g8), (9, E.u (Qx.d s i)), (10, E.u (Qx.a s i)), (11, E.u (bif (decide (i.op ≥ 16)) then i.imm else (Qx.b s i))), (12, E.u (Qx.p s)), (13, E.u (IntKind.wrap .u32 (s.pc + (IntKind.wrap .u32 (4 * i.imm)))))] [(g8, (Q.S.cells s)), (g5, [E.i ((Q.stop i).1), E.u ((Q.stop i).2)]), (g4, [E.i i.op, E.i i.d, E.i i.a, E.i i.b, E.u i.imm]), (g3, [E.i 0, E.u 0]), (g2, (Q.S.cells Q.z0)), (g1, (Q.S.cells (Qx.s s)))] Nz.sub (E.C.seq (E.C.held (A.Y [A.blk g8 (Q.S.cells s), A.blk g5 ([E.i ((Q.stop i).1), E.u ((Q.stop i).2)]), A.blk g4 ([E.i i.op, E.i i.d, E.i i.a, E.i i.b, E.u i.imm]), A.blk g3 ([E.i 0, E.u 0]), A.blk g2 (Q.S.cells Q.z0), A.blk g1 (Q.S.cells (Qx.s s))]) (by kernel_rfl) (E.tk 1 (E.pt g4) rfl (fun w h => A.hq [0, 1, 2, 3, 4, 5] [6] h) (E.tj 2 (E.i i.op) rfl (fun w h => A.hq [0, 1, 2, 3, 4, 5] [6] h) (fun w h => A.Y.bld h (k := 2) (j := 0) rfl (by kernel_rfl) (by kernel_rfl)) (E.al 0 rfl (E.G.callX (I := Nat) (fun _ => True) (fun g => .map (some g)) (fun g u => (A.X w oo aa [M.It m V xs]) u ∧ E.Mp g Q.arE 19 u) (fun _ => [(g8, (Q.S.cells s)), (g5, [E.i ((Q.stop i).1), E.u ((Q.stop i).2)]), (g4, [E.i i.op, E.i i.d, E.i i.a, E.i i.b, E.u i.imm]), (g3, [E.i 0, E.u 0]), (g2, (Q.S.cells Q.z0)), (g1, (Q.S.cells (Qx.s s)))]) (fun w h => (arithmetic_any w).mono fun e w1 ⟨g, he, hm, hb⟩ => ⟨g, trivial, he, Q.hp_map h hb hm (by kernel_rfl)⟩) (fun w _ => by kernel_rfl) (by kernel_rfl) (fun g11 _ => E.H.back (fun w h => A.hq [0, 1, 2, 3, 4, 5] [6] (h.monoX fun _ k => k.1)) (E.al 3 rfl (E.vl (.tuple #[E.i ((Q.ar i.op).1), .bool ((Q.ar i.op).2)]) (fun w h => E.lookup (by kernel_rfl) (by kernel_rfl) (Q.ar_look h.x.2 _)) ?_)))))))))))
  refine E.G.monoX (fun _ k => k.1) (E.H.back (fun w h => A.hq [0, 1, 2, 3, 4, 5] [6] h) (E.tk 4 (.tuple #[E.i ((Q.ar i.op).1), .bool ((Q.ar i.op).2)]) rfl (fun w h => A.hq [0, 1, 2, 3, 4, 5] [6] h) (E.tk 5 (E.i ((Q.ar i.op).1)) rfl (fun w h => A.hq [0, 1, 2, 3, 4, 5] [6] h) (E.tk 6 (.bool ((Q.ar i.op).2)) rfl (fun w h => A.hq [0, 1, 2, 3, 4, 5] [6] h) (E.tk 7 (E.i ((Q.ar i.op).1)) rfl (fun w h => A.hq [0, 1, 2, 3, 4, 5] [6] h) (E.tk 8 (.bool ((Q.ar i.op).2)) rfl (fun w h => A.hq [0, 1, 2, 3, 4, 5] [6] h) (E.H.done (by kernel_rfl) (E.To.code (E.C.seq (E.C.block (E.sr ?_)))))))))))
  refine E.op (E.pt g4) (E.li (E.i i.op) 2 rfl rfl (E.op (.bool (i.op == 10)) (E.op (.bool (i.op == 10)) (E.G.cut 3 [(1, .iface 36 (E.pt m)), (2, E.pt g1), (4, E.pt g2), (5, E.pt g3), (6, E.pt g4), (7, E.pt g5), (8, E.pt g8), (9, E.u (Qx.d s i)), (10, E.u (Qx.a s i)), (11, E.u (bif (decide (i.op ≥ 16)) then i.imm else (Qx.b s i))), (12, E.u (Qx.p s)), (13, E.u (IntKind.wrap .u32 (s.pc + (IntKind.wrap .u32 (4 * i.imm))))), (14, E.i ((Q.ar i.op).1)), (15, .bool ((Q.ar i.op).2)), (79, .bool ((i.op == 10) && ((bif (decide (i.op ≥ 16)) then i.imm else (Qx.b s i)) == 0)))] (A.X w oo aa [M.It m V xs]) [(g8, (Q.S.cells s)), (g5, [E.i ((Q.stop i).1), E.u ((Q.stop i).2)]), (g4, [E.i i.op, E.i i.d, E.i i.a, E.i i.b, E.u i.imm]), (g3, [E.i 0, E.u 0]), (g2, (Q.S.cells Q.z0)), (g1, (Q.S.cells (Qx.s s)))] ?_ ?_))))
  ·
   generalize hc12 : (i.op == 10) = b13
   cases b13
   ·
    exact E.sk (E.sk (E.op (.bool false) (E.G.end_pst ⟨by kernel_rfl, by kernel_rfl⟩ Nz.sub (fun _ h => h))))
   exact E.op (E.u (bif (decide (i.op ≥ 16)) then i.imm else (Qx.b s i))) (E.op (.bool ((bif (decide (i.op ≥ 16)) then i.imm else (Qx.b s i)) == 0)) (E.op (.bool ((bif (decide (i.op ≥ 16)) then i.imm else (Qx.b s i)) == 0)) (E.G.end_pst ⟨by kernel_rfl, by kernel_rfl⟩ Nz.sub (fun _ h => h))))
  refine E.op (.bool ((i.op == 10) && ((bif (decide (i.op ≥ 16)) then i.imm else (Qx.b s i)) == 0))) (E.To.code (E.cd ((i.op == 10) && ((bif (decide (i.op ≥ 16)) then i.imm else ((Q.up s.r 0 0) ((i.b).toNat))) == 0)) (fun hc14 => ?_) (fun hc14 => ?_)))
  ·
   refine E.C.region (E.op (E.pt g5) (E.st 1 [E.i 6, E.u ((Q.stop i).2)] rfl rfl (E.P.nb (E.To.code (E.wk [(2, E.pt g1), (4, E.pt g2), (5, E.pt g3), (7, E.pt g5), (8, E.pt g8), (12, E.u (Qx.p s))] [(g8, (Q.S.cells s)), (g5, [E.i 6, E.u ((Q.stop i).2)]), (g3, [E.i 0, E.u 0]), (g2, (Q.S.cells Q.z0)), (g1, (Q.S.cells (Qx.s s)))] Nz.sub (E.C.seq (E.sr (E.op (E.pt g5) (E.li (E.i 6) 1 rfl rfl (E.op (.bool true) (E.To.code (E.C.condT (by kernel_rfl) (by kernel_rfl) ?_))))))))))))
   refine E.C.seq (E.C.held (E.Hp (oo) w (A.X w oo aa [M.It m V xs]) [(g8, (Q.S.cells s)), (g5, [E.i 6, E.u ((Q.stop i).2)]), (g1, (Q.S.cells (Qx.s s)))]) (by kernel_rfl) (E.tj 0 (Q.S.val s) rfl (fun w h => h.less Nz.sub) (fun w h => E.run_load h 0 rfl rfl (by kernel_rfl)) (E.tj 1 (.agg #[E.i 6, E.u ((Q.stop i).2)]) rfl (fun w h => h.less Nz.sub) (fun w h => E.run_load h 1 rfl rfl (by kernel_rfl)) (E.al 2 rfl (E.st 3 (Q.S.cells s) rfl rfl (E.H.back (fun w h => h.less Nz.sub) (E.al 3 rfl (E.st 2 [E.i 6, E.u ((Q.stop i).2)] rfl rfl (E.H.back (fun w h => h.less Nz.sub) (E.H.done (by kernel_rfl) (E.To.code ?_)))))))))))
   refine E.C.ret (E.P.rt (E.To.body (fn := Tryz.f17) [Q.S.val s, .agg #[E.i 6, E.u ((Q.stop i).2)]] ?_ ?_))
   · exact ⟨⟨by kernel_rfl, _, _, 3, _, rfl, rfl, by kernel_rfl⟩, ⟨by kernel_rfl, _, _, 2, _, rfl, rfl, by kernel_rfl⟩, trivial⟩
   intro w h
   have e : (Q.stepI i k t s V) = (s, 6, (Q.stop i).2, V) := by unfold Q.stepI; rw [hc6, cond_true, hc7, cond_false, hc14, cond_true] <;> rfl
   rw [e]
   exact ⟨(), trivial, rfl, A.dq [5] [0, 1, 2, 3, 4] h⟩
  refine E.sr (E.op (.bool ((Q.ar i.op).2)) (E.op (.bool ((Q.ar i.op).2)) (E.To.code (E.cd ((Q.ar i.op).2) (fun hc15 => ?_) (fun hc15 => ?_)))))
  ·
   refine E.C.held (E.Hp (oo) w (A.X w oo aa [M.It m V xs]) [(g8, (Q.S.cells s)), (g5, [E.i ((Q.stop i).1), E.u ((Q.stop i).2)]), (g4, [E.i i.op, E.i i.d, E.i i.a, E.i i.b, E.u i.imm]), (g3, [E.i 0, E.u 0]), (g2, (Q.S.cells Q.z0))]) (by kernel_rfl) (E.tk 0 (.pointer (some ⟨g4, 1, none⟩)) rfl (fun w h => h.less Nz.sub) (E.tj 1 (E.i i.d) rfl (fun w h => h.less Nz.sub) (fun w h => E.run_load h 2 rfl rfl (by kernel_rfl)) (E.tk 2 (E.i ((Q.ar i.op).1)) rfl (fun w h => h.less Nz.sub) (E.tk 3 (E.u (Qx.a s i)) rfl (fun w h => h.less Nz.sub) (E.tk 4 (E.u (bif (decide (i.op ≥ 16)) then i.imm else (Qx.b s i))) rfl (fun w h => h.less Nz.sub) (E.tk 6 (.pointer (some ⟨g1, 1, none⟩)) rfl (fun w h => h.less Nz.sub) (E.al 5 rfl (E.G.call (E.u (W.op ((Q.ar i.op).1) (Qx.a s i) (bif (decide (i.op ≥ 16)) then i.imm else (Qx.b s i)))) (fun w h => Op_all ((Q.ar i.op).1) (Qx.a s i) (bif (decide (i.op ≥ 16)) then i.imm else (Qx.b s i)) (Q.up_bd hs.r (by decide) _) (Q.bif_bd (hi hc6).imm (Q.up_bd hs.r (by decide) _)) w) (fun w _ => by kernel_rfl) (by kernel_rfl) (E.H.back (fun w h => h.less Nz.sub) (E.tj 7 (.pointer (some ⟨g1, 1 + (i.d).toNat, none⟩)) rfl (fun w h => h.less Nz.sub) (fun w h => E.idxI (e := 24) g1 1 16 .i64 i.d (by kernel_rfl) (by kernel_rfl) (by kernel_rfl) (by kernel_rfl) (by have := (hi hc6).d; omega) w) (E.al 8 rfl ?_)))))))))))
   refine E.G.store 5 (Q.S.cells (⟨s.pc, (Q.up (Qx.u s) (i.d).toNat (W.op ((Q.ar i.op).1) (Qx.a s i) (bif (decide (i.op ≥ 16)) then i.imm else (Qx.b s i)))), s.f, s.c, s.st, s.du⟩)) rfl rfl (Q.sto_r (s := (Qx.s s)) (by kernel_rfl) (by have := (by have := (hi hc6).d; omega); omega)) (by kernel_rfl) (E.H.back (fun w h => h.less Nz.sub) (E.H.done (by kernel_rfl) (E.P.nb (E.To.code (E.wk [(2, E.pt g1), (4, E.pt g2), (5, E.pt g3), (7, E.pt g5), (8, E.pt g8), (12, E.u (Qx.p s))] [(g8, (Q.S.cells s)), (g5, [E.i ((Q.stop i).1), E.u ((Q.stop i).2)]), (g3, [E.i 0, E.u 0]), (g2, (Q.S.cells Q.z0)), (g1, (Q.S.cells (⟨s.pc, (Q.up (Qx.u s) (i.d).toNat (W.op ((Q.ar i.op).1) (Qx.a s i) (bif (decide (i.op ≥ 16)) then i.imm else (Qx.b s i)))), s.f, s.c, s.st, s.du⟩)))] Nz.sub (E.C.seq (E.sr (E.op (E.pt g5) (E.li (E.i ((Q.stop i).1)) 1 rfl rfl (E.op (.bool (((Q.stop i).1) != 0)) (E.To.code (E.cd (((Q.stop i).1) != 0) (fun hc16 => absurd (hc7.symm.trans hc16) (by decide)) (fun hc16 => ?_)))))))))))))
   refine E.C.skip (E.To.code (E.sr (E.op (.pointer (some ⟨g1, 1, none⟩)) (E.op (.pointer (some ⟨g1, 1, none⟩)) (E.st 4 (Q.S.cells (⟨s.pc, (Q.up (Q.up (Qx.u s) (i.d).toNat (W.op ((Q.ar i.op).1) (Qx.a s i) (bif (decide (i.op ≥ 16)) then i.imm else (Qx.b s i)))) 0 0), s.f, s.c, s.st, s.du⟩)) rfl rfl (E.tr (E.op (E.u (Qx.p s)) (E.op (E.pt g1) (E.st 4 (Q.S.cells (⟨(Qx.p s), (Q.up (Q.up (Qx.u s) (i.d).toNat (W.op ((Q.ar i.op).1) (Qx.a s i) (bif (decide (i.op ≥ 16)) then i.imm else (Qx.b s i)))) 0 0), s.f, s.c, s.st, s.du⟩)) rfl rfl (E.To.code (E.wk [(2, E.pt g1), (4, E.pt g2), (5, E.pt g3), (7, E.pt g5)] [(g5, [E.i ((Q.stop i).1), E.u ((Q.stop i).2)]), (g3, [E.i 0, E.u 0]), (g2, (Q.S.cells Q.z0)), (g1, (Q.S.cells (⟨(Qx.p s), (Q.up (Q.up (Qx.u s) (i.d).toNat (W.op ((Q.ar i.op).1) (Qx.a s i) (bif (decide (i.op ≥ 16)) then i.imm else (Qx.b s i)))) 0 0), s.f, s.c, s.st, s.du⟩)))] Nz.sub (E.sr ?_))))))))))))
   refine E.op (.pointer (some ⟨g1, 22, none⟩)) (E.li (E.i s.st) 3 rfl rfl (E.op (E.i (Qx.t s)) (E.op (.pointer (some ⟨g1, 22, none⟩)) (E.st 3 (Q.S.cells (⟨(Qx.p s), (Q.up (Q.up (Qx.u s) (i.d).toNat (W.op ((Q.ar i.op).1) (Qx.a s i) (bif (decide (i.op ≥ 16)) then i.imm else (Qx.b s i)))) 0 0), s.f, s.c, (Qx.t s), s.du⟩)) rfl rfl (E.To.code (E.C.seq (E.C.held (E.Hp (oo) w (A.X w oo aa [M.It m V xs]) [(g5, [E.i ((Q.stop i).1), E.u ((Q.stop i).2)]), (g1, (Q.S.cells (⟨(Qx.p s), (Q.up (Q.up (Qx.u s) (i.d).toNat (W.op ((Q.ar i.op).1) (Qx.a s i) (bif (decide (i.op ≥ 16)) then i.imm else (Qx.b s i)))) 0 0), s.f, s.c, (Qx.t s), s.du⟩)))]) (by kernel_rfl) (E.tj 0 (Q.S.val (⟨(Qx.p s), (Q.up (Q.up (Qx.u s) (i.d).toNat (W.op ((Q.ar i.op).1) (Qx.a s i) (bif (decide (i.op ≥ 16)) then i.imm else (Qx.b s i)))) 0 0), s.f, s.c, (Qx.t s), s.du⟩)) rfl (fun w h => h.less Nz.sub) (fun w h => E.run_load h 1 rfl rfl (by kernel_rfl)) (E.tj 1 (.agg #[E.i ((Q.stop i).1), E.u ((Q.stop i).2)]) rfl (fun w h => h.less Nz.sub) (fun w h => E.run_load h 0 rfl rfl (by kernel_rfl)) (E.al 2 rfl (E.st 2 (Q.S.cells (⟨(Qx.p s), (Q.up (Q.up (Qx.u s) (i.d).toNat (W.op ((Q.ar i.op).1) (Qx.a s i) (bif (decide (i.op ≥ 16)) then i.imm else (Qx.b s i)))) 0 0), s.f, s.c, (Qx.t s), s.du⟩)) rfl rfl ?_)))))))))))
   refine E.H.back (fun w h => h.less Nz.sub) (E.al 3 rfl (E.st 1 [E.i ((Q.stop i).1), E.u ((Q.stop i).2)] rfl rfl (E.H.back (fun w h => h.less Nz.sub) (E.H.done (by kernel_rfl) (E.To.code (E.wk [(4, E.pt g2), (5, E.pt g3)] [(g3, [E.i ((Q.stop i).1), E.u ((Q.stop i).2)]), (g2, (Q.S.cells (⟨(Qx.p s), (Q.up (Q.up (Qx.u s) (i.d).toNat (W.op ((Q.ar i.op).1) (Qx.a s i) (bif (decide (i.op ≥ 16)) then i.imm else (Qx.b s i)))) 0 0), s.f, s.c, (Qx.t s), s.du⟩)))] Nz.sub (E.C.ret (E.To.body (fn := Tryz.f17) [Q.S.val (⟨(Qx.p s), (Q.up (Q.up (Qx.u s) (i.d).toNat (W.op ((Q.ar i.op).1) (Qx.a s i) (bif (decide (i.op ≥ 16)) then i.imm else (Qx.b s i)))) 0 0), s.f, s.c, (Qx.t s), s.du⟩), .agg #[E.i ((Q.stop i).1), E.u ((Q.stop i).2)]] ?_ ?_))))))))
   · exact ⟨⟨by kernel_rfl, _, _, 1, _, rfl, rfl, by kernel_rfl⟩, ⟨by kernel_rfl, _, _, 0, _, rfl, rfl, by kernel_rfl⟩, trivial⟩
   intro w h
   have e : (Q.stepI i k t s V) = (⟨(Qx.p s), (Q.up (Q.up (Qx.u s) (i.d).toNat (W.op ((Q.ar i.op).1) (Qx.a s i) (bif (decide (i.op ≥ 16)) then i.imm else (Qx.b s i)))) 0 0), s.f, s.c, (Qx.t s), s.du⟩, (Q.stop i).1, (Q.stop i).2, V) := by unfold Q.stepI; rw [hc6, cond_true, hc7, cond_false, hc14, cond_false, hc15, cond_true] <;> rfl
   rw [e]
   exact ⟨(), trivial, rfl, A.dq [2] [0, 1] h⟩
  refine E.sr (E.op (E.pt g4) (E.li (E.i i.op) 2 rfl rfl (E.op (.bool (i.op == 23)) (E.op (.bool (i.op == 23)) (E.G.cut 4 [(1, .iface 36 (E.pt m)), (2, E.pt g1), (4, E.pt g2), (5, E.pt g3), (6, E.pt g4), (7, E.pt g5), (8, E.pt g8), (9, E.u (Qx.d s i)), (10, E.u (Qx.a s i)), (12, E.u (Qx.p s)), (13, E.u (IntKind.wrap .u32 (s.pc + (IntKind.wrap .u32 (4 * i.imm))))), (99, .bool ((i.op == 23) || (i.op == 24)))] (A.X w oo aa [M.It m V xs]) [(g8, (Q.S.cells s)), (g5, [E.i ((Q.stop i).1), E.u ((Q.stop i).2)]), (g4, [E.i i.op, E.i i.d, E.i i.a, E.i i.b, E.u i.imm]), (g3, [E.i 0, E.u 0]), (g2, (Q.S.cells Q.z0)), (g1, (Q.S.cells (Qx.s s)))] ?_ ?_)))))
  ·
   generalize hc17 : (i.op == 23) = b18
   cases b18
   ·
    exact E.op (E.pt g4) (E.li (E.i i.op) 2 rfl rfl (E.op (.bool (i.op == 24)) (E.op (.bool (i.op == 24)) (E.G.end_pst ⟨by kernel_rfl, by kernel_rfl⟩ Nz.sub (fun _ h => h)))))
   exact E.sk (E.sk (E.sk (E.op (.bool true) (E.G.end_pst ⟨by kernel_rfl, by kernel_rfl⟩ Nz.sub (fun _ h => h)))))
  refine E.op (.bool ((i.op == 23) || (i.op == 24))) (E.To.code (E.cd ((i.op == 23) || (i.op == 24)) (fun hc19 => ?_) (fun hc19 => ?_)))
  ·
   refine E.C.held (A.Y [A.blk g8 (Q.S.cells s), A.blk g4 ([E.i i.op, E.i i.d, E.i i.a, E.i i.b, E.u i.imm]), A.blk g3 ([E.i 0, E.u 0]), A.blk g2 (Q.S.cells Q.z0)]) (by kernel_rfl) (E.tk 0 (.pointer (some ⟨g4, 1, none⟩)) rfl (fun w h => A.hq [0, 2, 3, 4] [1, 5, 6] h) (E.tj 1 (E.i i.d) rfl (fun w h => A.hq [0, 2, 3, 4] [1, 5, 6] h) (fun w h => A.Y.bld h (k := 1) (j := 1) rfl (by kernel_rfl) (by kernel_rfl)) (E.tj 2 (.agg #[E.i i.op, E.i i.d, E.i i.a, E.i i.b, E.u i.imm]) rfl (fun w h => A.hq [0, 2, 3, 4] [1, 5, 6] h) (fun w h => A.Y.bld h (k := 1) (j := 0) rfl (by kernel_rfl) (by kernel_rfl)) (E.tk 3 (E.u (Qx.a s i)) rfl (fun w h => A.hq [0, 2, 3, 4] [1, 5, 6] h) (E.tk 4 (.pointer (some ⟨g4, 4, none⟩)) rfl (fun w h => A.hq [0, 2, 3, 4] [1, 5, 6] h) (E.tj 5 (E.u i.imm) rfl (fun w h => A.hq [0, 2, 3, 4] [1, 5, 6] h) (fun w h => A.Y.bld h (k := 1) (j := 4) rfl (by kernel_rfl) (by kernel_rfl)) (E.tk 6 (E.u (Qx.x s i)) rfl (fun w h => A.hq [0, 2, 3, 4] [1, 5, 6] h) (E.tk 7 (E.u (Qx.d s i)) rfl (fun w h => A.hq [0, 2, 3, 4] [1, 5, 6] h) (E.tk 8 (.iface 36 (E.pt m)) rfl (fun w h => A.hq [0, 2, 3, 4] [1, 5, 6] h) (E.tk 13 (.pointer (some ⟨g1, 1, none⟩)) rfl (fun w h => A.hq [0, 2, 3, 4] [1, 5, 6] h) (E.al 9 rfl ?_)))))))))))
   refine A.G.call (I := Unit) (D := fun _ => True) (V := fun _ => .tuple #[E.u ((Q.acc i V (Qx.x s i) (Qx.d s i)).1), .agg #[E.i ((Q.acc i V (Qx.x s i) (Qx.d s i)).2.1), E.u ((Q.acc i V (Qx.x s i) (Qx.d s i)).2.2.1)]]) (q := fun _ => [M.It m ((Q.acc i V (Qx.x s i) (Qx.d s i)).2.2.2) xs]) [A.blk g8 (Q.S.cells s), A.blk g5 ([E.i ((Q.stop i).1), E.u ((Q.stop i).2)]), A.blk g4 ([E.i i.op, E.i i.d, E.i i.a, E.i i.b, E.u i.imm]), A.blk g3 ([E.i 0, E.u 0]), A.blk g2 (Q.S.cells Q.z0), A.blk g1 (Q.S.cells (Qx.s s))] (fun _ => [(g8, (Q.S.cells s)), (g5, [E.i ((Q.stop i).1), E.u ((Q.stop i).2)]), (g4, [E.i i.op, E.i i.d, E.i i.a, E.i i.b, E.u i.imm]), (g3, [E.i 0, E.u 0]), (g2, (Q.S.cells Q.z0)), (g1, (Q.S.cells (Qx.s s)))]) (fun _ => [M.It m ((Q.acc i V (Qx.x s i) (Qx.d s i)).2.2.2) xs]) (Access (m := m) (xs := xs) i V (Qx.x s i) (Qx.d s i) (Q.wrap_bd _)) (by kernel_rfl) (A.pn [6, 0, 1, 2, 3, 4, 5]) (fun _ => A.pm [1, 2, 3, 4, 5, 6, 0] (by kernel_rfl) (by kernel_rfl)) (fun w _ => by kernel_rfl) (by kernel_rfl) (fun _ hd20 => E.H.back (fun w h => A.hq [0, 2, 3, 4] [1, 5, 6] h) (E.tk 10 (.tuple #[E.u ((Q.acc i V (Qx.x s i) (Qx.d s i)).1), .agg #[E.i ((Q.acc i V (Qx.x s i) (Qx.d s i)).2.1), E.u ((Q.acc i V (Qx.x s i) (Qx.d s i)).2.2.1)]]) rfl (fun w h => A.hq [0, 2, 3, 4] [1, 5, 6] h) (E.tk 11 (E.u ((Q.acc i V (Qx.x s i) (Qx.d s i)).1)) rfl (fun w h => A.hq [0, 2, 3, 4] [1, 5, 6] h) (E.tk 12 (.agg #[E.i ((Q.acc i V (Qx.x s i) (Qx.d s i)).2.1), E.u ((Q.acc i V (Qx.x s i) (Qx.d s i)).2.2.1)]) rfl (fun w h => A.hq [0, 2, 3, 4] [1, 5, 6] h) (E.tj 14 (.pointer (some ⟨g1, 1 + (i.d).toNat, none⟩)) rfl (fun w h => A.hq [0, 2, 3, 4] [1, 5, 6] h) (fun w h => E.idxI (e := 24) g1 1 16 .i64 i.d (by kernel_rfl) (by kernel_rfl) (by kernel_rfl) (by kernel_rfl) (by have := (hi hc6).d; omega) w) (E.al 15 rfl (E.G.store 5 (Q.S.cells (⟨s.pc, (Q.up (Qx.u s) (i.d).toNat ((Q.acc i V (Qx.x s i) (Qx.d s i)).1)), s.f, s.c, s.st, s.du⟩)) rfl rfl (Q.sto_r (s := (Qx.s s)) (by kernel_rfl) (by have := (by have := (hi hc6).d; omega); omega)) (by kernel_rfl) (E.H.back (fun w h => A.hq [0, 2, 3, 4] [1, 5, 6] h) (E.al 16 rfl (E.st 1 [E.i ((Q.acc i V (Qx.x s i) (Qx.d s i)).2.1), E.u ((Q.acc i V (Qx.x s i) (Qx.d s i)).2.2.1)] rfl rfl (E.H.back (fun w h => A.hq [0, 2, 3, 4] [1, 5, 6] h) ?_)))))))))))
   refine E.H.done (by kernel_rfl) (E.P.nb (E.To.code (E.wk [(2, E.pt g1), (4, E.pt g2), (5, E.pt g3), (7, E.pt g5), (8, E.pt g8), (12, E.u (Qx.p s))] [(g8, (Q.S.cells s)), (g5, [E.i ((Q.acc i V (Qx.x s i) (Qx.d s i)).2.1), E.u ((Q.acc i V (Qx.x s i) (Qx.d s i)).2.2.1)]), (g3, [E.i 0, E.u 0]), (g2, (Q.S.cells Q.z0)), (g1, (Q.S.cells (⟨s.pc, (Q.up (Qx.u s) (i.d).toNat ((Q.acc i V (Qx.x s i) (Qx.d s i)).1)), s.f, s.c, s.st, s.du⟩)))] Nz.sub (E.C.seq (E.sr (E.op (E.pt g5) (E.li (E.i ((Q.acc i V (Qx.x s i) (Qx.d s i)).2.1)) 1 rfl rfl (E.op (.bool (((Q.acc i V (Qx.x s i) (Qx.d s i)).2.1) != 0)) (E.To.code (E.cd (((Q.acc i V (IntKind.wrap .u32 (((Q.up s.r 0 0) ((i.a).toNat)) + i.imm)) ((Q.up s.r 0 0) ((i.d).toNat))).2.1) != 0) (fun hc21 => ?_) (fun hc21 => ?_)))))))))))
   ·
    refine E.C.seq (E.C.held (E.Hp (oo) w (A.X w oo aa [M.It m ((Q.acc i V (Qx.x s i) (Qx.d s i)).2.2.2) xs]) [(g8, (Q.S.cells s)), (g5, [E.i ((Q.acc i V (Qx.x s i) (Qx.d s i)).2.1), E.u ((Q.acc i V (Qx.x s i) (Qx.d s i)).2.2.1)]), (g1, (Q.S.cells (⟨s.pc, (Q.up (Qx.u s) (i.d).toNat ((Q.acc i V (Qx.x s i) (Qx.d s i)).1)), s.f, s.c, s.st, s.du⟩)))]) (by kernel_rfl) (E.tj 0 (Q.S.val s) rfl (fun w h => h.less Nz.sub) (fun w h => E.run_load h 0 rfl rfl (by kernel_rfl)) (E.tj 1 (.agg #[E.i ((Q.acc i V (Qx.x s i) (Qx.d s i)).2.1), E.u ((Q.acc i V (Qx.x s i) (Qx.d s i)).2.2.1)]) rfl (fun w h => h.less Nz.sub) (fun w h => E.run_load h 1 rfl rfl (by kernel_rfl)) (E.al 2 rfl (E.st 3 (Q.S.cells s) rfl rfl (E.H.back (fun w h => h.less Nz.sub) (E.al 3 rfl (E.st 2 [E.i ((Q.acc i V (Qx.x s i) (Qx.d s i)).2.1), E.u ((Q.acc i V (Qx.x s i) (Qx.d s i)).2.2.1)] rfl rfl (E.H.back (fun w h => h.less Nz.sub) (E.H.done (by kernel_rfl) (E.To.code ?_)))))))))))
    refine E.C.ret (E.P.rt (E.To.body (fn := Tryz.f17) [Q.S.val s, .agg #[E.i ((Q.acc i V (Qx.x s i) (Qx.d s i)).2.1), E.u ((Q.acc i V (Qx.x s i) (Qx.d s i)).2.2.1)]] ?_ ?_))
    · exact ⟨⟨by kernel_rfl, _, _, 3, _, rfl, rfl, by kernel_rfl⟩, ⟨by kernel_rfl, _, _, 2, _, rfl, rfl, by kernel_rfl⟩, trivial⟩
    intro w h
    have e : (Q.stepI i k t s V) = (s, (Q.acc i V (Qx.x s i) (Qx.d s i)).2.1, (Q.acc i V (Qx.x s i) (Qx.d s i)).2.2.1, (Q.acc i V (Qx.x s i) (Qx.d s i)).2.2.2) := by unfold Q.stepI; rw [hc6, cond_true, hc7, cond_false, hc14, cond_false, hc15, cond_false, hc19, cond_true, hc21, cond_true] <;> rfl
    rw [e]
    exact ⟨(), trivial, rfl, A.dq [5] [0, 1, 2, 3, 4] h⟩
   refine E.C.skip (E.To.code (E.sr (E.op (.pointer (some ⟨g1, 1, none⟩)) (E.op (.pointer (some ⟨g1, 1, none⟩)) (E.st 4 (Q.S.cells (⟨s.pc, (Q.up (Q.up (Qx.u s) (i.d).toNat ((Q.acc i V (Qx.x s i) (Qx.d s i)).1)) 0 0), s.f, s.c, s.st, s.du⟩)) rfl rfl (E.tr (E.op (E.u (Qx.p s)) (E.op (E.pt g1) (E.st 4 (Q.S.cells (⟨(Qx.p s), (Q.up (Q.up (Qx.u s) (i.d).toNat ((Q.acc i V (Qx.x s i) (Qx.d s i)).1)) 0 0), s.f, s.c, s.st, s.du⟩)) rfl rfl (E.To.code (E.wk [(2, E.pt g1), (4, E.pt g2), (5, E.pt g3), (7, E.pt g5)] [(g5, [E.i ((Q.acc i V (Qx.x s i) (Qx.d s i)).2.1), E.u ((Q.acc i V (Qx.x s i) (Qx.d s i)).2.2.1)]), (g3, [E.i 0, E.u 0]), (g2, (Q.S.cells Q.z0)), (g1, (Q.S.cells (⟨(Qx.p s), (Q.up (Q.up (Qx.u s) (i.d).toNat ((Q.acc i V (Qx.x s i) (Qx.d s i)).1)) 0 0), s.f, s.c, s.st, s.du⟩)))] Nz.sub (E.sr ?_))))))))))))
   refine E.op (.pointer (some ⟨g1, 22, none⟩)) (E.li (E.i s.st) 3 rfl rfl (E.op (E.i (Qx.t s)) (E.op (.pointer (some ⟨g1, 22, none⟩)) (E.st 3 (Q.S.cells (⟨(Qx.p s), (Q.up (Q.up (Qx.u s) (i.d).toNat ((Q.acc i V (Qx.x s i) (Qx.d s i)).1)) 0 0), s.f, s.c, (Qx.t s), s.du⟩)) rfl rfl (E.To.code (E.C.seq (E.C.held (E.Hp (oo) w (A.X w oo aa [M.It m ((Q.acc i V (Qx.x s i) (Qx.d s i)).2.2.2) xs]) [(g5, [E.i ((Q.acc i V (Qx.x s i) (Qx.d s i)).2.1), E.u ((Q.acc i V (Qx.x s i) (Qx.d s i)).2.2.1)]), (g1, (Q.S.cells (⟨(Qx.p s), (Q.up (Q.up (Qx.u s) (i.d).toNat ((Q.acc i V (Qx.x s i) (Qx.d s i)).1)) 0 0), s.f, s.c, (Qx.t s), s.du⟩)))]) (by kernel_rfl) (E.tj 0 (Q.S.val (⟨(Qx.p s), (Q.up (Q.up (Qx.u s) (i.d).toNat ((Q.acc i V (Qx.x s i) (Qx.d s i)).1)) 0 0), s.f, s.c, (Qx.t s), s.du⟩)) rfl (fun w h => h.less Nz.sub) (fun w h => E.run_load h 1 rfl rfl (by kernel_rfl)) (E.tj 1 (.agg #[E.i ((Q.acc i V (Qx.x s i) (Qx.d s i)).2.1), E.u ((Q.acc i V (Qx.x s i) (Qx.d s i)).2.2.1)]) rfl (fun w h => h.less Nz.sub) (fun w h => E.run_load h 0 rfl rfl (by kernel_rfl)) (E.al 2 rfl (E.st 2 (Q.S.cells (⟨(Qx.p s), (Q.up (Q.up (Qx.u s) (i.d).toNat ((Q.acc i V (Qx.x s i) (Qx.d s i)).1)) 0 0), s.f, s.c, (Qx.t s), s.du⟩)) rfl rfl ?_)))))))))))
   refine E.H.back (fun w h => h.less Nz.sub) (E.al 3 rfl (E.st 1 [E.i ((Q.acc i V (Qx.x s i) (Qx.d s i)).2.1), E.u ((Q.acc i V (Qx.x s i) (Qx.d s i)).2.2.1)] rfl rfl (E.H.back (fun w h => h.less Nz.sub) (E.H.done (by kernel_rfl) (E.To.code (E.wk [(4, E.pt g2), (5, E.pt g3)] [(g3, [E.i ((Q.acc i V (Qx.x s i) (Qx.d s i)).2.1), E.u ((Q.acc i V (Qx.x s i) (Qx.d s i)).2.2.1)]), (g2, (Q.S.cells (⟨(Qx.p s), (Q.up (Q.up (Qx.u s) (i.d).toNat ((Q.acc i V (Qx.x s i) (Qx.d s i)).1)) 0 0), s.f, s.c, (Qx.t s), s.du⟩)))] Nz.sub (E.C.ret (E.To.body (fn := Tryz.f17) [Q.S.val (⟨(Qx.p s), (Q.up (Q.up (Qx.u s) (i.d).toNat ((Q.acc i V (Qx.x s i) (Qx.d s i)).1)) 0 0), s.f, s.c, (Qx.t s), s.du⟩), .agg #[E.i ((Q.acc i V (Qx.x s i) (Qx.d s i)).2.1), E.u ((Q.acc i V (Qx.x s i) (Qx.d s i)).2.2.1)]] ?_ ?_))))))))
   · exact ⟨⟨by kernel_rfl, _, _, 1, _, rfl, rfl, by kernel_rfl⟩, ⟨by kernel_rfl, _, _, 0, _, rfl, rfl, by kernel_rfl⟩, trivial⟩
   intro w h
   have e : (Q.stepI i k t s V) = (⟨(Qx.p s), (Q.up (Q.up (Qx.u s) (i.d).toNat ((Q.acc i V (Qx.x s i) (Qx.d s i)).1)) 0 0), s.f, s.c, (Qx.t s), s.du⟩, (Q.acc i V (Qx.x s i) (Qx.d s i)).2.1, (Q.acc i V (Qx.x s i) (Qx.d s i)).2.2.1, (Q.acc i V (Qx.x s i) (Qx.d s i)).2.2.2) := by unfold Q.stepI; rw [hc6, cond_true, hc7, cond_false, hc14, cond_false, hc15, cond_false, hc19, cond_true, hc21, cond_false] <;> rfl
   rw [e]
   exact ⟨(), trivial, rfl, A.dq [2] [0, 1] h⟩
  refine E.sr (E.op (E.pt g4) (E.li (E.i i.op) 2 rfl rfl (E.op (.bool (i.op == 25)) (E.op (.bool (i.op == 25)) (E.G.cut 4 [(1, .iface 36 (E.pt m)), (2, E.pt g1), (4, E.pt g2), (5, E.pt g3), (6, E.pt g4), (7, E.pt g5), (8, E.pt g8), (9, E.u (Qx.d s i)), (10, E.u (Qx.a s i)), (12, E.u (Qx.p s)), (13, E.u (IntKind.wrap .u32 (s.pc + (IntKind.wrap .u32 (4 * i.imm))))), (123, .bool ((i.op == 25) || (i.op == 26)))] (A.X w oo aa [M.It m V xs]) [(g8, (Q.S.cells s)), (g5, [E.i ((Q.stop i).1), E.u ((Q.stop i).2)]), (g4, [E.i i.op, E.i i.d, E.i i.a, E.i i.b, E.u i.imm]), (g3, [E.i 0, E.u 0]), (g2, (Q.S.cells Q.z0)), (g1, (Q.S.cells (Qx.s s)))] ?_ ?_)))))
  ·
   generalize hc22 : (i.op == 25) = b23
   cases b23
   ·
    exact E.op (E.pt g4) (E.li (E.i i.op) 2 rfl rfl (E.op (.bool (i.op == 26)) (E.op (.bool (i.op == 26)) (E.G.end_pst ⟨by kernel_rfl, by kernel_rfl⟩ Nz.sub (fun _ h => h)))))
   exact E.sk (E.sk (E.sk (E.op (.bool true) (E.G.end_pst ⟨by kernel_rfl, by kernel_rfl⟩ Nz.sub (fun _ h => h)))))
  refine E.op (.bool ((i.op == 25) || (i.op == 26))) (E.To.code (E.cd ((i.op == 25) || (i.op == 26)) (fun hc24 => ?_) (fun hc24 => ?_)))
  ·
   refine E.C.region (E.li (.agg #[E.i i.op, E.i i.d, E.i i.a, E.i i.b, E.u i.imm]) 2 rfl rfl (E.op (E.u (Qx.a s i)) (E.op (.pointer (some ⟨g4, 4, none⟩)) (E.li (E.u i.imm) 2 rfl rfl (E.op (E.u (Qx.x s i)) (E.op (E.u (Qx.d s i)) (E.op (.iface 36 (E.pt m)) (A.G.call (I := Unit) (D := fun _ => True) (V := fun _ => .tuple #[E.u ((Q.acc i V (Qx.x s i) (Qx.d s i)).1), .agg #[E.i ((Q.acc i V (Qx.x s i) (Qx.d s i)).2.1), E.u ((Q.acc i V (Qx.x s i) (Qx.d s i)).2.2.1)]]) (q := fun _ => [M.It m ((Q.acc i V (Qx.x s i) (Qx.d s i)).2.2.2) xs]) [A.blk g8 (Q.S.cells s), A.blk g5 ([E.i ((Q.stop i).1), E.u ((Q.stop i).2)]), A.blk g4 ([E.i i.op, E.i i.d, E.i i.a, E.i i.b, E.u i.imm]), A.blk g3 ([E.i 0, E.u 0]), A.blk g2 (Q.S.cells Q.z0), A.blk g1 (Q.S.cells (Qx.s s))] (fun _ => [(g8, (Q.S.cells s)), (g5, [E.i ((Q.stop i).1), E.u ((Q.stop i).2)]), (g4, [E.i i.op, E.i i.d, E.i i.a, E.i i.b, E.u i.imm]), (g3, [E.i 0, E.u 0]), (g2, (Q.S.cells Q.z0)), (g1, (Q.S.cells (Qx.s s)))]) (fun _ => [M.It m ((Q.acc i V (Qx.x s i) (Qx.d s i)).2.2.2) xs]) (Access (m := m) (xs := xs) i V (Qx.x s i) (Qx.d s i) (Q.wrap_bd _)) (by kernel_rfl) (A.pn [6, 0, 1, 2, 3, 4, 5]) (fun _ => A.pm [1, 2, 3, 4, 5, 6, 0] (by kernel_rfl) (by kernel_rfl)) (fun w _ => by kernel_rfl) (by kernel_rfl) (fun _ hd25 => E.op (.tuple #[E.u ((Q.acc i V (Qx.x s i) (Qx.d s i)).1), .agg #[E.i ((Q.acc i V (Qx.x s i) (Qx.d s i)).2.1), E.u ((Q.acc i V (Qx.x s i) (Qx.d s i)).2.2.1)]]) (E.op (E.u ((Q.acc i V (Qx.x s i) (Qx.d s i)).1)) (E.op (.agg #[E.i ((Q.acc i V (Qx.x s i) (Qx.d s i)).2.1), E.u ((Q.acc i V (Qx.x s i) (Qx.d s i)).2.2.1)]) ?_)))))))))))
   refine E.st 1 [E.i ((Q.acc i V (Qx.x s i) (Qx.d s i)).2.1), E.u ((Q.acc i V (Qx.x s i) (Qx.d s i)).2.2.1)] rfl rfl (E.P.nb (E.To.code (E.wk [(2, E.pt g1), (4, E.pt g2), (5, E.pt g3), (7, E.pt g5), (8, E.pt g8), (12, E.u (Qx.p s))] [(g8, (Q.S.cells s)), (g5, [E.i ((Q.acc i V (Qx.x s i) (Qx.d s i)).2.1), E.u ((Q.acc i V (Qx.x s i) (Qx.d s i)).2.2.1)]), (g3, [E.i 0, E.u 0]), (g2, (Q.S.cells Q.z0)), (g1, (Q.S.cells (Qx.s s)))] Nz.sub (E.C.seq (E.sr (E.op (E.pt g5) (E.li (E.i ((Q.acc i V (Qx.x s i) (Qx.d s i)).2.1)) 1 rfl rfl (E.op (.bool (((Q.acc i V (Qx.x s i) (Qx.d s i)).2.1) != 0)) (E.To.code (E.cd (((Q.acc i V (IntKind.wrap .u32 (((Q.up s.r 0 0) ((i.a).toNat)) + i.imm)) ((Q.up s.r 0 0) ((i.d).toNat))).2.1) != 0) (fun hc26 => ?_) (fun hc26 => ?_)))))))))))
   ·
    refine E.C.seq (E.C.held (E.Hp (oo) w (A.X w oo aa [M.It m ((Q.acc i V (Qx.x s i) (Qx.d s i)).2.2.2) xs]) [(g8, (Q.S.cells s)), (g5, [E.i ((Q.acc i V (Qx.x s i) (Qx.d s i)).2.1), E.u ((Q.acc i V (Qx.x s i) (Qx.d s i)).2.2.1)]), (g1, (Q.S.cells (Qx.s s)))]) (by kernel_rfl) (E.tj 0 (Q.S.val s) rfl (fun w h => h.less Nz.sub) (fun w h => E.run_load h 0 rfl rfl (by kernel_rfl)) (E.tj 1 (.agg #[E.i ((Q.acc i V (Qx.x s i) (Qx.d s i)).2.1), E.u ((Q.acc i V (Qx.x s i) (Qx.d s i)).2.2.1)]) rfl (fun w h => h.less Nz.sub) (fun w h => E.run_load h 1 rfl rfl (by kernel_rfl)) (E.al 2 rfl (E.st 3 (Q.S.cells s) rfl rfl (E.H.back (fun w h => h.less Nz.sub) (E.al 3 rfl (E.st 2 [E.i ((Q.acc i V (Qx.x s i) (Qx.d s i)).2.1), E.u ((Q.acc i V (Qx.x s i) (Qx.d s i)).2.2.1)] rfl rfl (E.H.back (fun w h => h.less Nz.sub) (E.H.done (by kernel_rfl) (E.To.code ?_)))))))))))
    refine E.C.ret (E.P.rt (E.To.body (fn := Tryz.f17) [Q.S.val s, .agg #[E.i ((Q.acc i V (Qx.x s i) (Qx.d s i)).2.1), E.u ((Q.acc i V (Qx.x s i) (Qx.d s i)).2.2.1)]] ?_ ?_))
    · exact ⟨⟨by kernel_rfl, _, _, 3, _, rfl, rfl, by kernel_rfl⟩, ⟨by kernel_rfl, _, _, 2, _, rfl, rfl, by kernel_rfl⟩, trivial⟩
    intro w h
    have e : (Q.stepI i k t s V) = (s, (Q.acc i V (Qx.x s i) (Qx.d s i)).2.1, (Q.acc i V (Qx.x s i) (Qx.d s i)).2.2.1, (Q.acc i V (Qx.x s i) (Qx.d s i)).2.2.2) := by unfold Q.stepI; rw [hc6, cond_true, hc7, cond_false, hc14, cond_false, hc15, cond_false, hc19, cond_false, hc24, cond_true, hc26, cond_true] <;> rfl
    rw [e]
    exact ⟨(), trivial, rfl, A.dq [5] [0, 1, 2, 3, 4] h⟩
   refine E.C.skip (E.To.code (E.sr (E.op (.pointer (some ⟨g1, 1, none⟩)) (E.op (.pointer (some ⟨g1, 1, none⟩)) (E.st 4 (Q.S.cells (⟨s.pc, (Q.up (Qx.u s) 0 0), s.f, s.c, s.st, s.du⟩)) rfl rfl (E.tr (E.op (E.u (Qx.p s)) (E.op (E.pt g1) (E.st 4 (Q.S.cells (⟨(Qx.p s), (Q.up (Qx.u s) 0 0), s.f, s.c, s.st, s.du⟩)) rfl rfl (E.To.code (E.wk [(2, E.pt g1), (4, E.pt g2), (5, E.pt g3), (7, E.pt g5)] [(g5, [E.i ((Q.acc i V (Qx.x s i) (Qx.d s i)).2.1), E.u ((Q.acc i V (Qx.x s i) (Qx.d s i)).2.2.1)]), (g3, [E.i 0, E.u 0]), (g2, (Q.S.cells Q.z0)), (g1, (Q.S.cells (⟨(Qx.p s), (Q.up (Qx.u s) 0 0), s.f, s.c, s.st, s.du⟩)))] Nz.sub (E.sr ?_))))))))))))
   refine E.op (.pointer (some ⟨g1, 22, none⟩)) (E.li (E.i s.st) 3 rfl rfl (E.op (E.i (Qx.t s)) (E.op (.pointer (some ⟨g1, 22, none⟩)) (E.st 3 (Q.S.cells (⟨(Qx.p s), (Q.up (Qx.u s) 0 0), s.f, s.c, (Qx.t s), s.du⟩)) rfl rfl (E.To.code (E.C.seq (E.C.held (E.Hp (oo) w (A.X w oo aa [M.It m ((Q.acc i V (Qx.x s i) (Qx.d s i)).2.2.2) xs]) [(g5, [E.i ((Q.acc i V (Qx.x s i) (Qx.d s i)).2.1), E.u ((Q.acc i V (Qx.x s i) (Qx.d s i)).2.2.1)]), (g1, (Q.S.cells (⟨(Qx.p s), (Q.up (Qx.u s) 0 0), s.f, s.c, (Qx.t s), s.du⟩)))]) (by kernel_rfl) (E.tj 0 (Q.S.val (⟨(Qx.p s), (Q.up (Qx.u s) 0 0), s.f, s.c, (Qx.t s), s.du⟩)) rfl (fun w h => h.less Nz.sub) (fun w h => E.run_load h 1 rfl rfl (by kernel_rfl)) (E.tj 1 (.agg #[E.i ((Q.acc i V (Qx.x s i) (Qx.d s i)).2.1), E.u ((Q.acc i V (Qx.x s i) (Qx.d s i)).2.2.1)]) rfl (fun w h => h.less Nz.sub) (fun w h => E.run_load h 0 rfl rfl (by kernel_rfl)) (E.al 2 rfl (E.st 2 (Q.S.cells (⟨(Qx.p s), (Q.up (Qx.u s) 0 0), s.f, s.c, (Qx.t s), s.du⟩)) rfl rfl ?_)))))))))))
   refine E.H.back (fun w h => h.less Nz.sub) (E.al 3 rfl (E.st 1 [E.i ((Q.acc i V (Qx.x s i) (Qx.d s i)).2.1), E.u ((Q.acc i V (Qx.x s i) (Qx.d s i)).2.2.1)] rfl rfl (E.H.back (fun w h => h.less Nz.sub) (E.H.done (by kernel_rfl) (E.To.code (E.wk [(4, E.pt g2), (5, E.pt g3)] [(g3, [E.i ((Q.acc i V (Qx.x s i) (Qx.d s i)).2.1), E.u ((Q.acc i V (Qx.x s i) (Qx.d s i)).2.2.1)]), (g2, (Q.S.cells (⟨(Qx.p s), (Q.up (Qx.u s) 0 0), s.f, s.c, (Qx.t s), s.du⟩)))] Nz.sub (E.C.ret (E.To.body (fn := Tryz.f17) [Q.S.val (⟨(Qx.p s), (Q.up (Qx.u s) 0 0), s.f, s.c, (Qx.t s), s.du⟩), .agg #[E.i ((Q.acc i V (Qx.x s i) (Qx.d s i)).2.1), E.u ((Q.acc i V (Qx.x s i) (Qx.d s i)).2.2.1)]] ?_ ?_))))))))
   · exact ⟨⟨by kernel_rfl, _, _, 1, _, rfl, rfl, by kernel_rfl⟩, ⟨by kernel_rfl, _, _, 0, _, rfl, rfl, by kernel_rfl⟩, trivial⟩
   intro w h
   have e : (Q.stepI i k t s V) = (⟨(Qx.p s), (Q.up (Qx.u s) 0 0), s.f, s.c, (Qx.t s), s.du⟩, (Q.acc i V (Qx.x s i) (Qx.d s i)).2.1, (Q.acc i V (Qx.x s i) (Qx.d s i)).2.2.1, (Q.acc i V (Qx.x s i) (Qx.d s i)).2.2.2) := by unfold Q.stepI; rw [hc6, cond_true, hc7, cond_false, hc14, cond_false, hc15, cond_false, hc19, cond_false, hc24, cond_true, hc26, cond_false] <;> rfl
   rw [e]
   exact ⟨(), trivial, rfl, A.dq [2] [0, 1] h⟩
  refine E.sr (E.op (E.pt g4) (E.li (E.i i.op) 2 rfl rfl (E.op (.bool (i.op == 27)) (E.op (.bool (i.op == 27)) (E.To.code (E.cd (i.op == 27) (fun hc27 => ?_) (fun hc27 => ?_)))))))
  ·
   refine E.C.held (E.Hp (oo) w (A.X w oo aa [M.It m V xs]) [(g8, (Q.S.cells s)), (g5, [E.i ((Q.stop i).1), E.u ((Q.stop i).2)]), (g4, [E.i i.op, E.i i.d, E.i i.a, E.i i.b, E.u i.imm]), (g3, [E.i 0, E.u 0]), (g2, (Q.S.cells Q.z0))]) (by kernel_rfl) (E.tk 0 (.pointer (some ⟨g4, 1, none⟩)) rfl (fun w h => h.less Nz.sub) (E.tj 1 (E.i i.d) rfl (fun w h => h.less Nz.sub) (fun w h => E.run_load h 2 rfl rfl (by kernel_rfl)) (E.tk 2 (E.u (Qx.p s)) rfl (fun w h => h.less Nz.sub) (E.tk 3 (E.u (Qx.a s i)) rfl (fun w h => h.less Nz.sub) (E.tk 4 (.pointer (some ⟨g4, 4, none⟩)) rfl (fun w h => h.less Nz.sub) (E.tj 5 (E.u i.imm) rfl (fun w h => h.less Nz.sub) (fun w h => E.run_load h 2 rfl rfl (by kernel_rfl)) (E.tk 6 (E.u (Qx.x s i)) rfl (fun w h => h.less Nz.sub) (E.tk 7 (E.u (bits .andNot .u32 (Qx.x s i) 3)) rfl (fun w h => h.less Nz.sub) (E.tk 8 (.pointer (some ⟨g1, 1, none⟩)) rfl (fun w h => h.less Nz.sub) (E.tj 9 (.pointer (some ⟨g1, 1 + (i.d).toNat, none⟩)) rfl (fun w h => h.less Nz.sub) (fun w h => E.idxI (e := 24) g1 1 16 .i64 i.d (by kernel_rfl) (by kernel_rfl) (by kernel_rfl) (by kernel_rfl) (by have := (hi hc6).d; omega) w) (E.al 10 rfl ?_)))))))))))
   refine E.G.store 5 (Q.S.cells (⟨s.pc, (Q.up (Qx.u s) (i.d).toNat (Qx.p s)), s.f, s.c, s.st, s.du⟩)) rfl rfl (Q.sto_r (s := (Qx.s s)) (by kernel_rfl) (by have := (by have := (hi hc6).d; omega); omega)) (by kernel_rfl) (E.H.back (fun w h => h.less Nz.sub) (E.tk 11 (E.u (bits .andNot .u32 (Qx.x s i) 3)) rfl (fun w h => h.less Nz.sub) (E.H.done (by kernel_rfl) (E.P.nb (E.To.code (E.wk [(2, E.pt g1), (4, E.pt g2), (5, E.pt g3), (7, E.pt g5), (8, E.pt g8), (12, E.u (bits .andNot .u32 (Qx.x s i) 3))] [(g8, (Q.S.cells s)), (g5, [E.i ((Q.stop i).1), E.u ((Q.stop i).2)]), (g3, [E.i 0, E.u 0]), (g2, (Q.S.cells Q.z0)), (g1, (Q.S.cells (⟨s.pc, (Q.up (Qx.u s) (i.d).toNat (Qx.p s)), s.f, s.c, s.st, s.du⟩)))] Nz.sub (E.C.seq (E.sr (E.op (E.pt g5) (E.li (E.i ((Q.stop i).1)) 1 rfl rfl (E.op (.bool (((Q.stop i).1) != 0)) (E.To.code ?_))))))))))))
   refine E.cd (((Q.stop i).1) != 0) (fun hc28 => absurd (hc7.symm.trans hc28) (by decide)) (fun hc28 => E.C.skip (E.To.code (E.sr (E.op (.pointer (some ⟨g1, 1, none⟩)) (E.op (.pointer (some ⟨g1, 1, none⟩)) (E.st 4 (Q.S.cells (⟨s.pc, (Q.up (Q.up (Qx.u s) (i.d).toNat (Qx.p s)) 0 0), s.f, s.c, s.st, s.du⟩)) rfl rfl (E.tr (E.op (E.u (bits .andNot .u32 (Qx.x s i) 3)) (E.op (E.pt g1) (E.st 4 (Q.S.cells (⟨(bits .andNot .u32 (Qx.x s i) 3), (Q.up (Q.up (Qx.u s) (i.d).toNat (Qx.p s)) 0 0), s.f, s.c, s.st, s.du⟩)) rfl rfl (E.To.code (E.wk [(2, E.pt g1), (4, E.pt g2), (5, E.pt g3), (7, E.pt g5)] [(g5, [E.i ((Q.stop i).1), E.u ((Q.stop i).2)]), (g3, [E.i 0, E.u 0]), (g2, (Q.S.cells Q.z0)), (g1, (Q.S.cells (⟨(bits .andNot .u32 (Qx.x s i) 3), (Q.up (Q.up (Qx.u s) (i.d).toNat (Qx.p s)) 0 0), s.f, s.c, s.st, s.du⟩)))] Nz.sub ?_))))))))))))
   refine E.sr (E.op (.pointer (some ⟨g1, 22, none⟩)) (E.li (E.i s.st) 3 rfl rfl (E.op (E.i (Qx.t s)) (E.op (.pointer (some ⟨g1, 22, none⟩)) (E.st 3 (Q.S.cells (⟨(bits .andNot .u32 (Qx.x s i) 3), (Q.up (Q.up (Qx.u s) (i.d).toNat (Qx.p s)) 0 0), s.f, s.c, (Qx.t s), s.du⟩)) rfl rfl (E.To.code (E.C.seq (E.C.held (E.Hp (oo) w (A.X w oo aa [M.It m V xs]) [(g5, [E.i ((Q.stop i).1), E.u ((Q.stop i).2)]), (g1, (Q.S.cells (⟨(bits .andNot .u32 (Qx.x s i) 3), (Q.up (Q.up (Qx.u s) (i.d).toNat (Qx.p s)) 0 0), s.f, s.c, (Qx.t s), s.du⟩)))]) (by kernel_rfl) (E.tj 0 (Q.S.val (⟨(bits .andNot .u32 (Qx.x s i) 3), (Q.up (Q.up (Qx.u s) (i.d).toNat (Qx.p s)) 0 0), s.f, s.c, (Qx.t s), s.du⟩)) rfl (fun w h => h.less Nz.sub) (fun w h => E.run_load h 1 rfl rfl (by kernel_rfl)) (E.tj 1 (.agg #[E.i ((Q.stop i).1), E.u ((Q.stop i).2)]) rfl (fun w h => h.less Nz.sub) (fun w h => E.run_load h 0 rfl rfl (by kernel_rfl)) (E.al 2 rfl ?_)))))))))))
   refine E.st 2 (Q.S.cells (⟨(bits .andNot .u32 (Qx.x s i) 3), (Q.up (Q.up (Qx.u s) (i.d).toNat (Qx.p s)) 0 0), s.f, s.c, (Qx.t s), s.du⟩)) rfl rfl (E.H.back (fun w h => h.less Nz.sub) (E.al 3 rfl (E.st 1 [E.i ((Q.stop i).1), E.u ((Q.stop i).2)] rfl rfl (E.H.back (fun w h => h.less Nz.sub) (E.H.done (by kernel_rfl) (E.To.code (E.wk [(4, E.pt g2), (5, E.pt g3)] [(g3, [E.i ((Q.stop i).1), E.u ((Q.stop i).2)]), (g2, (Q.S.cells (⟨(bits .andNot .u32 (Qx.x s i) 3), (Q.up (Q.up (Qx.u s) (i.d).toNat (Qx.p s)) 0 0), s.f, s.c, (Qx.t s), s.du⟩)))] Nz.sub (E.C.ret (E.To.body (fn := Tryz.f17) [Q.S.val (⟨(bits .andNot .u32 (Qx.x s i) 3), (Q.up (Q.up (Qx.u s) (i.d).toNat (Qx.p s)) 0 0), s.f, s.c, (Qx.t s), s.du⟩), .agg #[E.i ((Q.stop i).1), E.u ((Q.stop i).2)]] ?_ ?_)))))))))
   · exact ⟨⟨by kernel_rfl, _, _, 1, _, rfl, rfl, by kernel_rfl⟩, ⟨by kernel_rfl, _, _, 0, _, rfl, rfl, by kernel_rfl⟩, trivial⟩
   intro w h
   have e : (Q.stepI i k t s V) = (⟨(bits .andNot .u32 (Qx.x s i) 3), (Q.up (Q.up (Qx.u s) (i.d).toNat (Qx.p s)) 0 0), s.f, s.c, (Qx.t s), s.du⟩, (Q.stop i).1, (Q.stop i).2, V) := by unfold Q.stepI; rw [hc6, cond_true, hc7, cond_false, hc14, cond_false, hc15, cond_false, hc19, cond_false, hc24, cond_false, hc27, cond_true] <;> rfl
   rw [e]
   exact ⟨(), trivial, rfl, A.dq [2] [0, 1] h⟩
  refine E.sr (E.op (E.pt g4) (E.li (E.i i.op) 2 rfl rfl (E.op (.bool (i.op == 40)) (E.op (.bool (i.op == 40)) (E.To.code (E.wk [(1, .iface 36 (E.pt m)), (2, E.pt g1), (4, E.pt g2), (5, E.pt g3), (6, E.pt g4), (7, E.pt g5), (8, E.pt g8), (9, E.u (Qx.d s i)), (10, E.u (Qx.a s i)), (12, E.u (Qx.p s)), (13, E.u (IntKind.wrap .u32 (s.pc + (IntKind.wrap .u32 (4 * i.imm))))), (149, .bool (i.op == 40))] [(g8, (Q.S.cells s)), (g5, [E.i ((Q.stop i).1), E.u ((Q.stop i).2)]), (g4, [E.i i.op, E.i i.d, E.i i.a, E.i i.b, E.u i.imm]), (g3, [E.i 0, E.u 0]), (g2, (Q.S.cells Q.z0)), (g1, (Q.S.cells (Qx.s s)))] Nz.sub (E.cd (i.op == 40) (fun hc29 => ?_) (fun hc29 => ?_))))))))
  ·
   refine E.C.region (E.op (.pointer (some ⟨g4, 1, none⟩)) (E.li (E.i i.d) 2 rfl rfl (E.op (E.u (Qx.p s)) (E.op (E.u (IntKind.wrap .u32 (s.pc + (IntKind.wrap .u32 (4 * i.imm))))) (E.op (.pointer (some ⟨g1, 1, none⟩)) (E.vl (.pointer (some ⟨g1, 1 + (i.d).toNat, none⟩)) (fun w h => E.idxI (e := 24) g1 1 16 .i64 i.d (by kernel_rfl) (by kernel_rfl) (by kernel_rfl) (by kernel_rfl) (by have := (hi hc6).d; omega) w) (E.G.store 5 (Q.S.cells (⟨s.pc, (Q.up (Qx.u s) (i.d).toNat (Qx.p s)), s.f, s.c, s.st, s.du⟩)) rfl rfl (Q.sto_r (s := (Qx.s s)) (by kernel_rfl) (by have := (by have := (hi hc6).d; omega); omega)) (by kernel_rfl) (E.op (E.u (IntKind.wrap .u32 (s.pc + (IntKind.wrap .u32 (4 * i.imm))))) (E.P.nb (E.To.code (E.wk [(2, E.pt g1), (4, E.pt g2), (5, E.pt g3), (7, E.pt g5), (8, E.pt g8), (12, E.u (IntKind.wrap .u32 (s.pc + (IntKind.wrap .u32 (4 * i.imm)))))] [(g8, (Q.S.cells s)), (g5, [E.i ((Q.stop i).1), E.u ((Q.stop i).2)]), (g3, [E.i 0, E.u 0]), (g2, (Q.S.cells Q.z0)), (g1, (Q.S.cells (⟨s.pc, (Q.up (Qx.u s) (i.d).toNat (Qx.p s)), s.f, s.c, s.st, s.du⟩)))] Nz.sub (E.C.seq ?_))))))))))))
   refine E.sr (E.op (E.pt g5) (E.li (E.i ((Q.stop i).1)) 1 rfl rfl (E.op (.bool (((Q.stop i).1) != 0)) (E.To.code (E.cd (((Q.stop i).1) != 0) (fun hc30 => absurd (hc7.symm.trans hc30) (by decide)) (fun hc30 => E.C.skip (E.To.code (E.sr (E.op (.pointer (some ⟨g1, 1, none⟩)) (E.op (.pointer (some ⟨g1, 1, none⟩)) (E.st 4 (Q.S.cells (⟨s.pc, (Q.up (Q.up (Qx.u s) (i.d).toNat (Qx.p s)) 0 0), s.f, s.c, s.st, s.du⟩)) rfl rfl (E.tr ?_))))))))))))
   refine E.op (E.u (IntKind.wrap .u32 (s.pc + (IntKind.wrap .u32 (4 * i.imm))))) (E.op (E.pt g1) (E.st 4 (Q.S.cells (⟨(IntKind.wrap .u32 (s.pc + (IntKind.wrap .u32 (4 * i.imm)))), (Q.up (Q.up (Qx.u s) (i.d).toNat (Qx.p s)) 0 0), s.f, s.c, s.st, s.du⟩)) rfl rfl (E.To.code (E.wk [(2, E.pt g1), (4, E.pt g2), (5, E.pt g3), (7, E.pt g5)] [(g5, [E.i ((Q.stop i).1), E.u ((Q.stop i).2)]), (g3, [E.i 0, E.u 0]), (g2, (Q.S.cells Q.z0)), (g1, (Q.S.cells (⟨(IntKind.wrap .u32 (s.pc + (IntKind.wrap .u32 (4 * i.imm)))), (Q.up (Q.up (Qx.u s) (i.d).toNat (Qx.p s)) 0 0), s.f, s.c, s.st, s.du⟩)))] Nz.sub (E.sr (E.op (.pointer (some ⟨g1, 22, none⟩)) (E.li (E.i s.st) 3 rfl rfl (E.op (E.i (Qx.t s)) (E.op (.pointer (some ⟨g1, 22, none⟩)) (E.st 3 (Q.S.cells (⟨(IntKind.wrap .u32 (s.pc + (IntKind.wrap .u32 (4 * i.imm)))), (Q.up (Q.up (Qx.u s) (i.d).toNat (Qx.p s)) 0 0), s.f, s.c, (Qx.t s), s.du⟩)) rfl rfl (E.To.code ?_)))))))))))
   refine E.C.seq (E.C.held (E.Hp (oo) w (A.X w oo aa [M.It m V xs]) [(g5, [E.i ((Q.stop i).1), E.u ((Q.stop i).2)]), (g1, (Q.S.cells (⟨(IntKind.wrap .u32 (s.pc + (IntKind.wrap .u32 (4 * i.imm)))), (Q.up (Q.up (Qx.u s) (i.d).toNat (Qx.p s)) 0 0), s.f, s.c, (Qx.t s), s.du⟩)))]) (by kernel_rfl) (E.tj 0 (Q.S.val (⟨(IntKind.wrap .u32 (s.pc + (IntKind.wrap .u32 (4 * i.imm)))), (Q.up (Q.up (Qx.u s) (i.d).toNat (Qx.p s)) 0 0), s.f, s.c, (Qx.t s), s.du⟩)) rfl (fun w h => h.less Nz.sub) (fun w h => E.run_load h 1 rfl rfl (by kernel_rfl)) (E.tj 1 (.agg #[E.i ((Q.stop i).1), E.u ((Q.stop i).2)]) rfl (fun w h => h.less Nz.sub) (fun w h => E.run_load h 0 rfl rfl (by kernel_rfl)) (E.al 2 rfl (E.st 2 (Q.S.cells (⟨(IntKind.wrap .u32 (s.pc + (IntKind.wrap .u32 (4 * i.imm)))), (Q.up (Q.up (Qx.u s) (i.d).toNat (Qx.p s)) 0 0), s.f, s.c, (Qx.t s), s.du⟩)) rfl rfl (E.H.back (fun w h => h.less Nz.sub) (E.al 3 rfl (E.st 1 [E.i ((Q.stop i).1), E.u ((Q.stop i).2)] rfl rfl (E.H.back (fun w h => h.less Nz.sub) (E.H.done (by kernel_rfl) (E.To.code ?_)))))))))))
   refine E.wk [(4, E.pt g2), (5, E.pt g3)] [(g3, [E.i ((Q.stop i).1), E.u ((Q.stop i).2)]), (g2, (Q.S.cells (⟨(IntKind.wrap .u32 (s.pc + (IntKind.wrap .u32 (4 * i.imm)))), (Q.up (Q.up (Qx.u s) (i.d).toNat (Qx.p s)) 0 0), s.f, s.c, (Qx.t s), s.du⟩)))] Nz.sub (E.C.ret (E.To.body (fn := Tryz.f17) [Q.S.val (⟨(IntKind.wrap .u32 (s.pc + (IntKind.wrap .u32 (4 * i.imm)))), (Q.up (Q.up (Qx.u s) (i.d).toNat (Qx.p s)) 0 0), s.f, s.c, (Qx.t s), s.du⟩), .agg #[E.i ((Q.stop i).1), E.u ((Q.stop i).2)]] ?_ ?_))
   · exact ⟨⟨by kernel_rfl, _, _, 1, _, rfl, rfl, by kernel_rfl⟩, ⟨by kernel_rfl, _, _, 0, _, rfl, rfl, by kernel_rfl⟩, trivial⟩
   intro w h
   have e : (Q.stepI i k t s V) = (⟨(IntKind.wrap .u32 (s.pc + (IntKind.wrap .u32 (4 * i.imm)))), (Q.up (Q.up (Qx.u s) (i.d).toNat (Qx.p s)) 0 0), s.f, s.c, (Qx.t s), s.du⟩, (Q.stop i).1, (Q.stop i).2, V) := by unfold Q.stepI; rw [hc6, cond_true, hc7, cond_false, hc14, cond_false, hc15, cond_false, hc19, cond_false, hc24, cond_false, hc27, cond_false, hc29, cond_true] <;> rfl
   rw [e]
   exact ⟨(), trivial, rfl, A.dq [2] [0, 1] h⟩
  refine E.sr (E.op (E.pt g4) (E.li (E.i i.op) 2 rfl rfl (E.op (.bool (i.op == 41)) (E.op (.bool (i.op == 41)) (E.To.code (E.cd (i.op == 41) (fun hc31 => ?_) (fun hc31 => ?_)))))))
  ·
   refine E.C.region (E.op (.pointer (some ⟨g4, 1, none⟩)) (E.li (E.i i.d) 2 rfl rfl (E.op (.pointer (some ⟨g4, 4, none⟩)) (E.li (E.u i.imm) 2 rfl rfl (E.op (E.u (IntKind.wrap .u32 (i.imm * 2 ^ 10))) (E.op (.pointer (some ⟨g1, 1, none⟩)) (E.vl (.pointer (some ⟨g1, 1 + (i.d).toNat, none⟩)) (fun w h => E.idxI (e := 24) g1 1 16 .i64 i.d (by kernel_rfl) (by kernel_rfl) (by kernel_rfl) (by kernel_rfl) (by have := (hi hc6).d; omega) w) (E.G.store 5 (Q.S.cells (⟨s.pc, (Q.up (Qx.u s) (i.d).toNat (IntKind.wrap .u32 (i.imm * 2 ^ 10))), s.f, s.c, s.st, s.du⟩)) rfl rfl (Q.sto_r (s := (Qx.s s)) (by kernel_rfl) (by have := (by have := (hi hc6).d; omega); omega)) (by kernel_rfl) (E.P.nb (E.To.code (E.wk [(2, E.pt g1), (4, E.pt g2), (5, E.pt g3), (7, E.pt g5), (8, E.pt g8), (12, E.u (Qx.p s))] [(g8, (Q.S.cells s)), (g5, [E.i ((Q.stop i).1), E.u ((Q.stop i).2)]), (g3, [E.i 0, E.u 0]), (g2, (Q.S.cells Q.z0)), (g1, (Q.S.cells (⟨s.pc, (Q.up (Qx.u s) (i.d).toNat (IntKind.wrap .u32 (i.imm * 2 ^ 10))), s.f, s.c, s.st, s.du⟩)))] Nz.sub (E.C.seq ?_))))))))))))
   refine E.sr (E.op (E.pt g5) (E.li (E.i ((Q.stop i).1)) 1 rfl rfl (E.op (.bool (((Q.stop i).1) != 0)) (E.To.code (E.cd (((Q.stop i).1) != 0) (fun hc32 => absurd (hc7.symm.trans hc32) (by decide)) (fun hc32 => E.C.skip (E.To.code (E.sr (E.op (.pointer (some ⟨g1, 1, none⟩)) (E.op (.pointer (some ⟨g1, 1, none⟩)) (E.st 4 (Q.S.cells (⟨s.pc, (Q.up (Q.up (Qx.u s) (i.d).toNat (IntKind.wrap .u32 (i.imm * 2 ^ 10))) 0 0), s.f, s.c, s.st, s.du⟩)) rfl rfl (E.tr ?_))))))))))))
   refine E.op (E.u (Qx.p s)) (E.op (E.pt g1) (E.st 4 (Q.S.cells (⟨(Qx.p s), (Q.up (Q.up (Qx.u s) (i.d).toNat (IntKind.wrap .u32 (i.imm * 2 ^ 10))) 0 0), s.f, s.c, s.st, s.du⟩)) rfl rfl (E.To.code (E.wk [(2, E.pt g1), (4, E.pt g2), (5, E.pt g3), (7, E.pt g5)] [(g5, [E.i ((Q.stop i).1), E.u ((Q.stop i).2)]), (g3, [E.i 0, E.u 0]), (g2, (Q.S.cells Q.z0)), (g1, (Q.S.cells (⟨(Qx.p s), (Q.up (Q.up (Qx.u s) (i.d).toNat (IntKind.wrap .u32 (i.imm * 2 ^ 10))) 0 0), s.f, s.c, s.st, s.du⟩)))] Nz.sub (E.sr (E.op (.pointer (some ⟨g1, 22, none⟩)) (E.li (E.i s.st) 3 rfl rfl (E.op (E.i (Qx.t s)) (E.op (.pointer (some ⟨g1, 22, none⟩)) (E.st 3 (Q.S.cells (⟨(Qx.p s), (Q.up (Q.up (Qx.u s) (i.d).toNat (IntKind.wrap .u32 (i.imm * 2 ^ 10))) 0 0), s.f, s.c, (Qx.t s), s.du⟩)) rfl rfl (E.To.code ?_)))))))))))
   refine E.C.seq (E.C.held (E.Hp (oo) w (A.X w oo aa [M.It m V xs]) [(g5, [E.i ((Q.stop i).1), E.u ((Q.stop i).2)]), (g1, (Q.S.cells (⟨(Qx.p s), (Q.up (Q.up (Qx.u s) (i.d).toNat (IntKind.wrap .u32 (i.imm * 2 ^ 10))) 0 0), s.f, s.c, (Qx.t s), s.du⟩)))]) (by kernel_rfl) (E.tj 0 (Q.S.val (⟨(Qx.p s), (Q.up (Q.up (Qx.u s) (i.d).toNat (IntKind.wrap .u32 (i.imm * 2 ^ 10))) 0 0), s.f, s.c, (Qx.t s), s.du⟩)) rfl (fun w h => h.less Nz.sub) (fun w h => E.run_load h 1 rfl rfl (by kernel_rfl)) (E.tj 1 (.agg #[E.i ((Q.stop i).1), E.u ((Q.stop i).2)]) rfl (fun w h => h.less Nz.sub) (fun w h => E.run_load h 0 rfl rfl (by kernel_rfl)) (E.al 2 rfl (E.st 2 (Q.S.cells (⟨(Qx.p s), (Q.up (Q.up (Qx.u s) (i.d).toNat (IntKind.wrap .u32 (i.imm * 2 ^ 10))) 0 0), s.f, s.c, (Qx.t s), s.du⟩)) rfl rfl (E.H.back (fun w h => h.less Nz.sub) (E.al 3 rfl (E.st 1 [E.i ((Q.stop i).1), E.u ((Q.stop i).2)] rfl rfl (E.H.back (fun w h => h.less Nz.sub) (E.H.done (by kernel_rfl) (E.To.code ?_)))))))))))
   refine E.wk [(4, E.pt g2), (5, E.pt g3)] [(g3, [E.i ((Q.stop i).1), E.u ((Q.stop i).2)]), (g2, (Q.S.cells (⟨(Qx.p s), (Q.up (Q.up (Qx.u s) (i.d).toNat (IntKind.wrap .u32 (i.imm * 2 ^ 10))) 0 0), s.f, s.c, (Qx.t s), s.du⟩)))] Nz.sub (E.C.ret (E.To.body (fn := Tryz.f17) [Q.S.val (⟨(Qx.p s), (Q.up (Q.up (Qx.u s) (i.d).toNat (IntKind.wrap .u32 (i.imm * 2 ^ 10))) 0 0), s.f, s.c, (Qx.t s), s.du⟩), .agg #[E.i ((Q.stop i).1), E.u ((Q.stop i).2)]] ?_ ?_))
   · exact ⟨⟨by kernel_rfl, _, _, 1, _, rfl, rfl, by kernel_rfl⟩, ⟨by kernel_rfl, _, _, 0, _, rfl, rfl, by kernel_rfl⟩, trivial⟩
   intro w h
   have e : (Q.stepI i k t s V) = (⟨(Qx.p s), (Q.up (Q.up (Qx.u s) (i.d).toNat (IntKind.wrap .u32 (i.imm * 2 ^ 10))) 0 0), s.f, s.c, (Qx.t s), s.du⟩, (Q.stop i).1, (Q.stop i).2, V) := by unfold Q.stepI; rw [hc6, cond_true, hc7, cond_false, hc14, cond_false, hc15, cond_false, hc19, cond_false, hc24, cond_false, hc27, cond_false, hc29, cond_false, hc31, cond_true] <;> rfl
   rw [e]
   exact ⟨(), trivial, rfl, A.dq [2] [0, 1] h⟩
  refine E.sr (E.op (E.pt g4) (E.li (E.i i.op) 2 rfl rfl (E.op (.bool (i.op == 51)) (E.op (.bool (i.op == 51)) (E.To.code (E.wk [(1, .iface 36 (E.pt m)), (2, E.pt g1), (4, E.pt g2), (5, E.pt g3), (6, E.pt g4), (7, E.pt g5), (8, E.pt g8), (9, E.u (Qx.d s i)), (10, E.u (Qx.a s i)), (12, E.u (Qx.p s)), (13, E.u (IntKind.wrap .u32 (s.pc + (IntKind.wrap .u32 (4 * i.imm))))), (170, .bool (i.op == 51))] [(g8, (Q.S.cells s)), (g5, [E.i ((Q.stop i).1), E.u ((Q.stop i).2)]), (g4, [E.i i.op, E.i i.d, E.i i.a, E.i i.b, E.u i.imm]), (g3, [E.i 0, E.u 0]), (g2, (Q.S.cells Q.z0)), (g1, (Q.S.cells (Qx.s s)))] Nz.sub (E.cd (i.op == 51) (fun hc33 => ?_) (fun hc33 => ?_))))))))
  ·
   refine E.C.region (E.op (.pointer (some ⟨g1, 18, none⟩)) (E.op (.pointer (some ⟨g1, 19, none⟩)) (E.li (E.u (s.c 1)) 5 rfl rfl (E.op (E.u (bits .andNot .u32 (s.c 1) 3)) (E.op (E.u (bits .andNot .u32 (s.c 1) 3)) (E.P.nb (E.To.code (E.wk [(2, E.pt g1), (4, E.pt g2), (5, E.pt g3), (7, E.pt g5), (8, E.pt g8), (12, E.u (bits .andNot .u32 (s.c 1) 3))] [(g8, (Q.S.cells s)), (g5, [E.i ((Q.stop i).1), E.u ((Q.stop i).2)]), (g3, [E.i 0, E.u 0]), (g2, (Q.S.cells Q.z0)), (g1, (Q.S.cells (Qx.s s)))] Nz.sub (E.C.seq (E.sr (E.op (E.pt g5) (E.li (E.i ((Q.stop i).1)) 1 rfl rfl ?_))))))))))))
   refine E.op (.bool (((Q.stop i).1) != 0)) (E.To.code (E.cd (((Q.stop i).1) != 0) (fun hc34 => absurd (hc7.symm.trans hc34) (by decide)) (fun hc34 => E.C.skip (E.To.code (E.sr (E.op (.pointer (some ⟨g1, 1, none⟩)) (E.op (.pointer (some ⟨g1, 1, none⟩)) (E.st 4 (Q.S.cells (⟨s.pc, (Q.up (Qx.u s) 0 0), s.f, s.c, s.st, s.du⟩)) rfl rfl (E.tr (E.op (E.u (bits .andNot .u32 (s.c 1) 3)) (E.op (E.pt g1) (E.st 4 (Q.S.cells (⟨(bits .andNot .u32 (s.c 1) 3), (Q.up (Qx.u s) 0 0), s.f, s.c, s.st, s.du⟩)) rfl rfl ?_))))))))))))
   refine E.To.code (E.wk [(2, E.pt g1), (4, E.pt g2), (5, E.pt g3), (7, E.pt g5)] [(g5, [E.i ((Q.stop i).1), E.u ((Q.stop i).2)]), (g3, [E.i 0, E.u 0]), (g2, (Q.S.cells Q.z0)), (g1, (Q.S.cells (⟨(bits .andNot .u32 (s.c 1) 3), (Q.up (Qx.u s) 0 0), s.f, s.c, s.st, s.du⟩)))] Nz.sub (E.sr (E.op (.pointer (some ⟨g1, 22, none⟩)) (E.li (E.i s.st) 3 rfl rfl (E.op (E.i (Qx.t s)) (E.op (.pointer (some ⟨g1, 22, none⟩)) (E.st 3 (Q.S.cells (⟨(bits .andNot .u32 (s.c 1) 3), (Q.up (Qx.u s) 0 0), s.f, s.c, (Qx.t s), s.du⟩)) rfl rfl (E.To.code (E.C.seq (E.C.held (E.Hp (oo) w (A.X w oo aa [M.It m V xs]) [(g5, [E.i ((Q.stop i).1), E.u ((Q.stop i).2)]), (g1, (Q.S.cells (⟨(bits .andNot .u32 (s.c 1) 3), (Q.up (Qx.u s) 0 0), s.f, s.c, (Qx.t s), s.du⟩)))]) (by kernel_rfl) (E.tj 0 (Q.S.val (⟨(bits .andNot .u32 (s.c 1) 3), (Q.up (Qx.u s) 0 0), s.f, s.c, (Qx.t s), s.du⟩)) rfl (fun w h => h.less Nz.sub) (fun w h => E.run_load h 1 rfl rfl (by kernel_rfl)) ?_)))))))))))
   refine E.tj 1 (.agg #[E.i ((Q.stop i).1), E.u ((Q.stop i).2)]) rfl (fun w h => h.less Nz.sub) (fun w h => E.run_load h 0 rfl rfl (by kernel_rfl)) (E.al 2 rfl (E.st 2 (Q.S.cells (⟨(bits .andNot .u32 (s.c 1) 3), (Q.up (Qx.u s) 0 0), s.f, s.c, (Qx.t s), s.du⟩)) rfl rfl (E.H.back (fun w h => h.less Nz.sub) (E.al 3 rfl (E.st 1 [E.i ((Q.stop i).1), E.u ((Q.stop i).2)] rfl rfl (E.H.back (fun w h => h.less Nz.sub) (E.H.done (by kernel_rfl) (E.To.code (E.wk [(4, E.pt g2), (5, E.pt g3)] [(g3, [E.i ((Q.stop i).1), E.u ((Q.stop i).2)]), (g2, (Q.S.cells (⟨(bits .andNot .u32 (s.c 1) 3), (Q.up (Qx.u s) 0 0), s.f, s.c, (Qx.t s), s.du⟩)))] Nz.sub (E.C.ret (E.To.body (fn := Tryz.f17) [Q.S.val (⟨(bits .andNot .u32 (s.c 1) 3), (Q.up (Qx.u s) 0 0), s.f, s.c, (Qx.t s), s.du⟩), .agg #[E.i ((Q.stop i).1), E.u ((Q.stop i).2)]] ?_ ?_)))))))))))
   · exact ⟨⟨by kernel_rfl, _, _, 1, _, rfl, rfl, by kernel_rfl⟩, ⟨by kernel_rfl, _, _, 0, _, rfl, rfl, by kernel_rfl⟩, trivial⟩
   intro w h
   have e : (Q.stepI i k t s V) = (⟨(bits .andNot .u32 (s.c 1) 3), (Q.up (Qx.u s) 0 0), s.f, s.c, (Qx.t s), s.du⟩, (Q.stop i).1, (Q.stop i).2, V) := by unfold Q.stepI; rw [hc6, cond_true, hc7, cond_false, hc14, cond_false, hc15, cond_false, hc19, cond_false, hc24, cond_false, hc27, cond_false, hc29, cond_false, hc31, cond_false, hc33, cond_true] <;> rfl
   rw [e]
   exact ⟨(), trivial, rfl, A.dq [2] [0, 1] h⟩
  refine E.sr (E.op (E.pt g4) (E.li (E.i i.op) 2 rfl rfl (E.op (.bool (i.op == 52)) (E.op (.bool (i.op == 52)) (E.To.code (E.cd (i.op == 52) (fun hc35 => ?_) (fun hc35 => ?_)))))))
  ·
   refine E.sr (E.op (.iface 36 (E.pt m)) (E.op (E.u (Qx.a s i)) (A.G.call (I := Unit) (D := fun _ => True) (V := fun _ => .bool (decide (((Qx.a s i)).toNat / 256 < V.n))) (q := fun _ => [M.It m (V.sync (((Qx.a s i)).toNat / 256)) xs]) [A.blk g8 (Q.S.cells s), A.blk g5 ([E.i ((Q.stop i).1), E.u ((Q.stop i).2)]), A.blk g4 ([E.i i.op, E.i i.d, E.i i.a, E.i i.b, E.u i.imm]), A.blk g3 ([E.i 0, E.u 0]), A.blk g2 (Q.S.cells Q.z0), A.blk g1 (Q.S.cells (Qx.s s))] (fun _ => [(g8, (Q.S.cells s)), (g5, [E.i ((Q.stop i).1), E.u ((Q.stop i).2)]), (g4, [E.i i.op, E.i i.d, E.i i.a, E.i i.b, E.u i.imm]), (g3, [E.i 0, E.u 0]), (g2, (Q.S.cells Q.z0)), (g1, (Q.S.cells (Qx.s s)))]) (fun _ => [M.It m (V.sync (((Qx.a s i)).toNat / 256)) xs]) (I_Sync (Qx.a s i) (Q.up_bd hs.r (by decide) _) (m := m) (V := V) (xs := xs)) (by kernel_rfl) (A.pn [6, 0, 1, 2, 3, 4, 5]) (fun _ => A.pm [1, 2, 3, 4, 5, 6, 0] (by kernel_rfl) (by kernel_rfl)) (fun w _ => by kernel_rfl) (by kernel_rfl) (fun _ hd36 => E.op (.bool (!(decide (((Qx.a s i)).toNat / 256 < V.n)))) (E.To.code (E.wk [(2, E.pt g1), (4, E.pt g2), (5, E.pt g3), (7, E.pt g5), (8, E.pt g8), (10, E.u (Qx.a s i)), (12, E.u (Qx.p s)), (185, .bool (!(decide (((Qx.a s i)).toNat / 256 < V.n))))] [(g8, (Q.S.cells s)), (g5, [E.i ((Q.stop i).1), E.u ((Q.stop i).2)]), (g3, [E.i 0, E.u 0]), (g2, (Q.S.cells Q.z0)), (g1, (Q.S.cells (Qx.s s)))] Nz.sub (E.cd (!(decide ((((Q.up s.r 0 0) ((i.a).toNat))).toNat / 256 < V.n))) (fun hc37 => ?_) (fun hc37 => ?_))))))))
   ·
    refine E.C.region (E.op (E.u (Qx.a s i)) (E.vl (.agg #[E.i 5, E.u (Qx.a s i)]) (fun w h => E.run_build #[E.i 5, E.u (Qx.a s i)] (by kernel_rfl) w) (E.st 1 [E.i 5, E.u (Qx.a s i)] rfl rfl (E.P.nb (E.To.code (E.C.seq (E.sr (E.op (E.pt g5) (E.li (E.i 5) 1 rfl rfl (E.op (.bool true) (E.To.code (E.C.condT (by kernel_rfl) (by kernel_rfl) ?_))))))))))))
    refine E.C.seq (E.C.held (E.Hp (oo) w (A.X w oo aa [M.It m (V.sync (((Qx.a s i)).toNat / 256)) xs]) [(g8, (Q.S.cells s)), (g5, [E.i 5, E.u (Qx.a s i)]), (g1, (Q.S.cells (Qx.s s)))]) (by kernel_rfl) (E.tj 0 (Q.S.val s) rfl (fun w h => h.less Nz.sub) (fun w h => E.run_load h 0 rfl rfl (by kernel_rfl)) (E.tj 1 (.agg #[E.i 5, E.u (Qx.a s i)]) rfl (fun w h => h.less Nz.sub) (fun w h => E.run_load h 1 rfl rfl (by kernel_rfl)) (E.al 2 rfl (E.st 3 (Q.S.cells s) rfl rfl (E.H.back (fun w h => h.less Nz.sub) (E.al 3 rfl (E.st 2 [E.i 5, E.u (Qx.a s i)] rfl rfl (E.H.back (fun w h => h.less Nz.sub) (E.H.done (by kernel_rfl) (E.To.code ?_)))))))))))
    refine E.wk [(2, E.pt g1), (4, E.pt g2), (5, E.pt g3), (7, E.pt g5), (12, E.u (Qx.p s))] [(g5, [E.i 5, E.u (Qx.a s i)]), (g3, [E.i 5, E.u (Qx.a s i)]), (g2, (Q.S.cells s)), (g1, (Q.S.cells (Qx.s s)))] Nz.sub (E.C.ret (E.P.rt (E.To.body (fn := Tryz.f17) [Q.S.val s, .agg #[E.i 5, E.u (Qx.a s i)]] ?_ ?_)))
    · exact ⟨⟨by kernel_rfl, _, _, 2, _, rfl, rfl, by kernel_rfl⟩, ⟨by kernel_rfl, _, _, 1, _, rfl, rfl, by kernel_rfl⟩, trivial⟩
    intro w h
    have e : (Q.stepI i k t s V) = (s, 5, (Qx.a s i), (V.sync (((Qx.a s i)).toNat / 256))) := by unfold Q.stepI; rw [hc6, cond_true, hc7, cond_false, hc14, cond_false, hc15, cond_false, hc19, cond_false, hc24, cond_false, hc27, cond_false, hc29, cond_false, hc31, cond_false, hc33, cond_false, hc35, cond_true, hc37, cond_true] <;> rfl
    rw [e]
    exact ⟨(), trivial, rfl, A.dq [4] [0, 1, 2, 3] h⟩
   refine E.C.skip (E.P.nb (E.To.code (E.C.seq (E.sr (E.op (E.pt g5) (E.li (E.i ((Q.stop i).1)) 1 rfl rfl (E.op (.bool (((Q.stop i).1) != 0)) (E.To.code (E.cd (((Q.stop i).1) != 0) (fun hc38 => absurd (hc7.symm.trans hc38) (by decide)) (fun hc38 => E.C.skip (E.To.code (E.sr (E.op (.pointer (some ⟨g1, 1, none⟩)) (E.op (.pointer (some ⟨g1, 1, none⟩)) ?_))))))))))))))
   refine E.st 4 (Q.S.cells (⟨s.pc, (Q.up (Qx.u s) 0 0), s.f, s.c, s.st, s.du⟩)) rfl rfl (E.To.code (E.wk [(2, E.pt g1), (4, E.pt g2), (5, E.pt g3), (7, E.pt g5), (12, E.u (Qx.p s))] [(g5, [E.i ((Q.stop i).1), E.u ((Q.stop i).2)]), (g3, [E.i 0, E.u 0]), (g2, (Q.S.cells Q.z0)), (g1, (Q.S.cells (⟨s.pc, (Q.up (Qx.u s) 0 0), s.f, s.c, s.st, s.du⟩)))] Nz.sub (E.sr (E.op (E.u (Qx.p s)) (E.op (E.pt g1) (E.st 3 (Q.S.cells (⟨(Qx.p s), (Q.up (Qx.u s) 0 0), s.f, s.c, s.st, s.du⟩)) rfl rfl (E.tr (E.op (.pointer (some ⟨g1, 22, none⟩)) (E.li (E.i s.st) 3 rfl rfl (E.op (E.i (Qx.t s)) (E.op (.pointer (some ⟨g1, 22, none⟩)) ?_)))))))))))
   refine E.st 3 (Q.S.cells (⟨(Qx.p s), (Q.up (Qx.u s) 0 0), s.f, s.c, (Qx.t s), s.du⟩)) rfl rfl (E.To.code (E.C.seq (E.C.held (E.Hp (oo) w (A.X w oo aa [M.It m (V.sync (((Qx.a s i)).toNat / 256)) xs]) [(g5, [E.i ((Q.stop i).1), E.u ((Q.stop i).2)]), (g1, (Q.S.cells (⟨(Qx.p s), (Q.up (Qx.u s) 0 0), s.f, s.c, (Qx.t s), s.du⟩)))]) (by kernel_rfl) (E.tj 0 (Q.S.val (⟨(Qx.p s), (Q.up (Qx.u s) 0 0), s.f, s.c, (Qx.t s), s.du⟩)) rfl (fun w h => h.less Nz.sub) (fun w h => E.run_load h 1 rfl rfl (by kernel_rfl)) (E.tj 1 (.agg #[E.i ((Q.stop i).1), E.u ((Q.stop i).2)]) rfl (fun w h => h.less Nz.sub) (fun w h => E.run_load h 0 rfl rfl (by kernel_rfl)) (E.al 2 rfl (E.st 2 (Q.S.cells (⟨(Qx.p s), (Q.up (Qx.u s) 0 0), s.f, s.c, (Qx.t s), s.du⟩)) rfl rfl (E.H.back (fun w h => h.less Nz.sub) (E.al 3 rfl (E.st 1 [E.i ((Q.stop i).1), E.u ((Q.stop i).2)] rfl rfl (E.H.back (fun w h => h.less Nz.sub) ?_)))))))))))
   refine E.H.done (by kernel_rfl) (E.To.code (E.wk [(4, E.pt g2), (5, E.pt g3)] [(g3, [E.i ((Q.stop i).1), E.u ((Q.stop i).2)]), (g2, (Q.S.cells (⟨(Qx.p s), (Q.up (Qx.u s) 0 0), s.f, s.c, (Qx.t s), s.du⟩)))] Nz.sub (E.C.ret (E.To.body (fn := Tryz.f17) [Q.S.val (⟨(Qx.p s), (Q.up (Qx.u s) 0 0), s.f, s.c, (Qx.t s), s.du⟩), .agg #[E.i ((Q.stop i).1), E.u ((Q.stop i).2)]] ?_ ?_))))
   · exact ⟨⟨by kernel_rfl, _, _, 1, _, rfl, rfl, by kernel_rfl⟩, ⟨by kernel_rfl, _, _, 0, _, rfl, rfl, by kernel_rfl⟩, trivial⟩
   intro w h
   have e : (Q.stepI i k t s V) = (⟨(Qx.p s), (Q.up (Qx.u s) 0 0), s.f, s.c, (Qx.t s), s.du⟩, (Q.stop i).1, (Q.stop i).2, (V.sync (((Qx.a s i)).toNat / 256))) := by unfold Q.stepI; rw [hc6, cond_true, hc7, cond_false, hc14, cond_false, hc15, cond_false, hc19, cond_false, hc24, cond_false, hc27, cond_false, hc29, cond_false, hc31, cond_false, hc33, cond_false, hc35, cond_true, hc37, cond_false] <;> rfl
   rw [e]
   exact ⟨(), trivial, rfl, A.dq [2] [0, 1] h⟩
  refine E.sr (E.op (E.pt g4) (E.li (E.i i.op) 2 rfl rfl (E.op (.bool (i.op == 53)) (E.op (.bool (i.op == 53)) (E.To.code (E.wk [(2, E.pt g1), (4, E.pt g2), (5, E.pt g3), (6, E.pt g4), (7, E.pt g5), (8, E.pt g8), (9, E.u (Qx.d s i)), (10, E.u (Qx.a s i)), (12, E.u (Qx.p s)), (13, E.u (IntKind.wrap .u32 (s.pc + (IntKind.wrap .u32 (4 * i.imm))))), (188, .bool (i.op == 53))] [(g8, (Q.S.cells s)), (g5, [E.i ((Q.stop i).1), E.u ((Q.stop i).2)]), (g4, [E.i i.op, E.i i.d, E.i i.a, E.i i.b, E.u i.imm]), (g3, [E.i 0, E.u 0]), (g2, (Q.S.cells Q.z0)), (g1, (Q.S.cells (Qx.s s)))] Nz.sub (E.cd (i.op == 53) (fun hc39 => ?_) (fun hc39 => ?_))))))))
  ·
   refine E.C.held (E.Hp (oo) w (A.X w oo aa [M.It m V xs]) [(g8, (Q.S.cells s)), (g5, [E.i ((Q.stop i).1), E.u ((Q.stop i).2)]), (g4, [E.i i.op, E.i i.d, E.i i.a, E.i i.b, E.u i.imm]), (g3, [E.i 0, E.u 0]), (g2, (Q.S.cells Q.z0))]) (by kernel_rfl) (E.tk 0 (.pointer (some ⟨g4, 1, none⟩)) rfl (fun w h => h.less Nz.sub) (E.tj 1 (E.i i.d) rfl (fun w h => h.less Nz.sub) (fun w h => E.run_load h 2 rfl rfl (by kernel_rfl)) (E.tk 2 (.pointer (some ⟨g4, 4, none⟩)) rfl (fun w h => h.less Nz.sub) (E.tj 3 (E.u i.imm) rfl (fun w h => h.less Nz.sub) (fun w h => E.run_load h 2 rfl rfl (by kernel_rfl)) (E.tk 4 (.pointer (some ⟨g1, 18, none⟩)) rfl (fun w h => h.less Nz.sub) (E.tj 5 (.pointer (some ⟨g1, 18 + (i.imm).toNat, none⟩)) rfl (fun w h => h.less Nz.sub) (fun w h => E.idxI (e := 24) g1 18 4 .u32 i.imm (by kernel_rfl) (by kernel_rfl) (by kernel_rfl) (by kernel_rfl) (by have := (hi hc6).imm; have := (hi hc6).get hc39; omega) w) (E.tk 7 (.pointer (some ⟨g1, 1, none⟩)) rfl (fun w h => h.less Nz.sub) (E.al 6 rfl (E.vl (E.u (s.c ((i.imm).toNat))) (fun w h => E.run_load h 5 rfl rfl (Q.ld_c (by kernel_rfl) (by have := (by have := (hi hc6).imm; have := (hi hc6).get hc39; omega); omega))) (E.H.back (fun w h => h.less Nz.sub) (E.tj 8 (.pointer (some ⟨g1, 1 + (i.d).toNat, none⟩)) rfl (fun w h => h.less Nz.sub) (fun w h => E.idxI (e := 24) g1 1 16 .i64 i.d (by kernel_rfl) (by kernel_rfl) (by kernel_rfl) (by kernel_rfl) (by have := (hi hc6).d; omega) w) ?_)))))))))))
   refine E.al 9 rfl (E.G.store 5 (Q.S.cells (⟨s.pc, (Q.up (Qx.u s) (i.d).toNat (s.c ((i.imm).toNat))), s.f, s.c, s.st, s.du⟩)) rfl rfl (Q.sto_r (s := (Qx.s s)) (by kernel_rfl) (by have := (by have := (hi hc6).d; omega); omega)) (by kernel_rfl) (E.H.back (fun w h => h.less Nz.sub) (E.H.done (by kernel_rfl) (E.P.nb (E.To.code (E.wk [(2, E.pt g1), (4, E.pt g2), (5, E.pt g3), (7, E.pt g5), (8, E.pt g8), (12, E.u (Qx.p s))] [(g8, (Q.S.cells s)), (g5, [E.i ((Q.stop i).1), E.u ((Q.stop i).2)]), (g3, [E.i 0, E.u 0]), (g2, (Q.S.cells Q.z0)), (g1, (Q.S.cells (⟨s.pc, (Q.up (Qx.u s) (i.d).toNat (s.c ((i.imm).toNat))), s.f, s.c, s.st, s.du⟩)))] Nz.sub (E.C.seq (E.sr (E.op (E.pt g5) (E.li (E.i ((Q.stop i).1)) 1 rfl rfl (E.op (.bool (((Q.stop i).1) != 0)) (E.To.code ?_))))))))))))
   refine E.cd (((Q.stop i).1) != 0) (fun hc40 => absurd (hc7.symm.trans hc40) (by decide)) (fun hc40 => E.C.skip (E.To.code (E.sr (E.op (.pointer (some ⟨g1, 1, none⟩)) (E.op (.pointer (some ⟨g1, 1, none⟩)) (E.st 4 (Q.S.cells (⟨s.pc, (Q.up (Q.up (Qx.u s) (i.d).toNat (s.c ((i.imm).toNat))) 0 0), s.f, s.c, s.st, s.du⟩)) rfl rfl (E.tr (E.op (E.u (Qx.p s)) (E.op (E.pt g1) (E.st 4 (Q.S.cells (⟨(Qx.p s), (Q.up (Q.up (Qx.u s) (i.d).toNat (s.c ((i.imm).toNat))) 0 0), s.f, s.c, s.st, s.du⟩)) rfl rfl (E.To.code (E.wk [(2, E.pt g1), (4, E.pt g2), (5, E.pt g3), (7, E.pt g5)] [(g5, [E.i ((Q.stop i).1), E.u ((Q.stop i).2)]), (g3, [E.i 0, E.u 0]), (g2, (Q.S.cells Q.z0)), (g1, (Q.S.cells (⟨(Qx.p s), (Q.up (Q.up (Qx.u s) (i.d).toNat (s.c ((i.imm).toNat))) 0 0), s.f, s.c, s.st, s.du⟩)))] Nz.sub ?_))))))))))))
   refine E.sr (E.op (.pointer (some ⟨g1, 22, none⟩)) (E.li (E.i s.st) 3 rfl rfl (E.op (E.i (Qx.t s)) (E.op (.pointer (some ⟨g1, 22, none⟩)) (E.st 3 (Q.S.cells (⟨(Qx.p s), (Q.up (Q.up (Qx.u s) (i.d).toNat (s.c ((i.imm).toNat))) 0 0), s.f, s.c, (Qx.t s), s.du⟩)) rfl rfl (E.To.code (E.C.seq (E.C.held (E.Hp (oo) w (A.X w oo aa [M.It m V xs]) [(g5, [E.i ((Q.stop i).1), E.u ((Q.stop i).2)]), (g1, (Q.S.cells (⟨(Qx.p s), (Q.up (Q.up (Qx.u s) (i.d).toNat (s.c ((i.imm).toNat))) 0 0), s.f, s.c, (Qx.t s), s.du⟩)))]) (by kernel_rfl) (E.tj 0 (Q.S.val (⟨(Qx.p s), (Q.up (Q.up (Qx.u s) (i.d).toNat (s.c ((i.imm).toNat))) 0 0), s.f, s.c, (Qx.t s), s.du⟩)) rfl (fun w h => h.less Nz.sub) (fun w h => E.run_load h 1 rfl rfl (by kernel_rfl)) (E.tj 1 (.agg #[E.i ((Q.stop i).1), E.u ((Q.stop i).2)]) rfl (fun w h => h.less Nz.sub) (fun w h => E.run_load h 0 rfl rfl (by kernel_rfl)) (E.al 2 rfl ?_)))))))))))
   refine E.st 2 (Q.S.cells (⟨(Qx.p s), (Q.up (Q.up (Qx.u s) (i.d).toNat (s.c ((i.imm).toNat))) 0 0), s.f, s.c, (Qx.t s), s.du⟩)) rfl rfl (E.H.back (fun w h => h.less Nz.sub) (E.al 3 rfl (E.st 1 [E.i ((Q.stop i).1), E.u ((Q.stop i).2)] rfl rfl (E.H.back (fun w h => h.less Nz.sub) (E.H.done (by kernel_rfl) (E.To.code (E.wk [(4, E.pt g2), (5, E.pt g3)] [(g3, [E.i ((Q.stop i).1), E.u ((Q.stop i).2)]), (g2, (Q.S.cells (⟨(Qx.p s), (Q.up (Q.up (Qx.u s) (i.d).toNat (s.c ((i.imm).toNat))) 0 0), s.f, s.c, (Qx.t s), s.du⟩)))] Nz.sub (E.C.ret (E.To.body (fn := Tryz.f17) [Q.S.val (⟨(Qx.p s), (Q.up (Q.up (Qx.u s) (i.d).toNat (s.c ((i.imm).toNat))) 0 0), s.f, s.c, (Qx.t s), s.du⟩), .agg #[E.i ((Q.stop i).1), E.u ((Q.stop i).2)]] ?_ ?_)))))))))
   · exact ⟨⟨by kernel_rfl, _, _, 1, _, rfl, rfl, by kernel_rfl⟩, ⟨by kernel_rfl, _, _, 0, _, rfl, rfl, by kernel_rfl⟩, trivial⟩
   intro w h
   have e : (Q.stepI i k t s V) = (⟨(Qx.p s), (Q.up (Q.up (Qx.u s) (i.d).toNat (s.c ((i.imm).toNat))) 0 0), s.f, s.c, (Qx.t s), s.du⟩, (Q.stop i).1, (Q.stop i).2, V) := by unfold Q.stepI; rw [hc6, cond_true, hc7, cond_false, hc14, cond_false, hc15, cond_false, hc19, cond_false, hc24, cond_false, hc27, cond_false, hc29, cond_false, hc31, cond_false, hc33, cond_false, hc35, cond_false, hc39, cond_true] <;> rfl
   rw [e]
   exact ⟨(), trivial, rfl, A.dq [2] [0, 1] h⟩
  refine E.sr (E.op (E.pt g4) (E.li (E.i i.op) 2 rfl rfl (E.op (.bool (i.op == 54)) (E.op (.bool (i.op == 54)) (E.To.code (E.cd (i.op == 54) (fun hc41 => ?_) (fun hc41 => ?_)))))))
  ·
   refine E.C.region (E.op (.pointer (some ⟨g4, 4, none⟩)) (E.li (E.u i.imm) 2 rfl rfl (E.op (E.u (Qx.a s i)) (A.G.call (I := Unit) (D := fun _ => True) (V := fun _ => .tuple #[]) (q := fun _ => [A.blk g1 (Q.S.cells (Q.ctl (Qx.s s) i.imm (Qx.a s i)))]) [A.blk g8 (Q.S.cells s), A.blk g5 ([E.i ((Q.stop i).1), E.u ((Q.stop i).2)]), A.blk g4 ([E.i i.op, E.i i.d, E.i i.a, E.i i.b, E.u i.imm]), A.blk g3 ([E.i 0, E.u 0]), A.blk g2 (Q.S.cells Q.z0), M.It m V xs] (fun _ => [(g1, (Q.S.cells (Q.ctl (Qx.s s) i.imm (Qx.a s i)))), (g8, (Q.S.cells s)), (g5, [E.i ((Q.stop i).1), E.u ((Q.stop i).2)]), (g4, [E.i i.op, E.i i.d, E.i i.a, E.i i.b, E.u i.imm]), (g3, [E.i 0, E.u 0]), (g2, (Q.S.cells Q.z0))]) (fun _ => [M.It m V xs]) (Control (g := g1) (Qx.s s) i.imm (Qx.a s i) (hi hc6).imm) (by kernel_rfl) (A.pn [5, 0, 1, 2, 3, 4, 6]) (fun _ => A.pm [0, 1, 2, 3, 4, 5, 6] (by kernel_rfl) (by kernel_rfl)) (fun w _ => by kernel_rfl) (by kernel_rfl) (fun _ hd42 => E.P.nb (E.To.code (E.wk [(2, E.pt g1), (4, E.pt g2), (5, E.pt g3), (7, E.pt g5), (8, E.pt g8), (12, E.u (Qx.p s))] [(g1, (Q.S.cells (Q.ctl (Qx.s s) i.imm (Qx.a s i)))), (g8, (Q.S.cells s)), (g5, [E.i ((Q.stop i).1), E.u ((Q.stop i).2)]), (g3, [E.i 0, E.u 0]), (g2, (Q.S.cells Q.z0))] Nz.sub (E.C.seq (E.sr (E.op (E.pt g5) (E.li (E.i ((Q.stop i).1)) 2 rfl rfl (E.op (.bool (((Q.stop i).1) != 0)) ?_))))))))))))
   refine E.To.code (E.cd (((Q.stop i).1) != 0) (fun hc43 => absurd (hc7.symm.trans hc43) (by decide)) (fun hc43 => E.C.skip (E.To.code (E.sr (E.op (.pointer (some ⟨g1, 1, none⟩)) (E.op (.pointer (some ⟨g1, 1, none⟩)) (E.st 0 (Q.S.cells (⟨(Q.ctl (Qx.s s) i.imm (Qx.a s i)).pc, (Q.up ((Q.ctl (Qx.s s) i.imm (Qx.a s i)).r) 0 0), (Q.ctl (Qx.s s) i.imm (Qx.a s i)).f, (Q.ctl (Qx.s s) i.imm (Qx.a s i)).c, (Q.ctl (Qx.s s) i.imm (Qx.a s i)).st, (Q.ctl (Qx.s s) i.imm (Qx.a s i)).du⟩)) rfl rfl (E.tr (E.op (E.u (Qx.p s)) (E.op (E.pt g1) (E.st 0 (Q.S.cells (⟨(Qx.p s), (Q.up ((Q.ctl (Qx.s s) i.imm (Qx.a s i)).r) 0 0), (Q.ctl (Qx.s s) i.imm (Qx.a s i)).f, (Q.ctl (Qx.s s) i.imm (Qx.a s i)).c, (Q.ctl (Qx.s s) i.imm (Qx.a s i)).st, (Q.ctl (Qx.s s) i.imm (Qx.a s i)).du⟩)) rfl rfl (E.To.code ?_))))))))))))
   refine E.wk [(2, E.pt g1), (4, E.pt g2), (5, E.pt g3), (7, E.pt g5)] [(g1, (Q.S.cells (⟨(Qx.p s), (Q.up ((Q.ctl (Qx.s s) i.imm (Qx.a s i)).r) 0 0), (Q.ctl (Qx.s s) i.imm (Qx.a s i)).f, (Q.ctl (Qx.s s) i.imm (Qx.a s i)).c, (Q.ctl (Qx.s s) i.imm (Qx.a s i)).st, (Q.ctl (Qx.s s) i.imm (Qx.a s i)).du⟩))), (g5, [E.i ((Q.stop i).1), E.u ((Q.stop i).2)]), (g3, [E.i 0, E.u 0]), (g2, (Q.S.cells Q.z0))] Nz.sub (E.sr (E.op (.pointer (some ⟨g1, 22, none⟩)) (E.li (E.i ((Q.ctl (Qx.s s) i.imm (Qx.a s i)).st)) 0 rfl rfl (E.op (E.i (IntKind.wrap .i64 (((Q.ctl (Qx.s s) i.imm (Qx.a s i)).st) + 1))) (E.op (.pointer (some ⟨g1, 22, none⟩)) (E.st 0 (Q.S.cells (⟨(Qx.p s), (Q.up ((Q.ctl (Qx.s s) i.imm (Qx.a s i)).r) 0 0), (Q.ctl (Qx.s s) i.imm (Qx.a s i)).f, (Q.ctl (Qx.s s) i.imm (Qx.a s i)).c, (IntKind.wrap .i64 (((Q.ctl (Qx.s s) i.imm (Qx.a s i)).st) + 1)), (Q.ctl (Qx.s s) i.imm (Qx.a s i)).du⟩)) rfl rfl (E.To.code (E.C.seq (E.C.held (E.Hp (oo) w (A.X w oo aa [M.It m V xs]) [(g1, (Q.S.cells (⟨(Qx.p s), (Q.up ((Q.ctl (Qx.s s) i.imm (Qx.a s i)).r) 0 0), (Q.ctl (Qx.s s) i.imm (Qx.a s i)).f, (Q.ctl (Qx.s s) i.imm (Qx.a s i)).c, (IntKind.wrap .i64 (((Q.ctl (Qx.s s) i.imm (Qx.a s i)).st) + 1)), (Q.ctl (Qx.s s) i.imm (Qx.a s i)).du⟩))), (g5, [E.i ((Q.stop i).1), E.u ((Q.stop i).2)])]) (by kernel_rfl) (E.tj 0 (Q.S.val (⟨(Qx.p s), (Q.up ((Q.ctl (Qx.s s) i.imm (Qx.a s i)).r) 0 0), (Q.ctl (Qx.s s) i.imm (Qx.a s i)).f, (Q.ctl (Qx.s s) i.imm (Qx.a s i)).c, (IntKind.wrap .i64 (((Q.ctl (Qx.s s) i.imm (Qx.a s i)).st) + 1)), (Q.ctl (Qx.s s) i.imm (Qx.a s i)).du⟩)) rfl (fun w h => h.less Nz.sub) (fun w h => E.run_load h 0 rfl rfl (by kernel_rfl)) (E.tj 1 (.agg #[E.i ((Q.stop i).1), E.u ((Q.stop i).2)]) rfl (fun w h => h.less Nz.sub) (fun w h => E.run_load h 1 rfl rfl (by kernel_rfl)) ?_)))))))))))
   refine E.al 2 rfl (E.st 3 (Q.S.cells (⟨(Qx.p s), (Q.up ((Q.ctl (Qx.s s) i.imm (Qx.a s i)).r) 0 0), (Q.ctl (Qx.s s) i.imm (Qx.a s i)).f, (Q.ctl (Qx.s s) i.imm (Qx.a s i)).c, (IntKind.wrap .i64 (((Q.ctl (Qx.s s) i.imm (Qx.a s i)).st) + 1)), (Q.ctl (Qx.s s) i.imm (Qx.a s i)).du⟩)) rfl rfl (E.H.back (fun w h => h.less Nz.sub) (E.al 3 rfl (E.st 2 [E.i ((Q.stop i).1), E.u ((Q.stop i).2)] rfl rfl (E.H.back (fun w h => h.less Nz.sub) (E.H.done (by kernel_rfl) (E.To.code (E.wk [(4, E.pt g2), (5, E.pt g3)] [(g3, [E.i ((Q.stop i).1), E.u ((Q.stop i).2)]), (g2, (Q.S.cells (⟨(Qx.p s), (Q.up ((Q.ctl (Qx.s s) i.imm (Qx.a s i)).r) 0 0), (Q.ctl (Qx.s s) i.imm (Qx.a s i)).f, (Q.ctl (Qx.s s) i.imm (Qx.a s i)).c, (IntKind.wrap .i64 (((Q.ctl (Qx.s s) i.imm (Qx.a s i)).st) + 1)), (Q.ctl (Qx.s s) i.imm (Qx.a s i)).du⟩)))] Nz.sub (E.C.ret (E.To.body (fn := Tryz.f17) [Q.S.val (⟨(Qx.p s), (Q.up ((Q.ctl (Qx.s s) i.imm (Qx.a s i)).r) 0 0), (Q.ctl (Qx.s s) i.imm (Qx.a s i)).f, (Q.ctl (Qx.s s) i.imm (Qx.a s i)).c, (IntKind.wrap .i64 (((Q.ctl (Qx.s s) i.imm (Qx.a s i)).st) + 1)), (Q.ctl (Qx.s s) i.imm (Qx.a s i)).du⟩), .agg #[E.i ((Q.stop i).1), E.u ((Q.stop i).2)]] ?_ ?_))))))))))
   · exact ⟨⟨by kernel_rfl, _, _, 1, _, rfl, rfl, by kernel_rfl⟩, ⟨by kernel_rfl, _, _, 0, _, rfl, rfl, by kernel_rfl⟩, trivial⟩
   intro w h
   have e : (Q.stepI i k t s V) = (⟨(Qx.p s), (Q.up ((Q.ctl (Qx.s s) i.imm (Qx.a s i)).r) 0 0), (Q.ctl (Qx.s s) i.imm (Qx.a s i)).f, (Q.ctl (Qx.s s) i.imm (Qx.a s i)).c, (IntKind.wrap .i64 (((Q.ctl (Qx.s s) i.imm (Qx.a s i)).st) + 1)), (Q.ctl (Qx.s s) i.imm (Qx.a s i)).du⟩, (Q.stop i).1, (Q.stop i).2, V) := by unfold Q.stepI; rw [hc6, cond_true, hc7, cond_false, hc14, cond_false, hc15, cond_false, hc19, cond_false, hc24, cond_false, hc27, cond_false, hc29, cond_false, hc31, cond_false, hc33, cond_false, hc35, cond_false, hc39, cond_false, hc41, cond_true] <;> rfl
   rw [e]
   exact ⟨(), trivial, rfl, A.dq [2] [0, 1] h⟩
  refine E.sr (E.op (E.pt g4) (E.li (E.i i.op) 2 rfl rfl (E.op (E.u (Qx.d s i)) (E.op (E.u (Qx.a s i)) (E.G.call (.bool (Q.taken i.op (Qx.d s i) (Qx.a s i))) (fun w h => taken_any i.op (Qx.d s i) (Qx.a s i) (Q.up_bd hs.r (by decide) _) (Q.up_bd hs.r (by decide) _) w) (fun w _ => by kernel_rfl) (by kernel_rfl) (E.op (.bool (Q.taken i.op (Qx.d s i) (Qx.a s i))) (E.To.code (E.wk [(2, E.pt g1), (4, E.pt g2), (5, E.pt g3), (7, E.pt g5), (8, E.pt g8), (12, E.u (Qx.p s)), (13, E.u (IntKind.wrap .u32 (s.pc + (IntKind.wrap .u32 (4 * i.imm))))), (209, .bool (Q.taken i.op (Qx.d s i) (Qx.a s i)))] [(g8, (Q.S.cells s)), (g5, [E.i ((Q.stop i).1), E.u ((Q.stop i).2)]), (g3, [E.i 0, E.u 0]), (g2, (Q.S.cells Q.z0)), (g1, (Q.S.cells (Qx.s s)))] Nz.sub (E.cd (Q.taken i.op ((Q.up s.r 0 0) ((i.d).toNat)) ((Q.up s.r 0 0) ((i.a).toNat))) (fun hc44 => ?_) (fun hc44 => ?_))))))))))
  ·
   refine E.C.region (E.op (E.u (IntKind.wrap .u32 (s.pc + (IntKind.wrap .u32 (4 * i.imm))))) (E.op (E.u (IntKind.wrap .u32 (s.pc + (IntKind.wrap .u32 (4 * i.imm))))) (E.P.nb (E.To.code (E.C.seq (E.sr (E.op (E.pt g5) (E.li (E.i ((Q.stop i).1)) 1 rfl rfl (E.op (.bool (((Q.stop i).1) != 0)) (E.To.code (E.cd (((Q.stop i).1) != 0) (fun hc45 => absurd (hc7.symm.trans hc45) (by decide)) (fun hc45 => E.C.skip (E.To.code ?_)))))))))))))
   refine E.sr (E.op (.pointer (some ⟨g1, 1, none⟩)) (E.op (.pointer (some ⟨g1, 1, none⟩)) (E.st 4 (Q.S.cells (⟨s.pc, (Q.up (Qx.u s) 0 0), s.f, s.c, s.st, s.du⟩)) rfl rfl (E.To.code (E.wk [(2, E.pt g1), (4, E.pt g2), (5, E.pt g3), (7, E.pt g5), (12, E.u (IntKind.wrap .u32 (s.pc + (IntKind.wrap .u32 (4 * i.imm)))))] [(g5, [E.i ((Q.stop i).1), E.u ((Q.stop i).2)]), (g3, [E.i 0, E.u 0]), (g2, (Q.S.cells Q.z0)), (g1, (Q.S.cells (⟨s.pc, (Q.up (Qx.u s) 0 0), s.f, s.c, s.st, s.du⟩)))] Nz.sub (E.sr (E.op (E.u (IntKind.wrap .u32 (s.pc + (IntKind.wrap .u32 (4 * i.imm))))) (E.op (E.pt g1) (E.st 3 (Q.S.cells (⟨(IntKind.wrap .u32 (s.pc + (IntKind.wrap .u32 (4 * i.imm)))), (Q.up (Qx.u s) 0 0), s.f, s.c, s.st, s.du⟩)) rfl rfl (E.tr (E.op (.pointer (some ⟨g1, 22, none⟩)) ?_)))))))))))
   refine E.li (E.i s.st) 3 rfl rfl (E.op (E.i (Qx.t s)) (E.op (.pointer (some ⟨g1, 22, none⟩)) (E.st 3 (Q.S.cells (⟨(IntKind.wrap .u32 (s.pc + (IntKind.wrap .u32 (4 * i.imm)))), (Q.up (Qx.u s) 0 0), s.f, s.c, (Qx.t s), s.du⟩)) rfl rfl (E.To.code (E.C.seq (E.C.held (E.Hp (oo) w (A.X w oo aa [M.It m V xs]) [(g5, [E.i ((Q.stop i).1), E.u ((Q.stop i).2)]), (g1, (Q.S.cells (⟨(IntKind.wrap .u32 (s.pc + (IntKind.wrap .u32 (4 * i.imm)))), (Q.up (Qx.u s) 0 0), s.f, s.c, (Qx.t s), s.du⟩)))]) (by kernel_rfl) (E.tj 0 (Q.S.val (⟨(IntKind.wrap .u32 (s.pc + (IntKind.wrap .u32 (4 * i.imm)))), (Q.up (Qx.u s) 0 0), s.f, s.c, (Qx.t s), s.du⟩)) rfl (fun w h => h.less Nz.sub) (fun w h => E.run_load h 1 rfl rfl (by kernel_rfl)) (E.tj 1 (.agg #[E.i ((Q.stop i).1), E.u ((Q.stop i).2)]) rfl (fun w h => h.less Nz.sub) (fun w h => E.run_load h 0 rfl rfl (by kernel_rfl)) (E.al 2 rfl (E.st 2 (Q.S.cells (⟨(IntKind.wrap .u32 (s.pc + (IntKind.wrap .u32 (4 * i.imm)))), (Q.up (Qx.u s) 0 0), s.f, s.c, (Qx.t s), s.du⟩)) rfl rfl (E.H.back (fun w h => h.less Nz.sub) ?_)))))))))))
   refine E.al 3 rfl (E.st 1 [E.i ((Q.stop i).1), E.u ((Q.stop i).2)] rfl rfl (E.H.back (fun w h => h.less Nz.sub) (E.H.done (by kernel_rfl) (E.To.code (E.wk [(4, E.pt g2), (5, E.pt g3)] [(g3, [E.i ((Q.stop i).1), E.u ((Q.stop i).2)]), (g2, (Q.S.cells (⟨(IntKind.wrap .u32 (s.pc + (IntKind.wrap .u32 (4 * i.imm)))), (Q.up (Qx.u s) 0 0), s.f, s.c, (Qx.t s), s.du⟩)))] Nz.sub (E.C.ret (E.To.body (fn := Tryz.f17) [Q.S.val (⟨(IntKind.wrap .u32 (s.pc + (IntKind.wrap .u32 (4 * i.imm)))), (Q.up (Qx.u s) 0 0), s.f, s.c, (Qx.t s), s.du⟩), .agg #[E.i ((Q.stop i).1), E.u ((Q.stop i).2)]] ?_ ?_)))))))
   · exact ⟨⟨by kernel_rfl, _, _, 1, _, rfl, rfl, by kernel_rfl⟩, ⟨by kernel_rfl, _, _, 0, _, rfl, rfl, by kernel_rfl⟩, trivial⟩
   intro w h
   have e : (Q.stepI i k t s V) = (⟨(IntKind.wrap .u32 (s.pc + (IntKind.wrap .u32 (4 * i.imm)))), (Q.up (Qx.u s) 0 0), s.f, s.c, (Qx.t s), s.du⟩, (Q.stop i).1, (Q.stop i).2, V) := by unfold Q.stepI; rw [hc6, cond_true, hc7, cond_false, hc14, cond_false, hc15, cond_false, hc19, cond_false, hc24, cond_false, hc27, cond_false, hc29, cond_false, hc31, cond_false, hc33, cond_false, hc35, cond_false, hc39, cond_false, hc41, cond_false, hc44, cond_true] <;> rfl
   rw [e]
   exact ⟨(), trivial, rfl, A.dq [2] [0, 1] h⟩
  refine E.C.skip (E.P.nb (E.To.code (E.C.seq (E.sr (E.op (E.pt g5) (E.li (E.i ((Q.stop i).1)) 1 rfl rfl (E.op (.bool (((Q.stop i).1) != 0)) (E.To.code (E.cd (((Q.stop i).1) != 0) (fun hc46 => absurd (hc7.symm.trans hc46) (by decide)) (fun hc46 => E.C.skip (E.To.code (E.sr (E.op (.pointer (some ⟨g1, 1, none⟩)) (E.op (.pointer (some ⟨g1, 1, none⟩)) ?_))))))))))))))
  refine E.st 4 (Q.S.cells (⟨s.pc, (Q.up (Qx.u s) 0 0), s.f, s.c, s.st, s.du⟩)) rfl rfl (E.To.code (E.wk [(2, E.pt g1), (4, E.pt g2), (5, E.pt g3), (7, E.pt g5), (12, E.u (Qx.p s))] [(g5, [E.i ((Q.stop i).1), E.u ((Q.stop i).2)]), (g3, [E.i 0, E.u 0]), (g2, (Q.S.cells Q.z0)), (g1, (Q.S.cells (⟨s.pc, (Q.up (Qx.u s) 0 0), s.f, s.c, s.st, s.du⟩)))] Nz.sub (E.sr (E.op (E.u (Qx.p s)) (E.op (E.pt g1) (E.st 3 (Q.S.cells (⟨(Qx.p s), (Q.up (Qx.u s) 0 0), s.f, s.c, s.st, s.du⟩)) rfl rfl (E.tr (E.op (.pointer (some ⟨g1, 22, none⟩)) (E.li (E.i s.st) 3 rfl rfl (E.op (E.i (Qx.t s)) (E.op (.pointer (some ⟨g1, 22, none⟩)) ?_)))))))))))
  refine E.st 3 (Q.S.cells (⟨(Qx.p s), (Q.up (Qx.u s) 0 0), s.f, s.c, (Qx.t s), s.du⟩)) rfl rfl (E.To.code (E.C.seq (E.C.held (E.Hp (oo) w (A.X w oo aa [M.It m V xs]) [(g5, [E.i ((Q.stop i).1), E.u ((Q.stop i).2)]), (g1, (Q.S.cells (⟨(Qx.p s), (Q.up (Qx.u s) 0 0), s.f, s.c, (Qx.t s), s.du⟩)))]) (by kernel_rfl) (E.tj 0 (Q.S.val (⟨(Qx.p s), (Q.up (Qx.u s) 0 0), s.f, s.c, (Qx.t s), s.du⟩)) rfl (fun w h => h.less Nz.sub) (fun w h => E.run_load h 1 rfl rfl (by kernel_rfl)) (E.tj 1 (.agg #[E.i ((Q.stop i).1), E.u ((Q.stop i).2)]) rfl (fun w h => h.less Nz.sub) (fun w h => E.run_load h 0 rfl rfl (by kernel_rfl)) (E.al 2 rfl (E.st 2 (Q.S.cells (⟨(Qx.p s), (Q.up (Qx.u s) 0 0), s.f, s.c, (Qx.t s), s.du⟩)) rfl rfl (E.H.back (fun w h => h.less Nz.sub) (E.al 3 rfl (E.st 1 [E.i ((Q.stop i).1), E.u ((Q.stop i).2)] rfl rfl (E.H.back (fun w h => h.less Nz.sub) ?_)))))))))))
  refine E.H.done (by kernel_rfl) (E.To.code (E.wk [(4, E.pt g2), (5, E.pt g3)] [(g3, [E.i ((Q.stop i).1), E.u ((Q.stop i).2)]), (g2, (Q.S.cells (⟨(Qx.p s), (Q.up (Qx.u s) 0 0), s.f, s.c, (Qx.t s), s.du⟩)))] Nz.sub (E.C.ret (E.To.body (fn := Tryz.f17) [Q.S.val (⟨(Qx.p s), (Q.up (Qx.u s) 0 0), s.f, s.c, (Qx.t s), s.du⟩), .agg #[E.i ((Q.stop i).1), E.u ((Q.stop i).2)]] ?_ ?_))))
  · exact ⟨⟨by kernel_rfl, _, _, 1, _, rfl, rfl, by kernel_rfl⟩, ⟨by kernel_rfl, _, _, 0, _, rfl, rfl, by kernel_rfl⟩, trivial⟩
  intro w h
  have e : (Q.stepI i k t s V) = (⟨(Qx.p s), (Q.up (Qx.u s) 0 0), s.f, s.c, (Qx.t s), s.du⟩, (Q.stop i).1, (Q.stop i).2, V) := by unfold Q.stepI; rw [hc6, cond_true, hc7, cond_false, hc14, cond_false, hc15, cond_false, hc19, cond_false, hc24, cond_false, hc27, cond_false, hc29, cond_false, hc31, cond_false, hc33, cond_false, hc35, cond_false, hc39, cond_false, hc41, cond_false, hc44, cond_false] <;> rfl
  rw [e]
  exact ⟨(), trivial, rfl, A.dq [2] [0, 1] h⟩
 refine E.C.skip (E.To.code (E.C.seq (E.sr (E.op (E.pt g5) (E.li (E.i k) 0 rfl rfl (E.vl (.bool true) (fun w h => E.run_as (a := .bool (k != 0)) (by kernel_rfl) (congrArg Value.bool (Q.ne_of hc6))) (E.To.code (E.C.condT (by kernel_rfl) (by kernel_rfl) (E.C.seq (E.C.held (E.Hp (oo) w (A.X w oo aa [M.It m V xs]) [(g5, [E.i k, E.u t]), (g4, [E.i i.op, E.i i.d, E.i i.a, E.i i.b, E.u i.imm]), (g1, (Q.S.cells s))]) (by kernel_rfl) (E.tj 0 (Q.S.val s) rfl (fun w h => h.less Nz.sub) (fun w h => E.run_load h 2 rfl rfl (by kernel_rfl)) (E.tj 1 (.agg #[E.i k, E.u t]) rfl (fun w h => h.less Nz.sub) (fun w h => E.run_load h 0 rfl rfl (by kernel_rfl)) ?_))))))))))))
 refine E.al 2 rfl (E.st 3 (Q.S.cells s) rfl rfl (E.H.back (fun w h => h.less Nz.sub) (E.al 3 rfl (E.st 2 [E.i k, E.u t] rfl rfl (E.H.back (fun w h => h.less Nz.sub) (E.H.done (by kernel_rfl) (E.To.code (E.wk [(1, .iface 36 (E.pt m)), (2, E.pt g1), (4, E.pt g2), (5, E.pt g3), (6, E.pt g4), (7, E.pt g5)] [(g5, [E.i k, E.u t]), (g4, [E.i i.op, E.i i.d, E.i i.a, E.i i.b, E.u i.imm]), (g3, [E.i k, E.u t]), (g2, (Q.S.cells s)), (g1, (Q.S.cells s))] Nz.sub (E.C.ret (E.P.rt (E.To.body (fn := Tryz.f17) [Q.S.val s, .agg #[E.i k, E.u t]] ?_ ?_)))))))))))
 · exact ⟨⟨by kernel_rfl, _, _, 3, _, rfl, rfl, by kernel_rfl⟩, ⟨by kernel_rfl, _, _, 2, _, rfl, rfl, by kernel_rfl⟩, trivial⟩
 intro w h
 have e : (Q.stepI i k t s V) = (s, k, t, V) := by unfold Q.stepI; rw [hc6, cond_false] <;> rfl
 rw [e]
 exact ⟨(), trivial, rfl, A.dq [5] [0, 1, 2, 3, 4] h⟩
/-- Cells behind a header. -/
def M.Xc (m : Nat) (xs : List Value) (w : World) : Prop := ∀ i v, xs[i]? = some v → w.cell? ⟨m, 2 + i, none⟩ = some v
theorem A.Y.xc {its : List A.It} {w : World} {m k : Nat} {V : M.V} {xs : List Value} (h : A.Y its w) (hk : its[k]? = some (M.It m V xs)) : M.Xc m xs w := by
  obtain ⟨o1, a1, b, hm, hs, hV, hc, _⟩ := h.get hk
  exact hc
theorem M.Xc.ld {P : Program} {fr : E.Fr} {d : Option Nat} {T t : TypeId} {pos : String} {af : Array Edge} {gd : Option (Nat × Bool)} {w : World} {x : Operand} {m j : Nat} {xs : List Value} {v : Value} (h : M.Xc m xs w) (hx : E.ev fr x = .pointer (some ⟨m, 2 + j, none⟩)) (hv : E.ld P t xs j = some v) :
    (execOp (E.ev fr) ⟨d, .load t x, T, pos, af, gd⟩).run P w = .ok (.value v) w := by
  have := E.ld_run_at (P := P) (w := w) (t := t) h hv
  show (do let r ← Instr.loadAt t (E.ev fr x); pure (Next.value r)).run P w = _
  rw [hx]; simp [this]
theorem CState {c : Nat} {V : M.V} (s : Q.S) : A.Rd Tryz.prog 28 #[.pointer (some ⟨c, 0, none⟩)] [M.It c V (Q.S.cells s)] (Q.S.val s) := by
 intro w oo aa hh
 refine E.enter (n := 7) (S := fun _ => False) Tryz.func28 rfl rfl (by kernel_rfl) (A.startY hh) (E.sr (E.G.new (fun g => E.pt g) (Q.S.cells Q.z0) 32 (fun w => by kernel_rfl) (by kernel_rfl) (fun g1 => E.tr (E.op (E.pt c) (E.op (E.pt c) (E.op (.pointer (some ⟨c, 2, none⟩)) (E.vl (Q.S.val s) (fun w h => A.Y.xld h.x (k := 0) (j := 0) rfl (by kernel_rfl) (by kernel_rfl)) (E.st 0 (Q.S.cells s) rfl rfl (E.To.code (E.C.ret (E.To.body (fn := Tryz.f28) [Q.S.val s] ?_ ?_)))))))))))
 · exact ⟨⟨by kernel_rfl, _, _, 0, _, rfl, rfl, by kernel_rfl⟩, trivial⟩
 intro w h
 exact ⟨rfl, h.ch.bel (fun _ h => h.elim)⟩
def Q.norm (s : Q.S) : Q.S := ⟨s.pc, (Q.up s.r 0 0), 0, s.c, (if 0 > s.st then 0 else s.st), (if 0 > s.du then 0 else s.du)⟩
theorem CSet {c : Nat} {V : M.V} {s0 : Q.S} (s : Q.S)  : A.Tr Tryz.prog 62 #[.pointer (some ⟨c, 0, none⟩), Q.S.val s] [M.It c V (Q.S.cells s0)] (I := Unit) (fun _ => True) (fun _ => .tuple #[]) (fun _ => [M.It c V (Q.S.cells (Q.norm s))]) := by
 intro w oo aa hh
 refine E.enter (n := 19) (S := oo) Tryz.func62 rfl rfl (by kernel_rfl) (A.start (L := []) hh) (E.sr (E.G.new (fun g => E.pt g) (Q.S.cells s) 32 (fun w => by kernel_rfl) (by kernel_rfl) (fun g1 => E.tr (E.op (.pointer (some ⟨g1, 1, none⟩)) (E.op (.pointer (some ⟨g1, 1, none⟩)) (E.st 0 (Q.S.cells (⟨s.pc, (Q.up s.r 0 0), s.f, s.c, s.st, s.du⟩)) rfl rfl (E.op (.pointer (some ⟨g1, 17, none⟩)) (E.st 0 (Q.S.cells (⟨s.pc, (Q.up s.r 0 0), 0, s.c, s.st, s.du⟩)) rfl rfl (E.tr (E.op (.pointer (some ⟨g1, 22, none⟩)) (E.li (E.i s.st) 0 rfl rfl ?_)))))))))))
 refine E.op (E.i (if 0 > s.st then 0 else s.st)) (E.op (.pointer (some ⟨g1, 23, none⟩)) (E.li (E.i s.du) 0 rfl rfl (E.op (E.i (if 0 > s.du then 0 else s.du)) (E.op (.pointer (some ⟨g1, 22, none⟩)) (E.st 0 (Q.S.cells (⟨s.pc, (Q.up s.r 0 0), 0, s.c, (if 0 > s.st then 0 else s.st), s.du⟩)) rfl rfl (E.op (.pointer (some ⟨g1, 23, none⟩)) (E.st 0 (Q.S.cells (⟨s.pc, (Q.up s.r 0 0), 0, s.c, (if 0 > s.st then 0 else s.st), (if 0 > s.du then 0 else s.du)⟩)) rfl rfl (E.To.code (E.wk [(0, E.pt c), (3, E.pt g1)] [(g1, (Q.S.cells (⟨s.pc, (Q.up s.r 0 0), 0, s.c, (if 0 > s.st then 0 else s.st), (if 0 > s.du then 0 else s.du)⟩)))] Nz.sub (E.C.region (E.op (E.pt c) ?_)))))))))))
 refine E.li (Q.S.val (⟨s.pc, (Q.up s.r 0 0), 0, s.c, (if 0 > s.st then 0 else s.st), (if 0 > s.du then 0 else s.du)⟩)) 0 rfl rfl (E.op (E.pt c) (E.op (.pointer (some ⟨c, 2, none⟩)) (A.G.openM (m := c) (V := V) (xs := (Q.S.cells s0)) (fun b2 => [(c, (M.hdr b2 ++ (Q.S.cells s0))), (g1, (Q.S.cells (⟨s.pc, (Q.up s.r 0 0), 0, s.c, (if 0 > s.st then 0 else s.st), (if 0 > s.du then 0 else s.du)⟩)))]) (fun b2 => [M.Bd b2 V]) [A.blk g1 (Q.S.cells (⟨s.pc, (Q.up s.r 0 0), 0, s.c, (if 0 > s.st then 0 else s.st), (if 0 > s.du then 0 else s.du)⟩))] (by kernel_rfl) (A.pn [1, 0]) (fun b2 => A.pm [0, 2, 1] (by kernel_rfl) (by kernel_rfl)) (fun b2 => E.st 0 (M.hdr b2 ++ (Q.S.cells (⟨s.pc, (Q.up s.r 0 0), 0, s.c, (if 0 > s.st then 0 else s.st), (if 0 > s.du then 0 else s.du)⟩))) rfl rfl (A.G.closeM (b := b2) (m := c) (V := V) (xs := (Q.S.cells (⟨s.pc, (Q.up s.r 0 0), 0, s.c, (if 0 > s.st then 0 else s.st), (if 0 > s.du then 0 else s.du)⟩))) [(g1, (Q.S.cells (⟨s.pc, (Q.up s.r 0 0), 0, s.c, (if 0 > s.st then 0 else s.st), (if 0 > s.du then 0 else s.du)⟩)))] [M.It c V (Q.S.cells (⟨s.pc, (Q.up s.r 0 0), 0, s.c, (if 0 > s.st then 0 else s.st), (if 0 > s.du then 0 else s.du)⟩))] [A.blk g1 (Q.S.cells (⟨s.pc, (Q.up s.r 0 0), 0, s.c, (if 0 > s.st then 0 else s.st), (if 0 > s.du then 0 else s.du)⟩))] (by kernel_rfl) (A.pn [0, 2, 1]) (A.pn [1, 0]) (E.To.bodyN (fn := Tryz.f62) [] ?_ ?_))))))
 · exact trivial
 intro w h
 have e : (Q.norm s) = ⟨s.pc, (Q.up s.r 0 0), 0, s.c, (if 0 > s.st then 0 else s.st), (if 0 > s.du then 0 else s.du)⟩ := by unfold Q.norm; rfl
 rw [e]
 exact ⟨(), trivial, rfl, A.dq [1] [0] h⟩
theorem CNew (n : Int) : A.Tr Tryz.prog 40 #[.int .i64 n] [] (I := Nat) (fun _ => True) (fun g => .pointer (some ⟨g, 0, none⟩)) (fun g => [M.It g (M.V.new (M.np n) false) (Q.S.cells Q.z0)]) := by
 intro w oo aa hh
 refine E.enter (n := 9) (S := oo) Tryz.func40 rfl rfl (by kernel_rfl) (A.start (L := []) hh) (E.sr (E.op (.pointer none) (E.tr (E.op (E.i n) (A.G.call (I := Nat) (D := fun m1 => True) (V := fun m1 => E.pt m1) (q := fun m1 => [M.It m1 (M.V.new (M.np n) false) ([])]) [] (fun m1 => []) (fun m1 => [M.It m1 (M.V.new (M.np n) false) ([])]) (A_New n false) (by kernel_rfl) (A.pn []) (fun m1 => A.pm [0] (by kernel_rfl) (by kernel_rfl)) (fun w _ => by kernel_rfl) (by kernel_rfl) (fun m1 hd2 => E.op (E.pt m1) (A.G.openM (m := m1) (V := (M.V.new (M.np n) false)) (xs := []) (fun b3 => [(m1, M.hdr b3 ++ [])]) (fun b3 => [M.Bd b3 (M.V.new (M.np n) false)]) [] (by kernel_rfl) (A.pn [0]) (fun b3 => A.pm [0, 1] (by kernel_rfl) (by kernel_rfl)) (fun b3 => E.li (.agg #[.slice b3.ao b3.sl.length b3.cap, .bool b3.coh]) 0 rfl rfl (E.vl (.agg #[.slice b3.ao b3.sl.length b3.cap, .bool b3.coh, E.u 0, E.u 0, E.u 0, E.u 0, E.u 0, E.u 0, E.u 0, E.u 0, E.u 0, E.u 0, E.u 0, E.u 0, E.u 0, E.u 0, E.u 0, E.u 0, E.u 0, E.u 0, E.u 0, E.u 0, E.u 0, E.u 0, E.i 0, E.i 0]) (fun w h => E.run_build #[.slice b3.ao b3.sl.length b3.cap, .bool b3.coh, E.u 0, E.u 0, E.u 0, E.u 0, E.u 0, E.u 0, E.u 0, E.u 0, E.u 0, E.u 0, E.u 0, E.u 0, E.u 0, E.u 0, E.u 0, E.u 0, E.u 0, E.u 0, E.u 0, E.u 0, E.u 0, E.u 0, E.i 0, E.i 0] (by kernel_rfl) w) (E.G.new (fun g => E.pt g) [.slice b3.ao b3.sl.length b3.cap, .bool b3.coh, E.u 0, E.u 0, E.u 0, E.u 0, E.u 0, E.u 0, E.u 0, E.u 0, E.u 0, E.u 0, E.u 0, E.u 0, E.u 0, E.u 0, E.u 0, E.u 0, E.u 0, E.u 0, E.u 0, E.u 0, E.u 0, E.u 0, E.i 0, E.i 0] 90 (fun w => by kernel_rfl) (by kernel_rfl) (fun g4 => E.op (E.pt g4) ?_)))))))))))
 refine E.To.code (E.C.ret (E.bd Tryz.f40 [E.pt g4] ?_))
 intro w h
 have h := A.closeHp (m := g4) (b := b3) (V := (M.V.new (M.np n) false)) (xs := (Q.S.cells Q.z0)) (r := [A.blk m1 ([.slice b3.ao b3.sl.length b3.cap, .bool b3.coh])]) (L2 := [(m1, [.slice b3.ao b3.sl.length b3.cap, .bool b3.coh])]) (its2 := [M.It g4 (M.V.new (M.np n) false) (Q.S.cells Q.z0)]) (by kernel_rfl) (A.pn [0, 2, 1]) (A.pn [1, 0]) h
 exact ⟨g4, trivial, rfl, A.dq [1] [0] h⟩
theorem Q.bifP {α : Type} {p : α → Prop} {c : Bool} {a b : α} (ha : c = true → p a) (hb : c = false → p b) : p (bif c then a else b) := by
  cases c
  · exact hb rfl
  · exact ha rfl
theorem Q.fits_bd {n : Int} {u : Bool} (h : Q.fits n u = true) : 0 ≤ n ∧ n < 16 := by
  unfold Q.fits at h
  simp only [Bool.or_eq_true, Bool.and_eq_true, beq_iff_eq, decide_eq_true_eq] at h
  omega
theorem Q.of_53 : Q.of 53 = ⟨true, true, false, false, 2, 18, 3⟩ := by
  rw [Q.of_lt (by decide)]; kernel_rfl
theorem Q.valid_ok {i : Q.I} (h : Q.valid i = true) (hm : 0 ≤ i.imm ∧ i.imm < 4294967296) : Q.iok i := by
  unfold Q.valid at h
  simp only [Bool.and_eq_true] at h
  obtain ⟨⟨⟨⟨hk, hd⟩, ha⟩, hb⟩, hi⟩ := h
  refine ⟨?_, Q.fits_bd hd, Q.fits_bd ha, Q.fits_bd hb, hm, fun h53 => ?_⟩
  · rcases Classical.em (0 ≤ i.op ∧ i.op < 64) with k | k
    · exact k
    · rw [Q.of_out k] at hk; cases hk
  · have e : i.op = 53 := by simpa using h53
    rw [e, Q.of_53] at hi
    have hi : decide (i.imm ≤ 3) = true := hi
    have := of_decide_eq_true hi
    omega
theorem Q.enc_valid {i : Q.I} (h : ((Q.encode i).2 != 0) = false) : Q.valid i = true := by
  unfold Q.encode at h
  cases hv : Q.valid i with
  | true => rfl
  | false => rw [hv] at h; cases h
theorem Q.decode_ok {x : Int} (h : ((Q.decode x).2 != 0) = false) : Q.iok (Q.decode x).1 := by
  unfold Q.decode at h ⊢
  have key : ∀ c : Q.I, (0 ≤ c.imm ∧ c.imm < 4294967296) → (((bif ((((Q.encode c).2) != 0) || (((Q.encode c).1) != x)) then ((⟨0, 0, 0, 0, 0⟩ : Q.I), (12 : Int)) else (c, 0)).2 != 0) = false) → Q.iok (bif ((((Q.encode c).2) != 0) || (((Q.encode c).1) != x)) then ((⟨0, 0, 0, 0, 0⟩ : Q.I), (12 : Int)) else (c, 0)).1 := fun c hc h => by
    cases hb : ((((Q.encode c).2) != 0) || (((Q.encode c).1) != x)) with
    | true => rw [hb] at h; cases h
    | false => exact Q.valid_ok (Q.enc_valid (Bool.or_eq_false_iff.1 hb).1) hc
  cases hk : ((((Q.of (Q.dop x)).kind) == 1)) with
  | true => rw [hk] at h; exact key _ (Q.dsg_bd x) h
  | false => rw [hk] at h; exact key _ (Q.dimm_bd x) h
theorem Q.fetch_ok {V : M.V} {p : Int} (h : ((Q.fetch V p).2.1 == 0) = true) : Q.iok (Q.fetch V p).1 := by
  unfold Q.fetch at h ⊢
  revert h
  refine Q.bifP (p := fun x : Q.I × Int × Int => (x.2.1 == 0) = true → Q.iok x.1) (fun _ h => absurd h (by decide : ¬ (((7 : Int) == 0) = true))) fun _ => ?_
  iterate 4 refine Q.bifP (p := fun x : Q.I × Int × Int => (x.2.1 == 0) = true → Q.iok x.1) (fun _ h => absurd h (by decide : ¬ (((5 : Int) == 0) = true))) fun _ => ?_
  exact Q.bifP (p := fun x : Q.I × Int × Int => (x.2.1 == 0) = true → Q.iok x.1) (fun _ h => absurd h (by decide : ¬ (((7 : Int) == 0) = true))) fun hd _ => Q.decode_ok hd
theorem Q.wf_sto {V : M.V} (h : R.Wf V) (a : Nat) (n v : Int) : R.Wf (V.sto a n v) := by
  unfold M.V.sto; split
  · exact h.put _ _ _
  · exact h
theorem Q.load_bd {V : M.V} (h : R.Wf V) (a : Nat) (n : Int) : 0 ≤ (V.load a n).1 ∧ (V.load a n).1 < 4294967296 := by
  unfold M.V.load; split
  · exact R.ldv_bd h _ _ _
  · exact ⟨Int.le_refl _, by show (0 : Int) < 4294967296; decide⟩
theorem Q.acc_wf {V : M.V} (h : R.Wf V) (i : Q.I) (x v : Int) : (0 ≤ (Q.acc i V x v).1 ∧ (Q.acc i V x v).1 < 4294967296) ∧ R.Wf (Q.acc i V x v).2.2.2 := by
  unfold Q.acc
  refine Q.bifP (p := fun y : Int × Int × Int × M.V => (0 ≤ y.1 ∧ y.1 < 4294967296) ∧ R.Wf y.2.2.2) (fun _ => ?_) (fun _ => ?_) <;>
    exact Q.bifP (p := fun y : Int × Int × Int × M.V => (0 ≤ y.1 ∧ y.1 < 4294967296) ∧ R.Wf y.2.2.2) (fun _ => ⟨⟨Int.le_refl _, by show (0 : Int) < 4294967296; decide⟩, Q.wf_sto h _ _ _⟩) (fun _ => ⟨Q.load_bd h _ _, h⟩)
theorem Q.ctl_wf {s : Q.S} (h : Q.wf s) (n : Int) {v : Int} (hv : 0 ≤ v ∧ v < 4294967296) : Q.wf (Q.ctl s n v) := by
  unfold Q.ctl
  refine Q.bifP (p := Q.wf) (fun _ => ⟨h.pc, h.r, h.c⟩) fun _ => Q.bifP (p := Q.wf) (fun _ => ⟨h.pc, h.r, h.c⟩) fun _ => Q.bifP (p := Q.wf) (fun _ => ⟨h.pc, h.r, Q.up_bd h.c hv⟩) fun _ => h
theorem Q.stepI_wf {i : Q.I} {k t : Int} {s : Q.S} {V : M.V} (hi : (k == 0) = true → Q.iok i) (hs : Q.wf s) (hV : R.Wf V) : Q.wf (Q.stepI i k t s V).1 ∧ R.Wf (Q.stepI i k t s V).2.2.2 := by
  have hz : (0 : Int) ≤ 0 ∧ (0 : Int) < 4294967296 := by decide
  have hr0 : ∀ d, 0 ≤ Q.up s.r 0 0 d ∧ Q.up s.r 0 0 d < 4294967296 := Q.up_bd hs.r hz
  unfold Q.stepI
  refine Q.bifP (p := fun x : Q.S × Int × Int × M.V => Q.wf x.1 ∧ R.Wf x.2.2.2) (fun hk => ?_) (fun _ => ⟨hs, hV⟩)
  have hI := hi hk
  have hA := Q.acc_wf hV i (IntKind.wrap .u32 (((Q.up s.r 0 0) ((i.a).toNat)) + i.imm)) ((Q.up s.r 0 0) ((i.d).toNat))
  have hop : ∀ c b, (0 ≤ b ∧ b < 4294967296) → 0 ≤ W.op c ((Q.up s.r 0 0) ((i.a).toNat)) b ∧ W.op c ((Q.up s.r 0 0) ((i.a).toNat)) b < 4294967296 := fun c b hb => W.op_bd c _ b (hr0 _).1 (hr0 _).2 hb.1
  have hb : 0 ≤ (bif (decide (i.op ≥ 16)) then i.imm else ((Q.up s.r 0 0) ((i.b).toNat))) ∧ (bif (decide (i.op ≥ 16)) then i.imm else ((Q.up s.r 0 0) ((i.b).toNat))) < 4294967296 := Q.bif_bd hI.imm (hr0 _)
  have hc : Q.wf (Q.ctl (⟨s.pc, (Q.up s.r 0 0), s.f, s.c, s.st, s.du⟩ : Q.S) i.imm ((Q.up s.r 0 0) ((i.a).toNat))) := Q.ctl_wf (s := ⟨s.pc, (Q.up s.r 0 0), s.f, s.c, s.st, s.du⟩) ⟨hs.pc, hr0, hs.c⟩ _ (hr0 _)
  repeat' (first
    | exact ⟨hs, hV⟩
    | exact ⟨hs, hA.2⟩
    | exact ⟨hs, hV.sync _⟩
    | exact ⟨⟨Q.wrap_bd _, Q.up_bd hr0 hz, hs.c⟩, hV⟩
    | exact ⟨⟨Q.wrap_bd _, Q.up_bd hr0 hz, hs.c⟩, hA.2⟩
    | exact ⟨⟨Q.wrap_bd _, Q.up_bd hr0 hz, hs.c⟩, hV.sync _⟩
    | exact ⟨⟨W.bits_bd _ _ _, Q.up_bd hr0 hz, hs.c⟩, hV⟩
    | exact ⟨⟨Q.wrap_bd _, Q.up_bd (Q.up_bd hr0 (hop _ _ hb)) hz, hs.c⟩, hV⟩
    | exact ⟨⟨Q.wrap_bd _, Q.up_bd (Q.up_bd hr0 hA.1) hz, hs.c⟩, hA.2⟩
    | exact ⟨⟨Q.wrap_bd _, Q.up_bd (Q.up_bd hr0 (Q.wrap_bd _)) hz, hs.c⟩, hV⟩
    | exact ⟨⟨W.bits_bd _ _ _, Q.up_bd (Q.up_bd hr0 (Q.wrap_bd _)) hz, hs.c⟩, hV⟩
    | exact ⟨⟨Q.wrap_bd _, Q.up_bd (Q.up_bd hr0 (hs.c _)) hz, hs.c⟩, hV⟩
    | exact ⟨⟨Q.wrap_bd _, Q.up_bd hc.r hz, hc.c⟩, hV⟩
    | refine Q.bifP (p := fun x : Q.S × Int × Int × M.V => Q.wf x.1 ∧ R.Wf x.2.2.2) (fun _ => ?_) (fun _ => ?_))
/-- One step: the state behind it, the trap, the memory. -/
def Q.step (s : Q.S) (V : M.V) : Q.S × Int × Int × M.V := Q.stepI (Q.fetch V s.pc).1 (Q.fetch V s.pc).2.1 (Q.fetch V s.pc).2.2 s V
theorem Q.step_wf {s : Q.S} {V : M.V} (hs : Q.wf s) (hV : R.Wf V) : Q.wf (Q.step s V).1 ∧ R.Wf (Q.step s V).2.2.2 := Q.stepI_wf Q.fetch_ok hs hV
/-- A run: at n instructions of most, with fuel. -/
def Q.run (most : Int) : Nat → Nat → Q.S → M.V → Q.S × Int × Int × M.V
  | 0, _, s, V => (s, 1, 0, V)
  | f + 1, n, s, V => bif (decide (s.du > 0) && decide (s.st ≥ s.du)) then (s, 8, 0, V) else bif (decide (((n : Nat) : Int) ≥ most)) then (s, 1, 0, V) else
    bif ((Q.step s V).2.1 != 0) then (s, (Q.step s V).2.1, (Q.step s V).2.2.1, (Q.step s V).2.2.2) else Q.run most f (n + 1) (Q.step s V).1 (Q.step s V).2.2.2
/-- All of a run. -/
def Q.runs (most : Int) (s : Q.S) (V : M.V) : Q.S × Int × Int × M.V := Q.run most (most.toNat + 1) 0 s V
theorem Step_any {m : Nat} {xs : List Value} (s : Q.S) (V : M.V) (hs : Q.wf s) : A.Tr Tryz.prog 17 #[Q.S.val s, .iface 36 (.pointer (some ⟨m, 0, none⟩))] [M.It m V xs] (I := Unit) (fun _ => True) (fun _ => .tuple #[Q.S.val ((Q.step s V).1), .agg #[.int .i64 ((Q.step s V).2.1), .int .u32 ((Q.step s V).2.2.1)]]) (fun _ => [M.It m (Q.step s V).2.2.2 xs]) := Step_i _ _ _ s V rfl Q.fetch_ok hs

end Go.Proofs.YtgbndbljohpnmaaGreat
namespace Go.Proofs.YtgbndbljohpnmaaGreat
set_option linter.unusedVariables false
set_option linter.unusedSimpArgs false
open Go.RowKit
/-- A row of marks. -/
def E.bits (n k : Nat) : Array Bool := ((List.range n).map (Nat.testBit k)).toArray
section
variable {P : Program} {n : Nat} {ops : Array Oper} {Q : Exit → Act → World → Prop} {S : Nat → Prop} {w0 : World} {X : World → Prop} {L : List (Nat × List Value)} {fr : E.Fr} {D : World → Prop} {fuel : Nat} {listed : Array Bool}
/-- Nodes of a region that draws its order. -/
theorem E.H.gen (h : ∀ (H : Nat → Array Bool → E.Fr → (World → Prop) → List (Nat × List Value) → Prop), (∀ f l fr X L, E.H P n ops Q D f l fr S w0 X L → H f l fr X L) → (∀ f l fr X L, H f l fr X L → E.H P n ops Q D f l fr S w0 X L) → H fuel listed fr X L) : E.H P n ops Q D fuel listed fr S w0 X L :=
  h (fun f l fr X L => E.H P n ops Q D f l fr S w0 X L) (fun _ _ _ _ _ h => h) (fun _ _ _ _ _ h => h)
theorem E.H.to (listed' : Array Bool) (fr' : E.Fr) (L' : List (Nat × List Value)) (he : listed = listed') (hs : E.sub fr' fr) (hl : L'.Sublist L) (k : E.H P n ops Q D fuel listed' fr' S w0 X L') : E.H P n ops Q D fuel listed fr S w0 X L :=
  he ▸ E.H.weak fr' L' hs hl k
theorem E.H.toP (listed' : Array Bool) (fr' : E.Fr) (L' : List (Nat × List Value)) (he : listed = listed') (hs : E.sub fr' fr) (hl : L.Perm L') (k : E.H P n ops Q D fuel listed' fr' S w0 X L') : E.H P n ops Q D fuel listed fr S w0 X L :=
  he ▸ fun a w h1 h2 => k a w (h1.sub hs) (h2.perm hl.symm)
end
theorem A.hpY0 {w0 w : World} {o0 a0 : Nat → Prop} {its : List A.It} {L : List (Nat × List Value)} (h : E.Hp o0 w0 (A.X w0 o0 a0 its) L w) (hne : A.ne L = true) : A.Y (A.bl L) w :=
  A.hpY (p := A.bl L) (r := its) h hne (List.Perm.refl _)
end Go.Proofs.YtgbndbljohpnmaaGreat

/- Nodes: what is found by itself. -/
namespace Go.Proofs.YtgbndbljohpnmaaGreat
section
variable {P : Program} {n : Nat} {ops : Array Oper} {Q : Exit → Act → World → Prop} {S : Nat → Prop} {w0 : World} {X : World → Prop} {L : List (Nat × List Value)} {fr : E.Fr} {D : World → Prop} {fuel : Nat} {listed : Array Bool}
theorem E.ho {listed' : Array Bool} {fr' : E.Fr} {L' : List (Nat × List Value)} (k : E.H P n ops Q D fuel listed' fr' S w0 X L') (he : listed = listed' := by kernel_rfl) (hs : E.sub fr' fr := by exact ⟨by kernel_rfl, by kernel_rfl⟩) (hl : L'.Sublist L := by exact Nz.sub) : E.H P n ops Q D fuel listed fr S w0 X L := E.H.to _ _ _ he hs hl k
theorem E.hb {listed' : Array Bool} {fr' : E.Fr} {L' : List (Nat × List Value)} (k : E.H P n ops Q D fuel listed' fr' S w0 X L') (he : listed = listed' := by kernel_rfl) (hs : E.sub fr' fr := by exact ⟨by kernel_rfl, by kernel_rfl⟩) (hl : L'.Sublist L := by exact Nz.sub) (hD : ∀ w, E.Hp S w0 X L w → D w := by exact (fun w h => A.hpY0 h (by kernel_rfl))) : E.G P n ops (Exit.then (fun a' w' => D w' ∧ wpAnyH P .any ops Q D fuel listed a' w') Q) [] fr S w0 X L := E.H.back hD (E.H.to _ _ _ he hs hl k)
end
end Go.Proofs.YtgbndbljohpnmaaGreat
