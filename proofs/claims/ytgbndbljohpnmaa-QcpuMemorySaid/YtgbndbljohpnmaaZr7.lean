/- Texts of the walk, merged (7): see the remark ahead of each. -/
import Derived.Test.YtgbndbljohpnmaaZr6
import Derived.Test.YtgbndbljohpnmaaProg
import Derived.ChangeKeysEq
/- XQn -/
namespace Go.Proofs.Ytgbndbljohpnmaa
set_option linter.unusedVariables false
set_option linter.unusedSimpArgs false
open Go.RowKit
/-- A format of the reference. -/
structure Q3.Fm where
  is : Bool
  d : Bool
  a : Bool
  b : Bool
  sg : Bool
  bits : Nat
  most : Int
section
variable {P : Program} {fr : E.Fr} {T : TypeId} {d : Option Nat} {pos : String} {af : Array Edge} {gd : Option (Nat × Bool)}
theorem E.remI {t u : TypeId} {x y : Operand} {k : IntKind} (a b : Int) (hx : E.ev fr x = .int k a) (hy : E.ev fr y = .int k b) (hb : b ≠ 0) (w : World) :
    (execOp (E.ev fr) ⟨d, .binOp .rem t x y u, T, pos, af, gd⟩).run P w = .ok (.value (.int k (Int.tmod a b))) w := by
  show (do let r ← (do eqGuard .rem t x y (E.ev fr x) (E.ev fr y); binOp .rem t (E.ev fr x) (E.ev fr y)); pure (Next.value r) : Sem Next).run P w = _
  rw [hx, hy]
  simp [eqGuard, binOp, Op.intDiv, hb]
end
theorem Q.mod_eq (n m : Int) (hn : -9223372036854775808 ≤ n ∧ n < 9223372036854775808) (hm : 0 < m ∧ m < 4611686018427387904) : Int.tmod (IntKind.wrap .i64 (Int.tmod n m + m)) m = n % m := by
  have h1 : -m < Int.tmod n m := Int.lt_tmod_of_pos n hm.1
  have h2 : Int.tmod n m < m := Int.tmod_lt_of_pos n hm.1
  rw [IntWalk.i64_in _ (by omega), Int.tmod_eq_emod_of_nonneg (by omega), Int.add_emod_right]
  by_cases h : 0 ≤ n
  · rw [Int.tmod_eq_emod_of_nonneg h, Int.emod_emod]
  · have e := Int.tmod_def n m
    have := Int.emod_emod_of_dvd n (Int.dvd_refl m)
    rw [e, Int.sub_emod, Int.mul_emod_right, Int.sub_zero, Int.emod_emod]
theorem Q.callAs {P : Program} {f : FuncId} {args : Array Value} {w : World} {v v' : Value} (h : Calls P f args w fun e w' => e = .returned v ∧ Bel w w') (e : v = v') : Calls P f args w fun e w' => e = .returned v' ∧ Bel w w' := e ▸ h
theorem Q.w64u {n : Nat} (h : n < 64) : IntKind.wrap .u64 ((n : Nat) : Int) = ((n : Nat) : Int) := by
  show ((n : Nat) : Int) % 18446744073709551616 = _
  omega
def Q3.modr (n m : Int) : Int := (Int.tmod (IntKind.wrap .i64 ((Int.tmod n m) + m)) m)
theorem mod_raw (n m : Int) (hm : 0 < m ∧ m < 4611686018427387904) (w : World) : Calls Try.prog 21 #[.int .i64 n, .int .i64 m] w fun e w' => e = .returned (.int .i64 (Q3.modr n m)) ∧ Bel w w' := by
 refine E.enter (n := 12) (S := fun _ => False) Try.func21 rfl rfl (by kernel_rfl) (E.Hp.start w) ?_
 refine E.sr ?_
 refine E.op (.int .i64 0) ?_
 refine E.tr ?_
 refine E.op (.int .i64 n) ?_
 refine E.op (.int .i64 m) ?_
 refine E.vl (.int .i64 (Int.tmod n m)) (fun w h => E.remI n m (by kernel_rfl) (by kernel_rfl) (by omega) w) ?_
 refine E.op (.int .i64 m) ?_
 refine E.op (.int .i64 (IntKind.wrap .i64 ((Int.tmod n m) + m))) ?_
 refine E.op (.int .i64 m) ?_
 refine E.vl (.int .i64 (Int.tmod (IntKind.wrap .i64 ((Int.tmod n m) + m)) m)) (fun w h => E.remI (IntKind.wrap .i64 ((Int.tmod n m) + m)) m (by kernel_rfl) (by kernel_rfl) (by omega) w) ?_
 refine E.op (.int .i64 (Int.tmod (IntKind.wrap .i64 ((Int.tmod n m) + m)) m)) ?_
 refine E.To.code ?_
 refine E.wk [(4, .int .i64 (Int.tmod (IntKind.wrap .i64 ((Int.tmod n m) + m)) m))] [] (List.Sublist.refl _) ?_
 refine E.C.ret (E.To.body (fn := Try.f21) [.int .i64 (Int.tmod (IntKind.wrap .i64 ((Int.tmod n m) + m)) m)] ?_ ?_)
 · exact ⟨⟨by kernel_rfl, by kernel_rfl⟩, trivial⟩
 intro w h
 exact ⟨rfl, h.ch.bel (fun _ h => h.elim)⟩

theorem Mod_any (n m : Int) (hn : -9223372036854775808 ≤ n ∧ n < 9223372036854775808) (hm : 0 < m ∧ m < 4611686018427387904) (w : World) : Calls Try.prog 21 #[.int .i64 n, .int .i64 m] w fun e w' => e = .returned (.int .i64 (n % m)) ∧ Bel w w' := Q.callAs (mod_raw n m hm w) (congrArg (Value.int .i64) (Q.mod_eq n m hn hm))

def Q3.of (op : Int) : Q3.Fm := (bif ((decide (op ≥ 1)) && (decide (op ≤ 12))) then ⟨true, true, true, true, false, 0, 0⟩ else (bif (((op == 17) || (op == 18)) || (op == 19)) then ⟨true, true, true, false, false, 18, 0⟩ else (bif (((decide (op ≥ 16)) && (decide (op ≤ 27))) || ((decide (op ≥ 32)) && (decide (op ≤ 37)))) then ⟨true, true, true, false, true, 18, 0⟩ else (bif (op == 40) then ⟨true, true, false, false, true, 22, 0⟩ else (bif (op == 41) then ⟨true, true, false, false, false, 22, 0⟩ else (bif (op == 48) then ⟨true, false, false, false, false, 18, 0⟩ else (bif (((op == 49) || (op == 50)) || (op == 51)) then ⟨true, false, false, false, false, 0, 0⟩ else (bif (op == 52) then ⟨true, false, true, false, false, 0, 0⟩ else (bif (op == 53) then ⟨true, true, false, false, false, 18, 3⟩ else (bif (op == 54) then ⟨true, false, true, false, false, 18, 4⟩ else ⟨false, false, false, false, false, 0, 0⟩))))))))))
theorem Of3_any (op : Int) (w : World) : Calls Try.prog 47 #[.int .i64 op] w fun e w' => e = .returned (.agg #[.bool ((Q3.of op).is), .bool ((Q3.of op).d), .bool ((Q3.of op).a), .bool ((Q3.of op).b), .bool ((Q3.of op).sg), .int .i64 (((Q3.of op).bits : Nat) : Int), .int .u32 ((Q3.of op).most)]) ∧ Bel w w' := by
 refine E.enter (n := 76) (S := fun _ => False) Try.func47 rfl rfl (by kernel_rfl) (E.Hp.start w) ?_
 refine E.sr ?_
 refine E.G.new (fun g => .pointer (some ⟨g, 0, none⟩)) [.bool false, .bool false, .bool false, .bool false, .bool false, .int .i64 0, .int .u32 0] 88 (fun w => by kernel_rfl) (by kernel_rfl) (fun g1 => ?_)
 refine E.To.code ?_
 refine E.C.seq ?_
 refine E.C.block ?_
 refine E.sr ?_
 refine E.op (.int .i64 op) ?_
 refine E.op (.bool (decide (op ≥ 1))) ?_
 refine E.op (.bool (decide (op ≥ 1))) ?_
 refine E.G.cut 3 [(0, .int .i64 op), (2, .pointer (some ⟨g1, 0, none⟩)), (9, .bool ((decide (op ≥ 1)) && (decide (op ≤ 12))))] (fun _ => True) [(g1, [.bool false, .bool false, .bool false, .bool false, .bool false, .int .i64 0, .int .u32 0])] ?_ ?_
 ·
  generalize hc2 : (decide (op ≥ 1)) = b3
  cases b3
  ·
   refine E.sk ?_
   refine E.sk ?_
   refine E.op (.bool false) ?_
   exact E.G.end_pst ⟨by kernel_rfl, by kernel_rfl⟩ (List.Sublist.refl _) (fun _ h => h)
  refine E.op (.int .i64 op) ?_
  refine E.op (.bool (decide (op ≤ 12))) ?_
  refine E.op (.bool (decide (op ≤ 12))) ?_
  exact E.G.end_pst ⟨by kernel_rfl, by kernel_rfl⟩ (List.Sublist.refl _) (fun _ h => h)
 refine E.op (.bool ((decide (op ≥ 1)) && (decide (op ≤ 12)))) ?_
 refine E.To.code ?_
 refine E.cd ((decide (op ≥ 1)) && (decide (op ≤ 12))) (fun hc4 => ?_) (fun hc4 => ?_)
 ·
  refine E.sr ?_
  refine E.vl (.agg #[.bool true, .bool true, .bool true, .bool true, .bool false, .int .i64 0, .int .u32 0]) (fun w h => E.run_build #[.bool true, .bool true, .bool true, .bool true, .bool false, .int .i64 0, .int .u32 0] (by kernel_rfl) w) ?_
  refine E.st 0 [.bool true, .bool true, .bool true, .bool true, .bool false, .int .i64 0, .int .u32 0] rfl rfl ?_
  refine E.To.code ?_
  refine E.C.ret (E.P.rb (E.P.rt (E.To.body (fn := Try.f47) [.agg #[.bool true, .bool true, .bool true, .bool true, .bool false, .int .i64 0, .int .u32 0]] ?_ ?_)))
  · exact ⟨⟨by kernel_rfl, _, _, 0, _, rfl, rfl, by kernel_rfl⟩, trivial⟩
  intro w h
  exact ⟨by show Ending.returned (.agg #[.bool true, .bool true, .bool true, .bool true, .bool false, .int .i64 0, .int .u32 0]) = _; unfold Q3.of; rw [hc4, cond_true] <;> rfl, h.ch.bel (fun _ h => h.elim)⟩
 refine E.sr ?_
 refine E.op (.int .i64 op) ?_
 refine E.op (.bool (op == 17)) ?_
 refine E.op (.bool (op == 17)) ?_
 refine E.G.cut 3 [(0, .int .i64 op), (2, .pointer (some ⟨g1, 0, none⟩)), (17, .bool ((op == 17) || (op == 18)))] (fun _ => True) [(g1, [.bool false, .bool false, .bool false, .bool false, .bool false, .int .i64 0, .int .u32 0])] ?_ ?_
 ·
  generalize hc5 : (op == 17) = b6
  cases b6
  ·
   refine E.op (.int .i64 op) ?_
   refine E.op (.bool (op == 18)) ?_
   refine E.op (.bool (op == 18)) ?_
   exact E.G.end_pst ⟨by kernel_rfl, by kernel_rfl⟩ (List.Sublist.refl _) (fun _ h => h)
  refine E.sk ?_
  refine E.sk ?_
  refine E.op (.bool true) ?_
  exact E.G.end_pst ⟨by kernel_rfl, by kernel_rfl⟩ (List.Sublist.refl _) (fun _ h => h)
 refine E.op (.bool ((op == 17) || (op == 18))) ?_
 refine E.G.cut 3 [(0, .int .i64 op), (2, .pointer (some ⟨g1, 0, none⟩)), (21, .bool (((op == 17) || (op == 18)) || (op == 19)))] (fun _ => True) [(g1, [.bool false, .bool false, .bool false, .bool false, .bool false, .int .i64 0, .int .u32 0])] ?_ ?_
 ·
  generalize hc7 : ((op == 17) || (op == 18)) = b8
  cases b8
  ·
   refine E.op (.int .i64 op) ?_
   refine E.op (.bool (op == 19)) ?_
   refine E.op (.bool (op == 19)) ?_
   exact E.G.end_pst ⟨by kernel_rfl, by kernel_rfl⟩ (List.Sublist.refl _) (fun _ h => h)
  refine E.sk ?_
  refine E.sk ?_
  refine E.op (.bool true) ?_
  exact E.G.end_pst ⟨by kernel_rfl, by kernel_rfl⟩ (List.Sublist.refl _) (fun _ h => h)
 refine E.op (.bool (((op == 17) || (op == 18)) || (op == 19))) ?_
 refine E.To.code ?_
 refine E.cd (((op == 17) || (op == 18)) || (op == 19)) (fun hc9 => ?_) (fun hc9 => ?_)
 ·
  refine E.sr ?_
  refine E.vl (.agg #[.bool true, .bool true, .bool true, .bool false, .bool false, .int .i64 18, .int .u32 0]) (fun w h => E.run_build #[.bool true, .bool true, .bool true, .bool false, .bool false, .int .i64 18, .int .u32 0] (by kernel_rfl) w) ?_
  refine E.st 0 [.bool true, .bool true, .bool true, .bool false, .bool false, .int .i64 18, .int .u32 0] rfl rfl ?_
  refine E.To.code ?_
  refine E.C.ret (E.P.rb (E.P.rt (E.To.body (fn := Try.f47) [.agg #[.bool true, .bool true, .bool true, .bool false, .bool false, .int .i64 18, .int .u32 0]] ?_ ?_)))
  · exact ⟨⟨by kernel_rfl, _, _, 0, _, rfl, rfl, by kernel_rfl⟩, trivial⟩
  intro w h
  exact ⟨by show Ending.returned (.agg #[.bool true, .bool true, .bool true, .bool false, .bool false, .int .i64 18, .int .u32 0]) = _; unfold Q3.of; rw [hc4, cond_false, hc9, cond_true] <;> rfl, h.ch.bel (fun _ h => h.elim)⟩
 refine E.sr ?_
 refine E.op (.int .i64 op) ?_
 refine E.op (.bool (decide (op ≥ 16))) ?_
 refine E.op (.bool (decide (op ≥ 16))) ?_
 refine E.G.cut 3 [(0, .int .i64 op), (2, .pointer (some ⟨g1, 0, none⟩)), (29, .bool ((decide (op ≥ 16)) && (decide (op ≤ 27))))] (fun _ => True) [(g1, [.bool false, .bool false, .bool false, .bool false, .bool false, .int .i64 0, .int .u32 0])] ?_ ?_
 ·
  generalize hc10 : (decide (op ≥ 16)) = b11
  cases b11
  ·
   refine E.sk ?_
   refine E.sk ?_
   refine E.op (.bool false) ?_
   exact E.G.end_pst ⟨by kernel_rfl, by kernel_rfl⟩ (List.Sublist.refl _) (fun _ h => h)
  refine E.op (.int .i64 op) ?_
  refine E.op (.bool (decide (op ≤ 27))) ?_
  refine E.op (.bool (decide (op ≤ 27))) ?_
  exact E.G.end_pst ⟨by kernel_rfl, by kernel_rfl⟩ (List.Sublist.refl _) (fun _ h => h)
 refine E.op (.bool ((decide (op ≥ 16)) && (decide (op ≤ 27)))) ?_
 refine E.G.cut 7 [(0, .int .i64 op), (2, .pointer (some ⟨g1, 0, none⟩)), (37, .bool (((decide (op ≥ 16)) && (decide (op ≤ 27))) || ((decide (op ≥ 32)) && (decide (op ≤ 37)))))] (fun _ => True) [(g1, [.bool false, .bool false, .bool false, .bool false, .bool false, .int .i64 0, .int .u32 0])] ?_ ?_
 ·
  generalize hc12 : ((decide (op ≥ 16)) && (decide (op ≤ 27))) = b13
  cases b13
  ·
   refine E.op (.int .i64 op) ?_
   refine E.op (.bool (decide (op ≥ 32))) ?_
   refine E.op (.bool (decide (op ≥ 32))) ?_
   refine E.G.cut 3 [(0, .int .i64 op), (2, .pointer (some ⟨g1, 0, none⟩)), (30, .bool false), (36, .bool ((decide (op ≥ 32)) && (decide (op ≤ 37))))] (fun _ => True) [(g1, [.bool false, .bool false, .bool false, .bool false, .bool false, .int .i64 0, .int .u32 0])] ?_ ?_
   ·
    generalize hc14 : (decide (op ≥ 32)) = b15
    cases b15
    ·
     refine E.sk ?_
     refine E.sk ?_
     refine E.op (.bool false) ?_
     exact E.G.end_pst ⟨by kernel_rfl, by kernel_rfl⟩ (List.Sublist.refl _) (fun _ h => h)
    refine E.op (.int .i64 op) ?_
    refine E.op (.bool (decide (op ≤ 37))) ?_
    refine E.op (.bool (decide (op ≤ 37))) ?_
    exact E.G.end_pst ⟨by kernel_rfl, by kernel_rfl⟩ (List.Sublist.refl _) (fun _ h => h)
   refine E.op (.bool ((decide (op ≥ 32)) && (decide (op ≤ 37)))) ?_
   exact E.G.end_pst ⟨by kernel_rfl, by kernel_rfl⟩ (List.Sublist.refl _) (fun _ h => h)
  refine E.sk ?_
  refine E.sk ?_
  refine E.sk ?_
  refine E.sk ?_
  refine E.sk ?_
  refine E.sk ?_
  refine E.op (.bool true) ?_
  exact E.G.end_pst ⟨by kernel_rfl, by kernel_rfl⟩ (List.Sublist.refl _) (fun _ h => h)
 refine E.op (.bool (((decide (op ≥ 16)) && (decide (op ≤ 27))) || ((decide (op ≥ 32)) && (decide (op ≤ 37))))) ?_
 refine E.To.code ?_
 refine E.cd (((decide (op ≥ 16)) && (decide (op ≤ 27))) || ((decide (op ≥ 32)) && (decide (op ≤ 37)))) (fun hc16 => ?_) (fun hc16 => ?_)
 ·
  refine E.sr ?_
  refine E.vl (.agg #[.bool true, .bool true, .bool true, .bool false, .bool true, .int .i64 18, .int .u32 0]) (fun w h => E.run_build #[.bool true, .bool true, .bool true, .bool false, .bool true, .int .i64 18, .int .u32 0] (by kernel_rfl) w) ?_
  refine E.st 0 [.bool true, .bool true, .bool true, .bool false, .bool true, .int .i64 18, .int .u32 0] rfl rfl ?_
  refine E.To.code ?_
  refine E.C.ret (E.P.rb (E.P.rt (E.To.body (fn := Try.f47) [.agg #[.bool true, .bool true, .bool true, .bool false, .bool true, .int .i64 18, .int .u32 0]] ?_ ?_)))
  · exact ⟨⟨by kernel_rfl, _, _, 0, _, rfl, rfl, by kernel_rfl⟩, trivial⟩
  intro w h
  exact ⟨by show Ending.returned (.agg #[.bool true, .bool true, .bool true, .bool false, .bool true, .int .i64 18, .int .u32 0]) = _; unfold Q3.of; rw [hc4, cond_false, hc9, cond_false, hc16, cond_true] <;> rfl, h.ch.bel (fun _ h => h.elim)⟩
 refine E.sr ?_
 refine E.op (.int .i64 op) ?_
 refine E.op (.bool (op == 40)) ?_
 refine E.op (.bool (op == 40)) ?_
 refine E.To.code ?_
 refine E.cd (op == 40) (fun hc17 => ?_) (fun hc17 => ?_)
 ·
  refine E.sr ?_
  refine E.vl (.agg #[.bool true, .bool true, .bool false, .bool false, .bool true, .int .i64 22, .int .u32 0]) (fun w h => E.run_build #[.bool true, .bool true, .bool false, .bool false, .bool true, .int .i64 22, .int .u32 0] (by kernel_rfl) w) ?_
  refine E.st 0 [.bool true, .bool true, .bool false, .bool false, .bool true, .int .i64 22, .int .u32 0] rfl rfl ?_
  refine E.To.code ?_
  refine E.C.ret (E.P.rb (E.P.rt (E.To.body (fn := Try.f47) [.agg #[.bool true, .bool true, .bool false, .bool false, .bool true, .int .i64 22, .int .u32 0]] ?_ ?_)))
  · exact ⟨⟨by kernel_rfl, _, _, 0, _, rfl, rfl, by kernel_rfl⟩, trivial⟩
  intro w h
  exact ⟨by show Ending.returned (.agg #[.bool true, .bool true, .bool false, .bool false, .bool true, .int .i64 22, .int .u32 0]) = _; unfold Q3.of; rw [hc4, cond_false, hc9, cond_false, hc16, cond_false, hc17, cond_true] <;> rfl, h.ch.bel (fun _ h => h.elim)⟩
 refine E.sr ?_
 refine E.op (.int .i64 op) ?_
 refine E.op (.bool (op == 41)) ?_
 refine E.op (.bool (op == 41)) ?_
 refine E.To.code ?_
 refine E.cd (op == 41) (fun hc18 => ?_) (fun hc18 => ?_)
 ·
  refine E.sr ?_
  refine E.vl (.agg #[.bool true, .bool true, .bool false, .bool false, .bool false, .int .i64 22, .int .u32 0]) (fun w h => E.run_build #[.bool true, .bool true, .bool false, .bool false, .bool false, .int .i64 22, .int .u32 0] (by kernel_rfl) w) ?_
  refine E.st 0 [.bool true, .bool true, .bool false, .bool false, .bool false, .int .i64 22, .int .u32 0] rfl rfl ?_
  refine E.To.code ?_
  refine E.wk [(2, .pointer (some ⟨g1, 0, none⟩))] [(g1, [.bool true, .bool true, .bool false, .bool false, .bool false, .int .i64 22, .int .u32 0])] (List.Sublist.refl _) ?_
  refine E.C.ret (E.P.rb (E.P.rt (E.To.body (fn := Try.f47) [.agg #[.bool true, .bool true, .bool false, .bool false, .bool false, .int .i64 22, .int .u32 0]] ?_ ?_)))
  · exact ⟨⟨by kernel_rfl, _, _, 0, _, rfl, rfl, by kernel_rfl⟩, trivial⟩
  intro w h
  exact ⟨by show Ending.returned (.agg #[.bool true, .bool true, .bool false, .bool false, .bool false, .int .i64 22, .int .u32 0]) = _; unfold Q3.of; rw [hc4, cond_false, hc9, cond_false, hc16, cond_false, hc17, cond_false, hc18, cond_true] <;> rfl, h.ch.bel (fun _ h => h.elim)⟩
 refine E.sr ?_
 refine E.op (.int .i64 op) ?_
 refine E.op (.bool (op == 48)) ?_
 refine E.op (.bool (op == 48)) ?_
 refine E.To.code ?_
 refine E.wk [(0, .int .i64 op), (2, .pointer (some ⟨g1, 0, none⟩)), (47, .bool (op == 48))] [(g1, [.bool false, .bool false, .bool false, .bool false, .bool false, .int .i64 0, .int .u32 0])] (List.Sublist.refl _) ?_
 refine E.cd (op == 48) (fun hc19 => ?_) (fun hc19 => ?_)
 ·
  refine E.sr ?_
  refine E.vl (.agg #[.bool true, .bool false, .bool false, .bool false, .bool false, .int .i64 18, .int .u32 0]) (fun w h => E.run_build #[.bool true, .bool false, .bool false, .bool false, .bool false, .int .i64 18, .int .u32 0] (by kernel_rfl) w) ?_
  refine E.st 0 [.bool true, .bool false, .bool false, .bool false, .bool false, .int .i64 18, .int .u32 0] rfl rfl ?_
  refine E.To.code ?_
  refine E.C.ret (E.P.rb (E.P.rt (E.To.body (fn := Try.f47) [.agg #[.bool true, .bool false, .bool false, .bool false, .bool false, .int .i64 18, .int .u32 0]] ?_ ?_)))
  · exact ⟨⟨by kernel_rfl, _, _, 0, _, rfl, rfl, by kernel_rfl⟩, trivial⟩
  intro w h
  exact ⟨by show Ending.returned (.agg #[.bool true, .bool false, .bool false, .bool false, .bool false, .int .i64 18, .int .u32 0]) = _; unfold Q3.of; rw [hc4, cond_false, hc9, cond_false, hc16, cond_false, hc17, cond_false, hc18, cond_false, hc19, cond_true] <;> rfl, h.ch.bel (fun _ h => h.elim)⟩
 refine E.sr ?_
 refine E.op (.int .i64 op) ?_
 refine E.op (.bool (op == 49)) ?_
 refine E.op (.bool (op == 49)) ?_
 refine E.G.cut 3 [(0, .int .i64 op), (2, .pointer (some ⟨g1, 0, none⟩)), (57, .bool ((op == 49) || (op == 50)))] (fun _ => True) [(g1, [.bool false, .bool false, .bool false, .bool false, .bool false, .int .i64 0, .int .u32 0])] ?_ ?_
 ·
  generalize hc20 : (op == 49) = b21
  cases b21
  ·
   refine E.op (.int .i64 op) ?_
   refine E.op (.bool (op == 50)) ?_
   refine E.op (.bool (op == 50)) ?_
   exact E.G.end_pst ⟨by kernel_rfl, by kernel_rfl⟩ (List.Sublist.refl _) (fun _ h => h)
  refine E.sk ?_
  refine E.sk ?_
  refine E.op (.bool true) ?_
  exact E.G.end_pst ⟨by kernel_rfl, by kernel_rfl⟩ (List.Sublist.refl _) (fun _ h => h)
 refine E.op (.bool ((op == 49) || (op == 50))) ?_
 refine E.G.cut 3 [(0, .int .i64 op), (2, .pointer (some ⟨g1, 0, none⟩)), (61, .bool (((op == 49) || (op == 50)) || (op == 51)))] (fun _ => True) [(g1, [.bool false, .bool false, .bool false, .bool false, .bool false, .int .i64 0, .int .u32 0])] ?_ ?_
 ·
  generalize hc22 : ((op == 49) || (op == 50)) = b23
  cases b23
  ·
   refine E.op (.int .i64 op) ?_
   refine E.op (.bool (op == 51)) ?_
   refine E.op (.bool (op == 51)) ?_
   exact E.G.end_pst ⟨by kernel_rfl, by kernel_rfl⟩ (List.Sublist.refl _) (fun _ h => h)
  refine E.sk ?_
  refine E.sk ?_
  refine E.op (.bool true) ?_
  exact E.G.end_pst ⟨by kernel_rfl, by kernel_rfl⟩ (List.Sublist.refl _) (fun _ h => h)
 refine E.op (.bool (((op == 49) || (op == 50)) || (op == 51))) ?_
 refine E.To.code ?_
 refine E.cd (((op == 49) || (op == 50)) || (op == 51)) (fun hc24 => ?_) (fun hc24 => ?_)
 ·
  refine E.sr ?_
  refine E.vl (.agg #[.bool true, .bool false, .bool false, .bool false, .bool false, .int .i64 0, .int .u32 0]) (fun w h => E.run_build #[.bool true, .bool false, .bool false, .bool false, .bool false, .int .i64 0, .int .u32 0] (by kernel_rfl) w) ?_
  refine E.st 0 [.bool true, .bool false, .bool false, .bool false, .bool false, .int .i64 0, .int .u32 0] rfl rfl ?_
  refine E.To.code ?_
  refine E.C.ret (E.P.rb (E.P.rt (E.To.body (fn := Try.f47) [.agg #[.bool true, .bool false, .bool false, .bool false, .bool false, .int .i64 0, .int .u32 0]] ?_ ?_)))
  · exact ⟨⟨by kernel_rfl, _, _, 0, _, rfl, rfl, by kernel_rfl⟩, trivial⟩
  intro w h
  exact ⟨by show Ending.returned (.agg #[.bool true, .bool false, .bool false, .bool false, .bool false, .int .i64 0, .int .u32 0]) = _; unfold Q3.of; rw [hc4, cond_false, hc9, cond_false, hc16, cond_false, hc17, cond_false, hc18, cond_false, hc19, cond_false, hc24, cond_true] <;> rfl, h.ch.bel (fun _ h => h.elim)⟩
 refine E.sr ?_
 refine E.op (.int .i64 op) ?_
 refine E.op (.bool (op == 52)) ?_
 refine E.op (.bool (op == 52)) ?_
 refine E.To.code ?_
 refine E.cd (op == 52) (fun hc25 => ?_) (fun hc25 => ?_)
 ·
  refine E.sr ?_
  refine E.vl (.agg #[.bool true, .bool false, .bool true, .bool false, .bool false, .int .i64 0, .int .u32 0]) (fun w h => E.run_build #[.bool true, .bool false, .bool true, .bool false, .bool false, .int .i64 0, .int .u32 0] (by kernel_rfl) w) ?_
  refine E.st 0 [.bool true, .bool false, .bool true, .bool false, .bool false, .int .i64 0, .int .u32 0] rfl rfl ?_
  refine E.To.code ?_
  refine E.C.ret (E.P.rb (E.P.rt (E.To.body (fn := Try.f47) [.agg #[.bool true, .bool false, .bool true, .bool false, .bool false, .int .i64 0, .int .u32 0]] ?_ ?_)))
  · exact ⟨⟨by kernel_rfl, _, _, 0, _, rfl, rfl, by kernel_rfl⟩, trivial⟩
  intro w h
  exact ⟨by show Ending.returned (.agg #[.bool true, .bool false, .bool true, .bool false, .bool false, .int .i64 0, .int .u32 0]) = _; unfold Q3.of; rw [hc4, cond_false, hc9, cond_false, hc16, cond_false, hc17, cond_false, hc18, cond_false, hc19, cond_false, hc24, cond_false, hc25, cond_true] <;> rfl, h.ch.bel (fun _ h => h.elim)⟩
 refine E.sr ?_
 refine E.op (.int .i64 op) ?_
 refine E.op (.bool (op == 53)) ?_
 refine E.op (.bool (op == 53)) ?_
 refine E.To.code ?_
 refine E.cd (op == 53) (fun hc26 => ?_) (fun hc26 => ?_)
 ·
  refine E.sr ?_
  refine E.vl (.agg #[.bool true, .bool true, .bool false, .bool false, .bool false, .int .i64 18, .int .u32 3]) (fun w h => E.run_build #[.bool true, .bool true, .bool false, .bool false, .bool false, .int .i64 18, .int .u32 3] (by kernel_rfl) w) ?_
  refine E.st 0 [.bool true, .bool true, .bool false, .bool false, .bool false, .int .i64 18, .int .u32 3] rfl rfl ?_
  refine E.To.code ?_
  refine E.wk [(2, .pointer (some ⟨g1, 0, none⟩))] [(g1, [.bool true, .bool true, .bool false, .bool false, .bool false, .int .i64 18, .int .u32 3])] (List.Sublist.refl _) ?_
  refine E.C.ret (E.P.rb (E.P.rt (E.To.body (fn := Try.f47) [.agg #[.bool true, .bool true, .bool false, .bool false, .bool false, .int .i64 18, .int .u32 3]] ?_ ?_)))
  · exact ⟨⟨by kernel_rfl, _, _, 0, _, rfl, rfl, by kernel_rfl⟩, trivial⟩
  intro w h
  exact ⟨by show Ending.returned (.agg #[.bool true, .bool true, .bool false, .bool false, .bool false, .int .i64 18, .int .u32 3]) = _; unfold Q3.of; rw [hc4, cond_false, hc9, cond_false, hc16, cond_false, hc17, cond_false, hc18, cond_false, hc19, cond_false, hc24, cond_false, hc25, cond_false, hc26, cond_true] <;> rfl, h.ch.bel (fun _ h => h.elim)⟩
 refine E.sr ?_
 refine E.op (.int .i64 op) ?_
 refine E.op (.bool (op == 54)) ?_
 refine E.op (.bool (op == 54)) ?_
 refine E.To.code ?_
 refine E.wk [(2, .pointer (some ⟨g1, 0, none⟩)), (71, .bool (op == 54))] [(g1, [.bool false, .bool false, .bool false, .bool false, .bool false, .int .i64 0, .int .u32 0])] (List.Sublist.refl _) ?_
 refine E.cd (op == 54) (fun hc27 => ?_) (fun hc27 => ?_)
 ·
  refine E.sr ?_
  refine E.vl (.agg #[.bool true, .bool false, .bool true, .bool false, .bool false, .int .i64 18, .int .u32 4]) (fun w h => E.run_build #[.bool true, .bool false, .bool true, .bool false, .bool false, .int .i64 18, .int .u32 4] (by kernel_rfl) w) ?_
  refine E.st 0 [.bool true, .bool false, .bool true, .bool false, .bool false, .int .i64 18, .int .u32 4] rfl rfl ?_
  refine E.To.code ?_
  refine E.C.ret (E.P.rb (E.P.rt (E.To.body (fn := Try.f47) [.agg #[.bool true, .bool false, .bool true, .bool false, .bool false, .int .i64 18, .int .u32 4]] ?_ ?_)))
  · exact ⟨⟨by kernel_rfl, _, _, 0, _, rfl, rfl, by kernel_rfl⟩, trivial⟩
  intro w h
  exact ⟨by show Ending.returned (.agg #[.bool true, .bool false, .bool true, .bool false, .bool false, .int .i64 18, .int .u32 4]) = _; unfold Q3.of; rw [hc4, cond_false, hc9, cond_false, hc16, cond_false, hc17, cond_false, hc18, cond_false, hc19, cond_false, hc24, cond_false, hc25, cond_false, hc26, cond_false, hc27, cond_true] <;> rfl, h.ch.bel (fun _ h => h.elim)⟩
 refine E.C.skip (E.P.nb (E.To.code ?_))
 refine E.sr ?_
 refine E.vl (.agg #[.bool false, .bool false, .bool false, .bool false, .bool false, .int .i64 0, .int .u32 0]) (fun w h => E.run_build #[.bool false, .bool false, .bool false, .bool false, .bool false, .int .i64 0, .int .u32 0] (by kernel_rfl) w) ?_
 refine E.st 0 [.bool false, .bool false, .bool false, .bool false, .bool false, .int .i64 0, .int .u32 0] rfl rfl ?_
 refine E.To.code ?_
 refine E.C.ret (E.To.body (fn := Try.f47) [.agg #[.bool false, .bool false, .bool false, .bool false, .bool false, .int .i64 0, .int .u32 0]] ?_ ?_)
 · exact ⟨⟨by kernel_rfl, _, _, 0, _, rfl, rfl, by kernel_rfl⟩, trivial⟩
 intro w h
 exact ⟨by show Ending.returned (.agg #[.bool false, .bool false, .bool false, .bool false, .bool false, .int .i64 0, .int .u32 0]) = _; unfold Q3.of; rw [hc4, cond_false, hc9, cond_false, hc16, cond_false, hc17, cond_false, hc18, cond_false, hc19, cond_false, hc24, cond_false, hc25, cond_false, hc26, cond_false, hc27, cond_false] <;> rfl, h.ch.bel (fun _ h => h.elim)⟩

def Q3.reg (n : Int) (u : Bool) : Bool := ((n == 0) || ((u && (decide (n > 0))) && (decide (n < 16))))
theorem reg3_any (n : Int) (u : Bool) (w : World) : Calls Try.prog 65 #[.int .i64 n, .bool u] w fun e w' => e = .returned (.bool (Q3.reg n u)) ∧ Bel w w' := by
 refine E.enter (n := 18) (S := fun _ => False) Try.func65 rfl rfl (by kernel_rfl) (E.Hp.start w) ?_
 refine E.sr ?_
 refine E.op (.bool false) ?_
 refine E.tr ?_
 refine E.op (.int .i64 n) ?_
 refine E.op (.bool (n == 0)) ?_
 refine E.op (.bool (n == 0)) ?_
 refine E.G.cut 10 [(4, .bool false), (17, .bool ((n == 0) || ((u && (decide (n > 0))) && (decide (n < 16)))))] (fun _ => True) [] ?_ ?_
 ·
  generalize hc1 : (n == 0) = b2
  cases b2
  ·
   refine E.op (.bool u) ?_
   refine E.op (.bool u) ?_
   refine E.G.cut 3 [(0, .int .i64 n), (4, .bool false), (7, .bool false), (12, .bool (u && (decide (n > 0))))] (fun _ => True) [] ?_ ?_
   ·
    generalize hc3 : u = b4
    cases b4
    ·
     refine E.sk ?_
     refine E.sk ?_
     refine E.op (.bool false) ?_
     exact E.G.end_pst ⟨by kernel_rfl, by kernel_rfl⟩ (List.Sublist.refl _) (fun _ h => h)
    refine E.op (.int .i64 n) ?_
    refine E.op (.bool (decide (n > 0))) ?_
    refine E.op (.bool (decide (n > 0))) ?_
    exact E.G.end_pst ⟨by kernel_rfl, by kernel_rfl⟩ (List.Sublist.refl _) (fun _ h => h)
   refine E.op (.bool (u && (decide (n > 0)))) ?_
   refine E.G.cut 3 [(4, .bool false), (7, .bool false), (16, .bool ((u && (decide (n > 0))) && (decide (n < 16))))] (fun _ => True) [] ?_ ?_
   ·
    generalize hc5 : (u && (decide (n > 0))) = b6
    cases b6
    ·
     refine E.sk ?_
     refine E.sk ?_
     refine E.op (.bool false) ?_
     exact E.G.end_pst ⟨by kernel_rfl, by kernel_rfl⟩ (List.Sublist.refl _) (fun _ h => h)
    refine E.op (.int .i64 n) ?_
    refine E.op (.bool (decide (n < 16))) ?_
    refine E.op (.bool (decide (n < 16))) ?_
    exact E.G.end_pst ⟨by kernel_rfl, by kernel_rfl⟩ (List.Sublist.refl _) (fun _ h => h)
   refine E.op (.bool ((u && (decide (n > 0))) && (decide (n < 16)))) ?_
   exact E.G.end_pst ⟨by kernel_rfl, by kernel_rfl⟩ (List.Sublist.refl _) (fun _ h => h)
  refine E.sk ?_
  refine E.sk ?_
  refine E.sk ?_
  refine E.sk ?_
  refine E.sk ?_
  refine E.sk ?_
  refine E.sk ?_
  refine E.sk ?_
  refine E.sk ?_
  refine E.op (.bool true) ?_
  exact E.G.end_pst ⟨by kernel_rfl, by kernel_rfl⟩ (List.Sublist.refl _) (fun _ h => h)
 refine E.op (.bool ((n == 0) || ((u && (decide (n > 0))) && (decide (n < 16))))) ?_
 refine E.To.code ?_
 refine E.C.ret (E.To.body (fn := Try.f65) [.bool ((n == 0) || ((u && (decide (n > 0))) && (decide (n < 16))))] ?_ ?_)
 · exact ⟨⟨by kernel_rfl, by kernel_rfl⟩, trivial⟩
 intro w h
 exact ⟨rfl, h.ch.bel (fun _ h => h.elim)⟩

theorem Q3.bifb {c : Bool} {x y : Q3.Fm} (hx : x.bits ≤ 22) (hy : y.bits ≤ 22) : (bif c then x else y).bits ≤ 22 := by
  cases c
  · exact hy
  · exact hx
theorem Q3.of_bits (x : Int) : (Q3.of x).bits ≤ 22 := by
  unfold Q3.of
  repeat' (first | (show (_ : Nat) ≤ 22; decide) | refine Q3.bifb ?_ ?_)

def Q3.valid (i : Q.I) : Bool := (bif (!((Q3.of i.op).is)) then false else (bif (((!(Q3.reg i.d ((Q3.of i.op).d))) || (!(Q3.reg i.a ((Q3.of i.op).a)))) || (!(Q3.reg i.b ((Q3.of i.op).b)))) then false else (bif ((((Q3.of i.op).bits : Nat) : Int) == 0) then (i.imm == 0) else (bif (Q3.of i.op).sg then (W.sign i.imm (((Q3.of i.op).bits : Nat) : Int) == i.imm) else (bif (decide (((Q3.of i.op).most) > 0)) then (decide (i.imm ≤ ((Q3.of i.op).most))) else (decide (i.imm < (IntKind.wrap .u32 (1 * 2 ^ (min ((Q3.of i.op).bits) 32))))))))))
theorem Valid3_any (i : Q.I) (hm : 0 ≤ i.imm ∧ i.imm < 4294967296) (w : World) : Calls Try.prog 49 #[.agg #[.int .i64 i.op, .int .i64 i.d, .int .i64 i.a, .int .i64 i.b, .int .u32 i.imm]] w fun e w' => e = .returned (.bool (Q3.valid i)) ∧ Bel w w' := by
 have hb := Q3.of_bits i.op
 refine E.enter (n := 66) (S := fun _ => False) Try.func49 rfl rfl (by kernel_rfl) (E.Hp.start w) ?_
 refine E.sr ?_
 refine E.G.new (fun g => .pointer (some ⟨g, 0, none⟩)) [.int .i64 i.op, .int .i64 i.d, .int .i64 i.a, .int .i64 i.b, .int .u32 i.imm] 47 (fun w => by kernel_rfl) (by kernel_rfl) (fun g1 => ?_)
 refine E.op (.bool false) ?_
 refine E.tr ?_
 refine E.op (.pointer (some ⟨g1, 0, none⟩)) ?_
 refine E.li (.int .i64 i.op) 0 rfl rfl ?_
 refine E.G.call (.agg #[.bool ((Q3.of i.op).is), .bool ((Q3.of i.op).d), .bool ((Q3.of i.op).a), .bool ((Q3.of i.op).b), .bool ((Q3.of i.op).sg), .int .i64 (((Q3.of i.op).bits : Nat) : Int), .int .u32 ((Q3.of i.op).most)]) (fun w h => Of3_any i.op w) (fun w _ => by kernel_rfl) (by kernel_rfl) ?_
 refine E.G.new (fun g => .pointer (some ⟨g, 0, none⟩)) [.bool false, .bool false, .bool false, .bool false, .bool false, .int .i64 0, .int .u32 0] 88 (fun w => by kernel_rfl) (by kernel_rfl) (fun g2 => ?_)
 refine E.st 0 [.bool ((Q3.of i.op).is), .bool ((Q3.of i.op).d), .bool ((Q3.of i.op).a), .bool ((Q3.of i.op).b), .bool ((Q3.of i.op).sg), .int .i64 (((Q3.of i.op).bits : Nat) : Int), .int .u32 ((Q3.of i.op).most)] rfl rfl ?_
 refine E.To.code ?_
 refine E.C.seq ?_
 refine E.sr ?_
 refine E.op (.pointer (some ⟨g2, 0, none⟩)) ?_
 refine E.li (.bool ((Q3.of i.op).is)) 0 rfl rfl ?_
 refine E.op (.bool (!((Q3.of i.op).is))) ?_
 refine E.To.code ?_
 refine E.cd (!((Q3.of i.op).is)) (fun hc3 => ?_) (fun hc3 => ?_)
 ·
  refine E.sr ?_
  refine E.op (.bool false) ?_
  refine E.To.code ?_
  refine E.C.ret (E.P.rt (E.To.body (fn := Try.f49) [.bool false] ?_ ?_))
  · exact ⟨⟨by kernel_rfl, by kernel_rfl⟩, trivial⟩
  intro w h
  exact ⟨by show Ending.returned (.bool false) = _; unfold Q3.valid; rw [hc3, cond_true] <;> rfl, h.ch.bel (fun _ h => h.elim)⟩
 refine E.C.skip (E.To.code ?_)
 refine E.sr ?_
 refine E.op (.pointer (some ⟨g1, 1, none⟩)) ?_
 refine E.li (.int .i64 i.d) 1 rfl rfl ?_
 refine E.op (.pointer (some ⟨g2, 1, none⟩)) ?_
 refine E.li (.bool ((Q3.of i.op).d)) 0 rfl rfl ?_
 refine E.G.call (.bool (Q3.reg i.d ((Q3.of i.op).d))) (fun w h => reg3_any i.d ((Q3.of i.op).d) w) (fun w _ => by kernel_rfl) (by kernel_rfl) ?_
 refine E.op (.bool (Q3.reg i.d ((Q3.of i.op).d))) ?_
 refine E.To.code ?_
 refine E.wk [(1, .pointer (some ⟨g1, 0, none⟩)), (2, .bool false), (3, .pointer (some ⟨g2, 0, none⟩)), (4, .bool (Q3.reg i.d ((Q3.of i.op).d)))] [(g2, [.bool ((Q3.of i.op).is), .bool ((Q3.of i.op).d), .bool ((Q3.of i.op).a), .bool ((Q3.of i.op).b), .bool ((Q3.of i.op).sg), .int .i64 (((Q3.of i.op).bits : Nat) : Int), .int .u32 ((Q3.of i.op).most)]), (g1, [.int .i64 i.op, .int .i64 i.d, .int .i64 i.a, .int .i64 i.b, .int .u32 i.imm])] (List.Sublist.refl _) ?_
 refine E.sr ?_
 refine E.op (.pointer (some ⟨g1, 2, none⟩)) ?_
 refine E.li (.int .i64 i.a) 1 rfl rfl ?_
 refine E.op (.pointer (some ⟨g2, 2, none⟩)) ?_
 refine E.li (.bool ((Q3.of i.op).a)) 0 rfl rfl ?_
 refine E.G.call (.bool (Q3.reg i.a ((Q3.of i.op).a))) (fun w h => reg3_any i.a ((Q3.of i.op).a) w) (fun w _ => by kernel_rfl) (by kernel_rfl) ?_
 refine E.op (.bool (Q3.reg i.a ((Q3.of i.op).a))) ?_
 refine E.tr ?_
 refine E.op (.pointer (some ⟨g1, 3, none⟩)) ?_
 refine E.li (.int .i64 i.b) 1 rfl rfl ?_
 refine E.op (.pointer (some ⟨g2, 3, none⟩)) ?_
 refine E.li (.bool ((Q3.of i.op).b)) 0 rfl rfl ?_
 refine E.G.call (.bool (Q3.reg i.b ((Q3.of i.op).b))) (fun w h => reg3_any i.b ((Q3.of i.op).b) w) (fun w _ => by kernel_rfl) (by kernel_rfl) ?_
 refine E.op (.bool (Q3.reg i.b ((Q3.of i.op).b))) ?_
 refine E.To.code ?_
 refine E.wk [(1, .pointer (some ⟨g1, 0, none⟩)), (2, .bool false), (3, .pointer (some ⟨g2, 0, none⟩)), (4, .bool (Q3.reg i.d ((Q3.of i.op).d))), (5, .bool (Q3.reg i.a ((Q3.of i.op).a))), (6, .bool (Q3.reg i.b ((Q3.of i.op).b)))] [(g2, [.bool ((Q3.of i.op).is), .bool ((Q3.of i.op).d), .bool ((Q3.of i.op).a), .bool ((Q3.of i.op).b), .bool ((Q3.of i.op).sg), .int .i64 (((Q3.of i.op).bits : Nat) : Int), .int .u32 ((Q3.of i.op).most)]), (g1, [.int .i64 i.op, .int .i64 i.d, .int .i64 i.a, .int .i64 i.b, .int .u32 i.imm])] (List.Sublist.refl _) ?_
 refine E.C.seq ?_
 refine E.sr ?_
 refine E.op (.bool (Q3.reg i.d ((Q3.of i.op).d))) ?_
 refine E.op (.bool (!(Q3.reg i.d ((Q3.of i.op).d)))) ?_
 refine E.op (.bool (!(Q3.reg i.d ((Q3.of i.op).d)))) ?_
 refine E.G.cut 3 [(1, .pointer (some ⟨g1, 0, none⟩)), (2, .bool false), (3, .pointer (some ⟨g2, 0, none⟩)), (6, .bool (Q3.reg i.b ((Q3.of i.op).b))), (33, .bool ((!(Q3.reg i.d ((Q3.of i.op).d))) || (!(Q3.reg i.a ((Q3.of i.op).a)))))] (fun _ => True) [(g2, [.bool ((Q3.of i.op).is), .bool ((Q3.of i.op).d), .bool ((Q3.of i.op).a), .bool ((Q3.of i.op).b), .bool ((Q3.of i.op).sg), .int .i64 (((Q3.of i.op).bits : Nat) : Int), .int .u32 ((Q3.of i.op).most)]), (g1, [.int .i64 i.op, .int .i64 i.d, .int .i64 i.a, .int .i64 i.b, .int .u32 i.imm])] ?_ ?_
 ·
  generalize hc4 : (!(Q3.reg i.d ((Q3.of i.op).d))) = b5
  cases b5
  ·
   refine E.op (.bool (Q3.reg i.a ((Q3.of i.op).a))) ?_
   refine E.op (.bool (!(Q3.reg i.a ((Q3.of i.op).a)))) ?_
   refine E.op (.bool (!(Q3.reg i.a ((Q3.of i.op).a)))) ?_
   exact E.G.end_pst ⟨by kernel_rfl, by kernel_rfl⟩ (List.Sublist.refl _) (fun _ h => h)
  refine E.sk ?_
  refine E.sk ?_
  refine E.op (.bool true) ?_
  exact E.G.end_pst ⟨by kernel_rfl, by kernel_rfl⟩ (List.Sublist.refl _) (fun _ h => h)
 refine E.op (.bool ((!(Q3.reg i.d ((Q3.of i.op).d))) || (!(Q3.reg i.a ((Q3.of i.op).a))))) ?_
 refine E.G.cut 3 [(1, .pointer (some ⟨g1, 0, none⟩)), (2, .bool false), (3, .pointer (some ⟨g2, 0, none⟩)), (37, .bool (((!(Q3.reg i.d ((Q3.of i.op).d))) || (!(Q3.reg i.a ((Q3.of i.op).a)))) || (!(Q3.reg i.b ((Q3.of i.op).b)))))] (fun _ => True) [(g2, [.bool ((Q3.of i.op).is), .bool ((Q3.of i.op).d), .bool ((Q3.of i.op).a), .bool ((Q3.of i.op).b), .bool ((Q3.of i.op).sg), .int .i64 (((Q3.of i.op).bits : Nat) : Int), .int .u32 ((Q3.of i.op).most)]), (g1, [.int .i64 i.op, .int .i64 i.d, .int .i64 i.a, .int .i64 i.b, .int .u32 i.imm])] ?_ ?_
 ·
  generalize hc6 : ((!(Q3.reg i.d ((Q3.of i.op).d))) || (!(Q3.reg i.a ((Q3.of i.op).a)))) = b7
  cases b7
  ·
   refine E.op (.bool (Q3.reg i.b ((Q3.of i.op).b))) ?_
   refine E.op (.bool (!(Q3.reg i.b ((Q3.of i.op).b)))) ?_
   refine E.op (.bool (!(Q3.reg i.b ((Q3.of i.op).b)))) ?_
   exact E.G.end_pst ⟨by kernel_rfl, by kernel_rfl⟩ (List.Sublist.refl _) (fun _ h => h)
  refine E.sk ?_
  refine E.sk ?_
  refine E.op (.bool true) ?_
  exact E.G.end_pst ⟨by kernel_rfl, by kernel_rfl⟩ (List.Sublist.refl _) (fun _ h => h)
 refine E.To.code ?_
 refine E.cd (((!(Q3.reg i.d ((Q3.of i.op).d))) || (!(Q3.reg i.a ((Q3.of i.op).a)))) || (!(Q3.reg i.b ((Q3.of i.op).b)))) (fun hc8 => ?_) (fun hc8 => ?_)
 ·
  refine E.sr ?_
  refine E.op (.bool false) ?_
  refine E.To.code ?_
  refine E.C.ret (E.P.rt (E.To.body (fn := Try.f49) [.bool false] ?_ ?_))
  · exact ⟨⟨by kernel_rfl, by kernel_rfl⟩, trivial⟩
  intro w h
  exact ⟨by show Ending.returned (.bool false) = _; unfold Q3.valid; rw [hc3, cond_false, hc8, cond_true] <;> rfl, h.ch.bel (fun _ h => h.elim)⟩
 refine E.C.skip (E.To.code ?_)
 refine E.C.seq ?_
 refine E.sr ?_
 refine E.op (.pointer (some ⟨g2, 5, none⟩)) ?_
 refine E.li (.int .i64 (((Q3.of i.op).bits : Nat) : Int)) 0 rfl rfl ?_
 refine E.op (.bool ((((Q3.of i.op).bits : Nat) : Int) == 0)) ?_
 refine E.To.code ?_
 refine E.cd ((((Q3.of i.op).bits : Nat) : Int) == 0) (fun hc9 => ?_) (fun hc9 => ?_)
 ·
  refine E.sr ?_
  refine E.op (.pointer (some ⟨g1, 4, none⟩)) ?_
  refine E.li (.int .u32 i.imm) 1 rfl rfl ?_
  refine E.op (.bool (i.imm == 0)) ?_
  refine E.op (.bool (i.imm == 0)) ?_
  refine E.To.code ?_
  refine E.C.ret (E.P.rt (E.To.body (fn := Try.f49) [.bool (i.imm == 0)] ?_ ?_))
  · exact ⟨⟨by kernel_rfl, by kernel_rfl⟩, trivial⟩
  intro w h
  exact ⟨by show Ending.returned (.bool (i.imm == 0)) = _; unfold Q3.valid; rw [hc3, cond_false, hc8, cond_false, hc9, cond_true] <;> rfl, h.ch.bel (fun _ h => h.elim)⟩
 refine E.C.skip (E.To.code ?_)
 refine E.C.seq ?_
 refine E.sr ?_
 refine E.op (.pointer (some ⟨g2, 4, none⟩)) ?_
 refine E.li (.bool ((Q3.of i.op).sg)) 0 rfl rfl ?_
 refine E.To.code ?_
 refine E.cd ((Q3.of i.op).sg) (fun hc10 => ?_) (fun hc10 => ?_)
 ·
  refine E.sr ?_
  refine E.op (.pointer (some ⟨g1, 4, none⟩)) ?_
  refine E.li (.int .u32 i.imm) 1 rfl rfl ?_
  refine E.op (.pointer (some ⟨g2, 5, none⟩)) ?_
  refine E.li (.int .i64 (((Q3.of i.op).bits : Nat) : Int)) 0 rfl rfl ?_
  refine E.G.call (.bool (W.sign i.imm (((Q3.of i.op).bits : Nat) : Int) == i.imm)) (fun w h => rFits_any i.imm (((Q3.of i.op).bits : Nat) : Int) hm.1 hm.2 (by omega) (by omega) w) (fun w _ => by kernel_rfl) (by kernel_rfl) ?_
  refine E.op (.bool (W.sign i.imm (((Q3.of i.op).bits : Nat) : Int) == i.imm)) ?_
  refine E.To.code ?_
  refine E.wk [(1, .pointer (some ⟨g1, 0, none⟩)), (2, .bool (W.sign i.imm (((Q3.of i.op).bits : Nat) : Int) == i.imm)), (3, .pointer (some ⟨g2, 0, none⟩))] [(g2, [.bool ((Q3.of i.op).is), .bool ((Q3.of i.op).d), .bool ((Q3.of i.op).a), .bool ((Q3.of i.op).b), .bool ((Q3.of i.op).sg), .int .i64 (((Q3.of i.op).bits : Nat) : Int), .int .u32 ((Q3.of i.op).most)]), (g1, [.int .i64 i.op, .int .i64 i.d, .int .i64 i.a, .int .i64 i.b, .int .u32 i.imm])] (List.Sublist.refl _) ?_
  refine E.C.ret (E.P.rt (E.To.body (fn := Try.f49) [.bool (W.sign i.imm (((Q3.of i.op).bits : Nat) : Int) == i.imm)] ?_ ?_))
  · exact ⟨⟨by kernel_rfl, by kernel_rfl⟩, trivial⟩
  intro w h
  exact ⟨by show Ending.returned (.bool (W.sign i.imm (((Q3.of i.op).bits : Nat) : Int) == i.imm)) = _; unfold Q3.valid; rw [hc3, cond_false, hc8, cond_false, hc9, cond_false, hc10, cond_true] <;> rfl, h.ch.bel (fun _ h => h.elim)⟩
 refine E.C.skip (E.To.code ?_)
 refine E.C.seq ?_
 refine E.sr ?_
 refine E.op (.pointer (some ⟨g2, 6, none⟩)) ?_
 refine E.li (.int .u32 ((Q3.of i.op).most)) 0 rfl rfl ?_
 refine E.op (.bool (decide (((Q3.of i.op).most) > 0))) ?_
 refine E.To.code ?_
 refine E.wk [(1, .pointer (some ⟨g1, 0, none⟩)), (2, .bool false), (3, .pointer (some ⟨g2, 0, none⟩)), (53, .bool (decide (((Q3.of i.op).most) > 0)))] [(g2, [.bool ((Q3.of i.op).is), .bool ((Q3.of i.op).d), .bool ((Q3.of i.op).a), .bool ((Q3.of i.op).b), .bool ((Q3.of i.op).sg), .int .i64 (((Q3.of i.op).bits : Nat) : Int), .int .u32 ((Q3.of i.op).most)]), (g1, [.int .i64 i.op, .int .i64 i.d, .int .i64 i.a, .int .i64 i.b, .int .u32 i.imm])] (List.Sublist.refl _) ?_
 refine E.cd (decide (((Q3.of i.op).most) > 0)) (fun hc11 => ?_) (fun hc11 => ?_)
 ·
  refine E.sr ?_
  refine E.op (.pointer (some ⟨g1, 4, none⟩)) ?_
  refine E.li (.int .u32 i.imm) 1 rfl rfl ?_
  refine E.op (.pointer (some ⟨g2, 6, none⟩)) ?_
  refine E.li (.int .u32 ((Q3.of i.op).most)) 0 rfl rfl ?_
  refine E.op (.bool (decide (i.imm ≤ ((Q3.of i.op).most)))) ?_
  refine E.op (.bool (decide (i.imm ≤ ((Q3.of i.op).most)))) ?_
  refine E.To.code ?_
  refine E.C.ret (E.P.rt (E.To.body (fn := Try.f49) [.bool (decide (i.imm ≤ ((Q3.of i.op).most)))] ?_ ?_))
  · exact ⟨⟨by kernel_rfl, by kernel_rfl⟩, trivial⟩
  intro w h
  exact ⟨by show Ending.returned (.bool (decide (i.imm ≤ ((Q3.of i.op).most)))) = _; unfold Q3.valid; rw [hc3, cond_false, hc8, cond_false, hc9, cond_false, hc10, cond_false, hc11, cond_true] <;> rfl, h.ch.bel (fun _ h => h.elim)⟩
 refine E.C.skip (E.To.code ?_)
 refine E.sr ?_
 refine E.op (.pointer (some ⟨g1, 4, none⟩)) ?_
 refine E.li (.int .u32 i.imm) 1 rfl rfl ?_
 refine E.op (.pointer (some ⟨g2, 5, none⟩)) ?_
 refine E.li (.int .i64 (((Q3.of i.op).bits : Nat) : Int)) 0 rfl rfl ?_
 refine E.vl (.int .u64 (((Q3.of i.op).bits : Nat) : Int)) (fun w h => E.run_as (a := .int .u64 (IntKind.wrap .u64 (((Q3.of i.op).bits : Nat) : Int))) (by kernel_rfl) (congrArg (Value.int .u64) (Q.w64u (by omega)))) ?_
 refine E.vl (.int .u32 (IntKind.wrap .u32 (1 * 2 ^ (min ((Q3.of i.op).bits) 32)))) (fun w h => E.shlN (k2 := .u64) 1 ((Q3.of i.op).bits) 32 (by rfl) (by kernel_rfl) (by kernel_rfl) w) ?_
 refine E.op (.bool (decide (i.imm < (IntKind.wrap .u32 (1 * 2 ^ (min ((Q3.of i.op).bits) 32)))))) ?_
 refine E.op (.bool (decide (i.imm < (IntKind.wrap .u32 (1 * 2 ^ (min ((Q3.of i.op).bits) 32)))))) ?_
 refine E.To.code ?_
 refine E.wk [(2, .bool (decide (i.imm < (IntKind.wrap .u32 (1 * 2 ^ (min ((Q3.of i.op).bits) 32))))))] [] (List.nil_sublist _) ?_
 refine E.C.ret (E.To.body (fn := Try.f49) [.bool (decide (i.imm < (IntKind.wrap .u32 (1 * 2 ^ (min ((Q3.of i.op).bits) 32)))))] ?_ ?_)
 · exact ⟨⟨by kernel_rfl, by kernel_rfl⟩, trivial⟩
 intro w h
 exact ⟨by show Ending.returned (.bool (decide (i.imm < (IntKind.wrap .u32 (1 * 2 ^ (min ((Q3.of i.op).bits) 32)))))) = _; unfold Q3.valid; rw [hc3, cond_false, hc8, cond_false, hc9, cond_false, hc10, cond_false, hc11, cond_false] <;> rfl, h.ch.bel (fun _ h => h.elim)⟩

theorem Q3.pow_ne {b : Nat} (h : b ≤ 22) : IntKind.wrap .u32 (1 * 2 ^ (min b 32)) ≠ 0 := by
  have e : ∀ b : Fin 23, IntKind.wrap .u32 (1 * 2 ^ (min b.val 32)) ≠ 0 := by decide +kernel
  exact e ⟨b, by omega⟩

def Q3.encode (i : Q.I) : Int × Int := (bif (!(Q3.valid i)) then (0, 12) else (bif ((((Q3.of i.op).bits : Nat) : Int) == 0) then ((IntKind.wrap .u32 ((IntKind.wrap .u32 ((IntKind.wrap .u32 ((IntKind.wrap .u32 ((IntKind.wrap .u32 i.op) * 67108864)) + (IntKind.wrap .u32 ((IntKind.wrap .u32 i.d) * 4194304)))) + (IntKind.wrap .u32 ((IntKind.wrap .u32 i.a) * 262144)))) + (IntKind.wrap .u32 ((IntKind.wrap .u32 i.b) * 16384)))), 0) else ((IntKind.wrap .u32 ((IntKind.wrap .u32 ((IntKind.wrap .u32 ((IntKind.wrap .u32 ((IntKind.wrap .u32 ((IntKind.wrap .u32 i.op) * 67108864)) + (IntKind.wrap .u32 ((IntKind.wrap .u32 i.d) * 4194304)))) + (IntKind.wrap .u32 ((IntKind.wrap .u32 i.a) * 262144)))) + (IntKind.wrap .u32 ((IntKind.wrap .u32 i.b) * 16384)))) + (Int.tmod i.imm (IntKind.wrap .u32 (1 * 2 ^ (min ((Q3.of i.op).bits) 32)))))), 0)))
theorem Encode3_any (i : Q.I) (hm : 0 ≤ i.imm ∧ i.imm < 4294967296) (w : World) : Calls Try.prog 22 #[.agg #[.int .i64 i.op, .int .i64 i.d, .int .i64 i.a, .int .i64 i.b, .int .u32 i.imm]] w fun e w' => e = .returned (.tuple #[.int .u32 (((Q3.encode i)).1), .int .i64 (((Q3.encode i)).2)]) ∧ Bel w w' := by
 have hb := Q3.of_bits i.op
 refine E.enter (n := 45) (S := fun _ => False) Try.func22 rfl rfl (by kernel_rfl) (E.Hp.start w) ?_
 refine E.sr ?_
 refine E.G.new (fun g => .pointer (some ⟨g, 0, none⟩)) [.int .i64 i.op, .int .i64 i.d, .int .i64 i.a, .int .i64 i.b, .int .u32 i.imm] 47 (fun w => by kernel_rfl) (by kernel_rfl) (fun g1 => ?_)
 refine E.op (.int .u32 0) ?_
 refine E.op (.int .i64 0) ?_
 refine E.tr ?_
 refine E.li (.agg #[.int .i64 i.op, .int .i64 i.d, .int .i64 i.a, .int .i64 i.b, .int .u32 i.imm]) 0 rfl rfl ?_
 refine E.G.call (.bool (Q3.valid i)) (fun w h => Valid3_any i hm w) (fun w _ => by kernel_rfl) (by kernel_rfl) ?_
 refine E.op (.bool (Q3.valid i)) ?_
 refine E.To.code ?_
 refine E.C.seq ?_
 refine E.sr ?_
 refine E.op (.bool (Q3.valid i)) ?_
 refine E.op (.bool (!(Q3.valid i))) ?_
 refine E.To.code ?_
 refine E.cd (!(Q3.valid i)) (fun hc2 => ?_) (fun hc2 => ?_)
 ·
  refine E.sr ?_
  refine E.op (.int .u32 0) ?_
  refine E.op (.int .i64 12) ?_
  refine E.To.code ?_
  refine E.C.ret (E.P.rt (E.To.body (fn := Try.f22) [.int .u32 0, .int .i64 12] ?_ ?_))
  · exact ⟨⟨by kernel_rfl, by kernel_rfl⟩, ⟨by kernel_rfl, by kernel_rfl⟩, trivial⟩
  intro w h
  exact ⟨by show Ending.returned (.tuple #[.int .u32 0, .int .i64 12]) = _; unfold Q3.encode; rw [hc2, cond_true] <;> rfl, h.ch.bel (fun _ h => h.elim)⟩
 refine E.C.skip (E.To.code ?_)
 refine E.sr ?_
 refine E.op (.pointer (some ⟨g1, 0, none⟩)) ?_
 refine E.li (.int .i64 i.op) 0 rfl rfl ?_
 refine E.op (.int .u32 (IntKind.wrap .u32 i.op)) ?_
 refine E.op (.int .u32 (IntKind.wrap .u32 ((IntKind.wrap .u32 i.op) * 67108864))) ?_
 refine E.op (.pointer (some ⟨g1, 1, none⟩)) ?_
 refine E.li (.int .i64 i.d) 0 rfl rfl ?_
 refine E.op (.int .u32 (IntKind.wrap .u32 i.d)) ?_
 refine E.op (.int .u32 (IntKind.wrap .u32 ((IntKind.wrap .u32 i.d) * 4194304))) ?_
 refine E.op (.int .u32 (IntKind.wrap .u32 ((IntKind.wrap .u32 ((IntKind.wrap .u32 i.op) * 67108864)) + (IntKind.wrap .u32 ((IntKind.wrap .u32 i.d) * 4194304))))) ?_
 refine E.op (.pointer (some ⟨g1, 2, none⟩)) ?_
 refine E.li (.int .i64 i.a) 0 rfl rfl ?_
 refine E.op (.int .u32 (IntKind.wrap .u32 i.a)) ?_
 refine E.op (.int .u32 (IntKind.wrap .u32 ((IntKind.wrap .u32 i.a) * 262144))) ?_
 refine E.op (.int .u32 (IntKind.wrap .u32 ((IntKind.wrap .u32 ((IntKind.wrap .u32 ((IntKind.wrap .u32 i.op) * 67108864)) + (IntKind.wrap .u32 ((IntKind.wrap .u32 i.d) * 4194304)))) + (IntKind.wrap .u32 ((IntKind.wrap .u32 i.a) * 262144))))) ?_
 refine E.op (.pointer (some ⟨g1, 3, none⟩)) ?_
 refine E.li (.int .i64 i.b) 0 rfl rfl ?_
 refine E.op (.int .u32 (IntKind.wrap .u32 i.b)) ?_
 refine E.op (.int .u32 (IntKind.wrap .u32 ((IntKind.wrap .u32 i.b) * 16384))) ?_
 refine E.op (.int .u32 (IntKind.wrap .u32 ((IntKind.wrap .u32 ((IntKind.wrap .u32 ((IntKind.wrap .u32 ((IntKind.wrap .u32 i.op) * 67108864)) + (IntKind.wrap .u32 ((IntKind.wrap .u32 i.d) * 4194304)))) + (IntKind.wrap .u32 ((IntKind.wrap .u32 i.a) * 262144)))) + (IntKind.wrap .u32 ((IntKind.wrap .u32 i.b) * 16384))))) ?_
 refine E.op (.int .u32 (IntKind.wrap .u32 ((IntKind.wrap .u32 ((IntKind.wrap .u32 ((IntKind.wrap .u32 ((IntKind.wrap .u32 i.op) * 67108864)) + (IntKind.wrap .u32 ((IntKind.wrap .u32 i.d) * 4194304)))) + (IntKind.wrap .u32 ((IntKind.wrap .u32 i.a) * 262144)))) + (IntKind.wrap .u32 ((IntKind.wrap .u32 i.b) * 16384))))) ?_
 refine E.To.code ?_
 refine E.wk [(1, .pointer (some ⟨g1, 0, none⟩)), (2, .int .u32 0), (3, .int .i64 0), (5, .int .u32 (IntKind.wrap .u32 ((IntKind.wrap .u32 ((IntKind.wrap .u32 ((IntKind.wrap .u32 ((IntKind.wrap .u32 i.op) * 67108864)) + (IntKind.wrap .u32 ((IntKind.wrap .u32 i.d) * 4194304)))) + (IntKind.wrap .u32 ((IntKind.wrap .u32 i.a) * 262144)))) + (IntKind.wrap .u32 ((IntKind.wrap .u32 i.b) * 16384)))))] [(g1, [.int .i64 i.op, .int .i64 i.d, .int .i64 i.a, .int .i64 i.b, .int .u32 i.imm])] (List.Sublist.refl _) ?_
 refine E.sr ?_
 refine E.op (.pointer (some ⟨g1, 0, none⟩)) ?_
 refine E.li (.int .i64 i.op) 0 rfl rfl ?_
 refine E.G.call (.agg #[.bool ((Q3.of i.op).is), .bool ((Q3.of i.op).d), .bool ((Q3.of i.op).a), .bool ((Q3.of i.op).b), .bool ((Q3.of i.op).sg), .int .i64 (((Q3.of i.op).bits : Nat) : Int), .int .u32 ((Q3.of i.op).most)]) (fun w h => Of3_any i.op w) (fun w _ => by kernel_rfl) (by kernel_rfl) ?_
 refine E.op (.int .i64 (((Q3.of i.op).bits : Nat) : Int)) ?_
 refine E.op (.int .i64 (((Q3.of i.op).bits : Nat) : Int)) ?_
 refine E.To.code ?_
 refine E.C.seq ?_
 refine E.sr ?_
 refine E.op (.int .i64 (((Q3.of i.op).bits : Nat) : Int)) ?_
 refine E.op (.bool ((((Q3.of i.op).bits : Nat) : Int) == 0)) ?_
 refine E.To.code ?_
 refine E.cd ((((Q3.of i.op).bits : Nat) : Int) == 0) (fun hc3 => ?_) (fun hc3 => ?_)
 ·
  refine E.sr ?_
  refine E.op (.int .u32 (IntKind.wrap .u32 ((IntKind.wrap .u32 ((IntKind.wrap .u32 ((IntKind.wrap .u32 ((IntKind.wrap .u32 i.op) * 67108864)) + (IntKind.wrap .u32 ((IntKind.wrap .u32 i.d) * 4194304)))) + (IntKind.wrap .u32 ((IntKind.wrap .u32 i.a) * 262144)))) + (IntKind.wrap .u32 ((IntKind.wrap .u32 i.b) * 16384))))) ?_
  refine E.op (.int .u32 (IntKind.wrap .u32 ((IntKind.wrap .u32 ((IntKind.wrap .u32 ((IntKind.wrap .u32 ((IntKind.wrap .u32 i.op) * 67108864)) + (IntKind.wrap .u32 ((IntKind.wrap .u32 i.d) * 4194304)))) + (IntKind.wrap .u32 ((IntKind.wrap .u32 i.a) * 262144)))) + (IntKind.wrap .u32 ((IntKind.wrap .u32 i.b) * 16384))))) ?_
  refine E.op (.int .i64 0) ?_
  refine E.To.code ?_
  refine E.C.ret (E.P.rt (E.To.body (fn := Try.f22) [.int .u32 (IntKind.wrap .u32 ((IntKind.wrap .u32 ((IntKind.wrap .u32 ((IntKind.wrap .u32 ((IntKind.wrap .u32 i.op) * 67108864)) + (IntKind.wrap .u32 ((IntKind.wrap .u32 i.d) * 4194304)))) + (IntKind.wrap .u32 ((IntKind.wrap .u32 i.a) * 262144)))) + (IntKind.wrap .u32 ((IntKind.wrap .u32 i.b) * 16384)))), .int .i64 0] ?_ ?_))
  · exact ⟨⟨by kernel_rfl, by kernel_rfl⟩, ⟨by kernel_rfl, by kernel_rfl⟩, trivial⟩
  intro w h
  exact ⟨by show Ending.returned (.tuple #[.int .u32 (IntKind.wrap .u32 ((IntKind.wrap .u32 ((IntKind.wrap .u32 ((IntKind.wrap .u32 ((IntKind.wrap .u32 i.op) * 67108864)) + (IntKind.wrap .u32 ((IntKind.wrap .u32 i.d) * 4194304)))) + (IntKind.wrap .u32 ((IntKind.wrap .u32 i.a) * 262144)))) + (IntKind.wrap .u32 ((IntKind.wrap .u32 i.b) * 16384)))), .int .i64 0]) = _; unfold Q3.encode; rw [hc2, cond_false, hc3, cond_true] <;> rfl, h.ch.bel (fun _ h => h.elim)⟩
 refine E.C.skip (E.To.code ?_)
 refine E.sr ?_
 refine E.op (.int .u32 (IntKind.wrap .u32 ((IntKind.wrap .u32 ((IntKind.wrap .u32 ((IntKind.wrap .u32 ((IntKind.wrap .u32 i.op) * 67108864)) + (IntKind.wrap .u32 ((IntKind.wrap .u32 i.d) * 4194304)))) + (IntKind.wrap .u32 ((IntKind.wrap .u32 i.a) * 262144)))) + (IntKind.wrap .u32 ((IntKind.wrap .u32 i.b) * 16384))))) ?_
 refine E.op (.pointer (some ⟨g1, 4, none⟩)) ?_
 refine E.li (.int .u32 i.imm) 0 rfl rfl ?_
 refine E.op (.int .i64 (((Q3.of i.op).bits : Nat) : Int)) ?_
 refine E.vl (.int .u64 (((Q3.of i.op).bits : Nat) : Int)) (fun w h => E.run_as (a := .int .u64 (IntKind.wrap .u64 (((Q3.of i.op).bits : Nat) : Int))) (by kernel_rfl) (congrArg (Value.int .u64) (Q.w64u (by omega)))) ?_
 refine E.vl (.int .u32 (IntKind.wrap .u32 (1 * 2 ^ (min ((Q3.of i.op).bits) 32)))) (fun w h => E.shlN (k2 := .u64) 1 ((Q3.of i.op).bits) 32 (by rfl) (by kernel_rfl) (by kernel_rfl) w) ?_
 refine E.vl (.int .u32 (Int.tmod i.imm (IntKind.wrap .u32 (1 * 2 ^ (min ((Q3.of i.op).bits) 32))))) (fun w h => E.remI i.imm (IntKind.wrap .u32 (1 * 2 ^ (min ((Q3.of i.op).bits) 32))) (by kernel_rfl) (by kernel_rfl) (Q3.pow_ne hb) w) ?_
 refine E.op (.int .u32 (IntKind.wrap .u32 ((IntKind.wrap .u32 ((IntKind.wrap .u32 ((IntKind.wrap .u32 ((IntKind.wrap .u32 ((IntKind.wrap .u32 i.op) * 67108864)) + (IntKind.wrap .u32 ((IntKind.wrap .u32 i.d) * 4194304)))) + (IntKind.wrap .u32 ((IntKind.wrap .u32 i.a) * 262144)))) + (IntKind.wrap .u32 ((IntKind.wrap .u32 i.b) * 16384)))) + (Int.tmod i.imm (IntKind.wrap .u32 (1 * 2 ^ (min ((Q3.of i.op).bits) 32))))))) ?_
 refine E.op (.int .u32 (IntKind.wrap .u32 ((IntKind.wrap .u32 ((IntKind.wrap .u32 ((IntKind.wrap .u32 ((IntKind.wrap .u32 ((IntKind.wrap .u32 i.op) * 67108864)) + (IntKind.wrap .u32 ((IntKind.wrap .u32 i.d) * 4194304)))) + (IntKind.wrap .u32 ((IntKind.wrap .u32 i.a) * 262144)))) + (IntKind.wrap .u32 ((IntKind.wrap .u32 i.b) * 16384)))) + (Int.tmod i.imm (IntKind.wrap .u32 (1 * 2 ^ (min ((Q3.of i.op).bits) 32))))))) ?_
 refine E.op (.int .i64 0) ?_
 refine E.To.code ?_
 refine E.wk [(2, .int .u32 (IntKind.wrap .u32 ((IntKind.wrap .u32 ((IntKind.wrap .u32 ((IntKind.wrap .u32 ((IntKind.wrap .u32 ((IntKind.wrap .u32 i.op) * 67108864)) + (IntKind.wrap .u32 ((IntKind.wrap .u32 i.d) * 4194304)))) + (IntKind.wrap .u32 ((IntKind.wrap .u32 i.a) * 262144)))) + (IntKind.wrap .u32 ((IntKind.wrap .u32 i.b) * 16384)))) + (Int.tmod i.imm (IntKind.wrap .u32 (1 * 2 ^ (min ((Q3.of i.op).bits) 32))))))), (3, .int .i64 0)] [] (List.nil_sublist _) ?_
 refine E.C.ret (E.To.body (fn := Try.f22) [.int .u32 (IntKind.wrap .u32 ((IntKind.wrap .u32 ((IntKind.wrap .u32 ((IntKind.wrap .u32 ((IntKind.wrap .u32 ((IntKind.wrap .u32 i.op) * 67108864)) + (IntKind.wrap .u32 ((IntKind.wrap .u32 i.d) * 4194304)))) + (IntKind.wrap .u32 ((IntKind.wrap .u32 i.a) * 262144)))) + (IntKind.wrap .u32 ((IntKind.wrap .u32 i.b) * 16384)))) + (Int.tmod i.imm (IntKind.wrap .u32 (1 * 2 ^ (min ((Q3.of i.op).bits) 32)))))), .int .i64 0] ?_ ?_)
 · exact ⟨⟨by kernel_rfl, by kernel_rfl⟩, ⟨by kernel_rfl, by kernel_rfl⟩, trivial⟩
 intro w h
 exact ⟨by show Ending.returned (.tuple #[.int .u32 (IntKind.wrap .u32 ((IntKind.wrap .u32 ((IntKind.wrap .u32 ((IntKind.wrap .u32 ((IntKind.wrap .u32 ((IntKind.wrap .u32 i.op) * 67108864)) + (IntKind.wrap .u32 ((IntKind.wrap .u32 i.d) * 4194304)))) + (IntKind.wrap .u32 ((IntKind.wrap .u32 i.a) * 262144)))) + (IntKind.wrap .u32 ((IntKind.wrap .u32 i.b) * 16384)))) + (Int.tmod i.imm (IntKind.wrap .u32 (1 * 2 ^ (min ((Q3.of i.op).bits) 32)))))), .int .i64 0]) = _; unfold Q3.encode; rw [hc2, cond_false, hc3, cond_false] <;> rfl, h.ch.bel (fun _ h => h.elim)⟩
end Go.Proofs.Ytgbndbljohpnmaa

/- XQo -/
namespace Go.Proofs.Ytgbndbljohpnmaa
set_option linter.unusedVariables false
set_option linter.unusedSimpArgs false
open Go.RowKit
theorem E.api_Trap_eql {fr : E.Fr} {x y : Operand} {u T : TypeId} {d : Option Nat} {pos : String} {af : Array Edge} {gd : Option (Nat × Bool)} {a0 a1 b0 b1 : Int} {w : World}
    (hx : E.ev fr x = .agg #[.int .i64 a0, .int .u32 a1]) (hy : E.ev fr y = .agg #[.int .i64 b0, .int .u32 b1]) :
    (execOp (E.ev fr) ⟨d, .binOp .eql 51 x y u, T, pos, af, gd⟩).run Try.prog w = .ok (.value (.bool (a0 == b0 && a1 == b1))) w := by
  show (do let r ← (do eqGuard .eql 51 x y (E.ev fr x) (E.ev fr y); binOp .eql 51 (E.ev fr x) (E.ev fr y)); pure (Next.value r) : Sem Next).run Try.prog w = _
  rw [hx, hy]
  go_simp
  (repeat' split) <;> simp_all
theorem Q.run_items (w : World) (d : Nat) (l : List Value) (hl : ∀ (i : Nat) (v : Value), l[i]? = some v → ∃ x : Int, v = Value.int .u32 x) : ∀ (is : List Nat), (∀ i ∈ is, i < l.length) → (Op.eqItems (d + 1) 22 1 l.toArray l.toArray is).run Try.prog w = .ok true w
  | [], _ => by simp [Op.eqItems]
  | i :: is, h => by
    have hi : i < l.length := h i (by simp)
    have ih := Q.run_items w d l hl is fun j hj => h j (by simp [hj])
    have ha : (isAgg 22).run Try.prog w = .ok false w := M.one Try.underlying22 rfl
    obtain ⟨x, hx⟩ := hl i _ (List.getElem?_eq_getElem hi)
    have p : (part 22 l.toArray (i * 1)).run Try.prog w = .ok (.int .u32 x) w := by
      have hg : l[i]? = some (.int .u32 x) := by rw [List.getElem?_eq_getElem hi, hx]
      simp [part, ha, hg]
    have e := run_equalIn_int (P := Try.prog) w d 22 .u32 .u32 x x Try.underlying22
    simp only [Op.eqItems, Sem.run_bind, p, e, Result.andThen_ok]
    simpa using ih
theorem Q.run_row (w : World) {t : TypeId} (n : Nat) (l : List Value) (ht : Try.prog.underlying t = some (.array n 22)) (hn : l.length = n) (hl : ∀ (i : Nat) (v : Value), l[i]? = some v → ∃ x : Int, v = Value.int .u32 x) : (Op.equalIn 9999 t (.agg l.toArray) (.agg l.toArray)).run Try.prog w = .ok true w := by
  subst hn
  have hi : ∃ i, Try.prog.info? 22 = some i := by
    cases h : Try.prog.info? 22 with
    | some i => exact ⟨i, rfl⟩
    | none => have : (Try.prog.info? 22).isSome = true := by kernel_rfl
              rw [h] at this; cases this
  obtain ⟨i, hi⟩ := hi
  have h := run_equalIn_array (P := Try.prog) w 9998 l.toArray l.toArray ht hi
  have hc : Try.prog.cellsOf 22 = 1 := by kernel_rfl
  rw [hc, Q.run_items w 9997 l hl (List.range l.length) (by simp)] at h
  exact h
theorem Q.all_u32 {l : List Int} : ∀ (i : Nat) (v : Value), (l.map (Value.int .u32))[i]? = some v → ∃ x : Int, v = Value.int .u32 x := fun i v h => by
  rw [List.getElem?_map] at h
  cases hq : l[i]? with
  | none => rw [hq] at h; cases h
  | some x => rw [hq] at h; exact ⟨x, (Option.some.inj h).symm⟩
theorem E.api_State_nself {fr : E.Fr} {x y : Operand} {u T : TypeId} {d : Option Nat} {pos : String} {af : Array Edge} {gd : Option (Nat × Bool)} (s : Q.S) {w : World}
    (hx : E.ev fr x = s.val) (hy : E.ev fr y = s.val) :
    (execOp (E.ev fr) ⟨d, .binOp .neq 27 x y u, T, pos, af, gd⟩).run Try.prog w = .ok (.value (.bool false)) w := by
  show (do let r ← (do eqGuard .neq 27 x y (E.ev fr x) (E.ev fr y); binOp .neq 27 (E.ev fr x) (E.ev fr y)); pure (Next.value r) : Sem Next).run Try.prog w = _
  have h1 := Q.run_row w 16 ([s.r 0, s.r 1, s.r 2, s.r 3, s.r 4, s.r 5, s.r 6, s.r 7, s.r 8, s.r 9, s.r 10, s.r 11, s.r 12, s.r 13, s.r 14, s.r 15].map (Value.int .u32)) Try.underlying25 rfl Q.all_u32
  have h2 := Q.run_row w 4 ([s.c 0, s.c 1, s.c 2, s.c 3].map (Value.int .u32)) Try.underlying23 rfl Q.all_u32
  simp only [List.map_cons, List.map_nil] at h1 h2
  rw [hx, hy]
  unfold Q.S.val
  go_simp
end Go.Proofs.Ytgbndbljohpnmaa

/- XWm -/
namespace Go.Proofs.Ytgbndbljohpnmaa
set_option linter.unusedVariables false
set_option linter.unusedSimpArgs false
open Go.RowKit
theorem conv1 (w : World) (x : Int) : (convert 97 9 (.slice (some ⟨w.heap.size, 0, none⟩) 1 1)).run Try.prog (w.alloc (.cells #[.int .u8 x] 5)) = .ok (.string (strOfNums [x])) (w.alloc (.cells #[.int .u8 x] 5)) := by
  refine run_convert_bytes_arg _ _ _ Try.underlying97 Try.underlying5 _ 0 1 1 [x] rfl ?_ _ Try.underlying9
  intro i hi
  obtain rfl : i = 0 := by omega
  rw [Nat.zero_add, World.cell?_alloc_mark]; rfl
theorem put_step (n : Int) (k : Nat) (hk : k < 4) : W.put n k ++ strOfNums [n / 2 ^ (8 * k) % 256] = W.put n (k + 1 : Nat) := by
  unfold W.put
  rw [show (max 0 (min (k : Int) 4)).toNat = k by omega, show (max 0 (min ((k + 1 : Nat) : Int) 4)).toNat = k + 1 by omega]
  rcases (by omega : k = 0 ∨ k = 1 ∨ k = 2 ∨ k = 3) with rfl | rfl | rfl | rfl <;> simp [W.bytes4, strOfNums] <;> rfl
theorem rPut_any (n k : Int) (h0 : 0 ≤ n) (h1 : n < 4294967296) (k0 : -9223372036854775808 ≤ k) (k1 : k ≤ 9223372036854775807) (w : World) :
    Calls Try.prog 24 #[.int .u32 n, .int .i64 k] w fun e w' => e = .returned (.string (W.put n k)) ∧ Bel w w' := by
  have hcv := conv1
  go_enter Try.func24, Try.ntmps24
  go_wp2
  go_loopw [5, 6] (fun s i wr => ∃ m : Nat, m ≤ 4 ∧ (m = 0 ∨ m ≤ k) ∧ i = .int .i64 m ∧ s = .string (W.put n m) ∧ Bel w wr) (fun _ i _ => 4 - (intOf i).toNat)
  case atStart => exact ⟨0, by omega, by omega, rfl, rfl, (by repeat (first | assumption | exact Bel.refl _ | refine Bel.drew ?_ | refine Bel.drewN ?_ _ | refine Bel.alloc ?_ _ | (refine Bel.trans ?_ (by assumption)) | (refine Bel.then ?_ (by assumption) (by intro x hx; first | (subst hx; simp; done) | (simp at *; omega)))))⟩
  case round =>
    obtain ⟨m, hm, hm2, rfl, rfl, hb⟩ := hrel
    by_cases c1 : m < k
    · by_cases c2 : m < 4
      · have HS := hid (put_step n m c2)
        have z1 : (strOfNums [n / 2 ^ (8 * m) % 256]).size = 1 := by rw [strOfNums_size]; rfl
        have z2 : (W.put n m).size = m := by have := W.put_size n m (by omega) (by omega); omega
        go_wp2
        go_roundw
        case rel => exact ⟨m + 1, by omega, by omega, by go_num, by rw [← HS.out], (by repeat (first | assumption | exact Bel.refl _ | refine Bel.drew ?_ | refine Bel.drewN ?_ _ | refine Bel.alloc ?_ _ | (refine Bel.trans ?_ (by assumption)) | (refine Bel.then ?_ (by assumption) (by intro x hx; first | (subst hx; simp; done) | (simp at *; omega)))))⟩
        case measure => simp [intOf]; omega
      · have HS := hid (show W.put n m = W.put n k by unfold W.put; rw [show (max 0 (min (m : Int) 4)).toNat = (max 0 (min k 4)).toNat by omega])
        go_wp2
        go_ret
        exact ⟨by rw [← HS.out]; rfl, (by repeat (first | assumption | exact Bel.refl _ | refine Bel.drew ?_ | refine Bel.drewN ?_ _ | refine Bel.alloc ?_ _ | (refine Bel.trans ?_ (by assumption)) | (refine Bel.then ?_ (by assumption) (by intro x hx; first | (subst hx; simp; done) | (simp at *; omega)))))⟩
    · have HS := hid (show W.put n m = W.put n k by unfold W.put; rw [show (max 0 (min (m : Int) 4)).toNat = (max 0 (min k 4)).toNat by omega])
      go_wp2
      go_ret
      exact ⟨by rw [← HS.out]; rfl, (by repeat (first | assumption | exact Bel.refl _ | refine Bel.drew ?_ | refine Bel.drewN ?_ _ | refine Bel.alloc ?_ _ | (refine Bel.trans ?_ (by assumption)) | (refine Bel.then ?_ (by assumption) (by intro x hx; first | (subst hx; simp; done) | (simp at *; omega)))))⟩
end Go.Proofs.Ytgbndbljohpnmaa

/- XQp -/
namespace Go.Proofs.Ytgbndbljohpnmaa
set_option linter.unusedVariables false
set_option linter.unusedSimpArgs false
open Go.RowKit
theorem Q.z0_wf : Q.wf Q.z0 := ⟨by decide, fun _ => by show (0 : Int) ≤ 0 ∧ (0 : Int) < 4294967296; decide, fun _ => by show (0 : Int) ≤ 0 ∧ (0 : Int) < 4294967296; decide⟩
theorem Q.run_wf {most : Int} : ∀ (f n : Nat) {s : Q.S} {V : M.V}, Q.wf s → R.Wf V → Q.wf (Q.run most f n s V).1 ∧ R.Wf (Q.run most f n s V).2.2.2
  | 0, _, _, _, hs, hV => ⟨hs, hV⟩
  | f + 1, n, s, V, hs, hV => by
    have h1 := Q.step_wf hs hV
    rw [Q.run]
    refine Q.bifP (p := fun x : Q.S × Int × Int × M.V => Q.wf x.1 ∧ R.Wf x.2.2.2) (fun _ => ⟨hs, hV⟩) fun _ => Q.bifP (p := fun x : Q.S × Int × Int × M.V => Q.wf x.1 ∧ R.Wf x.2.2.2) (fun _ => ⟨hs, hV⟩) fun _ => Q.bifP (p := fun x : Q.S × Int × Int × M.V => Q.wf x.1 ∧ R.Wf x.2.2.2) (fun _ => ⟨hs, h1.2⟩) fun _ => Q.run_wf f (n + 1) h1.1 h1.2
theorem Q.runs_wf {most : Int} {s : Q.S} {V : M.V} (hs : Q.wf s) (hV : R.Wf V) : Q.wf (Q.runs most s V).1 ∧ R.Wf (Q.runs most s V).2.2.2 := Q.run_wf _ _ hs hV
theorem Q3.enc_bd (i : Q.I) : 0 ≤ (Q3.encode i).1 ∧ (Q3.encode i).1 < 4294967296 := by
  unfold Q3.encode
  refine Q.bifP (p := fun x : Int × Int => 0 ≤ x.1 ∧ x.1 < 4294967296) (fun _ => by decide) fun _ => Q.bifP (p := fun x : Int × Int => 0 ≤ x.1 ∧ x.1 < 4294967296) (fun _ => Q.wrap_bd _) fun _ => Q.wrap_bd _
theorem Q.put_size (n : Int) : (W.put n 4).size = 4 := by
  unfold W.put; rw [strOfNums_size]; rfl
theorem rPut_all (n k : Int) (h : 0 ≤ n ∧ n < 4294967296) (hk : -9223372036854775808 ≤ k ∧ k ≤ 9223372036854775807) (w : World) : Calls Try.prog 24 #[.int .u32 n, .int .i64 k] w fun e w' => e = .returned (.string (W.put n k)) ∧ Bel w w' := rPut_any n k h.1 h.2 hk.1 hk.2 w
def Q.sanS : ByteArray := ((((⟨#[]⟩ : ByteArray) ++ (W.put (Q3.encode ⟨16, 1, 0, 0, 5⟩).1 4)) ++ (W.put (Q3.encode ⟨33, 1, 0, 0, 4294967295⟩).1 4)) ++ (W.put (Q3.encode ⟨50, 0, 0, 0, 0⟩).1 4))
def Q.sanV : M.V := ((M.V.new (M.np 1) false).setc 0 Q.sanS).prot 0 4
def Q.sn1 : Q.S × Int × Int × M.V := Q.runs 1 Q.z0 Q.sanV
def Q.sn2 : Q.S × Int × Int × M.V := Q.runs 2 Q.sn1.1 Q.sn1.2.2.2
def Q.sn3 : Q.S × Int × Int × M.V := Q.runs 1 Q.z0 (M.V.new (M.np 0) false)
def Q.sn4 : Q.S × Int × Int × M.V := Q.runs 0 Q.sn3.1 Q.sn3.2.2.2
theorem San6  : A.Rd Try.prog 10 #[] [] (.bool true) := by
 intro w oo aa hh
 refine E.enter (n := 105) (S := oo) Try.func10 rfl rfl (by kernel_rfl) (A.start (L := []) hh) ?_
 refine E.sr ?_
 refine E.op (.bool false) ?_
 refine E.tr ?_
 refine A.G.call (I := Nat) (D := fun m1 => True) (V := fun m1 => .pointer (some ⟨m1, 0, none⟩)) (q := fun m1 => [M.It m1 (M.V.new (M.np 1) false) (Q.S.cells Q.z0)]) [] (fun m1 => []) (fun m1 => [M.It m1 (M.V.new (M.np 1) false) (Q.S.cells Q.z0)]) (CNew 1) (by kernel_rfl) (A.pn []) (fun m1 => A.pm [0] (by kernel_rfl) (by kernel_rfl)) (fun w _ => by kernel_rfl) (by kernel_rfl) (fun m1 hd2 => ?_)
 refine E.op (.pointer (some ⟨m1, 0, none⟩)) ?_
 refine E.tr ?_
 refine A.G.call (I := Nat) (D := fun m3 => True) (V := fun m3 => .pointer (some ⟨m3, 0, none⟩)) (q := fun m3 => [M.It m3 (M.V.new (M.np 0) false) (Q.S.cells Q.z0)]) [M.It m1 (M.V.new (M.np 1) false) (Q.S.cells Q.z0)] (fun m3 => []) (fun m3 => [M.It m3 (M.V.new (M.np 0) false) (Q.S.cells Q.z0), M.It m1 (M.V.new (M.np 1) false) (Q.S.cells Q.z0)]) (CNew 0) (by kernel_rfl) (A.pn [0]) (fun m3 => A.pm [0, 1] (by kernel_rfl) (by kernel_rfl)) (fun w _ => by kernel_rfl) (by kernel_rfl) (fun m3 hd4 => ?_)
 refine E.op (.pointer (some ⟨m3, 0, none⟩)) ?_
 refine E.To.code ?_
 refine E.C.seq ?_
 refine E.sr ?_
 refine E.op (.pointer (some ⟨m1, 0, none⟩)) ?_
 refine E.op (.bool false) ?_
 refine E.op (.bool false) ?_
 refine E.op (.pointer (some ⟨m3, 0, none⟩)) ?_
 refine E.op (.bool false) ?_
 refine E.op (.bool false) ?_
 refine E.To.code ?_
 refine E.C.condF (by kernel_rfl) (by kernel_rfl) ?_
 refine E.C.skip (E.To.code ?_)
 refine E.wk [(0, .bool false), (1, .pointer (some ⟨m1, 0, none⟩)), (2, .pointer (some ⟨m3, 0, none⟩))] [] (List.Sublist.refl _) ?_
 refine E.sr ?_
 refine E.op (.string (⟨#[]⟩ : ByteArray)) ?_
 refine E.tr ?_
 refine E.vl (.agg #[.int .i64 16, .int .i64 1, .int .i64 0, .int .i64 0, .int .u32 5]) (fun w h => E.run_build #[.int .i64 16, .int .i64 1, .int .i64 0, .int .i64 0, .int .u32 5] (by kernel_rfl) w) ?_
 refine E.vl (.agg #[.int .i64 33, .int .i64 1, .int .i64 0, .int .i64 0, .int .u32 4294967295]) (fun w h => E.run_build #[.int .i64 33, .int .i64 1, .int .i64 0, .int .i64 0, .int .u32 4294967295] (by kernel_rfl) w) ?_
 refine E.vl (.agg #[.int .i64 50, .int .i64 0, .int .i64 0, .int .i64 0, .int .u32 0]) (fun w h => E.run_build #[.int .i64 50, .int .i64 0, .int .i64 0, .int .i64 0, .int .u32 0] (by kernel_rfl) w) ?_
 refine E.G.buildSlice [.int .i64 16, .int .i64 1, .int .i64 0, .int .i64 0, .int .u32 5, .int .i64 33, .int .i64 1, .int .i64 0, .int .i64 0, .int .u32 4294967295, .int .i64 50, .int .i64 0, .int .i64 0, .int .i64 0, .int .u32 0] (by kernel_rfl) (by kernel_rfl) (fun g5 => ?_)
 refine E.op (.slice (some ⟨g5, 0, none⟩) 3 3) ?_
 refine E.To.code ?_
 refine E.C.seq ?_
 refine E.sr ?_
 refine E.op (.int .i64 0) ?_
 refine E.To.code ?_
 refine E.C.block ?_
 refine E.C.rounds 3 ?_
 refine E.C.seq ?_
 refine E.sr ?_
 refine E.op (.int .i64 0) ?_
 refine E.op (.slice (some ⟨g5, 0, none⟩) 3 3) ?_
 refine E.op (.int .i64 3) ?_
 refine E.op (.bool true) ?_
 refine E.To.code ?_
 refine E.C.condT (by kernel_rfl) (by kernel_rfl) ?_
 refine E.C.skip (E.To.code ?_)
 refine E.C.seq ?_
 refine E.C.block ?_
 refine E.sr ?_
 refine E.op (.slice (some ⟨g5, 0, none⟩) 3 3) ?_
 refine E.op (.int .i64 0) ?_
 refine E.op (.pointer (some ⟨g5, 0, none⟩)) ?_
 refine E.li (.agg #[.int .i64 16, .int .i64 1, .int .i64 0, .int .i64 0, .int .u32 5]) 0 rfl rfl ?_
 refine E.G.call (.tuple #[.int .u32 ((Q3.encode (⟨16, 1, 0, 0, 5⟩ : Q.I)).1), .int .i64 ((Q3.encode (⟨16, 1, 0, 0, 5⟩ : Q.I)).2)]) (fun w h => Encode3_any (⟨16, 1, 0, 0, 5⟩ : Q.I) (by decide) w) (fun w _ => by kernel_rfl) (by kernel_rfl) ?_
 refine E.op (.tuple #[.int .u32 ((Q3.encode (⟨16, 1, 0, 0, 5⟩ : Q.I)).1), .int .i64 ((Q3.encode (⟨16, 1, 0, 0, 5⟩ : Q.I)).2)]) ?_
 refine E.op (.int .u32 ((Q3.encode (⟨16, 1, 0, 0, 5⟩ : Q.I)).1)) ?_
 refine E.op (.int .i64 ((Q3.encode (⟨16, 1, 0, 0, 5⟩ : Q.I)).2)) ?_
 refine E.op (.int .u32 ((Q3.encode (⟨16, 1, 0, 0, 5⟩ : Q.I)).1)) ?_
 refine E.op (.int .i64 ((Q3.encode (⟨16, 1, 0, 0, 5⟩ : Q.I)).2)) ?_
 refine E.ur ?_
 refine E.op (.string (⟨#[]⟩ : ByteArray)) ?_
 refine E.op (.int .u32 ((Q3.encode (⟨16, 1, 0, 0, 5⟩ : Q.I)).1)) ?_
 refine E.G.call (.string (W.put ((Q3.encode (⟨16, 1, 0, 0, 5⟩ : Q.I)).1) 4)) (fun w h => rPut_all ((Q3.encode (⟨16, 1, 0, 0, 5⟩ : Q.I)).1) 4 (Q3.enc_bd _) (by omega) w) (fun w _ => by kernel_rfl) (by kernel_rfl) ?_
 refine E.vl (.string ((⟨#[]⟩ : ByteArray) ++ (W.put ((Q3.encode (⟨16, 1, 0, 0, 5⟩ : Q.I)).1) 4))) (fun w h => E.cat (⟨#[]⟩ : ByteArray) (W.put ((Q3.encode (⟨16, 1, 0, 0, 5⟩ : Q.I)).1) 4) (by kernel_rfl) (by kernel_rfl) (by simp only [ByteArray.size_append, Q.put_size]; decide) w) ?_
 refine E.op (.string ((⟨#[]⟩ : ByteArray) ++ (W.put ((Q3.encode (⟨16, 1, 0, 0, 5⟩ : Q.I)).1) 4))) ?_
 refine E.P.nb (E.To.code ?_)
 refine E.C.region ?_
 refine E.op (.int .i64 0) ?_
 refine E.op (.int .i64 1) ?_
 refine E.op (.int .i64 1) ?_
 refine E.To.rounds 2 ?_
 refine E.wk [(0, .bool false), (1, .pointer (some ⟨m1, 0, none⟩)), (2, .pointer (some ⟨m3, 0, none⟩)), (3, .string ((⟨#[]⟩ : ByteArray) ++ (W.put ((Q3.encode (⟨16, 1, 0, 0, 5⟩ : Q.I)).1) 4))), (4, .slice (some ⟨g5, 0, none⟩) 3 3), (5, .int .i64 1), (6, .int .u32 ((Q3.encode (⟨16, 1, 0, 0, 5⟩ : Q.I)).1)), (24, .int .i64 0), (25, .slice (some ⟨g5, 0, none⟩) 3 3), (26, .int .i64 3), (27, .bool true), (28, .int .i64 0), (29, .int .i64 1), (30, .tuple #[.int .u32 ((Q3.encode (⟨16, 1, 0, 0, 5⟩ : Q.I)).1), .int .i64 ((Q3.encode (⟨16, 1, 0, 0, 5⟩ : Q.I)).2)]), (31, .slice (some ⟨g5, 0, none⟩) 3 3), (32, .int .i64 0), (33, .pointer (some ⟨g5, 0, none⟩)), (34, .agg #[.int .i64 16, .int .i64 1, .int .i64 0, .int .i64 0, .int .u32 5]), (35, .tuple #[.int .u32 ((Q3.encode (⟨16, 1, 0, 0, 5⟩ : Q.I)).1), .int .i64 ((Q3.encode (⟨16, 1, 0, 0, 5⟩ : Q.I)).2)]), (36, .int .u32 ((Q3.encode (⟨16, 1, 0, 0, 5⟩ : Q.I)).1)), (37, .int .i64 ((Q3.encode (⟨16, 1, 0, 0, 5⟩ : Q.I)).2)), (38, .string (⟨#[]⟩ : ByteArray)), (39, .int .u32 ((Q3.encode (⟨16, 1, 0, 0, 5⟩ : Q.I)).1)), (40, .string (W.put ((Q3.encode (⟨16, 1, 0, 0, 5⟩ : Q.I)).1) 4)), (41, .string ((⟨#[]⟩ : ByteArray) ++ (W.put ((Q3.encode (⟨16, 1, 0, 0, 5⟩ : Q.I)).1) 4)))] [(g5, [.int .i64 16, .int .i64 1, .int .i64 0, .int .i64 0, .int .u32 5, .int .i64 33, .int .i64 1, .int .i64 0, .int .i64 0, .int .u32 4294967295, .int .i64 50, .int .i64 0, .int .i64 0, .int .i64 0, .int .u32 0])] (List.Sublist.refl _) ?_
 refine E.C.seq ?_
 refine E.sr ?_
 refine E.op (.int .i64 1) ?_
 refine E.op (.slice (some ⟨g5, 0, none⟩) 3 3) ?_
 refine E.op (.int .i64 3) ?_
 refine E.op (.bool true) ?_
 refine E.To.code ?_
 refine E.C.condT (by kernel_rfl) (by kernel_rfl) ?_
 refine E.C.skip (E.To.code ?_)
 refine E.C.seq ?_
 refine E.C.block ?_
 refine E.sr ?_
 refine E.op (.slice (some ⟨g5, 0, none⟩) 3 3) ?_
 refine E.op (.int .i64 1) ?_
 refine E.op (.pointer (some ⟨g5, 5, none⟩)) ?_
 refine E.li (.agg #[.int .i64 33, .int .i64 1, .int .i64 0, .int .i64 0, .int .u32 4294967295]) 0 rfl rfl ?_
 refine E.G.call (.tuple #[.int .u32 ((Q3.encode (⟨33, 1, 0, 0, 4294967295⟩ : Q.I)).1), .int .i64 ((Q3.encode (⟨33, 1, 0, 0, 4294967295⟩ : Q.I)).2)]) (fun w h => Encode3_any (⟨33, 1, 0, 0, 4294967295⟩ : Q.I) (by decide) w) (fun w _ => by kernel_rfl) (by kernel_rfl) ?_
 refine E.op (.tuple #[.int .u32 ((Q3.encode (⟨33, 1, 0, 0, 4294967295⟩ : Q.I)).1), .int .i64 ((Q3.encode (⟨33, 1, 0, 0, 4294967295⟩ : Q.I)).2)]) ?_
 refine E.op (.int .u32 ((Q3.encode (⟨33, 1, 0, 0, 4294967295⟩ : Q.I)).1)) ?_
 refine E.op (.int .i64 ((Q3.encode (⟨33, 1, 0, 0, 4294967295⟩ : Q.I)).2)) ?_
 refine E.op (.int .u32 ((Q3.encode (⟨33, 1, 0, 0, 4294967295⟩ : Q.I)).1)) ?_
 refine E.op (.int .i64 ((Q3.encode (⟨33, 1, 0, 0, 4294967295⟩ : Q.I)).2)) ?_
 refine E.ur ?_
 refine E.op (.string ((⟨#[]⟩ : ByteArray) ++ (W.put ((Q3.encode (⟨16, 1, 0, 0, 5⟩ : Q.I)).1) 4))) ?_
 refine E.op (.int .u32 ((Q3.encode (⟨33, 1, 0, 0, 4294967295⟩ : Q.I)).1)) ?_
 refine E.G.call (.string (W.put ((Q3.encode (⟨33, 1, 0, 0, 4294967295⟩ : Q.I)).1) 4)) (fun w h => rPut_all ((Q3.encode (⟨33, 1, 0, 0, 4294967295⟩ : Q.I)).1) 4 (Q3.enc_bd _) (by omega) w) (fun w _ => by kernel_rfl) (by kernel_rfl) ?_
 refine E.vl (.string (((⟨#[]⟩ : ByteArray) ++ (W.put ((Q3.encode (⟨16, 1, 0, 0, 5⟩ : Q.I)).1) 4)) ++ (W.put ((Q3.encode (⟨33, 1, 0, 0, 4294967295⟩ : Q.I)).1) 4))) (fun w h => E.cat ((⟨#[]⟩ : ByteArray) ++ (W.put ((Q3.encode (⟨16, 1, 0, 0, 5⟩ : Q.I)).1) 4)) (W.put ((Q3.encode (⟨33, 1, 0, 0, 4294967295⟩ : Q.I)).1) 4) (by kernel_rfl) (by kernel_rfl) (by simp only [ByteArray.size_append, Q.put_size]; decide) w) ?_
 refine E.op (.string (((⟨#[]⟩ : ByteArray) ++ (W.put ((Q3.encode (⟨16, 1, 0, 0, 5⟩ : Q.I)).1) 4)) ++ (W.put ((Q3.encode (⟨33, 1, 0, 0, 4294967295⟩ : Q.I)).1) 4))) ?_
 refine E.P.nb (E.To.code ?_)
 refine E.C.region ?_
 refine E.op (.int .i64 1) ?_
 refine E.op (.int .i64 2) ?_
 refine E.op (.int .i64 2) ?_
 refine E.To.rounds 1 ?_
 refine E.wk [(0, .bool false), (1, .pointer (some ⟨m1, 0, none⟩)), (2, .pointer (some ⟨m3, 0, none⟩)), (3, .string (((⟨#[]⟩ : ByteArray) ++ (W.put ((Q3.encode (⟨16, 1, 0, 0, 5⟩ : Q.I)).1) 4)) ++ (W.put ((Q3.encode (⟨33, 1, 0, 0, 4294967295⟩ : Q.I)).1) 4))), (4, .slice (some ⟨g5, 0, none⟩) 3 3), (5, .int .i64 2), (6, .int .u32 ((Q3.encode (⟨33, 1, 0, 0, 4294967295⟩ : Q.I)).1)), (24, .int .i64 1), (25, .slice (some ⟨g5, 0, none⟩) 3 3), (26, .int .i64 3), (27, .bool true), (28, .int .i64 1), (29, .int .i64 2), (30, .tuple #[.int .u32 ((Q3.encode (⟨33, 1, 0, 0, 4294967295⟩ : Q.I)).1), .int .i64 ((Q3.encode (⟨33, 1, 0, 0, 4294967295⟩ : Q.I)).2)]), (31, .slice (some ⟨g5, 0, none⟩) 3 3), (32, .int .i64 1), (33, .pointer (some ⟨g5, 5, none⟩)), (34, .agg #[.int .i64 33, .int .i64 1, .int .i64 0, .int .i64 0, .int .u32 4294967295]), (35, .tuple #[.int .u32 ((Q3.encode (⟨33, 1, 0, 0, 4294967295⟩ : Q.I)).1), .int .i64 ((Q3.encode (⟨33, 1, 0, 0, 4294967295⟩ : Q.I)).2)]), (36, .int .u32 ((Q3.encode (⟨33, 1, 0, 0, 4294967295⟩ : Q.I)).1)), (37, .int .i64 ((Q3.encode (⟨33, 1, 0, 0, 4294967295⟩ : Q.I)).2)), (38, .string ((⟨#[]⟩ : ByteArray) ++ (W.put ((Q3.encode (⟨16, 1, 0, 0, 5⟩ : Q.I)).1) 4))), (39, .int .u32 ((Q3.encode (⟨33, 1, 0, 0, 4294967295⟩ : Q.I)).1)), (40, .string (W.put ((Q3.encode (⟨33, 1, 0, 0, 4294967295⟩ : Q.I)).1) 4)), (41, .string (((⟨#[]⟩ : ByteArray) ++ (W.put ((Q3.encode (⟨16, 1, 0, 0, 5⟩ : Q.I)).1) 4)) ++ (W.put ((Q3.encode (⟨33, 1, 0, 0, 4294967295⟩ : Q.I)).1) 4)))] [(g5, [.int .i64 16, .int .i64 1, .int .i64 0, .int .i64 0, .int .u32 5, .int .i64 33, .int .i64 1, .int .i64 0, .int .i64 0, .int .u32 4294967295, .int .i64 50, .int .i64 0, .int .i64 0, .int .i64 0, .int .u32 0])] (List.Sublist.refl _) ?_
 refine E.C.seq ?_
 refine E.sr ?_
 refine E.op (.int .i64 2) ?_
 refine E.op (.slice (some ⟨g5, 0, none⟩) 3 3) ?_
 refine E.op (.int .i64 3) ?_
 refine E.op (.bool true) ?_
 refine E.To.code ?_
 refine E.C.condT (by kernel_rfl) (by kernel_rfl) ?_
 refine E.C.skip (E.To.code ?_)
 refine E.C.seq ?_
 refine E.C.block ?_
 refine E.sr ?_
 refine E.op (.slice (some ⟨g5, 0, none⟩) 3 3) ?_
 refine E.op (.int .i64 2) ?_
 refine E.op (.pointer (some ⟨g5, 10, none⟩)) ?_
 refine E.li (.agg #[.int .i64 50, .int .i64 0, .int .i64 0, .int .i64 0, .int .u32 0]) 0 rfl rfl ?_
 refine E.G.call (.tuple #[.int .u32 ((Q3.encode (⟨50, 0, 0, 0, 0⟩ : Q.I)).1), .int .i64 ((Q3.encode (⟨50, 0, 0, 0, 0⟩ : Q.I)).2)]) (fun w h => Encode3_any (⟨50, 0, 0, 0, 0⟩ : Q.I) (by decide) w) (fun w _ => by kernel_rfl) (by kernel_rfl) ?_
 refine E.op (.tuple #[.int .u32 ((Q3.encode (⟨50, 0, 0, 0, 0⟩ : Q.I)).1), .int .i64 ((Q3.encode (⟨50, 0, 0, 0, 0⟩ : Q.I)).2)]) ?_
 refine E.op (.int .u32 ((Q3.encode (⟨50, 0, 0, 0, 0⟩ : Q.I)).1)) ?_
 refine E.op (.int .i64 ((Q3.encode (⟨50, 0, 0, 0, 0⟩ : Q.I)).2)) ?_
 refine E.op (.int .u32 ((Q3.encode (⟨50, 0, 0, 0, 0⟩ : Q.I)).1)) ?_
 refine E.op (.int .i64 ((Q3.encode (⟨50, 0, 0, 0, 0⟩ : Q.I)).2)) ?_
 refine E.ur ?_
 refine E.op (.string (((⟨#[]⟩ : ByteArray) ++ (W.put ((Q3.encode (⟨16, 1, 0, 0, 5⟩ : Q.I)).1) 4)) ++ (W.put ((Q3.encode (⟨33, 1, 0, 0, 4294967295⟩ : Q.I)).1) 4))) ?_
 refine E.op (.int .u32 ((Q3.encode (⟨50, 0, 0, 0, 0⟩ : Q.I)).1)) ?_
 refine E.G.call (.string (W.put ((Q3.encode (⟨50, 0, 0, 0, 0⟩ : Q.I)).1) 4)) (fun w h => rPut_all ((Q3.encode (⟨50, 0, 0, 0, 0⟩ : Q.I)).1) 4 (Q3.enc_bd _) (by omega) w) (fun w _ => by kernel_rfl) (by kernel_rfl) ?_
 refine E.vl (.string ((((⟨#[]⟩ : ByteArray) ++ (W.put ((Q3.encode (⟨16, 1, 0, 0, 5⟩ : Q.I)).1) 4)) ++ (W.put ((Q3.encode (⟨33, 1, 0, 0, 4294967295⟩ : Q.I)).1) 4)) ++ (W.put ((Q3.encode (⟨50, 0, 0, 0, 0⟩ : Q.I)).1) 4))) (fun w h => E.cat (((⟨#[]⟩ : ByteArray) ++ (W.put ((Q3.encode (⟨16, 1, 0, 0, 5⟩ : Q.I)).1) 4)) ++ (W.put ((Q3.encode (⟨33, 1, 0, 0, 4294967295⟩ : Q.I)).1) 4)) (W.put ((Q3.encode (⟨50, 0, 0, 0, 0⟩ : Q.I)).1) 4) (by kernel_rfl) (by kernel_rfl) (by simp only [ByteArray.size_append, Q.put_size]; decide) w) ?_
 refine E.op (.string ((((⟨#[]⟩ : ByteArray) ++ (W.put ((Q3.encode (⟨16, 1, 0, 0, 5⟩ : Q.I)).1) 4)) ++ (W.put ((Q3.encode (⟨33, 1, 0, 0, 4294967295⟩ : Q.I)).1) 4)) ++ (W.put ((Q3.encode (⟨50, 0, 0, 0, 0⟩ : Q.I)).1) 4))) ?_
 refine E.P.nb (E.To.code ?_)
 refine E.C.region ?_
 refine E.op (.int .i64 2) ?_
 refine E.op (.int .i64 3) ?_
 refine E.op (.int .i64 3) ?_
 refine E.To.rounds 0 ?_
 refine E.wk [(0, .bool false), (1, .pointer (some ⟨m1, 0, none⟩)), (2, .pointer (some ⟨m3, 0, none⟩)), (3, .string ((((⟨#[]⟩ : ByteArray) ++ (W.put ((Q3.encode (⟨16, 1, 0, 0, 5⟩ : Q.I)).1) 4)) ++ (W.put ((Q3.encode (⟨33, 1, 0, 0, 4294967295⟩ : Q.I)).1) 4)) ++ (W.put ((Q3.encode (⟨50, 0, 0, 0, 0⟩ : Q.I)).1) 4))), (4, .slice (some ⟨g5, 0, none⟩) 3 3), (5, .int .i64 3), (6, .int .u32 ((Q3.encode (⟨50, 0, 0, 0, 0⟩ : Q.I)).1)), (24, .int .i64 2), (25, .slice (some ⟨g5, 0, none⟩) 3 3), (26, .int .i64 3), (27, .bool true), (28, .int .i64 2), (29, .int .i64 3), (30, .tuple #[.int .u32 ((Q3.encode (⟨50, 0, 0, 0, 0⟩ : Q.I)).1), .int .i64 ((Q3.encode (⟨50, 0, 0, 0, 0⟩ : Q.I)).2)]), (31, .slice (some ⟨g5, 0, none⟩) 3 3), (32, .int .i64 2), (33, .pointer (some ⟨g5, 10, none⟩)), (34, .agg #[.int .i64 50, .int .i64 0, .int .i64 0, .int .i64 0, .int .u32 0]), (35, .tuple #[.int .u32 ((Q3.encode (⟨50, 0, 0, 0, 0⟩ : Q.I)).1), .int .i64 ((Q3.encode (⟨50, 0, 0, 0, 0⟩ : Q.I)).2)]), (36, .int .u32 ((Q3.encode (⟨50, 0, 0, 0, 0⟩ : Q.I)).1)), (37, .int .i64 ((Q3.encode (⟨50, 0, 0, 0, 0⟩ : Q.I)).2)), (38, .string (((⟨#[]⟩ : ByteArray) ++ (W.put ((Q3.encode (⟨16, 1, 0, 0, 5⟩ : Q.I)).1) 4)) ++ (W.put ((Q3.encode (⟨33, 1, 0, 0, 4294967295⟩ : Q.I)).1) 4))), (39, .int .u32 ((Q3.encode (⟨50, 0, 0, 0, 0⟩ : Q.I)).1)), (40, .string (W.put ((Q3.encode (⟨50, 0, 0, 0, 0⟩ : Q.I)).1) 4)), (41, .string ((((⟨#[]⟩ : ByteArray) ++ (W.put ((Q3.encode (⟨16, 1, 0, 0, 5⟩ : Q.I)).1) 4)) ++ (W.put ((Q3.encode (⟨33, 1, 0, 0, 4294967295⟩ : Q.I)).1) 4)) ++ (W.put ((Q3.encode (⟨50, 0, 0, 0, 0⟩ : Q.I)).1) 4)))] [(g5, [.int .i64 16, .int .i64 1, .int .i64 0, .int .i64 0, .int .u32 5, .int .i64 33, .int .i64 1, .int .i64 0, .int .i64 0, .int .u32 4294967295, .int .i64 50, .int .i64 0, .int .i64 0, .int .i64 0, .int .u32 0])] (List.Sublist.refl _) ?_
 refine E.C.seq ?_
 refine E.sr ?_
 refine E.op (.int .i64 3) ?_
 refine E.op (.slice (some ⟨g5, 0, none⟩) 3 3) ?_
 refine E.op (.int .i64 3) ?_
 refine E.op (.bool false) ?_
 refine E.To.code ?_
 refine E.C.condF (by kernel_rfl) (by kernel_rfl) ?_
 refine E.C.exit (E.P.et (E.P.et (E.P.eh (E.To.code ?_))))
 refine E.wk [(0, .bool false), (1, .pointer (some ⟨m1, 0, none⟩)), (2, .pointer (some ⟨m3, 0, none⟩)), (3, .string ((((⟨#[]⟩ : ByteArray) ++ (W.put ((Q3.encode (⟨16, 1, 0, 0, 5⟩ : Q.I)).1) 4)) ++ (W.put ((Q3.encode (⟨33, 1, 0, 0, 4294967295⟩ : Q.I)).1) 4)) ++ (W.put ((Q3.encode (⟨50, 0, 0, 0, 0⟩ : Q.I)).1) 4)))] [] (List.nil_sublist _) ?_
 refine E.sr ?_
 refine E.op (.pointer (some ⟨m1, 0, none⟩)) ?_
 refine E.op (.pointer (some ⟨m1, 0, none⟩)) ?_
 refine E.op (.pointer (some ⟨m1, 0, none⟩)) ?_
 refine E.op (.string Q.sanS) ?_
 refine A.G.call (I := Unit) (D := fun _ => True) (V := fun _ => .tuple #[]) (q := fun _ => [M.It m1 ((M.V.new (M.np 1) false).setc 0 Q.sanS) (Q.S.cells Q.z0)]) [M.It m3 (M.V.new (M.np 0) false) (Q.S.cells Q.z0)] (fun _ => []) (fun _ => [M.It m3 (M.V.new (M.np 0) false) (Q.S.cells Q.z0), M.It m1 ((M.V.new (M.np 1) false).setc 0 Q.sanS) (Q.S.cells Q.z0)]) (A_SetCode 0 Q.sanS (m := m1) (V := (M.V.new (M.np 1) false)) (xs := (Q.S.cells Q.z0))) (by kernel_rfl) (A.pn [1, 0]) (fun _ => A.pm [1, 0] (by kernel_rfl) (by kernel_rfl)) (fun w _ => by kernel_rfl) (by kernel_rfl) (fun _ hd6 => ?_)
 refine E.tr ?_
 refine E.op (.pointer (some ⟨m1, 0, none⟩)) ?_
 refine E.op (.pointer (some ⟨m1, 0, none⟩)) ?_
 refine E.op (.pointer (some ⟨m1, 0, none⟩)) ?_
 refine A.G.call (I := Unit) (D := fun _ => True) (V := fun _ => .tuple #[]) (q := fun _ => [M.It m1 Q.sanV (Q.S.cells Q.z0)]) [M.It m3 (M.V.new (M.np 0) false) (Q.S.cells Q.z0)] (fun _ => []) (fun _ => [M.It m3 (M.V.new (M.np 0) false) (Q.S.cells Q.z0), M.It m1 Q.sanV (Q.S.cells Q.z0)]) (A_Protect 0 4 (m := m1) (V := ((M.V.new (M.np 1) false).setc 0 Q.sanS)) (xs := (Q.S.cells Q.z0))) (by kernel_rfl) (A.pn [1, 0]) (fun _ => A.pm [1, 0] (by kernel_rfl) (by kernel_rfl)) (fun w _ => by kernel_rfl) (by kernel_rfl) (fun _ hd7 => ?_)
 refine E.To.code ?_
 refine E.wk [(0, .bool false), (1, .pointer (some ⟨m1, 0, none⟩)), (2, .pointer (some ⟨m3, 0, none⟩))] [] (List.Sublist.refl _) ?_
 refine E.sr ?_
 refine E.op (.pointer (some ⟨m1, 0, none⟩)) ?_
 refine A.G.call (I := Unit) (D := fun _ => True) (V := fun _ => .agg #[.int .i64 Q.sn1.2.1, .int .u32 Q.sn1.2.2.1]) (q := fun _ => [M.It m1 Q.sn1.2.2.2 (Q.S.cells Q.sn1.1)]) [M.It m3 (M.V.new (M.np 0) false) (Q.S.cells Q.z0)] (fun _ => []) (fun _ => [M.It m3 (M.V.new (M.np 0) false) (Q.S.cells Q.z0), M.It m1 Q.sn1.2.2.2 (Q.S.cells Q.sn1.1)]) (CRun (c := m1) 1 Q.z0 Q.sanV (by omega) Q.z0_wf (R.Wf.prot (R.Wf.setc (R.Wf.new (M.np_le _) _) _ _) _ _)) (by kernel_rfl) (A.pn [1, 0]) (fun _ => A.pm [1, 0] (by kernel_rfl) (by kernel_rfl)) (fun w _ => by kernel_rfl) (by kernel_rfl) (fun _ hd8 => ?_)
 refine E.G.new (fun g => .pointer (some ⟨g, 0, none⟩)) [.int .i64 0, .int .u32 0] 51 (fun w => by kernel_rfl) (by kernel_rfl) (fun g9 => ?_)
 refine E.st 0 [.int .i64 Q.sn1.2.1, .int .u32 Q.sn1.2.2.1] rfl rfl ?_
 refine E.tr ?_
 refine E.op (.pointer (some ⟨m1, 0, none⟩)) ?_
 refine E.G.call (Q.S.val Q.sn1.1) (fun w h => A.call_rd [A.blk g9 ([.int .i64 Q.sn1.2.1, .int .u32 Q.sn1.2.2.1]), M.It m3 (M.V.new (M.np 0) false) (Q.S.cells Q.z0)] (CState (c := m1) (V := Q.sn1.2.2.2) Q.sn1.1) h (by kernel_rfl) (A.pn [2, 0, 1])) (fun w _ => by kernel_rfl) (by kernel_rfl) ?_
 refine E.G.new (fun g => .pointer (some ⟨g, 0, none⟩)) (Q.S.cells Q.z0) 27 (fun w => by kernel_rfl) (by kernel_rfl) (fun g10 => ?_)
 refine E.st 0 (Q.S.cells Q.sn1.1) rfl rfl ?_
 refine E.tr ?_
 refine E.op (.pointer (some ⟨m1, 0, none⟩)) ?_
 refine A.G.call (I := Unit) (D := fun _ => True) (V := fun _ => .agg #[.int .i64 Q.sn2.2.1, .int .u32 Q.sn2.2.2.1]) (q := fun _ => [M.It m1 Q.sn2.2.2.2 (Q.S.cells Q.sn2.1)]) [A.blk g10 (Q.S.cells Q.sn1.1), A.blk g9 ([.int .i64 Q.sn1.2.1, .int .u32 Q.sn1.2.2.1]), M.It m3 (M.V.new (M.np 0) false) (Q.S.cells Q.z0)] (fun _ => [(g10, (Q.S.cells Q.sn1.1)), (g9, [.int .i64 Q.sn1.2.1, .int .u32 Q.sn1.2.2.1])]) (fun _ => [M.It m3 (M.V.new (M.np 0) false) (Q.S.cells Q.z0), M.It m1 Q.sn2.2.2.2 (Q.S.cells Q.sn2.1)]) (CRun (c := m1) 2 Q.sn1.1 Q.sn1.2.2.2 (by omega) (Q.runs_wf Q.z0_wf (R.Wf.prot (R.Wf.setc (R.Wf.new (M.np_le _) _) _ _) _ _)).1 (Q.runs_wf Q.z0_wf (R.Wf.prot (R.Wf.setc (R.Wf.new (M.np_le _) _) _ _) _ _)).2) (by kernel_rfl) (A.pn [3, 0, 1, 2]) (fun _ => A.pm [1, 2, 3, 0] (by kernel_rfl) (by kernel_rfl)) (fun w _ => by kernel_rfl) (by kernel_rfl) (fun _ hd11 => ?_)
 refine E.G.new (fun g => .pointer (some ⟨g, 0, none⟩)) [.int .i64 0, .int .u32 0] 51 (fun w => by kernel_rfl) (by kernel_rfl) (fun g12 => ?_)
 refine E.st 0 [.int .i64 Q.sn2.2.1, .int .u32 Q.sn2.2.2.1] rfl rfl ?_
 refine E.tr ?_
 refine E.op (.pointer (some ⟨m1, 0, none⟩)) ?_
 refine E.G.call (Q.S.val Q.sn2.1) (fun w h => A.call_rd [A.blk g12 ([.int .i64 Q.sn2.2.1, .int .u32 Q.sn2.2.2.1]), A.blk g10 (Q.S.cells Q.sn1.1), A.blk g9 ([.int .i64 Q.sn1.2.1, .int .u32 Q.sn1.2.2.1]), M.It m3 (M.V.new (M.np 0) false) (Q.S.cells Q.z0)] (CState (c := m1) (V := Q.sn2.2.2.2) Q.sn2.1) h (by kernel_rfl) (A.pn [4, 0, 1, 2, 3])) (fun w _ => by kernel_rfl) (by kernel_rfl) ?_
 refine E.G.new (fun g => .pointer (some ⟨g, 0, none⟩)) (Q.S.cells Q.z0) 27 (fun w => by kernel_rfl) (by kernel_rfl) (fun g13 => ?_)
 refine E.st 0 (Q.S.cells Q.sn2.1) rfl rfl ?_
 refine E.To.code ?_
 refine E.wk [(0, .bool false), (2, .pointer (some ⟨m3, 0, none⟩)), (8, .pointer (some ⟨g9, 0, none⟩)), (9, .pointer (some ⟨g10, 0, none⟩)), (10, .pointer (some ⟨g12, 0, none⟩)), (11, .pointer (some ⟨g13, 0, none⟩))] [(g13, (Q.S.cells Q.sn2.1)), (g12, [.int .i64 Q.sn2.2.1, .int .u32 Q.sn2.2.2.1]), (g10, (Q.S.cells Q.sn1.1)), (g9, [.int .i64 Q.sn1.2.1, .int .u32 Q.sn1.2.2.1])] (List.Sublist.refl _) ?_
 refine E.sr ?_
 refine E.op (.pointer (some ⟨g9, 0, none⟩)) ?_
 refine E.li (.int .i64 Q.sn1.2.1) 3 rfl rfl ?_
 refine E.vl (.bool true) (fun w h => E.run_as (a := .bool (Q.sn1.2.1 == 1)) (by kernel_rfl) (congrArg Value.bool (by kernel_rfl))) ?_
 refine E.op (.bool true) ?_
 refine E.op (.pointer (some ⟨g10, 0, none⟩)) ?_
 refine E.li (.int .u32 Q.sn1.1.pc) 2 rfl rfl ?_
 refine E.vl (.bool true) (fun w h => E.run_as (a := .bool (Q.sn1.1.pc == 4)) (by kernel_rfl) (congrArg Value.bool (by kernel_rfl))) ?_
 refine E.op (.bool true) ?_
 refine E.op (.bool true) ?_
 refine E.op (.pointer (some ⟨g10, 1, none⟩)) ?_
 refine E.op (.pointer (some ⟨g10, 2, none⟩)) ?_
 refine E.li (.int .u32 (Q.sn1.1.r 1)) 2 rfl rfl ?_
 refine E.vl (.bool true) (fun w h => E.run_as (a := .bool ((Q.sn1.1.r 1) == 5)) (by kernel_rfl) (congrArg Value.bool (by kernel_rfl))) ?_
 refine E.op (.bool true) ?_
 refine E.op (.bool true) ?_
 refine E.op (.pointer (some ⟨g10, 22, none⟩)) ?_
 refine E.li (.int .i64 Q.sn1.1.st) 2 rfl rfl ?_
 refine E.vl (.bool true) (fun w h => E.run_as (a := .bool (Q.sn1.1.st == 1)) (by kernel_rfl) (congrArg Value.bool (by kernel_rfl))) ?_
 refine E.op (.bool true) ?_
 refine E.op (.bool true) ?_
 refine E.op (.pointer (some ⟨g12, 0, none⟩)) ?_
 refine E.li (.int .i64 Q.sn2.2.1) 1 rfl rfl ?_
 refine E.vl (.bool true) (fun w h => E.run_as (a := .bool (Q.sn2.2.1 == 1)) (by kernel_rfl) (congrArg Value.bool (by kernel_rfl))) ?_
 refine E.op (.bool true) ?_
 refine E.op (.bool true) ?_
 refine E.op (.pointer (some ⟨g13, 0, none⟩)) ?_
 refine E.li (.int .u32 Q.sn2.1.pc) 0 rfl rfl ?_
 refine E.vl (.bool true) (fun w h => E.run_as (a := .bool (Q.sn2.1.pc == 4)) (by kernel_rfl) (congrArg Value.bool (by kernel_rfl))) ?_
 refine E.op (.bool true) ?_
 refine E.op (.bool true) ?_
 refine E.op (.pointer (some ⟨g13, 22, none⟩)) ?_
 refine E.li (.int .i64 Q.sn2.1.st) 0 rfl rfl ?_
 refine E.vl (.bool true) (fun w h => E.run_as (a := .bool (Q.sn2.1.st == 3)) (by kernel_rfl) (congrArg Value.bool (by kernel_rfl))) ?_
 refine E.op (.bool true) ?_
 refine E.op (.bool true) ?_
 refine E.op (.pointer (some ⟨m3, 0, none⟩)) ?_
 refine A.G.call (I := Unit) (D := fun _ => True) (V := fun _ => .agg #[.int .i64 Q.sn3.2.1, .int .u32 Q.sn3.2.2.1]) (q := fun _ => [M.It m3 Q.sn3.2.2.2 (Q.S.cells Q.sn3.1)]) [A.blk g13 (Q.S.cells Q.sn2.1), A.blk g12 ([.int .i64 Q.sn2.2.1, .int .u32 Q.sn2.2.2.1]), A.blk g10 (Q.S.cells Q.sn1.1), A.blk g9 ([.int .i64 Q.sn1.2.1, .int .u32 Q.sn1.2.2.1]), M.It m1 Q.sn2.2.2.2 (Q.S.cells Q.sn2.1)] (fun _ => [(g13, (Q.S.cells Q.sn2.1)), (g12, [.int .i64 Q.sn2.2.1, .int .u32 Q.sn2.2.2.1]), (g10, (Q.S.cells Q.sn1.1)), (g9, [.int .i64 Q.sn1.2.1, .int .u32 Q.sn1.2.2.1])]) (fun _ => [M.It m3 Q.sn3.2.2.2 (Q.S.cells Q.sn3.1), M.It m1 Q.sn2.2.2.2 (Q.S.cells Q.sn2.1)]) (CRun (c := m3) 1 Q.z0 (M.V.new (M.np 0) false) (by omega) Q.z0_wf (R.Wf.new (M.np_le _) _)) (by kernel_rfl) (A.pn [4, 0, 1, 2, 3, 5]) (fun _ => A.pm [1, 2, 3, 4, 0, 5] (by kernel_rfl) (by kernel_rfl)) (fun w _ => by kernel_rfl) (by kernel_rfl) (fun _ hd14 => ?_)
 refine E.vl (.agg #[.int .i64 5, .int .u32 0]) (fun w h => E.run_build #[.int .i64 5, .int .u32 0] (by kernel_rfl) w) ?_
 refine E.vl (.bool true) (fun w h => E.run_as (a := .bool ((Q.sn3.2.1 == 5) && (Q.sn3.2.2.1 == 0))) (E.api_Trap_eql (by kernel_rfl) (by kernel_rfl)) (congrArg Value.bool (by kernel_rfl))) ?_
 refine E.op (.bool true) ?_
 refine E.op (.bool true) ?_
 refine E.op (.pointer (some ⟨m3, 0, none⟩)) ?_
 refine A.G.call (I := Unit) (D := fun _ => True) (V := fun _ => .agg #[.int .i64 Q.sn4.2.1, .int .u32 Q.sn4.2.2.1]) (q := fun _ => [M.It m3 Q.sn4.2.2.2 (Q.S.cells Q.sn4.1)]) [A.blk g13 (Q.S.cells Q.sn2.1), A.blk g12 ([.int .i64 Q.sn2.2.1, .int .u32 Q.sn2.2.2.1]), A.blk g10 (Q.S.cells Q.sn1.1), A.blk g9 ([.int .i64 Q.sn1.2.1, .int .u32 Q.sn1.2.2.1]), M.It m1 Q.sn2.2.2.2 (Q.S.cells Q.sn2.1)] (fun _ => [(g13, (Q.S.cells Q.sn2.1)), (g12, [.int .i64 Q.sn2.2.1, .int .u32 Q.sn2.2.2.1]), (g10, (Q.S.cells Q.sn1.1)), (g9, [.int .i64 Q.sn1.2.1, .int .u32 Q.sn1.2.2.1])]) (fun _ => [M.It m3 Q.sn4.2.2.2 (Q.S.cells Q.sn4.1), M.It m1 Q.sn2.2.2.2 (Q.S.cells Q.sn2.1)]) (CRun (c := m3) 0 Q.sn3.1 Q.sn3.2.2.2 (by omega) (Q.runs_wf Q.z0_wf (R.Wf.new (M.np_le _) _)).1 (Q.runs_wf Q.z0_wf (R.Wf.new (M.np_le _) _)).2) (by kernel_rfl) (A.pn [4, 0, 1, 2, 3, 5]) (fun _ => A.pm [1, 2, 3, 4, 0, 5] (by kernel_rfl) (by kernel_rfl)) (fun w _ => by kernel_rfl) (by kernel_rfl) (fun _ hd15 => ?_)
 refine E.vl (.agg #[.int .i64 1, .int .u32 0]) (fun w h => E.run_build #[.int .i64 1, .int .u32 0] (by kernel_rfl) w) ?_
 refine E.vl (.bool true) (fun w h => E.run_as (a := .bool ((Q.sn4.2.1 == 1) && (Q.sn4.2.2.1 == 0))) (E.api_Trap_eql (by kernel_rfl) (by kernel_rfl)) (congrArg Value.bool (by kernel_rfl))) ?_
 refine E.op (.bool true) ?_
 refine E.op (.bool true) ?_
 refine E.To.code ?_
 refine E.wk [(0, .bool true)] [] (List.nil_sublist _) ?_
 refine E.C.ret (E.To.body (fn := Try.f10) [.bool true] ?_ ?_)
 · exact ⟨⟨by kernel_rfl, by kernel_rfl⟩, trivial⟩
 intro w h
 exact ⟨rfl, h.ch.bel (fun x hx => (hh.1 x hx).elim)⟩
end Go.Proofs.Ytgbndbljohpnmaa

/- XQq -/
namespace Go.Proofs.Ytgbndbljohpnmaa
set_option linter.unusedVariables false
set_option linter.unusedSimpArgs false
open Go.RowKit
theorem CNew6 (n : Int) : A.Tr Try.prog 13 #[.int .i64 n] [] (I := Nat × Nat) (fun _ => True) (fun i => .pointer (some ⟨i.1, 0, none⟩)) (fun i => [A.blk i.1 (Q.S.cells Q.z0 ++ [.pointer (some ⟨i.2, 0, none⟩)]), R.It i.2 (M.V.new (M.np n) false)]) := by
 intro w oo aa hh
 refine E.enter (n := 7) (S := oo) Try.func13 rfl rfl (by kernel_rfl) (A.start (L := []) hh) ?_
 refine E.sr ?_
 refine E.op (.pointer none) ?_
 refine E.tr ?_
 refine E.op (.int .i64 n) ?_
 refine A.G.call (I := Nat) (D := fun r1 => True) (V := fun r1 => .pointer (some ⟨r1, 0, none⟩)) (q := fun r1 => [R.It r1 (M.V.new (M.np n) false)]) [] (fun r1 => []) (fun r1 => [R.It r1 (M.V.new (M.np n) false)]) (R_New n false) (by kernel_rfl) (A.pn []) (fun r1 => A.pm [0] (by kernel_rfl) (by kernel_rfl)) (fun w _ => by kernel_rfl) (by kernel_rfl) (fun r1 hd2 => ?_)
 refine E.vl (.agg #[.int .u32 0, .int .u32 0, .int .u32 0, .int .u32 0, .int .u32 0, .int .u32 0, .int .u32 0, .int .u32 0, .int .u32 0, .int .u32 0, .int .u32 0, .int .u32 0, .int .u32 0, .int .u32 0, .int .u32 0, .int .u32 0, .int .u32 0, .int .u32 0, .int .u32 0, .int .u32 0, .int .u32 0, .int .u32 0, .int .i64 0, .int .i64 0, .pointer (some ⟨r1, 0, none⟩)]) (fun w h => E.run_build #[.int .u32 0, .int .u32 0, .int .u32 0, .int .u32 0, .int .u32 0, .int .u32 0, .int .u32 0, .int .u32 0, .int .u32 0, .int .u32 0, .int .u32 0, .int .u32 0, .int .u32 0, .int .u32 0, .int .u32 0, .int .u32 0, .int .u32 0, .int .u32 0, .int .u32 0, .int .u32 0, .int .u32 0, .int .u32 0, .int .i64 0, .int .i64 0, .pointer (some ⟨r1, 0, none⟩)] (by kernel_rfl) w) ?_
 refine E.G.new (fun g => .pointer (some ⟨g, 0, none⟩)) (Q.S.cells Q.z0 ++ [.pointer (some ⟨r1, 0, none⟩)]) 36 (fun w => by kernel_rfl) (by kernel_rfl) (fun g3 => ?_)
 refine E.op (.pointer (some ⟨g3, 0, none⟩)) ?_
 refine E.To.code ?_
 refine E.C.ret (E.To.body (fn := Try.f13) [.pointer (some ⟨g3, 0, none⟩)] ?_ ?_)
 · exact ⟨⟨by kernel_rfl, by kernel_rfl⟩, trivial⟩
 intro w h
 exact ⟨(g3, r1), trivial, rfl, A.done (q := [A.blk g3 (Q.S.cells Q.z0 ++ [.pointer (some ⟨r1, 0, none⟩)]), R.It r1 (M.V.new (M.np n) false)]) (r := []) h (by kernel_rfl) (A.pn [0, 1])⟩
end Go.Proofs.Ytgbndbljohpnmaa

/- XQs -/
namespace Go.Proofs.Ytgbndbljohpnmaa
set_option linter.unusedVariables false
set_option linter.unusedSimpArgs false
open Go.RowKit
def Q3.ops : List Int := [1, 2, 3, 4, 5, 6, 7, 8, 9, 10, 11, 12, 16, 17, 18, 19, 20, 21, 22, 23, 24, 25, 26, 27, 32, 33, 34, 35, 36, 37, 40, 41, 48, 49, 50, 51, 52, 53, 54]
def Q3.o2 : List Value := [.int .i64 1, .int .i64 2]
def Q3.o3 : List Value := [.int .i64 1, .int .i64 2, .int .i64 3]
def Q3.o4 : List Value := [.int .i64 1, .int .i64 2, .int .i64 3, .int .i64 4]
def Q3.o5 : List Value := [.int .i64 1, .int .i64 2, .int .i64 3, .int .i64 4, .int .i64 5]
def Q3.two (b : Nat) : Int := ((2 ^ b : Nat) : Int)
end Go.Proofs.Ytgbndbljohpnmaa

/- XQv -/
namespace Go.Proofs.Ytgbndbljohpnmaa
set_option linter.unusedVariables false
set_option linter.unusedSimpArgs false
open Go.RowKit
theorem Q.or_hi (x y : Int) (m : Nat) (h0 : 0 ≤ x ∧ x < 4294967296) (hx : x % ((2 ^ m : Nat) : Int) = 0) (hy : 0 ≤ y ∧ y < ((2 ^ m : Nat) : Int)) (hy2 : y < 4294967296) : bits .or .u32 x y = x + y := by
  obtain ⟨X, rfl⟩ := Int.eq_ofNat_of_zero_le h0.1
  obtain ⟨Y, rfl⟩ := Int.eq_ofNat_of_zero_le hy.1
  rw [u32_or_nat _ _ (by omega) (by omega)]
  have hX : X % 2 ^ m = 0 := by have := hx; rw [← Int.natCast_emod] at this; omega
  have hY : Y < 2 ^ m := by have := hy.2; omega
  obtain ⟨q, rfl⟩ := Nat.dvd_of_mod_eq_zero hX
  rw [← Nat.two_pow_add_eq_or_of_lt hY]; simp
theorem Q3.op_rng {x : Int} (h : (Q3.of x).is = true) : 0 ≤ x ∧ x < 64 := by
  rcases Classical.em (0 ≤ x ∧ x < 64) with k | k
  · exact k
  · have : Q3.of x = ⟨false, false, false, false, false, 0, 0⟩ := by
      unfold Q3.of
      have e1 : (decide (x ≥ 1) && decide (x ≤ 12)) = false := by simp; omega
      have e2 : (x == 17 || x == 18 || x == 19) = false := by simp; omega
      have e3 : ((decide (x ≥ 16) && decide (x ≤ 27)) || (decide (x ≥ 32) && decide (x ≤ 37))) = false := by simp; omega
      have f : ∀ n : Int, 0 ≤ n → n < 64 → (x == n) = false := fun n h1 h2 => by simp; omega
      rw [e1, e2, e3, f 40 (by decide) (by decide), f 41 (by decide) (by decide), f 48 (by decide) (by decide), f 49 (by decide) (by decide), f 50 (by decide) (by decide), f 51 (by decide) (by decide), f 52 (by decide) (by decide), f 53 (by decide) (by decide), f 54 (by decide) (by decide)]; rfl
    rw [this] at h; cases h
def Q3.kd (F : Q3.Fm) : Int := if F.bits = 0 then 0 else if F.sg then 1 else 2
theorem Q3.of_tab : ∀ k : Fin 64, (Q3.of ((k.val : Nat) : Int)).is = true → (Q.shf k.val).kn = true ∧ (Q.shf k.val).d = (Q3.of ((k.val : Nat) : Int)).d ∧ (Q.shf k.val).a = (Q3.of ((k.val : Nat) : Int)).a ∧ (Q.shf k.val).b = (Q3.of ((k.val : Nat) : Int)).b ∧ (Q.shf k.val).bits = (Q3.of ((k.val : Nat) : Int)).bits ∧ (Q.shf k.val).kind = Q3.kd (Q3.of ((k.val : Nat) : Int)) ∧ (Q.shf k.val).most = (Q3.of ((k.val : Nat) : Int)).most ∧
    ((Q3.of ((k.val : Nat) : Int)).bits = 22 ∧ (Q3.of ((k.val : Nat) : Int)).a = false ∧ (Q3.of ((k.val : Nat) : Int)).b = false ∨ (Q3.of ((k.val : Nat) : Int)).bits = 18 ∧ (Q3.of ((k.val : Nat) : Int)).b = false ∨ (Q3.of ((k.val : Nat) : Int)).bits = 0) := by decide +kernel
/-- The format of an operation that there is, in both. -/
theorem Q3.of_same {x : Int} (h : (Q3.of x).is = true) : (Q.of x).kn = true ∧ (Q.of x).d = (Q3.of x).d ∧ (Q.of x).a = (Q3.of x).a ∧ (Q.of x).b = (Q3.of x).b ∧ (Q.of x).bits = (Q3.of x).bits ∧ (Q.of x).kind = Q3.kd (Q3.of x) ∧ (Q.of x).most = (Q3.of x).most ∧
    ((Q3.of x).bits = 22 ∧ (Q3.of x).a = false ∧ (Q3.of x).b = false ∨ (Q3.of x).bits = 18 ∧ (Q3.of x).b = false ∨ (Q3.of x).bits = 0) := by
  have hr := Q3.op_rng h
  obtain ⟨n, rfl⟩ := Int.eq_ofNat_of_zero_le hr.1
  rw [Q.of_lt hr]
  exact Q3.of_tab ⟨n, by omega⟩ h
theorem Q.wr (z : Int) : IntKind.wrap .u32 z = z % 4294967296 := rfl
/-- The word of five fields. -/
theorem Q.word {op d a b m y : Int} {bt : Nat} (ho : 0 ≤ op ∧ op < 64) (hd : 0 ≤ d ∧ d < 16) (ha : 0 ≤ a ∧ a < 16) (hb : 0 ≤ b ∧ b < 16) (hy : 0 ≤ y ∧ y < 4294967296) (hm : m = y % ((2 ^ bt : Nat) : Int))
    (hc : bt = 22 ∧ a = 0 ∧ b = 0 ∨ bt = 18 ∧ b = 0 ∨ bt = 0) :
    bits .or .u32 (bits .or .u32 (bits .or .u32 (bits .or .u32 (IntKind.wrap .u32 ((IntKind.wrap .u32 op) * 2 ^ 26)) (IntKind.wrap .u32 ((IntKind.wrap .u32 d) * 2 ^ 22))) (IntKind.wrap .u32 ((IntKind.wrap .u32 a) * 2 ^ 18))) (IntKind.wrap .u32 ((IntKind.wrap .u32 b) * 2 ^ 14))) (bits .and .u32 y (IntKind.wrap .u32 ((IntKind.wrap .u32 (1 * 2 ^ (min bt 32))) - 1)))
      = op * 67108864 + d * 4194304 + a * 262144 + b * 16384 + m := by
  have e1 : IntKind.wrap .u32 ((IntKind.wrap .u32 op) * 2 ^ 26) = op * 67108864 := by rw [Q.wr, Q.wr]; omega
  have e2 : IntKind.wrap .u32 ((IntKind.wrap .u32 d) * 2 ^ 22) = d * 4194304 := by rw [Q.wr, Q.wr]; omega
  have e3 : IntKind.wrap .u32 ((IntKind.wrap .u32 a) * 2 ^ 18) = a * 262144 := by rw [Q.wr, Q.wr]; omega
  have e4 : IntKind.wrap .u32 ((IntKind.wrap .u32 b) * 2 ^ 14) = b * 16384 := by rw [Q.wr, Q.wr]; omega
  have e5 : bits .and .u32 y (IntKind.wrap .u32 ((IntKind.wrap .u32 (1 * 2 ^ (min bt 32))) - 1)) = y % ((2 ^ bt : Nat) : Int) := by
    rcases hc with ⟨rfl, _⟩ | ⟨rfl, _⟩ | rfl
    · exact W.and_mask 22 (by decide) y hy.1 hy.2
    · exact W.and_mask 18 (by decide) y hy.1 hy.2
    · exact W.and_mask 0 (by decide) y hy.1 hy.2
  have o1 : bits .or .u32 (op * 67108864) (d * 4194304) = op * 67108864 + d * 4194304 := Q.or_hi _ _ 26 (by omega) (by simp) (by simp; omega) (by omega)
  have o2 : bits .or .u32 (op * 67108864 + d * 4194304) (a * 262144) = op * 67108864 + d * 4194304 + a * 262144 := Q.or_hi _ _ 22 (by omega) (by first | omega | simp | (simp; omega)) (by simp; omega) (by omega)
  have o3 : bits .or .u32 (op * 67108864 + d * 4194304 + a * 262144) (b * 16384) = op * 67108864 + d * 4194304 + a * 262144 + b * 16384 := Q.or_hi _ _ 18 (by omega) (by first | omega | simp | (simp; omega)) (by simp; omega) (by omega)
  rw [e1, e2, e3, e4, e5, ← hm, o1, o2, o3]
  rcases hc with ⟨rfl, rfl, rfl⟩ | ⟨rfl, rfl⟩ | rfl
  · have : m = y % 4194304 := hm
    exact Q.or_hi _ _ 22 (by omega) (by first | omega | simp | (simp; omega)) (by simp; omega) (by omega)
  · have : m = y % 262144 := hm
    exact Q.or_hi _ _ 18 (by omega) (by first | omega | simp | (simp; omega)) (by simp; omega) (by omega)
  · have : m = y % 1 := hm
    exact Q.or_hi _ _ 0 (by omega) (by first | omega | simp | (simp; omega)) (by simp; omega) (by omega)
/-- The fields of a word. -/
theorem Q.fld {op d a b m : Int} (ho : 0 ≤ op ∧ op < 64) (hd : 0 ≤ d ∧ d < 16) (ha : 0 ≤ a ∧ a < 16) (hb : 0 ≤ b ∧ b < 16) {bt : Nat} (hm : 0 ≤ m ∧ m < ((2 ^ bt : Nat) : Int)) (hc : bt = 22 ∧ a = 0 ∧ b = 0 ∨ bt = 18 ∧ b = 0 ∨ bt = 0) {w : Int} (hw : w = op * 67108864 + d * 4194304 + a * 262144 + b * 16384 + m) :
    (0 ≤ w ∧ w < 4294967296) ∧ Q.dop w = op ∧ Q.field w true 22 = d ∧ (bt = 22 ∨ Q.field w true 18 = a) ∧ (bt ≠ 0 ∨ Q.field w true 14 = b) ∧ w % ((2 ^ bt : Nat) : Int) = m := by
  have f0 : Q.dop w = IntKind.wrap .i64 (w / 67108864) := by
    show IntKind.wrap .i64 (Int.fdiv w 67108864) = _
    rw [Int.fdiv_eq_ediv_of_nonneg _ (by decide)]
  have f1 : Q.field w true 22 = IntKind.wrap .i64 (w / 4194304 % 16) := by
    show IntKind.wrap .i64 (Int.tmod (Int.fdiv w 4194304) 16) = _
    rw [Int.fdiv_eq_ediv_of_nonneg _ (by decide), Int.tmod_eq_emod_of_nonneg (by rcases hc with ⟨rfl, _⟩ | ⟨rfl, _⟩ | rfl <;> simp at hm <;> omega)]
  have f2 : Q.field w true 18 = IntKind.wrap .i64 (w / 262144 % 16) := by
    show IntKind.wrap .i64 (Int.tmod (Int.fdiv w 262144) 16) = _
    rw [Int.fdiv_eq_ediv_of_nonneg _ (by decide), Int.tmod_eq_emod_of_nonneg (by rcases hc with ⟨rfl, _⟩ | ⟨rfl, _⟩ | rfl <;> simp at hm <;> omega)]
  have f3 : Q.field w true 14 = IntKind.wrap .i64 (w / 16384 % 16) := by
    show IntKind.wrap .i64 (Int.tmod (Int.fdiv w 16384) 16) = _
    rw [Int.fdiv_eq_ediv_of_nonneg _ (by decide), Int.tmod_eq_emod_of_nonneg (by rcases hc with ⟨rfl, _⟩ | ⟨rfl, _⟩ | rfl <;> simp at hm <;> omega)]
  have hm' : 0 ≤ m ∧ m < 4194304 := by rcases hc with ⟨rfl, _⟩ | ⟨rfl, _⟩ | rfl <;> simp at hm <;> omega
  have hs : a * 262144 + b * 16384 + m < 4194304 := by rcases hc with ⟨rfl, rfl, rfl⟩ | ⟨rfl, rfl⟩ | rfl <;> simp at hm <;> omega
  rw [f0, f1, f2, f3, IntWalk.i64_in _ (by omega), IntWalk.i64_in _ (by omega), IntWalk.i64_in _ (by omega), IntWalk.i64_in _ (by omega)]
  refine ⟨by omega, by omega, by omega, ?_, ?_, ?_⟩
  · rcases hc with ⟨rfl, _⟩ | ⟨rfl, rfl⟩ | rfl
    · exact Or.inl rfl
    · exact Or.inr (by simp at hm; omega)
    · exact Or.inr (by simp at hm; omega)
  · rcases hc with ⟨rfl, _⟩ | ⟨rfl, rfl⟩ | rfl
    · exact Or.inl (by decide)
    · exact Or.inl (by decide)
    · exact Or.inr (by simp at hm; omega)
  · rcases hc with ⟨rfl, rfl, rfl⟩ | ⟨rfl, rfl⟩ | rfl <;> simp at hm ⊢ <;> omega
end Go.Proofs.Ytgbndbljohpnmaa

/- XQad -/
namespace Go.Proofs.Ytgbndbljohpnmaa
set_option linter.unusedVariables false
set_option linter.unusedSimpArgs false
open Go.RowKit
theorem Q.sm53 {V : M.V} (hw : R.Wf V) : IntKind.wrap .i64 (256 * ((V.n : Nat) : Int)) = ((256 * V.n : Nat) : Int) := by have := hw.n; rw [IntWalk.i64_in _ (by omega)]; omega
theorem Q.sm54 {V : M.V} (hw : R.Wf V) : IntKind.wrap .u32 ((256 * V.n : Nat) : Int) = ((256 * V.n : Nat) : Int) := by have := hw.n; rw [Q.wr]; omega
theorem Q.sm_bd {V : M.V} {a : Nat} (hw : R.Wf V) (h : a ≤ 256 * V.n) : 0 ≤ ((a : Nat) : Int) ∧ ((a : Nat) : Int) < 4294967296 := by have := hw.n; omega
theorem Q.sm57 {V : M.V} {a : Nat} (hw : R.Wf V) (h : a ≤ 256 * V.n) : IntKind.wrap .u32 (((a : Nat) : Int) + 1) = ((a + 1 : Nat) : Int) := by have := hw.n; rw [Q.wr]; omega
theorem Q.sm34 {V : M.V} {p : Nat} (hw : R.Wf V) (h : p ≤ V.n) : IntKind.wrap .i64 (((p : Nat) : Int) + 1) = ((p + 1 : Nat) : Int) := by have := hw.n; rw [IntWalk.i64_in _ (by omega)]; omega
theorem CSame {c r m : Nat} {s : Q.S} {V : M.V} (hw : R.Wf V) : A.Tr Try.prog 42 #[.pointer (some ⟨c, 0, none⟩), .pointer (some ⟨r, 0, none⟩)] [A.blk r (Q.S.cells s ++ [.pointer (some ⟨m, 0, none⟩)]), M.It c V (Q.S.cells s), R.It m V] (I := Unit) (fun _ => True) (fun _ => .bool true) (fun _ => [A.blk r (Q.S.cells s ++ [.pointer (some ⟨m, 0, none⟩)]), M.It c V (Q.S.cells s), R.It m V]) := by
 intro w oo aa hh
 refine E.enter (n := 84) (S := oo) Try.func42 rfl rfl (by kernel_rfl) (A.start (L := [(r, (Q.S.cells s ++ [.pointer (some ⟨m, 0, none⟩)]))]) hh) ?_
 refine E.sr ?_
 refine E.op (.bool false) ?_
 refine E.To.code ?_
 refine E.C.seq ?_
 refine E.C.seq ?_
 refine E.C.quiet (by kernel_rfl) (by kernel_rfl) ?_
 refine E.wo (.pointer (some ⟨c, 0, none⟩)) ?_
 refine E.W.call (Q.S.val s) (fun w h => A.call_rd [A.blk r (Q.S.cells s ++ [.pointer (some ⟨m, 0, none⟩)]), R.It m V] (CState (c := c) (V := V) s) h (by kernel_rfl) (A.pn [1, 0, 2])) (fun w _ => by kernel_rfl) (by kernel_rfl) ?_
 refine E.wo (.pointer (some ⟨r, 0, none⟩)) ?_
 refine E.wo (.pointer (some ⟨r, 0, none⟩)) ?_
 refine E.wo (.pointer (some ⟨r, 0, none⟩)) ?_
 refine E.wv (Q.S.val s) (fun w h => E.run_load h 0 rfl rfl (by kernel_rfl)) ?_
 refine E.wv (.bool false) (fun w h => E.api_State_nself s (by kernel_rfl) (by kernel_rfl)) ?_
 refine E.wo (.bool false) ?_
 refine E.wo (.pointer (some ⟨c, 0, none⟩)) ?_
 refine E.wo (.pointer (some ⟨c, 0, none⟩)) ?_
 refine E.wo (.pointer (some ⟨c, 0, none⟩)) ?_
 refine E.W.call (.int .i64 ((V.n : Nat) : Int)) (fun w h => A.call_rd [A.blk r (Q.S.cells s ++ [.pointer (some ⟨m, 0, none⟩)]), R.It m V] (A_Pages (m := c) (V := V) (xs := (Q.S.cells s))) h (by kernel_rfl) (A.pn [1, 0, 2])) (fun w _ => by kernel_rfl) (by kernel_rfl) ?_
 refine E.wo (.pointer (some ⟨r, 0, none⟩)) ?_
 refine E.wo (.pointer (some ⟨r, 0, none⟩)) ?_
 refine E.wo (.pointer (some ⟨r, 24, none⟩)) ?_
 refine E.wv (.pointer (some ⟨m, 0, none⟩)) (fun w h => E.run_load h 0 rfl rfl (by kernel_rfl)) ?_
 refine E.W.call (.int .i64 ((V.n : Nat) : Int)) (fun w h => A.call_rd [A.blk r (Q.S.cells s ++ [.pointer (some ⟨m, 0, none⟩)]), M.It c V (Q.S.cells s)] (B_Pages (r := m) (V := V)) h (by kernel_rfl) (A.pn [2, 0, 1])) (fun w _ => by kernel_rfl) (by kernel_rfl) ?_
 refine E.wv (.bool false) (fun w h => E.run_as (a := .bool (((V.n : Nat) : Int) != ((V.n : Nat) : Int))) (by kernel_rfl) (congrArg Value.bool (bne_self_eq_false _))) ?_
 refine E.wo (.bool false) ?_
 refine E.W.done (E.To.code ?_)
 refine E.wk [(0, .pointer (some ⟨c, 0, none⟩)), (1, .pointer (some ⟨r, 0, none⟩)), (4, .bool false), (25, .bool false)] [(r, (Q.S.cells s ++ [.pointer (some ⟨m, 0, none⟩)]))] (List.Sublist.refl _) ?_
 refine E.C.condF (by kernel_rfl) (by kernel_rfl) ?_
 refine E.C.skip (E.To.code ?_)
 refine E.C.seq ?_
 refine E.sr ?_
 refine E.op (.int .i64 0) ?_
 refine E.To.code ?_
 refine E.C.block ?_
 refine E.C.loop (I := Nat) (fun p => V.n - p) (fun p => p ≤ V.n) (fun p => [(0, .pointer (some ⟨c, 0, none⟩)), (1, .pointer (some ⟨r, 0, none⟩)), (4, .bool false), (5, .int .i64 ((p : Nat) : Int))]) (fun p => A.X w oo aa [M.It c V (Q.S.cells s), R.It m V]) (fun p => [(r, (Q.S.cells s ++ [.pointer (some ⟨m, 0, none⟩)]))]) 0 ((Nat.zero_le _)) ⟨by kernel_rfl, by kernel_rfl⟩ (List.Sublist.refl _) (fun _ h => h) (fun p hk1 => ?_)
 refine E.C.seq ?_
 refine E.sr ?_
 refine E.op (.int .i64 ((p : Nat) : Int)) ?_
 refine E.op (.pointer (some ⟨r, 0, none⟩)) ?_
 refine E.op (.pointer (some ⟨r, 0, none⟩)) ?_
 refine E.op (.pointer (some ⟨r, 24, none⟩)) ?_
 refine E.li (.pointer (some ⟨m, 0, none⟩)) 0 rfl rfl ?_
 refine E.G.call (.int .i64 ((V.n : Nat) : Int)) (fun w h => A.call_rd [A.blk r (Q.S.cells s ++ [.pointer (some ⟨m, 0, none⟩)]), M.It c V (Q.S.cells s)] (B_Pages (r := m) (V := V)) h (by kernel_rfl) (A.pn [2, 0, 1])) (fun w _ => by kernel_rfl) (by kernel_rfl) ?_
 refine E.op (.bool (decide (((p : Nat) : Int) < ((V.n : Nat) : Int)))) ?_
 refine E.To.code ?_
 refine E.cd (decide (((p : Nat) : Int) < ((V.n : Nat) : Int))) (fun hc1 => ?_) (fun hc1 => ?_)
 ·
  refine E.C.skip (E.To.code ?_)
  refine E.C.seq ?_
  refine E.C.block ?_
  refine E.C.seq ?_
  refine E.C.quiet (by kernel_rfl) (by kernel_rfl) ?_
  refine E.wo (.pointer (some ⟨c, 0, none⟩)) ?_
  refine E.wo (.pointer (some ⟨c, 0, none⟩)) ?_
  refine E.wo (.pointer (some ⟨c, 0, none⟩)) ?_
  refine E.wo (.int .i64 ((p : Nat) : Int)) ?_
  refine E.W.call (.int .i64 (V.rt ((p : Nat) : Int))) (fun w h => A.call_rd [A.blk r (Q.S.cells s ++ [.pointer (some ⟨m, 0, none⟩)]), R.It m V] (A_Rights ((p : Nat) : Int) (m := c) (V := V) (xs := (Q.S.cells s))) h (by kernel_rfl) (A.pn [1, 0, 2])) (fun w _ => by kernel_rfl) (by kernel_rfl) ?_
  refine E.wo (.pointer (some ⟨r, 0, none⟩)) ?_
  refine E.wo (.pointer (some ⟨r, 0, none⟩)) ?_
  refine E.wo (.pointer (some ⟨r, 24, none⟩)) ?_
  refine E.wv (.pointer (some ⟨m, 0, none⟩)) (fun w h => E.run_load h 0 rfl rfl (by kernel_rfl)) ?_
  refine E.wo (.int .i64 ((p : Nat) : Int)) ?_
  refine E.W.call (.int .i64 (V.rt ((p : Nat) : Int))) (fun w h => A.call_rd [A.blk r (Q.S.cells s ++ [.pointer (some ⟨m, 0, none⟩)]), M.It c V (Q.S.cells s)] (B_RightsOf ((p : Nat) : Int) (r := m) (V := V)) h (by kernel_rfl) (A.pn [2, 0, 1])) (fun w _ => by kernel_rfl) (by kernel_rfl) ?_
  refine E.wv (.bool false) (fun w h => E.run_as (a := .bool ((V.rt ((p : Nat) : Int)) != (V.rt ((p : Nat) : Int)))) (by kernel_rfl) (congrArg Value.bool (bne_self_eq_false _))) ?_
  refine E.W.done (E.To.code ?_)
  refine E.C.condF (by kernel_rfl) (by kernel_rfl) ?_
  refine E.C.skip (E.P.nb (E.To.code ?_))
  refine E.C.region ?_
  refine E.op (.int .i64 ((p : Nat) : Int)) ?_
  refine E.vl (.int .i64 ((p + 1 : Nat) : Int)) (fun w h => E.run_as (a := .int .i64 (IntKind.wrap .i64 (((p : Nat) : Int) + 1))) (by kernel_rfl) (congrArg (Value.int .i64) (Q.sm34 hw hk1))) ?_
  refine E.op (.int .i64 ((p + 1 : Nat) : Int)) ?_
  exact E.To.round (p + 1) (by (first | assumption | ((try simp only [Bool.or_eq_false_iff, Bool.or_eq_true, Bool.and_eq_true, Bool.and_eq_false_iff, Bool.not_eq_eq_eq_not, Bool.not_true, Bool.not_false, decide_eq_true_eq, decide_eq_false_iff_not, ge_iff_le, gt_iff_lt] at *); omega))) ((by (first | assumption | ((try simp only [Bool.or_eq_false_iff, Bool.or_eq_true, Bool.and_eq_true, Bool.and_eq_false_iff, Bool.not_eq_eq_eq_not, Bool.not_true, Bool.not_false, decide_eq_true_eq, decide_eq_false_iff_not, ge_iff_le, gt_iff_lt] at *); omega)))) ⟨by kernel_rfl, by kernel_rfl⟩ (List.Sublist.refl _) (fun _ h => h)
 refine E.C.exit (E.P.et (E.P.et (E.P.eh (E.To.code ?_))))
 refine E.wk [(0, .pointer (some ⟨c, 0, none⟩)), (1, .pointer (some ⟨r, 0, none⟩)), (4, .bool false)] [(r, (Q.S.cells s ++ [.pointer (some ⟨m, 0, none⟩)]))] (List.Sublist.refl _) ?_
 refine E.C.seq ?_
 refine E.sr ?_
 refine E.op (.int .u32 0) ?_
 refine E.To.code ?_
 refine E.C.block ?_
 refine E.C.loop (I := Nat) (fun a => 256 * V.n - a) (fun a => a ≤ 256 * V.n) (fun a => [(0, .pointer (some ⟨c, 0, none⟩)), (1, .pointer (some ⟨r, 0, none⟩)), (4, .bool false), (6, .int .u32 ((a : Nat) : Int))]) (fun a => A.X w oo aa [M.It c V (Q.S.cells s), R.It m V]) (fun a => [(r, (Q.S.cells s ++ [.pointer (some ⟨m, 0, none⟩)]))]) 0 ((Nat.zero_le _)) ⟨by kernel_rfl, by kernel_rfl⟩ (List.Sublist.refl _) (fun _ h => h) (fun a hk2 => ?_)
 refine E.C.seq ?_
 refine E.sr ?_
 refine E.op (.int .u32 ((a : Nat) : Int)) ?_
 refine E.op (.pointer (some ⟨r, 0, none⟩)) ?_
 refine E.op (.pointer (some ⟨r, 0, none⟩)) ?_
 refine E.op (.pointer (some ⟨r, 24, none⟩)) ?_
 refine E.li (.pointer (some ⟨m, 0, none⟩)) 0 rfl rfl ?_
 refine E.G.call (.int .i64 ((V.n : Nat) : Int)) (fun w h => A.call_rd [A.blk r (Q.S.cells s ++ [.pointer (some ⟨m, 0, none⟩)]), M.It c V (Q.S.cells s)] (B_Pages (r := m) (V := V)) h (by kernel_rfl) (A.pn [2, 0, 1])) (fun w _ => by kernel_rfl) (by kernel_rfl) ?_
 refine E.vl (.int .i64 ((256 * V.n : Nat) : Int)) (fun w h => E.run_as (a := .int .i64 (IntKind.wrap .i64 (256 * ((V.n : Nat) : Int)))) (by kernel_rfl) (congrArg (Value.int .i64) (Q.sm53 hw))) ?_
 refine E.vl (.int .u32 ((256 * V.n : Nat) : Int)) (fun w h => E.run_as (a := .int .u32 (IntKind.wrap .u32 ((256 * V.n : Nat) : Int))) (by kernel_rfl) (congrArg (Value.int .u32) (Q.sm54 hw))) ?_
 refine E.op (.bool (decide (((a : Nat) : Int) < ((256 * V.n : Nat) : Int)))) ?_
 refine E.To.code ?_
 refine E.cd (decide (((a : Nat) : Int) < ((256 * V.n : Nat) : Int))) (fun hc2 => ?_) (fun hc2 => ?_)
 ·
  refine E.C.skip (E.To.code ?_)
  refine E.C.seq ?_
  refine E.C.block ?_
  refine E.C.seq ?_
  refine E.C.quiet (by kernel_rfl) (by kernel_rfl) ?_
  refine E.wo (.pointer (some ⟨c, 0, none⟩)) ?_
  refine E.wo (.pointer (some ⟨c, 0, none⟩)) ?_
  refine E.wo (.pointer (some ⟨c, 0, none⟩)) ?_
  refine E.wo (.int .u32 ((a : Nat) : Int)) ?_
  refine E.W.call (.int .u8 (V.peek (((a : Nat) : Int)).toNat)) (fun w h => A.call_rd [A.blk r (Q.S.cells s ++ [.pointer (some ⟨m, 0, none⟩)]), R.It m V] (I_Peek ((a : Nat) : Int) (Q.sm_bd hw hk2) (m := c) (V := V) (xs := (Q.S.cells s))) h (by kernel_rfl) (A.pn [1, 0, 2])) (fun w _ => by kernel_rfl) (by kernel_rfl) ?_
  refine E.wo (.pointer (some ⟨r, 0, none⟩)) ?_
  refine E.wo (.pointer (some ⟨r, 0, none⟩)) ?_
  refine E.wo (.pointer (some ⟨r, 24, none⟩)) ?_
  refine E.wv (.pointer (some ⟨m, 0, none⟩)) (fun w h => E.run_load h 0 rfl rfl (by kernel_rfl)) ?_
  refine E.wo (.int .u32 ((a : Nat) : Int)) ?_
  refine E.W.call (.int .u8 (V.peek (((a : Nat) : Int)).toNat)) (fun w h => A.call_rd [A.blk r (Q.S.cells s ++ [.pointer (some ⟨m, 0, none⟩)]), M.It c V (Q.S.cells s)] (J_Peek ((a : Nat) : Int) (Q.sm_bd hw hk2) (m := m) (V := V)) h (by kernel_rfl) (A.pn [2, 0, 1])) (fun w _ => by kernel_rfl) (by kernel_rfl) ?_
  refine E.wv (.bool false) (fun w h => E.run_as (a := .bool ((V.peek (((a : Nat) : Int)).toNat) != (V.peek (((a : Nat) : Int)).toNat))) (by kernel_rfl) (congrArg Value.bool (bne_self_eq_false _))) ?_
  refine E.wo (.bool false) ?_
  refine E.wo (.pointer (some ⟨c, 0, none⟩)) ?_
  refine E.wo (.pointer (some ⟨c, 0, none⟩)) ?_
  refine E.wo (.pointer (some ⟨c, 0, none⟩)) ?_
  refine E.wo (.int .u32 ((a : Nat) : Int)) ?_
  refine E.W.call (.int .u8 (V.code (((a : Nat) : Int)).toNat)) (fun w h => A.call_rd [A.blk r (Q.S.cells s ++ [.pointer (some ⟨m, 0, none⟩)]), R.It m V] (I_Code ((a : Nat) : Int) (Q.sm_bd hw hk2) (m := c) (V := V) (xs := (Q.S.cells s))) h (by kernel_rfl) (A.pn [1, 0, 2])) (fun w _ => by kernel_rfl) (by kernel_rfl) ?_
  refine E.wo (.pointer (some ⟨r, 0, none⟩)) ?_
  refine E.wo (.pointer (some ⟨r, 0, none⟩)) ?_
  refine E.wo (.pointer (some ⟨r, 24, none⟩)) ?_
  refine E.wv (.pointer (some ⟨m, 0, none⟩)) (fun w h => E.run_load h 0 rfl rfl (by kernel_rfl)) ?_
  refine E.wo (.int .u32 ((a : Nat) : Int)) ?_
  refine E.W.call (.int .u8 (V.code (((a : Nat) : Int)).toNat)) (fun w h => A.call_rd [A.blk r (Q.S.cells s ++ [.pointer (some ⟨m, 0, none⟩)]), M.It c V (Q.S.cells s)] (J_Code ((a : Nat) : Int) (Q.sm_bd hw hk2) (m := m) (V := V)) h (by kernel_rfl) (A.pn [2, 0, 1])) (fun w _ => by kernel_rfl) (by kernel_rfl) ?_
  refine E.wv (.bool false) (fun w h => E.run_as (a := .bool ((V.code (((a : Nat) : Int)).toNat) != (V.code (((a : Nat) : Int)).toNat))) (by kernel_rfl) (congrArg Value.bool (bne_self_eq_false _))) ?_
  refine E.wo (.bool false) ?_
  refine E.W.done (E.To.code ?_)
  refine E.C.condF (by kernel_rfl) (by kernel_rfl) ?_
  refine E.C.skip (E.P.nb (E.To.code ?_))
  refine E.C.region ?_
  refine E.op (.int .u32 ((a : Nat) : Int)) ?_
  refine E.vl (.int .u32 ((a + 1 : Nat) : Int)) (fun w h => E.run_as (a := .int .u32 (IntKind.wrap .u32 (((a : Nat) : Int) + 1))) (by kernel_rfl) (congrArg (Value.int .u32) (Q.sm57 hw hk2))) ?_
  refine E.op (.int .u32 ((a + 1 : Nat) : Int)) ?_
  exact E.To.round (a + 1) (by (first | assumption | ((try simp only [Bool.or_eq_false_iff, Bool.or_eq_true, Bool.and_eq_true, Bool.and_eq_false_iff, Bool.not_eq_eq_eq_not, Bool.not_true, Bool.not_false, decide_eq_true_eq, decide_eq_false_iff_not, ge_iff_le, gt_iff_lt] at *); omega))) ((by (first | assumption | ((try simp only [Bool.or_eq_false_iff, Bool.or_eq_true, Bool.and_eq_true, Bool.and_eq_false_iff, Bool.not_eq_eq_eq_not, Bool.not_true, Bool.not_false, decide_eq_true_eq, decide_eq_false_iff_not, ge_iff_le, gt_iff_lt] at *); omega)))) ⟨by kernel_rfl, by kernel_rfl⟩ (List.Sublist.refl _) (fun _ h => h)
 refine E.C.exit (E.P.et (E.P.et (E.P.eh (E.To.code ?_))))
 refine E.wk [(4, .bool false)] [(r, (Q.S.cells s ++ [.pointer (some ⟨m, 0, none⟩)]))] (List.Sublist.refl _) ?_
 refine E.sr ?_
 refine E.op (.bool true) ?_
 refine E.To.code ?_
 refine E.C.ret (E.To.body (fn := Try.f42) [.bool true] ?_ ?_)
 · exact ⟨⟨by kernel_rfl, by kernel_rfl⟩, trivial⟩
 intro w h
 exact ⟨(), trivial, rfl, A.done (q := [A.blk r (Q.S.cells s ++ [.pointer (some ⟨m, 0, none⟩)]), M.It c V (Q.S.cells s), R.It m V]) (r := []) h (by kernel_rfl) (A.pn [0, 1, 2])⟩
end Go.Proofs.Ytgbndbljohpnmaa

/- XRn -/
namespace Go.Proofs.Ytgbndbljohpnmaa
set_option linter.unusedVariables false
set_option linter.unusedSimpArgs false
open Go.RowKit
theorem R_SameSelf {r : Nat} {s : R.Sl} {V : M.V} (hw : R.Wf V) : A.Rd Try.prog 43 #[.pointer (some ⟨r, 0, none⟩), .pointer (some ⟨r, 0, none⟩)] (R.its r s V) (.bool true) := by
 intro w oo aa hh
 refine E.enter (n := 77) (S := fun _ => False) Try.func43 rfl rfl (by kernel_rfl) (A.startY hh) ?_
 refine E.sr ?_
 refine E.op (.bool false) ?_
 refine E.To.code ?_
 refine E.C.seq ?_
 refine E.C.seq ?_
 refine E.C.quiet (by kernel_rfl) (by kernel_rfl) ?_
 refine E.wo (.pointer (some ⟨r, 0, none⟩)) ?_
 refine E.wo (.pointer (some ⟨r, 0, none⟩)) ?_
 refine E.wo (.pointer (some ⟨r, 4, none⟩)) ?_
 refine E.wv (.slice s.a4 V.n s.c4) (fun w h => A.Y.bld h.x (k := 0) (j := 4) rfl (by kernel_rfl) (by kernel_rfl)) ?_
 refine E.wo (.int .i64 ((V.n : Nat) : Int)) ?_
 refine E.wo (.pointer (some ⟨r, 0, none⟩)) ?_
 refine E.wo (.pointer (some ⟨r, 0, none⟩)) ?_
 refine E.wo (.pointer (some ⟨r, 4, none⟩)) ?_
 refine E.wv (.slice s.a4 V.n s.c4) (fun w h => A.Y.bld h.x (k := 0) (j := 4) rfl (by kernel_rfl) (by kernel_rfl)) ?_
 refine E.wo (.int .i64 ((V.n : Nat) : Int)) ?_
 refine E.wv (.bool false) (fun w h => E.run_as (a := .bool (((V.n : Nat) : Int) != ((V.n : Nat) : Int))) (by kernel_rfl) (congrArg Value.bool (bne_self_eq_false _))) ?_
 refine E.W.done (E.To.code ?_)
 refine E.wk [(0, .pointer (some ⟨r, 0, none⟩)), (1, .pointer (some ⟨r, 0, none⟩)), (4, .bool false), (17, .bool false)] [] (List.Sublist.refl _) ?_
 refine E.C.condF (by kernel_rfl) (by kernel_rfl) ?_
 refine E.C.skip (E.To.code ?_)
 refine E.C.seq ?_
 refine E.sr ?_
 refine E.op (.int .i64 0) ?_
 refine E.To.code ?_
 refine E.C.block ?_
 refine E.C.loop (I := Nat) (fun k => V.n - k) (fun k => k ≤ V.n) (fun k => [(0, .pointer (some ⟨r, 0, none⟩)), (1, .pointer (some ⟨r, 0, none⟩)), (4, .bool false), (5, .int .i64 ((k : Nat) : Int))]) (fun k => A.Y [A.blk r [.slice s.a0 (256 * V.n) s.c0, .slice s.a1 (256 * R.len V) s.c1, .slice s.a2 (256 * V.n) s.c2, .slice s.a3 (256 * R.len V) s.c3, .slice s.a4 V.n s.c4, .bool V.coh], A.vec .u8 s.a0 s.c0 (R.flat V.d V.n), A.vec .u8 s.a1 s.c1 (R.flat V.i (R.len V)), A.vec .u8 s.a2 s.c2 (R.flat V.cd V.n), A.vec .u8 s.a3 s.c3 (R.flat V.ci (R.len V)), A.vec .i64 s.a4 s.c4 (R.rts V.r V.n)]) (fun k => []) 0 ((Nat.zero_le _)) ⟨by kernel_rfl, by kernel_rfl⟩ (List.Sublist.refl _) (fun _ h => h) (fun k hk1 => ?_)
 refine E.C.seq ?_
 refine E.sr ?_
 refine E.op (.int .i64 ((k : Nat) : Int)) ?_
 refine E.op (.pointer (some ⟨r, 0, none⟩)) ?_
 refine E.op (.pointer (some ⟨r, 0, none⟩)) ?_
 refine E.op (.pointer (some ⟨r, 4, none⟩)) ?_
 refine E.vl (.slice s.a4 V.n s.c4) (fun w h => A.Y.bld h.x (k := 0) (j := 4) rfl (by kernel_rfl) (by kernel_rfl)) ?_
 refine E.op (.int .i64 ((V.n : Nat) : Int)) ?_
 refine E.op (.bool (decide (((k : Nat) : Int) < ((V.n : Nat) : Int)))) ?_
 refine E.To.code ?_
 refine E.cd (decide (((k : Nat) : Int) < ((V.n : Nat) : Int))) (fun hc1 => ?_) (fun hc1 => ?_)
 ·
  refine E.C.skip (E.To.code ?_)
  refine E.C.seq ?_
  refine E.C.block ?_
  refine E.C.seq ?_
  refine E.C.quiet (by kernel_rfl) (by kernel_rfl) ?_
  refine E.wo (.pointer (some ⟨r, 0, none⟩)) ?_
  refine E.wo (.pointer (some ⟨r, 0, none⟩)) ?_
  refine E.wo (.pointer (some ⟨r, 4, none⟩)) ?_
  refine E.wv (.slice s.a4 V.n s.c4) (fun w h => A.Y.bld h.x (k := 0) (j := 4) rfl (by kernel_rfl) (by kernel_rfl)) ?_
  refine E.wo (.int .i64 ((k : Nat) : Int)) ?_
  refine E.wv (.pointer (some ⟨(A.bk s.a4), k, none⟩)) (fun w h => A.Y.idx (e := 3) (ik := .i64) (i := k) (len := V.n) (c2 := s.c4) h.x (k := 5) rfl (by kernel_rfl) (by kernel_rfl) (by kernel_rfl) (by kernel_rfl) (by (first | assumption | ((try simp only [Bool.or_eq_false_iff, Bool.or_eq_true, Bool.and_eq_true, Bool.and_eq_false_iff, Bool.not_eq_eq_eq_not, Bool.not_true, Bool.not_false, decide_eq_true_eq, decide_eq_false_iff_not, ge_iff_le, gt_iff_lt] at *); omega))) (by simp only [R.rts_len]; (first | assumption | ((try simp only [Bool.or_eq_false_iff, Bool.or_eq_true, Bool.and_eq_true, Bool.and_eq_false_iff, Bool.not_eq_eq_eq_not, Bool.not_true, Bool.not_false, decide_eq_true_eq, decide_eq_false_iff_not, ge_iff_le, gt_iff_lt] at *); omega)))) ?_
  refine E.wv (.int .i64 (V.r k)) (fun w h => E.run_as (a := .int .i64 ((R.rts V.r V.n).getD k 0)) (A.Y.vld h.x (k := 5) (i := k) rfl (by kernel_rfl) (by kernel_rfl) (by simp only [R.rts_len]; (first | assumption | ((try simp only [Bool.or_eq_false_iff, Bool.or_eq_true, Bool.and_eq_true, Bool.and_eq_false_iff, Bool.not_eq_eq_eq_not, Bool.not_true, Bool.not_false, decide_eq_true_eq, decide_eq_false_iff_not, ge_iff_le, gt_iff_lt] at *); omega)))) (congrArg (Value.int .i64) (R.rts_get (by (first | assumption | ((try simp only [Bool.or_eq_false_iff, Bool.or_eq_true, Bool.and_eq_true, Bool.and_eq_false_iff, Bool.not_eq_eq_eq_not, Bool.not_true, Bool.not_false, decide_eq_true_eq, decide_eq_false_iff_not, ge_iff_le, gt_iff_lt] at *); omega)))))) ?_
  refine E.wo (.pointer (some ⟨r, 0, none⟩)) ?_
  refine E.wo (.pointer (some ⟨r, 0, none⟩)) ?_
  refine E.wo (.pointer (some ⟨r, 4, none⟩)) ?_
  refine E.wv (.slice s.a4 V.n s.c4) (fun w h => A.Y.bld h.x (k := 0) (j := 4) rfl (by kernel_rfl) (by kernel_rfl)) ?_
  refine E.wo (.int .i64 ((k : Nat) : Int)) ?_
  refine E.wv (.pointer (some ⟨(A.bk s.a4), k, none⟩)) (fun w h => A.Y.idx (e := 3) (ik := .i64) (i := k) (len := V.n) (c2 := s.c4) h.x (k := 5) rfl (by kernel_rfl) (by kernel_rfl) (by kernel_rfl) (by kernel_rfl) (by (first | assumption | ((try simp only [Bool.or_eq_false_iff, Bool.or_eq_true, Bool.and_eq_true, Bool.and_eq_false_iff, Bool.not_eq_eq_eq_not, Bool.not_true, Bool.not_false, decide_eq_true_eq, decide_eq_false_iff_not, ge_iff_le, gt_iff_lt] at *); omega))) (by simp only [R.rts_len]; (first | assumption | ((try simp only [Bool.or_eq_false_iff, Bool.or_eq_true, Bool.and_eq_true, Bool.and_eq_false_iff, Bool.not_eq_eq_eq_not, Bool.not_true, Bool.not_false, decide_eq_true_eq, decide_eq_false_iff_not, ge_iff_le, gt_iff_lt] at *); omega)))) ?_
  refine E.wv (.int .i64 (V.r k)) (fun w h => E.run_as (a := .int .i64 ((R.rts V.r V.n).getD k 0)) (A.Y.vld h.x (k := 5) (i := k) rfl (by kernel_rfl) (by kernel_rfl) (by simp only [R.rts_len]; (first | assumption | ((try simp only [Bool.or_eq_false_iff, Bool.or_eq_true, Bool.and_eq_true, Bool.and_eq_false_iff, Bool.not_eq_eq_eq_not, Bool.not_true, Bool.not_false, decide_eq_true_eq, decide_eq_false_iff_not, ge_iff_le, gt_iff_lt] at *); omega)))) (congrArg (Value.int .i64) (R.rts_get (by (first | assumption | ((try simp only [Bool.or_eq_false_iff, Bool.or_eq_true, Bool.and_eq_true, Bool.and_eq_false_iff, Bool.not_eq_eq_eq_not, Bool.not_true, Bool.not_false, decide_eq_true_eq, decide_eq_false_iff_not, ge_iff_le, gt_iff_lt] at *); omega)))))) ?_
  refine E.wv (.bool false) (fun w h => E.run_as (a := .bool ((V.r k) != (V.r k))) (by kernel_rfl) (congrArg Value.bool (bne_self_eq_false _))) ?_
  refine E.W.done (E.To.code ?_)
  refine E.C.condF (by kernel_rfl) (by kernel_rfl) ?_
  refine E.C.skip (E.P.nb (E.To.code ?_))
  refine E.C.region ?_
  refine E.op (.int .i64 ((k : Nat) : Int)) ?_
  refine E.vl (.int .i64 ((k + 1 : Nat) : Int)) (fun w h => E.run_as (a := .int .i64 (IntKind.wrap .i64 (((k : Nat) : Int) + 1))) (by kernel_rfl) (congrArg (Value.int .i64) (by exact Nz.add64 (x := k) (y := 1) (by have := hw.n; (first | assumption | ((try simp only [Bool.or_eq_false_iff, Bool.or_eq_true, Bool.and_eq_true, Bool.and_eq_false_iff, Bool.not_eq_eq_eq_not, Bool.not_true, Bool.not_false, decide_eq_true_eq, decide_eq_false_iff_not, ge_iff_le, gt_iff_lt] at *); omega)))))) ?_
  refine E.op (.int .i64 ((k + 1 : Nat) : Int)) ?_
  exact E.To.round (k + 1) (by (first | assumption | ((try simp only [Bool.or_eq_false_iff, Bool.or_eq_true, Bool.and_eq_true, Bool.and_eq_false_iff, Bool.not_eq_eq_eq_not, Bool.not_true, Bool.not_false, decide_eq_true_eq, decide_eq_false_iff_not, ge_iff_le, gt_iff_lt] at *); omega))) ((by (first | assumption | ((try simp only [Bool.or_eq_false_iff, Bool.or_eq_true, Bool.and_eq_true, Bool.and_eq_false_iff, Bool.not_eq_eq_eq_not, Bool.not_true, Bool.not_false, decide_eq_true_eq, decide_eq_false_iff_not, ge_iff_le, gt_iff_lt] at *); omega)))) ⟨by kernel_rfl, by kernel_rfl⟩ (List.Sublist.refl _) (fun _ h => h)
 refine E.C.exit (E.P.et (E.P.et (E.P.eh (E.To.code ?_))))
 refine E.wk [(0, .pointer (some ⟨r, 0, none⟩)), (1, .pointer (some ⟨r, 0, none⟩)), (4, .bool false)] [] (List.Sublist.refl _) ?_
 refine E.C.seq ?_
 refine E.sr ?_
 refine E.op (.int .i64 0) ?_
 refine E.To.code ?_
 refine E.C.block ?_
 refine E.C.loop (I := Nat) (fun k => 256 * V.n - k) (fun k => k ≤ 256 * V.n) (fun k => [(0, .pointer (some ⟨r, 0, none⟩)), (1, .pointer (some ⟨r, 0, none⟩)), (4, .bool false), (6, .int .i64 ((k : Nat) : Int))]) (fun k => A.Y [A.blk r [.slice s.a0 (256 * V.n) s.c0, .slice s.a1 (256 * R.len V) s.c1, .slice s.a2 (256 * V.n) s.c2, .slice s.a3 (256 * R.len V) s.c3, .slice s.a4 V.n s.c4, .bool V.coh], A.vec .u8 s.a0 s.c0 (R.flat V.d V.n), A.vec .u8 s.a1 s.c1 (R.flat V.i (R.len V)), A.vec .u8 s.a2 s.c2 (R.flat V.cd V.n), A.vec .u8 s.a3 s.c3 (R.flat V.ci (R.len V)), A.vec .i64 s.a4 s.c4 (R.rts V.r V.n)]) (fun k => []) 0 ((Nat.zero_le _)) ⟨by kernel_rfl, by kernel_rfl⟩ (List.Sublist.refl _) (fun _ h => h) (fun k hk2 => ?_)
 refine E.C.seq ?_
 refine E.sr ?_
 refine E.op (.int .i64 ((k : Nat) : Int)) ?_
 refine E.op (.pointer (some ⟨r, 0, none⟩)) ?_
 refine E.op (.pointer (some ⟨r, 0, none⟩)) ?_
 refine E.op (.pointer (some ⟨r, 0, none⟩)) ?_
 refine E.vl (.slice s.a0 (256 * V.n) s.c0) (fun w h => A.Y.bld h.x (k := 0) (j := 0) rfl (by kernel_rfl) (by kernel_rfl)) ?_
 refine E.op (.int .i64 (((256 * V.n) : Nat) : Int)) ?_
 refine E.op (.bool (decide (((k : Nat) : Int) < (((256 * V.n) : Nat) : Int)))) ?_
 refine E.To.code ?_
 refine E.cd (decide (((k : Nat) : Int) < (((256 * V.n) : Nat) : Int))) (fun hc2 => ?_) (fun hc2 => ?_)
 ·
  refine E.C.skip (E.To.code ?_)
  refine E.C.seq ?_
  refine E.C.block ?_
  refine E.C.seq ?_
  refine E.C.quiet (by kernel_rfl) (by kernel_rfl) ?_
  refine E.wo (.pointer (some ⟨r, 0, none⟩)) ?_
  refine E.wo (.pointer (some ⟨r, 0, none⟩)) ?_
  refine E.wo (.pointer (some ⟨r, 0, none⟩)) ?_
  refine E.wv (.slice s.a0 (256 * V.n) s.c0) (fun w h => A.Y.bld h.x (k := 0) (j := 0) rfl (by kernel_rfl) (by kernel_rfl)) ?_
  refine E.wo (.int .i64 ((k : Nat) : Int)) ?_
  refine E.wv (.pointer (some ⟨(A.bk s.a0), k, none⟩)) (fun w h => A.Y.idx (e := 5) (ik := .i64) (i := k) (len := (256 * V.n)) (c2 := s.c0) h.x (k := 1) rfl (by kernel_rfl) (by kernel_rfl) (by kernel_rfl) (by kernel_rfl) (by (first | assumption | ((try simp only [Bool.or_eq_false_iff, Bool.or_eq_true, Bool.and_eq_true, Bool.and_eq_false_iff, Bool.not_eq_eq_eq_not, Bool.not_true, Bool.not_false, decide_eq_true_eq, decide_eq_false_iff_not, ge_iff_le, gt_iff_lt] at *); omega))) (by simp only [R.flat_len]; (first | assumption | ((try simp only [Bool.or_eq_false_iff, Bool.or_eq_true, Bool.and_eq_true, Bool.and_eq_false_iff, Bool.not_eq_eq_eq_not, Bool.not_true, Bool.not_false, decide_eq_true_eq, decide_eq_false_iff_not, ge_iff_le, gt_iff_lt] at *); omega)))) ?_
  refine E.wv (.int .u8 (V.d (k / 256) (k % 256))) (fun w h => E.run_as (a := .int .u8 ((R.flat V.d V.n).getD k 0)) (A.Y.vld h.x (k := 1) (i := k) rfl (by kernel_rfl) (by kernel_rfl) (by simp only [R.flat_len]; (first | assumption | ((try simp only [Bool.or_eq_false_iff, Bool.or_eq_true, Bool.and_eq_true, Bool.and_eq_false_iff, Bool.not_eq_eq_eq_not, Bool.not_true, Bool.not_false, decide_eq_true_eq, decide_eq_false_iff_not, ge_iff_le, gt_iff_lt] at *); omega)))) (congrArg (Value.int .u8) (R.flat_get (by (first | assumption | ((try simp only [Bool.or_eq_false_iff, Bool.or_eq_true, Bool.and_eq_true, Bool.and_eq_false_iff, Bool.not_eq_eq_eq_not, Bool.not_true, Bool.not_false, decide_eq_true_eq, decide_eq_false_iff_not, ge_iff_le, gt_iff_lt] at *); omega)))))) ?_
  refine E.wo (.pointer (some ⟨r, 0, none⟩)) ?_
  refine E.wo (.pointer (some ⟨r, 0, none⟩)) ?_
  refine E.wo (.pointer (some ⟨r, 0, none⟩)) ?_
  refine E.wv (.slice s.a0 (256 * V.n) s.c0) (fun w h => A.Y.bld h.x (k := 0) (j := 0) rfl (by kernel_rfl) (by kernel_rfl)) ?_
  refine E.wo (.int .i64 ((k : Nat) : Int)) ?_
  refine E.wv (.pointer (some ⟨(A.bk s.a0), k, none⟩)) (fun w h => A.Y.idx (e := 5) (ik := .i64) (i := k) (len := (256 * V.n)) (c2 := s.c0) h.x (k := 1) rfl (by kernel_rfl) (by kernel_rfl) (by kernel_rfl) (by kernel_rfl) (by (first | assumption | ((try simp only [Bool.or_eq_false_iff, Bool.or_eq_true, Bool.and_eq_true, Bool.and_eq_false_iff, Bool.not_eq_eq_eq_not, Bool.not_true, Bool.not_false, decide_eq_true_eq, decide_eq_false_iff_not, ge_iff_le, gt_iff_lt] at *); omega))) (by simp only [R.flat_len]; (first | assumption | ((try simp only [Bool.or_eq_false_iff, Bool.or_eq_true, Bool.and_eq_true, Bool.and_eq_false_iff, Bool.not_eq_eq_eq_not, Bool.not_true, Bool.not_false, decide_eq_true_eq, decide_eq_false_iff_not, ge_iff_le, gt_iff_lt] at *); omega)))) ?_
  refine E.wv (.int .u8 (V.d (k / 256) (k % 256))) (fun w h => E.run_as (a := .int .u8 ((R.flat V.d V.n).getD k 0)) (A.Y.vld h.x (k := 1) (i := k) rfl (by kernel_rfl) (by kernel_rfl) (by simp only [R.flat_len]; (first | assumption | ((try simp only [Bool.or_eq_false_iff, Bool.or_eq_true, Bool.and_eq_true, Bool.and_eq_false_iff, Bool.not_eq_eq_eq_not, Bool.not_true, Bool.not_false, decide_eq_true_eq, decide_eq_false_iff_not, ge_iff_le, gt_iff_lt] at *); omega)))) (congrArg (Value.int .u8) (R.flat_get (by (first | assumption | ((try simp only [Bool.or_eq_false_iff, Bool.or_eq_true, Bool.and_eq_true, Bool.and_eq_false_iff, Bool.not_eq_eq_eq_not, Bool.not_true, Bool.not_false, decide_eq_true_eq, decide_eq_false_iff_not, ge_iff_le, gt_iff_lt] at *); omega)))))) ?_
  refine E.wv (.bool false) (fun w h => E.run_as (a := .bool ((V.d (k / 256) (k % 256)) != (V.d (k / 256) (k % 256)))) (by kernel_rfl) (congrArg Value.bool (bne_self_eq_false _))) ?_
  refine E.wo (.bool false) ?_
  refine E.wo (.pointer (some ⟨r, 0, none⟩)) ?_
  refine E.wo (.int .i64 ((k : Nat) : Int)) ?_
  refine E.wv (.int .u32 ((k : Nat) : Int)) (fun w h => E.run_as (a := .int .u32 (IntKind.wrap .u32 ((k : Nat) : Int))) (by kernel_rfl) (congrArg (Value.int .u32) (by exact Nz.w32 (x := k) (by have := hw.n; (first | assumption | ((try simp only [Bool.or_eq_false_iff, Bool.or_eq_true, Bool.and_eq_true, Bool.and_eq_false_iff, Bool.not_eq_eq_eq_not, Bool.not_true, Bool.not_false, decide_eq_true_eq, decide_eq_false_iff_not, ge_iff_le, gt_iff_lt] at *); omega)))))) ?_
  refine E.W.call (.int .u8 (V.code k)) (fun w h => A.Y.rd [] (R_Code (r := r) (s := s) (V := V) hw k (by have := hw.n; (first | assumption | ((try simp only [Bool.or_eq_false_iff, Bool.or_eq_true, Bool.and_eq_true, Bool.and_eq_false_iff, Bool.not_eq_eq_eq_not, Bool.not_true, Bool.not_false, decide_eq_true_eq, decide_eq_false_iff_not, ge_iff_le, gt_iff_lt] at *); omega)))) h.x (A.pn [0, 1, 2, 3, 4, 5])) (fun w _ => by kernel_rfl) (by kernel_rfl) ?_
  refine E.wo (.pointer (some ⟨r, 0, none⟩)) ?_
  refine E.wo (.int .i64 ((k : Nat) : Int)) ?_
  refine E.wv (.int .u32 ((k : Nat) : Int)) (fun w h => E.run_as (a := .int .u32 (IntKind.wrap .u32 ((k : Nat) : Int))) (by kernel_rfl) (congrArg (Value.int .u32) (by exact Nz.w32 (x := k) (by have := hw.n; (first | assumption | ((try simp only [Bool.or_eq_false_iff, Bool.or_eq_true, Bool.and_eq_true, Bool.and_eq_false_iff, Bool.not_eq_eq_eq_not, Bool.not_true, Bool.not_false, decide_eq_true_eq, decide_eq_false_iff_not, ge_iff_le, gt_iff_lt] at *); omega)))))) ?_
  refine E.W.call (.int .u8 (V.code k)) (fun w h => A.Y.rd [] (R_Code (r := r) (s := s) (V := V) hw k (by have := hw.n; (first | assumption | ((try simp only [Bool.or_eq_false_iff, Bool.or_eq_true, Bool.and_eq_true, Bool.and_eq_false_iff, Bool.not_eq_eq_eq_not, Bool.not_true, Bool.not_false, decide_eq_true_eq, decide_eq_false_iff_not, ge_iff_le, gt_iff_lt] at *); omega)))) h.x (A.pn [0, 1, 2, 3, 4, 5])) (fun w _ => by kernel_rfl) (by kernel_rfl) ?_
  refine E.wv (.bool false) (fun w h => E.run_as (a := .bool ((V.code k) != (V.code k))) (by kernel_rfl) (congrArg Value.bool (bne_self_eq_false _))) ?_
  refine E.wo (.bool false) ?_
  refine E.W.done (E.To.code ?_)
  refine E.C.condF (by kernel_rfl) (by kernel_rfl) ?_
  refine E.C.skip (E.P.nb (E.To.code ?_))
  refine E.C.region ?_
  refine E.op (.int .i64 ((k : Nat) : Int)) ?_
  refine E.vl (.int .i64 ((k + 1 : Nat) : Int)) (fun w h => E.run_as (a := .int .i64 (IntKind.wrap .i64 (((k : Nat) : Int) + 1))) (by kernel_rfl) (congrArg (Value.int .i64) (by exact Nz.add64 (x := k) (y := 1) (by have := hw.n; (first | assumption | ((try simp only [Bool.or_eq_false_iff, Bool.or_eq_true, Bool.and_eq_true, Bool.and_eq_false_iff, Bool.not_eq_eq_eq_not, Bool.not_true, Bool.not_false, decide_eq_true_eq, decide_eq_false_iff_not, ge_iff_le, gt_iff_lt] at *); omega)))))) ?_
  refine E.op (.int .i64 ((k + 1 : Nat) : Int)) ?_
  exact E.To.round (k + 1) (by (first | assumption | ((try simp only [Bool.or_eq_false_iff, Bool.or_eq_true, Bool.and_eq_true, Bool.and_eq_false_iff, Bool.not_eq_eq_eq_not, Bool.not_true, Bool.not_false, decide_eq_true_eq, decide_eq_false_iff_not, ge_iff_le, gt_iff_lt] at *); omega))) ((by (first | assumption | ((try simp only [Bool.or_eq_false_iff, Bool.or_eq_true, Bool.and_eq_true, Bool.and_eq_false_iff, Bool.not_eq_eq_eq_not, Bool.not_true, Bool.not_false, decide_eq_true_eq, decide_eq_false_iff_not, ge_iff_le, gt_iff_lt] at *); omega)))) ⟨by kernel_rfl, by kernel_rfl⟩ (List.Sublist.refl _) (fun _ h => h)
 refine E.C.exit (E.P.et (E.P.et (E.P.eh (E.To.code ?_))))
 refine E.wk [(4, .bool false)] [] (List.Sublist.refl _) ?_
 refine E.sr ?_
 refine E.op (.bool true) ?_
 refine E.To.code ?_
 refine E.C.ret (E.To.body (fn := Try.f43) [.bool true] ?_ ?_)
 · exact ⟨⟨by kernel_rfl, by kernel_rfl⟩, trivial⟩
 intro w h
 exact ⟨rfl, h.ch.bel (fun _ h => h.elim)⟩
theorem B_SameSelf {r : Nat} {V : M.V} : A.Rd Try.prog 43 #[.pointer (some ⟨r, 0, none⟩), .pointer (some ⟨r, 0, none⟩)] [R.It r V] (.bool true) := R.rd fun hw s => R_SameSelf hw
end Go.Proofs.Ytgbndbljohpnmaa

/- XQaf -/
namespace Go.Proofs.Ytgbndbljohpnmaa
set_option linter.unusedVariables false
set_option linter.unusedSimpArgs false
open Go.RowKit
def Q.mo (V : M.V) (f : Nat → Int) (x : ByteArray) : M.V := if f 0 % 4 = 0 then V.poke (IntKind.wrap .u32 (f 1)).toNat x x.size else if f 0 % 4 = 1 then V.setc (f 1) x else if f 0 % 4 = 2 then V.sync ((IntKind.wrap .u32 (f 1)).toNat / 256) else V.prot (f 1) (f 2)
def Q.mc (V : M.V) (q : Nat → Nat → Int) (x : ByteArray) : Nat → M.V
  | 0 => V
  | k + 1 => Q.mo (Q.mc V q x k) (q k) x
def Q.x3 (s : ByteArray) : ByteArray := s.extract 0 (((Nat.min s.size 300 : Nat) : Int)).toNat
def Q.mV (p : Int) (q : Nat → Nat → Int) (s : ByteArray) (k : Nat) : M.V := Q.mc (M.V.new (M.np (p % 5)) false) q (Q.x3 s) k
theorem Q.x3_size (s : ByteArray) : (Q.x3 s).size < 4294967296 := by
  unfold Q.x3
  rw [ByteArray.size_extract, Int.toNat_natCast]
  have e : Nat.min s.size 300 = if s.size ≤ 300 then s.size else 300 := rfl
  rw [e]; split <;> omega
theorem Q.x3_le (s : ByteArray) : Nat.min s.size 300 ≤ s.size := Nat.min_le_left _ _
theorem Q.m26 (s : ByteArray) : (if 300 < ((s.size : Nat) : Int) then 300 else ((s.size : Nat) : Int)) = ((Nat.min s.size 300 : Nat) : Int) := by
  have e : Nat.min s.size 300 = if s.size ≤ 300 then s.size else 300 := rfl
  rw [e]; split <;> split <;> omega
section
variable {p : Int} {q : Nat → Nat → Int} {s : ByteArray} {k : Nat}
theorem Q.mo0 (h : ((q k 0 % 4) == 0) = true) : (Q.mV p q s k).poke (IntKind.wrap .u32 (q k 1)).toNat (Q.x3 s) (Q.x3 s).size = Q.mV p q s (k + 1) := (if_pos (by simpa using h)).symm
theorem Q.mo1 (h0 : ((q k 0 % 4) == 0) = false) (h : ((q k 0 % 4) == 1) = true) : (Q.mV p q s k).setc (q k 1) (Q.x3 s) = Q.mV p q s (k + 1) := ((if_neg (by simpa using h0)).trans (if_pos (by simpa using h))).symm
theorem Q.mo2 (h0 : ((q k 0 % 4) == 0) = false) (h1 : ((q k 0 % 4) == 1) = false) (h : ((q k 0 % 4) == 2) = true) : (Q.mV p q s k).sync ((IntKind.wrap .u32 (q k 1)).toNat / 256) = Q.mV p q s (k + 1) := ((if_neg (by simpa using h0)).trans ((if_neg (by simpa using h1)).trans (if_pos (by simpa using h)))).symm
theorem Q.mo3 (h0 : ((q k 0 % 4) == 0) = false) (h1 : ((q k 0 % 4) == 1) = false) (h2 : ((q k 0 % 4) == 2) = false) : (Q.mV p q s k).prot (q k 1) (q k 2) = Q.mV p q s (k + 1) := ((if_neg (by simpa using h0)).trans ((if_neg (by simpa using h1)).trans (if_neg (by simpa using h2)))).symm
theorem Q.mo4 {α : Prop} (h0 : ((q k 0 % 4) == 0) = false) (h1 : ((q k 0 % 4) == 1) = false) (h2 : ((q k 0 % 4) == 2) = false) (h3 : ((q k 0 % 4) == 3) = false) : α := False.elim (by
  simp at h0 h1 h2 h3
  have := Int.emod_nonneg (q k 0) (by decide : (4 : Int) ≠ 0)
  have := Int.emod_lt_of_pos (q k 0) (by decide : (0 : Int) < 4)
  omega)
theorem Q.mV_wf : ∀ k, R.Wf (Q.mV p q s k)
  | 0 => R.Wf.new (M.np_le _) _
  | k + 1 => by
    have h := Q.mV_wf k
    show R.Wf (Q.mo (Q.mV p q s k) (q k) _)
    unfold Q.mo
    split
    · exact h.poke _ _ _
    split
    · exact h.setc _ _
    split
    · exact h.sync _
    · exact h.prot _ _
theorem Q.m37 (h : k ≤ 40) : IntKind.wrap .i64 (((k : Nat) : Int) + 1) = ((k + 1 : Nat) : Int) := by rw [IntWalk.i64_in _ (by omega)]; omega
end
set_option maxHeartbeats 4000000 in
theorem QcpuMemory_rd {ao : Option Addr} {ad : Addr} {n cap : Nat} {q : Nat → Nat → Int} (hao : 0 < n → ao = some ad) (hq : ∀ i j, -9223372036854775808 ≤ q i j ∧ q i j < 9223372036854775808) (p : Int) (hp : -9223372036854775808 ≤ p ∧ p < 9223372036854775808) (s : ByteArray) : A.Rd Try.prog 9 #[.slice ao n cap, .int .i64 p, .string s] [A.facts (M.rowF 3 ad n q)] (.bool true) := by
 intro w oo aa hh
 refine E.enter (n := 198) (S := oo) Try.func9 rfl rfl (by kernel_rfl) (A.start (L := []) hh) ?_
 refine E.sr ?_
 refine E.op (.bool false) ?_
 refine E.tr ?_
 refine E.G.call (.bool true) (fun w h => A.call_rd [A.facts (M.rowF 3 ad n q)] (San6) h (by kernel_rfl) (A.pn [0])) (fun w _ => by kernel_rfl) (by kernel_rfl) ?_
 refine E.op (.bool true) ?_
 refine E.tr ?_
 refine E.op (.int .i64 p) ?_
 refine E.G.call (.int .i64 (p % 5)) (fun w h => Mod_any p 5 hp (by decide) w) (fun w _ => by kernel_rfl) (by kernel_rfl) ?_
 refine E.op (.int .i64 (p % 5)) ?_
 refine E.tr ?_
 refine E.op (.int .i64 (p % 5)) ?_
 refine A.G.call (I := Nat) (D := fun m1 => True) (V := fun m1 => .pointer (some ⟨m1, 0, none⟩)) (q := fun m1 => [M.It m1 (M.V.new (M.np (p % 5)) false) (Q.S.cells Q.z0)]) [A.facts (M.rowF 3 ad n q)] (fun m1 => []) (fun m1 => [M.It m1 (M.V.new (M.np (p % 5)) false) (Q.S.cells Q.z0), A.facts (M.rowF 3 ad n q)]) (CNew (p % 5)) (by kernel_rfl) (A.pn [0]) (fun m1 => A.pm [0, 1] (by kernel_rfl) (by kernel_rfl)) (fun w _ => by kernel_rfl) (by kernel_rfl) (fun m1 hd2 => ?_)
 refine E.op (.pointer (some ⟨m1, 0, none⟩)) ?_
 refine E.tr ?_
 refine E.op (.int .i64 (p % 5)) ?_
 refine A.G.call (I := Nat × Nat) (D := fun i3 => True) (V := fun i3 => .pointer (some ⟨i3.1, 0, none⟩)) (q := fun i3 => [A.blk i3.1 (Q.S.cells Q.z0 ++ [.pointer (some ⟨i3.2, 0, none⟩)]), R.It i3.2 (M.V.new (M.np (p % 5)) false)]) [M.It m1 (M.V.new (M.np (p % 5)) false) (Q.S.cells Q.z0), A.facts (M.rowF 3 ad n q)] (fun i3 => [(i3.1, (Q.S.cells Q.z0 ++ [.pointer (some ⟨i3.2, 0, none⟩)]))]) (fun i3 => [R.It i3.2 (M.V.new (M.np (p % 5)) false), M.It m1 (M.V.new (M.np (p % 5)) false) (Q.S.cells Q.z0), A.facts (M.rowF 3 ad n q)]) (CNew6 (p % 5)) (by kernel_rfl) (A.pn [0, 1]) (fun i3 => A.pm [0, 1, 2, 3] (by kernel_rfl) (by kernel_rfl)) (fun w _ => by kernel_rfl) (by kernel_rfl) (fun i3 hd4 => ?_)
 refine E.op (.pointer (some ⟨i3.1, 0, none⟩)) ?_
 refine E.To.code ?_
 refine E.wk [(0, .slice ao n cap), (2, .string s), (6, .bool false), (7, .bool true), (9, .pointer (some ⟨m1, 0, none⟩)), (10, .pointer (some ⟨i3.1, 0, none⟩))] [(i3.1, (Q.S.cells Q.z0 ++ [.pointer (some ⟨i3.2, 0, none⟩)]))] (List.Sublist.refl _) ?_
 refine E.C.seq ?_
 refine E.sr ?_
 refine E.op (.pointer (some ⟨m1, 0, none⟩)) ?_
 refine E.op (.bool false) ?_
 refine E.To.code ?_
 refine E.C.condF (by kernel_rfl) (by kernel_rfl) ?_
 refine E.C.skip (E.To.code ?_)
 refine E.sr ?_
 refine E.op (.string s) ?_
 refine E.op (.string s) ?_
 refine E.op (.int .i64 ((s.size : Nat) : Int)) ?_
 refine E.vl (.int .i64 ((Nat.min s.size 300 : Nat) : Int)) (fun w h => E.run_as (a := .int .i64 (if 300 < ((s.size : Nat) : Int) then 300 else ((s.size : Nat) : Int))) (by kernel_rfl) (congrArg (Value.int .i64) (Q.m26 s))) ?_
 refine E.vl (.string (Q.x3 s)) (fun w h => E.slTo s .i64 ((Nat.min s.size 300 : Nat) : Int) (by kernel_rfl) (by kernel_rfl) (by kernel_rfl) (by have := Q.x3_le s; omega) (by have := Q.x3_le s; omega) w) ?_
 refine E.op (.string (Q.x3 s)) ?_
 refine E.To.code ?_
 refine E.wk [(0, .slice ao n cap), (6, .bool false), (7, .bool true), (9, .pointer (some ⟨m1, 0, none⟩)), (10, .pointer (some ⟨i3.1, 0, none⟩)), (11, .string (Q.x3 s))] [(i3.1, (Q.S.cells Q.z0 ++ [.pointer (some ⟨i3.2, 0, none⟩)]))] (List.Sublist.refl _) ?_
 refine E.C.seq ?_
 refine E.sr ?_
 refine E.op (.int .i64 0) ?_
 refine E.To.code ?_
 refine E.C.block ?_
 refine E.C.loop (I := Nat) (fun k => 40 - k) (fun k => k ≤ n ∧ k ≤ 40) (fun k => [(0, .slice ao n cap), (6, .bool false), (7, .bool true), (9, .pointer (some ⟨m1, 0, none⟩)), (10, .pointer (some ⟨i3.1, 0, none⟩)), (11, .string (Q.x3 s)), (12, .int .i64 ((k : Nat) : Int))]) (fun k => A.X w oo aa [R.It i3.2 (Q.mV p q s k), M.It m1 (Q.mV p q s k) (Q.S.cells Q.z0), A.facts (M.rowF 3 ad n q)]) (fun k => [(i3.1, (Q.S.cells Q.z0 ++ [.pointer (some ⟨i3.2, 0, none⟩)]))]) 0 (⟨Nat.zero_le _, Nat.zero_le _⟩) ⟨by kernel_rfl, by kernel_rfl⟩ (List.Sublist.refl _) (fun _ h => h) (fun k hk1 => ?_)
 refine E.C.seq ?_
 refine E.sr ?_
 refine E.op (.int .i64 ((k : Nat) : Int)) ?_
 refine E.op (.slice ao n cap) ?_
 refine E.op (.int .i64 ((n : Nat) : Int)) ?_
 refine E.op (.bool (decide (((k : Nat) : Int) < ((n : Nat) : Int)))) ?_
 refine E.op (.bool (decide (((k : Nat) : Int) < ((n : Nat) : Int)))) ?_
 refine E.G.cut 3 [(0, .slice ao n cap), (6, .bool false), (7, .bool true), (9, .pointer (some ⟨m1, 0, none⟩)), (10, .pointer (some ⟨i3.1, 0, none⟩)), (11, .string (Q.x3 s)), (12, .int .i64 ((k : Nat) : Int)), (28, .int .i64 ((k : Nat) : Int)), (29, .slice ao n cap), (30, .int .i64 ((n : Nat) : Int)), (31, .bool (decide (((k : Nat) : Int) < ((n : Nat) : Int)))), (32, .bool (decide (((k : Nat) : Int) < ((n : Nat) : Int)))), (35, .bool ((decide (((k : Nat) : Int) < ((n : Nat) : Int))) && (decide (((k : Nat) : Int) < 40))))] (A.X w oo aa [R.It i3.2 (Q.mV p q s k), M.It m1 (Q.mV p q s k) (Q.S.cells Q.z0), A.facts (M.rowF 3 ad n q)]) [(i3.1, (Q.S.cells Q.z0 ++ [.pointer (some ⟨i3.2, 0, none⟩)]))] ?_ ?_
 ·
  generalize hc5 : (decide (((k : Nat) : Int) < ((n : Nat) : Int))) = b6
  cases b6
  ·
   refine E.sk ?_
   refine E.sk ?_
   refine E.op (.bool false) ?_
   exact E.G.end_pst ⟨by kernel_rfl, by kernel_rfl⟩ (List.Sublist.refl _) (fun _ h => h)
  refine E.op (.int .i64 ((k : Nat) : Int)) ?_
  refine E.op (.bool (decide (((k : Nat) : Int) < 40))) ?_
  refine E.op (.bool (decide (((k : Nat) : Int) < 40))) ?_
  exact E.G.end_pst ⟨by kernel_rfl, by kernel_rfl⟩ (List.Sublist.refl _) (fun _ h => h)
 refine E.To.code ?_
 refine E.cd ((decide (((k : Nat) : Int) < ((n : Nat) : Int))) && (decide (((k : Nat) : Int) < 40))) (fun hc7 => ?_) (fun hc7 => ?_)
 ·
  refine E.C.skip (E.To.code ?_)
  refine E.C.seq ?_
  refine E.C.block ?_
  refine E.sr ?_
  refine E.op (.slice ao n cap) ?_
  refine E.op (.int .i64 ((k : Nat) : Int)) ?_
  refine E.vl (.pointer (some (ad.add (k * 3)))) (fun w h => A.idxR (e := 75) ad ao n cap 3 .i64 k hao (by kernel_rfl) (by kernel_rfl) (by kernel_rfl) (by kernel_rfl) (by (first | assumption | ((try simp only [Bool.or_eq_false_iff, Bool.or_eq_true, Bool.and_eq_true, Bool.and_eq_false_iff, Bool.not_eq_eq_eq_not, Bool.not_true, Bool.not_false, decide_eq_true_eq, decide_eq_false_iff_not, ge_iff_le, gt_iff_lt] at *); omega))) w) ?_
  refine E.op (.pointer (some ((ad.add (k * 3)).add 1))) ?_
  refine E.vl (.int .i64 (q k 1)) (fun w h => A.loadRI (n := n) (i := k) (j := 1) (q := q) (A.X.y h.x) (k := 2) rfl (by kernel_rfl) (by kernel_rfl) (by (first | assumption | ((try simp only [Bool.or_eq_false_iff, Bool.or_eq_true, Bool.and_eq_true, Bool.and_eq_false_iff, Bool.not_eq_eq_eq_not, Bool.not_true, Bool.not_false, decide_eq_true_eq, decide_eq_false_iff_not, ge_iff_le, gt_iff_lt] at *); omega))) (by decide)) ?_
  refine E.op (.int .u32 (IntKind.wrap .u32 (q k 1))) ?_
  refine E.op (.int .u32 (IntKind.wrap .u32 (q k 1))) ?_
  refine E.To.code ?_
  refine E.C.seq ?_
  refine E.sr ?_
  refine E.op (.slice ao n cap) ?_
  refine E.op (.int .i64 ((k : Nat) : Int)) ?_
  refine E.vl (.pointer (some (ad.add (k * 3)))) (fun w h => A.idxR (e := 75) ad ao n cap 3 .i64 k hao (by kernel_rfl) (by kernel_rfl) (by kernel_rfl) (by kernel_rfl) (by (first | assumption | ((try simp only [Bool.or_eq_false_iff, Bool.or_eq_true, Bool.and_eq_true, Bool.and_eq_false_iff, Bool.not_eq_eq_eq_not, Bool.not_true, Bool.not_false, decide_eq_true_eq, decide_eq_false_iff_not, ge_iff_le, gt_iff_lt] at *); omega))) w) ?_
  refine E.op (.pointer (some ((ad.add (k * 3)).add 0))) ?_
  refine E.vl (.int .i64 (q k 0)) (fun w h => A.loadRI (n := n) (i := k) (j := 0) (q := q) (A.X.y h.x) (k := 2) rfl (by kernel_rfl) (by kernel_rfl) (by (first | assumption | ((try simp only [Bool.or_eq_false_iff, Bool.or_eq_true, Bool.and_eq_true, Bool.and_eq_false_iff, Bool.not_eq_eq_eq_not, Bool.not_true, Bool.not_false, decide_eq_true_eq, decide_eq_false_iff_not, ge_iff_le, gt_iff_lt] at *); omega))) (by decide)) ?_
  refine E.G.call (.int .i64 ((q k 0) % 4)) (fun w h => Mod_any (q k 0) 4 (hq _ _) (by decide) w) (fun w _ => by kernel_rfl) (by kernel_rfl) ?_
  refine E.To.code ?_
  refine E.C.block ?_
  refine E.sr ?_
  refine E.op (.bool (((q k 0) % 4) == 0)) ?_
  refine E.op (.bool (((q k 0) % 4) == 0)) ?_
  refine E.To.code ?_
  refine E.cd (((q k 0) % 4) == 0) (fun hc8 => ?_) (fun hc8 => ?_)
  ·
   refine E.sr ?_
   refine E.op (.pointer (some ⟨m1, 0, none⟩)) ?_
   refine E.op (.pointer (some ⟨m1, 0, none⟩)) ?_
   refine E.op (.pointer (some ⟨m1, 0, none⟩)) ?_
   refine E.op (.int .u32 (IntKind.wrap .u32 (q k 1))) ?_
   refine E.op (.string (Q.x3 s)) ?_
   refine A.G.call (I := Unit) (D := fun _ => True) (V := fun _ => .tuple #[]) (q := fun _ => [M.It m1 ((Q.mV p q s k).poke ((IntKind.wrap .u32 (q k 1))).toNat (Q.x3 s) (Q.x3 s).size) (Q.S.cells Q.z0)]) [A.blk i3.1 (Q.S.cells Q.z0 ++ [.pointer (some ⟨i3.2, 0, none⟩)]), R.It i3.2 (Q.mV p q s k), A.facts (M.rowF 3 ad n q)] (fun _ => [(i3.1, (Q.S.cells Q.z0 ++ [.pointer (some ⟨i3.2, 0, none⟩)]))]) (fun _ => [R.It i3.2 (Q.mV p q s k), M.It m1 ((Q.mV p q s k).poke ((IntKind.wrap .u32 (q k 1))).toNat (Q.x3 s) (Q.x3 s).size) (Q.S.cells Q.z0), A.facts (M.rowF 3 ad n q)]) (I_Poke (IntKind.wrap .u32 (q k 1)) (Q.x3 s) (Q.wrap_bd _) (Q.x3_size s) (m := m1) (V := (Q.mV p q s k)) (xs := (Q.S.cells Q.z0))) (by kernel_rfl) (A.pn [2, 0, 1, 3]) (fun _ => A.pm [1, 2, 0, 3] (by kernel_rfl) (by kernel_rfl)) (fun w _ => by kernel_rfl) (by kernel_rfl) (fun _ hd9 => ?_)
   refine E.ur ?_
   refine E.op (.pointer (some ⟨i3.1, 0, none⟩)) ?_
   refine E.op (.pointer (some ⟨i3.1, 0, none⟩)) ?_
   refine E.op (.pointer (some ⟨i3.1, 24, none⟩)) ?_
   refine E.li (.pointer (some ⟨i3.2, 0, none⟩)) 0 rfl rfl ?_
   refine E.op (.int .u32 (IntKind.wrap .u32 (q k 1))) ?_
   refine E.op (.string (Q.x3 s)) ?_
   refine A.G.call (I := Unit) (D := fun _ => True) (V := fun _ => .tuple #[]) (q := fun _ => [R.It i3.2 ((Q.mV p q s k).poke ((IntKind.wrap .u32 (q k 1))).toNat (Q.x3 s) (Q.x3 s).size)]) [A.blk i3.1 (Q.S.cells Q.z0 ++ [.pointer (some ⟨i3.2, 0, none⟩)]), M.It m1 ((Q.mV p q s k).poke ((IntKind.wrap .u32 (q k 1))).toNat (Q.x3 s) (Q.x3 s).size) (Q.S.cells Q.z0), A.facts (M.rowF 3 ad n q)] (fun _ => [(i3.1, (Q.S.cells Q.z0 ++ [.pointer (some ⟨i3.2, 0, none⟩)]))]) (fun _ => [R.It i3.2 ((Q.mV p q s k).poke ((IntKind.wrap .u32 (q k 1))).toNat (Q.x3 s) (Q.x3 s).size), M.It m1 ((Q.mV p q s k).poke ((IntKind.wrap .u32 (q k 1))).toNat (Q.x3 s) (Q.x3 s).size) (Q.S.cells Q.z0), A.facts (M.rowF 3 ad n q)]) (J_Poke (IntKind.wrap .u32 (q k 1)) (Q.x3 s) (Q.wrap_bd _) (Q.x3_size s) (m := i3.2) (V := (Q.mV p q s k))) (by kernel_rfl) (A.pn [1, 0, 2, 3]) (fun _ => A.pm [1, 0, 2, 3] (by kernel_rfl) (by kernel_rfl)) (fun w _ => by kernel_rfl) (by kernel_rfl) (fun _ hd10 => ?_)
   refine E.P.nb (E.To.code ?_)
   refine E.C.seq ?_
   refine E.C.quiet (by kernel_rfl) (by kernel_rfl) ?_
   refine E.wo (.pointer (some ⟨m1, 0, none⟩)) ?_
   refine E.wo (.pointer (some ⟨m1, 0, none⟩)) ?_
   refine E.wo (.pointer (some ⟨m1, 0, none⟩)) ?_
   refine E.wo (.int .u32 (IntKind.wrap .u32 (q k 1))) ?_
   refine E.W.call (.int .u8 (((Q.mV p q s k).poke ((IntKind.wrap .u32 (q k 1))).toNat (Q.x3 s) (Q.x3 s).size).peek ((IntKind.wrap .u32 (q k 1))).toNat)) (fun w h => A.call_rd [A.blk i3.1 (Q.S.cells Q.z0 ++ [.pointer (some ⟨i3.2, 0, none⟩)]), R.It i3.2 ((Q.mV p q s k).poke ((IntKind.wrap .u32 (q k 1))).toNat (Q.x3 s) (Q.x3 s).size), A.facts (M.rowF 3 ad n q)] (I_Peek (IntKind.wrap .u32 (q k 1)) (Q.wrap_bd _) (m := m1) (V := ((Q.mV p q s k).poke ((IntKind.wrap .u32 (q k 1))).toNat (Q.x3 s) (Q.x3 s).size)) (xs := (Q.S.cells Q.z0))) h (by kernel_rfl) (A.pn [2, 0, 1, 3])) (fun w _ => by kernel_rfl) (by kernel_rfl) ?_
   refine E.wo (.pointer (some ⟨i3.1, 0, none⟩)) ?_
   refine E.wo (.pointer (some ⟨i3.1, 0, none⟩)) ?_
   refine E.wo (.pointer (some ⟨i3.1, 24, none⟩)) ?_
   refine E.wv (.pointer (some ⟨i3.2, 0, none⟩)) (fun w h => E.run_load h 0 rfl rfl (by kernel_rfl)) ?_
   refine E.wo (.int .u32 (IntKind.wrap .u32 (q k 1))) ?_
   refine E.W.call (.int .u8 (((Q.mV p q s k).poke ((IntKind.wrap .u32 (q k 1))).toNat (Q.x3 s) (Q.x3 s).size).peek ((IntKind.wrap .u32 (q k 1))).toNat)) (fun w h => A.call_rd [A.blk i3.1 (Q.S.cells Q.z0 ++ [.pointer (some ⟨i3.2, 0, none⟩)]), M.It m1 ((Q.mV p q s k).poke ((IntKind.wrap .u32 (q k 1))).toNat (Q.x3 s) (Q.x3 s).size) (Q.S.cells Q.z0), A.facts (M.rowF 3 ad n q)] (J_Peek (IntKind.wrap .u32 (q k 1)) (Q.wrap_bd _) (m := i3.2) (V := ((Q.mV p q s k).poke ((IntKind.wrap .u32 (q k 1))).toNat (Q.x3 s) (Q.x3 s).size))) h (by kernel_rfl) (A.pn [1, 0, 2, 3])) (fun w _ => by kernel_rfl) (by kernel_rfl) ?_
   refine E.wv (.bool false) (fun w h => E.run_as (a := .bool ((((Q.mV p q s k).poke ((IntKind.wrap .u32 (q k 1))).toNat (Q.x3 s) (Q.x3 s).size).peek ((IntKind.wrap .u32 (q k 1))).toNat) != (((Q.mV p q s k).poke ((IntKind.wrap .u32 (q k 1))).toNat (Q.x3 s) (Q.x3 s).size).peek ((IntKind.wrap .u32 (q k 1))).toNat))) (by kernel_rfl) (congrArg Value.bool (bne_self_eq_false _))) ?_
   refine E.wo (.bool false) ?_
   refine E.wo (.pointer (some ⟨m1, 0, none⟩)) ?_
   refine E.wo (.pointer (some ⟨m1, 0, none⟩)) ?_
   refine E.wo (.pointer (some ⟨m1, 0, none⟩)) ?_
   refine E.wo (.int .u32 (IntKind.wrap .u32 (q k 1))) ?_
   refine E.W.call (.int .u8 (((Q.mV p q s k).poke ((IntKind.wrap .u32 (q k 1))).toNat (Q.x3 s) (Q.x3 s).size).code ((IntKind.wrap .u32 (q k 1))).toNat)) (fun w h => A.call_rd [A.blk i3.1 (Q.S.cells Q.z0 ++ [.pointer (some ⟨i3.2, 0, none⟩)]), R.It i3.2 ((Q.mV p q s k).poke ((IntKind.wrap .u32 (q k 1))).toNat (Q.x3 s) (Q.x3 s).size), A.facts (M.rowF 3 ad n q)] (I_Code (IntKind.wrap .u32 (q k 1)) (Q.wrap_bd _) (m := m1) (V := ((Q.mV p q s k).poke ((IntKind.wrap .u32 (q k 1))).toNat (Q.x3 s) (Q.x3 s).size)) (xs := (Q.S.cells Q.z0))) h (by kernel_rfl) (A.pn [2, 0, 1, 3])) (fun w _ => by kernel_rfl) (by kernel_rfl) ?_
   refine E.wo (.pointer (some ⟨i3.1, 0, none⟩)) ?_
   refine E.wo (.pointer (some ⟨i3.1, 0, none⟩)) ?_
   refine E.wo (.pointer (some ⟨i3.1, 24, none⟩)) ?_
   refine E.wv (.pointer (some ⟨i3.2, 0, none⟩)) (fun w h => E.run_load h 0 rfl rfl (by kernel_rfl)) ?_
   refine E.wo (.int .u32 (IntKind.wrap .u32 (q k 1))) ?_
   refine E.W.call (.int .u8 (((Q.mV p q s k).poke ((IntKind.wrap .u32 (q k 1))).toNat (Q.x3 s) (Q.x3 s).size).code ((IntKind.wrap .u32 (q k 1))).toNat)) (fun w h => A.call_rd [A.blk i3.1 (Q.S.cells Q.z0 ++ [.pointer (some ⟨i3.2, 0, none⟩)]), M.It m1 ((Q.mV p q s k).poke ((IntKind.wrap .u32 (q k 1))).toNat (Q.x3 s) (Q.x3 s).size) (Q.S.cells Q.z0), A.facts (M.rowF 3 ad n q)] (J_Code (IntKind.wrap .u32 (q k 1)) (Q.wrap_bd _) (m := i3.2) (V := ((Q.mV p q s k).poke ((IntKind.wrap .u32 (q k 1))).toNat (Q.x3 s) (Q.x3 s).size))) h (by kernel_rfl) (A.pn [1, 0, 2, 3])) (fun w _ => by kernel_rfl) (by kernel_rfl) ?_
   refine E.wv (.bool false) (fun w h => E.run_as (a := .bool ((((Q.mV p q s k).poke ((IntKind.wrap .u32 (q k 1))).toNat (Q.x3 s) (Q.x3 s).size).code ((IntKind.wrap .u32 (q k 1))).toNat) != (((Q.mV p q s k).poke ((IntKind.wrap .u32 (q k 1))).toNat (Q.x3 s) (Q.x3 s).size).code ((IntKind.wrap .u32 (q k 1))).toNat))) (by kernel_rfl) (congrArg Value.bool (bne_self_eq_false _))) ?_
   refine E.wo (.bool false) ?_
   refine E.wo (.bool false) ?_
   refine E.wo (.pointer (some ⟨m1, 0, none⟩)) ?_
   refine E.wo (.pointer (some ⟨m1, 0, none⟩)) ?_
   refine E.wo (.pointer (some ⟨m1, 0, none⟩)) ?_
   refine E.wo (.slice ao n cap) ?_
   refine E.wo (.int .i64 ((k : Nat) : Int)) ?_
   refine E.wv (.pointer (some (ad.add (k * 3)))) (fun w h => A.idxR (e := 75) ad ao n cap 3 .i64 k hao (by kernel_rfl) (by kernel_rfl) (by kernel_rfl) (by kernel_rfl) (by (first | assumption | ((try simp only [Bool.or_eq_false_iff, Bool.or_eq_true, Bool.and_eq_true, Bool.and_eq_false_iff, Bool.not_eq_eq_eq_not, Bool.not_true, Bool.not_false, decide_eq_true_eq, decide_eq_false_iff_not, ge_iff_le, gt_iff_lt] at *); omega))) w) ?_
   refine E.wo (.pointer (some ((ad.add (k * 3)).add 1))) ?_
   refine E.wv (.int .i64 (q k 1)) (fun w h => A.loadRI (n := n) (i := k) (j := 1) (q := q) (A.X.y h.x) (k := 2) rfl (by kernel_rfl) (by kernel_rfl) (by (first | assumption | ((try simp only [Bool.or_eq_false_iff, Bool.or_eq_true, Bool.and_eq_true, Bool.and_eq_false_iff, Bool.not_eq_eq_eq_not, Bool.not_true, Bool.not_false, decide_eq_true_eq, decide_eq_false_iff_not, ge_iff_le, gt_iff_lt] at *); omega))) (by decide)) ?_
   refine E.W.call (.int .i64 (((Q.mV p q s k).poke ((IntKind.wrap .u32 (q k 1))).toNat (Q.x3 s) (Q.x3 s).size).rt (q k 1))) (fun w h => A.call_rd [A.blk i3.1 (Q.S.cells Q.z0 ++ [.pointer (some ⟨i3.2, 0, none⟩)]), R.It i3.2 ((Q.mV p q s k).poke ((IntKind.wrap .u32 (q k 1))).toNat (Q.x3 s) (Q.x3 s).size), A.facts (M.rowF 3 ad n q)] (A_Rights (q k 1) (m := m1) (V := ((Q.mV p q s k).poke ((IntKind.wrap .u32 (q k 1))).toNat (Q.x3 s) (Q.x3 s).size)) (xs := (Q.S.cells Q.z0))) h (by kernel_rfl) (A.pn [2, 0, 1, 3])) (fun w _ => by kernel_rfl) (by kernel_rfl) ?_
   refine E.wo (.pointer (some ⟨i3.1, 0, none⟩)) ?_
   refine E.wo (.pointer (some ⟨i3.1, 0, none⟩)) ?_
   refine E.wo (.pointer (some ⟨i3.1, 24, none⟩)) ?_
   refine E.wv (.pointer (some ⟨i3.2, 0, none⟩)) (fun w h => E.run_load h 0 rfl rfl (by kernel_rfl)) ?_
   refine E.wo (.slice ao n cap) ?_
   refine E.wo (.int .i64 ((k : Nat) : Int)) ?_
   refine E.wv (.pointer (some (ad.add (k * 3)))) (fun w h => A.idxR (e := 75) ad ao n cap 3 .i64 k hao (by kernel_rfl) (by kernel_rfl) (by kernel_rfl) (by kernel_rfl) (by (first | assumption | ((try simp only [Bool.or_eq_false_iff, Bool.or_eq_true, Bool.and_eq_true, Bool.and_eq_false_iff, Bool.not_eq_eq_eq_not, Bool.not_true, Bool.not_false, decide_eq_true_eq, decide_eq_false_iff_not, ge_iff_le, gt_iff_lt] at *); omega))) w) ?_
   refine E.wo (.pointer (some ((ad.add (k * 3)).add 1))) ?_
   refine E.wv (.int .i64 (q k 1)) (fun w h => A.loadRI (n := n) (i := k) (j := 1) (q := q) (A.X.y h.x) (k := 2) rfl (by kernel_rfl) (by kernel_rfl) (by (first | assumption | ((try simp only [Bool.or_eq_false_iff, Bool.or_eq_true, Bool.and_eq_true, Bool.and_eq_false_iff, Bool.not_eq_eq_eq_not, Bool.not_true, Bool.not_false, decide_eq_true_eq, decide_eq_false_iff_not, ge_iff_le, gt_iff_lt] at *); omega))) (by decide)) ?_
   refine E.W.call (.int .i64 (((Q.mV p q s k).poke ((IntKind.wrap .u32 (q k 1))).toNat (Q.x3 s) (Q.x3 s).size).rt (q k 1))) (fun w h => A.call_rd [A.blk i3.1 (Q.S.cells Q.z0 ++ [.pointer (some ⟨i3.2, 0, none⟩)]), M.It m1 ((Q.mV p q s k).poke ((IntKind.wrap .u32 (q k 1))).toNat (Q.x3 s) (Q.x3 s).size) (Q.S.cells Q.z0), A.facts (M.rowF 3 ad n q)] (B_RightsOf (q k 1) (r := i3.2) (V := ((Q.mV p q s k).poke ((IntKind.wrap .u32 (q k 1))).toNat (Q.x3 s) (Q.x3 s).size))) h (by kernel_rfl) (A.pn [1, 0, 2, 3])) (fun w _ => by kernel_rfl) (by kernel_rfl) ?_
   refine E.wv (.bool false) (fun w h => E.run_as (a := .bool ((((Q.mV p q s k).poke ((IntKind.wrap .u32 (q k 1))).toNat (Q.x3 s) (Q.x3 s).size).rt (q k 1)) != (((Q.mV p q s k).poke ((IntKind.wrap .u32 (q k 1))).toNat (Q.x3 s) (Q.x3 s).size).rt (q k 1)))) (by kernel_rfl) (congrArg Value.bool (bne_self_eq_false _))) ?_
   refine E.wo (.bool false) ?_
   refine E.W.done (E.To.code ?_)
   refine E.C.condF (by kernel_rfl) (by kernel_rfl) ?_
   refine E.C.skip (E.P.nb (E.To.code ?_))
   refine A.C.eq ([R.It i3.2 (Q.mV p q s (k + 1)), M.It m1 (Q.mV p q s (k + 1)) (Q.S.cells Q.z0), A.facts (M.rowF 3 ad n q)]) (by rw [Q.mo0 (by assumption)]) ?_
   refine E.C.region ?_
   refine E.op (.int .i64 ((k : Nat) : Int)) ?_
   refine E.vl (.int .i64 ((k + 1 : Nat) : Int)) (fun w h => E.run_as (a := .int .i64 (IntKind.wrap .i64 (((k : Nat) : Int) + 1))) (by kernel_rfl) (congrArg (Value.int .i64) (Q.m37 hk1.2))) ?_
   refine E.op (.int .i64 ((k + 1 : Nat) : Int)) ?_
   exact E.To.round (k + 1) (by (first | assumption | ((try simp only [Bool.or_eq_false_iff, Bool.or_eq_true, Bool.and_eq_true, Bool.and_eq_false_iff, Bool.not_eq_eq_eq_not, Bool.not_true, Bool.not_false, decide_eq_true_eq, decide_eq_false_iff_not, ge_iff_le, gt_iff_lt] at *); omega))) ((by (first | assumption | ((try simp only [Bool.or_eq_false_iff, Bool.or_eq_true, Bool.and_eq_true, Bool.and_eq_false_iff, Bool.not_eq_eq_eq_not, Bool.not_true, Bool.not_false, decide_eq_true_eq, decide_eq_false_iff_not, ge_iff_le, gt_iff_lt] at *); omega)))) ⟨by kernel_rfl, by kernel_rfl⟩ (List.Sublist.refl _) (fun _ h => h)
  refine E.sr ?_
  refine E.op (.bool (((q k 0) % 4) == 1)) ?_
  refine E.op (.bool (((q k 0) % 4) == 1)) ?_
  refine E.To.code ?_
  refine E.cd (((q k 0) % 4) == 1) (fun hc11 => ?_) (fun hc11 => ?_)
  ·
   refine E.C.seq ?_
   refine E.C.held (A.Y [A.blk i3.1 (Q.S.cells Q.z0 ++ [.pointer (some ⟨i3.2, 0, none⟩)]), A.facts (M.rowF 3 ad n q)]) (by kernel_rfl) ?_
   refine E.tk 0 (.pointer (some ⟨m1, 0, none⟩)) rfl (fun w h => A.hpY (p := [A.blk i3.1 (Q.S.cells Q.z0 ++ [.pointer (some ⟨i3.2, 0, none⟩)]), A.facts (M.rowF 3 ad n q)]) (r := [R.It i3.2 (Q.mV p q s k), M.It m1 (Q.mV p q s k) (Q.S.cells Q.z0)]) h (by kernel_rfl) (A.pn [0, 3, 1, 2])) ?_
   refine E.tk 1 (.pointer (some ⟨m1, 0, none⟩)) rfl (fun w h => A.hpY (p := [A.blk i3.1 (Q.S.cells Q.z0 ++ [.pointer (some ⟨i3.2, 0, none⟩)]), A.facts (M.rowF 3 ad n q)]) (r := [R.It i3.2 (Q.mV p q s k), M.It m1 (Q.mV p q s k) (Q.S.cells Q.z0)]) h (by kernel_rfl) (A.pn [0, 3, 1, 2])) ?_
   refine E.tk 2 (.pointer (some ⟨m1, 0, none⟩)) rfl (fun w h => A.hpY (p := [A.blk i3.1 (Q.S.cells Q.z0 ++ [.pointer (some ⟨i3.2, 0, none⟩)]), A.facts (M.rowF 3 ad n q)]) (r := [R.It i3.2 (Q.mV p q s k), M.It m1 (Q.mV p q s k) (Q.S.cells Q.z0)]) h (by kernel_rfl) (A.pn [0, 3, 1, 2])) ?_
   refine E.tk 3 (.slice ao n cap) rfl (fun w h => A.hpY (p := [A.blk i3.1 (Q.S.cells Q.z0 ++ [.pointer (some ⟨i3.2, 0, none⟩)]), A.facts (M.rowF 3 ad n q)]) (r := [R.It i3.2 (Q.mV p q s k), M.It m1 (Q.mV p q s k) (Q.S.cells Q.z0)]) h (by kernel_rfl) (A.pn [0, 3, 1, 2])) ?_
   refine E.tk 4 (.int .i64 ((k : Nat) : Int)) rfl (fun w h => A.hpY (p := [A.blk i3.1 (Q.S.cells Q.z0 ++ [.pointer (some ⟨i3.2, 0, none⟩)]), A.facts (M.rowF 3 ad n q)]) (r := [R.It i3.2 (Q.mV p q s k), M.It m1 (Q.mV p q s k) (Q.S.cells Q.z0)]) h (by kernel_rfl) (A.pn [0, 3, 1, 2])) ?_
   refine E.tj 5 (.pointer (some (ad.add (k * 3)))) rfl (fun w h => A.hpY (p := [A.blk i3.1 (Q.S.cells Q.z0 ++ [.pointer (some ⟨i3.2, 0, none⟩)]), A.facts (M.rowF 3 ad n q)]) (r := [R.It i3.2 (Q.mV p q s k), M.It m1 (Q.mV p q s k) (Q.S.cells Q.z0)]) h (by kernel_rfl) (A.pn [0, 3, 1, 2])) (fun w h => A.idxR (e := 75) ad ao n cap 3 .i64 k hao (by kernel_rfl) (by kernel_rfl) (by kernel_rfl) (by kernel_rfl) (by (first | assumption | ((try simp only [Bool.or_eq_false_iff, Bool.or_eq_true, Bool.and_eq_true, Bool.and_eq_false_iff, Bool.not_eq_eq_eq_not, Bool.not_true, Bool.not_false, decide_eq_true_eq, decide_eq_false_iff_not, ge_iff_le, gt_iff_lt] at *); omega))) w) ?_
   refine E.tk 6 (.pointer (some ((ad.add (k * 3)).add 1))) rfl (fun w h => A.hpY (p := [A.blk i3.1 (Q.S.cells Q.z0 ++ [.pointer (some ⟨i3.2, 0, none⟩)]), A.facts (M.rowF 3 ad n q)]) (r := [R.It i3.2 (Q.mV p q s k), M.It m1 (Q.mV p q s k) (Q.S.cells Q.z0)]) h (by kernel_rfl) (A.pn [0, 3, 1, 2])) ?_
   refine E.tj 7 (.int .i64 (q k 1)) rfl (fun w h => A.hpY (p := [A.blk i3.1 (Q.S.cells Q.z0 ++ [.pointer (some ⟨i3.2, 0, none⟩)]), A.facts (M.rowF 3 ad n q)]) (r := [R.It i3.2 (Q.mV p q s k), M.It m1 (Q.mV p q s k) (Q.S.cells Q.z0)]) h (by kernel_rfl) (A.pn [0, 3, 1, 2])) (fun w h => A.loadRI (n := n) (i := k) (j := 1) (q := q) h (k := 1) rfl (by kernel_rfl) (by kernel_rfl) (by (first | assumption | ((try simp only [Bool.or_eq_false_iff, Bool.or_eq_true, Bool.and_eq_true, Bool.and_eq_false_iff, Bool.not_eq_eq_eq_not, Bool.not_true, Bool.not_false, decide_eq_true_eq, decide_eq_false_iff_not, ge_iff_le, gt_iff_lt] at *); omega))) (by decide)) ?_
   refine E.tk 8 (.string (Q.x3 s)) rfl (fun w h => A.hpY (p := [A.blk i3.1 (Q.S.cells Q.z0 ++ [.pointer (some ⟨i3.2, 0, none⟩)]), A.facts (M.rowF 3 ad n q)]) (r := [R.It i3.2 (Q.mV p q s k), M.It m1 (Q.mV p q s k) (Q.S.cells Q.z0)]) h (by kernel_rfl) (A.pn [0, 3, 1, 2])) ?_
   refine E.al 9 rfl ?_
   refine A.G.call (I := Unit) (D := fun _ => True) (V := fun _ => .tuple #[]) (q := fun _ => [M.It m1 ((Q.mV p q s k).setc (q k 1) (Q.x3 s)) (Q.S.cells Q.z0)]) [A.blk i3.1 (Q.S.cells Q.z0 ++ [.pointer (some ⟨i3.2, 0, none⟩)]), R.It i3.2 (Q.mV p q s k), A.facts (M.rowF 3 ad n q)] (fun _ => [(i3.1, (Q.S.cells Q.z0 ++ [.pointer (some ⟨i3.2, 0, none⟩)]))]) (fun _ => [R.It i3.2 (Q.mV p q s k), M.It m1 ((Q.mV p q s k).setc (q k 1) (Q.x3 s)) (Q.S.cells Q.z0), A.facts (M.rowF 3 ad n q)]) (A_SetCode (q k 1) (Q.x3 s) (m := m1) (V := (Q.mV p q s k)) (xs := (Q.S.cells Q.z0))) (by kernel_rfl) (A.pn [2, 0, 1, 3]) (fun _ => A.pm [1, 2, 0, 3] (by kernel_rfl) (by kernel_rfl)) (fun w _ => by kernel_rfl) (by kernel_rfl) (fun _ hd12 => ?_)
   refine E.H.back (fun w h => A.hpY (p := [A.blk i3.1 (Q.S.cells Q.z0 ++ [.pointer (some ⟨i3.2, 0, none⟩)]), A.facts (M.rowF 3 ad n q)]) (r := [R.It i3.2 (Q.mV p q s k), M.It m1 ((Q.mV p q s k).setc (q k 1) (Q.x3 s)) (Q.S.cells Q.z0)]) h (by kernel_rfl) (A.pn [0, 3, 1, 2])) ?_
   refine E.H.done (by kernel_rfl) ?_
   refine E.To.code ?_
   refine E.C.held (A.Y [A.blk i3.1 (Q.S.cells Q.z0 ++ [.pointer (some ⟨i3.2, 0, none⟩)]), A.facts (M.rowF 3 ad n q)]) (by kernel_rfl) ?_
   refine E.tk 0 (.pointer (some ⟨i3.1, 0, none⟩)) rfl (fun w h => A.hpY (p := [A.blk i3.1 (Q.S.cells Q.z0 ++ [.pointer (some ⟨i3.2, 0, none⟩)]), A.facts (M.rowF 3 ad n q)]) (r := [R.It i3.2 (Q.mV p q s k), M.It m1 ((Q.mV p q s k).setc (q k 1) (Q.x3 s)) (Q.S.cells Q.z0)]) h (by kernel_rfl) (A.pn [0, 3, 1, 2])) ?_
   refine E.tk 1 (.pointer (some ⟨i3.1, 0, none⟩)) rfl (fun w h => A.hpY (p := [A.blk i3.1 (Q.S.cells Q.z0 ++ [.pointer (some ⟨i3.2, 0, none⟩)]), A.facts (M.rowF 3 ad n q)]) (r := [R.It i3.2 (Q.mV p q s k), M.It m1 ((Q.mV p q s k).setc (q k 1) (Q.x3 s)) (Q.S.cells Q.z0)]) h (by kernel_rfl) (A.pn [0, 3, 1, 2])) ?_
   refine E.tk 2 (.pointer (some ⟨i3.1, 24, none⟩)) rfl (fun w h => A.hpY (p := [A.blk i3.1 (Q.S.cells Q.z0 ++ [.pointer (some ⟨i3.2, 0, none⟩)]), A.facts (M.rowF 3 ad n q)]) (r := [R.It i3.2 (Q.mV p q s k), M.It m1 ((Q.mV p q s k).setc (q k 1) (Q.x3 s)) (Q.S.cells Q.z0)]) h (by kernel_rfl) (A.pn [0, 3, 1, 2])) ?_
   refine E.tj 3 (.pointer (some ⟨i3.2, 0, none⟩)) rfl (fun w h => A.hpY (p := [A.blk i3.1 (Q.S.cells Q.z0 ++ [.pointer (some ⟨i3.2, 0, none⟩)]), A.facts (M.rowF 3 ad n q)]) (r := [R.It i3.2 (Q.mV p q s k), M.It m1 ((Q.mV p q s k).setc (q k 1) (Q.x3 s)) (Q.S.cells Q.z0)]) h (by kernel_rfl) (A.pn [0, 3, 1, 2])) (fun w h => A.Y.bld h (k := 0) (j := 24) rfl (by kernel_rfl) (by kernel_rfl)) ?_
   refine E.tk 4 (.slice ao n cap) rfl (fun w h => A.hpY (p := [A.blk i3.1 (Q.S.cells Q.z0 ++ [.pointer (some ⟨i3.2, 0, none⟩)]), A.facts (M.rowF 3 ad n q)]) (r := [R.It i3.2 (Q.mV p q s k), M.It m1 ((Q.mV p q s k).setc (q k 1) (Q.x3 s)) (Q.S.cells Q.z0)]) h (by kernel_rfl) (A.pn [0, 3, 1, 2])) ?_
   refine E.tk 5 (.int .i64 ((k : Nat) : Int)) rfl (fun w h => A.hpY (p := [A.blk i3.1 (Q.S.cells Q.z0 ++ [.pointer (some ⟨i3.2, 0, none⟩)]), A.facts (M.rowF 3 ad n q)]) (r := [R.It i3.2 (Q.mV p q s k), M.It m1 ((Q.mV p q s k).setc (q k 1) (Q.x3 s)) (Q.S.cells Q.z0)]) h (by kernel_rfl) (A.pn [0, 3, 1, 2])) ?_
   refine E.tj 6 (.pointer (some (ad.add (k * 3)))) rfl (fun w h => A.hpY (p := [A.blk i3.1 (Q.S.cells Q.z0 ++ [.pointer (some ⟨i3.2, 0, none⟩)]), A.facts (M.rowF 3 ad n q)]) (r := [R.It i3.2 (Q.mV p q s k), M.It m1 ((Q.mV p q s k).setc (q k 1) (Q.x3 s)) (Q.S.cells Q.z0)]) h (by kernel_rfl) (A.pn [0, 3, 1, 2])) (fun w h => A.idxR (e := 75) ad ao n cap 3 .i64 k hao (by kernel_rfl) (by kernel_rfl) (by kernel_rfl) (by kernel_rfl) (by (first | assumption | ((try simp only [Bool.or_eq_false_iff, Bool.or_eq_true, Bool.and_eq_true, Bool.and_eq_false_iff, Bool.not_eq_eq_eq_not, Bool.not_true, Bool.not_false, decide_eq_true_eq, decide_eq_false_iff_not, ge_iff_le, gt_iff_lt] at *); omega))) w) ?_
   refine E.tk 7 (.pointer (some ((ad.add (k * 3)).add 1))) rfl (fun w h => A.hpY (p := [A.blk i3.1 (Q.S.cells Q.z0 ++ [.pointer (some ⟨i3.2, 0, none⟩)]), A.facts (M.rowF 3 ad n q)]) (r := [R.It i3.2 (Q.mV p q s k), M.It m1 ((Q.mV p q s k).setc (q k 1) (Q.x3 s)) (Q.S.cells Q.z0)]) h (by kernel_rfl) (A.pn [0, 3, 1, 2])) ?_
   refine E.tj 8 (.int .i64 (q k 1)) rfl (fun w h => A.hpY (p := [A.blk i3.1 (Q.S.cells Q.z0 ++ [.pointer (some ⟨i3.2, 0, none⟩)]), A.facts (M.rowF 3 ad n q)]) (r := [R.It i3.2 (Q.mV p q s k), M.It m1 ((Q.mV p q s k).setc (q k 1) (Q.x3 s)) (Q.S.cells Q.z0)]) h (by kernel_rfl) (A.pn [0, 3, 1, 2])) (fun w h => A.loadRI (n := n) (i := k) (j := 1) (q := q) h (k := 1) rfl (by kernel_rfl) (by kernel_rfl) (by (first | assumption | ((try simp only [Bool.or_eq_false_iff, Bool.or_eq_true, Bool.and_eq_true, Bool.and_eq_false_iff, Bool.not_eq_eq_eq_not, Bool.not_true, Bool.not_false, decide_eq_true_eq, decide_eq_false_iff_not, ge_iff_le, gt_iff_lt] at *); omega))) (by decide)) ?_
   refine E.tk 9 (.string (Q.x3 s)) rfl (fun w h => A.hpY (p := [A.blk i3.1 (Q.S.cells Q.z0 ++ [.pointer (some ⟨i3.2, 0, none⟩)]), A.facts (M.rowF 3 ad n q)]) (r := [R.It i3.2 (Q.mV p q s k), M.It m1 ((Q.mV p q s k).setc (q k 1) (Q.x3 s)) (Q.S.cells Q.z0)]) h (by kernel_rfl) (A.pn [0, 3, 1, 2])) ?_
   refine E.al 10 rfl ?_
   refine A.G.call (I := Unit) (D := fun _ => True) (V := fun _ => .tuple #[]) (q := fun _ => [R.It i3.2 ((Q.mV p q s k).setc (q k 1) (Q.x3 s))]) [A.blk i3.1 (Q.S.cells Q.z0 ++ [.pointer (some ⟨i3.2, 0, none⟩)]), M.It m1 ((Q.mV p q s k).setc (q k 1) (Q.x3 s)) (Q.S.cells Q.z0), A.facts (M.rowF 3 ad n q)] (fun _ => [(i3.1, (Q.S.cells Q.z0 ++ [.pointer (some ⟨i3.2, 0, none⟩)]))]) (fun _ => [R.It i3.2 ((Q.mV p q s k).setc (q k 1) (Q.x3 s)), M.It m1 ((Q.mV p q s k).setc (q k 1) (Q.x3 s)) (Q.S.cells Q.z0), A.facts (M.rowF 3 ad n q)]) (B_SetCode (q k 1) (Q.x3 s) (r := i3.2) (V := (Q.mV p q s k))) (by kernel_rfl) (A.pn [1, 0, 2, 3]) (fun _ => A.pm [1, 0, 2, 3] (by kernel_rfl) (by kernel_rfl)) (fun w _ => by kernel_rfl) (by kernel_rfl) (fun _ hd13 => ?_)
   refine E.H.back (fun w h => A.hpY (p := [A.blk i3.1 (Q.S.cells Q.z0 ++ [.pointer (some ⟨i3.2, 0, none⟩)]), A.facts (M.rowF 3 ad n q)]) (r := [R.It i3.2 ((Q.mV p q s k).setc (q k 1) (Q.x3 s)), M.It m1 ((Q.mV p q s k).setc (q k 1) (Q.x3 s)) (Q.S.cells Q.z0)]) h (by kernel_rfl) (A.pn [0, 3, 1, 2])) ?_
   refine E.H.done (by kernel_rfl) ?_
   refine E.P.nb (E.To.code ?_)
   refine E.C.seq ?_
   refine E.C.quiet (by kernel_rfl) (by kernel_rfl) ?_
   refine E.wo (.pointer (some ⟨m1, 0, none⟩)) ?_
   refine E.wo (.pointer (some ⟨m1, 0, none⟩)) ?_
   refine E.wo (.pointer (some ⟨m1, 0, none⟩)) ?_
   refine E.wo (.int .u32 (IntKind.wrap .u32 (q k 1))) ?_
   refine E.W.call (.int .u8 (((Q.mV p q s k).setc (q k 1) (Q.x3 s)).peek ((IntKind.wrap .u32 (q k 1))).toNat)) (fun w h => A.call_rd [A.blk i3.1 (Q.S.cells Q.z0 ++ [.pointer (some ⟨i3.2, 0, none⟩)]), R.It i3.2 ((Q.mV p q s k).setc (q k 1) (Q.x3 s)), A.facts (M.rowF 3 ad n q)] (I_Peek (IntKind.wrap .u32 (q k 1)) (Q.wrap_bd _) (m := m1) (V := ((Q.mV p q s k).setc (q k 1) (Q.x3 s))) (xs := (Q.S.cells Q.z0))) h (by kernel_rfl) (A.pn [2, 0, 1, 3])) (fun w _ => by kernel_rfl) (by kernel_rfl) ?_
   refine E.wo (.pointer (some ⟨i3.1, 0, none⟩)) ?_
   refine E.wo (.pointer (some ⟨i3.1, 0, none⟩)) ?_
   refine E.wo (.pointer (some ⟨i3.1, 24, none⟩)) ?_
   refine E.wv (.pointer (some ⟨i3.2, 0, none⟩)) (fun w h => E.run_load h 0 rfl rfl (by kernel_rfl)) ?_
   refine E.wo (.int .u32 (IntKind.wrap .u32 (q k 1))) ?_
   refine E.W.call (.int .u8 (((Q.mV p q s k).setc (q k 1) (Q.x3 s)).peek ((IntKind.wrap .u32 (q k 1))).toNat)) (fun w h => A.call_rd [A.blk i3.1 (Q.S.cells Q.z0 ++ [.pointer (some ⟨i3.2, 0, none⟩)]), M.It m1 ((Q.mV p q s k).setc (q k 1) (Q.x3 s)) (Q.S.cells Q.z0), A.facts (M.rowF 3 ad n q)] (J_Peek (IntKind.wrap .u32 (q k 1)) (Q.wrap_bd _) (m := i3.2) (V := ((Q.mV p q s k).setc (q k 1) (Q.x3 s)))) h (by kernel_rfl) (A.pn [1, 0, 2, 3])) (fun w _ => by kernel_rfl) (by kernel_rfl) ?_
   refine E.wv (.bool false) (fun w h => E.run_as (a := .bool ((((Q.mV p q s k).setc (q k 1) (Q.x3 s)).peek ((IntKind.wrap .u32 (q k 1))).toNat) != (((Q.mV p q s k).setc (q k 1) (Q.x3 s)).peek ((IntKind.wrap .u32 (q k 1))).toNat))) (by kernel_rfl) (congrArg Value.bool (bne_self_eq_false _))) ?_
   refine E.wo (.bool false) ?_
   refine E.wo (.pointer (some ⟨m1, 0, none⟩)) ?_
   refine E.wo (.pointer (some ⟨m1, 0, none⟩)) ?_
   refine E.wo (.pointer (some ⟨m1, 0, none⟩)) ?_
   refine E.wo (.int .u32 (IntKind.wrap .u32 (q k 1))) ?_
   refine E.W.call (.int .u8 (((Q.mV p q s k).setc (q k 1) (Q.x3 s)).code ((IntKind.wrap .u32 (q k 1))).toNat)) (fun w h => A.call_rd [A.blk i3.1 (Q.S.cells Q.z0 ++ [.pointer (some ⟨i3.2, 0, none⟩)]), R.It i3.2 ((Q.mV p q s k).setc (q k 1) (Q.x3 s)), A.facts (M.rowF 3 ad n q)] (I_Code (IntKind.wrap .u32 (q k 1)) (Q.wrap_bd _) (m := m1) (V := ((Q.mV p q s k).setc (q k 1) (Q.x3 s))) (xs := (Q.S.cells Q.z0))) h (by kernel_rfl) (A.pn [2, 0, 1, 3])) (fun w _ => by kernel_rfl) (by kernel_rfl) ?_
   refine E.wo (.pointer (some ⟨i3.1, 0, none⟩)) ?_
   refine E.wo (.pointer (some ⟨i3.1, 0, none⟩)) ?_
   refine E.wo (.pointer (some ⟨i3.1, 24, none⟩)) ?_
   refine E.wv (.pointer (some ⟨i3.2, 0, none⟩)) (fun w h => E.run_load h 0 rfl rfl (by kernel_rfl)) ?_
   refine E.wo (.int .u32 (IntKind.wrap .u32 (q k 1))) ?_
   refine E.W.call (.int .u8 (((Q.mV p q s k).setc (q k 1) (Q.x3 s)).code ((IntKind.wrap .u32 (q k 1))).toNat)) (fun w h => A.call_rd [A.blk i3.1 (Q.S.cells Q.z0 ++ [.pointer (some ⟨i3.2, 0, none⟩)]), M.It m1 ((Q.mV p q s k).setc (q k 1) (Q.x3 s)) (Q.S.cells Q.z0), A.facts (M.rowF 3 ad n q)] (J_Code (IntKind.wrap .u32 (q k 1)) (Q.wrap_bd _) (m := i3.2) (V := ((Q.mV p q s k).setc (q k 1) (Q.x3 s)))) h (by kernel_rfl) (A.pn [1, 0, 2, 3])) (fun w _ => by kernel_rfl) (by kernel_rfl) ?_
   refine E.wv (.bool false) (fun w h => E.run_as (a := .bool ((((Q.mV p q s k).setc (q k 1) (Q.x3 s)).code ((IntKind.wrap .u32 (q k 1))).toNat) != (((Q.mV p q s k).setc (q k 1) (Q.x3 s)).code ((IntKind.wrap .u32 (q k 1))).toNat))) (by kernel_rfl) (congrArg Value.bool (bne_self_eq_false _))) ?_
   refine E.wo (.bool false) ?_
   refine E.wo (.bool false) ?_
   refine E.wo (.pointer (some ⟨m1, 0, none⟩)) ?_
   refine E.wo (.pointer (some ⟨m1, 0, none⟩)) ?_
   refine E.wo (.pointer (some ⟨m1, 0, none⟩)) ?_
   refine E.wo (.slice ao n cap) ?_
   refine E.wo (.int .i64 ((k : Nat) : Int)) ?_
   refine E.wv (.pointer (some (ad.add (k * 3)))) (fun w h => A.idxR (e := 75) ad ao n cap 3 .i64 k hao (by kernel_rfl) (by kernel_rfl) (by kernel_rfl) (by kernel_rfl) (by (first | assumption | ((try simp only [Bool.or_eq_false_iff, Bool.or_eq_true, Bool.and_eq_true, Bool.and_eq_false_iff, Bool.not_eq_eq_eq_not, Bool.not_true, Bool.not_false, decide_eq_true_eq, decide_eq_false_iff_not, ge_iff_le, gt_iff_lt] at *); omega))) w) ?_
   refine E.wo (.pointer (some ((ad.add (k * 3)).add 1))) ?_
   refine E.wv (.int .i64 (q k 1)) (fun w h => A.loadRI (n := n) (i := k) (j := 1) (q := q) (A.X.y h.x) (k := 2) rfl (by kernel_rfl) (by kernel_rfl) (by (first | assumption | ((try simp only [Bool.or_eq_false_iff, Bool.or_eq_true, Bool.and_eq_true, Bool.and_eq_false_iff, Bool.not_eq_eq_eq_not, Bool.not_true, Bool.not_false, decide_eq_true_eq, decide_eq_false_iff_not, ge_iff_le, gt_iff_lt] at *); omega))) (by decide)) ?_
   refine E.W.call (.int .i64 (((Q.mV p q s k).setc (q k 1) (Q.x3 s)).rt (q k 1))) (fun w h => A.call_rd [A.blk i3.1 (Q.S.cells Q.z0 ++ [.pointer (some ⟨i3.2, 0, none⟩)]), R.It i3.2 ((Q.mV p q s k).setc (q k 1) (Q.x3 s)), A.facts (M.rowF 3 ad n q)] (A_Rights (q k 1) (m := m1) (V := ((Q.mV p q s k).setc (q k 1) (Q.x3 s))) (xs := (Q.S.cells Q.z0))) h (by kernel_rfl) (A.pn [2, 0, 1, 3])) (fun w _ => by kernel_rfl) (by kernel_rfl) ?_
   refine E.wo (.pointer (some ⟨i3.1, 0, none⟩)) ?_
   refine E.wo (.pointer (some ⟨i3.1, 0, none⟩)) ?_
   refine E.wo (.pointer (some ⟨i3.1, 24, none⟩)) ?_
   refine E.wv (.pointer (some ⟨i3.2, 0, none⟩)) (fun w h => E.run_load h 0 rfl rfl (by kernel_rfl)) ?_
   refine E.wo (.slice ao n cap) ?_
   refine E.wo (.int .i64 ((k : Nat) : Int)) ?_
   refine E.wv (.pointer (some (ad.add (k * 3)))) (fun w h => A.idxR (e := 75) ad ao n cap 3 .i64 k hao (by kernel_rfl) (by kernel_rfl) (by kernel_rfl) (by kernel_rfl) (by (first | assumption | ((try simp only [Bool.or_eq_false_iff, Bool.or_eq_true, Bool.and_eq_true, Bool.and_eq_false_iff, Bool.not_eq_eq_eq_not, Bool.not_true, Bool.not_false, decide_eq_true_eq, decide_eq_false_iff_not, ge_iff_le, gt_iff_lt] at *); omega))) w) ?_
   refine E.wo (.pointer (some ((ad.add (k * 3)).add 1))) ?_
   refine E.wv (.int .i64 (q k 1)) (fun w h => A.loadRI (n := n) (i := k) (j := 1) (q := q) (A.X.y h.x) (k := 2) rfl (by kernel_rfl) (by kernel_rfl) (by (first | assumption | ((try simp only [Bool.or_eq_false_iff, Bool.or_eq_true, Bool.and_eq_true, Bool.and_eq_false_iff, Bool.not_eq_eq_eq_not, Bool.not_true, Bool.not_false, decide_eq_true_eq, decide_eq_false_iff_not, ge_iff_le, gt_iff_lt] at *); omega))) (by decide)) ?_
   refine E.W.call (.int .i64 (((Q.mV p q s k).setc (q k 1) (Q.x3 s)).rt (q k 1))) (fun w h => A.call_rd [A.blk i3.1 (Q.S.cells Q.z0 ++ [.pointer (some ⟨i3.2, 0, none⟩)]), M.It m1 ((Q.mV p q s k).setc (q k 1) (Q.x3 s)) (Q.S.cells Q.z0), A.facts (M.rowF 3 ad n q)] (B_RightsOf (q k 1) (r := i3.2) (V := ((Q.mV p q s k).setc (q k 1) (Q.x3 s)))) h (by kernel_rfl) (A.pn [1, 0, 2, 3])) (fun w _ => by kernel_rfl) (by kernel_rfl) ?_
   refine E.wv (.bool false) (fun w h => E.run_as (a := .bool ((((Q.mV p q s k).setc (q k 1) (Q.x3 s)).rt (q k 1)) != (((Q.mV p q s k).setc (q k 1) (Q.x3 s)).rt (q k 1)))) (by kernel_rfl) (congrArg Value.bool (bne_self_eq_false _))) ?_
   refine E.wo (.bool false) ?_
   refine E.W.done (E.To.code ?_)
   refine E.C.condF (by kernel_rfl) (by kernel_rfl) ?_
   refine E.C.skip (E.P.nb (E.To.code ?_))
   refine A.C.eq ([R.It i3.2 (Q.mV p q s (k + 1)), M.It m1 (Q.mV p q s (k + 1)) (Q.S.cells Q.z0), A.facts (M.rowF 3 ad n q)]) (by rw [Q.mo1 (by assumption) (by assumption)]) ?_
   refine E.C.region ?_
   refine E.op (.int .i64 ((k : Nat) : Int)) ?_
   refine E.vl (.int .i64 ((k + 1 : Nat) : Int)) (fun w h => E.run_as (a := .int .i64 (IntKind.wrap .i64 (((k : Nat) : Int) + 1))) (by kernel_rfl) (congrArg (Value.int .i64) (Q.m37 hk1.2))) ?_
   refine E.op (.int .i64 ((k + 1 : Nat) : Int)) ?_
   exact E.To.round (k + 1) (by (first | assumption | ((try simp only [Bool.or_eq_false_iff, Bool.or_eq_true, Bool.and_eq_true, Bool.and_eq_false_iff, Bool.not_eq_eq_eq_not, Bool.not_true, Bool.not_false, decide_eq_true_eq, decide_eq_false_iff_not, ge_iff_le, gt_iff_lt] at *); omega))) ((by (first | assumption | ((try simp only [Bool.or_eq_false_iff, Bool.or_eq_true, Bool.and_eq_true, Bool.and_eq_false_iff, Bool.not_eq_eq_eq_not, Bool.not_true, Bool.not_false, decide_eq_true_eq, decide_eq_false_iff_not, ge_iff_le, gt_iff_lt] at *); omega)))) ⟨by kernel_rfl, by kernel_rfl⟩ (List.Sublist.refl _) (fun _ h => h)
  refine E.sr ?_
  refine E.op (.bool (((q k 0) % 4) == 2)) ?_
  refine E.op (.bool (((q k 0) % 4) == 2)) ?_
  refine E.To.code ?_
  refine E.cd (((q k 0) % 4) == 2) (fun hc14 => ?_) (fun hc14 => ?_)
  ·
   refine E.C.seq ?_
   refine E.C.held (A.Y [A.blk i3.1 (Q.S.cells Q.z0 ++ [.pointer (some ⟨i3.2, 0, none⟩)]), A.facts (M.rowF 3 ad n q)]) (by kernel_rfl) ?_
   refine E.tk 0 (.pointer (some ⟨m1, 0, none⟩)) rfl (fun w h => A.hpY (p := [A.blk i3.1 (Q.S.cells Q.z0 ++ [.pointer (some ⟨i3.2, 0, none⟩)]), A.facts (M.rowF 3 ad n q)]) (r := [R.It i3.2 (Q.mV p q s k), M.It m1 (Q.mV p q s k) (Q.S.cells Q.z0)]) h (by kernel_rfl) (A.pn [0, 3, 1, 2])) ?_
   refine E.tk 1 (.pointer (some ⟨m1, 0, none⟩)) rfl (fun w h => A.hpY (p := [A.blk i3.1 (Q.S.cells Q.z0 ++ [.pointer (some ⟨i3.2, 0, none⟩)]), A.facts (M.rowF 3 ad n q)]) (r := [R.It i3.2 (Q.mV p q s k), M.It m1 (Q.mV p q s k) (Q.S.cells Q.z0)]) h (by kernel_rfl) (A.pn [0, 3, 1, 2])) ?_
   refine E.tk 2 (.pointer (some ⟨m1, 0, none⟩)) rfl (fun w h => A.hpY (p := [A.blk i3.1 (Q.S.cells Q.z0 ++ [.pointer (some ⟨i3.2, 0, none⟩)]), A.facts (M.rowF 3 ad n q)]) (r := [R.It i3.2 (Q.mV p q s k), M.It m1 (Q.mV p q s k) (Q.S.cells Q.z0)]) h (by kernel_rfl) (A.pn [0, 3, 1, 2])) ?_
   refine E.tk 3 (.int .u32 (IntKind.wrap .u32 (q k 1))) rfl (fun w h => A.hpY (p := [A.blk i3.1 (Q.S.cells Q.z0 ++ [.pointer (some ⟨i3.2, 0, none⟩)]), A.facts (M.rowF 3 ad n q)]) (r := [R.It i3.2 (Q.mV p q s k), M.It m1 (Q.mV p q s k) (Q.S.cells Q.z0)]) h (by kernel_rfl) (A.pn [0, 3, 1, 2])) ?_
   refine E.tk 5 (.pointer (some ⟨i3.1, 0, none⟩)) rfl (fun w h => A.hpY (p := [A.blk i3.1 (Q.S.cells Q.z0 ++ [.pointer (some ⟨i3.2, 0, none⟩)]), A.facts (M.rowF 3 ad n q)]) (r := [R.It i3.2 (Q.mV p q s k), M.It m1 (Q.mV p q s k) (Q.S.cells Q.z0)]) h (by kernel_rfl) (A.pn [0, 3, 1, 2])) ?_
   refine E.tk 6 (.pointer (some ⟨i3.1, 0, none⟩)) rfl (fun w h => A.hpY (p := [A.blk i3.1 (Q.S.cells Q.z0 ++ [.pointer (some ⟨i3.2, 0, none⟩)]), A.facts (M.rowF 3 ad n q)]) (r := [R.It i3.2 (Q.mV p q s k), M.It m1 (Q.mV p q s k) (Q.S.cells Q.z0)]) h (by kernel_rfl) (A.pn [0, 3, 1, 2])) ?_
   refine E.tk 7 (.pointer (some ⟨i3.1, 24, none⟩)) rfl (fun w h => A.hpY (p := [A.blk i3.1 (Q.S.cells Q.z0 ++ [.pointer (some ⟨i3.2, 0, none⟩)]), A.facts (M.rowF 3 ad n q)]) (r := [R.It i3.2 (Q.mV p q s k), M.It m1 (Q.mV p q s k) (Q.S.cells Q.z0)]) h (by kernel_rfl) (A.pn [0, 3, 1, 2])) ?_
   refine E.tj 8 (.pointer (some ⟨i3.2, 0, none⟩)) rfl (fun w h => A.hpY (p := [A.blk i3.1 (Q.S.cells Q.z0 ++ [.pointer (some ⟨i3.2, 0, none⟩)]), A.facts (M.rowF 3 ad n q)]) (r := [R.It i3.2 (Q.mV p q s k), M.It m1 (Q.mV p q s k) (Q.S.cells Q.z0)]) h (by kernel_rfl) (A.pn [0, 3, 1, 2])) (fun w h => A.Y.bld h (k := 0) (j := 24) rfl (by kernel_rfl) (by kernel_rfl)) ?_
   refine E.tk 9 (.int .u32 (IntKind.wrap .u32 (q k 1))) rfl (fun w h => A.hpY (p := [A.blk i3.1 (Q.S.cells Q.z0 ++ [.pointer (some ⟨i3.2, 0, none⟩)]), A.facts (M.rowF 3 ad n q)]) (r := [R.It i3.2 (Q.mV p q s k), M.It m1 (Q.mV p q s k) (Q.S.cells Q.z0)]) h (by kernel_rfl) (A.pn [0, 3, 1, 2])) ?_
   refine E.al 4 rfl ?_
   refine A.G.call (I := Unit) (D := fun _ => True) (V := fun _ => .bool (decide (((IntKind.wrap .u32 (q k 1))).toNat / 256 < (Q.mV p q s k).n))) (q := fun _ => [M.It m1 ((Q.mV p q s k).sync (((IntKind.wrap .u32 (q k 1))).toNat / 256)) (Q.S.cells Q.z0)]) [A.blk i3.1 (Q.S.cells Q.z0 ++ [.pointer (some ⟨i3.2, 0, none⟩)]), R.It i3.2 (Q.mV p q s k), A.facts (M.rowF 3 ad n q)] (fun _ => [(i3.1, (Q.S.cells Q.z0 ++ [.pointer (some ⟨i3.2, 0, none⟩)]))]) (fun _ => [R.It i3.2 (Q.mV p q s k), M.It m1 ((Q.mV p q s k).sync (((IntKind.wrap .u32 (q k 1))).toNat / 256)) (Q.S.cells Q.z0), A.facts (M.rowF 3 ad n q)]) (I_Sync (IntKind.wrap .u32 (q k 1)) (Q.wrap_bd _) (m := m1) (V := (Q.mV p q s k)) (xs := (Q.S.cells Q.z0))) (by kernel_rfl) (A.pn [2, 0, 1, 3]) (fun _ => A.pm [1, 2, 0, 3] (by kernel_rfl) (by kernel_rfl)) (fun w _ => by kernel_rfl) (by kernel_rfl) (fun _ hd15 => ?_)
   refine E.H.back (fun w h => A.hpY (p := [A.blk i3.1 (Q.S.cells Q.z0 ++ [.pointer (some ⟨i3.2, 0, none⟩)]), A.facts (M.rowF 3 ad n q)]) (r := [R.It i3.2 (Q.mV p q s k), M.It m1 ((Q.mV p q s k).sync (((IntKind.wrap .u32 (q k 1))).toNat / 256)) (Q.S.cells Q.z0)]) h (by kernel_rfl) (A.pn [0, 3, 1, 2])) ?_
   refine E.al 10 rfl ?_
   refine A.G.call (I := Unit) (D := fun _ => True) (V := fun _ => .bool (decide (((IntKind.wrap .u32 (q k 1))).toNat / 256 < (Q.mV p q s k).n))) (q := fun _ => [R.It i3.2 ((Q.mV p q s k).sync (((IntKind.wrap .u32 (q k 1))).toNat / 256))]) [A.blk i3.1 (Q.S.cells Q.z0 ++ [.pointer (some ⟨i3.2, 0, none⟩)]), M.It m1 ((Q.mV p q s k).sync (((IntKind.wrap .u32 (q k 1))).toNat / 256)) (Q.S.cells Q.z0), A.facts (M.rowF 3 ad n q)] (fun _ => [(i3.1, (Q.S.cells Q.z0 ++ [.pointer (some ⟨i3.2, 0, none⟩)]))]) (fun _ => [R.It i3.2 ((Q.mV p q s k).sync (((IntKind.wrap .u32 (q k 1))).toNat / 256)), M.It m1 ((Q.mV p q s k).sync (((IntKind.wrap .u32 (q k 1))).toNat / 256)) (Q.S.cells Q.z0), A.facts (M.rowF 3 ad n q)]) (J_Sync (IntKind.wrap .u32 (q k 1)) (Q.wrap_bd _) (m := i3.2) (V := (Q.mV p q s k))) (by kernel_rfl) (A.pn [1, 0, 2, 3]) (fun _ => A.pm [1, 0, 2, 3] (by kernel_rfl) (by kernel_rfl)) (fun w _ => by kernel_rfl) (by kernel_rfl) (fun _ hd16 => ?_)
   refine E.H.back (fun w h => A.hpY (p := [A.blk i3.1 (Q.S.cells Q.z0 ++ [.pointer (some ⟨i3.2, 0, none⟩)]), A.facts (M.rowF 3 ad n q)]) (r := [R.It i3.2 ((Q.mV p q s k).sync (((IntKind.wrap .u32 (q k 1))).toNat / 256)), M.It m1 ((Q.mV p q s k).sync (((IntKind.wrap .u32 (q k 1))).toNat / 256)) (Q.S.cells Q.z0)]) h (by kernel_rfl) (A.pn [0, 3, 1, 2])) ?_
   refine E.tj 11 (.bool false) rfl (fun w h => A.hpY (p := [A.blk i3.1 (Q.S.cells Q.z0 ++ [.pointer (some ⟨i3.2, 0, none⟩)]), A.facts (M.rowF 3 ad n q)]) (r := [R.It i3.2 ((Q.mV p q s k).sync (((IntKind.wrap .u32 (q k 1))).toNat / 256)), M.It m1 ((Q.mV p q s k).sync (((IntKind.wrap .u32 (q k 1))).toNat / 256)) (Q.S.cells Q.z0)]) h (by kernel_rfl) (A.pn [0, 3, 1, 2])) (fun w h => E.run_as (a := .bool ((decide (((IntKind.wrap .u32 (q k 1))).toNat / 256 < (Q.mV p q s k).n)) != (decide (((IntKind.wrap .u32 (q k 1))).toNat / 256 < (Q.mV p q s k).n)))) (by kernel_rfl) (congrArg Value.bool (bne_self_eq_false _))) ?_
   refine E.H.done (by kernel_rfl) ?_
   refine E.To.code ?_
   refine E.C.condF (by kernel_rfl) (by kernel_rfl) ?_
   refine E.C.skip (E.P.nb (E.To.code ?_))
   refine E.C.seq ?_
   refine E.C.quiet (by kernel_rfl) (by kernel_rfl) ?_
   refine E.wo (.pointer (some ⟨m1, 0, none⟩)) ?_
   refine E.wo (.pointer (some ⟨m1, 0, none⟩)) ?_
   refine E.wo (.pointer (some ⟨m1, 0, none⟩)) ?_
   refine E.wo (.int .u32 (IntKind.wrap .u32 (q k 1))) ?_
   refine E.W.call (.int .u8 (((Q.mV p q s k).sync (((IntKind.wrap .u32 (q k 1))).toNat / 256)).peek ((IntKind.wrap .u32 (q k 1))).toNat)) (fun w h => A.call_rd [A.blk i3.1 (Q.S.cells Q.z0 ++ [.pointer (some ⟨i3.2, 0, none⟩)]), R.It i3.2 ((Q.mV p q s k).sync (((IntKind.wrap .u32 (q k 1))).toNat / 256)), A.facts (M.rowF 3 ad n q)] (I_Peek (IntKind.wrap .u32 (q k 1)) (Q.wrap_bd _) (m := m1) (V := ((Q.mV p q s k).sync (((IntKind.wrap .u32 (q k 1))).toNat / 256))) (xs := (Q.S.cells Q.z0))) h (by kernel_rfl) (A.pn [2, 0, 1, 3])) (fun w _ => by kernel_rfl) (by kernel_rfl) ?_
   refine E.wo (.pointer (some ⟨i3.1, 0, none⟩)) ?_
   refine E.wo (.pointer (some ⟨i3.1, 0, none⟩)) ?_
   refine E.wo (.pointer (some ⟨i3.1, 24, none⟩)) ?_
   refine E.wv (.pointer (some ⟨i3.2, 0, none⟩)) (fun w h => E.run_load h 0 rfl rfl (by kernel_rfl)) ?_
   refine E.wo (.int .u32 (IntKind.wrap .u32 (q k 1))) ?_
   refine E.W.call (.int .u8 (((Q.mV p q s k).sync (((IntKind.wrap .u32 (q k 1))).toNat / 256)).peek ((IntKind.wrap .u32 (q k 1))).toNat)) (fun w h => A.call_rd [A.blk i3.1 (Q.S.cells Q.z0 ++ [.pointer (some ⟨i3.2, 0, none⟩)]), M.It m1 ((Q.mV p q s k).sync (((IntKind.wrap .u32 (q k 1))).toNat / 256)) (Q.S.cells Q.z0), A.facts (M.rowF 3 ad n q)] (J_Peek (IntKind.wrap .u32 (q k 1)) (Q.wrap_bd _) (m := i3.2) (V := ((Q.mV p q s k).sync (((IntKind.wrap .u32 (q k 1))).toNat / 256)))) h (by kernel_rfl) (A.pn [1, 0, 2, 3])) (fun w _ => by kernel_rfl) (by kernel_rfl) ?_
   refine E.wv (.bool false) (fun w h => E.run_as (a := .bool ((((Q.mV p q s k).sync (((IntKind.wrap .u32 (q k 1))).toNat / 256)).peek ((IntKind.wrap .u32 (q k 1))).toNat) != (((Q.mV p q s k).sync (((IntKind.wrap .u32 (q k 1))).toNat / 256)).peek ((IntKind.wrap .u32 (q k 1))).toNat))) (by kernel_rfl) (congrArg Value.bool (bne_self_eq_false _))) ?_
   refine E.wo (.bool false) ?_
   refine E.wo (.pointer (some ⟨m1, 0, none⟩)) ?_
   refine E.wo (.pointer (some ⟨m1, 0, none⟩)) ?_
   refine E.wo (.pointer (some ⟨m1, 0, none⟩)) ?_
   refine E.wo (.int .u32 (IntKind.wrap .u32 (q k 1))) ?_
   refine E.W.call (.int .u8 (((Q.mV p q s k).sync (((IntKind.wrap .u32 (q k 1))).toNat / 256)).code ((IntKind.wrap .u32 (q k 1))).toNat)) (fun w h => A.call_rd [A.blk i3.1 (Q.S.cells Q.z0 ++ [.pointer (some ⟨i3.2, 0, none⟩)]), R.It i3.2 ((Q.mV p q s k).sync (((IntKind.wrap .u32 (q k 1))).toNat / 256)), A.facts (M.rowF 3 ad n q)] (I_Code (IntKind.wrap .u32 (q k 1)) (Q.wrap_bd _) (m := m1) (V := ((Q.mV p q s k).sync (((IntKind.wrap .u32 (q k 1))).toNat / 256))) (xs := (Q.S.cells Q.z0))) h (by kernel_rfl) (A.pn [2, 0, 1, 3])) (fun w _ => by kernel_rfl) (by kernel_rfl) ?_
   refine E.wo (.pointer (some ⟨i3.1, 0, none⟩)) ?_
   refine E.wo (.pointer (some ⟨i3.1, 0, none⟩)) ?_
   refine E.wo (.pointer (some ⟨i3.1, 24, none⟩)) ?_
   refine E.wv (.pointer (some ⟨i3.2, 0, none⟩)) (fun w h => E.run_load h 0 rfl rfl (by kernel_rfl)) ?_
   refine E.wo (.int .u32 (IntKind.wrap .u32 (q k 1))) ?_
   refine E.W.call (.int .u8 (((Q.mV p q s k).sync (((IntKind.wrap .u32 (q k 1))).toNat / 256)).code ((IntKind.wrap .u32 (q k 1))).toNat)) (fun w h => A.call_rd [A.blk i3.1 (Q.S.cells Q.z0 ++ [.pointer (some ⟨i3.2, 0, none⟩)]), M.It m1 ((Q.mV p q s k).sync (((IntKind.wrap .u32 (q k 1))).toNat / 256)) (Q.S.cells Q.z0), A.facts (M.rowF 3 ad n q)] (J_Code (IntKind.wrap .u32 (q k 1)) (Q.wrap_bd _) (m := i3.2) (V := ((Q.mV p q s k).sync (((IntKind.wrap .u32 (q k 1))).toNat / 256)))) h (by kernel_rfl) (A.pn [1, 0, 2, 3])) (fun w _ => by kernel_rfl) (by kernel_rfl) ?_
   refine E.wv (.bool false) (fun w h => E.run_as (a := .bool ((((Q.mV p q s k).sync (((IntKind.wrap .u32 (q k 1))).toNat / 256)).code ((IntKind.wrap .u32 (q k 1))).toNat) != (((Q.mV p q s k).sync (((IntKind.wrap .u32 (q k 1))).toNat / 256)).code ((IntKind.wrap .u32 (q k 1))).toNat))) (by kernel_rfl) (congrArg Value.bool (bne_self_eq_false _))) ?_
   refine E.wo (.bool false) ?_
   refine E.wo (.bool false) ?_
   refine E.wo (.pointer (some ⟨m1, 0, none⟩)) ?_
   refine E.wo (.pointer (some ⟨m1, 0, none⟩)) ?_
   refine E.wo (.pointer (some ⟨m1, 0, none⟩)) ?_
   refine E.wo (.slice ao n cap) ?_
   refine E.wo (.int .i64 ((k : Nat) : Int)) ?_
   refine E.wv (.pointer (some (ad.add (k * 3)))) (fun w h => A.idxR (e := 75) ad ao n cap 3 .i64 k hao (by kernel_rfl) (by kernel_rfl) (by kernel_rfl) (by kernel_rfl) (by (first | assumption | ((try simp only [Bool.or_eq_false_iff, Bool.or_eq_true, Bool.and_eq_true, Bool.and_eq_false_iff, Bool.not_eq_eq_eq_not, Bool.not_true, Bool.not_false, decide_eq_true_eq, decide_eq_false_iff_not, ge_iff_le, gt_iff_lt] at *); omega))) w) ?_
   refine E.wo (.pointer (some ((ad.add (k * 3)).add 1))) ?_
   refine E.wv (.int .i64 (q k 1)) (fun w h => A.loadRI (n := n) (i := k) (j := 1) (q := q) (A.X.y h.x) (k := 2) rfl (by kernel_rfl) (by kernel_rfl) (by (first | assumption | ((try simp only [Bool.or_eq_false_iff, Bool.or_eq_true, Bool.and_eq_true, Bool.and_eq_false_iff, Bool.not_eq_eq_eq_not, Bool.not_true, Bool.not_false, decide_eq_true_eq, decide_eq_false_iff_not, ge_iff_le, gt_iff_lt] at *); omega))) (by decide)) ?_
   refine E.W.call (.int .i64 (((Q.mV p q s k).sync (((IntKind.wrap .u32 (q k 1))).toNat / 256)).rt (q k 1))) (fun w h => A.call_rd [A.blk i3.1 (Q.S.cells Q.z0 ++ [.pointer (some ⟨i3.2, 0, none⟩)]), R.It i3.2 ((Q.mV p q s k).sync (((IntKind.wrap .u32 (q k 1))).toNat / 256)), A.facts (M.rowF 3 ad n q)] (A_Rights (q k 1) (m := m1) (V := ((Q.mV p q s k).sync (((IntKind.wrap .u32 (q k 1))).toNat / 256))) (xs := (Q.S.cells Q.z0))) h (by kernel_rfl) (A.pn [2, 0, 1, 3])) (fun w _ => by kernel_rfl) (by kernel_rfl) ?_
   refine E.wo (.pointer (some ⟨i3.1, 0, none⟩)) ?_
   refine E.wo (.pointer (some ⟨i3.1, 0, none⟩)) ?_
   refine E.wo (.pointer (some ⟨i3.1, 24, none⟩)) ?_
   refine E.wv (.pointer (some ⟨i3.2, 0, none⟩)) (fun w h => E.run_load h 0 rfl rfl (by kernel_rfl)) ?_
   refine E.wo (.slice ao n cap) ?_
   refine E.wo (.int .i64 ((k : Nat) : Int)) ?_
   refine E.wv (.pointer (some (ad.add (k * 3)))) (fun w h => A.idxR (e := 75) ad ao n cap 3 .i64 k hao (by kernel_rfl) (by kernel_rfl) (by kernel_rfl) (by kernel_rfl) (by (first | assumption | ((try simp only [Bool.or_eq_false_iff, Bool.or_eq_true, Bool.and_eq_true, Bool.and_eq_false_iff, Bool.not_eq_eq_eq_not, Bool.not_true, Bool.not_false, decide_eq_true_eq, decide_eq_false_iff_not, ge_iff_le, gt_iff_lt] at *); omega))) w) ?_
   refine E.wo (.pointer (some ((ad.add (k * 3)).add 1))) ?_
   refine E.wv (.int .i64 (q k 1)) (fun w h => A.loadRI (n := n) (i := k) (j := 1) (q := q) (A.X.y h.x) (k := 2) rfl (by kernel_rfl) (by kernel_rfl) (by (first | assumption | ((try simp only [Bool.or_eq_false_iff, Bool.or_eq_true, Bool.and_eq_true, Bool.and_eq_false_iff, Bool.not_eq_eq_eq_not, Bool.not_true, Bool.not_false, decide_eq_true_eq, decide_eq_false_iff_not, ge_iff_le, gt_iff_lt] at *); omega))) (by decide)) ?_
   refine E.W.call (.int .i64 (((Q.mV p q s k).sync (((IntKind.wrap .u32 (q k 1))).toNat / 256)).rt (q k 1))) (fun w h => A.call_rd [A.blk i3.1 (Q.S.cells Q.z0 ++ [.pointer (some ⟨i3.2, 0, none⟩)]), M.It m1 ((Q.mV p q s k).sync (((IntKind.wrap .u32 (q k 1))).toNat / 256)) (Q.S.cells Q.z0), A.facts (M.rowF 3 ad n q)] (B_RightsOf (q k 1) (r := i3.2) (V := ((Q.mV p q s k).sync (((IntKind.wrap .u32 (q k 1))).toNat / 256)))) h (by kernel_rfl) (A.pn [1, 0, 2, 3])) (fun w _ => by kernel_rfl) (by kernel_rfl) ?_
   refine E.wv (.bool false) (fun w h => E.run_as (a := .bool ((((Q.mV p q s k).sync (((IntKind.wrap .u32 (q k 1))).toNat / 256)).rt (q k 1)) != (((Q.mV p q s k).sync (((IntKind.wrap .u32 (q k 1))).toNat / 256)).rt (q k 1)))) (by kernel_rfl) (congrArg Value.bool (bne_self_eq_false _))) ?_
   refine E.wo (.bool false) ?_
   refine E.W.done (E.To.code ?_)
   refine E.C.condF (by kernel_rfl) (by kernel_rfl) ?_
   refine E.C.skip (E.P.nb (E.To.code ?_))
   refine A.C.eq ([R.It i3.2 (Q.mV p q s (k + 1)), M.It m1 (Q.mV p q s (k + 1)) (Q.S.cells Q.z0), A.facts (M.rowF 3 ad n q)]) (by rw [Q.mo2 (by assumption) (by assumption) (by assumption)]) ?_
   refine E.C.region ?_
   refine E.op (.int .i64 ((k : Nat) : Int)) ?_
   refine E.vl (.int .i64 ((k + 1 : Nat) : Int)) (fun w h => E.run_as (a := .int .i64 (IntKind.wrap .i64 (((k : Nat) : Int) + 1))) (by kernel_rfl) (congrArg (Value.int .i64) (Q.m37 hk1.2))) ?_
   refine E.op (.int .i64 ((k + 1 : Nat) : Int)) ?_
   exact E.To.round (k + 1) (by (first | assumption | ((try simp only [Bool.or_eq_false_iff, Bool.or_eq_true, Bool.and_eq_true, Bool.and_eq_false_iff, Bool.not_eq_eq_eq_not, Bool.not_true, Bool.not_false, decide_eq_true_eq, decide_eq_false_iff_not, ge_iff_le, gt_iff_lt] at *); omega))) ((by (first | assumption | ((try simp only [Bool.or_eq_false_iff, Bool.or_eq_true, Bool.and_eq_true, Bool.and_eq_false_iff, Bool.not_eq_eq_eq_not, Bool.not_true, Bool.not_false, decide_eq_true_eq, decide_eq_false_iff_not, ge_iff_le, gt_iff_lt] at *); omega)))) ⟨by kernel_rfl, by kernel_rfl⟩ (List.Sublist.refl _) (fun _ h => h)
  refine E.sr ?_
  refine E.op (.bool (((q k 0) % 4) == 3)) ?_
  refine E.op (.bool (((q k 0) % 4) == 3)) ?_
  refine E.To.code ?_
  refine E.cd (((q k 0) % 4) == 3) (fun hc17 => ?_) (fun hc17 => ?_)
  ·
   refine E.C.seq ?_
   refine E.C.held (A.Y [A.blk i3.1 (Q.S.cells Q.z0 ++ [.pointer (some ⟨i3.2, 0, none⟩)]), A.facts (M.rowF 3 ad n q)]) (by kernel_rfl) ?_
   refine E.tk 0 (.pointer (some ⟨m1, 0, none⟩)) rfl (fun w h => A.hpY (p := [A.blk i3.1 (Q.S.cells Q.z0 ++ [.pointer (some ⟨i3.2, 0, none⟩)]), A.facts (M.rowF 3 ad n q)]) (r := [R.It i3.2 (Q.mV p q s k), M.It m1 (Q.mV p q s k) (Q.S.cells Q.z0)]) h (by kernel_rfl) (A.pn [0, 3, 1, 2])) ?_
   refine E.tk 1 (.pointer (some ⟨m1, 0, none⟩)) rfl (fun w h => A.hpY (p := [A.blk i3.1 (Q.S.cells Q.z0 ++ [.pointer (some ⟨i3.2, 0, none⟩)]), A.facts (M.rowF 3 ad n q)]) (r := [R.It i3.2 (Q.mV p q s k), M.It m1 (Q.mV p q s k) (Q.S.cells Q.z0)]) h (by kernel_rfl) (A.pn [0, 3, 1, 2])) ?_
   refine E.tk 2 (.pointer (some ⟨m1, 0, none⟩)) rfl (fun w h => A.hpY (p := [A.blk i3.1 (Q.S.cells Q.z0 ++ [.pointer (some ⟨i3.2, 0, none⟩)]), A.facts (M.rowF 3 ad n q)]) (r := [R.It i3.2 (Q.mV p q s k), M.It m1 (Q.mV p q s k) (Q.S.cells Q.z0)]) h (by kernel_rfl) (A.pn [0, 3, 1, 2])) ?_
   refine E.tk 3 (.slice ao n cap) rfl (fun w h => A.hpY (p := [A.blk i3.1 (Q.S.cells Q.z0 ++ [.pointer (some ⟨i3.2, 0, none⟩)]), A.facts (M.rowF 3 ad n q)]) (r := [R.It i3.2 (Q.mV p q s k), M.It m1 (Q.mV p q s k) (Q.S.cells Q.z0)]) h (by kernel_rfl) (A.pn [0, 3, 1, 2])) ?_
   refine E.tk 4 (.int .i64 ((k : Nat) : Int)) rfl (fun w h => A.hpY (p := [A.blk i3.1 (Q.S.cells Q.z0 ++ [.pointer (some ⟨i3.2, 0, none⟩)]), A.facts (M.rowF 3 ad n q)]) (r := [R.It i3.2 (Q.mV p q s k), M.It m1 (Q.mV p q s k) (Q.S.cells Q.z0)]) h (by kernel_rfl) (A.pn [0, 3, 1, 2])) ?_
   refine E.tj 5 (.pointer (some (ad.add (k * 3)))) rfl (fun w h => A.hpY (p := [A.blk i3.1 (Q.S.cells Q.z0 ++ [.pointer (some ⟨i3.2, 0, none⟩)]), A.facts (M.rowF 3 ad n q)]) (r := [R.It i3.2 (Q.mV p q s k), M.It m1 (Q.mV p q s k) (Q.S.cells Q.z0)]) h (by kernel_rfl) (A.pn [0, 3, 1, 2])) (fun w h => A.idxR (e := 75) ad ao n cap 3 .i64 k hao (by kernel_rfl) (by kernel_rfl) (by kernel_rfl) (by kernel_rfl) (by (first | assumption | ((try simp only [Bool.or_eq_false_iff, Bool.or_eq_true, Bool.and_eq_true, Bool.and_eq_false_iff, Bool.not_eq_eq_eq_not, Bool.not_true, Bool.not_false, decide_eq_true_eq, decide_eq_false_iff_not, ge_iff_le, gt_iff_lt] at *); omega))) w) ?_
   refine E.tk 6 (.pointer (some ((ad.add (k * 3)).add 1))) rfl (fun w h => A.hpY (p := [A.blk i3.1 (Q.S.cells Q.z0 ++ [.pointer (some ⟨i3.2, 0, none⟩)]), A.facts (M.rowF 3 ad n q)]) (r := [R.It i3.2 (Q.mV p q s k), M.It m1 (Q.mV p q s k) (Q.S.cells Q.z0)]) h (by kernel_rfl) (A.pn [0, 3, 1, 2])) ?_
   refine E.tj 7 (.int .i64 (q k 1)) rfl (fun w h => A.hpY (p := [A.blk i3.1 (Q.S.cells Q.z0 ++ [.pointer (some ⟨i3.2, 0, none⟩)]), A.facts (M.rowF 3 ad n q)]) (r := [R.It i3.2 (Q.mV p q s k), M.It m1 (Q.mV p q s k) (Q.S.cells Q.z0)]) h (by kernel_rfl) (A.pn [0, 3, 1, 2])) (fun w h => A.loadRI (n := n) (i := k) (j := 1) (q := q) h (k := 1) rfl (by kernel_rfl) (by kernel_rfl) (by (first | assumption | ((try simp only [Bool.or_eq_false_iff, Bool.or_eq_true, Bool.and_eq_true, Bool.and_eq_false_iff, Bool.not_eq_eq_eq_not, Bool.not_true, Bool.not_false, decide_eq_true_eq, decide_eq_false_iff_not, ge_iff_le, gt_iff_lt] at *); omega))) (by decide)) ?_
   refine E.tk 8 (.slice ao n cap) rfl (fun w h => A.hpY (p := [A.blk i3.1 (Q.S.cells Q.z0 ++ [.pointer (some ⟨i3.2, 0, none⟩)]), A.facts (M.rowF 3 ad n q)]) (r := [R.It i3.2 (Q.mV p q s k), M.It m1 (Q.mV p q s k) (Q.S.cells Q.z0)]) h (by kernel_rfl) (A.pn [0, 3, 1, 2])) ?_
   refine E.tk 9 (.int .i64 ((k : Nat) : Int)) rfl (fun w h => A.hpY (p := [A.blk i3.1 (Q.S.cells Q.z0 ++ [.pointer (some ⟨i3.2, 0, none⟩)]), A.facts (M.rowF 3 ad n q)]) (r := [R.It i3.2 (Q.mV p q s k), M.It m1 (Q.mV p q s k) (Q.S.cells Q.z0)]) h (by kernel_rfl) (A.pn [0, 3, 1, 2])) ?_
   refine E.tj 10 (.pointer (some (ad.add (k * 3)))) rfl (fun w h => A.hpY (p := [A.blk i3.1 (Q.S.cells Q.z0 ++ [.pointer (some ⟨i3.2, 0, none⟩)]), A.facts (M.rowF 3 ad n q)]) (r := [R.It i3.2 (Q.mV p q s k), M.It m1 (Q.mV p q s k) (Q.S.cells Q.z0)]) h (by kernel_rfl) (A.pn [0, 3, 1, 2])) (fun w h => A.idxR (e := 75) ad ao n cap 3 .i64 k hao (by kernel_rfl) (by kernel_rfl) (by kernel_rfl) (by kernel_rfl) (by (first | assumption | ((try simp only [Bool.or_eq_false_iff, Bool.or_eq_true, Bool.and_eq_true, Bool.and_eq_false_iff, Bool.not_eq_eq_eq_not, Bool.not_true, Bool.not_false, decide_eq_true_eq, decide_eq_false_iff_not, ge_iff_le, gt_iff_lt] at *); omega))) w) ?_
   refine E.tk 11 (.pointer (some ((ad.add (k * 3)).add 2))) rfl (fun w h => A.hpY (p := [A.blk i3.1 (Q.S.cells Q.z0 ++ [.pointer (some ⟨i3.2, 0, none⟩)]), A.facts (M.rowF 3 ad n q)]) (r := [R.It i3.2 (Q.mV p q s k), M.It m1 (Q.mV p q s k) (Q.S.cells Q.z0)]) h (by kernel_rfl) (A.pn [0, 3, 1, 2])) ?_
   refine E.tj 12 (.int .i64 (q k 2)) rfl (fun w h => A.hpY (p := [A.blk i3.1 (Q.S.cells Q.z0 ++ [.pointer (some ⟨i3.2, 0, none⟩)]), A.facts (M.rowF 3 ad n q)]) (r := [R.It i3.2 (Q.mV p q s k), M.It m1 (Q.mV p q s k) (Q.S.cells Q.z0)]) h (by kernel_rfl) (A.pn [0, 3, 1, 2])) (fun w h => A.loadRI (n := n) (i := k) (j := 2) (q := q) h (k := 1) rfl (by kernel_rfl) (by kernel_rfl) (by (first | assumption | ((try simp only [Bool.or_eq_false_iff, Bool.or_eq_true, Bool.and_eq_true, Bool.and_eq_false_iff, Bool.not_eq_eq_eq_not, Bool.not_true, Bool.not_false, decide_eq_true_eq, decide_eq_false_iff_not, ge_iff_le, gt_iff_lt] at *); omega))) (by decide)) ?_
   refine E.al 13 rfl ?_
   refine A.G.call (I := Unit) (D := fun _ => True) (V := fun _ => .tuple #[]) (q := fun _ => [M.It m1 ((Q.mV p q s k).prot (q k 1) (q k 2)) (Q.S.cells Q.z0)]) [A.blk i3.1 (Q.S.cells Q.z0 ++ [.pointer (some ⟨i3.2, 0, none⟩)]), R.It i3.2 (Q.mV p q s k), A.facts (M.rowF 3 ad n q)] (fun _ => [(i3.1, (Q.S.cells Q.z0 ++ [.pointer (some ⟨i3.2, 0, none⟩)]))]) (fun _ => [R.It i3.2 (Q.mV p q s k), M.It m1 ((Q.mV p q s k).prot (q k 1) (q k 2)) (Q.S.cells Q.z0), A.facts (M.rowF 3 ad n q)]) (A_Protect (q k 1) (q k 2) (m := m1) (V := (Q.mV p q s k)) (xs := (Q.S.cells Q.z0))) (by kernel_rfl) (A.pn [2, 0, 1, 3]) (fun _ => A.pm [1, 2, 0, 3] (by kernel_rfl) (by kernel_rfl)) (fun w _ => by kernel_rfl) (by kernel_rfl) (fun _ hd18 => ?_)
   refine E.H.back (fun w h => A.hpY (p := [A.blk i3.1 (Q.S.cells Q.z0 ++ [.pointer (some ⟨i3.2, 0, none⟩)]), A.facts (M.rowF 3 ad n q)]) (r := [R.It i3.2 (Q.mV p q s k), M.It m1 ((Q.mV p q s k).prot (q k 1) (q k 2)) (Q.S.cells Q.z0)]) h (by kernel_rfl) (A.pn [0, 3, 1, 2])) ?_
   refine E.H.done (by kernel_rfl) ?_
   refine E.To.code ?_
   refine E.C.held (A.Y [A.blk i3.1 (Q.S.cells Q.z0 ++ [.pointer (some ⟨i3.2, 0, none⟩)]), A.facts (M.rowF 3 ad n q)]) (by kernel_rfl) ?_
   refine E.tk 0 (.pointer (some ⟨i3.1, 0, none⟩)) rfl (fun w h => A.hpY (p := [A.blk i3.1 (Q.S.cells Q.z0 ++ [.pointer (some ⟨i3.2, 0, none⟩)]), A.facts (M.rowF 3 ad n q)]) (r := [R.It i3.2 (Q.mV p q s k), M.It m1 ((Q.mV p q s k).prot (q k 1) (q k 2)) (Q.S.cells Q.z0)]) h (by kernel_rfl) (A.pn [0, 3, 1, 2])) ?_
   refine E.tk 1 (.pointer (some ⟨i3.1, 0, none⟩)) rfl (fun w h => A.hpY (p := [A.blk i3.1 (Q.S.cells Q.z0 ++ [.pointer (some ⟨i3.2, 0, none⟩)]), A.facts (M.rowF 3 ad n q)]) (r := [R.It i3.2 (Q.mV p q s k), M.It m1 ((Q.mV p q s k).prot (q k 1) (q k 2)) (Q.S.cells Q.z0)]) h (by kernel_rfl) (A.pn [0, 3, 1, 2])) ?_
   refine E.tk 2 (.pointer (some ⟨i3.1, 24, none⟩)) rfl (fun w h => A.hpY (p := [A.blk i3.1 (Q.S.cells Q.z0 ++ [.pointer (some ⟨i3.2, 0, none⟩)]), A.facts (M.rowF 3 ad n q)]) (r := [R.It i3.2 (Q.mV p q s k), M.It m1 ((Q.mV p q s k).prot (q k 1) (q k 2)) (Q.S.cells Q.z0)]) h (by kernel_rfl) (A.pn [0, 3, 1, 2])) ?_
   refine E.tj 3 (.pointer (some ⟨i3.2, 0, none⟩)) rfl (fun w h => A.hpY (p := [A.blk i3.1 (Q.S.cells Q.z0 ++ [.pointer (some ⟨i3.2, 0, none⟩)]), A.facts (M.rowF 3 ad n q)]) (r := [R.It i3.2 (Q.mV p q s k), M.It m1 ((Q.mV p q s k).prot (q k 1) (q k 2)) (Q.S.cells Q.z0)]) h (by kernel_rfl) (A.pn [0, 3, 1, 2])) (fun w h => A.Y.bld h (k := 0) (j := 24) rfl (by kernel_rfl) (by kernel_rfl)) ?_
   refine E.tk 4 (.slice ao n cap) rfl (fun w h => A.hpY (p := [A.blk i3.1 (Q.S.cells Q.z0 ++ [.pointer (some ⟨i3.2, 0, none⟩)]), A.facts (M.rowF 3 ad n q)]) (r := [R.It i3.2 (Q.mV p q s k), M.It m1 ((Q.mV p q s k).prot (q k 1) (q k 2)) (Q.S.cells Q.z0)]) h (by kernel_rfl) (A.pn [0, 3, 1, 2])) ?_
   refine E.tk 5 (.int .i64 ((k : Nat) : Int)) rfl (fun w h => A.hpY (p := [A.blk i3.1 (Q.S.cells Q.z0 ++ [.pointer (some ⟨i3.2, 0, none⟩)]), A.facts (M.rowF 3 ad n q)]) (r := [R.It i3.2 (Q.mV p q s k), M.It m1 ((Q.mV p q s k).prot (q k 1) (q k 2)) (Q.S.cells Q.z0)]) h (by kernel_rfl) (A.pn [0, 3, 1, 2])) ?_
   refine E.tj 6 (.pointer (some (ad.add (k * 3)))) rfl (fun w h => A.hpY (p := [A.blk i3.1 (Q.S.cells Q.z0 ++ [.pointer (some ⟨i3.2, 0, none⟩)]), A.facts (M.rowF 3 ad n q)]) (r := [R.It i3.2 (Q.mV p q s k), M.It m1 ((Q.mV p q s k).prot (q k 1) (q k 2)) (Q.S.cells Q.z0)]) h (by kernel_rfl) (A.pn [0, 3, 1, 2])) (fun w h => A.idxR (e := 75) ad ao n cap 3 .i64 k hao (by kernel_rfl) (by kernel_rfl) (by kernel_rfl) (by kernel_rfl) (by (first | assumption | ((try simp only [Bool.or_eq_false_iff, Bool.or_eq_true, Bool.and_eq_true, Bool.and_eq_false_iff, Bool.not_eq_eq_eq_not, Bool.not_true, Bool.not_false, decide_eq_true_eq, decide_eq_false_iff_not, ge_iff_le, gt_iff_lt] at *); omega))) w) ?_
   refine E.tk 7 (.pointer (some ((ad.add (k * 3)).add 1))) rfl (fun w h => A.hpY (p := [A.blk i3.1 (Q.S.cells Q.z0 ++ [.pointer (some ⟨i3.2, 0, none⟩)]), A.facts (M.rowF 3 ad n q)]) (r := [R.It i3.2 (Q.mV p q s k), M.It m1 ((Q.mV p q s k).prot (q k 1) (q k 2)) (Q.S.cells Q.z0)]) h (by kernel_rfl) (A.pn [0, 3, 1, 2])) ?_
   refine E.tj 8 (.int .i64 (q k 1)) rfl (fun w h => A.hpY (p := [A.blk i3.1 (Q.S.cells Q.z0 ++ [.pointer (some ⟨i3.2, 0, none⟩)]), A.facts (M.rowF 3 ad n q)]) (r := [R.It i3.2 (Q.mV p q s k), M.It m1 ((Q.mV p q s k).prot (q k 1) (q k 2)) (Q.S.cells Q.z0)]) h (by kernel_rfl) (A.pn [0, 3, 1, 2])) (fun w h => A.loadRI (n := n) (i := k) (j := 1) (q := q) h (k := 1) rfl (by kernel_rfl) (by kernel_rfl) (by (first | assumption | ((try simp only [Bool.or_eq_false_iff, Bool.or_eq_true, Bool.and_eq_true, Bool.and_eq_false_iff, Bool.not_eq_eq_eq_not, Bool.not_true, Bool.not_false, decide_eq_true_eq, decide_eq_false_iff_not, ge_iff_le, gt_iff_lt] at *); omega))) (by decide)) ?_
   refine E.tk 9 (.slice ao n cap) rfl (fun w h => A.hpY (p := [A.blk i3.1 (Q.S.cells Q.z0 ++ [.pointer (some ⟨i3.2, 0, none⟩)]), A.facts (M.rowF 3 ad n q)]) (r := [R.It i3.2 (Q.mV p q s k), M.It m1 ((Q.mV p q s k).prot (q k 1) (q k 2)) (Q.S.cells Q.z0)]) h (by kernel_rfl) (A.pn [0, 3, 1, 2])) ?_
   refine E.tk 10 (.int .i64 ((k : Nat) : Int)) rfl (fun w h => A.hpY (p := [A.blk i3.1 (Q.S.cells Q.z0 ++ [.pointer (some ⟨i3.2, 0, none⟩)]), A.facts (M.rowF 3 ad n q)]) (r := [R.It i3.2 (Q.mV p q s k), M.It m1 ((Q.mV p q s k).prot (q k 1) (q k 2)) (Q.S.cells Q.z0)]) h (by kernel_rfl) (A.pn [0, 3, 1, 2])) ?_
   refine E.tj 11 (.pointer (some (ad.add (k * 3)))) rfl (fun w h => A.hpY (p := [A.blk i3.1 (Q.S.cells Q.z0 ++ [.pointer (some ⟨i3.2, 0, none⟩)]), A.facts (M.rowF 3 ad n q)]) (r := [R.It i3.2 (Q.mV p q s k), M.It m1 ((Q.mV p q s k).prot (q k 1) (q k 2)) (Q.S.cells Q.z0)]) h (by kernel_rfl) (A.pn [0, 3, 1, 2])) (fun w h => A.idxR (e := 75) ad ao n cap 3 .i64 k hao (by kernel_rfl) (by kernel_rfl) (by kernel_rfl) (by kernel_rfl) (by (first | assumption | ((try simp only [Bool.or_eq_false_iff, Bool.or_eq_true, Bool.and_eq_true, Bool.and_eq_false_iff, Bool.not_eq_eq_eq_not, Bool.not_true, Bool.not_false, decide_eq_true_eq, decide_eq_false_iff_not, ge_iff_le, gt_iff_lt] at *); omega))) w) ?_
   refine E.tk 12 (.pointer (some ((ad.add (k * 3)).add 2))) rfl (fun w h => A.hpY (p := [A.blk i3.1 (Q.S.cells Q.z0 ++ [.pointer (some ⟨i3.2, 0, none⟩)]), A.facts (M.rowF 3 ad n q)]) (r := [R.It i3.2 (Q.mV p q s k), M.It m1 ((Q.mV p q s k).prot (q k 1) (q k 2)) (Q.S.cells Q.z0)]) h (by kernel_rfl) (A.pn [0, 3, 1, 2])) ?_
   refine E.tj 13 (.int .i64 (q k 2)) rfl (fun w h => A.hpY (p := [A.blk i3.1 (Q.S.cells Q.z0 ++ [.pointer (some ⟨i3.2, 0, none⟩)]), A.facts (M.rowF 3 ad n q)]) (r := [R.It i3.2 (Q.mV p q s k), M.It m1 ((Q.mV p q s k).prot (q k 1) (q k 2)) (Q.S.cells Q.z0)]) h (by kernel_rfl) (A.pn [0, 3, 1, 2])) (fun w h => A.loadRI (n := n) (i := k) (j := 2) (q := q) h (k := 1) rfl (by kernel_rfl) (by kernel_rfl) (by (first | assumption | ((try simp only [Bool.or_eq_false_iff, Bool.or_eq_true, Bool.and_eq_true, Bool.and_eq_false_iff, Bool.not_eq_eq_eq_not, Bool.not_true, Bool.not_false, decide_eq_true_eq, decide_eq_false_iff_not, ge_iff_le, gt_iff_lt] at *); omega))) (by decide)) ?_
   refine E.al 14 rfl ?_
   refine A.G.call (I := Unit) (D := fun _ => True) (V := fun _ => .tuple #[]) (q := fun _ => [R.It i3.2 ((Q.mV p q s k).prot (q k 1) (q k 2))]) [A.blk i3.1 (Q.S.cells Q.z0 ++ [.pointer (some ⟨i3.2, 0, none⟩)]), M.It m1 ((Q.mV p q s k).prot (q k 1) (q k 2)) (Q.S.cells Q.z0), A.facts (M.rowF 3 ad n q)] (fun _ => [(i3.1, (Q.S.cells Q.z0 ++ [.pointer (some ⟨i3.2, 0, none⟩)]))]) (fun _ => [R.It i3.2 ((Q.mV p q s k).prot (q k 1) (q k 2)), M.It m1 ((Q.mV p q s k).prot (q k 1) (q k 2)) (Q.S.cells Q.z0), A.facts (M.rowF 3 ad n q)]) (B_Protect (q k 1) (q k 2) (r := i3.2) (V := (Q.mV p q s k))) (by kernel_rfl) (A.pn [1, 0, 2, 3]) (fun _ => A.pm [1, 0, 2, 3] (by kernel_rfl) (by kernel_rfl)) (fun w _ => by kernel_rfl) (by kernel_rfl) (fun _ hd19 => ?_)
   refine E.H.back (fun w h => A.hpY (p := [A.blk i3.1 (Q.S.cells Q.z0 ++ [.pointer (some ⟨i3.2, 0, none⟩)]), A.facts (M.rowF 3 ad n q)]) (r := [R.It i3.2 ((Q.mV p q s k).prot (q k 1) (q k 2)), M.It m1 ((Q.mV p q s k).prot (q k 1) (q k 2)) (Q.S.cells Q.z0)]) h (by kernel_rfl) (A.pn [0, 3, 1, 2])) ?_
   refine E.H.done (by kernel_rfl) ?_
   refine E.P.nb (E.To.code ?_)
   refine E.C.seq ?_
   refine E.C.quiet (by kernel_rfl) (by kernel_rfl) ?_
   refine E.wo (.pointer (some ⟨m1, 0, none⟩)) ?_
   refine E.wo (.pointer (some ⟨m1, 0, none⟩)) ?_
   refine E.wo (.pointer (some ⟨m1, 0, none⟩)) ?_
   refine E.wo (.int .u32 (IntKind.wrap .u32 (q k 1))) ?_
   refine E.W.call (.int .u8 (((Q.mV p q s k).prot (q k 1) (q k 2)).peek ((IntKind.wrap .u32 (q k 1))).toNat)) (fun w h => A.call_rd [A.blk i3.1 (Q.S.cells Q.z0 ++ [.pointer (some ⟨i3.2, 0, none⟩)]), R.It i3.2 ((Q.mV p q s k).prot (q k 1) (q k 2)), A.facts (M.rowF 3 ad n q)] (I_Peek (IntKind.wrap .u32 (q k 1)) (Q.wrap_bd _) (m := m1) (V := ((Q.mV p q s k).prot (q k 1) (q k 2))) (xs := (Q.S.cells Q.z0))) h (by kernel_rfl) (A.pn [2, 0, 1, 3])) (fun w _ => by kernel_rfl) (by kernel_rfl) ?_
   refine E.wo (.pointer (some ⟨i3.1, 0, none⟩)) ?_
   refine E.wo (.pointer (some ⟨i3.1, 0, none⟩)) ?_
   refine E.wo (.pointer (some ⟨i3.1, 24, none⟩)) ?_
   refine E.wv (.pointer (some ⟨i3.2, 0, none⟩)) (fun w h => E.run_load h 0 rfl rfl (by kernel_rfl)) ?_
   refine E.wo (.int .u32 (IntKind.wrap .u32 (q k 1))) ?_
   refine E.W.call (.int .u8 (((Q.mV p q s k).prot (q k 1) (q k 2)).peek ((IntKind.wrap .u32 (q k 1))).toNat)) (fun w h => A.call_rd [A.blk i3.1 (Q.S.cells Q.z0 ++ [.pointer (some ⟨i3.2, 0, none⟩)]), M.It m1 ((Q.mV p q s k).prot (q k 1) (q k 2)) (Q.S.cells Q.z0), A.facts (M.rowF 3 ad n q)] (J_Peek (IntKind.wrap .u32 (q k 1)) (Q.wrap_bd _) (m := i3.2) (V := ((Q.mV p q s k).prot (q k 1) (q k 2)))) h (by kernel_rfl) (A.pn [1, 0, 2, 3])) (fun w _ => by kernel_rfl) (by kernel_rfl) ?_
   refine E.wv (.bool false) (fun w h => E.run_as (a := .bool ((((Q.mV p q s k).prot (q k 1) (q k 2)).peek ((IntKind.wrap .u32 (q k 1))).toNat) != (((Q.mV p q s k).prot (q k 1) (q k 2)).peek ((IntKind.wrap .u32 (q k 1))).toNat))) (by kernel_rfl) (congrArg Value.bool (bne_self_eq_false _))) ?_
   refine E.wo (.bool false) ?_
   refine E.wo (.pointer (some ⟨m1, 0, none⟩)) ?_
   refine E.wo (.pointer (some ⟨m1, 0, none⟩)) ?_
   refine E.wo (.pointer (some ⟨m1, 0, none⟩)) ?_
   refine E.wo (.int .u32 (IntKind.wrap .u32 (q k 1))) ?_
   refine E.W.call (.int .u8 (((Q.mV p q s k).prot (q k 1) (q k 2)).code ((IntKind.wrap .u32 (q k 1))).toNat)) (fun w h => A.call_rd [A.blk i3.1 (Q.S.cells Q.z0 ++ [.pointer (some ⟨i3.2, 0, none⟩)]), R.It i3.2 ((Q.mV p q s k).prot (q k 1) (q k 2)), A.facts (M.rowF 3 ad n q)] (I_Code (IntKind.wrap .u32 (q k 1)) (Q.wrap_bd _) (m := m1) (V := ((Q.mV p q s k).prot (q k 1) (q k 2))) (xs := (Q.S.cells Q.z0))) h (by kernel_rfl) (A.pn [2, 0, 1, 3])) (fun w _ => by kernel_rfl) (by kernel_rfl) ?_
   refine E.wo (.pointer (some ⟨i3.1, 0, none⟩)) ?_
   refine E.wo (.pointer (some ⟨i3.1, 0, none⟩)) ?_
   refine E.wo (.pointer (some ⟨i3.1, 24, none⟩)) ?_
   refine E.wv (.pointer (some ⟨i3.2, 0, none⟩)) (fun w h => E.run_load h 0 rfl rfl (by kernel_rfl)) ?_
   refine E.wo (.int .u32 (IntKind.wrap .u32 (q k 1))) ?_
   refine E.W.call (.int .u8 (((Q.mV p q s k).prot (q k 1) (q k 2)).code ((IntKind.wrap .u32 (q k 1))).toNat)) (fun w h => A.call_rd [A.blk i3.1 (Q.S.cells Q.z0 ++ [.pointer (some ⟨i3.2, 0, none⟩)]), M.It m1 ((Q.mV p q s k).prot (q k 1) (q k 2)) (Q.S.cells Q.z0), A.facts (M.rowF 3 ad n q)] (J_Code (IntKind.wrap .u32 (q k 1)) (Q.wrap_bd _) (m := i3.2) (V := ((Q.mV p q s k).prot (q k 1) (q k 2)))) h (by kernel_rfl) (A.pn [1, 0, 2, 3])) (fun w _ => by kernel_rfl) (by kernel_rfl) ?_
   refine E.wv (.bool false) (fun w h => E.run_as (a := .bool ((((Q.mV p q s k).prot (q k 1) (q k 2)).code ((IntKind.wrap .u32 (q k 1))).toNat) != (((Q.mV p q s k).prot (q k 1) (q k 2)).code ((IntKind.wrap .u32 (q k 1))).toNat))) (by kernel_rfl) (congrArg Value.bool (bne_self_eq_false _))) ?_
   refine E.wo (.bool false) ?_
   refine E.wo (.bool false) ?_
   refine E.wo (.pointer (some ⟨m1, 0, none⟩)) ?_
   refine E.wo (.pointer (some ⟨m1, 0, none⟩)) ?_
   refine E.wo (.pointer (some ⟨m1, 0, none⟩)) ?_
   refine E.wo (.slice ao n cap) ?_
   refine E.wo (.int .i64 ((k : Nat) : Int)) ?_
   refine E.wv (.pointer (some (ad.add (k * 3)))) (fun w h => A.idxR (e := 75) ad ao n cap 3 .i64 k hao (by kernel_rfl) (by kernel_rfl) (by kernel_rfl) (by kernel_rfl) (by (first | assumption | ((try simp only [Bool.or_eq_false_iff, Bool.or_eq_true, Bool.and_eq_true, Bool.and_eq_false_iff, Bool.not_eq_eq_eq_not, Bool.not_true, Bool.not_false, decide_eq_true_eq, decide_eq_false_iff_not, ge_iff_le, gt_iff_lt] at *); omega))) w) ?_
   refine E.wo (.pointer (some ((ad.add (k * 3)).add 1))) ?_
   refine E.wv (.int .i64 (q k 1)) (fun w h => A.loadRI (n := n) (i := k) (j := 1) (q := q) (A.X.y h.x) (k := 2) rfl (by kernel_rfl) (by kernel_rfl) (by (first | assumption | ((try simp only [Bool.or_eq_false_iff, Bool.or_eq_true, Bool.and_eq_true, Bool.and_eq_false_iff, Bool.not_eq_eq_eq_not, Bool.not_true, Bool.not_false, decide_eq_true_eq, decide_eq_false_iff_not, ge_iff_le, gt_iff_lt] at *); omega))) (by decide)) ?_
   refine E.W.call (.int .i64 (((Q.mV p q s k).prot (q k 1) (q k 2)).rt (q k 1))) (fun w h => A.call_rd [A.blk i3.1 (Q.S.cells Q.z0 ++ [.pointer (some ⟨i3.2, 0, none⟩)]), R.It i3.2 ((Q.mV p q s k).prot (q k 1) (q k 2)), A.facts (M.rowF 3 ad n q)] (A_Rights (q k 1) (m := m1) (V := ((Q.mV p q s k).prot (q k 1) (q k 2))) (xs := (Q.S.cells Q.z0))) h (by kernel_rfl) (A.pn [2, 0, 1, 3])) (fun w _ => by kernel_rfl) (by kernel_rfl) ?_
   refine E.wo (.pointer (some ⟨i3.1, 0, none⟩)) ?_
   refine E.wo (.pointer (some ⟨i3.1, 0, none⟩)) ?_
   refine E.wo (.pointer (some ⟨i3.1, 24, none⟩)) ?_
   refine E.wv (.pointer (some ⟨i3.2, 0, none⟩)) (fun w h => E.run_load h 0 rfl rfl (by kernel_rfl)) ?_
   refine E.wo (.slice ao n cap) ?_
   refine E.wo (.int .i64 ((k : Nat) : Int)) ?_
   refine E.wv (.pointer (some (ad.add (k * 3)))) (fun w h => A.idxR (e := 75) ad ao n cap 3 .i64 k hao (by kernel_rfl) (by kernel_rfl) (by kernel_rfl) (by kernel_rfl) (by (first | assumption | ((try simp only [Bool.or_eq_false_iff, Bool.or_eq_true, Bool.and_eq_true, Bool.and_eq_false_iff, Bool.not_eq_eq_eq_not, Bool.not_true, Bool.not_false, decide_eq_true_eq, decide_eq_false_iff_not, ge_iff_le, gt_iff_lt] at *); omega))) w) ?_
   refine E.wo (.pointer (some ((ad.add (k * 3)).add 1))) ?_
   refine E.wv (.int .i64 (q k 1)) (fun w h => A.loadRI (n := n) (i := k) (j := 1) (q := q) (A.X.y h.x) (k := 2) rfl (by kernel_rfl) (by kernel_rfl) (by (first | assumption | ((try simp only [Bool.or_eq_false_iff, Bool.or_eq_true, Bool.and_eq_true, Bool.and_eq_false_iff, Bool.not_eq_eq_eq_not, Bool.not_true, Bool.not_false, decide_eq_true_eq, decide_eq_false_iff_not, ge_iff_le, gt_iff_lt] at *); omega))) (by decide)) ?_
   refine E.W.call (.int .i64 (((Q.mV p q s k).prot (q k 1) (q k 2)).rt (q k 1))) (fun w h => A.call_rd [A.blk i3.1 (Q.S.cells Q.z0 ++ [.pointer (some ⟨i3.2, 0, none⟩)]), M.It m1 ((Q.mV p q s k).prot (q k 1) (q k 2)) (Q.S.cells Q.z0), A.facts (M.rowF 3 ad n q)] (B_RightsOf (q k 1) (r := i3.2) (V := ((Q.mV p q s k).prot (q k 1) (q k 2)))) h (by kernel_rfl) (A.pn [1, 0, 2, 3])) (fun w _ => by kernel_rfl) (by kernel_rfl) ?_
   refine E.wv (.bool false) (fun w h => E.run_as (a := .bool ((((Q.mV p q s k).prot (q k 1) (q k 2)).rt (q k 1)) != (((Q.mV p q s k).prot (q k 1) (q k 2)).rt (q k 1)))) (by kernel_rfl) (congrArg Value.bool (bne_self_eq_false _))) ?_
   refine E.wo (.bool false) ?_
   refine E.W.done (E.To.code ?_)
   refine E.C.condF (by kernel_rfl) (by kernel_rfl) ?_
   refine E.C.skip (E.P.nb (E.To.code ?_))
   refine A.C.eq ([R.It i3.2 (Q.mV p q s (k + 1)), M.It m1 (Q.mV p q s (k + 1)) (Q.S.cells Q.z0), A.facts (M.rowF 3 ad n q)]) (by rw [Q.mo3 (by assumption) (by assumption) (by assumption)]) ?_
   refine E.C.region ?_
   refine E.op (.int .i64 ((k : Nat) : Int)) ?_
   refine E.vl (.int .i64 ((k + 1 : Nat) : Int)) (fun w h => E.run_as (a := .int .i64 (IntKind.wrap .i64 (((k : Nat) : Int) + 1))) (by kernel_rfl) (congrArg (Value.int .i64) (Q.m37 hk1.2))) ?_
   refine E.op (.int .i64 ((k + 1 : Nat) : Int)) ?_
   exact E.To.round (k + 1) (by (first | assumption | ((try simp only [Bool.or_eq_false_iff, Bool.or_eq_true, Bool.and_eq_true, Bool.and_eq_false_iff, Bool.not_eq_eq_eq_not, Bool.not_true, Bool.not_false, decide_eq_true_eq, decide_eq_false_iff_not, ge_iff_le, gt_iff_lt] at *); omega))) ((by (first | assumption | ((try simp only [Bool.or_eq_false_iff, Bool.or_eq_true, Bool.and_eq_true, Bool.and_eq_false_iff, Bool.not_eq_eq_eq_not, Bool.not_true, Bool.not_false, decide_eq_true_eq, decide_eq_false_iff_not, ge_iff_le, gt_iff_lt] at *); omega)))) ⟨by kernel_rfl, by kernel_rfl⟩ (List.Sublist.refl _) (fun _ h => h)
  refine E.C.skip (E.P.nb (E.To.code ?_))
  refine E.C.seq ?_
  refine E.C.quiet (by kernel_rfl) (by kernel_rfl) ?_
  refine E.wo (.pointer (some ⟨m1, 0, none⟩)) ?_
  refine E.wo (.pointer (some ⟨m1, 0, none⟩)) ?_
  refine E.wo (.pointer (some ⟨m1, 0, none⟩)) ?_
  refine E.wo (.int .u32 (IntKind.wrap .u32 (q k 1))) ?_
  refine E.W.call (.int .u8 ((Q.mV p q s k).peek ((IntKind.wrap .u32 (q k 1))).toNat)) (fun w h => A.call_rd [A.blk i3.1 (Q.S.cells Q.z0 ++ [.pointer (some ⟨i3.2, 0, none⟩)]), R.It i3.2 (Q.mV p q s k), A.facts (M.rowF 3 ad n q)] (I_Peek (IntKind.wrap .u32 (q k 1)) (Q.wrap_bd _) (m := m1) (V := (Q.mV p q s k)) (xs := (Q.S.cells Q.z0))) h (by kernel_rfl) (A.pn [2, 0, 1, 3])) (fun w _ => by kernel_rfl) (by kernel_rfl) ?_
  refine E.wo (.pointer (some ⟨i3.1, 0, none⟩)) ?_
  refine E.wo (.pointer (some ⟨i3.1, 0, none⟩)) ?_
  refine E.wo (.pointer (some ⟨i3.1, 24, none⟩)) ?_
  refine E.wv (.pointer (some ⟨i3.2, 0, none⟩)) (fun w h => E.run_load h 0 rfl rfl (by kernel_rfl)) ?_
  refine E.wo (.int .u32 (IntKind.wrap .u32 (q k 1))) ?_
  refine E.W.call (.int .u8 ((Q.mV p q s k).peek ((IntKind.wrap .u32 (q k 1))).toNat)) (fun w h => A.call_rd [A.blk i3.1 (Q.S.cells Q.z0 ++ [.pointer (some ⟨i3.2, 0, none⟩)]), M.It m1 (Q.mV p q s k) (Q.S.cells Q.z0), A.facts (M.rowF 3 ad n q)] (J_Peek (IntKind.wrap .u32 (q k 1)) (Q.wrap_bd _) (m := i3.2) (V := (Q.mV p q s k))) h (by kernel_rfl) (A.pn [1, 0, 2, 3])) (fun w _ => by kernel_rfl) (by kernel_rfl) ?_
  refine E.wv (.bool false) (fun w h => E.run_as (a := .bool (((Q.mV p q s k).peek ((IntKind.wrap .u32 (q k 1))).toNat) != ((Q.mV p q s k).peek ((IntKind.wrap .u32 (q k 1))).toNat))) (by kernel_rfl) (congrArg Value.bool (bne_self_eq_false _))) ?_
  refine E.wo (.bool false) ?_
  refine E.wo (.pointer (some ⟨m1, 0, none⟩)) ?_
  refine E.wo (.pointer (some ⟨m1, 0, none⟩)) ?_
  refine E.wo (.pointer (some ⟨m1, 0, none⟩)) ?_
  refine E.wo (.int .u32 (IntKind.wrap .u32 (q k 1))) ?_
  refine E.W.call (.int .u8 ((Q.mV p q s k).code ((IntKind.wrap .u32 (q k 1))).toNat)) (fun w h => A.call_rd [A.blk i3.1 (Q.S.cells Q.z0 ++ [.pointer (some ⟨i3.2, 0, none⟩)]), R.It i3.2 (Q.mV p q s k), A.facts (M.rowF 3 ad n q)] (I_Code (IntKind.wrap .u32 (q k 1)) (Q.wrap_bd _) (m := m1) (V := (Q.mV p q s k)) (xs := (Q.S.cells Q.z0))) h (by kernel_rfl) (A.pn [2, 0, 1, 3])) (fun w _ => by kernel_rfl) (by kernel_rfl) ?_
  refine E.wo (.pointer (some ⟨i3.1, 0, none⟩)) ?_
  refine E.wo (.pointer (some ⟨i3.1, 0, none⟩)) ?_
  refine E.wo (.pointer (some ⟨i3.1, 24, none⟩)) ?_
  refine E.wv (.pointer (some ⟨i3.2, 0, none⟩)) (fun w h => E.run_load h 0 rfl rfl (by kernel_rfl)) ?_
  refine E.wo (.int .u32 (IntKind.wrap .u32 (q k 1))) ?_
  refine E.W.call (.int .u8 ((Q.mV p q s k).code ((IntKind.wrap .u32 (q k 1))).toNat)) (fun w h => A.call_rd [A.blk i3.1 (Q.S.cells Q.z0 ++ [.pointer (some ⟨i3.2, 0, none⟩)]), M.It m1 (Q.mV p q s k) (Q.S.cells Q.z0), A.facts (M.rowF 3 ad n q)] (J_Code (IntKind.wrap .u32 (q k 1)) (Q.wrap_bd _) (m := i3.2) (V := (Q.mV p q s k))) h (by kernel_rfl) (A.pn [1, 0, 2, 3])) (fun w _ => by kernel_rfl) (by kernel_rfl) ?_
  refine E.wv (.bool false) (fun w h => E.run_as (a := .bool (((Q.mV p q s k).code ((IntKind.wrap .u32 (q k 1))).toNat) != ((Q.mV p q s k).code ((IntKind.wrap .u32 (q k 1))).toNat))) (by kernel_rfl) (congrArg Value.bool (bne_self_eq_false _))) ?_
  refine E.wo (.bool false) ?_
  refine E.wo (.bool false) ?_
  refine E.wo (.pointer (some ⟨m1, 0, none⟩)) ?_
  refine E.wo (.pointer (some ⟨m1, 0, none⟩)) ?_
  refine E.wo (.pointer (some ⟨m1, 0, none⟩)) ?_
  refine E.wo (.slice ao n cap) ?_
  refine E.wo (.int .i64 ((k : Nat) : Int)) ?_
  refine E.wv (.pointer (some (ad.add (k * 3)))) (fun w h => A.idxR (e := 75) ad ao n cap 3 .i64 k hao (by kernel_rfl) (by kernel_rfl) (by kernel_rfl) (by kernel_rfl) (by (first | assumption | ((try simp only [Bool.or_eq_false_iff, Bool.or_eq_true, Bool.and_eq_true, Bool.and_eq_false_iff, Bool.not_eq_eq_eq_not, Bool.not_true, Bool.not_false, decide_eq_true_eq, decide_eq_false_iff_not, ge_iff_le, gt_iff_lt] at *); omega))) w) ?_
  refine E.wo (.pointer (some ((ad.add (k * 3)).add 1))) ?_
  refine E.wv (.int .i64 (q k 1)) (fun w h => A.loadRI (n := n) (i := k) (j := 1) (q := q) (A.X.y h.x) (k := 2) rfl (by kernel_rfl) (by kernel_rfl) (by (first | assumption | ((try simp only [Bool.or_eq_false_iff, Bool.or_eq_true, Bool.and_eq_true, Bool.and_eq_false_iff, Bool.not_eq_eq_eq_not, Bool.not_true, Bool.not_false, decide_eq_true_eq, decide_eq_false_iff_not, ge_iff_le, gt_iff_lt] at *); omega))) (by decide)) ?_
  refine E.W.call (.int .i64 ((Q.mV p q s k).rt (q k 1))) (fun w h => A.call_rd [A.blk i3.1 (Q.S.cells Q.z0 ++ [.pointer (some ⟨i3.2, 0, none⟩)]), R.It i3.2 (Q.mV p q s k), A.facts (M.rowF 3 ad n q)] (A_Rights (q k 1) (m := m1) (V := (Q.mV p q s k)) (xs := (Q.S.cells Q.z0))) h (by kernel_rfl) (A.pn [2, 0, 1, 3])) (fun w _ => by kernel_rfl) (by kernel_rfl) ?_
  refine E.wo (.pointer (some ⟨i3.1, 0, none⟩)) ?_
  refine E.wo (.pointer (some ⟨i3.1, 0, none⟩)) ?_
  refine E.wo (.pointer (some ⟨i3.1, 24, none⟩)) ?_
  refine E.wv (.pointer (some ⟨i3.2, 0, none⟩)) (fun w h => E.run_load h 0 rfl rfl (by kernel_rfl)) ?_
  refine E.wo (.slice ao n cap) ?_
  refine E.wo (.int .i64 ((k : Nat) : Int)) ?_
  refine E.wv (.pointer (some (ad.add (k * 3)))) (fun w h => A.idxR (e := 75) ad ao n cap 3 .i64 k hao (by kernel_rfl) (by kernel_rfl) (by kernel_rfl) (by kernel_rfl) (by (first | assumption | ((try simp only [Bool.or_eq_false_iff, Bool.or_eq_true, Bool.and_eq_true, Bool.and_eq_false_iff, Bool.not_eq_eq_eq_not, Bool.not_true, Bool.not_false, decide_eq_true_eq, decide_eq_false_iff_not, ge_iff_le, gt_iff_lt] at *); omega))) w) ?_
  refine E.wo (.pointer (some ((ad.add (k * 3)).add 1))) ?_
  refine E.wv (.int .i64 (q k 1)) (fun w h => A.loadRI (n := n) (i := k) (j := 1) (q := q) (A.X.y h.x) (k := 2) rfl (by kernel_rfl) (by kernel_rfl) (by (first | assumption | ((try simp only [Bool.or_eq_false_iff, Bool.or_eq_true, Bool.and_eq_true, Bool.and_eq_false_iff, Bool.not_eq_eq_eq_not, Bool.not_true, Bool.not_false, decide_eq_true_eq, decide_eq_false_iff_not, ge_iff_le, gt_iff_lt] at *); omega))) (by decide)) ?_
  refine E.W.call (.int .i64 ((Q.mV p q s k).rt (q k 1))) (fun w h => A.call_rd [A.blk i3.1 (Q.S.cells Q.z0 ++ [.pointer (some ⟨i3.2, 0, none⟩)]), M.It m1 (Q.mV p q s k) (Q.S.cells Q.z0), A.facts (M.rowF 3 ad n q)] (B_RightsOf (q k 1) (r := i3.2) (V := (Q.mV p q s k))) h (by kernel_rfl) (A.pn [1, 0, 2, 3])) (fun w _ => by kernel_rfl) (by kernel_rfl) ?_
  refine E.wv (.bool false) (fun w h => E.run_as (a := .bool (((Q.mV p q s k).rt (q k 1)) != ((Q.mV p q s k).rt (q k 1)))) (by kernel_rfl) (congrArg Value.bool (bne_self_eq_false _))) ?_
  refine E.wo (.bool false) ?_
  refine E.W.done (E.To.code ?_)
  refine E.C.condF (by kernel_rfl) (by kernel_rfl) ?_
  refine E.C.skip (E.P.nb (E.To.code ?_))
  refine A.C.eq ([R.It i3.2 (Q.mV p q s (k + 1)), M.It m1 (Q.mV p q s (k + 1)) (Q.S.cells Q.z0), A.facts (M.rowF 3 ad n q)]) (Q.mo4 (q := q) (k := k) (by assumption) (by assumption) (by assumption) (by assumption)) ?_
  refine E.C.region ?_
  refine E.op (.int .i64 ((k : Nat) : Int)) ?_
  refine E.vl (.int .i64 ((k + 1 : Nat) : Int)) (fun w h => E.run_as (a := .int .i64 (IntKind.wrap .i64 (((k : Nat) : Int) + 1))) (by kernel_rfl) (congrArg (Value.int .i64) (Q.m37 hk1.2))) ?_
  refine E.op (.int .i64 ((k + 1 : Nat) : Int)) ?_
  exact E.To.round (k + 1) (by (first | assumption | ((try simp only [Bool.or_eq_false_iff, Bool.or_eq_true, Bool.and_eq_true, Bool.and_eq_false_iff, Bool.not_eq_eq_eq_not, Bool.not_true, Bool.not_false, decide_eq_true_eq, decide_eq_false_iff_not, ge_iff_le, gt_iff_lt] at *); omega))) ((by (first | assumption | ((try simp only [Bool.or_eq_false_iff, Bool.or_eq_true, Bool.and_eq_true, Bool.and_eq_false_iff, Bool.not_eq_eq_eq_not, Bool.not_true, Bool.not_false, decide_eq_true_eq, decide_eq_false_iff_not, ge_iff_le, gt_iff_lt] at *); omega)))) ⟨by kernel_rfl, by kernel_rfl⟩ (List.Sublist.refl _) (fun _ h => h)
 refine E.C.exit (E.P.et (E.P.et (E.P.eh (E.To.code ?_))))
 refine E.wk [(6, .bool false), (7, .bool true), (9, .pointer (some ⟨m1, 0, none⟩)), (10, .pointer (some ⟨i3.1, 0, none⟩))] [(i3.1, (Q.S.cells Q.z0 ++ [.pointer (some ⟨i3.2, 0, none⟩)]))] (List.Sublist.refl _) ?_
 refine E.C.seq ?_
 refine E.C.held (A.Y [A.blk i3.1 (Q.S.cells Q.z0 ++ [.pointer (some ⟨i3.2, 0, none⟩)]), A.facts (M.rowF 3 ad n q)]) (by kernel_rfl) ?_
 refine E.tk 0 (.bool true) rfl (fun w h => A.hpY (p := [A.blk i3.1 (Q.S.cells Q.z0 ++ [.pointer (some ⟨i3.2, 0, none⟩)]), A.facts (M.rowF 3 ad n q)]) (r := [R.It i3.2 (Q.mV p q s k), M.It m1 (Q.mV p q s k) (Q.S.cells Q.z0)]) h (by kernel_rfl) (A.pn [0, 3, 1, 2])) ?_
 refine E.tk 1 (.bool true) rfl (fun w h => A.hpY (p := [A.blk i3.1 (Q.S.cells Q.z0 ++ [.pointer (some ⟨i3.2, 0, none⟩)]), A.facts (M.rowF 3 ad n q)]) (r := [R.It i3.2 (Q.mV p q s k), M.It m1 (Q.mV p q s k) (Q.S.cells Q.z0)]) h (by kernel_rfl) (A.pn [0, 3, 1, 2])) ?_
 refine E.tk 2 (.pointer (some ⟨m1, 0, none⟩)) rfl (fun w h => A.hpY (p := [A.blk i3.1 (Q.S.cells Q.z0 ++ [.pointer (some ⟨i3.2, 0, none⟩)]), A.facts (M.rowF 3 ad n q)]) (r := [R.It i3.2 (Q.mV p q s k), M.It m1 (Q.mV p q s k) (Q.S.cells Q.z0)]) h (by kernel_rfl) (A.pn [0, 3, 1, 2])) ?_
 refine E.tk 3 (.pointer (some ⟨i3.1, 0, none⟩)) rfl (fun w h => A.hpY (p := [A.blk i3.1 (Q.S.cells Q.z0 ++ [.pointer (some ⟨i3.2, 0, none⟩)]), A.facts (M.rowF 3 ad n q)]) (r := [R.It i3.2 (Q.mV p q s k), M.It m1 (Q.mV p q s k) (Q.S.cells Q.z0)]) h (by kernel_rfl) (A.pn [0, 3, 1, 2])) ?_
 refine E.al 4 rfl ?_
 refine A.G.call (I := Unit) (D := fun _ => True) (V := fun _ => .bool true) (q := fun _ => [A.blk i3.1 (Q.S.cells Q.z0 ++ [.pointer (some ⟨i3.2, 0, none⟩)]), M.It m1 (Q.mV p q s k) (Q.S.cells Q.z0), R.It i3.2 (Q.mV p q s k)]) [A.facts (M.rowF 3 ad n q)] (fun _ => [(i3.1, (Q.S.cells Q.z0 ++ [.pointer (some ⟨i3.2, 0, none⟩)]))]) (fun _ => [R.It i3.2 (Q.mV p q s k), M.It m1 (Q.mV p q s k) (Q.S.cells Q.z0), A.facts (M.rowF 3 ad n q)]) (CSame (c := m1) (r := i3.1) (m := i3.2) (s := Q.z0) (V := (Q.mV p q s k)) (Q.mV_wf k)) (by kernel_rfl) (A.pn [0, 2, 1, 3]) (fun _ => A.pm [0, 2, 1, 3] (by kernel_rfl) (by kernel_rfl)) (fun w _ => by kernel_rfl) (by kernel_rfl) (fun _ hd20 => ?_)
 refine E.H.back (fun w h => A.hpY (p := [A.blk i3.1 (Q.S.cells Q.z0 ++ [.pointer (some ⟨i3.2, 0, none⟩)]), A.facts (M.rowF 3 ad n q)]) (r := [R.It i3.2 (Q.mV p q s k), M.It m1 (Q.mV p q s k) (Q.S.cells Q.z0)]) h (by kernel_rfl) (A.pn [0, 3, 1, 2])) ?_
 refine E.tk 5 (.bool true) rfl (fun w h => A.hpY (p := [A.blk i3.1 (Q.S.cells Q.z0 ++ [.pointer (some ⟨i3.2, 0, none⟩)]), A.facts (M.rowF 3 ad n q)]) (r := [R.It i3.2 (Q.mV p q s k), M.It m1 (Q.mV p q s k) (Q.S.cells Q.z0)]) h (by kernel_rfl) (A.pn [0, 3, 1, 2])) ?_
 refine E.tk 6 (.bool true) rfl (fun w h => A.hpY (p := [A.blk i3.1 (Q.S.cells Q.z0 ++ [.pointer (some ⟨i3.2, 0, none⟩)]), A.facts (M.rowF 3 ad n q)]) (r := [R.It i3.2 (Q.mV p q s k), M.It m1 (Q.mV p q s k) (Q.S.cells Q.z0)]) h (by kernel_rfl) (A.pn [0, 3, 1, 2])) ?_
 refine E.tk 7 (.pointer (some ⟨i3.1, 0, none⟩)) rfl (fun w h => A.hpY (p := [A.blk i3.1 (Q.S.cells Q.z0 ++ [.pointer (some ⟨i3.2, 0, none⟩)]), A.facts (M.rowF 3 ad n q)]) (r := [R.It i3.2 (Q.mV p q s k), M.It m1 (Q.mV p q s k) (Q.S.cells Q.z0)]) h (by kernel_rfl) (A.pn [0, 3, 1, 2])) ?_
 refine E.tk 8 (.pointer (some ⟨i3.1, 0, none⟩)) rfl (fun w h => A.hpY (p := [A.blk i3.1 (Q.S.cells Q.z0 ++ [.pointer (some ⟨i3.2, 0, none⟩)]), A.facts (M.rowF 3 ad n q)]) (r := [R.It i3.2 (Q.mV p q s k), M.It m1 (Q.mV p q s k) (Q.S.cells Q.z0)]) h (by kernel_rfl) (A.pn [0, 3, 1, 2])) ?_
 refine E.tk 9 (.pointer (some ⟨i3.1, 24, none⟩)) rfl (fun w h => A.hpY (p := [A.blk i3.1 (Q.S.cells Q.z0 ++ [.pointer (some ⟨i3.2, 0, none⟩)]), A.facts (M.rowF 3 ad n q)]) (r := [R.It i3.2 (Q.mV p q s k), M.It m1 (Q.mV p q s k) (Q.S.cells Q.z0)]) h (by kernel_rfl) (A.pn [0, 3, 1, 2])) ?_
 refine E.tj 10 (.pointer (some ⟨i3.2, 0, none⟩)) rfl (fun w h => A.hpY (p := [A.blk i3.1 (Q.S.cells Q.z0 ++ [.pointer (some ⟨i3.2, 0, none⟩)]), A.facts (M.rowF 3 ad n q)]) (r := [R.It i3.2 (Q.mV p q s k), M.It m1 (Q.mV p q s k) (Q.S.cells Q.z0)]) h (by kernel_rfl) (A.pn [0, 3, 1, 2])) (fun w h => A.Y.bld h (k := 0) (j := 24) rfl (by kernel_rfl) (by kernel_rfl)) ?_
 refine E.tk 11 (.pointer (some ⟨i3.1, 0, none⟩)) rfl (fun w h => A.hpY (p := [A.blk i3.1 (Q.S.cells Q.z0 ++ [.pointer (some ⟨i3.2, 0, none⟩)]), A.facts (M.rowF 3 ad n q)]) (r := [R.It i3.2 (Q.mV p q s k), M.It m1 (Q.mV p q s k) (Q.S.cells Q.z0)]) h (by kernel_rfl) (A.pn [0, 3, 1, 2])) ?_
 refine E.tk 12 (.pointer (some ⟨i3.1, 0, none⟩)) rfl (fun w h => A.hpY (p := [A.blk i3.1 (Q.S.cells Q.z0 ++ [.pointer (some ⟨i3.2, 0, none⟩)]), A.facts (M.rowF 3 ad n q)]) (r := [R.It i3.2 (Q.mV p q s k), M.It m1 (Q.mV p q s k) (Q.S.cells Q.z0)]) h (by kernel_rfl) (A.pn [0, 3, 1, 2])) ?_
 refine E.tk 13 (.pointer (some ⟨i3.1, 24, none⟩)) rfl (fun w h => A.hpY (p := [A.blk i3.1 (Q.S.cells Q.z0 ++ [.pointer (some ⟨i3.2, 0, none⟩)]), A.facts (M.rowF 3 ad n q)]) (r := [R.It i3.2 (Q.mV p q s k), M.It m1 (Q.mV p q s k) (Q.S.cells Q.z0)]) h (by kernel_rfl) (A.pn [0, 3, 1, 2])) ?_
 refine E.tj 14 (.pointer (some ⟨i3.2, 0, none⟩)) rfl (fun w h => A.hpY (p := [A.blk i3.1 (Q.S.cells Q.z0 ++ [.pointer (some ⟨i3.2, 0, none⟩)]), A.facts (M.rowF 3 ad n q)]) (r := [R.It i3.2 (Q.mV p q s k), M.It m1 (Q.mV p q s k) (Q.S.cells Q.z0)]) h (by kernel_rfl) (A.pn [0, 3, 1, 2])) (fun w h => A.Y.bld h (k := 0) (j := 24) rfl (by kernel_rfl) (by kernel_rfl)) ?_
 refine E.al 15 rfl ?_
 refine E.G.call (.bool true) (fun w h => A.call_rd [A.blk i3.1 (Q.S.cells Q.z0 ++ [.pointer (some ⟨i3.2, 0, none⟩)]), M.It m1 (Q.mV p q s k) (Q.S.cells Q.z0), A.facts (M.rowF 3 ad n q)] (B_SameSelf (r := i3.2) (V := (Q.mV p q s k))) h (by kernel_rfl) (A.pn [1, 0, 2, 3])) (fun w _ => by kernel_rfl) (by kernel_rfl) ?_
 refine E.H.back (fun w h => A.hpY (p := [A.blk i3.1 (Q.S.cells Q.z0 ++ [.pointer (some ⟨i3.2, 0, none⟩)]), A.facts (M.rowF 3 ad n q)]) (r := [R.It i3.2 (Q.mV p q s k), M.It m1 (Q.mV p q s k) (Q.S.cells Q.z0)]) h (by kernel_rfl) (A.pn [0, 3, 1, 2])) ?_
 refine E.tk 16 (.bool true) rfl (fun w h => A.hpY (p := [A.blk i3.1 (Q.S.cells Q.z0 ++ [.pointer (some ⟨i3.2, 0, none⟩)]), A.facts (M.rowF 3 ad n q)]) (r := [R.It i3.2 (Q.mV p q s k), M.It m1 (Q.mV p q s k) (Q.S.cells Q.z0)]) h (by kernel_rfl) (A.pn [0, 3, 1, 2])) ?_
 refine E.tk 17 (.bool true) rfl (fun w h => A.hpY (p := [A.blk i3.1 (Q.S.cells Q.z0 ++ [.pointer (some ⟨i3.2, 0, none⟩)]), A.facts (M.rowF 3 ad n q)]) (r := [R.It i3.2 (Q.mV p q s k), M.It m1 (Q.mV p q s k) (Q.S.cells Q.z0)]) h (by kernel_rfl) (A.pn [0, 3, 1, 2])) ?_
 refine E.H.done (by kernel_rfl) ?_
 refine E.To.code ?_
 refine E.wk [(6, .bool true)] [] (List.nil_sublist _) ?_
 refine E.C.ret (E.To.body (fn := Try.f9) [.bool true] ?_ ?_)
 · exact ⟨⟨by kernel_rfl, by kernel_rfl⟩, trivial⟩
 intro w h
 exact ⟨rfl, h.ch.bel (fun x hx => (A.none1 hh x hx).elim)⟩
theorem QcpuMemory_law {ao : Option Addr} {ad : Addr} {n cap : Nat} {q : Nat → Nat → Int} (hao : 0 < n → ao = some ad) (hq : ∀ i j, -9223372036854775808 ≤ q i j ∧ q i j < 9223372036854775808) (p : Int) (s : ByteArray) (hp : -9223372036854775808 ≤ p ∧ p < 9223372036854775808) {w : World} (f0 : ∀ a u, M.rowF 3 ad n q a u → w.cell? a = some u) : Calls Try.prog 9 #[.slice ao n cap, .int .i64 p, .string s] w fun e w' => e = .returned (.bool true) ∧ Bel w w' := QcpuMemory_rd (cap := cap) hao hq p hp s w _ _ (A.facts_has f0)
end Go.Proofs.Ytgbndbljohpnmaa
