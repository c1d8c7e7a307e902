/- Texts of the walk, merged (7): see the remark ahead of each. -/
import Derived.Test.YtgbndbljohpnmaaZu6
import Derived.Test.YtgbndbljohpnmaaProg
/- XQab -/
namespace Go.Proofs.Ytgbndbljohpnmaa
set_option linter.unusedVariables false
set_option linter.unusedSimpArgs false
open Go.RowKit
theorem A.C.drop {P : Program} {n : Nat} {Q : Exit → Act → World → Prop} {w0 : World} {o0 a0 : Nat → Prop} {its : List A.It} {L : List (Nat × List Value)} {fr : E.Fr} {c : Code} (l r : List A.It) (hp : its.Perm (l ++ r)) (k : E.C P n Q c fr o0 w0 (A.X w0 o0 a0 l) L) : E.C P n Q c fr o0 w0 (A.X w0 o0 a0 its) L :=
  fun a w h1 h2 => k a w h1 (h2.monoX fun w ⟨hs, o, a, hh, hg⟩ => by
    obtain ⟨o1, a1, o2, a2, k1, k2, _, _, ho, ha⟩ := (hh.perm hp).append
    exact ⟨hs, o1, a1, k1, fun x hx hk => hg.1 x hx ((ho x).2 (.inl hk)), fun x hx hk => hg.2 x hx ((ha x).2 (.inl hk))⟩)
def Q.brs (a b : Int) : Q.S := Q.norm ⟨0, (Q.up (Q.up (fun _ => 0) 1 a) 2 b), 0, (fun _ => 0), 0, 0⟩
theorem Q.brs_wf {a b : Int} (ha : 0 ≤ a ∧ a < 4294967296) (hb : 0 ≤ b ∧ b < 4294967296) : Q.wf (Q.brs a b) := Q.norm_wf ⟨by show (0 : Int) ≤ 0 ∧ (0 : Int) < 4294967296; decide, Q.up_bd (Q.up_bd (fun _ => by show (0 : Int) ≤ 0 ∧ (0 : Int) < 4294967296; decide) ha) hb, fun _ => by show (0 : Int) ≤ 0 ∧ (0 : Int) < 4294967296; decide⟩
def Q.far (x : Int) : Int := W.sign (IntKind.wrap .u32 (x % 262144)) 18
def Q.brV (x : Int) (j : Nat) : M.V := Q.oneV (⟨(32 + ((j : Nat) : Int)), 1, 2, 0, (Q.far x)⟩ : Q.I)
theorem Q.far_bd (x : Int) : 0 ≤ Q.far x ∧ Q.far x < 4294967296 := Q.sign_bd (Q.wrap_bd _) _
theorem Q.b37 {j : Nat} (hj : j ≤ 6) : IntKind.wrap .i64 (32 + ((j : Nat) : Int) + 1) = 32 + ((j + 1 : Nat) : Int) := by rw [IntWalk.i64_in _ (by omega)]; omega
theorem near_all (n : Int) (h : -9223372036854775808 ≤ n ∧ n < 9223372036854775808) (w : World) : Calls Try.prog 27 #[.int .i64 n] w fun e w' => e = .returned (.int .u32 (W.near n)) ∧ Bel w w' := near_is n h.1 (by omega) w
theorem Q.b01_1 (b : Bool) : (W.b01 b == 1) = b := by cases b <;> rfl
theorem Q.taken_eq {j : Nat} (hj : j < 6) (a b : Int) : Q.taken (32 + ((j : Nat) : Int)) a b = Q6.taken (32 + ((j : Nat) : Int)) a b := by
  have e14 : W.op 14 a b = W.b01 (decide (a < b)) := rfl
  have e15 : W.op 15 a b = W.b01 (decide (W.sg a < W.sg b)) := rfl
  rcases (by omega : j = 0 ∨ j = 1 ∨ j = 2 ∨ j = 3 ∨ j = 4 ∨ j = 5) with rfl | rfl | rfl | rfl | rfl | rfl
  · rfl
  · rfl
  · show (W.op 14 a b == 1) = decide (a < b)
    rw [e14, Q.b01_1]
  · show (!(W.op 14 a b == 1)) = decide (a ≥ b)
    rw [e14, Q.b01_1]; by_cases h : a < b
    · rw [decide_eq_true h, decide_eq_false (by omega)]; rfl
    · rw [decide_eq_false h, decide_eq_true (by omega)]; rfl
  · rfl
  · show (!(W.op 15 a b == 1)) = (W.op 15 a b == 0)
    rw [e15]; cases decide (W.sg a < W.sg b) <;> rfl
theorem Q.br_valid {x : Int} {j : Nat} (hj : j < 6) : Q3.valid (⟨32 + ((j : Nat) : Int), 1, 2, 0, Q.far x⟩ : Q.I) = true := by
  have hs : W.sign (Q.far x) 18 = Q.far x := Q3.sgn (k := 18) (.inr rfl) (IntKind.wrap .u32 (x % 262144)) (by rw [Q.wr]; have := Int.emod_nonneg x (by decide : (262144 : Int) ≠ 0); have := Int.emod_lt_of_pos x (by decide : (0 : Int) < 262144); show 0 ≤ _ ∧ _ < (262144 : Int); omega)
  have e : Q3.of (32 + ((j : Nat) : Int)) = ⟨true, true, true, false, true, 18, 0⟩ := by
    rcases (by omega : j = 0 ∨ j = 1 ∨ j = 2 ∨ j = 3 ∨ j = 4 ∨ j = 5) with rfl | rfl | rfl | rfl | rfl | rfl <;> rfl
  generalize Q.far x = m at *
  unfold Q3.valid
  show (bif (!((Q3.of (32 + ((j : Nat) : Int))).is)) then false else (bif (((!(Q3.reg 1 ((Q3.of (32 + ((j : Nat) : Int))).d))) || (!(Q3.reg 2 ((Q3.of (32 + ((j : Nat) : Int))).a)))) || (!(Q3.reg 0 ((Q3.of (32 + ((j : Nat) : Int))).b)))) then false else Q3.iimm (Q3.of (32 + ((j : Nat) : Int))) m)) = true
  rw [e]
  have hi : Q3.iimm ⟨true, true, true, false, true, 18, 0⟩ m = true := by
    show (W.sign m 18 == m) = true
    rw [hs]; simp
  show (bif ((!(Q3.reg 1 true)) || (!(Q3.reg 2 true)) || (!(Q3.reg 0 false))) then false else Q3.iimm ⟨true, true, true, false, true, 18, 0⟩ m) = true
  rw [hi]; rfl
theorem Q.sbr {j : Nat} (hj : j < 6) (s : Q.S) (V : M.V) (m : Int) : Q.stepI ⟨32 + ((j : Nat) : Int), 1, 2, 0, m⟩ 0 0 s V = (bif Q.taken (32 + ((j : Nat) : Int)) (Q.up s.r 0 0 1) (Q.up s.r 0 0 2) then (⟨IntKind.wrap .u32 (s.pc + IntKind.wrap .u32 (4 * m)), Q.up (Q.up s.r 0 0) 0 0, s.f, s.c, IntKind.wrap .i64 (s.st + 1), s.du⟩, 0, 0, V) else (⟨IntKind.wrap .u32 (s.pc + 4), Q.up (Q.up s.r 0 0) 0 0, s.f, s.c, IntKind.wrap .i64 (s.st + 1), s.du⟩, 0, 0, V)) := by
  rcases (by omega : j = 0 ∨ j = 1 ∨ j = 2 ∨ j = 3 ∨ j = 4 ∨ j = 5) with rfl | rfl | rfl | rfl | rfl | rfl <;> rfl
theorem Q.run1b {s s1 : Q.S} {V V1 : M.V} (h0 : s.du = 0) (e1 : Q.step s V = (s1, 0, 0, V1)) (h1 : s1.du = 0) : Q.runs 1 s V = (s1, 1, 0, V1) := by
  show Q.run 1 2 0 s V = _
  rw [Q.run, h0, e1]
  show Q.run 1 1 1 s1 V1 = _
  rw [Q.run, h1]; rfl
theorem Q.br_all (a b x : Int) {j : Nat} (hj : j < 6) : (Q.runs 1 (Q.brs a b) (Q.brV x j)).1.pc = (bif Q6.taken (32 + ((j : Nat) : Int)) a b then IntKind.wrap .u32 (4 * Q.far x) else 4) ∧ (Q.runs 1 (Q.brs a b) (Q.brV x j)).1.st = 1 := by
  have f0 := Q.oneV_fetch (i := ⟨32 + ((j : Nat) : Int), 1, 2, 0, Q.far x⟩) (Q.far_bd x) (Q.br_valid hj)
  unfold Q.brV
  generalize Q.oneV ⟨32 + ((j : Nat) : Int), 1, 2, 0, Q.far x⟩ = V at *
  have es : Q.step (Q.brs a b) V = Q.stepI ⟨32 + ((j : Nat) : Int), 1, 2, 0, Q.far x⟩ 0 0 (Q.brs a b) V := by
    unfold Q.step
    have hp : (Q.brs a b).pc = 0 := rfl
    rw [hp, f0]
  have h1 : Q.up (Q.brs a b).r 0 0 1 = a := rfl
  have h2 : Q.up (Q.brs a b).r 0 0 2 = b := rfl
  rw [Q.sbr hj, Q.taken_eq hj, h1, h2] at es
  have hf := Q.far_bd x
  generalize Q.far x = m at *
  cases ht : Q6.taken (32 + ((j : Nat) : Int)) a b with
  | true =>
    rw [ht, cond_true] at es
    rw [Q.run1b rfl es rfl, cond_true]
    refine ⟨?_, rfl⟩
    show IntKind.wrap .u32 (0 + IntKind.wrap .u32 (4 * m)) = _
    rw [Q.wr, Q.wr]; omega
  | false =>
    rw [ht, cond_false] at es
    rw [Q.run1b rfl es rfl, cond_false]
    exact ⟨rfl, rfl⟩
theorem Q.b77t {a b x : Int} {j : Nat} (hj : decide ((32 + ((j : Nat) : Int)) ≤ 37) = true) (h : Q6.taken (32 + ((j : Nat) : Int)) a b = true) : (((Q.runs 1 (Q.brs a b) (Q.brV x j)).1.pc) != (IntKind.wrap .u32 (4 * (Q.far x)))) = false := by
  have hj := of_decide_eq_true hj
  rw [(Q.br_all a b x (by omega)).1, h, cond_true]; simp
theorem Q.b77f {a b x : Int} {j : Nat} (hj : decide ((32 + ((j : Nat) : Int)) ≤ 37) = true) (h : Q6.taken (32 + ((j : Nat) : Int)) a b = false) : (((Q.runs 1 (Q.brs a b) (Q.brV x j)).1.pc) != 4) = false := by
  have hj := of_decide_eq_true hj
  rw [(Q.br_all a b x (by omega)).1, h, cond_false]; rfl
theorem Q.b82 {a b x : Int} {j : Nat} (hj : decide ((32 + ((j : Nat) : Int)) ≤ 37) = true) : (((Q.runs 1 (Q.brs a b) (Q.brV x j)).1.st) != 1) = false := by
  have hj := of_decide_eq_true hj
  rw [(Q.br_all a b x (by omega)).2]; rfl
set_option maxHeartbeats 4000000 in
theorem QcpuBranches_rd (w0 w1 n0 n1 x : Int) (hw0 : 0 ≤ w0 ∧ w0 < 4294967296) (hw1 : 0 ≤ w1 ∧ w1 < 4294967296) (hn0 : -9223372036854775808 ≤ n0 ∧ n0 < 9223372036854775808) (hn1 : -9223372036854775808 ≤ n1 ∧ n1 < 9223372036854775808) (hx : -9223372036854775808 ≤ x ∧ x < 9223372036854775808) : A.Rd Try.prog 7 #[.agg #[.int .u32 w0, .int .u32 w1], .agg #[.int .i64 n0, .int .i64 n1], .int .i64 x] [] (.bool true) := by
  intro w oo aa hh
  refine E.enter (n := 85) (S := oo) Try.func7 rfl rfl (by kernel_rfl) (A.start (L := []) hh) ?_
  refine E.sr ?_
  refine E.G.new (fun g => .pointer (some ⟨g, 0, none⟩)) [.int .u32 w0, .int .u32 w1] 45 (fun w => by kernel_rfl) (by kernel_rfl) (fun g1 => ?_)
  refine E.G.new (fun g => .pointer (some ⟨g, 0, none⟩)) [.int .i64 n0, .int .i64 n1] 64 (fun w => by kernel_rfl) (by kernel_rfl) (fun g2 => ?_)
  refine E.op (.bool false) ?_
  refine E.tr ?_
  refine E.G.call (.bool true) (fun w h => A.call_rd [A.blk g2 ([.int .i64 n0, .int .i64 n1]), A.blk g1 ([.int .u32 w0, .int .u32 w1])] (San6) h (by kernel_rfl) (A.pm [0, 1] (by kernel_rfl) (by kernel_rfl))) (fun w _ => by kernel_rfl) (by kernel_rfl) ?_
  refine E.op (.bool true) ?_
  refine E.To.code ?_
  refine E.C.seq ?_
  refine E.C.held (E.Hp (oo) w (A.X w oo aa []) [(g2, [.int .i64 n0, .int .i64 n1]), (g1, [.int .u32 w0, .int .u32 w1])]) (by kernel_rfl) ?_
  refine E.H.take 0 (.agg #[.int .u32 w0, .int .u32 w1]) rfl (by kernel_rfl) (by kernel_rfl) (by kernel_rfl) (fun _ _ _ h => h) (fun w h => h) (.inl ⟨by kernel_rfl, by kernel_rfl, fun w h => E.run_load h 1 rfl rfl (by kernel_rfl)⟩) (by kernel_rfl) ?_
  refine E.H.take 1 (.pointer (some ⟨g2, 0, none⟩)) rfl (by kernel_rfl) (by kernel_rfl) (by kernel_rfl) (fun _ _ _ h => h) (fun w h => h) (.inl ⟨by kernel_rfl, by kernel_rfl, fun w h => by kernel_rfl⟩) (by kernel_rfl) ?_
  refine E.H.take 2 (.int .i64 n0) rfl (by kernel_rfl) (by kernel_rfl) (by kernel_rfl) (fun _ _ _ h => h) (fun w h => h) (.inl ⟨by kernel_rfl, by kernel_rfl, fun w h => E.run_load h 0 rfl rfl (by kernel_rfl)⟩) (by kernel_rfl) ?_
  refine E.H.take 4 (.pointer (some ⟨g2, 1, none⟩)) rfl (by kernel_rfl) (by kernel_rfl) (by kernel_rfl) (fun _ _ _ h => h) (fun w h => h) (.inl ⟨by kernel_rfl, by kernel_rfl, fun w h => by kernel_rfl⟩) (by kernel_rfl) ?_
  refine E.H.take 5 (.int .i64 n1) rfl (by kernel_rfl) (by kernel_rfl) (by kernel_rfl) (fun _ _ _ h => h) (fun w h => h) (.inl ⟨by kernel_rfl, by kernel_rfl, fun w h => E.run_load h 0 rfl rfl (by kernel_rfl)⟩) (by kernel_rfl) ?_
  refine E.H.all [3, 9] (by kernel_rfl) (by simp) (List.forall_mem_cons.2 ⟨⟨_, rfl, ?_⟩, List.forall_mem_cons.2 ⟨⟨_, rfl, ?_⟩, fun _ h => (List.not_mem_nil h).elim⟩⟩)
  · skip
    refine E.G.call (.int .u32 (W.near n0)) (fun w h => near_all n0 hn0 w) (fun w _ => by kernel_rfl) (by kernel_rfl) ?_
    refine E.H.back (fun w h => h) ?_
    refine E.H.all [6, 9] (by kernel_rfl) (by simp) (List.forall_mem_cons.2 ⟨⟨_, rfl, ?_⟩, List.forall_mem_cons.2 ⟨⟨_, rfl, ?_⟩, fun _ h => (List.not_mem_nil h).elim⟩⟩)
    · skip
      refine E.G.call (.int .u32 (W.near n1)) (fun w h => near_all n1 hn1 w) (fun w _ => by kernel_rfl) (by kernel_rfl) ?_
      refine E.H.back (fun w h => h) ?_
      refine E.H.take 7 (.agg #[.int .u32 (W.near n0), .int .u32 (W.near n1)]) rfl (by kernel_rfl) (by kernel_rfl) (by kernel_rfl) (fun _ _ _ h => h) (fun w h => h) (.inl ⟨by kernel_rfl, by kernel_rfl, fun w h => E.run_build #[.int .u32 (W.near n0), .int .u32 (W.near n1)] (by kernel_rfl) w⟩) (by kernel_rfl) ?_
      refine E.H.take 8 (.agg #[.int .u32 w0, .int .u32 w1, .int .u32 (W.near n0), .int .u32 (W.near n1)]) rfl (by kernel_rfl) (by kernel_rfl) (by kernel_rfl) (fun _ _ _ h => h) (fun w h => h) (.inl ⟨by kernel_rfl, by kernel_rfl, fun w h => E.run_build #[.int .u32 w0, .int .u32 w1, .int .u32 (W.near n0), .int .u32 (W.near n1)] (by kernel_rfl) w⟩) (by kernel_rfl) ?_
      refine E.H.all [9] (by kernel_rfl) (by simp) (List.forall_mem_cons.2 ⟨⟨_, rfl, ?_⟩, fun _ h => (List.not_mem_nil h).elim⟩)
      · skip
        refine E.G.new (fun g => .pointer (some ⟨g, 0, none⟩)) [.int .u32 0, .int .u32 0, .int .u32 0, .int .u32 0] 66 (fun w => by kernel_rfl) (by kernel_rfl) (fun g3 => ?_)
        refine E.H.back (fun w h => h.less (List.Sublist.cons _ (List.Sublist.refl _))) ?_
        refine E.H.all [10] (by kernel_rfl) (by simp) (List.forall_mem_cons.2 ⟨⟨_, rfl, ?_⟩, fun _ h => (List.not_mem_nil h).elim⟩)
        · skip
          refine E.G.store 0 [.int .u32 w0, .int .u32 w1, .int .u32 (W.near n0), .int .u32 (W.near n1)] rfl rfl (by kernel_rfl) (by kernel_rfl) ?_
          refine E.H.back (fun w h => h.less (List.Sublist.cons _ (List.Sublist.refl _))) ?_
          refine E.H.done (by kernel_rfl) ?_
          refine E.To.code ?_
          refine E.C.weak [(2, .int .i64 x), (6, .bool false), (7, .bool true), (8, .pointer (some ⟨g3, 0, none⟩))] [(g3, [.int .u32 w0, .int .u32 w1, .int .u32 (W.near n0), .int .u32 (W.near n1)])] ⟨by kernel_rfl, by kernel_rfl⟩ (List.Sublist.cons_cons _ (List.nil_sublist _)) ?_
          refine E.sr ?_
          refine E.op (.int .i64 x) ?_
          refine E.G.call (.int .i64 (x % 262144)) (fun w h => Mod_any x 262144 hx (by decide) w) (fun w _ => by kernel_rfl) (by kernel_rfl) ?_
          refine E.op (.int .u32 (IntKind.wrap .u32 (x % 262144))) ?_
          refine E.G.call (.int .u32 (Q.far x)) (fun w h => rSign_any (IntKind.wrap .u32 (x % 262144)) 18 (Q.wrap_bd _).1 (Q.wrap_bd _).2 (by omega) (by omega) w) (fun w _ => by kernel_rfl) (by kernel_rfl) ?_
          refine E.op (.int .u32 (Q.far x)) ?_
          refine E.To.code ?_
          refine E.C.seq ?_
          refine E.sr ?_
          refine E.op (.int .i64 0) ?_
          refine E.To.code ?_
          refine E.C.block ?_
          refine E.C.rounds 2 ?_
          refine E.C.seq ?_
          refine E.sr ?_
          refine E.op (.int .i64 0) ?_
          refine E.op (.bool true) ?_
          refine E.To.code ?_
          refine E.C.condT (by kernel_rfl) (by kernel_rfl) ?_
          refine E.C.skip (E.To.code ?_)
          refine E.C.seq ?_
          refine E.C.block ?_
          refine E.sr ?_
          refine E.op (.int .i64 32) ?_
          refine E.To.code ?_
          refine E.C.block ?_
          refine E.C.loop (I := Nat) (fun j => 6 - j) (fun j => j ≤ 6) (fun j => [(6, .bool false), (7, .bool true), (8, .pointer (some ⟨g3, 0, none⟩)), (9, .int .u32 (Q.far x)), (10, .int .i64 0), (11, .int .i64 (32 + ((j : Nat) : Int)))]) (fun j => A.X w oo aa []) (fun j => [(g3, [.int .u32 w0, .int .u32 w1, .int .u32 (W.near n0), .int .u32 (W.near n1)])]) 0 ((Nat.zero_le _)) ⟨by kernel_rfl, by kernel_rfl⟩ (List.Sublist.refl _) (fun _ h => h) (fun j hk1 => ?_)
          refine E.C.seq ?_
          refine E.sr ?_
          refine E.op (.int .i64 (32 + ((j : Nat) : Int))) ?_
          refine E.op (.bool (decide ((32 + ((j : Nat) : Int)) ≤ 37))) ?_
          refine E.To.code ?_
          refine E.C.cond (decide ((32 + ((j : Nat) : Int)) ≤ 37)) (by kernel_rfl) (by kernel_rfl) (fun hc4 => ?_) (fun hc4 => ?_)
          · skip
            refine E.C.skip (E.To.code ?_)
            refine E.C.seq ?_
            refine E.C.block ?_
            refine E.sr ?_
            refine E.G.val (Q.S.val (⟨0, (fun _ => 0), 0, (fun _ => 0), 0, 0⟩)) (by kernel_rfl) (fun w h => E.run_build (Q.S.cells ⟨0, (fun _ => 0), 0, (fun _ => 0), 0, 0⟩).toArray (by kernel_rfl) w) ?_
            refine E.G.new (fun g => .pointer (some ⟨g, 0, none⟩)) (Q.S.cells Q.z0) 27 (fun w => by kernel_rfl) (by kernel_rfl) (fun g5 => ?_)
            refine E.G.store 0 (Q.S.cells (⟨0, (fun _ => 0), 0, (fun _ => 0), 0, 0⟩)) rfl rfl (by kernel_rfl) (by kernel_rfl) ?_
            refine E.tr ?_
            refine E.op (.int .i64 0) ?_
            refine E.op (.pointer (some ⟨g3, 0, none⟩)) ?_
            refine E.op (.pointer (some ⟨g3, 0, none⟩)) ?_
            refine E.li (.int .u32 w0) 1 rfl rfl ?_
            refine E.op (.pointer (some ⟨g5, 1, none⟩)) ?_
            refine E.op (.pointer (some ⟨g5, 2, none⟩)) ?_
            refine E.G.store 0 (Q.S.cells (⟨0, (Q.up (fun _ => 0) 1 w0), 0, (fun _ => 0), 0, 0⟩)) rfl rfl (by kernel_rfl) (by kernel_rfl) ?_
            refine E.tr ?_
            refine E.op (.int .i64 0) ?_
            refine E.op (.pointer (some ⟨g3, 0, none⟩)) ?_
            refine E.op (.pointer (some ⟨g3, 1, none⟩)) ?_
            refine E.li (.int .u32 w1) 1 rfl rfl ?_
            refine E.op (.pointer (some ⟨g5, 1, none⟩)) ?_
            refine E.op (.pointer (some ⟨g5, 3, none⟩)) ?_
            refine E.G.store 0 (Q.S.cells (⟨0, (Q.up (Q.up (fun _ => 0) 1 w0) 2 w1), 0, (fun _ => 0), 0, 0⟩)) rfl rfl (by kernel_rfl) (by kernel_rfl) ?_
            refine E.tr ?_
            refine E.op (.int .i64 (32 + ((j : Nat) : Int))) ?_
            refine E.op (.int .u32 (Q.far x)) ?_
            refine E.G.val (.agg #[.int .i64 (32 + ((j : Nat) : Int)), .int .i64 1, .int .i64 2, .int .i64 0, .int .u32 (Q.far x)]) (by kernel_rfl) (fun w h => E.run_build #[.int .i64 (32 + ((j : Nat) : Int)), .int .i64 1, .int .i64 2, .int .i64 0, .int .u32 (Q.far x)] (by kernel_rfl) w) ?_
            refine E.li (Q.S.val (⟨0, (Q.up (Q.up (fun _ => 0) 1 w0) 2 w1), 0, (fun _ => 0), 0, 0⟩)) 0 rfl rfl ?_
            refine A.G.call (I := Nat) (D := fun c6 => True) (V := fun c6 => .pointer (some ⟨c6, 0, none⟩)) (q := fun c6 => [M.It c6 (Q.brV x j) (Q.S.cells (Q.brs w0 w1))]) [A.blk g5 (Q.S.cells (⟨0, (Q.up (Q.up (fun _ => 0) 1 w0) 2 w1), 0, (fun _ => 0), 0, 0⟩)), A.blk g3 ([.int .u32 w0, .int .u32 w1, .int .u32 (W.near n0), .int .u32 (W.near n1)])] (fun c6 => [(g5, (Q.S.cells (⟨0, (Q.up (Q.up (fun _ => 0) 1 w0) 2 w1), 0, (fun _ => 0), 0, 0⟩))), (g3, [.int .u32 w0, .int .u32 w1, .int .u32 (W.near n0), .int .u32 (W.near n1)])]) (fun c6 => [M.It c6 (Q.brV x j) (Q.S.cells (Q.brs w0 w1))]) (COne (⟨(32 + ((j : Nat) : Int)), 1, 2, 0, (Q.far x)⟩ : Q.I) (⟨0, (Q.up (Q.up (fun _ => 0) 1 w0) 2 w1), 0, (fun _ => 0), 0, 0⟩ : Q.S) (Q.far_bd x)) (by kernel_rfl) (A.pm [0, 1] (by kernel_rfl) (by kernel_rfl)) (fun c6 => A.pm [1, 2, 0] (by kernel_rfl) (by kernel_rfl)) (fun w _ => by kernel_rfl) (by kernel_rfl) (fun c6 hd7 => ?_)
            refine E.op (.pointer (some ⟨c6, 0, none⟩)) ?_
            refine E.To.code ?_
            refine E.C.seq ?_
            refine E.sr ?_
            refine E.op (.pointer (some ⟨c6, 0, none⟩)) ?_
            refine E.op (.bool false) ?_
            refine E.To.code ?_
            refine E.C.condF (by kernel_rfl) (by kernel_rfl) ?_
            refine E.C.skip (E.To.code ?_)
            refine E.sr ?_
            refine E.op (.pointer (some ⟨c6, 0, none⟩)) ?_
            refine A.G.call (I := Unit) (D := fun _ => True) (V := fun _ => .agg #[.int .i64 ((Q.runs 1 (Q.brs w0 w1) (Q.brV x j)).2.1), .int .u32 ((Q.runs 1 (Q.brs w0 w1) (Q.brV x j)).2.2.1)]) (q := fun _ => [M.It c6 ((Q.runs 1 (Q.brs w0 w1) (Q.brV x j)).2.2.2) (Q.S.cells ((Q.runs 1 (Q.brs w0 w1) (Q.brV x j)).1))]) [A.blk g5 (Q.S.cells (⟨0, (Q.up (Q.up (fun _ => 0) 1 w0) 2 w1), 0, (fun _ => 0), 0, 0⟩)), A.blk g3 ([.int .u32 w0, .int .u32 w1, .int .u32 (W.near n0), .int .u32 (W.near n1)])] (fun _ => [(g5, (Q.S.cells (⟨0, (Q.up (Q.up (fun _ => 0) 1 w0) 2 w1), 0, (fun _ => 0), 0, 0⟩))), (g3, [.int .u32 w0, .int .u32 w1, .int .u32 (W.near n0), .int .u32 (W.near n1)])]) (fun _ => [M.It c6 ((Q.runs 1 (Q.brs w0 w1) (Q.brV x j)).2.2.2) (Q.S.cells ((Q.runs 1 (Q.brs w0 w1) (Q.brV x j)).1))]) (CRun (c := c6) 1 (Q.brs w0 w1) (Q.brV x j) (by omega) (Q.brs_wf hw0 hw1) (Q.oneV_wf _)) (by kernel_rfl) (A.pm [2, 0, 1] (by kernel_rfl) (by kernel_rfl)) (fun _ => A.pm [1, 2, 0] (by kernel_rfl) (by kernel_rfl)) (fun w _ => by kernel_rfl) (by kernel_rfl) (fun _ hd8 => ?_)
            refine E.tr ?_
            refine E.op (.int .u32 4) ?_
            refine E.To.code ?_
            refine E.C.seq ?_
            refine E.C.quiet (by kernel_rfl) (by kernel_rfl) ?_
            refine E.W.op (.int .i64 (32 + ((j : Nat) : Int))) (fun w => by kernel_rfl) (by kernel_rfl) ?_
            refine E.W.op (.int .i64 0) (fun w => by kernel_rfl) (by kernel_rfl) ?_
            refine E.W.op (.pointer (some ⟨g3, 0, none⟩)) (fun w => by kernel_rfl) (by kernel_rfl) ?_
            refine E.W.op (.pointer (some ⟨g3, 0, none⟩)) (fun w => by kernel_rfl) (by kernel_rfl) ?_
            refine E.W.val (.int .u32 w0) (by kernel_rfl) (fun w h => E.run_load h 1 rfl rfl (by kernel_rfl)) ?_
            refine E.W.op (.int .i64 0) (fun w => by kernel_rfl) (by kernel_rfl) ?_
            refine E.W.op (.pointer (some ⟨g3, 0, none⟩)) (fun w => by kernel_rfl) (by kernel_rfl) ?_
            refine E.W.op (.pointer (some ⟨g3, 1, none⟩)) (fun w => by kernel_rfl) (by kernel_rfl) ?_
            refine E.W.val (.int .u32 w1) (by kernel_rfl) (fun w h => E.run_load h 1 rfl rfl (by kernel_rfl)) ?_
            refine E.W.call (.bool (Q6.taken (32 + ((j : Nat) : Int)) w0 w1)) (fun w h => Taken6_any (32 + ((j : Nat) : Int)) w0 w1 hw0 hw1 w) (fun w _ => by kernel_rfl) (by kernel_rfl) ?_
            refine E.W.op (.bool (Q6.taken (32 + ((j : Nat) : Int)) w0 w1)) (fun w => by kernel_rfl) (by kernel_rfl) ?_
            refine E.W.done (E.To.code ?_)
            refine E.C.seq ?_
            refine E.sr ?_
            refine E.op (.bool (Q6.taken (32 + ((j : Nat) : Int)) w0 w1)) ?_
            refine E.To.code ?_
            refine E.C.cond (Q6.taken (32 + ((j : Nat) : Int)) w0 w1) (by kernel_rfl) (by kernel_rfl) (fun hc9 => ?_) (fun hc9 => ?_)
            · skip
              refine E.C.region ?_
              refine E.op (.int .u32 (Q.far x)) ?_
              refine E.op (.int .u32 (IntKind.wrap .u32 (4 * (Q.far x)))) ?_
              refine E.op (.int .u32 (IntKind.wrap .u32 (4 * (Q.far x)))) ?_
              refine E.tr ?_
              refine E.op (.pointer (some ⟨c6, 0, none⟩)) ?_
              refine E.G.call (Q.S.val ((Q.runs 1 (Q.brs w0 w1) (Q.brV x j)).1)) (fun w h => A.call_rd [A.blk g5 (Q.S.cells (⟨0, (Q.up (Q.up (fun _ => 0) 1 w0) 2 w1), 0, (fun _ => 0), 0, 0⟩)), A.blk g3 ([.int .u32 w0, .int .u32 w1, .int .u32 (W.near n0), .int .u32 (W.near n1)])] (CState (c := c6) (V := (Q.runs 1 (Q.brs w0 w1) (Q.brV x j)).2.2.2) ((Q.runs 1 (Q.brs w0 w1) (Q.brV x j)).1)) h (by kernel_rfl) (A.pm [2, 0, 1] (by kernel_rfl) (by kernel_rfl))) (fun w _ => by kernel_rfl) (by kernel_rfl) ?_
              refine E.op (.int .u32 (((Q.runs 1 (Q.brs w0 w1) (Q.brV x j)).1).pc)) ?_
              refine E.op (.int .u32 (IntKind.wrap .u32 (4 * (Q.far x)))) ?_
              refine E.G.val (.bool false) (by kernel_rfl) (fun w h => E.run_as (a := .bool ((((Q.runs 1 (Q.brs w0 w1) (Q.brV x j)).1).pc) != (IntKind.wrap .u32 (4 * (Q.far x))))) (by kernel_rfl) (congrArg Value.bool (Q.b77t (by assumption) (by assumption)))) ?_
              refine E.op (.bool false) ?_
              refine E.op (.pointer (some ⟨c6, 0, none⟩)) ?_
              refine E.G.call (Q.S.val ((Q.runs 1 (Q.brs w0 w1) (Q.brV x j)).1)) (fun w h => A.call_rd [A.blk g5 (Q.S.cells (⟨0, (Q.up (Q.up (fun _ => 0) 1 w0) 2 w1), 0, (fun _ => 0), 0, 0⟩)), A.blk g3 ([.int .u32 w0, .int .u32 w1, .int .u32 (W.near n0), .int .u32 (W.near n1)])] (CState (c := c6) (V := (Q.runs 1 (Q.brs w0 w1) (Q.brV x j)).2.2.2) ((Q.runs 1 (Q.brs w0 w1) (Q.brV x j)).1)) h (by kernel_rfl) (A.pm [2, 0, 1] (by kernel_rfl) (by kernel_rfl))) (fun w _ => by kernel_rfl) (by kernel_rfl) ?_
              refine E.op (.int .i64 (((Q.runs 1 (Q.brs w0 w1) (Q.brV x j)).1).st)) ?_
              refine E.G.val (.bool false) (by kernel_rfl) (fun w h => E.run_as (a := .bool ((((Q.runs 1 (Q.brs w0 w1) (Q.brV x j)).1).st) != 1)) (by kernel_rfl) (congrArg Value.bool (Q.b82 (by assumption)))) ?_
              refine E.op (.bool false) ?_
              refine E.To.code ?_
              refine E.C.condF (by kernel_rfl) (by kernel_rfl) ?_
              refine E.C.skip (E.P.nb (E.To.code ?_))
              refine A.C.drop [] [M.It c6 ((Q.runs 1 (Q.brs w0 w1) (Q.brV x j)).2.2.2) (Q.S.cells ((Q.runs 1 (Q.brs w0 w1) (Q.brV x j)).1))] (A.pm [0] (by kernel_rfl) (by kernel_rfl)) ?_
              refine E.C.region ?_
              refine E.op (.int .i64 (32 + ((j : Nat) : Int))) ?_
              refine E.G.val (.int .i64 (32 + ((j + 1 : Nat) : Int))) (by kernel_rfl) (fun w h => E.run_as (a := .int .i64 (IntKind.wrap .i64 ((32 + ((j : Nat) : Int)) + 1))) (by kernel_rfl) (congrArg (Value.int .i64) (Q.b37 (by (first | assumption | ((try simp only [Bool.or_eq_false_iff, Bool.or_eq_true, Bool.and_eq_true, Bool.and_eq_false_iff, Bool.not_eq_eq_eq_not, Bool.not_true, Bool.not_false, decide_eq_true_eq, decide_eq_false_iff_not, ge_iff_le, gt_iff_lt] at *); omega)))))) ?_
              refine E.op (.int .i64 (32 + ((j + 1 : Nat) : Int))) ?_
              exact E.To.round (j + 1) (by (first | assumption | ((try simp only [Bool.or_eq_false_iff, Bool.or_eq_true, Bool.and_eq_true, Bool.and_eq_false_iff, Bool.not_eq_eq_eq_not, Bool.not_true, Bool.not_false, decide_eq_true_eq, decide_eq_false_iff_not, ge_iff_le, gt_iff_lt] at *); omega))) ((by (first | assumption | ((try simp only [Bool.or_eq_false_iff, Bool.or_eq_true, Bool.and_eq_true, Bool.and_eq_false_iff, Bool.not_eq_eq_eq_not, Bool.not_true, Bool.not_false, decide_eq_true_eq, decide_eq_false_iff_not, ge_iff_le, gt_iff_lt] at *); omega)))) ⟨by kernel_rfl, by kernel_rfl⟩ (List.Sublist.cons _ (List.Sublist.refl _)) (fun _ h => h)
            · skip
              refine E.C.skip (E.To.code ?_)
              refine E.sr ?_
              refine E.op (.pointer (some ⟨c6, 0, none⟩)) ?_
              refine E.G.call (Q.S.val ((Q.runs 1 (Q.brs w0 w1) (Q.brV x j)).1)) (fun w h => A.call_rd [A.blk g5 (Q.S.cells (⟨0, (Q.up (Q.up (fun _ => 0) 1 w0) 2 w1), 0, (fun _ => 0), 0, 0⟩)), A.blk g3 ([.int .u32 w0, .int .u32 w1, .int .u32 (W.near n0), .int .u32 (W.near n1)])] (CState (c := c6) (V := (Q.runs 1 (Q.brs w0 w1) (Q.brV x j)).2.2.2) ((Q.runs 1 (Q.brs w0 w1) (Q.brV x j)).1)) h (by kernel_rfl) (A.pm [2, 0, 1] (by kernel_rfl) (by kernel_rfl))) (fun w _ => by kernel_rfl) (by kernel_rfl) ?_
              refine E.op (.int .u32 (((Q.runs 1 (Q.brs w0 w1) (Q.brV x j)).1).pc)) ?_
              refine E.op (.int .u32 4) ?_
              refine E.G.val (.bool false) (by kernel_rfl) (fun w h => E.run_as (a := .bool ((((Q.runs 1 (Q.brs w0 w1) (Q.brV x j)).1).pc) != 4)) (by kernel_rfl) (congrArg Value.bool (Q.b77f (by assumption) (by assumption)))) ?_
              refine E.op (.bool false) ?_
              refine E.op (.pointer (some ⟨c6, 0, none⟩)) ?_
              refine E.G.call (Q.S.val ((Q.runs 1 (Q.brs w0 w1) (Q.brV x j)).1)) (fun w h => A.call_rd [A.blk g5 (Q.S.cells (⟨0, (Q.up (Q.up (fun _ => 0) 1 w0) 2 w1), 0, (fun _ => 0), 0, 0⟩)), A.blk g3 ([.int .u32 w0, .int .u32 w1, .int .u32 (W.near n0), .int .u32 (W.near n1)])] (CState (c := c6) (V := (Q.runs 1 (Q.brs w0 w1) (Q.brV x j)).2.2.2) ((Q.runs 1 (Q.brs w0 w1) (Q.brV x j)).1)) h (by kernel_rfl) (A.pm [2, 0, 1] (by kernel_rfl) (by kernel_rfl))) (fun w _ => by kernel_rfl) (by kernel_rfl) ?_
              refine E.op (.int .i64 (((Q.runs 1 (Q.brs w0 w1) (Q.brV x j)).1).st)) ?_
              refine E.G.val (.bool false) (by kernel_rfl) (fun w h => E.run_as (a := .bool ((((Q.runs 1 (Q.brs w0 w1) (Q.brV x j)).1).st) != 1)) (by kernel_rfl) (congrArg Value.bool (Q.b82 (by assumption)))) ?_
              refine E.op (.bool false) ?_
              refine E.To.code ?_
              refine E.C.condF (by kernel_rfl) (by kernel_rfl) ?_
              refine E.C.skip (E.P.nb (E.To.code ?_))
              refine A.C.drop [] [M.It c6 ((Q.runs 1 (Q.brs w0 w1) (Q.brV x j)).2.2.2) (Q.S.cells ((Q.runs 1 (Q.brs w0 w1) (Q.brV x j)).1))] (A.pm [0] (by kernel_rfl) (by kernel_rfl)) ?_
              refine E.C.region ?_
              refine E.op (.int .i64 (32 + ((j : Nat) : Int))) ?_
              refine E.G.val (.int .i64 (32 + ((j + 1 : Nat) : Int))) (by kernel_rfl) (fun w h => E.run_as (a := .int .i64 (IntKind.wrap .i64 ((32 + ((j : Nat) : Int)) + 1))) (by kernel_rfl) (congrArg (Value.int .i64) (Q.b37 (by (first | assumption | ((try simp only [Bool.or_eq_false_iff, Bool.or_eq_true, Bool.and_eq_true, Bool.and_eq_false_iff, Bool.not_eq_eq_eq_not, Bool.not_true, Bool.not_false, decide_eq_true_eq, decide_eq_false_iff_not, ge_iff_le, gt_iff_lt] at *); omega)))))) ?_
              refine E.op (.int .i64 (32 + ((j + 1 : Nat) : Int))) ?_
              exact E.To.round (j + 1) (by (first | assumption | ((try simp only [Bool.or_eq_false_iff, Bool.or_eq_true, Bool.and_eq_true, Bool.and_eq_false_iff, Bool.not_eq_eq_eq_not, Bool.not_true, Bool.not_false, decide_eq_true_eq, decide_eq_false_iff_not, ge_iff_le, gt_iff_lt] at *); omega))) ((by (first | assumption | ((try simp only [Bool.or_eq_false_iff, Bool.or_eq_true, Bool.and_eq_true, Bool.and_eq_false_iff, Bool.not_eq_eq_eq_not, Bool.not_true, Bool.not_false, decide_eq_true_eq, decide_eq_false_iff_not, ge_iff_le, gt_iff_lt] at *); omega)))) ⟨by kernel_rfl, by kernel_rfl⟩ (List.Sublist.cons _ (List.Sublist.refl _)) (fun _ h => h)
          · skip
            refine E.C.exit (E.P.et (E.P.et (E.P.eh (E.P.nb (E.To.code ?_)))))
            refine E.C.region ?_
            refine E.op (.int .i64 0) ?_
            refine E.op (.int .i64 1) ?_
            refine E.op (.int .i64 1) ?_
            refine E.To.rounds 1 ?_
            refine E.C.weak [(6, .bool false), (7, .bool true), (8, .pointer (some ⟨g3, 0, none⟩)), (9, .int .u32 (Q.far x)), (10, .int .i64 1), (11, .int .i64 (32 + ((j : Nat) : Int))), (32, .int .i64 0), (33, .int .i64 1), (34, .int .i64 (32 + ((j : Nat) : Int))), (35, .bool (decide ((32 + ((j : Nat) : Int)) ≤ 37)))] [(g3, [.int .u32 w0, .int .u32 w1, .int .u32 (W.near n0), .int .u32 (W.near n1)])] ⟨by kernel_rfl, by kernel_rfl⟩ (List.Sublist.refl _) ?_
            refine E.C.seq ?_
            refine E.sr ?_
            refine E.op (.int .i64 1) ?_
            refine E.op (.bool true) ?_
            refine E.To.code ?_
            refine E.C.condT (by kernel_rfl) (by kernel_rfl) ?_
            refine E.C.skip (E.To.code ?_)
            refine E.C.seq ?_
            refine E.C.block ?_
            refine E.sr ?_
            refine E.op (.int .i64 32) ?_
            refine E.To.code ?_
            refine E.C.block ?_
            refine E.C.loop (I := Nat) (fun k => 6 - k) (fun k => k ≤ 6) (fun k => [(6, .bool false), (7, .bool true), (8, .pointer (some ⟨g3, 0, none⟩)), (9, .int .u32 (Q.far x)), (10, .int .i64 1), (11, .int .i64 (32 + ((k : Nat) : Int)))]) (fun k => A.X w oo aa []) (fun k => [(g3, [.int .u32 w0, .int .u32 w1, .int .u32 (W.near n0), .int .u32 (W.near n1)])]) 0 ((Nat.zero_le _)) ⟨by kernel_rfl, by kernel_rfl⟩ (List.Sublist.refl _) (fun _ h => h) (fun k hk2 => ?_)
            refine E.C.seq ?_
            refine E.sr ?_
            refine E.op (.int .i64 (32 + ((k : Nat) : Int))) ?_
            refine E.op (.bool (decide ((32 + ((k : Nat) : Int)) ≤ 37))) ?_
            refine E.To.code ?_
            refine E.C.cond (decide ((32 + ((k : Nat) : Int)) ≤ 37)) (by kernel_rfl) (by kernel_rfl) (fun hc10 => ?_) (fun hc10 => ?_)
            · skip
              refine E.C.skip (E.To.code ?_)
              refine E.C.seq ?_
              refine E.C.block ?_
              refine E.sr ?_
              refine E.G.val (Q.S.val (⟨0, (fun _ => 0), 0, (fun _ => 0), 0, 0⟩)) (by kernel_rfl) (fun w h => E.run_build (Q.S.cells ⟨0, (fun _ => 0), 0, (fun _ => 0), 0, 0⟩).toArray (by kernel_rfl) w) ?_
              refine E.G.new (fun g => .pointer (some ⟨g, 0, none⟩)) (Q.S.cells Q.z0) 27 (fun w => by kernel_rfl) (by kernel_rfl) (fun g11 => ?_)
              refine E.G.store 0 (Q.S.cells (⟨0, (fun _ => 0), 0, (fun _ => 0), 0, 0⟩)) rfl rfl (by kernel_rfl) (by kernel_rfl) ?_
              refine E.tr ?_
              refine E.op (.int .i64 1) ?_
              refine E.op (.pointer (some ⟨g3, 2, none⟩)) ?_
              refine E.op (.pointer (some ⟨g3, 2, none⟩)) ?_
              refine E.li (.int .u32 (W.near n0)) 1 rfl rfl ?_
              refine E.op (.pointer (some ⟨g11, 1, none⟩)) ?_
              refine E.op (.pointer (some ⟨g11, 2, none⟩)) ?_
              refine E.G.store 0 (Q.S.cells (⟨0, (Q.up (fun _ => 0) 1 (W.near n0)), 0, (fun _ => 0), 0, 0⟩)) rfl rfl (by kernel_rfl) (by kernel_rfl) ?_
              refine E.tr ?_
              refine E.op (.int .i64 1) ?_
              refine E.op (.pointer (some ⟨g3, 2, none⟩)) ?_
              refine E.op (.pointer (some ⟨g3, 3, none⟩)) ?_
              refine E.li (.int .u32 (W.near n1)) 1 rfl rfl ?_
              refine E.op (.pointer (some ⟨g11, 1, none⟩)) ?_
              refine E.op (.pointer (some ⟨g11, 3, none⟩)) ?_
              refine E.G.store 0 (Q.S.cells (⟨0, (Q.up (Q.up (fun _ => 0) 1 (W.near n0)) 2 (W.near n1)), 0, (fun _ => 0), 0, 0⟩)) rfl rfl (by kernel_rfl) (by kernel_rfl) ?_
              refine E.tr ?_
              refine E.op (.int .i64 (32 + ((k : Nat) : Int))) ?_
              refine E.op (.int .u32 (Q.far x)) ?_
              refine E.G.val (.agg #[.int .i64 (32 + ((k : Nat) : Int)), .int .i64 1, .int .i64 2, .int .i64 0, .int .u32 (Q.far x)]) (by kernel_rfl) (fun w h => E.run_build #[.int .i64 (32 + ((k : Nat) : Int)), .int .i64 1, .int .i64 2, .int .i64 0, .int .u32 (Q.far x)] (by kernel_rfl) w) ?_
              refine E.li (Q.S.val (⟨0, (Q.up (Q.up (fun _ => 0) 1 (W.near n0)) 2 (W.near n1)), 0, (fun _ => 0), 0, 0⟩)) 0 rfl rfl ?_
              refine A.G.call (I := Nat) (D := fun c12 => True) (V := fun c12 => .pointer (some ⟨c12, 0, none⟩)) (q := fun c12 => [M.It c12 (Q.brV x k) (Q.S.cells (Q.brs (W.near n0) (W.near n1)))]) [A.blk g11 (Q.S.cells (⟨0, (Q.up (Q.up (fun _ => 0) 1 (W.near n0)) 2 (W.near n1)), 0, (fun _ => 0), 0, 0⟩)), A.blk g3 ([.int .u32 w0, .int .u32 w1, .int .u32 (W.near n0), .int .u32 (W.near n1)])] (fun c12 => [(g11, (Q.S.cells (⟨0, (Q.up (Q.up (fun _ => 0) 1 (W.near n0)) 2 (W.near n1)), 0, (fun _ => 0), 0, 0⟩))), (g3, [.int .u32 w0, .int .u32 w1, .int .u32 (W.near n0), .int .u32 (W.near n1)])]) (fun c12 => [M.It c12 (Q.brV x k) (Q.S.cells (Q.brs (W.near n0) (W.near n1)))]) (COne (⟨(32 + ((k : Nat) : Int)), 1, 2, 0, (Q.far x)⟩ : Q.I) (⟨0, (Q.up (Q.up (fun _ => 0) 1 (W.near n0)) 2 (W.near n1)), 0, (fun _ => 0), 0, 0⟩ : Q.S) (Q.far_bd x)) (by kernel_rfl) (A.pm [0, 1] (by kernel_rfl) (by kernel_rfl)) (fun c12 => A.pm [1, 2, 0] (by kernel_rfl) (by kernel_rfl)) (fun w _ => by kernel_rfl) (by kernel_rfl) (fun c12 hd13 => ?_)
              refine E.op (.pointer (some ⟨c12, 0, none⟩)) ?_
              refine E.To.code ?_
              refine E.C.seq ?_
              refine E.sr ?_
              refine E.op (.pointer (some ⟨c12, 0, none⟩)) ?_
              refine E.op (.bool false) ?_
              refine E.To.code ?_
              refine E.C.condF (by kernel_rfl) (by kernel_rfl) ?_
              refine E.C.skip (E.To.code ?_)
              refine E.sr ?_
              refine E.op (.pointer (some ⟨c12, 0, none⟩)) ?_
              refine A.G.call (I := Unit) (D := fun _ => True) (V := fun _ => .agg #[.int .i64 ((Q.runs 1 (Q.brs (W.near n0) (W.near n1)) (Q.brV x k)).2.1), .int .u32 ((Q.runs 1 (Q.brs (W.near n0) (W.near n1)) (Q.brV x k)).2.2.1)]) (q := fun _ => [M.It c12 ((Q.runs 1 (Q.brs (W.near n0) (W.near n1)) (Q.brV x k)).2.2.2) (Q.S.cells ((Q.runs 1 (Q.brs (W.near n0) (W.near n1)) (Q.brV x k)).1))]) [A.blk g11 (Q.S.cells (⟨0, (Q.up (Q.up (fun _ => 0) 1 (W.near n0)) 2 (W.near n1)), 0, (fun _ => 0), 0, 0⟩)), A.blk g3 ([.int .u32 w0, .int .u32 w1, .int .u32 (W.near n0), .int .u32 (W.near n1)])] (fun _ => [(g11, (Q.S.cells (⟨0, (Q.up (Q.up (fun _ => 0) 1 (W.near n0)) 2 (W.near n1)), 0, (fun _ => 0), 0, 0⟩))), (g3, [.int .u32 w0, .int .u32 w1, .int .u32 (W.near n0), .int .u32 (W.near n1)])]) (fun _ => [M.It c12 ((Q.runs 1 (Q.brs (W.near n0) (W.near n1)) (Q.brV x k)).2.2.2) (Q.S.cells ((Q.runs 1 (Q.brs (W.near n0) (W.near n1)) (Q.brV x k)).1))]) (CRun (c := c12) 1 (Q.brs (W.near n0) (W.near n1)) (Q.brV x k) (by omega) (Q.brs_wf (W.near_bd n0) (W.near_bd n1)) (Q.oneV_wf _)) (by kernel_rfl) (A.pm [2, 0, 1] (by kernel_rfl) (by kernel_rfl)) (fun _ => A.pm [1, 2, 0] (by kernel_rfl) (by kernel_rfl)) (fun w _ => by kernel_rfl) (by kernel_rfl) (fun _ hd14 => ?_)
              refine E.tr ?_
              refine E.op (.int .u32 4) ?_
              refine E.To.code ?_
              refine E.C.seq ?_
              refine E.C.quiet (by kernel_rfl) (by kernel_rfl) ?_
              refine E.W.op (.int .i64 (32 + ((k : Nat) : Int))) (fun w => by kernel_rfl) (by kernel_rfl) ?_
              refine E.W.op (.int .i64 1) (fun w => by kernel_rfl) (by kernel_rfl) ?_
              refine E.W.op (.pointer (some ⟨g3, 2, none⟩)) (fun w => by kernel_rfl) (by kernel_rfl) ?_
              refine E.W.op (.pointer (some ⟨g3, 2, none⟩)) (fun w => by kernel_rfl) (by kernel_rfl) ?_
              refine E.W.val (.int .u32 (W.near n0)) (by kernel_rfl) (fun w h => E.run_load h 1 rfl rfl (by kernel_rfl)) ?_
              refine E.W.op (.int .i64 1) (fun w => by kernel_rfl) (by kernel_rfl) ?_
              refine E.W.op (.pointer (some ⟨g3, 2, none⟩)) (fun w => by kernel_rfl) (by kernel_rfl) ?_
              refine E.W.op (.pointer (some ⟨g3, 3, none⟩)) (fun w => by kernel_rfl) (by kernel_rfl) ?_
              refine E.W.val (.int .u32 (W.near n1)) (by kernel_rfl) (fun w h => E.run_load h 1 rfl rfl (by kernel_rfl)) ?_
              refine E.W.call (.bool (Q6.taken (32 + ((k : Nat) : Int)) (W.near n0) (W.near n1))) (fun w h => Taken6_any (32 + ((k : Nat) : Int)) (W.near n0) (W.near n1) (W.near_bd n0) (W.near_bd n1) w) (fun w _ => by kernel_rfl) (by kernel_rfl) ?_
              refine E.W.op (.bool (Q6.taken (32 + ((k : Nat) : Int)) (W.near n0) (W.near n1))) (fun w => by kernel_rfl) (by kernel_rfl) ?_
              refine E.W.done (E.To.code ?_)
              refine E.C.seq ?_
              refine E.sr ?_
              refine E.op (.bool (Q6.taken (32 + ((k : Nat) : Int)) (W.near n0) (W.near n1))) ?_
              refine E.To.code ?_
              refine E.C.cond (Q6.taken (32 + ((k : Nat) : Int)) (W.near n0) (W.near n1)) (by kernel_rfl) (by kernel_rfl) (fun hc15 => ?_) (fun hc15 => ?_)
              · skip
                refine E.C.region ?_
                refine E.op (.int .u32 (Q.far x)) ?_
                refine E.op (.int .u32 (IntKind.wrap .u32 (4 * (Q.far x)))) ?_
                refine E.op (.int .u32 (IntKind.wrap .u32 (4 * (Q.far x)))) ?_
                refine E.tr ?_
                refine E.op (.pointer (some ⟨c12, 0, none⟩)) ?_
                refine E.G.call (Q.S.val ((Q.runs 1 (Q.brs (W.near n0) (W.near n1)) (Q.brV x k)).1)) (fun w h => A.call_rd [A.blk g11 (Q.S.cells (⟨0, (Q.up (Q.up (fun _ => 0) 1 (W.near n0)) 2 (W.near n1)), 0, (fun _ => 0), 0, 0⟩)), A.blk g3 ([.int .u32 w0, .int .u32 w1, .int .u32 (W.near n0), .int .u32 (W.near n1)])] (CState (c := c12) (V := (Q.runs 1 (Q.brs (W.near n0) (W.near n1)) (Q.brV x k)).2.2.2) ((Q.runs 1 (Q.brs (W.near n0) (W.near n1)) (Q.brV x k)).1)) h (by kernel_rfl) (A.pm [2, 0, 1] (by kernel_rfl) (by kernel_rfl))) (fun w _ => by kernel_rfl) (by kernel_rfl) ?_
                refine E.op (.int .u32 (((Q.runs 1 (Q.brs (W.near n0) (W.near n1)) (Q.brV x k)).1).pc)) ?_
                refine E.op (.int .u32 (IntKind.wrap .u32 (4 * (Q.far x)))) ?_
                refine E.G.val (.bool false) (by kernel_rfl) (fun w h => E.run_as (a := .bool ((((Q.runs 1 (Q.brs (W.near n0) (W.near n1)) (Q.brV x k)).1).pc) != (IntKind.wrap .u32 (4 * (Q.far x))))) (by kernel_rfl) (congrArg Value.bool (Q.b77t (by assumption) (by assumption)))) ?_
                refine E.op (.bool false) ?_
                refine E.op (.pointer (some ⟨c12, 0, none⟩)) ?_
                refine E.G.call (Q.S.val ((Q.runs 1 (Q.brs (W.near n0) (W.near n1)) (Q.brV x k)).1)) (fun w h => A.call_rd [A.blk g11 (Q.S.cells (⟨0, (Q.up (Q.up (fun _ => 0) 1 (W.near n0)) 2 (W.near n1)), 0, (fun _ => 0), 0, 0⟩)), A.blk g3 ([.int .u32 w0, .int .u32 w1, .int .u32 (W.near n0), .int .u32 (W.near n1)])] (CState (c := c12) (V := (Q.runs 1 (Q.brs (W.near n0) (W.near n1)) (Q.brV x k)).2.2.2) ((Q.runs 1 (Q.brs (W.near n0) (W.near n1)) (Q.brV x k)).1)) h (by kernel_rfl) (A.pm [2, 0, 1] (by kernel_rfl) (by kernel_rfl))) (fun w _ => by kernel_rfl) (by kernel_rfl) ?_
                refine E.op (.int .i64 (((Q.runs 1 (Q.brs (W.near n0) (W.near n1)) (Q.brV x k)).1).st)) ?_
                refine E.G.val (.bool false) (by kernel_rfl) (fun w h => E.run_as (a := .bool ((((Q.runs 1 (Q.brs (W.near n0) (W.near n1)) (Q.brV x k)).1).st) != 1)) (by kernel_rfl) (congrArg Value.bool (Q.b82 (by assumption)))) ?_
                refine E.op (.bool false) ?_
                refine E.To.code ?_
                refine E.C.condF (by kernel_rfl) (by kernel_rfl) ?_
                refine E.C.skip (E.P.nb (E.To.code ?_))
                refine A.C.drop [] [M.It c12 ((Q.runs 1 (Q.brs (W.near n0) (W.near n1)) (Q.brV x k)).2.2.2) (Q.S.cells ((Q.runs 1 (Q.brs (W.near n0) (W.near n1)) (Q.brV x k)).1))] (A.pm [0] (by kernel_rfl) (by kernel_rfl)) ?_
                refine E.C.region ?_
                refine E.op (.int .i64 (32 + ((k : Nat) : Int))) ?_
                refine E.G.val (.int .i64 (32 + ((k + 1 : Nat) : Int))) (by kernel_rfl) (fun w h => E.run_as (a := .int .i64 (IntKind.wrap .i64 ((32 + ((k : Nat) : Int)) + 1))) (by kernel_rfl) (congrArg (Value.int .i64) (Q.b37 (by (first | assumption | ((try simp only [Bool.or_eq_false_iff, Bool.or_eq_true, Bool.and_eq_true, Bool.and_eq_false_iff, Bool.not_eq_eq_eq_not, Bool.not_true, Bool.not_false, decide_eq_true_eq, decide_eq_false_iff_not, ge_iff_le, gt_iff_lt] at *); omega)))))) ?_
                refine E.op (.int .i64 (32 + ((k + 1 : Nat) : Int))) ?_
                exact E.To.round (k + 1) (by (first | assumption | ((try simp only [Bool.or_eq_false_iff, Bool.or_eq_true, Bool.and_eq_true, Bool.and_eq_false_iff, Bool.not_eq_eq_eq_not, Bool.not_true, Bool.not_false, decide_eq_true_eq, decide_eq_false_iff_not, ge_iff_le, gt_iff_lt] at *); omega))) ((by (first | assumption | ((try simp only [Bool.or_eq_false_iff, Bool.or_eq_true, Bool.and_eq_true, Bool.and_eq_false_iff, Bool.not_eq_eq_eq_not, Bool.not_true, Bool.not_false, decide_eq_true_eq, decide_eq_false_iff_not, ge_iff_le, gt_iff_lt] at *); omega)))) ⟨by kernel_rfl, by kernel_rfl⟩ (List.Sublist.cons _ (List.Sublist.refl _)) (fun _ h => h)
              · skip
                refine E.C.skip (E.To.code ?_)
                refine E.sr ?_
                refine E.op (.pointer (some ⟨c12, 0, none⟩)) ?_
                refine E.G.call (Q.S.val ((Q.runs 1 (Q.brs (W.near n0) (W.near n1)) (Q.brV x k)).1)) (fun w h => A.call_rd [A.blk g11 (Q.S.cells (⟨0, (Q.up (Q.up (fun _ => 0) 1 (W.near n0)) 2 (W.near n1)), 0, (fun _ => 0), 0, 0⟩)), A.blk g3 ([.int .u32 w0, .int .u32 w1, .int .u32 (W.near n0), .int .u32 (W.near n1)])] (CState (c := c12) (V := (Q.runs 1 (Q.brs (W.near n0) (W.near n1)) (Q.brV x k)).2.2.2) ((Q.runs 1 (Q.brs (W.near n0) (W.near n1)) (Q.brV x k)).1)) h (by kernel_rfl) (A.pm [2, 0, 1] (by kernel_rfl) (by kernel_rfl))) (fun w _ => by kernel_rfl) (by kernel_rfl) ?_
                refine E.op (.int .u32 (((Q.runs 1 (Q.brs (W.near n0) (W.near n1)) (Q.brV x k)).1).pc)) ?_
                refine E.op (.int .u32 4) ?_
                refine E.G.val (.bool false) (by kernel_rfl) (fun w h => E.run_as (a := .bool ((((Q.runs 1 (Q.brs (W.near n0) (W.near n1)) (Q.brV x k)).1).pc) != 4)) (by kernel_rfl) (congrArg Value.bool (Q.b77f (by assumption) (by assumption)))) ?_
                refine E.op (.bool false) ?_
                refine E.op (.pointer (some ⟨c12, 0, none⟩)) ?_
                refine E.G.call (Q.S.val ((Q.runs 1 (Q.brs (W.near n0) (W.near n1)) (Q.brV x k)).1)) (fun w h => A.call_rd [A.blk g11 (Q.S.cells (⟨0, (Q.up (Q.up (fun _ => 0) 1 (W.near n0)) 2 (W.near n1)), 0, (fun _ => 0), 0, 0⟩)), A.blk g3 ([.int .u32 w0, .int .u32 w1, .int .u32 (W.near n0), .int .u32 (W.near n1)])] (CState (c := c12) (V := (Q.runs 1 (Q.brs (W.near n0) (W.near n1)) (Q.brV x k)).2.2.2) ((Q.runs 1 (Q.brs (W.near n0) (W.near n1)) (Q.brV x k)).1)) h (by kernel_rfl) (A.pm [2, 0, 1] (by kernel_rfl) (by kernel_rfl))) (fun w _ => by kernel_rfl) (by kernel_rfl) ?_
                refine E.op (.int .i64 (((Q.runs 1 (Q.brs (W.near n0) (W.near n1)) (Q.brV x k)).1).st)) ?_
                refine E.G.val (.bool false) (by kernel_rfl) (fun w h => E.run_as (a := .bool ((((Q.runs 1 (Q.brs (W.near n0) (W.near n1)) (Q.brV x k)).1).st) != 1)) (by kernel_rfl) (congrArg Value.bool (Q.b82 (by assumption)))) ?_
                refine E.op (.bool false) ?_
                refine E.To.code ?_
                refine E.C.condF (by kernel_rfl) (by kernel_rfl) ?_
                refine E.C.skip (E.P.nb (E.To.code ?_))
                refine A.C.drop [] [M.It c12 ((Q.runs 1 (Q.brs (W.near n0) (W.near n1)) (Q.brV x k)).2.2.2) (Q.S.cells ((Q.runs 1 (Q.brs (W.near n0) (W.near n1)) (Q.brV x k)).1))] (A.pm [0] (by kernel_rfl) (by kernel_rfl)) ?_
                refine E.C.region ?_
                refine E.op (.int .i64 (32 + ((k : Nat) : Int))) ?_
                refine E.G.val (.int .i64 (32 + ((k + 1 : Nat) : Int))) (by kernel_rfl) (fun w h => E.run_as (a := .int .i64 (IntKind.wrap .i64 ((32 + ((k : Nat) : Int)) + 1))) (by kernel_rfl) (congrArg (Value.int .i64) (Q.b37 (by (first | assumption | ((try simp only [Bool.or_eq_false_iff, Bool.or_eq_true, Bool.and_eq_true, Bool.and_eq_false_iff, Bool.not_eq_eq_eq_not, Bool.not_true, Bool.not_false, decide_eq_true_eq, decide_eq_false_iff_not, ge_iff_le, gt_iff_lt] at *); omega)))))) ?_
                refine E.op (.int .i64 (32 + ((k + 1 : Nat) : Int))) ?_
                exact E.To.round (k + 1) (by (first | assumption | ((try simp only [Bool.or_eq_false_iff, Bool.or_eq_true, Bool.and_eq_true, Bool.and_eq_false_iff, Bool.not_eq_eq_eq_not, Bool.not_true, Bool.not_false, decide_eq_true_eq, decide_eq_false_iff_not, ge_iff_le, gt_iff_lt] at *); omega))) ((by (first | assumption | ((try simp only [Bool.or_eq_false_iff, Bool.or_eq_true, Bool.and_eq_true, Bool.and_eq_false_iff, Bool.not_eq_eq_eq_not, Bool.not_true, Bool.not_false, decide_eq_true_eq, decide_eq_false_iff_not, ge_iff_le, gt_iff_lt] at *); omega)))) ⟨by kernel_rfl, by kernel_rfl⟩ (List.Sublist.cons _ (List.Sublist.refl _)) (fun _ h => h)
            · skip
              refine E.C.exit (E.P.et (E.P.et (E.P.eh (E.P.nb (E.To.code ?_)))))
              refine E.C.region ?_
              refine E.op (.int .i64 1) ?_
              refine E.op (.int .i64 2) ?_
              refine E.op (.int .i64 2) ?_
              refine E.To.rounds 0 ?_
              refine E.C.weak [(6, .bool false), (7, .bool true), (8, .pointer (some ⟨g3, 0, none⟩)), (9, .int .u32 (Q.far x)), (10, .int .i64 2), (11, .int .i64 (32 + ((k : Nat) : Int))), (32, .int .i64 1), (33, .int .i64 2), (34, .int .i64 (32 + ((k : Nat) : Int))), (35, .bool (decide ((32 + ((k : Nat) : Int)) ≤ 37)))] [(g3, [.int .u32 w0, .int .u32 w1, .int .u32 (W.near n0), .int .u32 (W.near n1)])] ⟨by kernel_rfl, by kernel_rfl⟩ (List.Sublist.refl _) ?_
              refine E.C.seq ?_
              refine E.sr ?_
              refine E.op (.int .i64 2) ?_
              refine E.op (.bool false) ?_
              refine E.To.code ?_
              refine E.C.condF (by kernel_rfl) (by kernel_rfl) ?_
              refine E.C.exit (E.P.et (E.P.et (E.P.eh (E.To.code ?_))))
              refine E.C.weak [(6, .bool false), (7, .bool true)] [] ⟨by kernel_rfl, by kernel_rfl⟩ (List.nil_sublist _) ?_
              refine E.sr ?_
              refine E.op (.bool true) ?_
              refine E.op (.bool true) ?_
              refine E.To.code ?_
              refine E.C.ret (E.To.body (fn := Try.f7) [.bool true] ?_ ?_)
              · exact ⟨⟨by kernel_rfl, by kernel_rfl⟩, trivial⟩
              · intro w h
                exact ⟨rfl, h.ch.bel (fun x hx => (hh.1 x hx).elim)⟩
    · skip
      refine E.G.new (fun g => .pointer (some ⟨g, 0, none⟩)) [.int .u32 0, .int .u32 0, .int .u32 0, .int .u32 0] 66 (fun w => by kernel_rfl) (by kernel_rfl) (fun g16 => ?_)
      refine E.H.back (fun w h => h.less (List.Sublist.cons _ (List.Sublist.refl _))) ?_
      refine E.H.all [6] (by kernel_rfl) (by simp) (List.forall_mem_cons.2 ⟨⟨_, rfl, ?_⟩, fun _ h => (List.not_mem_nil h).elim⟩)
      · skip
        refine E.G.call (.int .u32 (W.near n1)) (fun w h => near_all n1 hn1 w) (fun w _ => by kernel_rfl) (by kernel_rfl) ?_
        refine E.H.back (fun w h => h.less (List.Sublist.cons _ (List.Sublist.refl _))) ?_
        refine E.H.take 7 (.agg #[.int .u32 (W.near n0), .int .u32 (W.near n1)]) rfl (by kernel_rfl) (by kernel_rfl) (by kernel_rfl) (fun _ _ _ h => h) (fun w h => h.less (List.Sublist.cons _ (List.Sublist.refl _))) (.inl ⟨by kernel_rfl, by kernel_rfl, fun w h => E.run_build #[.int .u32 (W.near n0), .int .u32 (W.near n1)] (by kernel_rfl) w⟩) (by kernel_rfl) ?_
        refine E.H.take 8 (.agg #[.int .u32 w0, .int .u32 w1, .int .u32 (W.near n0), .int .u32 (W.near n1)]) rfl (by kernel_rfl) (by kernel_rfl) (by kernel_rfl) (fun _ _ _ h => h) (fun w h => h.less (List.Sublist.cons _ (List.Sublist.refl _))) (.inl ⟨by kernel_rfl, by kernel_rfl, fun w h => E.run_build #[.int .u32 w0, .int .u32 w1, .int .u32 (W.near n0), .int .u32 (W.near n1)] (by kernel_rfl) w⟩) (by kernel_rfl) ?_
        refine E.H.all [10] (by kernel_rfl) (by simp) (List.forall_mem_cons.2 ⟨⟨_, rfl, ?_⟩, fun _ h => (List.not_mem_nil h).elim⟩)
        · skip
          refine E.G.store 0 [.int .u32 w0, .int .u32 w1, .int .u32 (W.near n0), .int .u32 (W.near n1)] rfl rfl (by kernel_rfl) (by kernel_rfl) ?_
          refine E.H.back (fun w h => h.less (List.Sublist.cons _ (List.Sublist.refl _))) ?_
          refine E.H.done (by kernel_rfl) ?_
          refine E.To.code ?_
          refine E.C.weak [(2, .int .i64 x), (6, .bool false), (7, .bool true), (8, .pointer (some ⟨g16, 0, none⟩))] [(g16, [.int .u32 w0, .int .u32 w1, .int .u32 (W.near n0), .int .u32 (W.near n1)])] ⟨by kernel_rfl, by kernel_rfl⟩ (List.Sublist.cons_cons _ (List.nil_sublist _)) ?_
          refine E.sr ?_
          refine E.op (.int .i64 x) ?_
          refine E.G.call (.int .i64 (x % 262144)) (fun w h => Mod_any x 262144 hx (by decide) w) (fun w _ => by kernel_rfl) (by kernel_rfl) ?_
          refine E.op (.int .u32 (IntKind.wrap .u32 (x % 262144))) ?_
          refine E.G.call (.int .u32 (Q.far x)) (fun w h => rSign_any (IntKind.wrap .u32 (x % 262144)) 18 (Q.wrap_bd _).1 (Q.wrap_bd _).2 (by omega) (by omega) w) (fun w _ => by kernel_rfl) (by kernel_rfl) ?_
          refine E.op (.int .u32 (Q.far x)) ?_
          refine E.To.code ?_
          refine E.C.seq ?_
          refine E.sr ?_
          refine E.op (.int .i64 0) ?_
          refine E.To.code ?_
          refine E.C.block ?_
          refine E.C.rounds 2 ?_
          refine E.C.seq ?_
          refine E.sr ?_
          refine E.op (.int .i64 0) ?_
          refine E.op (.bool true) ?_
          refine E.To.code ?_
          refine E.C.condT (by kernel_rfl) (by kernel_rfl) ?_
          refine E.C.skip (E.To.code ?_)
          refine E.C.seq ?_
          refine E.C.block ?_
          refine E.sr ?_
          refine E.op (.int .i64 32) ?_
          refine E.To.code ?_
          refine E.C.block ?_
          refine E.C.loop (I := Nat) (fun j => 6 - j) (fun j => j ≤ 6) (fun j => [(6, .bool false), (7, .bool true), (8, .pointer (some ⟨g16, 0, none⟩)), (9, .int .u32 (Q.far x)), (10, .int .i64 0), (11, .int .i64 (32 + ((j : Nat) : Int)))]) (fun j => A.X w oo aa []) (fun j => [(g16, [.int .u32 w0, .int .u32 w1, .int .u32 (W.near n0), .int .u32 (W.near n1)])]) 0 ((Nat.zero_le _)) ⟨by kernel_rfl, by kernel_rfl⟩ (List.Sublist.refl _) (fun _ h => h) (fun j hk3 => ?_)
          refine E.C.seq ?_
          refine E.sr ?_
          refine E.op (.int .i64 (32 + ((j : Nat) : Int))) ?_
          refine E.op (.bool (decide ((32 + ((j : Nat) : Int)) ≤ 37))) ?_
          refine E.To.code ?_
          refine E.C.cond (decide ((32 + ((j : Nat) : Int)) ≤ 37)) (by kernel_rfl) (by kernel_rfl) (fun hc17 => ?_) (fun hc17 => ?_)
          · skip
            refine E.C.skip (E.To.code ?_)
            refine E.C.seq ?_
            refine E.C.block ?_
            refine E.sr ?_
            refine E.G.val (Q.S.val (⟨0, (fun _ => 0), 0, (fun _ => 0), 0, 0⟩)) (by kernel_rfl) (fun w h => E.run_build (Q.S.cells ⟨0, (fun _ => 0), 0, (fun _ => 0), 0, 0⟩).toArray (by kernel_rfl) w) ?_
            refine E.G.new (fun g => .pointer (some ⟨g, 0, none⟩)) (Q.S.cells Q.z0) 27 (fun w => by kernel_rfl) (by kernel_rfl) (fun g18 => ?_)
            refine E.G.store 0 (Q.S.cells (⟨0, (fun _ => 0), 0, (fun _ => 0), 0, 0⟩)) rfl rfl (by kernel_rfl) (by kernel_rfl) ?_
            refine E.tr ?_
            refine E.op (.int .i64 0) ?_
            refine E.op (.pointer (some ⟨g16, 0, none⟩)) ?_
            refine E.op (.pointer (some ⟨g16, 0, none⟩)) ?_
            refine E.li (.int .u32 w0) 1 rfl rfl ?_
            refine E.op (.pointer (some ⟨g18, 1, none⟩)) ?_
            refine E.op (.pointer (some ⟨g18, 2, none⟩)) ?_
            refine E.G.store 0 (Q.S.cells (⟨0, (Q.up (fun _ => 0) 1 w0), 0, (fun _ => 0), 0, 0⟩)) rfl rfl (by kernel_rfl) (by kernel_rfl) ?_
            refine E.tr ?_
            refine E.op (.int .i64 0) ?_
            refine E.op (.pointer (some ⟨g16, 0, none⟩)) ?_
            refine E.op (.pointer (some ⟨g16, 1, none⟩)) ?_
            refine E.li (.int .u32 w1) 1 rfl rfl ?_
            refine E.op (.pointer (some ⟨g18, 1, none⟩)) ?_
            refine E.op (.pointer (some ⟨g18, 3, none⟩)) ?_
            refine E.G.store 0 (Q.S.cells (⟨0, (Q.up (Q.up (fun _ => 0) 1 w0) 2 w1), 0, (fun _ => 0), 0, 0⟩)) rfl rfl (by kernel_rfl) (by kernel_rfl) ?_
            refine E.tr ?_
            refine E.op (.int .i64 (32 + ((j : Nat) : Int))) ?_
            refine E.op (.int .u32 (Q.far x)) ?_
            refine E.G.val (.agg #[.int .i64 (32 + ((j : Nat) : Int)), .int .i64 1, .int .i64 2, .int .i64 0, .int .u32 (Q.far x)]) (by kernel_rfl) (fun w h => E.run_build #[.int .i64 (32 + ((j : Nat) : Int)), .int .i64 1, .int .i64 2, .int .i64 0, .int .u32 (Q.far x)] (by kernel_rfl) w) ?_
            refine E.li (Q.S.val (⟨0, (Q.up (Q.up (fun _ => 0) 1 w0) 2 w1), 0, (fun _ => 0), 0, 0⟩)) 0 rfl rfl ?_
            refine A.G.call (I := Nat) (D := fun c19 => True) (V := fun c19 => .pointer (some ⟨c19, 0, none⟩)) (q := fun c19 => [M.It c19 (Q.brV x j) (Q.S.cells (Q.brs w0 w1))]) [A.blk g18 (Q.S.cells (⟨0, (Q.up (Q.up (fun _ => 0) 1 w0) 2 w1), 0, (fun _ => 0), 0, 0⟩)), A.blk g16 ([.int .u32 w0, .int .u32 w1, .int .u32 (W.near n0), .int .u32 (W.near n1)])] (fun c19 => [(g18, (Q.S.cells (⟨0, (Q.up (Q.up (fun _ => 0) 1 w0) 2 w1), 0, (fun _ => 0), 0, 0⟩))), (g16, [.int .u32 w0, .int .u32 w1, .int .u32 (W.near n0), .int .u32 (W.near n1)])]) (fun c19 => [M.It c19 (Q.brV x j) (Q.S.cells (Q.brs w0 w1))]) (COne (⟨(32 + ((j : Nat) : Int)), 1, 2, 0, (Q.far x)⟩ : Q.I) (⟨0, (Q.up (Q.up (fun _ => 0) 1 w0) 2 w1), 0, (fun _ => 0), 0, 0⟩ : Q.S) (Q.far_bd x)) (by kernel_rfl) (A.pm [0, 1] (by kernel_rfl) (by kernel_rfl)) (fun c19 => A.pm [1, 2, 0] (by kernel_rfl) (by kernel_rfl)) (fun w _ => by kernel_rfl) (by kernel_rfl) (fun c19 hd20 => ?_)
            refine E.op (.pointer (some ⟨c19, 0, none⟩)) ?_
            refine E.To.code ?_
            refine E.C.seq ?_
            refine E.sr ?_
            refine E.op (.pointer (some ⟨c19, 0, none⟩)) ?_
            refine E.op (.bool false) ?_
            refine E.To.code ?_
            refine E.C.condF (by kernel_rfl) (by kernel_rfl) ?_
            refine E.C.skip (E.To.code ?_)
            refine E.sr ?_
            refine E.op (.pointer (some ⟨c19, 0, none⟩)) ?_
            refine A.G.call (I := Unit) (D := fun _ => True) (V := fun _ => .agg #[.int .i64 ((Q.runs 1 (Q.brs w0 w1) (Q.brV x j)).2.1), .int .u32 ((Q.runs 1 (Q.brs w0 w1) (Q.brV x j)).2.2.1)]) (q := fun _ => [M.It c19 ((Q.runs 1 (Q.brs w0 w1) (Q.brV x j)).2.2.2) (Q.S.cells ((Q.runs 1 (Q.brs w0 w1) (Q.brV x j)).1))]) [A.blk g18 (Q.S.cells (⟨0, (Q.up (Q.up (fun _ => 0) 1 w0) 2 w1), 0, (fun _ => 0), 0, 0⟩)), A.blk g16 ([.int .u32 w0, .int .u32 w1, .int .u32 (W.near n0), .int .u32 (W.near n1)])] (fun _ => [(g18, (Q.S.cells (⟨0, (Q.up (Q.up (fun _ => 0) 1 w0) 2 w1), 0, (fun _ => 0), 0, 0⟩))), (g16, [.int .u32 w0, .int .u32 w1, .int .u32 (W.near n0), .int .u32 (W.near n1)])]) (fun _ => [M.It c19 ((Q.runs 1 (Q.brs w0 w1) (Q.brV x j)).2.2.2) (Q.S.cells ((Q.runs 1 (Q.brs w0 w1) (Q.brV x j)).1))]) (CRun (c := c19) 1 (Q.brs w0 w1) (Q.brV x j) (by omega) (Q.brs_wf hw0 hw1) (Q.oneV_wf _)) (by kernel_rfl) (A.pm [2, 0, 1] (by kernel_rfl) (by kernel_rfl)) (fun _ => A.pm [1, 2, 0] (by kernel_rfl) (by kernel_rfl)) (fun w _ => by kernel_rfl) (by kernel_rfl) (fun _ hd21 => ?_)
            refine E.tr ?_
            refine E.op (.int .u32 4) ?_
            refine E.To.code ?_
            refine E.C.seq ?_
            refine E.C.quiet (by kernel_rfl) (by kernel_rfl) ?_
            refine E.W.op (.int .i64 (32 + ((j : Nat) : Int))) (fun w => by kernel_rfl) (by kernel_rfl) ?_
            refine E.W.op (.int .i64 0) (fun w => by kernel_rfl) (by kernel_rfl) ?_
            refine E.W.op (.pointer (some ⟨g16, 0, none⟩)) (fun w => by kernel_rfl) (by kernel_rfl) ?_
            refine E.W.op (.pointer (some ⟨g16, 0, none⟩)) (fun w => by kernel_rfl) (by kernel_rfl) ?_
            refine E.W.val (.int .u32 w0) (by kernel_rfl) (fun w h => E.run_load h 1 rfl rfl (by kernel_rfl)) ?_
            refine E.W.op (.int .i64 0) (fun w => by kernel_rfl) (by kernel_rfl) ?_
            refine E.W.op (.pointer (some ⟨g16, 0, none⟩)) (fun w => by kernel_rfl) (by kernel_rfl) ?_
            refine E.W.op (.pointer (some ⟨g16, 1, none⟩)) (fun w => by kernel_rfl) (by kernel_rfl) ?_
            refine E.W.val (.int .u32 w1) (by kernel_rfl) (fun w h => E.run_load h 1 rfl rfl (by kernel_rfl)) ?_
            refine E.W.call (.bool (Q6.taken (32 + ((j : Nat) : Int)) w0 w1)) (fun w h => Taken6_any (32 + ((j : Nat) : Int)) w0 w1 hw0 hw1 w) (fun w _ => by kernel_rfl) (by kernel_rfl) ?_
            refine E.W.op (.bool (Q6.taken (32 + ((j : Nat) : Int)) w0 w1)) (fun w => by kernel_rfl) (by kernel_rfl) ?_
            refine E.W.done (E.To.code ?_)
            refine E.C.seq ?_
            refine E.sr ?_
            refine E.op (.bool (Q6.taken (32 + ((j : Nat) : Int)) w0 w1)) ?_
            refine E.To.code ?_
            refine E.C.cond (Q6.taken (32 + ((j : Nat) : Int)) w0 w1) (by kernel_rfl) (by kernel_rfl) (fun hc22 => ?_) (fun hc22 => ?_)
            · skip
              refine E.C.region ?_
              refine E.op (.int .u32 (Q.far x)) ?_
              refine E.op (.int .u32 (IntKind.wrap .u32 (4 * (Q.far x)))) ?_
              refine E.op (.int .u32 (IntKind.wrap .u32 (4 * (Q.far x)))) ?_
              refine E.tr ?_
              refine E.op (.pointer (some ⟨c19, 0, none⟩)) ?_
              refine E.G.call (Q.S.val ((Q.runs 1 (Q.brs w0 w1) (Q.brV x j)).1)) (fun w h => A.call_rd [A.blk g18 (Q.S.cells (⟨0, (Q.up (Q.up (fun _ => 0) 1 w0) 2 w1), 0, (fun _ => 0), 0, 0⟩)), A.blk g16 ([.int .u32 w0, .int .u32 w1, .int .u32 (W.near n0), .int .u32 (W.near n1)])] (CState (c := c19) (V := (Q.runs 1 (Q.brs w0 w1) (Q.brV x j)).2.2.2) ((Q.runs 1 (Q.brs w0 w1) (Q.brV x j)).1)) h (by kernel_rfl) (A.pm [2, 0, 1] (by kernel_rfl) (by kernel_rfl))) (fun w _ => by kernel_rfl) (by kernel_rfl) ?_
              refine E.op (.int .u32 (((Q.runs 1 (Q.brs w0 w1) (Q.brV x j)).1).pc)) ?_
              refine E.op (.int .u32 (IntKind.wrap .u32 (4 * (Q.far x)))) ?_
              refine E.G.val (.bool false) (by kernel_rfl) (fun w h => E.run_as (a := .bool ((((Q.runs 1 (Q.brs w0 w1) (Q.brV x j)).1).pc) != (IntKind.wrap .u32 (4 * (Q.far x))))) (by kernel_rfl) (congrArg Value.bool (Q.b77t (by assumption) (by assumption)))) ?_
              refine E.op (.bool false) ?_
              refine E.op (.pointer (some ⟨c19, 0, none⟩)) ?_
              refine E.G.call (Q.S.val ((Q.runs 1 (Q.brs w0 w1) (Q.brV x j)).1)) (fun w h => A.call_rd [A.blk g18 (Q.S.cells (⟨0, (Q.up (Q.up (fun _ => 0) 1 w0) 2 w1), 0, (fun _ => 0), 0, 0⟩)), A.blk g16 ([.int .u32 w0, .int .u32 w1, .int .u32 (W.near n0), .int .u32 (W.near n1)])] (CState (c := c19) (V := (Q.runs 1 (Q.brs w0 w1) (Q.brV x j)).2.2.2) ((Q.runs 1 (Q.brs w0 w1) (Q.brV x j)).1)) h (by kernel_rfl) (A.pm [2, 0, 1] (by kernel_rfl) (by kernel_rfl))) (fun w _ => by kernel_rfl) (by kernel_rfl) ?_
              refine E.op (.int .i64 (((Q.runs 1 (Q.brs w0 w1) (Q.brV x j)).1).st)) ?_
              refine E.G.val (.bool false) (by kernel_rfl) (fun w h => E.run_as (a := .bool ((((Q.runs 1 (Q.brs w0 w1) (Q.brV x j)).1).st) != 1)) (by kernel_rfl) (congrArg Value.bool (Q.b82 (by assumption)))) ?_
              refine E.op (.bool false) ?_
              refine E.To.code ?_
              refine E.C.condF (by kernel_rfl) (by kernel_rfl) ?_
              refine E.C.skip (E.P.nb (E.To.code ?_))
              refine A.C.drop [] [M.It c19 ((Q.runs 1 (Q.brs w0 w1) (Q.brV x j)).2.2.2) (Q.S.cells ((Q.runs 1 (Q.brs w0 w1) (Q.brV x j)).1))] (A.pm [0] (by kernel_rfl) (by kernel_rfl)) ?_
              refine E.C.region ?_
              refine E.op (.int .i64 (32 + ((j : Nat) : Int))) ?_
              refine E.G.val (.int .i64 (32 + ((j + 1 : Nat) : Int))) (by kernel_rfl) (fun w h => E.run_as (a := .int .i64 (IntKind.wrap .i64 ((32 + ((j : Nat) : Int)) + 1))) (by kernel_rfl) (congrArg (Value.int .i64) (Q.b37 (by (first | assumption | ((try simp only [Bool.or_eq_false_iff, Bool.or_eq_true, Bool.and_eq_true, Bool.and_eq_false_iff, Bool.not_eq_eq_eq_not, Bool.not_true, Bool.not_false, decide_eq_true_eq, decide_eq_false_iff_not, ge_iff_le, gt_iff_lt] at *); omega)))))) ?_
              refine E.op (.int .i64 (32 + ((j + 1 : Nat) : Int))) ?_
              exact E.To.round (j + 1) (by (first | assumption | ((try simp only [Bool.or_eq_false_iff, Bool.or_eq_true, Bool.and_eq_true, Bool.and_eq_false_iff, Bool.not_eq_eq_eq_not, Bool.not_true, Bool.not_false, decide_eq_true_eq, decide_eq_false_iff_not, ge_iff_le, gt_iff_lt] at *); omega))) ((by (first | assumption | ((try simp only [Bool.or_eq_false_iff, Bool.or_eq_true, Bool.and_eq_true, Bool.and_eq_false_iff, Bool.not_eq_eq_eq_not, Bool.not_true, Bool.not_false, decide_eq_true_eq, decide_eq_false_iff_not, ge_iff_le, gt_iff_lt] at *); omega)))) ⟨by kernel_rfl, by kernel_rfl⟩ (List.Sublist.cons _ (List.Sublist.refl _)) (fun _ h => h)
            · skip
              refine E.C.skip (E.To.code ?_)
              refine E.sr ?_
              refine E.op (.pointer (some ⟨c19, 0, none⟩)) ?_
              refine E.G.call (Q.S.val ((Q.runs 1 (Q.brs w0 w1) (Q.brV x j)).1)) (fun w h => A.call_rd [A.blk g18 (Q.S.cells (⟨0, (Q.up (Q.up (fun _ => 0) 1 w0) 2 w1), 0, (fun _ => 0), 0, 0⟩)), A.blk g16 ([.int .u32 w0, .int .u32 w1, .int .u32 (W.near n0), .int .u32 (W.near n1)])] (CState (c := c19) (V := (Q.runs 1 (Q.brs w0 w1) (Q.brV x j)).2.2.2) ((Q.runs 1 (Q.brs w0 w1) (Q.brV x j)).1)) h (by kernel_rfl) (A.pm [2, 0, 1] (by kernel_rfl) (by kernel_rfl))) (fun w _ => by kernel_rfl) (by kernel_rfl) ?_
              refine E.op (.int .u32 (((Q.runs 1 (Q.brs w0 w1) (Q.brV x j)).1).pc)) ?_
              refine E.op (.int .u32 4) ?_
              refine E.G.val (.bool false) (by kernel_rfl) (fun w h => E.run_as (a := .bool ((((Q.runs 1 (Q.brs w0 w1) (Q.brV x j)).1).pc) != 4)) (by kernel_rfl) (congrArg Value.bool (Q.b77f (by assumption) (by assumption)))) ?_
              refine E.op (.bool false) ?_
              refine E.op (.pointer (some ⟨c19, 0, none⟩)) ?_
              refine E.G.call (Q.S.val ((Q.runs 1 (Q.brs w0 w1) (Q.brV x j)).1)) (fun w h => A.call_rd [A.blk g18 (Q.S.cells (⟨0, (Q.up (Q.up (fun _ => 0) 1 w0) 2 w1), 0, (fun _ => 0), 0, 0⟩)), A.blk g16 ([.int .u32 w0, .int .u32 w1, .int .u32 (W.near n0), .int .u32 (W.near n1)])] (CState (c := c19) (V := (Q.runs 1 (Q.brs w0 w1) (Q.brV x j)).2.2.2) ((Q.runs 1 (Q.brs w0 w1) (Q.brV x j)).1)) h (by kernel_rfl) (A.pm [2, 0, 1] (by kernel_rfl) (by kernel_rfl))) (fun w _ => by kernel_rfl) (by kernel_rfl) ?_
              refine E.op (.int .i64 (((Q.runs 1 (Q.brs w0 w1) (Q.brV x j)).1).st)) ?_
              refine E.G.val (.bool false) (by kernel_rfl) (fun w h => E.run_as (a := .bool ((((Q.runs 1 (Q.brs w0 w1) (Q.brV x j)).1).st) != 1)) (by kernel_rfl) (congrArg Value.bool (Q.b82 (by assumption)))) ?_
              refine E.op (.bool false) ?_
              refine E.To.code ?_
              refine E.C.condF (by kernel_rfl) (by kernel_rfl) ?_
              refine E.C.skip (E.P.nb (E.To.code ?_))
              refine A.C.drop [] [M.It c19 ((Q.runs 1 (Q.brs w0 w1) (Q.brV x j)).2.2.2) (Q.S.cells ((Q.runs 1 (Q.brs w0 w1) (Q.brV x j)).1))] (A.pm [0] (by kernel_rfl) (by kernel_rfl)) ?_
              refine E.C.region ?_
              refine E.op (.int .i64 (32 + ((j : Nat) : Int))) ?_
              refine E.G.val (.int .i64 (32 + ((j + 1 : Nat) : Int))) (by kernel_rfl) (fun w h => E.run_as (a := .int .i64 (IntKind.wrap .i64 ((32 + ((j : Nat) : Int)) + 1))) (by kernel_rfl) (congrArg (Value.int .i64) (Q.b37 (by (first | assumption | ((try simp only [Bool.or_eq_false_iff, Bool.or_eq_true, Bool.and_eq_true, Bool.and_eq_false_iff, Bool.not_eq_eq_eq_not, Bool.not_true, Bool.not_false, decide_eq_true_eq, decide_eq_false_iff_not, ge_iff_le, gt_iff_lt] at *); omega)))))) ?_
              refine E.op (.int .i64 (32 + ((j + 1 : Nat) : Int))) ?_
              exact E.To.round (j + 1) (by (first | assumption | ((try simp only [Bool.or_eq_false_iff, Bool.or_eq_true, Bool.and_eq_true, Bool.and_eq_false_iff, Bool.not_eq_eq_eq_not, Bool.not_true, Bool.not_false, decide_eq_true_eq, decide_eq_false_iff_not, ge_iff_le, gt_iff_lt] at *); omega))) ((by (first | assumption | ((try simp only [Bool.or_eq_false_iff, Bool.or_eq_true, Bool.and_eq_true, Bool.and_eq_false_iff, Bool.not_eq_eq_eq_not, Bool.not_true, Bool.not_false, decide_eq_true_eq, decide_eq_false_iff_not, ge_iff_le, gt_iff_lt] at *); omega)))) ⟨by kernel_rfl, by kernel_rfl⟩ (List.Sublist.cons _ (List.Sublist.refl _)) (fun _ h => h)
          · skip
            refine E.C.exit (E.P.et (E.P.et (E.P.eh (E.P.nb (E.To.code ?_)))))
            refine E.C.region ?_
            refine E.op (.int .i64 0) ?_
            refine E.op (.int .i64 1) ?_
            refine E.op (.int .i64 1) ?_
            refine E.To.rounds 1 ?_
            refine E.C.weak [(6, .bool false), (7, .bool true), (8, .pointer (some ⟨g16, 0, none⟩)), (9, .int .u32 (Q.far x)), (10, .int .i64 1), (11, .int .i64 (32 + ((j : Nat) : Int))), (32, .int .i64 0), (33, .int .i64 1), (34, .int .i64 (32 + ((j : Nat) : Int))), (35, .bool (decide ((32 + ((j : Nat) : Int)) ≤ 37)))] [(g16, [.int .u32 w0, .int .u32 w1, .int .u32 (W.near n0), .int .u32 (W.near n1)])] ⟨by kernel_rfl, by kernel_rfl⟩ (List.Sublist.refl _) ?_
            refine E.C.seq ?_
            refine E.sr ?_
            refine E.op (.int .i64 1) ?_
            refine E.op (.bool true) ?_
            refine E.To.code ?_
            refine E.C.condT (by kernel_rfl) (by kernel_rfl) ?_
            refine E.C.skip (E.To.code ?_)
            refine E.C.seq ?_
            refine E.C.block ?_
            refine E.sr ?_
            refine E.op (.int .i64 32) ?_
            refine E.To.code ?_
            refine E.C.block ?_
            refine E.C.loop (I := Nat) (fun k => 6 - k) (fun k => k ≤ 6) (fun k => [(6, .bool false), (7, .bool true), (8, .pointer (some ⟨g16, 0, none⟩)), (9, .int .u32 (Q.far x)), (10, .int .i64 1), (11, .int .i64 (32 + ((k : Nat) : Int)))]) (fun k => A.X w oo aa []) (fun k => [(g16, [.int .u32 w0, .int .u32 w1, .int .u32 (W.near n0), .int .u32 (W.near n1)])]) 0 ((Nat.zero_le _)) ⟨by kernel_rfl, by kernel_rfl⟩ (List.Sublist.refl _) (fun _ h => h) (fun k hk4 => ?_)
            refine E.C.seq ?_
            refine E.sr ?_
            refine E.op (.int .i64 (32 + ((k : Nat) : Int))) ?_
            refine E.op (.bool (decide ((32 + ((k : Nat) : Int)) ≤ 37))) ?_
            refine E.To.code ?_
            refine E.C.cond (decide ((32 + ((k : Nat) : Int)) ≤ 37)) (by kernel_rfl) (by kernel_rfl) (fun hc23 => ?_) (fun hc23 => ?_)
            · skip
              refine E.C.skip (E.To.code ?_)
              refine E.C.seq ?_
              refine E.C.block ?_
              refine E.sr ?_
              refine E.G.val (Q.S.val (⟨0, (fun _ => 0), 0, (fun _ => 0), 0, 0⟩)) (by kernel_rfl) (fun w h => E.run_build (Q.S.cells ⟨0, (fun _ => 0), 0, (fun _ => 0), 0, 0⟩).toArray (by kernel_rfl) w) ?_
              refine E.G.new (fun g => .pointer (some ⟨g, 0, none⟩)) (Q.S.cells Q.z0) 27 (fun w => by kernel_rfl) (by kernel_rfl) (fun g24 => ?_)
              refine E.G.store 0 (Q.S.cells (⟨0, (fun _ => 0), 0, (fun _ => 0), 0, 0⟩)) rfl rfl (by kernel_rfl) (by kernel_rfl) ?_
              refine E.tr ?_
              refine E.op (.int .i64 1) ?_
              refine E.op (.pointer (some ⟨g16, 2, none⟩)) ?_
              refine E.op (.pointer (some ⟨g16, 2, none⟩)) ?_
              refine E.li (.int .u32 (W.near n0)) 1 rfl rfl ?_
              refine E.op (.pointer (some ⟨g24, 1, none⟩)) ?_
              refine E.op (.pointer (some ⟨g24, 2, none⟩)) ?_
              refine E.G.store 0 (Q.S.cells (⟨0, (Q.up (fun _ => 0) 1 (W.near n0)), 0, (fun _ => 0), 0, 0⟩)) rfl rfl (by kernel_rfl) (by kernel_rfl) ?_
              refine E.tr ?_
              refine E.op (.int .i64 1) ?_
              refine E.op (.pointer (some ⟨g16, 2, none⟩)) ?_
              refine E.op (.pointer (some ⟨g16, 3, none⟩)) ?_
              refine E.li (.int .u32 (W.near n1)) 1 rfl rfl ?_
              refine E.op (.pointer (some ⟨g24, 1, none⟩)) ?_
              refine E.op (.pointer (some ⟨g24, 3, none⟩)) ?_
              refine E.G.store 0 (Q.S.cells (⟨0, (Q.up (Q.up (fun _ => 0) 1 (W.near n0)) 2 (W.near n1)), 0, (fun _ => 0), 0, 0⟩)) rfl rfl (by kernel_rfl) (by kernel_rfl) ?_
              refine E.tr ?_
              refine E.op (.int .i64 (32 + ((k : Nat) : Int))) ?_
              refine E.op (.int .u32 (Q.far x)) ?_
              refine E.G.val (.agg #[.int .i64 (32 + ((k : Nat) : Int)), .int .i64 1, .int .i64 2, .int .i64 0, .int .u32 (Q.far x)]) (by kernel_rfl) (fun w h => E.run_build #[.int .i64 (32 + ((k : Nat) : Int)), .int .i64 1, .int .i64 2, .int .i64 0, .int .u32 (Q.far x)] (by kernel_rfl) w) ?_
              refine E.li (Q.S.val (⟨0, (Q.up (Q.up (fun _ => 0) 1 (W.near n0)) 2 (W.near n1)), 0, (fun _ => 0), 0, 0⟩)) 0 rfl rfl ?_
              refine A.G.call (I := Nat) (D := fun c25 => True) (V := fun c25 => .pointer (some ⟨c25, 0, none⟩)) (q := fun c25 => [M.It c25 (Q.brV x k) (Q.S.cells (Q.brs (W.near n0) (W.near n1)))]) [A.blk g24 (Q.S.cells (⟨0, (Q.up (Q.up (fun _ => 0) 1 (W.near n0)) 2 (W.near n1)), 0, (fun _ => 0), 0, 0⟩)), A.blk g16 ([.int .u32 w0, .int .u32 w1, .int .u32 (W.near n0), .int .u32 (W.near n1)])] (fun c25 => [(g24, (Q.S.cells (⟨0, (Q.up (Q.up (fun _ => 0) 1 (W.near n0)) 2 (W.near n1)), 0, (fun _ => 0), 0, 0⟩))), (g16, [.int .u32 w0, .int .u32 w1, .int .u32 (W.near n0), .int .u32 (W.near n1)])]) (fun c25 => [M.It c25 (Q.brV x k) (Q.S.cells (Q.brs (W.near n0) (W.near n1)))]) (COne (⟨(32 + ((k : Nat) : Int)), 1, 2, 0, (Q.far x)⟩ : Q.I) (⟨0, (Q.up (Q.up (fun _ => 0) 1 (W.near n0)) 2 (W.near n1)), 0, (fun _ => 0), 0, 0⟩ : Q.S) (Q.far_bd x)) (by kernel_rfl) (A.pm [0, 1] (by kernel_rfl) (by kernel_rfl)) (fun c25 => A.pm [1, 2, 0] (by kernel_rfl) (by kernel_rfl)) (fun w _ => by kernel_rfl) (by kernel_rfl) (fun c25 hd26 => ?_)
              refine E.op (.pointer (some ⟨c25, 0, none⟩)) ?_
              refine E.To.code ?_
              refine E.C.seq ?_
              refine E.sr ?_
              refine E.op (.pointer (some ⟨c25, 0, none⟩)) ?_
              refine E.op (.bool false) ?_
              refine E.To.code ?_
              refine E.C.condF (by kernel_rfl) (by kernel_rfl) ?_
              refine E.C.skip (E.To.code ?_)
              refine E.sr ?_
              refine E.op (.pointer (some ⟨c25, 0, none⟩)) ?_
              refine A.G.call (I := Unit) (D := fun _ => True) (V := fun _ => .agg #[.int .i64 ((Q.runs 1 (Q.brs (W.near n0) (W.near n1)) (Q.brV x k)).2.1), .int .u32 ((Q.runs 1 (Q.brs (W.near n0) (W.near n1)) (Q.brV x k)).2.2.1)]) (q := fun _ => [M.It c25 ((Q.runs 1 (Q.brs (W.near n0) (W.near n1)) (Q.brV x k)).2.2.2) (Q.S.cells ((Q.runs 1 (Q.brs (W.near n0) (W.near n1)) (Q.brV x k)).1))]) [A.blk g24 (Q.S.cells (⟨0, (Q.up (Q.up (fun _ => 0) 1 (W.near n0)) 2 (W.near n1)), 0, (fun _ => 0), 0, 0⟩)), A.blk g16 ([.int .u32 w0, .int .u32 w1, .int .u32 (W.near n0), .int .u32 (W.near n1)])] (fun _ => [(g24, (Q.S.cells (⟨0, (Q.up (Q.up (fun _ => 0) 1 (W.near n0)) 2 (W.near n1)), 0, (fun _ => 0), 0, 0⟩))), (g16, [.int .u32 w0, .int .u32 w1, .int .u32 (W.near n0), .int .u32 (W.near n1)])]) (fun _ => [M.It c25 ((Q.runs 1 (Q.brs (W.near n0) (W.near n1)) (Q.brV x k)).2.2.2) (Q.S.cells ((Q.runs 1 (Q.brs (W.near n0) (W.near n1)) (Q.brV x k)).1))]) (CRun (c := c25) 1 (Q.brs (W.near n0) (W.near n1)) (Q.brV x k) (by omega) (Q.brs_wf (W.near_bd n0) (W.near_bd n1)) (Q.oneV_wf _)) (by kernel_rfl) (A.pm [2, 0, 1] (by kernel_rfl) (by kernel_rfl)) (fun _ => A.pm [1, 2, 0] (by kernel_rfl) (by kernel_rfl)) (fun w _ => by kernel_rfl) (by kernel_rfl) (fun _ hd27 => ?_)
              refine E.tr ?_
              refine E.op (.int .u32 4) ?_
              refine E.To.code ?_
              refine E.C.seq ?_
              refine E.C.quiet (by kernel_rfl) (by kernel_rfl) ?_
              refine E.W.op (.int .i64 (32 + ((k : Nat) : Int))) (fun w => by kernel_rfl) (by kernel_rfl) ?_
              refine E.W.op (.int .i64 1) (fun w => by kernel_rfl) (by kernel_rfl) ?_
              refine E.W.op (.pointer (some ⟨g16, 2, none⟩)) (fun w => by kernel_rfl) (by kernel_rfl) ?_
              refine E.W.op (.pointer (some ⟨g16, 2, none⟩)) (fun w => by kernel_rfl) (by kernel_rfl) ?_
              refine E.W.val (.int .u32 (W.near n0)) (by kernel_rfl) (fun w h => E.run_load h 1 rfl rfl (by kernel_rfl)) ?_
              refine E.W.op (.int .i64 1) (fun w => by kernel_rfl) (by kernel_rfl) ?_
              refine E.W.op (.pointer (some ⟨g16, 2, none⟩)) (fun w => by kernel_rfl) (by kernel_rfl) ?_
              refine E.W.op (.pointer (some ⟨g16, 3, none⟩)) (fun w => by kernel_rfl) (by kernel_rfl) ?_
              refine E.W.val (.int .u32 (W.near n1)) (by kernel_rfl) (fun w h => E.run_load h 1 rfl rfl (by kernel_rfl)) ?_
              refine E.W.call (.bool (Q6.taken (32 + ((k : Nat) : Int)) (W.near n0) (W.near n1))) (fun w h => Taken6_any (32 + ((k : Nat) : Int)) (W.near n0) (W.near n1) (W.near_bd n0) (W.near_bd n1) w) (fun w _ => by kernel_rfl) (by kernel_rfl) ?_
              refine E.W.op (.bool (Q6.taken (32 + ((k : Nat) : Int)) (W.near n0) (W.near n1))) (fun w => by kernel_rfl) (by kernel_rfl) ?_
              refine E.W.done (E.To.code ?_)
              refine E.C.seq ?_
              refine E.sr ?_
              refine E.op (.bool (Q6.taken (32 + ((k : Nat) : Int)) (W.near n0) (W.near n1))) ?_
              refine E.To.code ?_
              refine E.C.cond (Q6.taken (32 + ((k : Nat) : Int)) (W.near n0) (W.near n1)) (by kernel_rfl) (by kernel_rfl) (fun hc28 => ?_) (fun hc28 => ?_)
              · skip
                refine E.C.region ?_
                refine E.op (.int .u32 (Q.far x)) ?_
                refine E.op (.int .u32 (IntKind.wrap .u32 (4 * (Q.far x)))) ?_
                refine E.op (.int .u32 (IntKind.wrap .u32 (4 * (Q.far x)))) ?_
                refine E.tr ?_
                refine E.op (.pointer (some ⟨c25, 0, none⟩)) ?_
                refine E.G.call (Q.S.val ((Q.runs 1 (Q.brs (W.near n0) (W.near n1)) (Q.brV x k)).1)) (fun w h => A.call_rd [A.blk g24 (Q.S.cells (⟨0, (Q.up (Q.up (fun _ => 0) 1 (W.near n0)) 2 (W.near n1)), 0, (fun _ => 0), 0, 0⟩)), A.blk g16 ([.int .u32 w0, .int .u32 w1, .int .u32 (W.near n0), .int .u32 (W.near n1)])] (CState (c := c25) (V := (Q.runs 1 (Q.brs (W.near n0) (W.near n1)) (Q.brV x k)).2.2.2) ((Q.runs 1 (Q.brs (W.near n0) (W.near n1)) (Q.brV x k)).1)) h (by kernel_rfl) (A.pm [2, 0, 1] (by kernel_rfl) (by kernel_rfl))) (fun w _ => by kernel_rfl) (by kernel_rfl) ?_
                refine E.op (.int .u32 (((Q.runs 1 (Q.brs (W.near n0) (W.near n1)) (Q.brV x k)).1).pc)) ?_
                refine E.op (.int .u32 (IntKind.wrap .u32 (4 * (Q.far x)))) ?_
                refine E.G.val (.bool false) (by kernel_rfl) (fun w h => E.run_as (a := .bool ((((Q.runs 1 (Q.brs (W.near n0) (W.near n1)) (Q.brV x k)).1).pc) != (IntKind.wrap .u32 (4 * (Q.far x))))) (by kernel_rfl) (congrArg Value.bool (Q.b77t (by assumption) (by assumption)))) ?_
                refine E.op (.bool false) ?_
                refine E.op (.pointer (some ⟨c25, 0, none⟩)) ?_
                refine E.G.call (Q.S.val ((Q.runs 1 (Q.brs (W.near n0) (W.near n1)) (Q.brV x k)).1)) (fun w h => A.call_rd [A.blk g24 (Q.S.cells (⟨0, (Q.up (Q.up (fun _ => 0) 1 (W.near n0)) 2 (W.near n1)), 0, (fun _ => 0), 0, 0⟩)), A.blk g16 ([.int .u32 w0, .int .u32 w1, .int .u32 (W.near n0), .int .u32 (W.near n1)])] (CState (c := c25) (V := (Q.runs 1 (Q.brs (W.near n0) (W.near n1)) (Q.brV x k)).2.2.2) ((Q.runs 1 (Q.brs (W.near n0) (W.near n1)) (Q.brV x k)).1)) h (by kernel_rfl) (A.pm [2, 0, 1] (by kernel_rfl) (by kernel_rfl))) (fun w _ => by kernel_rfl) (by kernel_rfl) ?_
                refine E.op (.int .i64 (((Q.runs 1 (Q.brs (W.near n0) (W.near n1)) (Q.brV x k)).1).st)) ?_
                refine E.G.val (.bool false) (by kernel_rfl) (fun w h => E.run_as (a := .bool ((((Q.runs 1 (Q.brs (W.near n0) (W.near n1)) (Q.brV x k)).1).st) != 1)) (by kernel_rfl) (congrArg Value.bool (Q.b82 (by assumption)))) ?_
                refine E.op (.bool false) ?_
                refine E.To.code ?_
                refine E.C.condF (by kernel_rfl) (by kernel_rfl) ?_
                refine E.C.skip (E.P.nb (E.To.code ?_))
                refine A.C.drop [] [M.It c25 ((Q.runs 1 (Q.brs (W.near n0) (W.near n1)) (Q.brV x k)).2.2.2) (Q.S.cells ((Q.runs 1 (Q.brs (W.near n0) (W.near n1)) (Q.brV x k)).1))] (A.pm [0] (by kernel_rfl) (by kernel_rfl)) ?_
                refine E.C.region ?_
                refine E.op (.int .i64 (32 + ((k : Nat) : Int))) ?_
                refine E.G.val (.int .i64 (32 + ((k + 1 : Nat) : Int))) (by kernel_rfl) (fun w h => E.run_as (a := .int .i64 (IntKind.wrap .i64 ((32 + ((k : Nat) : Int)) + 1))) (by kernel_rfl) (congrArg (Value.int .i64) (Q.b37 (by (first | assumption | ((try simp only [Bool.or_eq_false_iff, Bool.or_eq_true, Bool.and_eq_true, Bool.and_eq_false_iff, Bool.not_eq_eq_eq_not, Bool.not_true, Bool.not_false, decide_eq_true_eq, decide_eq_false_iff_not, ge_iff_le, gt_iff_lt] at *); omega)))))) ?_
                refine E.op (.int .i64 (32 + ((k + 1 : Nat) : Int))) ?_
                exact E.To.round (k + 1) (by (first | assumption | ((try simp only [Bool.or_eq_false_iff, Bool.or_eq_true, Bool.and_eq_true, Bool.and_eq_false_iff, Bool.not_eq_eq_eq_not, Bool.not_true, Bool.not_false, decide_eq_true_eq, decide_eq_false_iff_not, ge_iff_le, gt_iff_lt] at *); omega))) ((by (first | assumption | ((try simp only [Bool.or_eq_false_iff, Bool.or_eq_true, Bool.and_eq_true, Bool.and_eq_false_iff, Bool.not_eq_eq_eq_not, Bool.not_true, Bool.not_false, decide_eq_true_eq, decide_eq_false_iff_not, ge_iff_le, gt_iff_lt] at *); omega)))) ⟨by kernel_rfl, by kernel_rfl⟩ (List.Sublist.cons _ (List.Sublist.refl _)) (fun _ h => h)
              · skip
                refine E.C.skip (E.To.code ?_)
                refine E.sr ?_
                refine E.op (.pointer (some ⟨c25, 0, none⟩)) ?_
                refine E.G.call (Q.S.val ((Q.runs 1 (Q.brs (W.near n0) (W.near n1)) (Q.brV x k)).1)) (fun w h => A.call_rd [A.blk g24 (Q.S.cells (⟨0, (Q.up (Q.up (fun _ => 0) 1 (W.near n0)) 2 (W.near n1)), 0, (fun _ => 0), 0, 0⟩)), A.blk g16 ([.int .u32 w0, .int .u32 w1, .int .u32 (W.near n0), .int .u32 (W.near n1)])] (CState (c := c25) (V := (Q.runs 1 (Q.brs (W.near n0) (W.near n1)) (Q.brV x k)).2.2.2) ((Q.runs 1 (Q.brs (W.near n0) (W.near n1)) (Q.brV x k)).1)) h (by kernel_rfl) (A.pm [2, 0, 1] (by kernel_rfl) (by kernel_rfl))) (fun w _ => by kernel_rfl) (by kernel_rfl) ?_
                refine E.op (.int .u32 (((Q.runs 1 (Q.brs (W.near n0) (W.near n1)) (Q.brV x k)).1).pc)) ?_
                refine E.op (.int .u32 4) ?_
                refine E.G.val (.bool false) (by kernel_rfl) (fun w h => E.run_as (a := .bool ((((Q.runs 1 (Q.brs (W.near n0) (W.near n1)) (Q.brV x k)).1).pc) != 4)) (by kernel_rfl) (congrArg Value.bool (Q.b77f (by assumption) (by assumption)))) ?_
                refine E.op (.bool false) ?_
                refine E.op (.pointer (some ⟨c25, 0, none⟩)) ?_
                refine E.G.call (Q.S.val ((Q.runs 1 (Q.brs (W.near n0) (W.near n1)) (Q.brV x k)).1)) (fun w h => A.call_rd [A.blk g24 (Q.S.cells (⟨0, (Q.up (Q.up (fun _ => 0) 1 (W.near n0)) 2 (W.near n1)), 0, (fun _ => 0), 0, 0⟩)), A.blk g16 ([.int .u32 w0, .int .u32 w1, .int .u32 (W.near n0), .int .u32 (W.near n1)])] (CState (c := c25) (V := (Q.runs 1 (Q.brs (W.near n0) (W.near n1)) (Q.brV x k)).2.2.2) ((Q.runs 1 (Q.brs (W.near n0) (W.near n1)) (Q.brV x k)).1)) h (by kernel_rfl) (A.pm [2, 0, 1] (by kernel_rfl) (by kernel_rfl))) (fun w _ => by kernel_rfl) (by kernel_rfl) ?_
                refine E.op (.int .i64 (((Q.runs 1 (Q.brs (W.near n0) (W.near n1)) (Q.brV x k)).1).st)) ?_
                refine E.G.val (.bool false) (by kernel_rfl) (fun w h => E.run_as (a := .bool ((((Q.runs 1 (Q.brs (W.near n0) (W.near n1)) (Q.brV x k)).1).st) != 1)) (by kernel_rfl) (congrArg Value.bool (Q.b82 (by assumption)))) ?_
                refine E.op (.bool false) ?_
                refine E.To.code ?_
                refine E.C.condF (by kernel_rfl) (by kernel_rfl) ?_
                refine E.C.skip (E.P.nb (E.To.code ?_))
                refine A.C.drop [] [M.It c25 ((Q.runs 1 (Q.brs (W.near n0) (W.near n1)) (Q.brV x k)).2.2.2) (Q.S.cells ((Q.runs 1 (Q.brs (W.near n0) (W.near n1)) (Q.brV x k)).1))] (A.pm [0] (by kernel_rfl) (by kernel_rfl)) ?_
                refine E.C.region ?_
                refine E.op (.int .i64 (32 + ((k : Nat) : Int))) ?_
                refine E.G.val (.int .i64 (32 + ((k + 1 : Nat) : Int))) (by kernel_rfl) (fun w h => E.run_as (a := .int .i64 (IntKind.wrap .i64 ((32 + ((k : Nat) : Int)) + 1))) (by kernel_rfl) (congrArg (Value.int .i64) (Q.b37 (by (first | assumption | ((try simp only [Bool.or_eq_false_iff, Bool.or_eq_true, Bool.and_eq_true, Bool.and_eq_false_iff, Bool.not_eq_eq_eq_not, Bool.not_true, Bool.not_false, decide_eq_true_eq, decide_eq_false_iff_not, ge_iff_le, gt_iff_lt] at *); omega)))))) ?_
                refine E.op (.int .i64 (32 + ((k + 1 : Nat) : Int))) ?_
                exact E.To.round (k + 1) (by (first | assumption | ((try simp only [Bool.or_eq_false_iff, Bool.or_eq_true, Bool.and_eq_true, Bool.and_eq_false_iff, Bool.not_eq_eq_eq_not, Bool.not_true, Bool.not_false, decide_eq_true_eq, decide_eq_false_iff_not, ge_iff_le, gt_iff_lt] at *); omega))) ((by (first | assumption | ((try simp only [Bool.or_eq_false_iff, Bool.or_eq_true, Bool.and_eq_true, Bool.and_eq_false_iff, Bool.not_eq_eq_eq_not, Bool.not_true, Bool.not_false, decide_eq_true_eq, decide_eq_false_iff_not, ge_iff_le, gt_iff_lt] at *); omega)))) ⟨by kernel_rfl, by kernel_rfl⟩ (List.Sublist.cons _ (List.Sublist.refl _)) (fun _ h => h)
            · skip
              refine E.C.exit (E.P.et (E.P.et (E.P.eh (E.P.nb (E.To.code ?_)))))
              refine E.C.region ?_
              refine E.op (.int .i64 1) ?_
              refine E.op (.int .i64 2) ?_
              refine E.op (.int .i64 2) ?_
              refine E.To.rounds 0 ?_
              refine E.C.weak [(6, .bool false), (7, .bool true), (8, .pointer (some ⟨g16, 0, none⟩)), (9, .int .u32 (Q.far x)), (10, .int .i64 2), (11, .int .i64 (32 + ((k : Nat) : Int))), (32, .int .i64 1), (33, .int .i64 2), (34, .int .i64 (32 + ((k : Nat) : Int))), (35, .bool (decide ((32 + ((k : Nat) : Int)) ≤ 37)))] [(g16, [.int .u32 w0, .int .u32 w1, .int .u32 (W.near n0), .int .u32 (W.near n1)])] ⟨by kernel_rfl, by kernel_rfl⟩ (List.Sublist.refl _) ?_
              refine E.C.seq ?_
              refine E.sr ?_
              refine E.op (.int .i64 2) ?_
              refine E.op (.bool false) ?_
              refine E.To.code ?_
              refine E.C.condF (by kernel_rfl) (by kernel_rfl) ?_
              refine E.C.exit (E.P.et (E.P.et (E.P.eh (E.To.code ?_))))
              refine E.C.weak [(6, .bool false), (7, .bool true)] [] ⟨by kernel_rfl, by kernel_rfl⟩ (List.nil_sublist _) ?_
              refine E.sr ?_
              refine E.op (.bool true) ?_
              refine E.op (.bool true) ?_
              refine E.To.code ?_
              refine E.C.ret (E.To.body (fn := Try.f7) [.bool true] ?_ ?_)
              · exact ⟨⟨by kernel_rfl, by kernel_rfl⟩, trivial⟩
              · intro w h
                exact ⟨rfl, h.ch.bel (fun x hx => (hh.1 x hx).elim)⟩
  · skip
    refine E.G.new (fun g => .pointer (some ⟨g, 0, none⟩)) [.int .u32 0, .int .u32 0, .int .u32 0, .int .u32 0] 66 (fun w => by kernel_rfl) (by kernel_rfl) (fun g29 => ?_)
    refine E.H.back (fun w h => h.less (List.Sublist.cons _ (List.Sublist.refl _))) ?_
    refine E.H.all [3] (by kernel_rfl) (by simp) (List.forall_mem_cons.2 ⟨⟨_, rfl, ?_⟩, fun _ h => (List.not_mem_nil h).elim⟩)
    · skip
      refine E.G.call (.int .u32 (W.near n0)) (fun w h => near_all n0 hn0 w) (fun w _ => by kernel_rfl) (by kernel_rfl) ?_
      refine E.H.back (fun w h => h.less (List.Sublist.cons _ (List.Sublist.refl _))) ?_
      refine E.H.all [6] (by kernel_rfl) (by simp) (List.forall_mem_cons.2 ⟨⟨_, rfl, ?_⟩, fun _ h => (List.not_mem_nil h).elim⟩)
      · skip
        refine E.G.call (.int .u32 (W.near n1)) (fun w h => near_all n1 hn1 w) (fun w _ => by kernel_rfl) (by kernel_rfl) ?_
        refine E.H.back (fun w h => h.less (List.Sublist.cons _ (List.Sublist.refl _))) ?_
        refine E.H.take 7 (.agg #[.int .u32 (W.near n0), .int .u32 (W.near n1)]) rfl (by kernel_rfl) (by kernel_rfl) (by kernel_rfl) (fun _ _ _ h => h) (fun w h => h.less (List.Sublist.cons _ (List.Sublist.refl _))) (.inl ⟨by kernel_rfl, by kernel_rfl, fun w h => E.run_build #[.int .u32 (W.near n0), .int .u32 (W.near n1)] (by kernel_rfl) w⟩) (by kernel_rfl) ?_
        refine E.H.take 8 (.agg #[.int .u32 w0, .int .u32 w1, .int .u32 (W.near n0), .int .u32 (W.near n1)]) rfl (by kernel_rfl) (by kernel_rfl) (by kernel_rfl) (fun _ _ _ h => h) (fun w h => h.less (List.Sublist.cons _ (List.Sublist.refl _))) (.inl ⟨by kernel_rfl, by kernel_rfl, fun w h => E.run_build #[.int .u32 w0, .int .u32 w1, .int .u32 (W.near n0), .int .u32 (W.near n1)] (by kernel_rfl) w⟩) (by kernel_rfl) ?_
        refine E.H.all [10] (by kernel_rfl) (by simp) (List.forall_mem_cons.2 ⟨⟨_, rfl, ?_⟩, fun _ h => (List.not_mem_nil h).elim⟩)
        · skip
          refine E.G.store 0 [.int .u32 w0, .int .u32 w1, .int .u32 (W.near n0), .int .u32 (W.near n1)] rfl rfl (by kernel_rfl) (by kernel_rfl) ?_
          refine E.H.back (fun w h => h.less (List.Sublist.cons _ (List.Sublist.refl _))) ?_
          refine E.H.done (by kernel_rfl) ?_
          refine E.To.code ?_
          refine E.C.weak [(2, .int .i64 x), (6, .bool false), (7, .bool true), (8, .pointer (some ⟨g29, 0, none⟩))] [(g29, [.int .u32 w0, .int .u32 w1, .int .u32 (W.near n0), .int .u32 (W.near n1)])] ⟨by kernel_rfl, by kernel_rfl⟩ (List.Sublist.cons_cons _ (List.nil_sublist _)) ?_
          refine E.sr ?_
          refine E.op (.int .i64 x) ?_
          refine E.G.call (.int .i64 (x % 262144)) (fun w h => Mod_any x 262144 hx (by decide) w) (fun w _ => by kernel_rfl) (by kernel_rfl) ?_
          refine E.op (.int .u32 (IntKind.wrap .u32 (x % 262144))) ?_
          refine E.G.call (.int .u32 (Q.far x)) (fun w h => rSign_any (IntKind.wrap .u32 (x % 262144)) 18 (Q.wrap_bd _).1 (Q.wrap_bd _).2 (by omega) (by omega) w) (fun w _ => by kernel_rfl) (by kernel_rfl) ?_
          refine E.op (.int .u32 (Q.far x)) ?_
          refine E.To.code ?_
          refine E.C.seq ?_
          refine E.sr ?_
          refine E.op (.int .i64 0) ?_
          refine E.To.code ?_
          refine E.C.block ?_
          refine E.C.rounds 2 ?_
          refine E.C.seq ?_
          refine E.sr ?_
          refine E.op (.int .i64 0) ?_
          refine E.op (.bool true) ?_
          refine E.To.code ?_
          refine E.C.condT (by kernel_rfl) (by kernel_rfl) ?_
          refine E.C.skip (E.To.code ?_)
          refine E.C.seq ?_
          refine E.C.block ?_
          refine E.sr ?_
          refine E.op (.int .i64 32) ?_
          refine E.To.code ?_
          refine E.C.block ?_
          refine E.C.loop (I := Nat) (fun j => 6 - j) (fun j => j ≤ 6) (fun j => [(6, .bool false), (7, .bool true), (8, .pointer (some ⟨g29, 0, none⟩)), (9, .int .u32 (Q.far x)), (10, .int .i64 0), (11, .int .i64 (32 + ((j : Nat) : Int)))]) (fun j => A.X w oo aa []) (fun j => [(g29, [.int .u32 w0, .int .u32 w1, .int .u32 (W.near n0), .int .u32 (W.near n1)])]) 0 ((Nat.zero_le _)) ⟨by kernel_rfl, by kernel_rfl⟩ (List.Sublist.refl _) (fun _ h => h) (fun j hk5 => ?_)
          refine E.C.seq ?_
          refine E.sr ?_
          refine E.op (.int .i64 (32 + ((j : Nat) : Int))) ?_
          refine E.op (.bool (decide ((32 + ((j : Nat) : Int)) ≤ 37))) ?_
          refine E.To.code ?_
          refine E.C.cond (decide ((32 + ((j : Nat) : Int)) ≤ 37)) (by kernel_rfl) (by kernel_rfl) (fun hc30 => ?_) (fun hc30 => ?_)
          · skip
            refine E.C.skip (E.To.code ?_)
            refine E.C.seq ?_
            refine E.C.block ?_
            refine E.sr ?_
            refine E.G.val (Q.S.val (⟨0, (fun _ => 0), 0, (fun _ => 0), 0, 0⟩)) (by kernel_rfl) (fun w h => E.run_build (Q.S.cells ⟨0, (fun _ => 0), 0, (fun _ => 0), 0, 0⟩).toArray (by kernel_rfl) w) ?_
            refine E.G.new (fun g => .pointer (some ⟨g, 0, none⟩)) (Q.S.cells Q.z0) 27 (fun w => by kernel_rfl) (by kernel_rfl) (fun g31 => ?_)
            refine E.G.store 0 (Q.S.cells (⟨0, (fun _ => 0), 0, (fun _ => 0), 0, 0⟩)) rfl rfl (by kernel_rfl) (by kernel_rfl) ?_
            refine E.tr ?_
            refine E.op (.int .i64 0) ?_
            refine E.op (.pointer (some ⟨g29, 0, none⟩)) ?_
            refine E.op (.pointer (some ⟨g29, 0, none⟩)) ?_
            refine E.li (.int .u32 w0) 1 rfl rfl ?_
            refine E.op (.pointer (some ⟨g31, 1, none⟩)) ?_
            refine E.op (.pointer (some ⟨g31, 2, none⟩)) ?_
            refine E.G.store 0 (Q.S.cells (⟨0, (Q.up (fun _ => 0) 1 w0), 0, (fun _ => 0), 0, 0⟩)) rfl rfl (by kernel_rfl) (by kernel_rfl) ?_
            refine E.tr ?_
            refine E.op (.int .i64 0) ?_
            refine E.op (.pointer (some ⟨g29, 0, none⟩)) ?_
            refine E.op (.pointer (some ⟨g29, 1, none⟩)) ?_
            refine E.li (.int .u32 w1) 1 rfl rfl ?_
            refine E.op (.pointer (some ⟨g31, 1, none⟩)) ?_
            refine E.op (.pointer (some ⟨g31, 3, none⟩)) ?_
            refine E.G.store 0 (Q.S.cells (⟨0, (Q.up (Q.up (fun _ => 0) 1 w0) 2 w1), 0, (fun _ => 0), 0, 0⟩)) rfl rfl (by kernel_rfl) (by kernel_rfl) ?_
            refine E.tr ?_
            refine E.op (.int .i64 (32 + ((j : Nat) : Int))) ?_
            refine E.op (.int .u32 (Q.far x)) ?_
            refine E.G.val (.agg #[.int .i64 (32 + ((j : Nat) : Int)), .int .i64 1, .int .i64 2, .int .i64 0, .int .u32 (Q.far x)]) (by kernel_rfl) (fun w h => E.run_build #[.int .i64 (32 + ((j : Nat) : Int)), .int .i64 1, .int .i64 2, .int .i64 0, .int .u32 (Q.far x)] (by kernel_rfl) w) ?_
            refine E.li (Q.S.val (⟨0, (Q.up (Q.up (fun _ => 0) 1 w0) 2 w1), 0, (fun _ => 0), 0, 0⟩)) 0 rfl rfl ?_
            refine A.G.call (I := Nat) (D := fun c32 => True) (V := fun c32 => .pointer (some ⟨c32, 0, none⟩)) (q := fun c32 => [M.It c32 (Q.brV x j) (Q.S.cells (Q.brs w0 w1))]) [A.blk g31 (Q.S.cells (⟨0, (Q.up (Q.up (fun _ => 0) 1 w0) 2 w1), 0, (fun _ => 0), 0, 0⟩)), A.blk g29 ([.int .u32 w0, .int .u32 w1, .int .u32 (W.near n0), .int .u32 (W.near n1)])] (fun c32 => [(g31, (Q.S.cells (⟨0, (Q.up (Q.up (fun _ => 0) 1 w0) 2 w1), 0, (fun _ => 0), 0, 0⟩))), (g29, [.int .u32 w0, .int .u32 w1, .int .u32 (W.near n0), .int .u32 (W.near n1)])]) (fun c32 => [M.It c32 (Q.brV x j) (Q.S.cells (Q.brs w0 w1))]) (COne (⟨(32 + ((j : Nat) : Int)), 1, 2, 0, (Q.far x)⟩ : Q.I) (⟨0, (Q.up (Q.up (fun _ => 0) 1 w0) 2 w1), 0, (fun _ => 0), 0, 0⟩ : Q.S) (Q.far_bd x)) (by kernel_rfl) (A.pm [0, 1] (by kernel_rfl) (by kernel_rfl)) (fun c32 => A.pm [1, 2, 0] (by kernel_rfl) (by kernel_rfl)) (fun w _ => by kernel_rfl) (by kernel_rfl) (fun c32 hd33 => ?_)
            refine E.op (.pointer (some ⟨c32, 0, none⟩)) ?_
            refine E.To.code ?_
            refine E.C.seq ?_
            refine E.sr ?_
            refine E.op (.pointer (some ⟨c32, 0, none⟩)) ?_
            refine E.op (.bool false) ?_
            refine E.To.code ?_
            refine E.C.condF (by kernel_rfl) (by kernel_rfl) ?_
            refine E.C.skip (E.To.code ?_)
            refine E.sr ?_
            refine E.op (.pointer (some ⟨c32, 0, none⟩)) ?_
            refine A.G.call (I := Unit) (D := fun _ => True) (V := fun _ => .agg #[.int .i64 ((Q.runs 1 (Q.brs w0 w1) (Q.brV x j)).2.1), .int .u32 ((Q.runs 1 (Q.brs w0 w1) (Q.brV x j)).2.2.1)]) (q := fun _ => [M.It c32 ((Q.runs 1 (Q.brs w0 w1) (Q.brV x j)).2.2.2) (Q.S.cells ((Q.runs 1 (Q.brs w0 w1) (Q.brV x j)).1))]) [A.blk g31 (Q.S.cells (⟨0, (Q.up (Q.up (fun _ => 0) 1 w0) 2 w1), 0, (fun _ => 0), 0, 0⟩)), A.blk g29 ([.int .u32 w0, .int .u32 w1, .int .u32 (W.near n0), .int .u32 (W.near n1)])] (fun _ => [(g31, (Q.S.cells (⟨0, (Q.up (Q.up (fun _ => 0) 1 w0) 2 w1), 0, (fun _ => 0), 0, 0⟩))), (g29, [.int .u32 w0, .int .u32 w1, .int .u32 (W.near n0), .int .u32 (W.near n1)])]) (fun _ => [M.It c32 ((Q.runs 1 (Q.brs w0 w1) (Q.brV x j)).2.2.2) (Q.S.cells ((Q.runs 1 (Q.brs w0 w1) (Q.brV x j)).1))]) (CRun (c := c32) 1 (Q.brs w0 w1) (Q.brV x j) (by omega) (Q.brs_wf hw0 hw1) (Q.oneV_wf _)) (by kernel_rfl) (A.pm [2, 0, 1] (by kernel_rfl) (by kernel_rfl)) (fun _ => A.pm [1, 2, 0] (by kernel_rfl) (by kernel_rfl)) (fun w _ => by kernel_rfl) (by kernel_rfl) (fun _ hd34 => ?_)
            refine E.tr ?_
            refine E.op (.int .u32 4) ?_
            refine E.To.code ?_
            refine E.C.seq ?_
            refine E.C.quiet (by kernel_rfl) (by kernel_rfl) ?_
            refine E.W.op (.int .i64 (32 + ((j : Nat) : Int))) (fun w => by kernel_rfl) (by kernel_rfl) ?_
            refine E.W.op (.int .i64 0) (fun w => by kernel_rfl) (by kernel_rfl) ?_
            refine E.W.op (.pointer (some ⟨g29, 0, none⟩)) (fun w => by kernel_rfl) (by kernel_rfl) ?_
            refine E.W.op (.pointer (some ⟨g29, 0, none⟩)) (fun w => by kernel_rfl) (by kernel_rfl) ?_
            refine E.W.val (.int .u32 w0) (by kernel_rfl) (fun w h => E.run_load h 1 rfl rfl (by kernel_rfl)) ?_
            refine E.W.op (.int .i64 0) (fun w => by kernel_rfl) (by kernel_rfl) ?_
            refine E.W.op (.pointer (some ⟨g29, 0, none⟩)) (fun w => by kernel_rfl) (by kernel_rfl) ?_
            refine E.W.op (.pointer (some ⟨g29, 1, none⟩)) (fun w => by kernel_rfl) (by kernel_rfl) ?_
            refine E.W.val (.int .u32 w1) (by kernel_rfl) (fun w h => E.run_load h 1 rfl rfl (by kernel_rfl)) ?_
            refine E.W.call (.bool (Q6.taken (32 + ((j : Nat) : Int)) w0 w1)) (fun w h => Taken6_any (32 + ((j : Nat) : Int)) w0 w1 hw0 hw1 w) (fun w _ => by kernel_rfl) (by kernel_rfl) ?_
            refine E.W.op (.bool (Q6.taken (32 + ((j : Nat) : Int)) w0 w1)) (fun w => by kernel_rfl) (by kernel_rfl) ?_
            refine E.W.done (E.To.code ?_)
            refine E.C.seq ?_
            refine E.sr ?_
            refine E.op (.bool (Q6.taken (32 + ((j : Nat) : Int)) w0 w1)) ?_
            refine E.To.code ?_
            refine E.C.cond (Q6.taken (32 + ((j : Nat) : Int)) w0 w1) (by kernel_rfl) (by kernel_rfl) (fun hc35 => ?_) (fun hc35 => ?_)
            · skip
              refine E.C.region ?_
              refine E.op (.int .u32 (Q.far x)) ?_
              refine E.op (.int .u32 (IntKind.wrap .u32 (4 * (Q.far x)))) ?_
              refine E.op (.int .u32 (IntKind.wrap .u32 (4 * (Q.far x)))) ?_
              refine E.tr ?_
              refine E.op (.pointer (some ⟨c32, 0, none⟩)) ?_
              refine E.G.call (Q.S.val ((Q.runs 1 (Q.brs w0 w1) (Q.brV x j)).1)) (fun w h => A.call_rd [A.blk g31 (Q.S.cells (⟨0, (Q.up (Q.up (fun _ => 0) 1 w0) 2 w1), 0, (fun _ => 0), 0, 0⟩)), A.blk g29 ([.int .u32 w0, .int .u32 w1, .int .u32 (W.near n0), .int .u32 (W.near n1)])] (CState (c := c32) (V := (Q.runs 1 (Q.brs w0 w1) (Q.brV x j)).2.2.2) ((Q.runs 1 (Q.brs w0 w1) (Q.brV x j)).1)) h (by kernel_rfl) (A.pm [2, 0, 1] (by kernel_rfl) (by kernel_rfl))) (fun w _ => by kernel_rfl) (by kernel_rfl) ?_
              refine E.op (.int .u32 (((Q.runs 1 (Q.brs w0 w1) (Q.brV x j)).1).pc)) ?_
              refine E.op (.int .u32 (IntKind.wrap .u32 (4 * (Q.far x)))) ?_
              refine E.G.val (.bool false) (by kernel_rfl) (fun w h => E.run_as (a := .bool ((((Q.runs 1 (Q.brs w0 w1) (Q.brV x j)).1).pc) != (IntKind.wrap .u32 (4 * (Q.far x))))) (by kernel_rfl) (congrArg Value.bool (Q.b77t (by assumption) (by assumption)))) ?_
              refine E.op (.bool false) ?_
              refine E.op (.pointer (some ⟨c32, 0, none⟩)) ?_
              refine E.G.call (Q.S.val ((Q.runs 1 (Q.brs w0 w1) (Q.brV x j)).1)) (fun w h => A.call_rd [A.blk g31 (Q.S.cells (⟨0, (Q.up (Q.up (fun _ => 0) 1 w0) 2 w1), 0, (fun _ => 0), 0, 0⟩)), A.blk g29 ([.int .u32 w0, .int .u32 w1, .int .u32 (W.near n0), .int .u32 (W.near n1)])] (CState (c := c32) (V := (Q.runs 1 (Q.brs w0 w1) (Q.brV x j)).2.2.2) ((Q.runs 1 (Q.brs w0 w1) (Q.brV x j)).1)) h (by kernel_rfl) (A.pm [2, 0, 1] (by kernel_rfl) (by kernel_rfl))) (fun w _ => by kernel_rfl) (by kernel_rfl) ?_
              refine E.op (.int .i64 (((Q.runs 1 (Q.brs w0 w1) (Q.brV x j)).1).st)) ?_
              refine E.G.val (.bool false) (by kernel_rfl) (fun w h => E.run_as (a := .bool ((((Q.runs 1 (Q.brs w0 w1) (Q.brV x j)).1).st) != 1)) (by kernel_rfl) (congrArg Value.bool (Q.b82 (by assumption)))) ?_
              refine E.op (.bool false) ?_
              refine E.To.code ?_
              refine E.C.condF (by kernel_rfl) (by kernel_rfl) ?_
              refine E.C.skip (E.P.nb (E.To.code ?_))
              refine A.C.drop [] [M.It c32 ((Q.runs 1 (Q.brs w0 w1) (Q.brV x j)).2.2.2) (Q.S.cells ((Q.runs 1 (Q.brs w0 w1) (Q.brV x j)).1))] (A.pm [0] (by kernel_rfl) (by kernel_rfl)) ?_
              refine E.C.region ?_
              refine E.op (.int .i64 (32 + ((j : Nat) : Int))) ?_
              refine E.G.val (.int .i64 (32 + ((j + 1 : Nat) : Int))) (by kernel_rfl) (fun w h => E.run_as (a := .int .i64 (IntKind.wrap .i64 ((32 + ((j : Nat) : Int)) + 1))) (by kernel_rfl) (congrArg (Value.int .i64) (Q.b37 (by (first | assumption | ((try simp only [Bool.or_eq_false_iff, Bool.or_eq_true, Bool.and_eq_true, Bool.and_eq_false_iff, Bool.not_eq_eq_eq_not, Bool.not_true, Bool.not_false, decide_eq_true_eq, decide_eq_false_iff_not, ge_iff_le, gt_iff_lt] at *); omega)))))) ?_
              refine E.op (.int .i64 (32 + ((j + 1 : Nat) : Int))) ?_
              exact E.To.round (j + 1) (by (first | assumption | ((try simp only [Bool.or_eq_false_iff, Bool.or_eq_true, Bool.and_eq_true, Bool.and_eq_false_iff, Bool.not_eq_eq_eq_not, Bool.not_true, Bool.not_false, decide_eq_true_eq, decide_eq_false_iff_not, ge_iff_le, gt_iff_lt] at *); omega))) ((by (first | assumption | ((try simp only [Bool.or_eq_false_iff, Bool.or_eq_true, Bool.and_eq_true, Bool.and_eq_false_iff, Bool.not_eq_eq_eq_not, Bool.not_true, Bool.not_false, decide_eq_true_eq, decide_eq_false_iff_not, ge_iff_le, gt_iff_lt] at *); omega)))) ⟨by kernel_rfl, by kernel_rfl⟩ (List.Sublist.cons _ (List.Sublist.refl _)) (fun _ h => h)
            · skip
              refine E.C.skip (E.To.code ?_)
              refine E.sr ?_
              refine E.op (.pointer (some ⟨c32, 0, none⟩)) ?_
              refine E.G.call (Q.S.val ((Q.runs 1 (Q.brs w0 w1) (Q.brV x j)).1)) (fun w h => A.call_rd [A.blk g31 (Q.S.cells (⟨0, (Q.up (Q.up (fun _ => 0) 1 w0) 2 w1), 0, (fun _ => 0), 0, 0⟩)), A.blk g29 ([.int .u32 w0, .int .u32 w1, .int .u32 (W.near n0), .int .u32 (W.near n1)])] (CState (c := c32) (V := (Q.runs 1 (Q.brs w0 w1) (Q.brV x j)).2.2.2) ((Q.runs 1 (Q.brs w0 w1) (Q.brV x j)).1)) h (by kernel_rfl) (A.pm [2, 0, 1] (by kernel_rfl) (by kernel_rfl))) (fun w _ => by kernel_rfl) (by kernel_rfl) ?_
              refine E.op (.int .u32 (((Q.runs 1 (Q.brs w0 w1) (Q.brV x j)).1).pc)) ?_
              refine E.op (.int .u32 4) ?_
              refine E.G.val (.bool false) (by kernel_rfl) (fun w h => E.run_as (a := .bool ((((Q.runs 1 (Q.brs w0 w1) (Q.brV x j)).1).pc) != 4)) (by kernel_rfl) (congrArg Value.bool (Q.b77f (by assumption) (by assumption)))) ?_
              refine E.op (.bool false) ?_
              refine E.op (.pointer (some ⟨c32, 0, none⟩)) ?_
              refine E.G.call (Q.S.val ((Q.runs 1 (Q.brs w0 w1) (Q.brV x j)).1)) (fun w h => A.call_rd [A.blk g31 (Q.S.cells (⟨0, (Q.up (Q.up (fun _ => 0) 1 w0) 2 w1), 0, (fun _ => 0), 0, 0⟩)), A.blk g29 ([.int .u32 w0, .int .u32 w1, .int .u32 (W.near n0), .int .u32 (W.near n1)])] (CState (c := c32) (V := (Q.runs 1 (Q.brs w0 w1) (Q.brV x j)).2.2.2) ((Q.runs 1 (Q.brs w0 w1) (Q.brV x j)).1)) h (by kernel_rfl) (A.pm [2, 0, 1] (by kernel_rfl) (by kernel_rfl))) (fun w _ => by kernel_rfl) (by kernel_rfl) ?_
              refine E.op (.int .i64 (((Q.runs 1 (Q.brs w0 w1) (Q.brV x j)).1).st)) ?_
              refine E.G.val (.bool false) (by kernel_rfl) (fun w h => E.run_as (a := .bool ((((Q.runs 1 (Q.brs w0 w1) (Q.brV x j)).1).st) != 1)) (by kernel_rfl) (congrArg Value.bool (Q.b82 (by assumption)))) ?_
              refine E.op (.bool false) ?_
              refine E.To.code ?_
              refine E.C.condF (by kernel_rfl) (by kernel_rfl) ?_
              refine E.C.skip (E.P.nb (E.To.code ?_))
              refine A.C.drop [] [M.It c32 ((Q.runs 1 (Q.brs w0 w1) (Q.brV x j)).2.2.2) (Q.S.cells ((Q.runs 1 (Q.brs w0 w1) (Q.brV x j)).1))] (A.pm [0] (by kernel_rfl) (by kernel_rfl)) ?_
              refine E.C.region ?_
              refine E.op (.int .i64 (32 + ((j : Nat) : Int))) ?_
              refine E.G.val (.int .i64 (32 + ((j + 1 : Nat) : Int))) (by kernel_rfl) (fun w h => E.run_as (a := .int .i64 (IntKind.wrap .i64 ((32 + ((j : Nat) : Int)) + 1))) (by kernel_rfl) (congrArg (Value.int .i64) (Q.b37 (by (first | assumption | ((try simp only [Bool.or_eq_false_iff, Bool.or_eq_true, Bool.and_eq_true, Bool.and_eq_false_iff, Bool.not_eq_eq_eq_not, Bool.not_true, Bool.not_false, decide_eq_true_eq, decide_eq_false_iff_not, ge_iff_le, gt_iff_lt] at *); omega)))))) ?_
              refine E.op (.int .i64 (32 + ((j + 1 : Nat) : Int))) ?_
              exact E.To.round (j + 1) (by (first | assumption | ((try simp only [Bool.or_eq_false_iff, Bool.or_eq_true, Bool.and_eq_true, Bool.and_eq_false_iff, Bool.not_eq_eq_eq_not, Bool.not_true, Bool.not_false, decide_eq_true_eq, decide_eq_false_iff_not, ge_iff_le, gt_iff_lt] at *); omega))) ((by (first | assumption | ((try simp only [Bool.or_eq_false_iff, Bool.or_eq_true, Bool.and_eq_true, Bool.and_eq_false_iff, Bool.not_eq_eq_eq_not, Bool.not_true, Bool.not_false, decide_eq_true_eq, decide_eq_false_iff_not, ge_iff_le, gt_iff_lt] at *); omega)))) ⟨by kernel_rfl, by kernel_rfl⟩ (List.Sublist.cons _ (List.Sublist.refl _)) (fun _ h => h)
          · skip
            refine E.C.exit (E.P.et (E.P.et (E.P.eh (E.P.nb (E.To.code ?_)))))
            refine E.C.region ?_
            refine E.op (.int .i64 0) ?_
            refine E.op (.int .i64 1) ?_
            refine E.op (.int .i64 1) ?_
            refine E.To.rounds 1 ?_
            refine E.C.weak [(6, .bool false), (7, .bool true), (8, .pointer (some ⟨g29, 0, none⟩)), (9, .int .u32 (Q.far x)), (10, .int .i64 1), (11, .int .i64 (32 + ((j : Nat) : Int))), (32, .int .i64 0), (33, .int .i64 1), (34, .int .i64 (32 + ((j : Nat) : Int))), (35, .bool (decide ((32 + ((j : Nat) : Int)) ≤ 37)))] [(g29, [.int .u32 w0, .int .u32 w1, .int .u32 (W.near n0), .int .u32 (W.near n1)])] ⟨by kernel_rfl, by kernel_rfl⟩ (List.Sublist.refl _) ?_
            refine E.C.seq ?_
            refine E.sr ?_
            refine E.op (.int .i64 1) ?_
            refine E.op (.bool true) ?_
            refine E.To.code ?_
            refine E.C.condT (by kernel_rfl) (by kernel_rfl) ?_
            refine E.C.skip (E.To.code ?_)
            refine E.C.seq ?_
            refine E.C.block ?_
            refine E.sr ?_
            refine E.op (.int .i64 32) ?_
            refine E.To.code ?_
            refine E.C.block ?_
            refine E.C.loop (I := Nat) (fun k => 6 - k) (fun k => k ≤ 6) (fun k => [(6, .bool false), (7, .bool true), (8, .pointer (some ⟨g29, 0, none⟩)), (9, .int .u32 (Q.far x)), (10, .int .i64 1), (11, .int .i64 (32 + ((k : Nat) : Int)))]) (fun k => A.X w oo aa []) (fun k => [(g29, [.int .u32 w0, .int .u32 w1, .int .u32 (W.near n0), .int .u32 (W.near n1)])]) 0 ((Nat.zero_le _)) ⟨by kernel_rfl, by kernel_rfl⟩ (List.Sublist.refl _) (fun _ h => h) (fun k hk6 => ?_)
            refine E.C.seq ?_
            refine E.sr ?_
            refine E.op (.int .i64 (32 + ((k : Nat) : Int))) ?_
            refine E.op (.bool (decide ((32 + ((k : Nat) : Int)) ≤ 37))) ?_
            refine E.To.code ?_
            refine E.C.cond (decide ((32 + ((k : Nat) : Int)) ≤ 37)) (by kernel_rfl) (by kernel_rfl) (fun hc36 => ?_) (fun hc36 => ?_)
            · skip
              refine E.C.skip (E.To.code ?_)
              refine E.C.seq ?_
              refine E.C.block ?_
              refine E.sr ?_
              refine E.G.val (Q.S.val (⟨0, (fun _ => 0), 0, (fun _ => 0), 0, 0⟩)) (by kernel_rfl) (fun w h => E.run_build (Q.S.cells ⟨0, (fun _ => 0), 0, (fun _ => 0), 0, 0⟩).toArray (by kernel_rfl) w) ?_
              refine E.G.new (fun g => .pointer (some ⟨g, 0, none⟩)) (Q.S.cells Q.z0) 27 (fun w => by kernel_rfl) (by kernel_rfl) (fun g37 => ?_)
              refine E.G.store 0 (Q.S.cells (⟨0, (fun _ => 0), 0, (fun _ => 0), 0, 0⟩)) rfl rfl (by kernel_rfl) (by kernel_rfl) ?_
              refine E.tr ?_
              refine E.op (.int .i64 1) ?_
              refine E.op (.pointer (some ⟨g29, 2, none⟩)) ?_
              refine E.op (.pointer (some ⟨g29, 2, none⟩)) ?_
              refine E.li (.int .u32 (W.near n0)) 1 rfl rfl ?_
              refine E.op (.pointer (some ⟨g37, 1, none⟩)) ?_
              refine E.op (.pointer (some ⟨g37, 2, none⟩)) ?_
              refine E.G.store 0 (Q.S.cells (⟨0, (Q.up (fun _ => 0) 1 (W.near n0)), 0, (fun _ => 0), 0, 0⟩)) rfl rfl (by kernel_rfl) (by kernel_rfl) ?_
              refine E.tr ?_
              refine E.op (.int .i64 1) ?_
              refine E.op (.pointer (some ⟨g29, 2, none⟩)) ?_
              refine E.op (.pointer (some ⟨g29, 3, none⟩)) ?_
              refine E.li (.int .u32 (W.near n1)) 1 rfl rfl ?_
              refine E.op (.pointer (some ⟨g37, 1, none⟩)) ?_
              refine E.op (.pointer (some ⟨g37, 3, none⟩)) ?_
              refine E.G.store 0 (Q.S.cells (⟨0, (Q.up (Q.up (fun _ => 0) 1 (W.near n0)) 2 (W.near n1)), 0, (fun _ => 0), 0, 0⟩)) rfl rfl (by kernel_rfl) (by kernel_rfl) ?_
              refine E.tr ?_
              refine E.op (.int .i64 (32 + ((k : Nat) : Int))) ?_
              refine E.op (.int .u32 (Q.far x)) ?_
              refine E.G.val (.agg #[.int .i64 (32 + ((k : Nat) : Int)), .int .i64 1, .int .i64 2, .int .i64 0, .int .u32 (Q.far x)]) (by kernel_rfl) (fun w h => E.run_build #[.int .i64 (32 + ((k : Nat) : Int)), .int .i64 1, .int .i64 2, .int .i64 0, .int .u32 (Q.far x)] (by kernel_rfl) w) ?_
              refine E.li (Q.S.val (⟨0, (Q.up (Q.up (fun _ => 0) 1 (W.near n0)) 2 (W.near n1)), 0, (fun _ => 0), 0, 0⟩)) 0 rfl rfl ?_
              refine A.G.call (I := Nat) (D := fun c38 => True) (V := fun c38 => .pointer (some ⟨c38, 0, none⟩)) (q := fun c38 => [M.It c38 (Q.brV x k) (Q.S.cells (Q.brs (W.near n0) (W.near n1)))]) [A.blk g37 (Q.S.cells (⟨0, (Q.up (Q.up (fun _ => 0) 1 (W.near n0)) 2 (W.near n1)), 0, (fun _ => 0), 0, 0⟩)), A.blk g29 ([.int .u32 w0, .int .u32 w1, .int .u32 (W.near n0), .int .u32 (W.near n1)])] (fun c38 => [(g37, (Q.S.cells (⟨0, (Q.up (Q.up (fun _ => 0) 1 (W.near n0)) 2 (W.near n1)), 0, (fun _ => 0), 0, 0⟩))), (g29, [.int .u32 w0, .int .u32 w1, .int .u32 (W.near n0), .int .u32 (W.near n1)])]) (fun c38 => [M.It c38 (Q.brV x k) (Q.S.cells (Q.brs (W.near n0) (W.near n1)))]) (COne (⟨(32 + ((k : Nat) : Int)), 1, 2, 0, (Q.far x)⟩ : Q.I) (⟨0, (Q.up (Q.up (fun _ => 0) 1 (W.near n0)) 2 (W.near n1)), 0, (fun _ => 0), 0, 0⟩ : Q.S) (Q.far_bd x)) (by kernel_rfl) (A.pm [0, 1] (by kernel_rfl) (by kernel_rfl)) (fun c38 => A.pm [1, 2, 0] (by kernel_rfl) (by kernel_rfl)) (fun w _ => by kernel_rfl) (by kernel_rfl) (fun c38 hd39 => ?_)
              refine E.op (.pointer (some ⟨c38, 0, none⟩)) ?_
              refine E.To.code ?_
              refine E.C.seq ?_
              refine E.sr ?_
              refine E.op (.pointer (some ⟨c38, 0, none⟩)) ?_
              refine E.op (.bool false) ?_
              refine E.To.code ?_
              refine E.C.condF (by kernel_rfl) (by kernel_rfl) ?_
              refine E.C.skip (E.To.code ?_)
              refine E.sr ?_
              refine E.op (.pointer (some ⟨c38, 0, none⟩)) ?_
              refine A.G.call (I := Unit) (D := fun _ => True) (V := fun _ => .agg #[.int .i64 ((Q.runs 1 (Q.brs (W.near n0) (W.near n1)) (Q.brV x k)).2.1), .int .u32 ((Q.runs 1 (Q.brs (W.near n0) (W.near n1)) (Q.brV x k)).2.2.1)]) (q := fun _ => [M.It c38 ((Q.runs 1 (Q.brs (W.near n0) (W.near n1)) (Q.brV x k)).2.2.2) (Q.S.cells ((Q.runs 1 (Q.brs (W.near n0) (W.near n1)) (Q.brV x k)).1))]) [A.blk g37 (Q.S.cells (⟨0, (Q.up (Q.up (fun _ => 0) 1 (W.near n0)) 2 (W.near n1)), 0, (fun _ => 0), 0, 0⟩)), A.blk g29 ([.int .u32 w0, .int .u32 w1, .int .u32 (W.near n0), .int .u32 (W.near n1)])] (fun _ => [(g37, (Q.S.cells (⟨0, (Q.up (Q.up (fun _ => 0) 1 (W.near n0)) 2 (W.near n1)), 0, (fun _ => 0), 0, 0⟩))), (g29, [.int .u32 w0, .int .u32 w1, .int .u32 (W.near n0), .int .u32 (W.near n1)])]) (fun _ => [M.It c38 ((Q.runs 1 (Q.brs (W.near n0) (W.near n1)) (Q.brV x k)).2.2.2) (Q.S.cells ((Q.runs 1 (Q.brs (W.near n0) (W.near n1)) (Q.brV x k)).1))]) (CRun (c := c38) 1 (Q.brs (W.near n0) (W.near n1)) (Q.brV x k) (by omega) (Q.brs_wf (W.near_bd n0) (W.near_bd n1)) (Q.oneV_wf _)) (by kernel_rfl) (A.pm [2, 0, 1] (by kernel_rfl) (by kernel_rfl)) (fun _ => A.pm [1, 2, 0] (by kernel_rfl) (by kernel_rfl)) (fun w _ => by kernel_rfl) (by kernel_rfl) (fun _ hd40 => ?_)
              refine E.tr ?_
              refine E.op (.int .u32 4) ?_
              refine E.To.code ?_
              refine E.C.seq ?_
              refine E.C.quiet (by kernel_rfl) (by kernel_rfl) ?_
              refine E.W.op (.int .i64 (32 + ((k : Nat) : Int))) (fun w => by kernel_rfl) (by kernel_rfl) ?_
              refine E.W.op (.int .i64 1) (fun w => by kernel_rfl) (by kernel_rfl) ?_
              refine E.W.op (.pointer (some ⟨g29, 2, none⟩)) (fun w => by kernel_rfl) (by kernel_rfl) ?_
              refine E.W.op (.pointer (some ⟨g29, 2, none⟩)) (fun w => by kernel_rfl) (by kernel_rfl) ?_
              refine E.W.val (.int .u32 (W.near n0)) (by kernel_rfl) (fun w h => E.run_load h 1 rfl rfl (by kernel_rfl)) ?_
              refine E.W.op (.int .i64 1) (fun w => by kernel_rfl) (by kernel_rfl) ?_
              refine E.W.op (.pointer (some ⟨g29, 2, none⟩)) (fun w => by kernel_rfl) (by kernel_rfl) ?_
              refine E.W.op (.pointer (some ⟨g29, 3, none⟩)) (fun w => by kernel_rfl) (by kernel_rfl) ?_
              refine E.W.val (.int .u32 (W.near n1)) (by kernel_rfl) (fun w h => E.run_load h 1 rfl rfl (by kernel_rfl)) ?_
              refine E.W.call (.bool (Q6.taken (32 + ((k : Nat) : Int)) (W.near n0) (W.near n1))) (fun w h => Taken6_any (32 + ((k : Nat) : Int)) (W.near n0) (W.near n1) (W.near_bd n0) (W.near_bd n1) w) (fun w _ => by kernel_rfl) (by kernel_rfl) ?_
              refine E.W.op (.bool (Q6.taken (32 + ((k : Nat) : Int)) (W.near n0) (W.near n1))) (fun w => by kernel_rfl) (by kernel_rfl) ?_
              refine E.W.done (E.To.code ?_)
              refine E.C.seq ?_
              refine E.sr ?_
              refine E.op (.bool (Q6.taken (32 + ((k : Nat) : Int)) (W.near n0) (W.near n1))) ?_
              refine E.To.code ?_
              refine E.C.cond (Q6.taken (32 + ((k : Nat) : Int)) (W.near n0) (W.near n1)) (by kernel_rfl) (by kernel_rfl) (fun hc41 => ?_) (fun hc41 => ?_)
              · skip
                refine E.C.region ?_
                refine E.op (.int .u32 (Q.far x)) ?_
                refine E.op (.int .u32 (IntKind.wrap .u32 (4 * (Q.far x)))) ?_
                refine E.op (.int .u32 (IntKind.wrap .u32 (4 * (Q.far x)))) ?_
                refine E.tr ?_
                refine E.op (.pointer (some ⟨c38, 0, none⟩)) ?_
                refine E.G.call (Q.S.val ((Q.runs 1 (Q.brs (W.near n0) (W.near n1)) (Q.brV x k)).1)) (fun w h => A.call_rd [A.blk g37 (Q.S.cells (⟨0, (Q.up (Q.up (fun _ => 0) 1 (W.near n0)) 2 (W.near n1)), 0, (fun _ => 0), 0, 0⟩)), A.blk g29 ([.int .u32 w0, .int .u32 w1, .int .u32 (W.near n0), .int .u32 (W.near n1)])] (CState (c := c38) (V := (Q.runs 1 (Q.brs (W.near n0) (W.near n1)) (Q.brV x k)).2.2.2) ((Q.runs 1 (Q.brs (W.near n0) (W.near n1)) (Q.brV x k)).1)) h (by kernel_rfl) (A.pm [2, 0, 1] (by kernel_rfl) (by kernel_rfl))) (fun w _ => by kernel_rfl) (by kernel_rfl) ?_
                refine E.op (.int .u32 (((Q.runs 1 (Q.brs (W.near n0) (W.near n1)) (Q.brV x k)).1).pc)) ?_
                refine E.op (.int .u32 (IntKind.wrap .u32 (4 * (Q.far x)))) ?_
                refine E.G.val (.bool false) (by kernel_rfl) (fun w h => E.run_as (a := .bool ((((Q.runs 1 (Q.brs (W.near n0) (W.near n1)) (Q.brV x k)).1).pc) != (IntKind.wrap .u32 (4 * (Q.far x))))) (by kernel_rfl) (congrArg Value.bool (Q.b77t (by assumption) (by assumption)))) ?_
                refine E.op (.bool false) ?_
                refine E.op (.pointer (some ⟨c38, 0, none⟩)) ?_
                refine E.G.call (Q.S.val ((Q.runs 1 (Q.brs (W.near n0) (W.near n1)) (Q.brV x k)).1)) (fun w h => A.call_rd [A.blk g37 (Q.S.cells (⟨0, (Q.up (Q.up (fun _ => 0) 1 (W.near n0)) 2 (W.near n1)), 0, (fun _ => 0), 0, 0⟩)), A.blk g29 ([.int .u32 w0, .int .u32 w1, .int .u32 (W.near n0), .int .u32 (W.near n1)])] (CState (c := c38) (V := (Q.runs 1 (Q.brs (W.near n0) (W.near n1)) (Q.brV x k)).2.2.2) ((Q.runs 1 (Q.brs (W.near n0) (W.near n1)) (Q.brV x k)).1)) h (by kernel_rfl) (A.pm [2, 0, 1] (by kernel_rfl) (by kernel_rfl))) (fun w _ => by kernel_rfl) (by kernel_rfl) ?_
                refine E.op (.int .i64 (((Q.runs 1 (Q.brs (W.near n0) (W.near n1)) (Q.brV x k)).1).st)) ?_
                refine E.G.val (.bool false) (by kernel_rfl) (fun w h => E.run_as (a := .bool ((((Q.runs 1 (Q.brs (W.near n0) (W.near n1)) (Q.brV x k)).1).st) != 1)) (by kernel_rfl) (congrArg Value.bool (Q.b82 (by assumption)))) ?_
                refine E.op (.bool false) ?_
                refine E.To.code ?_
                refine E.C.condF (by kernel_rfl) (by kernel_rfl) ?_
                refine E.C.skip (E.P.nb (E.To.code ?_))
                refine A.C.drop [] [M.It c38 ((Q.runs 1 (Q.brs (W.near n0) (W.near n1)) (Q.brV x k)).2.2.2) (Q.S.cells ((Q.runs 1 (Q.brs (W.near n0) (W.near n1)) (Q.brV x k)).1))] (A.pm [0] (by kernel_rfl) (by kernel_rfl)) ?_
                refine E.C.region ?_
                refine E.op (.int .i64 (32 + ((k : Nat) : Int))) ?_
                refine E.G.val (.int .i64 (32 + ((k + 1 : Nat) : Int))) (by kernel_rfl) (fun w h => E.run_as (a := .int .i64 (IntKind.wrap .i64 ((32 + ((k : Nat) : Int)) + 1))) (by kernel_rfl) (congrArg (Value.int .i64) (Q.b37 (by (first | assumption | ((try simp only [Bool.or_eq_false_iff, Bool.or_eq_true, Bool.and_eq_true, Bool.and_eq_false_iff, Bool.not_eq_eq_eq_not, Bool.not_true, Bool.not_false, decide_eq_true_eq, decide_eq_false_iff_not, ge_iff_le, gt_iff_lt] at *); omega)))))) ?_
                refine E.op (.int .i64 (32 + ((k + 1 : Nat) : Int))) ?_
                exact E.To.round (k + 1) (by (first | assumption | ((try simp only [Bool.or_eq_false_iff, Bool.or_eq_true, Bool.and_eq_true, Bool.and_eq_false_iff, Bool.not_eq_eq_eq_not, Bool.not_true, Bool.not_false, decide_eq_true_eq, decide_eq_false_iff_not, ge_iff_le, gt_iff_lt] at *); omega))) ((by (first | assumption | ((try simp only [Bool.or_eq_false_iff, Bool.or_eq_true, Bool.and_eq_true, Bool.and_eq_false_iff, Bool.not_eq_eq_eq_not, Bool.not_true, Bool.not_false, decide_eq_true_eq, decide_eq_false_iff_not, ge_iff_le, gt_iff_lt] at *); omega)))) ⟨by kernel_rfl, by kernel_rfl⟩ (List.Sublist.cons _ (List.Sublist.refl _)) (fun _ h => h)
              · skip
                refine E.C.skip (E.To.code ?_)
                refine E.sr ?_
                refine E.op (.pointer (some ⟨c38, 0, none⟩)) ?_
                refine E.G.call (Q.S.val ((Q.runs 1 (Q.brs (W.near n0) (W.near n1)) (Q.brV x k)).1)) (fun w h => A.call_rd [A.blk g37 (Q.S.cells (⟨0, (Q.up (Q.up (fun _ => 0) 1 (W.near n0)) 2 (W.near n1)), 0, (fun _ => 0), 0, 0⟩)), A.blk g29 ([.int .u32 w0, .int .u32 w1, .int .u32 (W.near n0), .int .u32 (W.near n1)])] (CState (c := c38) (V := (Q.runs 1 (Q.brs (W.near n0) (W.near n1)) (Q.brV x k)).2.2.2) ((Q.runs 1 (Q.brs (W.near n0) (W.near n1)) (Q.brV x k)).1)) h (by kernel_rfl) (A.pm [2, 0, 1] (by kernel_rfl) (by kernel_rfl))) (fun w _ => by kernel_rfl) (by kernel_rfl) ?_
                refine E.op (.int .u32 (((Q.runs 1 (Q.brs (W.near n0) (W.near n1)) (Q.brV x k)).1).pc)) ?_
                refine E.op (.int .u32 4) ?_
                refine E.G.val (.bool false) (by kernel_rfl) (fun w h => E.run_as (a := .bool ((((Q.runs 1 (Q.brs (W.near n0) (W.near n1)) (Q.brV x k)).1).pc) != 4)) (by kernel_rfl) (congrArg Value.bool (Q.b77f (by assumption) (by assumption)))) ?_
                refine E.op (.bool false) ?_
                refine E.op (.pointer (some ⟨c38, 0, none⟩)) ?_
                refine E.G.call (Q.S.val ((Q.runs 1 (Q.brs (W.near n0) (W.near n1)) (Q.brV x k)).1)) (fun w h => A.call_rd [A.blk g37 (Q.S.cells (⟨0, (Q.up (Q.up (fun _ => 0) 1 (W.near n0)) 2 (W.near n1)), 0, (fun _ => 0), 0, 0⟩)), A.blk g29 ([.int .u32 w0, .int .u32 w1, .int .u32 (W.near n0), .int .u32 (W.near n1)])] (CState (c := c38) (V := (Q.runs 1 (Q.brs (W.near n0) (W.near n1)) (Q.brV x k)).2.2.2) ((Q.runs 1 (Q.brs (W.near n0) (W.near n1)) (Q.brV x k)).1)) h (by kernel_rfl) (A.pm [2, 0, 1] (by kernel_rfl) (by kernel_rfl))) (fun w _ => by kernel_rfl) (by kernel_rfl) ?_
                refine E.op (.int .i64 (((Q.runs 1 (Q.brs (W.near n0) (W.near n1)) (Q.brV x k)).1).st)) ?_
                refine E.G.val (.bool false) (by kernel_rfl) (fun w h => E.run_as (a := .bool ((((Q.runs 1 (Q.brs (W.near n0) (W.near n1)) (Q.brV x k)).1).st) != 1)) (by kernel_rfl) (congrArg Value.bool (Q.b82 (by assumption)))) ?_
                refine E.op (.bool false) ?_
                refine E.To.code ?_
                refine E.C.condF (by kernel_rfl) (by kernel_rfl) ?_
                refine E.C.skip (E.P.nb (E.To.code ?_))
                refine A.C.drop [] [M.It c38 ((Q.runs 1 (Q.brs (W.near n0) (W.near n1)) (Q.brV x k)).2.2.2) (Q.S.cells ((Q.runs 1 (Q.brs (W.near n0) (W.near n1)) (Q.brV x k)).1))] (A.pm [0] (by kernel_rfl) (by kernel_rfl)) ?_
                refine E.C.region ?_
                refine E.op (.int .i64 (32 + ((k : Nat) : Int))) ?_
                refine E.G.val (.int .i64 (32 + ((k + 1 : Nat) : Int))) (by kernel_rfl) (fun w h => E.run_as (a := .int .i64 (IntKind.wrap .i64 ((32 + ((k : Nat) : Int)) + 1))) (by kernel_rfl) (congrArg (Value.int .i64) (Q.b37 (by (first | assumption | ((try simp only [Bool.or_eq_false_iff, Bool.or_eq_true, Bool.and_eq_true, Bool.and_eq_false_iff, Bool.not_eq_eq_eq_not, Bool.not_true, Bool.not_false, decide_eq_true_eq, decide_eq_false_iff_not, ge_iff_le, gt_iff_lt] at *); omega)))))) ?_
                refine E.op (.int .i64 (32 + ((k + 1 : Nat) : Int))) ?_
                exact E.To.round (k + 1) (by (first | assumption | ((try simp only [Bool.or_eq_false_iff, Bool.or_eq_true, Bool.and_eq_true, Bool.and_eq_false_iff, Bool.not_eq_eq_eq_not, Bool.not_true, Bool.not_false, decide_eq_true_eq, decide_eq_false_iff_not, ge_iff_le, gt_iff_lt] at *); omega))) ((by (first | assumption | ((try simp only [Bool.or_eq_false_iff, Bool.or_eq_true, Bool.and_eq_true, Bool.and_eq_false_iff, Bool.not_eq_eq_eq_not, Bool.not_true, Bool.not_false, decide_eq_true_eq, decide_eq_false_iff_not, ge_iff_le, gt_iff_lt] at *); omega)))) ⟨by kernel_rfl, by kernel_rfl⟩ (List.Sublist.cons _ (List.Sublist.refl _)) (fun _ h => h)
            · skip
              refine E.C.exit (E.P.et (E.P.et (E.P.eh (E.P.nb (E.To.code ?_)))))
              refine E.C.region ?_
              refine E.op (.int .i64 1) ?_
              refine E.op (.int .i64 2) ?_
              refine E.op (.int .i64 2) ?_
              refine E.To.rounds 0 ?_
              refine E.C.weak [(6, .bool false), (7, .bool true), (8, .pointer (some ⟨g29, 0, none⟩)), (9, .int .u32 (Q.far x)), (10, .int .i64 2), (11, .int .i64 (32 + ((k : Nat) : Int))), (32, .int .i64 1), (33, .int .i64 2), (34, .int .i64 (32 + ((k : Nat) : Int))), (35, .bool (decide ((32 + ((k : Nat) : Int)) ≤ 37)))] [(g29, [.int .u32 w0, .int .u32 w1, .int .u32 (W.near n0), .int .u32 (W.near n1)])] ⟨by kernel_rfl, by kernel_rfl⟩ (List.Sublist.refl _) ?_
              refine E.C.seq ?_
              refine E.sr ?_
              refine E.op (.int .i64 2) ?_
              refine E.op (.bool false) ?_
              refine E.To.code ?_
              refine E.C.condF (by kernel_rfl) (by kernel_rfl) ?_
              refine E.C.exit (E.P.et (E.P.et (E.P.eh (E.To.code ?_))))
              refine E.C.weak [(6, .bool false), (7, .bool true)] [] ⟨by kernel_rfl, by kernel_rfl⟩ (List.nil_sublist _) ?_
              refine E.sr ?_
              refine E.op (.bool true) ?_
              refine E.op (.bool true) ?_
              refine E.To.code ?_
              refine E.C.ret (E.To.body (fn := Try.f7) [.bool true] ?_ ?_)
              · exact ⟨⟨by kernel_rfl, by kernel_rfl⟩, trivial⟩
              · intro w h
                exact ⟨rfl, h.ch.bel (fun x hx => (hh.1 x hx).elim)⟩
theorem QcpuBranches_law (w0 w1 n0 n1 x : Int) (hw0 : 0 ≤ w0 ∧ w0 < 4294967296) (hw1 : 0 ≤ w1 ∧ w1 < 4294967296) (hn0 : -9223372036854775808 ≤ n0 ∧ n0 < 9223372036854775808) (hn1 : -9223372036854775808 ≤ n1 ∧ n1 < 9223372036854775808) (hx : -9223372036854775808 ≤ x ∧ x < 9223372036854775808) (w : World) : Calls Try.prog 7 #[.agg #[.int .u32 w0, .int .u32 w1], .agg #[.int .i64 n0, .int .i64 n1], .int .i64 x] w fun e w' => e = .returned (.bool true) ∧ Bel w w' := by
  skip
  exact QcpuBranches_rd w0 w1 n0 n1 x hw0 hw1 hn0 hn1 hx w _ _ ⟨fun _ h => h, fun _ h => h⟩
end Go.Proofs.Ytgbndbljohpnmaa
