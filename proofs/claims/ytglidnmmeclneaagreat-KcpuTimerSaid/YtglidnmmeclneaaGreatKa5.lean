/- Texts of the walk, merged (5): see the remark ahead of each. -/
import Derived.Test.YtglidnmmeclneaaGreatKa4
import Derived.Test.YtglidnmmeclneaaGreatProg
import Derived.ChangeKeysEq
namespace Go.Proofs.YtglidnmmeclneaaGreat
set_option linter.unusedVariables false
set_option linter.unusedSimpArgs false
open Go.RowKit
theorem Cond_0 (f : Int) (w : World) : Calls Tryz.prog 56 #[.int .i64 0, .int .u32 f] w fun e w' => e = .returned (.bool (W.cond 0 f)) ∧ Bel w w' := by
  have hn : (bits .and .u32 f 8 != 0) = W.fN f := rfl
  have hz : (bits .and .u32 f 4 != 0) = W.fZ f := rfl
  have hc : (bits .and .u32 f 2 != 0) = W.fC f := rfl
  have hv : (bits .and .u32 f 1 != 0) = W.fV f := rfl
  go_enter Tryz.func56, Tryz.ntmps56
  go_wp2_with (go_at_call 91; refine (wnames_any _).mono ?_; rintro e w' ⟨rfl, hb⟩)
  all_goals
    go_ret
    exact ⟨ret_bool (by simp_all [W.cond, W.condB] <;> cases W.fN f <;> cases W.fV f <;> rfl), Nz.bel⟩
theorem Cond_1 (f : Int) (w : World) : Calls Tryz.prog 56 #[.int .i64 1, .int .u32 f] w fun e w' => e = .returned (.bool (W.cond 1 f)) ∧ Bel w w' := by
  have hn : (bits .and .u32 f 8 != 0) = W.fN f := rfl
  have hz : (bits .and .u32 f 4 != 0) = W.fZ f := rfl
  have hc : (bits .and .u32 f 2 != 0) = W.fC f := rfl
  have hv : (bits .and .u32 f 1 != 0) = W.fV f := rfl
  go_enter Tryz.func56, Tryz.ntmps56
  go_wp2_with (go_at_call 91; refine (wnames_any _).mono ?_; rintro e w' ⟨rfl, hb⟩)
  all_goals
    go_ret
    exact ⟨ret_bool (by simp_all [W.cond, W.condB] <;> cases W.fN f <;> cases W.fV f <;> rfl), Nz.bel⟩
theorem Cond_2 (f : Int) (w : World) : Calls Tryz.prog 56 #[.int .i64 2, .int .u32 f] w fun e w' => e = .returned (.bool (W.cond 2 f)) ∧ Bel w w' := by
  have hn : (bits .and .u32 f 8 != 0) = W.fN f := rfl
  have hz : (bits .and .u32 f 4 != 0) = W.fZ f := rfl
  have hc : (bits .and .u32 f 2 != 0) = W.fC f := rfl
  have hv : (bits .and .u32 f 1 != 0) = W.fV f := rfl
  go_enter Tryz.func56, Tryz.ntmps56
  go_wp2_with (go_at_call 91; refine (wnames_any _).mono ?_; rintro e w' ⟨rfl, hb⟩)
  all_goals
    go_ret
    exact ⟨ret_bool (by simp_all [W.cond, W.condB] <;> cases W.fN f <;> cases W.fV f <;> rfl), Nz.bel⟩
theorem Cond_3 (f : Int) (w : World) : Calls Tryz.prog 56 #[.int .i64 3, .int .u32 f] w fun e w' => e = .returned (.bool (W.cond 3 f)) ∧ Bel w w' := by
  have hn : (bits .and .u32 f 8 != 0) = W.fN f := rfl
  have hz : (bits .and .u32 f 4 != 0) = W.fZ f := rfl
  have hc : (bits .and .u32 f 2 != 0) = W.fC f := rfl
  have hv : (bits .and .u32 f 1 != 0) = W.fV f := rfl
  go_enter Tryz.func56, Tryz.ntmps56
  go_wp2_with (go_at_call 91; refine (wnames_any _).mono ?_; rintro e w' ⟨rfl, hb⟩)
  all_goals
    go_ret
    exact ⟨ret_bool (by simp_all [W.cond, W.condB] <;> cases W.fN f <;> cases W.fV f <;> rfl), Nz.bel⟩
theorem Cond_4 (f : Int) (w : World) : Calls Tryz.prog 56 #[.int .i64 4, .int .u32 f] w fun e w' => e = .returned (.bool (W.cond 4 f)) ∧ Bel w w' := by
  have hn : (bits .and .u32 f 8 != 0) = W.fN f := rfl
  have hz : (bits .and .u32 f 4 != 0) = W.fZ f := rfl
  have hc : (bits .and .u32 f 2 != 0) = W.fC f := rfl
  have hv : (bits .and .u32 f 1 != 0) = W.fV f := rfl
  go_enter Tryz.func56, Tryz.ntmps56
  go_wp2_with (go_at_call 91; refine (wnames_any _).mono ?_; rintro e w' ⟨rfl, hb⟩)
  all_goals
    go_ret
    exact ⟨ret_bool (by simp_all [W.cond, W.condB] <;> cases W.fN f <;> cases W.fV f <;> rfl), Nz.bel⟩
theorem Cond_5 (f : Int) (w : World) : Calls Tryz.prog 56 #[.int .i64 5, .int .u32 f] w fun e w' => e = .returned (.bool (W.cond 5 f)) ∧ Bel w w' := by
  have hn : (bits .and .u32 f 8 != 0) = W.fN f := rfl
  have hz : (bits .and .u32 f 4 != 0) = W.fZ f := rfl
  have hc : (bits .and .u32 f 2 != 0) = W.fC f := rfl
  have hv : (bits .and .u32 f 1 != 0) = W.fV f := rfl
  go_enter Tryz.func56, Tryz.ntmps56
  go_wp2_with (go_at_call 91; refine (wnames_any _).mono ?_; rintro e w' ⟨rfl, hb⟩)
  all_goals
    go_ret
    exact ⟨ret_bool (by simp_all [W.cond, W.condB] <;> cases W.fN f <;> cases W.fV f <;> rfl), Nz.bel⟩
theorem Cond_6 (f : Int) (w : World) : Calls Tryz.prog 56 #[.int .i64 6, .int .u32 f] w fun e w' => e = .returned (.bool (W.cond 6 f)) ∧ Bel w w' := by
  have hn : (bits .and .u32 f 8 != 0) = W.fN f := rfl
  have hz : (bits .and .u32 f 4 != 0) = W.fZ f := rfl
  have hc : (bits .and .u32 f 2 != 0) = W.fC f := rfl
  have hv : (bits .and .u32 f 1 != 0) = W.fV f := rfl
  go_enter Tryz.func56, Tryz.ntmps56
  go_wp2_with (go_at_call 91; refine (wnames_any _).mono ?_; rintro e w' ⟨rfl, hb⟩)
  all_goals
    go_ret
    exact ⟨ret_bool (by simp_all [W.cond, W.condB] <;> cases W.fN f <;> cases W.fV f <;> rfl), Nz.bel⟩
theorem Cond_7 (f : Int) (w : World) : Calls Tryz.prog 56 #[.int .i64 7, .int .u32 f] w fun e w' => e = .returned (.bool (W.cond 7 f)) ∧ Bel w w' := by
  have hn : (bits .and .u32 f 8 != 0) = W.fN f := rfl
  have hz : (bits .and .u32 f 4 != 0) = W.fZ f := rfl
  have hc : (bits .and .u32 f 2 != 0) = W.fC f := rfl
  have hv : (bits .and .u32 f 1 != 0) = W.fV f := rfl
  go_enter Tryz.func56, Tryz.ntmps56
  go_wp2_with (go_at_call 91; refine (wnames_any _).mono ?_; rintro e w' ⟨rfl, hb⟩)
  all_goals
    go_ret
    exact ⟨ret_bool (by simp_all [W.cond, W.condB] <;> cases W.fN f <;> cases W.fV f <;> rfl), Nz.bel⟩
theorem Cond_8 (f : Int) (w : World) : Calls Tryz.prog 56 #[.int .i64 8, .int .u32 f] w fun e w' => e = .returned (.bool (W.cond 8 f)) ∧ Bel w w' := by
  have hn : (bits .and .u32 f 8 != 0) = W.fN f := rfl
  have hz : (bits .and .u32 f 4 != 0) = W.fZ f := rfl
  have hc : (bits .and .u32 f 2 != 0) = W.fC f := rfl
  have hv : (bits .and .u32 f 1 != 0) = W.fV f := rfl
  go_enter Tryz.func56, Tryz.ntmps56
  go_wp2_with (go_at_call 91; refine (wnames_any _).mono ?_; rintro e w' ⟨rfl, hb⟩)
  all_goals
    go_ret
    exact ⟨ret_bool (by simp_all [W.cond, W.condB] <;> cases W.fN f <;> cases W.fV f <;> rfl), Nz.bel⟩
theorem Cond_9 (f : Int) (w : World) : Calls Tryz.prog 56 #[.int .i64 9, .int .u32 f] w fun e w' => e = .returned (.bool (W.cond 9 f)) ∧ Bel w w' := by
  have hn : (bits .and .u32 f 8 != 0) = W.fN f := rfl
  have hz : (bits .and .u32 f 4 != 0) = W.fZ f := rfl
  have hc : (bits .and .u32 f 2 != 0) = W.fC f := rfl
  have hv : (bits .and .u32 f 1 != 0) = W.fV f := rfl
  go_enter Tryz.func56, Tryz.ntmps56
  go_wp2_with (go_at_call 91; refine (wnames_any _).mono ?_; rintro e w' ⟨rfl, hb⟩)
  all_goals
    go_ret
    exact ⟨ret_bool (by simp_all [W.cond, W.condB] <;> cases W.fN f <;> cases W.fV f <;> rfl), Nz.bel⟩
theorem Cond_10 (f : Int) (w : World) : Calls Tryz.prog 56 #[.int .i64 10, .int .u32 f] w fun e w' => e = .returned (.bool (W.cond 10 f)) ∧ Bel w w' := by
  have hn : (bits .and .u32 f 8 != 0) = W.fN f := rfl
  have hz : (bits .and .u32 f 4 != 0) = W.fZ f := rfl
  have hc : (bits .and .u32 f 2 != 0) = W.fC f := rfl
  have hv : (bits .and .u32 f 1 != 0) = W.fV f := rfl
  go_enter Tryz.func56, Tryz.ntmps56
  go_wp2_with (go_at_call 91; refine (wnames_any _).mono ?_; rintro e w' ⟨rfl, hb⟩)
  all_goals
    go_ret
    exact ⟨ret_bool (by simp_all [W.cond, W.condB] <;> cases W.fN f <;> cases W.fV f <;> rfl), Nz.bel⟩
theorem Cond_11 (f : Int) (w : World) : Calls Tryz.prog 56 #[.int .i64 11, .int .u32 f] w fun e w' => e = .returned (.bool (W.cond 11 f)) ∧ Bel w w' := by
  have hn : (bits .and .u32 f 8 != 0) = W.fN f := rfl
  have hz : (bits .and .u32 f 4 != 0) = W.fZ f := rfl
  have hc : (bits .and .u32 f 2 != 0) = W.fC f := rfl
  have hv : (bits .and .u32 f 1 != 0) = W.fV f := rfl
  go_enter Tryz.func56, Tryz.ntmps56
  go_wp2_with (go_at_call 91; refine (wnames_any _).mono ?_; rintro e w' ⟨rfl, hb⟩)
  all_goals
    go_ret
    exact ⟨ret_bool (by simp_all [W.cond, W.condB] <;> cases W.fN f <;> cases W.fV f <;> rfl), Nz.bel⟩
theorem Cond_12 (f : Int) (w : World) : Calls Tryz.prog 56 #[.int .i64 12, .int .u32 f] w fun e w' => e = .returned (.bool (W.cond 12 f)) ∧ Bel w w' := by
  have hn : (bits .and .u32 f 8 != 0) = W.fN f := rfl
  have hz : (bits .and .u32 f 4 != 0) = W.fZ f := rfl
  have hc : (bits .and .u32 f 2 != 0) = W.fC f := rfl
  have hv : (bits .and .u32 f 1 != 0) = W.fV f := rfl
  go_enter Tryz.func56, Tryz.ntmps56
  go_wp2_with (go_at_call 91; refine (wnames_any _).mono ?_; rintro e w' ⟨rfl, hb⟩)
  all_goals
    go_ret
    exact ⟨ret_bool (by simp_all [W.cond, W.condB] <;> cases W.fN f <;> cases W.fV f <;> rfl), Nz.bel⟩
theorem Cond_13 (f : Int) (w : World) : Calls Tryz.prog 56 #[.int .i64 13, .int .u32 f] w fun e w' => e = .returned (.bool (W.cond 13 f)) ∧ Bel w w' := by
  have hn : (bits .and .u32 f 8 != 0) = W.fN f := rfl
  have hz : (bits .and .u32 f 4 != 0) = W.fZ f := rfl
  have hc : (bits .and .u32 f 2 != 0) = W.fC f := rfl
  have hv : (bits .and .u32 f 1 != 0) = W.fV f := rfl
  go_enter Tryz.func56, Tryz.ntmps56
  go_wp2_with (go_at_call 91; refine (wnames_any _).mono ?_; rintro e w' ⟨rfl, hb⟩)
  all_goals
    go_ret
    exact ⟨ret_bool (by simp_all [W.cond, W.condB] <;> cases W.fN f <;> cases W.fV f <;> rfl), Nz.bel⟩
theorem Cond_n (cc f : Int) (hk : cc < 0 ∨ 13 < cc) (w : World) : Calls Tryz.prog 56 #[.int .i64 cc, .int .u32 f] w fun e w' => e = .returned (.bool (W.cond cc f)) ∧ Bel w w' := by
  have HF := hid (W.cond_n cc f hk)
  rcases hk with h | h
  · have d : decide (cc < 0) = true := by simp; omega
    go_enter Tryz.func56, Tryz.ntmps56
    go_wp2_with fail
    go_ret
    exact ⟨ret_bool (by rw [HF.out]), Nz.bel⟩
  · have d : decide (cc < 0) = false := by simp; omega
    have d2 : decide (14 ≤ cc) = true := by simp; omega
    go_enter Tryz.func56, Tryz.ntmps56
    go_wp2_with (go_at_call 91; refine (wnames_any _).mono ?_; rintro e w' ⟨rfl, hb⟩)
    go_ret
    exact ⟨ret_bool (by rw [HF.out]), Nz.bel⟩
theorem Cond_any (cc f : Int) (w : World) : Calls Tryz.prog 56 #[.int .i64 cc, .int .u32 f] w fun e w' => e = .returned (.bool (W.cond cc f)) ∧ Bel w w' := by
  rcases (by omega : cc = 0 ∨ cc = 1 ∨ cc = 2 ∨ cc = 3 ∨ cc = 4 ∨ cc = 5 ∨ cc = 6 ∨ cc = 7 ∨ cc = 8 ∨ cc = 9 ∨ cc = 10 ∨ cc = 11 ∨ cc = 12 ∨ cc = 13 ∨ (cc < 0 ∨ 13 < cc)) with rfl | rfl | rfl | rfl | rfl | rfl | rfl | rfl | rfl | rfl | rfl | rfl | rfl | rfl | h
  · exact Cond_0 f w
  · exact Cond_1 f w
  · exact Cond_2 f w
  · exact Cond_3 f w
  · exact Cond_4 f w
  · exact Cond_5 f w
  · exact Cond_6 f w
  · exact Cond_7 f w
  · exact Cond_8 f w
  · exact Cond_9 f w
  · exact Cond_10 f w
  · exact Cond_11 f w
  · exact Cond_12 f w
  · exact Cond_13 f w
  · exact Cond_n cc f h w

end Go.Proofs.YtglidnmmeclneaaGreat
namespace Go.Proofs.YtglidnmmeclneaaGreat
set_option linter.unusedVariables false
set_option linter.unusedSimpArgs false
open Go.RowKit
/-- A row of marks. -/
def E.bits (n k : Nat) : Array Bool := ((List.range n).map (Nat.testBit k)).toArray
section
variable {P : Program} {n : Nat} {ops : Array Oper} {Q : Exit → Act → World → Prop} {S : Nat → Prop} {w0 : World} {X : World → Prop} {L : List (Nat × List Value)} {fr : E.Fr} {D : World → Prop} {fuel : Nat} {listed : Array Bool}
/-- Nodes of a region that draws its order. -/
theorem E.H.gen (h : ∀ (H : Nat → Array Bool → E.Fr → (World → Prop) → List (Nat × List Value) → Prop), (∀ f l fr X L, E.H P n ops Q D f l fr S w0 X L → H f l fr X L) → (∀ f l fr X L, H f l fr X L → E.H P n ops Q D f l fr S w0 X L) → H fuel listed fr X L) : E.H P n ops Q D fuel listed fr S w0 X L :=
  h (fun f l fr X L => E.H P n ops Q D f l fr S w0 X L) (fun _ _ _ _ _ h => h) (fun _ _ _ _ _ h => h)
theorem E.H.to (listed' : Array Bool) (fr' : E.Fr) (L' : List (Nat × List Value)) (he : listed = listed') (hs : E.sub fr' fr) (hl : L'.Sublist L) (k : E.H P n ops Q D fuel listed' fr' S w0 X L') : E.H P n ops Q D fuel listed fr S w0 X L :=
  he ▸ E.H.weak fr' L' hs hl k
theorem E.H.toP (listed' : Array Bool) (fr' : E.Fr) (L' : List (Nat × List Value)) (he : listed = listed') (hs : E.sub fr' fr) (hl : L.Perm L') (k : E.H P n ops Q D fuel listed' fr' S w0 X L') : E.H P n ops Q D fuel listed fr S w0 X L :=
  he ▸ fun a w h1 h2 => k a w (h1.sub hs) (h2.perm hl.symm)
end
theorem A.hpY0 {w0 w : World} {o0 a0 : Nat → Prop} {its : List A.It} {L : List (Nat × List Value)} (h : E.Hp o0 w0 (A.X w0 o0 a0 its) L w) (hne : A.ne L = true) : A.Y (A.bl L) w :=
  A.hpY (p := A.bl L) (r := its) h hne (List.Perm.refl _)
end Go.Proofs.YtglidnmmeclneaaGreat

/- Nodes: what is found by itself. -/
namespace Go.Proofs.YtglidnmmeclneaaGreat
section
variable {P : Program} {n : Nat} {ops : Array Oper} {Q : Exit → Act → World → Prop} {S : Nat → Prop} {w0 : World} {X : World → Prop} {L : List (Nat × List Value)} {fr : E.Fr} {D : World → Prop} {fuel : Nat} {listed : Array Bool}
theorem E.ho {listed' : Array Bool} {fr' : E.Fr} {L' : List (Nat × List Value)} (k : E.H P n ops Q D fuel listed' fr' S w0 X L') (he : listed = listed' := by kernel_rfl) (hs : E.sub fr' fr := by exact ⟨by kernel_rfl, by kernel_rfl⟩) (hl : L'.Sublist L := by exact Nz.sub) : E.H P n ops Q D fuel listed fr S w0 X L := E.H.to _ _ _ he hs hl k
theorem E.hb {listed' : Array Bool} {fr' : E.Fr} {L' : List (Nat × List Value)} (k : E.H P n ops Q D fuel listed' fr' S w0 X L') (he : listed = listed' := by kernel_rfl) (hs : E.sub fr' fr := by exact ⟨by kernel_rfl, by kernel_rfl⟩) (hl : L'.Sublist L := by exact Nz.sub) (hD : ∀ w, E.Hp S w0 X L w → D w := by exact (fun w h => A.hpY0 h (by kernel_rfl))) : E.G P n ops (Exit.then (fun a' w' => D w' ∧ wpAnyH P .any ops Q D fuel listed a' w') Q) [] fr S w0 X L := E.H.back hD (E.H.to _ _ _ he hs hl k)
end
end Go.Proofs.YtglidnmmeclneaaGreat
namespace Go.Proofs.YtglidnmmeclneaaGreat
set_option linter.unusedVariables false
set_option linter.unusedSimpArgs false
open Go.RowKit
/-- The step as it begins. -/
def K.w0 (s : Q.S) (i : K.Ins) : K.W := ⟨s, ⟨(IntKind.wrap .u32 (s.pc + (IntKind.wrap .u32 i.sz))), s.r, s.f, s.c, (IntKind.wrap .i64 (s.st + 1)), s.du⟩, i, 0, 0⟩
theorem K.w0_wf {s : Q.S} {i : K.Ins} (h : Q.wf s) : K.wf (K.w0 s i) := ⟨h, ⟨Q.wrap_bd _, h.r, h.c⟩⟩
theorem K.eq0 {k : Int} (h : (k != 0) = false) : (k == 0) = true := by rw [bne] at h; cases e : (k == 0) with
  | true => rfl
  | false => rw [e] at h; cases h
theorem K.rg0 {o : Int} (h : ((decide (o ≥ 32)) && (decide (o ≤ 46))) = true) : 32 ≤ o ∧ o ≤ 46 := by
  rw [Bool.and_eq_true, decide_eq_true_eq, decide_eq_true_eq] at h; exact h
theorem K.rng16 {o : Int} (h : ((decide (o ≥ 48)) && (decide (o ≤ 62))) = true) : 32 ≤ IntKind.wrap .i64 (o - 16) ∧ IntKind.wrap .i64 (o - 16) ≤ 46 := by
  rw [Bool.and_eq_true, decide_eq_true_eq, decide_eq_true_eq] at h
  rw [IntWalk.i64_in _ (by omega)]; omega
theorem K.rng32 {o : Int} (h : ((decide (o ≥ 64)) && (decide (o ≤ 78))) = true) : 32 ≤ IntKind.wrap .i64 (o - 32) ∧ IntKind.wrap .i64 (o - 32) ≤ 46 := by
  rw [Bool.and_eq_true, decide_eq_true_eq, decide_eq_true_eq] at h
  rw [IntWalk.i64_in _ (by omega)]; omega
theorem A.rdAs {P : Program} {f : FuncId} {args : Array Value} {p : List A.It} {v v' : Value} (h : A.Rd P f args p v) (e : v = v') : A.Rd P f args p v' := e ▸ h
def K.stepI (i : K.Ins) (k t : Int) (s : Q.S) (V : M.V) : Q.S × Int × Int × M.V := (bif (k != 0) then (s, k, t, V) else (bif ((decide (i.op ≥ 32)) && (decide (i.op ≤ 46))) then (bif (((K.arith (K.w0 s i) i.op (s.r ((i.s).toNat))).k) != 0) then (s, (K.arith (K.w0 s i) i.op (s.r ((i.s).toNat))).k, (K.arith (K.w0 s i) i.op (s.r ((i.s).toNat))).t, V) else (((K.arith (K.w0 s i) i.op (s.r ((i.s).toNat))).s), (K.arith (K.w0 s i) i.op (s.r ((i.s).toNat))).k, (K.arith (K.w0 s i) i.op (s.r ((i.s).toNat))).t, V)) else (bif ((decide (i.op ≥ 48)) && (decide (i.op ≤ 62))) then (bif (((K.arith (K.w0 s i) (IntKind.wrap .i64 (i.op - 16)) i.imm).k) != 0) then (s, (K.arith (K.w0 s i) (IntKind.wrap .i64 (i.op - 16)) i.imm).k, (K.arith (K.w0 s i) (IntKind.wrap .i64 (i.op - 16)) i.imm).t, V) else (((K.arith (K.w0 s i) (IntKind.wrap .i64 (i.op - 16)) i.imm).s), (K.arith (K.w0 s i) (IntKind.wrap .i64 (i.op - 16)) i.imm).k, (K.arith (K.w0 s i) (IntKind.wrap .i64 (i.op - 16)) i.imm).t, V)) else (bif ((decide (i.op ≥ 64)) && (decide (i.op ≤ 78))) then (bif (((K.arith (K.w0 s i) (IntKind.wrap .i64 (i.op - 32)) i.imm).k) != 0) then (s, (K.arith (K.w0 s i) (IntKind.wrap .i64 (i.op - 32)) i.imm).k, (K.arith (K.w0 s i) (IntKind.wrap .i64 (i.op - 32)) i.imm).t, V) else (((K.arith (K.w0 s i) (IntKind.wrap .i64 (i.op - 32)) i.imm).s), (K.arith (K.w0 s i) (IntKind.wrap .i64 (i.op - 32)) i.imm).k, (K.arith (K.w0 s i) (IntKind.wrap .i64 (i.op - 32)) i.imm).t, V)) else (bif ((decide (i.op ≥ 80)) && (decide (i.op ≤ 86))) then (bif ((((K.access (K.w0 s i) V i.op).1).k) != 0) then (s, ((K.access (K.w0 s i) V i.op).1).k, ((K.access (K.w0 s i) V i.op).1).t, (K.access (K.w0 s i) V i.op).2) else ((((K.access (K.w0 s i) V i.op).1).s), ((K.access (K.w0 s i) V i.op).1).k, ((K.access (K.w0 s i) V i.op).1).t, (K.access (K.w0 s i) V i.op).2)) else (bif ((decide (i.op ≥ 88)) && (decide (i.op ≤ 94))) then (bif ((((K.access (K.w0 s i) V (IntKind.wrap .i64 (i.op - 8))).1).k) != 0) then (s, ((K.access (K.w0 s i) V (IntKind.wrap .i64 (i.op - 8))).1).k, ((K.access (K.w0 s i) V (IntKind.wrap .i64 (i.op - 8))).1).t, (K.access (K.w0 s i) V (IntKind.wrap .i64 (i.op - 8))).2) else ((((K.access (K.w0 s i) V (IntKind.wrap .i64 (i.op - 8))).1).s), ((K.access (K.w0 s i) V (IntKind.wrap .i64 (i.op - 8))).1).k, ((K.access (K.w0 s i) V (IntKind.wrap .i64 (i.op - 8))).1).t, (K.access (K.w0 s i) V (IntKind.wrap .i64 (i.op - 8))).2)) else (bif ((decide (i.op ≥ 16)) && (decide (i.op ≤ 21))) then (bif ((((K.single (K.w0 s i) V).1).k) != 0) then (s, ((K.single (K.w0 s i) V).1).k, ((K.single (K.w0 s i) V).1).t, (K.single (K.w0 s i) V).2) else ((((K.single (K.w0 s i) V).1).s), ((K.single (K.w0 s i) V).1).k, ((K.single (K.w0 s i) V).1).t, (K.single (K.w0 s i) V).2)) else (bif ((decide (i.op ≥ 96)) && (decide (i.op < 110))) then (bif (W.cond (IntKind.wrap .i64 (i.op - 96)) s.f) then (bif (((K.w0 s i).k) != 0) then (s, (K.w0 s i).k, (K.w0 s i).t, V) else (⟨(IntKind.wrap .u32 ((((K.w0 s i).s).pc) + i.imm)), ((K.w0 s i).s).r, ((K.w0 s i).s).f, ((K.w0 s i).s).c, ((K.w0 s i).s).st, ((K.w0 s i).s).du⟩, (K.w0 s i).k, (K.w0 s i).t, V)) else (bif (((K.w0 s i).k) != 0) then (s, (K.w0 s i).k, (K.w0 s i).t, V) else (((K.w0 s i).s), (K.w0 s i).k, (K.w0 s i).t, V))) else (bif ((((K.control (K.w0 s i) V).1).k) != 0) then (s, ((K.control (K.w0 s i) V).1).k, ((K.control (K.w0 s i) V).1).t, (K.control (K.w0 s i) V).2) else ((((K.control (K.w0 s i) V).1).s), ((K.control (K.w0 s i) V).1).k, ((K.control (K.w0 s i) V).1).t, (K.control (K.w0 s i) V).2))))))))))
set_option maxHeartbeats 4000000 in
theorem Step_i {m : Nat} {xs : List Value} (i : K.Ins) (k t : Int) (s : Q.S) (V : M.V) (hf : K.fetch V s.pc = (i, k, t)) (hi : (k == 0) = true → K.iok i) (hs : Q.wf s) (hV : R.Wf V) : A.Tr Tryz.prog 20 #[Q.S.val s, .iface 35 (.pointer (some ⟨m, 0, none⟩))] [M.It m V xs] (I := Unit) (fun _ => True) (fun _ => .tuple #[Q.S.val ((K.stepI i k t s V).1), .agg #[.int .i64 ((K.stepI i k t s V).2.1), .int .u32 ((K.stepI i k t s V).2.2.1)]]) (fun _ => [M.It m (K.stepI i k t s V).2.2.2 xs]) := by
 intro w oo aa hh
 refine E.enter (n := 173) (S := oo) Tryz.func20 rfl rfl (by kernel_rfl) (A.start (L := []) hh) (E.sr (E.G.new (fun g => E.pt g) (Q.S.cells s) 26 (fun w => by kernel_rfl) (by kernel_rfl) (fun g1 => E.G.new (fun g => E.pt g) (Q.S.cells Q.z0) 26 (fun w => by kernel_rfl) (by kernel_rfl) (fun g2 => E.G.new (fun g => E.pt g) [E.i 0, E.u 0] 47 (fun w => by kernel_rfl) (by kernel_rfl) (fun g3 => E.To.code (E.C.seq (E.C.held (A.Y [A.blk g3 ([E.i 0, E.u 0]), A.blk g2 (Q.S.cells Q.z0), A.blk g1 (Q.S.cells s)]) (by kernel_rfl) (E.H.gen (fun H up dn => ?_)))))))))
 have nd4 : ∀ (α β : Nat), H 0 (E.bits 13 8191) [(1, .iface 35 (E.pt m)), (2, E.pt g1), (4, E.pt g2), (5, E.pt g3), (6, E.pt α), (7, E.pt β)] (A.X w oo aa [M.It m V xs]) [(α, [E.i i.op, E.i i.d, E.i i.s, E.i i.ix, E.i i.sc, E.u i.imm, E.i i.sz]), (β, [E.i k, E.u t]), (g3, [E.i 0, E.u 0]), (g2, (Q.S.cells Q.z0)), (g1, (Q.S.cells s))] := by
  intro α β
  refine up _ _ _ _ _ (E.H.done (by kernel_rfl) (E.To.code (E.C.seq (E.sr (E.op (E.pt β) (E.li (E.i k) 1 rfl rfl (E.op (.bool (k != 0)) (E.To.code (E.cd (k != 0) (fun hc4 => ?_) (fun hc4 => ?_))))))))))
  ·
   refine E.C.seq (E.C.held (E.Hp (oo) w (A.X w oo aa [M.It m V xs]) [(α, [E.i i.op, E.i i.d, E.i i.s, E.i i.ix, E.i i.sc, E.u i.imm, E.i i.sz]), (β, [E.i k, E.u t]), (g1, (Q.S.cells s))]) (by kernel_rfl) (E.tj 0 (Q.S.val s) rfl (fun w h => h.less Nz.sub) (fun w h => E.run_load h 2 rfl rfl (by kernel_rfl)) (E.tj 1 (.agg #[E.i k, E.u t]) rfl (fun w h => h.less Nz.sub) (fun w h => E.run_load h 1 rfl rfl (by kernel_rfl)) (E.al 2 rfl (E.st 3 (Q.S.cells s) rfl rfl (E.H.back (fun w h => h.less Nz.sub) (E.al 3 rfl (E.st 2 [E.i k, E.u t] rfl rfl (E.H.back (fun w h => h.less Nz.sub) (E.H.done (by kernel_rfl) (E.To.code ?_)))))))))))
   refine E.C.ret (E.P.rt (E.To.body (fn := Tryz.f20) [Q.S.val s, .agg #[E.i k, E.u t]] ?_ ?_))
   · exact ⟨⟨by kernel_rfl, _, _, 3, _, rfl, rfl, by kernel_rfl⟩, ⟨by kernel_rfl, _, _, 2, _, rfl, rfl, by kernel_rfl⟩, trivial⟩
   intro w h
   have e : (K.stepI i k t s V) = (s, k, t, V) := by unfold K.stepI; rw [hc4, cond_true] <;> rfl
   rw [e]
   exact ⟨(), trivial, rfl, A.dq [5] [0, 1, 2, 3, 4] h⟩
  refine E.C.skip (E.To.code (E.C.seq (E.C.held (E.Hp (oo) w (A.X w oo aa [M.It m V xs]) [(α, [E.i i.op, E.i i.d, E.i i.s, E.i i.ix, E.i i.sc, E.u i.imm, E.i i.sz]), (β, [E.i k, E.u t]), (g3, [E.i 0, E.u 0]), (g2, (Q.S.cells Q.z0)), (g1, (Q.S.cells s))]) (by kernel_rfl) (E.tj 0 (Q.S.val s) rfl (fun w h => h) (fun w h => E.run_load h 4 rfl rfl (by kernel_rfl)) (E.tj 1 (Q.S.val s) rfl (fun w h => h) (fun w h => E.run_load h 4 rfl rfl (by kernel_rfl)) (E.tj 2 (.agg #[E.i i.op, E.i i.d, E.i i.s, E.i i.ix, E.i i.sc, E.u i.imm, E.i i.sz]) rfl (fun w h => h) (fun w h => E.run_load h 0 rfl rfl (by kernel_rfl)) (E.tk 3 (.iface 35 (E.pt m)) rfl (fun w h => h) (E.tk 4 (.iface 35 (E.pt m)) rfl (fun w h => h) (E.tk 5 (.func (.method "Load") #[.iface 35 (E.pt m)] #[]) rfl (fun w h => h) (E.tk 6 (.iface 35 (E.pt m)) rfl (fun w h => h) (E.tk 7 (.iface 35 (E.pt m)) rfl (fun w h => h) (E.tk 8 (.func (.method "Store") #[.iface 35 (E.pt m)] #[]) rfl (fun w h => h) ?_))))))))))))
  refine E.tj 9 (.agg (K.wk (⟨s, s, i, 0, 0⟩) m).toArray) rfl (fun w h => h) (fun w h => E.run_build (K.wk (⟨s, s, i, 0, 0⟩) m).toArray (by kernel_rfl) w) (E.al 10 rfl (E.G.new (fun g => E.pt g) (K.wk (⟨s, s, i, 0, 0⟩) m) 117 (fun w => by kernel_rfl) (by kernel_rfl) (fun g5 => E.H.back (fun w h => h.less Nz.sub) (E.tk 11 (E.pt g5) rfl (fun w h => h.less Nz.sub) (E.H.done (by kernel_rfl) (E.To.code (E.wk [(2, E.pt g1), (4, E.pt g2), (5, E.pt g3), (6, E.pt α), (8, E.pt g5)] [(g5, (K.wk (⟨s, s, i, 0, 0⟩) m)), (α, [E.i i.op, E.i i.d, E.i i.s, E.i i.ix, E.i i.sc, E.u i.imm, E.i i.sz]), (g3, [E.i 0, E.u 0]), (g2, (Q.S.cells Q.z0)), (g1, (Q.S.cells s))] Nz.sub (E.C.seq (E.C.held (E.Hp (oo) w (A.X w oo aa [M.It m V xs]) [(α, [E.i i.op, E.i i.d, E.i i.s, E.i i.ix, E.i i.sc, E.u i.imm, E.i i.sz]), (g3, [E.i 0, E.u 0]), (g2, (Q.S.cells Q.z0)), (g1, (Q.S.cells s))]) (by kernel_rfl) (E.tk 0 (E.pt g5) rfl (fun w h => h.less Nz.sub) (E.tk 1 (E.pt g5) rfl (fun w h => h.less Nz.sub) ?_)))))))))))
  refine E.tk 2 (.pointer (some ⟨g5, 24, none⟩)) rfl (fun w h => h.less Nz.sub) (E.tk 3 (.pointer (some ⟨g5, 24, none⟩)) rfl (fun w h => h.less Nz.sub) (E.tk 5 (.pointer (some ⟨α, 6, none⟩)) rfl (fun w h => h.less Nz.sub) (E.tj 6 (E.i i.sz) rfl (fun w h => h.less Nz.sub) (fun w h => E.run_load h 0 rfl rfl (by kernel_rfl)) (E.tk 7 (E.u (IntKind.wrap .u32 i.sz)) rfl (fun w h => h.less Nz.sub) (E.al 4 rfl (E.li (E.u s.pc) 0 rfl rfl (E.H.back (fun w h => h.less Nz.sub) (E.tk 8 (E.u (IntKind.wrap .u32 (s.pc + (IntKind.wrap .u32 i.sz)))) rfl (fun w h => h.less Nz.sub) (E.tk 9 (E.pt g5) rfl (fun w h => h.less Nz.sub) (E.tk 10 (.pointer (some ⟨g5, 24, none⟩)) rfl (fun w h => h.less Nz.sub) (E.tk 11 (.pointer (some ⟨g5, 24, none⟩)) rfl (fun w h => h.less Nz.sub) ?_)))))))))))
  refine E.al 12 rfl (E.st 0 (K.wk (⟨s, ⟨(IntKind.wrap .u32 (s.pc + (IntKind.wrap .u32 i.sz))), s.r, s.f, s.c, s.st, s.du⟩, i, 0, 0⟩) m) rfl rfl (E.H.back (fun w h => h.less Nz.sub) (E.H.done (by kernel_rfl) (E.To.code (E.wk [(2, E.pt g1), (4, E.pt g2), (5, E.pt g3), (6, E.pt α), (8, E.pt g5)] [(g5, (K.wk (⟨s, ⟨(IntKind.wrap .u32 (s.pc + (IntKind.wrap .u32 i.sz))), s.r, s.f, s.c, s.st, s.du⟩, i, 0, 0⟩) m)), (α, [E.i i.op, E.i i.d, E.i i.s, E.i i.ix, E.i i.sc, E.u i.imm, E.i i.sz]), (g3, [E.i 0, E.u 0]), (g2, (Q.S.cells Q.z0)), (g1, (Q.S.cells s))] Nz.sub (E.sr (E.op (E.pt g5) (E.op (E.pt g5) (E.op (.pointer (some ⟨g5, 24, none⟩)) (E.op (.pointer (some ⟨g5, 46, none⟩)) (E.li (E.i s.st) 0 rfl rfl ?_)))))))))))
  refine E.op (E.i (IntKind.wrap .i64 (s.st + 1))) (E.op (E.pt g5) (E.op (.pointer (some ⟨g5, 24, none⟩)) (E.op (.pointer (some ⟨g5, 46, none⟩)) (E.st 0 (K.wk (K.w0 s i) m) rfl rfl (E.To.code (E.wk [(2, E.pt g1), (4, E.pt g2), (5, E.pt g3), (6, E.pt α), (8, E.pt g5)] [(g5, (K.wk (K.w0 s i) m)), (α, [E.i i.op, E.i i.d, E.i i.s, E.i i.ix, E.i i.sc, E.u i.imm, E.i i.sz]), (g3, [E.i 0, E.u 0]), (g2, (Q.S.cells Q.z0)), (g1, (Q.S.cells s))] Nz.sub (E.C.seq (E.sr (E.op (E.pt α) (E.li (E.i i.op) 1 rfl rfl (E.op (E.i i.op) ?_)))))))))))
  refine E.To.code (E.C.block (E.sr (E.op (E.i i.op) (E.op (.bool (decide (i.op ≥ 32))) (E.op (.bool (decide (i.op ≥ 32))) (E.G.cut 3 [(2, E.pt g1), (4, E.pt g2), (5, E.pt g3), (6, E.pt α), (8, E.pt g5), (9, E.i i.op), (66, .bool ((decide (i.op ≥ 32)) && (decide (i.op ≤ 46))))] (A.X w oo aa [M.It m V xs]) [(g5, (K.wk (K.w0 s i) m)), (α, [E.i i.op, E.i i.d, E.i i.s, E.i i.ix, E.i i.sc, E.u i.imm, E.i i.sz]), (g3, [E.i 0, E.u 0]), (g2, (Q.S.cells Q.z0)), (g1, (Q.S.cells s))] ?_ ?_))))))
  ·
   generalize hc6 : (decide (i.op ≥ 32)) = b7
   cases b7
   ·
    exact E.sk (E.sk (E.op (.bool false) (E.G.end_pst ⟨by kernel_rfl, by kernel_rfl⟩ Nz.sub (fun _ h => h))))
   exact E.op (E.i i.op) (E.op (.bool (decide (i.op ≤ 46))) (E.op (.bool (decide (i.op ≤ 46))) (E.G.end_pst ⟨by kernel_rfl, by kernel_rfl⟩ Nz.sub (fun _ h => h))))
  refine E.op (.bool ((decide (i.op ≥ 32)) && (decide (i.op ≤ 46)))) (E.To.code (E.cd ((decide (i.op ≥ 32)) && (decide (i.op ≤ 46))) (fun hc8 => ?_) (fun hc8 => ?_)))
  ·
   refine E.C.region (E.op (E.pt g5) (E.op (E.i i.op) (E.op (.pointer (some ⟨α, 2, none⟩)) (E.li (E.i i.s) 1 rfl rfl (E.op (.pointer (some ⟨g1, 1, none⟩)) (E.vl (.pointer (some ⟨g1, 1 + (i.s).toNat, none⟩)) (fun w h => E.idxI (e := 22) g1 1 16 .i64 i.s (by kernel_rfl) (by kernel_rfl) (by kernel_rfl) (by kernel_rfl) (by have := (hi (K.eq0 hc4)).s; omega) w) (E.vl (E.u (s.r ((i.s).toNat))) (fun w h => E.run_load h 4 rfl rfl (Q.ld_r (by kernel_rfl) (by have := (hi (K.eq0 hc4)).s; omega))) (A.G.call (I := Unit) (D := fun _ => True) (V := fun _ => .tuple #[]) (q := fun _ => [A.blk g5 (K.wk (K.arith (K.w0 s i) i.op (s.r ((i.s).toNat))) m)]) [A.blk α ([E.i i.op, E.i i.d, E.i i.s, E.i i.ix, E.i i.sc, E.u i.imm, E.i i.sz]), A.blk g3 ([E.i 0, E.u 0]), A.blk g2 (Q.S.cells Q.z0), A.blk g1 (Q.S.cells s), M.It m V xs] (fun _ => [(g5, (K.wk (K.arith (K.w0 s i) i.op (s.r ((i.s).toNat))) m)), (α, [E.i i.op, E.i i.d, E.i i.s, E.i i.ix, E.i i.sc, E.u i.imm, E.i i.sz]), (g3, [E.i 0, E.u 0]), (g2, (Q.S.cells Q.z0)), (g1, (Q.S.cells s))]) (fun _ => [M.It m V xs]) (Arith_w (b := g5) (m := m) (K.w0 s i) i.op (s.r ((i.s).toNat)) (K.rg0 hc8) (hs.r _) (K.w0_wf hs) (hi (K.eq0 hc4))) (by kernel_rfl) (A.pn [0, 1, 2, 3, 4, 5]) (fun _ => A.pm [0, 1, 2, 3, 4, 5] (by kernel_rfl) (by kernel_rfl)) (fun w _ => by kernel_rfl) (by kernel_rfl) (fun _ hd9 => E.P.nb (E.To.code (E.wk [(2, E.pt g1), (4, E.pt g2), (5, E.pt g3), (8, E.pt g5)] [(g5, (K.wk (K.arith (K.w0 s i) i.op (s.r ((i.s).toNat))) m)), (g3, [E.i 0, E.u 0]), (g2, (Q.S.cells Q.z0)), (g1, (Q.S.cells s))] Nz.sub (E.C.seq ?_))))))))))))
   refine E.sr (E.op (E.pt g5) (E.op (E.pt g5) (E.op (.pointer (some ⟨g5, 55, none⟩)) (E.op (.pointer (some ⟨g5, 55, none⟩)) (E.li (E.i ((K.arith (K.w0 s i) i.op (s.r ((i.s).toNat))).k)) 0 rfl rfl (E.op (.bool (((K.arith (K.w0 s i) i.op (s.r ((i.s).toNat))).k) != 0)) (E.To.code (E.cd (((K.arith (K.w0 s i) i.op (s.r ((i.s).toNat))).k) != 0) (fun hc10 => ?_) (fun hc10 => ?_)))))))))
   ·
    refine E.C.seq (E.C.held (E.Hp (oo) w (A.X w oo aa [M.It m V xs]) [(g5, (K.wk (K.arith (K.w0 s i) i.op (s.r ((i.s).toNat))) m)), (g1, (Q.S.cells s))]) (by kernel_rfl) (E.tj 0 (Q.S.val s) rfl (fun w h => h.less Nz.sub) (fun w h => E.run_load h 1 rfl rfl (by kernel_rfl)) (E.tk 1 (E.pt g5) rfl (fun w h => h.less Nz.sub) (E.tk 2 (E.pt g5) rfl (fun w h => h.less Nz.sub) (E.tk 3 (.pointer (some ⟨g5, 55, none⟩)) rfl (fun w h => h.less Nz.sub) (E.tj 4 (.agg #[E.i ((K.arith (K.w0 s i) i.op (s.r ((i.s).toNat))).k), E.u ((K.arith (K.w0 s i) i.op (s.r ((i.s).toNat))).t)]) rfl (fun w h => h.less Nz.sub) (fun w h => E.run_load h 0 rfl rfl (by kernel_rfl)) (E.al 5 rfl (E.st 2 (Q.S.cells s) rfl rfl (E.H.back (fun w h => h.less Nz.sub) (E.al 6 rfl (E.st 1 [E.i ((K.arith (K.w0 s i) i.op (s.r ((i.s).toNat))).k), E.u ((K.arith (K.w0 s i) i.op (s.r ((i.s).toNat))).t)] rfl rfl ?_)))))))))))
    refine E.H.back (fun w h => h.less Nz.sub) (E.H.done (by kernel_rfl) (E.To.code (E.wk [(4, E.pt g2), (5, E.pt g3), (8, E.pt g5)] [(g5, (K.wk (K.arith (K.w0 s i) i.op (s.r ((i.s).toNat))) m)), (g3, [E.i ((K.arith (K.w0 s i) i.op (s.r ((i.s).toNat))).k), E.u ((K.arith (K.w0 s i) i.op (s.r ((i.s).toNat))).t)]), (g2, (Q.S.cells s))] Nz.sub (E.C.ret (E.P.rt (E.To.body (fn := Tryz.f20) [Q.S.val s, .agg #[E.i ((K.arith (K.w0 s i) i.op (s.r ((i.s).toNat))).k), E.u ((K.arith (K.w0 s i) i.op (s.r ((i.s).toNat))).t)]] ?_ ?_))))))
    · exact ⟨⟨by kernel_rfl, _, _, 2, _, rfl, rfl, by kernel_rfl⟩, ⟨by kernel_rfl, _, _, 1, _, rfl, rfl, by kernel_rfl⟩, trivial⟩
    intro w h
    have e : (K.stepI i k t s V) = (s, (K.arith (K.w0 s i) i.op (s.r ((i.s).toNat))).k, (K.arith (K.w0 s i) i.op (s.r ((i.s).toNat))).t, V) := by unfold K.stepI; rw [hc4, cond_false, hc8, cond_true, hc10, cond_true] <;> rfl
    rw [e]
    exact ⟨(), trivial, rfl, A.dq [3] [0, 1, 2] h⟩
   refine E.C.skip (E.To.code (E.C.seq (E.C.held (E.Hp (oo) w (A.X w oo aa [M.It m V xs]) [(g5, (K.wk (K.arith (K.w0 s i) i.op (s.r ((i.s).toNat))) m)), (g1, (Q.S.cells s))]) (by kernel_rfl) (E.tk 0 (E.pt g5) rfl (fun w h => h.less Nz.sub) (E.tk 1 (E.pt g5) rfl (fun w h => h.less Nz.sub) (E.tk 2 (.pointer (some ⟨g5, 24, none⟩)) rfl (fun w h => h.less Nz.sub) (E.tj 3 (Q.S.val ((K.arith (K.w0 s i) i.op (s.r ((i.s).toNat))).s)) rfl (fun w h => h.less Nz.sub) (fun w h => E.run_load h 0 rfl rfl (by kernel_rfl)) (E.tk 4 (E.pt g5) rfl (fun w h => h.less Nz.sub) (E.tk 5 (E.pt g5) rfl (fun w h => h.less Nz.sub) (E.tk 6 (.pointer (some ⟨g5, 55, none⟩)) rfl (fun w h => h.less Nz.sub) (E.tj 7 (.agg #[E.i ((K.arith (K.w0 s i) i.op (s.r ((i.s).toNat))).k), E.u ((K.arith (K.w0 s i) i.op (s.r ((i.s).toNat))).t)]) rfl (fun w h => h.less Nz.sub) (fun w h => E.run_load h 0 rfl rfl (by kernel_rfl)) (E.al 8 rfl ?_))))))))))))
   refine E.st 2 (Q.S.cells ((K.arith (K.w0 s i) i.op (s.r ((i.s).toNat))).s)) rfl rfl (E.H.back (fun w h => h.less Nz.sub) (E.al 9 rfl (E.st 1 [E.i ((K.arith (K.w0 s i) i.op (s.r ((i.s).toNat))).k), E.u ((K.arith (K.w0 s i) i.op (s.r ((i.s).toNat))).t)] rfl rfl (E.H.back (fun w h => h.less Nz.sub) (E.H.done (by kernel_rfl) (E.To.code (E.wk [(4, E.pt g2), (5, E.pt g3)] [(g3, [E.i ((K.arith (K.w0 s i) i.op (s.r ((i.s).toNat))).k), E.u ((K.arith (K.w0 s i) i.op (s.r ((i.s).toNat))).t)]), (g2, (Q.S.cells ((K.arith (K.w0 s i) i.op (s.r ((i.s).toNat))).s)))] Nz.sub (E.C.ret (E.To.body (fn := Tryz.f20) [Q.S.val ((K.arith (K.w0 s i) i.op (s.r ((i.s).toNat))).s), .agg #[E.i ((K.arith (K.w0 s i) i.op (s.r ((i.s).toNat))).k), E.u ((K.arith (K.w0 s i) i.op (s.r ((i.s).toNat))).t)]] ?_ ?_)))))))))
   · exact ⟨⟨by kernel_rfl, _, _, 1, _, rfl, rfl, by kernel_rfl⟩, ⟨by kernel_rfl, _, _, 0, _, rfl, rfl, by kernel_rfl⟩, trivial⟩
   intro w h
   have e : (K.stepI i k t s V) = (((K.arith (K.w0 s i) i.op (s.r ((i.s).toNat))).s), (K.arith (K.w0 s i) i.op (s.r ((i.s).toNat))).k, (K.arith (K.w0 s i) i.op (s.r ((i.s).toNat))).t, V) := by unfold K.stepI; rw [hc4, cond_false, hc8, cond_true, hc10, cond_false] <;> rfl
   rw [e]
   exact ⟨(), trivial, rfl, A.dq [2] [0, 1] h⟩
  refine E.sr (E.op (E.i i.op) (E.op (.bool (decide (i.op ≥ 48))) (E.op (.bool (decide (i.op ≥ 48))) (E.G.cut 3 [(2, E.pt g1), (4, E.pt g2), (5, E.pt g3), (6, E.pt α), (8, E.pt g5), (9, E.i i.op), (81, .bool ((decide (i.op ≥ 48)) && (decide (i.op ≤ 62))))] (A.X w oo aa [M.It m V xs]) [(g5, (K.wk (K.w0 s i) m)), (α, [E.i i.op, E.i i.d, E.i i.s, E.i i.ix, E.i i.sc, E.u i.imm, E.i i.sz]), (g3, [E.i 0, E.u 0]), (g2, (Q.S.cells Q.z0)), (g1, (Q.S.cells s))] ?_ ?_))))
  ·
   generalize hc11 : (decide (i.op ≥ 48)) = b12
   cases b12
   ·
    exact E.sk (E.sk (E.op (.bool false) (E.G.end_pst ⟨by kernel_rfl, by kernel_rfl⟩ Nz.sub (fun _ h => h))))
   exact E.op (E.i i.op) (E.op (.bool (decide (i.op ≤ 62))) (E.op (.bool (decide (i.op ≤ 62))) (E.G.end_pst ⟨by kernel_rfl, by kernel_rfl⟩ Nz.sub (fun _ h => h))))
  refine E.op (.bool ((decide (i.op ≥ 48)) && (decide (i.op ≤ 62)))) (E.To.code (E.cd ((decide (i.op ≥ 48)) && (decide (i.op ≤ 62))) (fun hc13 => ?_) (fun hc13 => ?_)))
  ·
   refine E.C.region (E.op (E.pt g5) (E.op (E.i i.op) (E.op (E.i (IntKind.wrap .i64 (i.op - 16))) (E.op (.pointer (some ⟨α, 5, none⟩)) (E.li (E.u i.imm) 1 rfl rfl (A.G.call (I := Unit) (D := fun _ => True) (V := fun _ => .tuple #[]) (q := fun _ => [A.blk g5 (K.wk (K.arith (K.w0 s i) (IntKind.wrap .i64 (i.op - 16)) i.imm) m)]) [A.blk α ([E.i i.op, E.i i.d, E.i i.s, E.i i.ix, E.i i.sc, E.u i.imm, E.i i.sz]), A.blk g3 ([E.i 0, E.u 0]), A.blk g2 (Q.S.cells Q.z0), A.blk g1 (Q.S.cells s), M.It m V xs] (fun _ => [(g5, (K.wk (K.arith (K.w0 s i) (IntKind.wrap .i64 (i.op - 16)) i.imm) m)), (α, [E.i i.op, E.i i.d, E.i i.s, E.i i.ix, E.i i.sc, E.u i.imm, E.i i.sz]), (g3, [E.i 0, E.u 0]), (g2, (Q.S.cells Q.z0)), (g1, (Q.S.cells s))]) (fun _ => [M.It m V xs]) (Arith_w (b := g5) (m := m) (K.w0 s i) (IntKind.wrap .i64 (i.op - 16)) i.imm (K.rng16 hc13) (hi (K.eq0 hc4)).imm (K.w0_wf hs) (hi (K.eq0 hc4))) (by kernel_rfl) (A.pn [0, 1, 2, 3, 4, 5]) (fun _ => A.pm [0, 1, 2, 3, 4, 5] (by kernel_rfl) (by kernel_rfl)) (fun w _ => by kernel_rfl) (by kernel_rfl) (fun _ hd14 => E.P.nb (E.To.code (E.wk [(2, E.pt g1), (4, E.pt g2), (5, E.pt g3), (8, E.pt g5)] [(g5, (K.wk (K.arith (K.w0 s i) (IntKind.wrap .i64 (i.op - 16)) i.imm) m)), (g3, [E.i 0, E.u 0]), (g2, (Q.S.cells Q.z0)), (g1, (Q.S.cells s))] Nz.sub (E.C.seq (E.sr (E.op (E.pt g5) ?_))))))))))))
   refine E.op (E.pt g5) (E.op (.pointer (some ⟨g5, 55, none⟩)) (E.op (.pointer (some ⟨g5, 55, none⟩)) (E.li (E.i ((K.arith (K.w0 s i) (IntKind.wrap .i64 (i.op - 16)) i.imm).k)) 0 rfl rfl (E.op (.bool (((K.arith (K.w0 s i) (IntKind.wrap .i64 (i.op - 16)) i.imm).k) != 0)) (E.To.code (E.cd (((K.arith (K.w0 s i) (IntKind.wrap .i64 (i.op - 16)) i.imm).k) != 0) (fun hc15 => ?_) (fun hc15 => ?_)))))))
   ·
    refine E.C.seq (E.C.held (E.Hp (oo) w (A.X w oo aa [M.It m V xs]) [(g5, (K.wk (K.arith (K.w0 s i) (IntKind.wrap .i64 (i.op - 16)) i.imm) m)), (g1, (Q.S.cells s))]) (by kernel_rfl) (E.tj 0 (Q.S.val s) rfl (fun w h => h.less Nz.sub) (fun w h => E.run_load h 1 rfl rfl (by kernel_rfl)) (E.tk 1 (E.pt g5) rfl (fun w h => h.less Nz.sub) (E.tk 2 (E.pt g5) rfl (fun w h => h.less Nz.sub) (E.tk 3 (.pointer (some ⟨g5, 55, none⟩)) rfl (fun w h => h.less Nz.sub) (E.tj 4 (.agg #[E.i ((K.arith (K.w0 s i) (IntKind.wrap .i64 (i.op - 16)) i.imm).k), E.u ((K.arith (K.w0 s i) (IntKind.wrap .i64 (i.op - 16)) i.imm).t)]) rfl (fun w h => h.less Nz.sub) (fun w h => E.run_load h 0 rfl rfl (by kernel_rfl)) (E.al 5 rfl (E.st 2 (Q.S.cells s) rfl rfl (E.H.back (fun w h => h.less Nz.sub) (E.al 6 rfl (E.st 1 [E.i ((K.arith (K.w0 s i) (IntKind.wrap .i64 (i.op - 16)) i.imm).k), E.u ((K.arith (K.w0 s i) (IntKind.wrap .i64 (i.op - 16)) i.imm).t)] rfl rfl ?_)))))))))))
    refine E.H.back (fun w h => h.less Nz.sub) (E.H.done (by kernel_rfl) (E.To.code (E.wk [(4, E.pt g2), (5, E.pt g3), (8, E.pt g5)] [(g5, (K.wk (K.arith (K.w0 s i) (IntKind.wrap .i64 (i.op - 16)) i.imm) m)), (g3, [E.i ((K.arith (K.w0 s i) (IntKind.wrap .i64 (i.op - 16)) i.imm).k), E.u ((K.arith (K.w0 s i) (IntKind.wrap .i64 (i.op - 16)) i.imm).t)]), (g2, (Q.S.cells s))] Nz.sub (E.C.ret (E.P.rt (E.To.body (fn := Tryz.f20) [Q.S.val s, .agg #[E.i ((K.arith (K.w0 s i) (IntKind.wrap .i64 (i.op - 16)) i.imm).k), E.u ((K.arith (K.w0 s i) (IntKind.wrap .i64 (i.op - 16)) i.imm).t)]] ?_ ?_))))))
    · exact ⟨⟨by kernel_rfl, _, _, 2, _, rfl, rfl, by kernel_rfl⟩, ⟨by kernel_rfl, _, _, 1, _, rfl, rfl, by kernel_rfl⟩, trivial⟩
    intro w h
    have e : (K.stepI i k t s V) = (s, (K.arith (K.w0 s i) (IntKind.wrap .i64 (i.op - 16)) i.imm).k, (K.arith (K.w0 s i) (IntKind.wrap .i64 (i.op - 16)) i.imm).t, V) := by unfold K.stepI; rw [hc4, cond_false, hc8, cond_false, hc13, cond_true, hc15, cond_true] <;> rfl
    rw [e]
    exact ⟨(), trivial, rfl, A.dq [3] [0, 1, 2] h⟩
   refine E.C.skip (E.To.code (E.C.seq (E.C.held (E.Hp (oo) w (A.X w oo aa [M.It m V xs]) [(g5, (K.wk (K.arith (K.w0 s i) (IntKind.wrap .i64 (i.op - 16)) i.imm) m)), (g1, (Q.S.cells s))]) (by kernel_rfl) (E.tk 0 (E.pt g5) rfl (fun w h => h.less Nz.sub) (E.tk 1 (E.pt g5) rfl (fun w h => h.less Nz.sub) (E.tk 2 (.pointer (some ⟨g5, 24, none⟩)) rfl (fun w h => h.less Nz.sub) (E.tj 3 (Q.S.val ((K.arith (K.w0 s i) (IntKind.wrap .i64 (i.op - 16)) i.imm).s)) rfl (fun w h => h.less Nz.sub) (fun w h => E.run_load h 0 rfl rfl (by kernel_rfl)) (E.tk 4 (E.pt g5) rfl (fun w h => h.less Nz.sub) (E.tk 5 (E.pt g5) rfl (fun w h => h.less Nz.sub) (E.tk 6 (.pointer (some ⟨g5, 55, none⟩)) rfl (fun w h => h.less Nz.sub) (E.tj 7 (.agg #[E.i ((K.arith (K.w0 s i) (IntKind.wrap .i64 (i.op - 16)) i.imm).k), E.u ((K.arith (K.w0 s i) (IntKind.wrap .i64 (i.op - 16)) i.imm).t)]) rfl (fun w h => h.less Nz.sub) (fun w h => E.run_load h 0 rfl rfl (by kernel_rfl)) (E.al 8 rfl ?_))))))))))))
   refine E.st 2 (Q.S.cells ((K.arith (K.w0 s i) (IntKind.wrap .i64 (i.op - 16)) i.imm).s)) rfl rfl (E.H.back (fun w h => h.less Nz.sub) (E.al 9 rfl (E.st 1 [E.i ((K.arith (K.w0 s i) (IntKind.wrap .i64 (i.op - 16)) i.imm).k), E.u ((K.arith (K.w0 s i) (IntKind.wrap .i64 (i.op - 16)) i.imm).t)] rfl rfl (E.H.back (fun w h => h.less Nz.sub) (E.H.done (by kernel_rfl) (E.To.code (E.wk [(4, E.pt g2), (5, E.pt g3)] [(g3, [E.i ((K.arith (K.w0 s i) (IntKind.wrap .i64 (i.op - 16)) i.imm).k), E.u ((K.arith (K.w0 s i) (IntKind.wrap .i64 (i.op - 16)) i.imm).t)]), (g2, (Q.S.cells ((K.arith (K.w0 s i) (IntKind.wrap .i64 (i.op - 16)) i.imm).s)))] Nz.sub (E.C.ret (E.To.body (fn := Tryz.f20) [Q.S.val ((K.arith (K.w0 s i) (IntKind.wrap .i64 (i.op - 16)) i.imm).s), .agg #[E.i ((K.arith (K.w0 s i) (IntKind.wrap .i64 (i.op - 16)) i.imm).k), E.u ((K.arith (K.w0 s i) (IntKind.wrap .i64 (i.op - 16)) i.imm).t)]] ?_ ?_)))))))))
   · exact ⟨⟨by kernel_rfl, _, _, 1, _, rfl, rfl, by kernel_rfl⟩, ⟨by kernel_rfl, _, _, 0, _, rfl, rfl, by kernel_rfl⟩, trivial⟩
   intro w h
   have e : (K.stepI i k t s V) = (((K.arith (K.w0 s i) (IntKind.wrap .i64 (i.op - 16)) i.imm).s), (K.arith (K.w0 s i) (IntKind.wrap .i64 (i.op - 16)) i.imm).k, (K.arith (K.w0 s i) (IntKind.wrap .i64 (i.op - 16)) i.imm).t, V) := by unfold K.stepI; rw [hc4, cond_false, hc8, cond_false, hc13, cond_true, hc15, cond_false] <;> rfl
   rw [e]
   exact ⟨(), trivial, rfl, A.dq [2] [0, 1] h⟩
  refine E.sr (E.op (E.i i.op) (E.op (.bool (decide (i.op ≥ 64))) (E.op (.bool (decide (i.op ≥ 64))) (E.G.cut 3 [(2, E.pt g1), (4, E.pt g2), (5, E.pt g3), (6, E.pt α), (8, E.pt g5), (9, E.i i.op), (94, .bool ((decide (i.op ≥ 64)) && (decide (i.op ≤ 78))))] (A.X w oo aa [M.It m V xs]) [(g5, (K.wk (K.w0 s i) m)), (α, [E.i i.op, E.i i.d, E.i i.s, E.i i.ix, E.i i.sc, E.u i.imm, E.i i.sz]), (g3, [E.i 0, E.u 0]), (g2, (Q.S.cells Q.z0)), (g1, (Q.S.cells s))] ?_ ?_))))
  ·
   generalize hc16 : (decide (i.op ≥ 64)) = b17
   cases b17
   ·
    exact E.sk (E.sk (E.op (.bool false) (E.G.end_pst ⟨by kernel_rfl, by kernel_rfl⟩ Nz.sub (fun _ h => h))))
   exact E.op (E.i i.op) (E.op (.bool (decide (i.op ≤ 78))) (E.op (.bool (decide (i.op ≤ 78))) (E.G.end_pst ⟨by kernel_rfl, by kernel_rfl⟩ Nz.sub (fun _ h => h))))
  refine E.op (.bool ((decide (i.op ≥ 64)) && (decide (i.op ≤ 78)))) (E.To.code (E.cd ((decide (i.op ≥ 64)) && (decide (i.op ≤ 78))) (fun hc18 => ?_) (fun hc18 => ?_)))
  ·
   refine E.C.region (E.op (E.pt g5) (E.op (E.i i.op) (E.op (E.i (IntKind.wrap .i64 (i.op - 32))) (E.op (.pointer (some ⟨α, 5, none⟩)) (E.li (E.u i.imm) 1 rfl rfl (A.G.call (I := Unit) (D := fun _ => True) (V := fun _ => .tuple #[]) (q := fun _ => [A.blk g5 (K.wk (K.arith (K.w0 s i) (IntKind.wrap .i64 (i.op - 32)) i.imm) m)]) [A.blk α ([E.i i.op, E.i i.d, E.i i.s, E.i i.ix, E.i i.sc, E.u i.imm, E.i i.sz]), A.blk g3 ([E.i 0, E.u 0]), A.blk g2 (Q.S.cells Q.z0), A.blk g1 (Q.S.cells s), M.It m V xs] (fun _ => [(g5, (K.wk (K.arith (K.w0 s i) (IntKind.wrap .i64 (i.op - 32)) i.imm) m)), (α, [E.i i.op, E.i i.d, E.i i.s, E.i i.ix, E.i i.sc, E.u i.imm, E.i i.sz]), (g3, [E.i 0, E.u 0]), (g2, (Q.S.cells Q.z0)), (g1, (Q.S.cells s))]) (fun _ => [M.It m V xs]) (Arith_w (b := g5) (m := m) (K.w0 s i) (IntKind.wrap .i64 (i.op - 32)) i.imm (K.rng32 hc18) (hi (K.eq0 hc4)).imm (K.w0_wf hs) (hi (K.eq0 hc4))) (by kernel_rfl) (A.pn [0, 1, 2, 3, 4, 5]) (fun _ => A.pm [0, 1, 2, 3, 4, 5] (by kernel_rfl) (by kernel_rfl)) (fun w _ => by kernel_rfl) (by kernel_rfl) (fun _ hd19 => E.P.nb (E.To.code (E.wk [(2, E.pt g1), (4, E.pt g2), (5, E.pt g3), (8, E.pt g5)] [(g5, (K.wk (K.arith (K.w0 s i) (IntKind.wrap .i64 (i.op - 32)) i.imm) m)), (g3, [E.i 0, E.u 0]), (g2, (Q.S.cells Q.z0)), (g1, (Q.S.cells s))] Nz.sub (E.C.seq (E.sr (E.op (E.pt g5) ?_))))))))))))
   refine E.op (E.pt g5) (E.op (.pointer (some ⟨g5, 55, none⟩)) (E.op (.pointer (some ⟨g5, 55, none⟩)) (E.li (E.i ((K.arith (K.w0 s i) (IntKind.wrap .i64 (i.op - 32)) i.imm).k)) 0 rfl rfl (E.op (.bool (((K.arith (K.w0 s i) (IntKind.wrap .i64 (i.op - 32)) i.imm).k) != 0)) (E.To.code (E.cd (((K.arith (K.w0 s i) (IntKind.wrap .i64 (i.op - 32)) i.imm).k) != 0) (fun hc20 => ?_) (fun hc20 => ?_)))))))
   ·
    refine E.C.seq (E.C.held (E.Hp (oo) w (A.X w oo aa [M.It m V xs]) [(g5, (K.wk (K.arith (K.w0 s i) (IntKind.wrap .i64 (i.op - 32)) i.imm) m)), (g1, (Q.S.cells s))]) (by kernel_rfl) (E.tj 0 (Q.S.val s) rfl (fun w h => h.less Nz.sub) (fun w h => E.run_load h 1 rfl rfl (by kernel_rfl)) (E.tk 1 (E.pt g5) rfl (fun w h => h.less Nz.sub) (E.tk 2 (E.pt g5) rfl (fun w h => h.less Nz.sub) (E.tk 3 (.pointer (some ⟨g5, 55, none⟩)) rfl (fun w h => h.less Nz.sub) (E.tj 4 (.agg #[E.i ((K.arith (K.w0 s i) (IntKind.wrap .i64 (i.op - 32)) i.imm).k), E.u ((K.arith (K.w0 s i) (IntKind.wrap .i64 (i.op - 32)) i.imm).t)]) rfl (fun w h => h.less Nz.sub) (fun w h => E.run_load h 0 rfl rfl (by kernel_rfl)) (E.al 5 rfl (E.st 2 (Q.S.cells s) rfl rfl (E.H.back (fun w h => h.less Nz.sub) (E.al 6 rfl (E.st 1 [E.i ((K.arith (K.w0 s i) (IntKind.wrap .i64 (i.op - 32)) i.imm).k), E.u ((K.arith (K.w0 s i) (IntKind.wrap .i64 (i.op - 32)) i.imm).t)] rfl rfl ?_)))))))))))
    refine E.H.back (fun w h => h.less Nz.sub) (E.H.done (by kernel_rfl) (E.To.code (E.wk [(4, E.pt g2), (5, E.pt g3), (8, E.pt g5)] [(g5, (K.wk (K.arith (K.w0 s i) (IntKind.wrap .i64 (i.op - 32)) i.imm) m)), (g3, [E.i ((K.arith (K.w0 s i) (IntKind.wrap .i64 (i.op - 32)) i.imm).k), E.u ((K.arith (K.w0 s i) (IntKind.wrap .i64 (i.op - 32)) i.imm).t)]), (g2, (Q.S.cells s))] Nz.sub (E.C.ret (E.P.rt (E.To.body (fn := Tryz.f20) [Q.S.val s, .agg #[E.i ((K.arith (K.w0 s i) (IntKind.wrap .i64 (i.op - 32)) i.imm).k), E.u ((K.arith (K.w0 s i) (IntKind.wrap .i64 (i.op - 32)) i.imm).t)]] ?_ ?_))))))
    · exact ⟨⟨by kernel_rfl, _, _, 2, _, rfl, rfl, by kernel_rfl⟩, ⟨by kernel_rfl, _, _, 1, _, rfl, rfl, by kernel_rfl⟩, trivial⟩
    intro w h
    have e : (K.stepI i k t s V) = (s, (K.arith (K.w0 s i) (IntKind.wrap .i64 (i.op - 32)) i.imm).k, (K.arith (K.w0 s i) (IntKind.wrap .i64 (i.op - 32)) i.imm).t, V) := by unfold K.stepI; rw [hc4, cond_false, hc8, cond_false, hc13, cond_false, hc18, cond_true, hc20, cond_true] <;> rfl
    rw [e]
    exact ⟨(), trivial, rfl, A.dq [3] [0, 1, 2] h⟩
   refine E.C.skip (E.To.code (E.C.seq (E.C.held (E.Hp (oo) w (A.X w oo aa [M.It m V xs]) [(g5, (K.wk (K.arith (K.w0 s i) (IntKind.wrap .i64 (i.op - 32)) i.imm) m)), (g1, (Q.S.cells s))]) (by kernel_rfl) (E.tk 0 (E.pt g5) rfl (fun w h => h.less Nz.sub) (E.tk 1 (E.pt g5) rfl (fun w h => h.less Nz.sub) (E.tk 2 (.pointer (some ⟨g5, 24, none⟩)) rfl (fun w h => h.less Nz.sub) (E.tj 3 (Q.S.val ((K.arith (K.w0 s i) (IntKind.wrap .i64 (i.op - 32)) i.imm).s)) rfl (fun w h => h.less Nz.sub) (fun w h => E.run_load h 0 rfl rfl (by kernel_rfl)) (E.tk 4 (E.pt g5) rfl (fun w h => h.less Nz.sub) (E.tk 5 (E.pt g5) rfl (fun w h => h.less Nz.sub) (E.tk 6 (.pointer (some ⟨g5, 55, none⟩)) rfl (fun w h => h.less Nz.sub) (E.tj 7 (.agg #[E.i ((K.arith (K.w0 s i) (IntKind.wrap .i64 (i.op - 32)) i.imm).k), E.u ((K.arith (K.w0 s i) (IntKind.wrap .i64 (i.op - 32)) i.imm).t)]) rfl (fun w h => h.less Nz.sub) (fun w h => E.run_load h 0 rfl rfl (by kernel_rfl)) (E.al 8 rfl ?_))))))))))))
   refine E.st 2 (Q.S.cells ((K.arith (K.w0 s i) (IntKind.wrap .i64 (i.op - 32)) i.imm).s)) rfl rfl (E.H.back (fun w h => h.less Nz.sub) (E.al 9 rfl (E.st 1 [E.i ((K.arith (K.w0 s i) (IntKind.wrap .i64 (i.op - 32)) i.imm).k), E.u ((K.arith (K.w0 s i) (IntKind.wrap .i64 (i.op - 32)) i.imm).t)] rfl rfl (E.H.back (fun w h => h.less Nz.sub) (E.H.done (by kernel_rfl) (E.To.code (E.wk [(4, E.pt g2), (5, E.pt g3)] [(g3, [E.i ((K.arith (K.w0 s i) (IntKind.wrap .i64 (i.op - 32)) i.imm).k), E.u ((K.arith (K.w0 s i) (IntKind.wrap .i64 (i.op - 32)) i.imm).t)]), (g2, (Q.S.cells ((K.arith (K.w0 s i) (IntKind.wrap .i64 (i.op - 32)) i.imm).s)))] Nz.sub (E.C.ret (E.To.body (fn := Tryz.f20) [Q.S.val ((K.arith (K.w0 s i) (IntKind.wrap .i64 (i.op - 32)) i.imm).s), .agg #[E.i ((K.arith (K.w0 s i) (IntKind.wrap .i64 (i.op - 32)) i.imm).k), E.u ((K.arith (K.w0 s i) (IntKind.wrap .i64 (i.op - 32)) i.imm).t)]] ?_ ?_)))))))))
   · exact ⟨⟨by kernel_rfl, _, _, 1, _, rfl, rfl, by kernel_rfl⟩, ⟨by kernel_rfl, _, _, 0, _, rfl, rfl, by kernel_rfl⟩, trivial⟩
   intro w h
   have e : (K.stepI i k t s V) = (((K.arith (K.w0 s i) (IntKind.wrap .i64 (i.op - 32)) i.imm).s), (K.arith (K.w0 s i) (IntKind.wrap .i64 (i.op - 32)) i.imm).k, (K.arith (K.w0 s i) (IntKind.wrap .i64 (i.op - 32)) i.imm).t, V) := by unfold K.stepI; rw [hc4, cond_false, hc8, cond_false, hc13, cond_false, hc18, cond_true, hc20, cond_false] <;> rfl
   rw [e]
   exact ⟨(), trivial, rfl, A.dq [2] [0, 1] h⟩
  refine E.sr (E.op (E.i i.op) (E.op (.bool (decide (i.op ≥ 80))) (E.op (.bool (decide (i.op ≥ 80))) (E.G.cut 3 [(2, E.pt g1), (4, E.pt g2), (5, E.pt g3), (6, E.pt α), (8, E.pt g5), (9, E.i i.op), (107, .bool ((decide (i.op ≥ 80)) && (decide (i.op ≤ 86))))] (A.X w oo aa [M.It m V xs]) [(g5, (K.wk (K.w0 s i) m)), (α, [E.i i.op, E.i i.d, E.i i.s, E.i i.ix, E.i i.sc, E.u i.imm, E.i i.sz]), (g3, [E.i 0, E.u 0]), (g2, (Q.S.cells Q.z0)), (g1, (Q.S.cells s))] ?_ ?_))))
  ·
   generalize hc21 : (decide (i.op ≥ 80)) = b22
   cases b22
   ·
    exact E.sk (E.sk (E.op (.bool false) (E.G.end_pst ⟨by kernel_rfl, by kernel_rfl⟩ Nz.sub (fun _ h => h))))
   exact E.op (E.i i.op) (E.op (.bool (decide (i.op ≤ 86))) (E.op (.bool (decide (i.op ≤ 86))) (E.G.end_pst ⟨by kernel_rfl, by kernel_rfl⟩ Nz.sub (fun _ h => h))))
  refine E.op (.bool ((decide (i.op ≥ 80)) && (decide (i.op ≤ 86)))) (E.To.code (E.cd ((decide (i.op ≥ 80)) && (decide (i.op ≤ 86))) (fun hc23 => ?_) (fun hc23 => ?_)))
  ·
   refine E.C.region (E.op (E.pt g5) (E.op (E.i i.op) (A.G.call (I := Unit) (D := fun _ => True) (V := fun _ => .tuple #[]) (q := fun _ => [A.blk g5 (K.wk ((K.access (K.w0 s i) V i.op).1) m), M.It m ((K.access (K.w0 s i) V i.op).2) xs]) [A.blk α ([E.i i.op, E.i i.d, E.i i.s, E.i i.ix, E.i i.sc, E.u i.imm, E.i i.sz]), A.blk g3 ([E.i 0, E.u 0]), A.blk g2 (Q.S.cells Q.z0), A.blk g1 (Q.S.cells s)] (fun _ => [(g5, (K.wk ((K.access (K.w0 s i) V i.op).1) m)), (α, [E.i i.op, E.i i.d, E.i i.s, E.i i.ix, E.i i.sc, E.u i.imm, E.i i.sz]), (g3, [E.i 0, E.u 0]), (g2, (Q.S.cells Q.z0)), (g1, (Q.S.cells s))]) (fun _ => [M.It m ((K.access (K.w0 s i) V i.op).2) xs]) (Access_w (b := g5) (m := m) (xs := xs) (K.w0 s i) V i.op (K.w0_wf hs) (hi (K.eq0 hc4)) hV) (by kernel_rfl) (A.pn [0, 5, 1, 2, 3, 4]) (fun _ => A.pm [0, 2, 3, 4, 5, 1] (by kernel_rfl) (by kernel_rfl)) (fun w _ => by kernel_rfl) (by kernel_rfl) (fun _ hd24 => E.P.nb (E.To.code (E.C.seq (E.sr (E.op (E.pt g5) (E.op (E.pt g5) (E.op (.pointer (some ⟨g5, 55, none⟩)) (E.op (.pointer (some ⟨g5, 55, none⟩)) (E.li (E.i (((K.access (K.w0 s i) V i.op).1).k)) 0 rfl rfl ?_))))))))))))
   refine E.op (.bool ((((K.access (K.w0 s i) V i.op).1).k) != 0)) (E.To.code (E.wk [(2, E.pt g1), (4, E.pt g2), (5, E.pt g3), (8, E.pt g5), (159, .bool ((((K.access (K.w0 s i) V i.op).1).k) != 0))] [(g5, (K.wk ((K.access (K.w0 s i) V i.op).1) m)), (g3, [E.i 0, E.u 0]), (g2, (Q.S.cells Q.z0)), (g1, (Q.S.cells s))] Nz.sub (E.cd ((((K.access (K.w0 s i) V i.op).1).k) != 0) (fun hc25 => ?_) (fun hc25 => ?_))))
   ·
    refine E.C.seq (E.C.held (E.Hp (oo) w (A.X w oo aa [M.It m ((K.access (K.w0 s i) V i.op).2) xs]) [(g5, (K.wk ((K.access (K.w0 s i) V i.op).1) m)), (g1, (Q.S.cells s))]) (by kernel_rfl) (E.tj 0 (Q.S.val s) rfl (fun w h => h.less Nz.sub) (fun w h => E.run_load h 1 rfl rfl (by kernel_rfl)) (E.tk 1 (E.pt g5) rfl (fun w h => h.less Nz.sub) (E.tk 2 (E.pt g5) rfl (fun w h => h.less Nz.sub) (E.tk 3 (.pointer (some ⟨g5, 55, none⟩)) rfl (fun w h => h.less Nz.sub) (E.tj 4 (.agg #[E.i (((K.access (K.w0 s i) V i.op).1).k), E.u (((K.access (K.w0 s i) V i.op).1).t)]) rfl (fun w h => h.less Nz.sub) (fun w h => E.run_load h 0 rfl rfl (by kernel_rfl)) (E.al 5 rfl (E.st 2 (Q.S.cells s) rfl rfl (E.H.back (fun w h => h.less Nz.sub) (E.al 6 rfl (E.st 1 [E.i (((K.access (K.w0 s i) V i.op).1).k), E.u (((K.access (K.w0 s i) V i.op).1).t)] rfl rfl ?_)))))))))))
    refine E.H.back (fun w h => h.less Nz.sub) (E.H.done (by kernel_rfl) (E.To.code (E.C.ret (E.P.rt (E.To.body (fn := Tryz.f20) [Q.S.val s, .agg #[E.i (((K.access (K.w0 s i) V i.op).1).k), E.u (((K.access (K.w0 s i) V i.op).1).t)]] ?_ ?_)))))
    · exact ⟨⟨by kernel_rfl, _, _, 2, _, rfl, rfl, by kernel_rfl⟩, ⟨by kernel_rfl, _, _, 1, _, rfl, rfl, by kernel_rfl⟩, trivial⟩
    intro w h
    have e : (K.stepI i k t s V) = (s, ((K.access (K.w0 s i) V i.op).1).k, ((K.access (K.w0 s i) V i.op).1).t, (K.access (K.w0 s i) V i.op).2) := by unfold K.stepI; rw [hc4, cond_false, hc8, cond_false, hc13, cond_false, hc18, cond_false, hc23, cond_true, hc25, cond_true] <;> rfl
    rw [e]
    exact ⟨(), trivial, rfl, A.dq [4] [0, 1, 2, 3] h⟩
   refine E.C.skip (E.To.code (E.C.seq (E.C.held (E.Hp (oo) w (A.X w oo aa [M.It m ((K.access (K.w0 s i) V i.op).2) xs]) [(g5, (K.wk ((K.access (K.w0 s i) V i.op).1) m)), (g1, (Q.S.cells s))]) (by kernel_rfl) (E.tk 0 (E.pt g5) rfl (fun w h => h.less Nz.sub) (E.tk 1 (E.pt g5) rfl (fun w h => h.less Nz.sub) (E.tk 2 (.pointer (some ⟨g5, 24, none⟩)) rfl (fun w h => h.less Nz.sub) (E.tj 3 (Q.S.val (((K.access (K.w0 s i) V i.op).1).s)) rfl (fun w h => h.less Nz.sub) (fun w h => E.run_load h 0 rfl rfl (by kernel_rfl)) (E.tk 4 (E.pt g5) rfl (fun w h => h.less Nz.sub) (E.tk 5 (E.pt g5) rfl (fun w h => h.less Nz.sub) (E.tk 6 (.pointer (some ⟨g5, 55, none⟩)) rfl (fun w h => h.less Nz.sub) (E.tj 7 (.agg #[E.i (((K.access (K.w0 s i) V i.op).1).k), E.u (((K.access (K.w0 s i) V i.op).1).t)]) rfl (fun w h => h.less Nz.sub) (fun w h => E.run_load h 0 rfl rfl (by kernel_rfl)) (E.al 8 rfl ?_))))))))))))
   refine E.st 2 (Q.S.cells (((K.access (K.w0 s i) V i.op).1).s)) rfl rfl (E.H.back (fun w h => h.less Nz.sub) (E.al 9 rfl (E.st 1 [E.i (((K.access (K.w0 s i) V i.op).1).k), E.u (((K.access (K.w0 s i) V i.op).1).t)] rfl rfl (E.H.back (fun w h => h.less Nz.sub) (E.H.done (by kernel_rfl) (E.To.code (E.wk [(4, E.pt g2), (5, E.pt g3)] [(g3, [E.i (((K.access (K.w0 s i) V i.op).1).k), E.u (((K.access (K.w0 s i) V i.op).1).t)]), (g2, (Q.S.cells (((K.access (K.w0 s i) V i.op).1).s)))] Nz.sub (E.C.ret (E.To.body (fn := Tryz.f20) [Q.S.val (((K.access (K.w0 s i) V i.op).1).s), .agg #[E.i (((K.access (K.w0 s i) V i.op).1).k), E.u (((K.access (K.w0 s i) V i.op).1).t)]] ?_ ?_)))))))))
   · exact ⟨⟨by kernel_rfl, _, _, 1, _, rfl, rfl, by kernel_rfl⟩, ⟨by kernel_rfl, _, _, 0, _, rfl, rfl, by kernel_rfl⟩, trivial⟩
   intro w h
   have e : (K.stepI i k t s V) = ((((K.access (K.w0 s i) V i.op).1).s), ((K.access (K.w0 s i) V i.op).1).k, ((K.access (K.w0 s i) V i.op).1).t, (K.access (K.w0 s i) V i.op).2) := by unfold K.stepI; rw [hc4, cond_false, hc8, cond_false, hc13, cond_false, hc18, cond_false, hc23, cond_true, hc25, cond_false] <;> rfl
   rw [e]
   exact ⟨(), trivial, rfl, A.dq [2] [0, 1] h⟩
  refine E.sr (E.op (E.i i.op) (E.op (.bool (decide (i.op ≥ 88))) (E.op (.bool (decide (i.op ≥ 88))) (E.G.cut 3 [(2, E.pt g1), (4, E.pt g2), (5, E.pt g3), (6, E.pt α), (8, E.pt g5), (9, E.i i.op), (117, .bool ((decide (i.op ≥ 88)) && (decide (i.op ≤ 94))))] (A.X w oo aa [M.It m V xs]) [(g5, (K.wk (K.w0 s i) m)), (α, [E.i i.op, E.i i.d, E.i i.s, E.i i.ix, E.i i.sc, E.u i.imm, E.i i.sz]), (g3, [E.i 0, E.u 0]), (g2, (Q.S.cells Q.z0)), (g1, (Q.S.cells s))] ?_ ?_))))
  ·
   generalize hc26 : (decide (i.op ≥ 88)) = b27
   cases b27
   ·
    exact E.sk (E.sk (E.op (.bool false) (E.G.end_pst ⟨by kernel_rfl, by kernel_rfl⟩ Nz.sub (fun _ h => h))))
   exact E.op (E.i i.op) (E.op (.bool (decide (i.op ≤ 94))) (E.op (.bool (decide (i.op ≤ 94))) (E.G.end_pst ⟨by kernel_rfl, by kernel_rfl⟩ Nz.sub (fun _ h => h))))
  refine E.op (.bool ((decide (i.op ≥ 88)) && (decide (i.op ≤ 94)))) (E.To.code (E.cd ((decide (i.op ≥ 88)) && (decide (i.op ≤ 94))) (fun hc28 => ?_) (fun hc28 => ?_)))
  ·
   refine E.C.region (E.op (E.pt g5) (E.op (E.i i.op) (E.op (E.i (IntKind.wrap .i64 (i.op - 8))) (A.G.call (I := Unit) (D := fun _ => True) (V := fun _ => .tuple #[]) (q := fun _ => [A.blk g5 (K.wk ((K.access (K.w0 s i) V (IntKind.wrap .i64 (i.op - 8))).1) m), M.It m ((K.access (K.w0 s i) V (IntKind.wrap .i64 (i.op - 8))).2) xs]) [A.blk α ([E.i i.op, E.i i.d, E.i i.s, E.i i.ix, E.i i.sc, E.u i.imm, E.i i.sz]), A.blk g3 ([E.i 0, E.u 0]), A.blk g2 (Q.S.cells Q.z0), A.blk g1 (Q.S.cells s)] (fun _ => [(g5, (K.wk ((K.access (K.w0 s i) V (IntKind.wrap .i64 (i.op - 8))).1) m)), (α, [E.i i.op, E.i i.d, E.i i.s, E.i i.ix, E.i i.sc, E.u i.imm, E.i i.sz]), (g3, [E.i 0, E.u 0]), (g2, (Q.S.cells Q.z0)), (g1, (Q.S.cells s))]) (fun _ => [M.It m ((K.access (K.w0 s i) V (IntKind.wrap .i64 (i.op - 8))).2) xs]) (Access_w (b := g5) (m := m) (xs := xs) (K.w0 s i) V (IntKind.wrap .i64 (i.op - 8)) (K.w0_wf hs) (hi (K.eq0 hc4)) hV) (by kernel_rfl) (A.pn [0, 5, 1, 2, 3, 4]) (fun _ => A.pm [0, 2, 3, 4, 5, 1] (by kernel_rfl) (by kernel_rfl)) (fun w _ => by kernel_rfl) (by kernel_rfl) (fun _ hd29 => E.P.nb (E.To.code (E.wk [(2, E.pt g1), (4, E.pt g2), (5, E.pt g3), (8, E.pt g5)] [(g5, (K.wk ((K.access (K.w0 s i) V (IntKind.wrap .i64 (i.op - 8))).1) m)), (g3, [E.i 0, E.u 0]), (g2, (Q.S.cells Q.z0)), (g1, (Q.S.cells s))] Nz.sub (E.C.seq (E.sr (E.op (E.pt g5) (E.op (E.pt g5) (E.op (.pointer (some ⟨g5, 55, none⟩)) ?_))))))))))))
   refine E.op (.pointer (some ⟨g5, 55, none⟩)) (E.li (E.i (((K.access (K.w0 s i) V (IntKind.wrap .i64 (i.op - 8))).1).k)) 0 rfl rfl (E.op (.bool ((((K.access (K.w0 s i) V (IntKind.wrap .i64 (i.op - 8))).1).k) != 0)) (E.To.code (E.cd ((((K.access (K.w0 s i) V (IntKind.wrap .i64 (i.op - 8))).1).k) != 0) (fun hc30 => ?_) (fun hc30 => ?_)))))
   ·
    refine E.C.seq (E.C.held (E.Hp (oo) w (A.X w oo aa [M.It m ((K.access (K.w0 s i) V (IntKind.wrap .i64 (i.op - 8))).2) xs]) [(g5, (K.wk ((K.access (K.w0 s i) V (IntKind.wrap .i64 (i.op - 8))).1) m)), (g1, (Q.S.cells s))]) (by kernel_rfl) (E.tj 0 (Q.S.val s) rfl (fun w h => h.less Nz.sub) (fun w h => E.run_load h 1 rfl rfl (by kernel_rfl)) (E.tk 1 (E.pt g5) rfl (fun w h => h.less Nz.sub) (E.tk 2 (E.pt g5) rfl (fun w h => h.less Nz.sub) (E.tk 3 (.pointer (some ⟨g5, 55, none⟩)) rfl (fun w h => h.less Nz.sub) (E.tj 4 (.agg #[E.i (((K.access (K.w0 s i) V (IntKind.wrap .i64 (i.op - 8))).1).k), E.u (((K.access (K.w0 s i) V (IntKind.wrap .i64 (i.op - 8))).1).t)]) rfl (fun w h => h.less Nz.sub) (fun w h => E.run_load h 0 rfl rfl (by kernel_rfl)) (E.al 5 rfl (E.st 2 (Q.S.cells s) rfl rfl (E.H.back (fun w h => h.less Nz.sub) (E.al 6 rfl (E.st 1 [E.i (((K.access (K.w0 s i) V (IntKind.wrap .i64 (i.op - 8))).1).k), E.u (((K.access (K.w0 s i) V (IntKind.wrap .i64 (i.op - 8))).1).t)] rfl rfl ?_)))))))))))
    refine E.H.back (fun w h => h.less Nz.sub) (E.H.done (by kernel_rfl) (E.To.code (E.wk [(4, E.pt g2), (5, E.pt g3), (8, E.pt g5)] [(g5, (K.wk ((K.access (K.w0 s i) V (IntKind.wrap .i64 (i.op - 8))).1) m)), (g3, [E.i (((K.access (K.w0 s i) V (IntKind.wrap .i64 (i.op - 8))).1).k), E.u (((K.access (K.w0 s i) V (IntKind.wrap .i64 (i.op - 8))).1).t)]), (g2, (Q.S.cells s))] Nz.sub (E.C.ret (E.P.rt (E.To.body (fn := Tryz.f20) [Q.S.val s, .agg #[E.i (((K.access (K.w0 s i) V (IntKind.wrap .i64 (i.op - 8))).1).k), E.u (((K.access (K.w0 s i) V (IntKind.wrap .i64 (i.op - 8))).1).t)]] ?_ ?_))))))
    · exact ⟨⟨by kernel_rfl, _, _, 2, _, rfl, rfl, by kernel_rfl⟩, ⟨by kernel_rfl, _, _, 1, _, rfl, rfl, by kernel_rfl⟩, trivial⟩
    intro w h
    have e : (K.stepI i k t s V) = (s, ((K.access (K.w0 s i) V (IntKind.wrap .i64 (i.op - 8))).1).k, ((K.access (K.w0 s i) V (IntKind.wrap .i64 (i.op - 8))).1).t, (K.access (K.w0 s i) V (IntKind.wrap .i64 (i.op - 8))).2) := by unfold K.stepI; rw [hc4, cond_false, hc8, cond_false, hc13, cond_false, hc18, cond_false, hc23, cond_false, hc28, cond_true, hc30, cond_true] <;> rfl
    rw [e]
    exact ⟨(), trivial, rfl, A.dq [3] [0, 1, 2] h⟩
   refine E.C.skip (E.To.code (E.C.seq (E.C.held (E.Hp (oo) w (A.X w oo aa [M.It m ((K.access (K.w0 s i) V (IntKind.wrap .i64 (i.op - 8))).2) xs]) [(g5, (K.wk ((K.access (K.w0 s i) V (IntKind.wrap .i64 (i.op - 8))).1) m)), (g1, (Q.S.cells s))]) (by kernel_rfl) (E.tk 0 (E.pt g5) rfl (fun w h => h.less Nz.sub) (E.tk 1 (E.pt g5) rfl (fun w h => h.less Nz.sub) (E.tk 2 (.pointer (some ⟨g5, 24, none⟩)) rfl (fun w h => h.less Nz.sub) (E.tj 3 (Q.S.val (((K.access (K.w0 s i) V (IntKind.wrap .i64 (i.op - 8))).1).s)) rfl (fun w h => h.less Nz.sub) (fun w h => E.run_load h 0 rfl rfl (by kernel_rfl)) (E.tk 4 (E.pt g5) rfl (fun w h => h.less Nz.sub) (E.tk 5 (E.pt g5) rfl (fun w h => h.less Nz.sub) (E.tk 6 (.pointer (some ⟨g5, 55, none⟩)) rfl (fun w h => h.less Nz.sub) (E.tj 7 (.agg #[E.i (((K.access (K.w0 s i) V (IntKind.wrap .i64 (i.op - 8))).1).k), E.u (((K.access (K.w0 s i) V (IntKind.wrap .i64 (i.op - 8))).1).t)]) rfl (fun w h => h.less Nz.sub) (fun w h => E.run_load h 0 rfl rfl (by kernel_rfl)) (E.al 8 rfl ?_))))))))))))
   refine E.st 2 (Q.S.cells (((K.access (K.w0 s i) V (IntKind.wrap .i64 (i.op - 8))).1).s)) rfl rfl (E.H.back (fun w h => h.less Nz.sub) (E.al 9 rfl (E.st 1 [E.i (((K.access (K.w0 s i) V (IntKind.wrap .i64 (i.op - 8))).1).k), E.u (((K.access (K.w0 s i) V (IntKind.wrap .i64 (i.op - 8))).1).t)] rfl rfl (E.H.back (fun w h => h.less Nz.sub) (E.H.done (by kernel_rfl) (E.To.code (E.wk [(4, E.pt g2), (5, E.pt g3)] [(g3, [E.i (((K.access (K.w0 s i) V (IntKind.wrap .i64 (i.op - 8))).1).k), E.u (((K.access (K.w0 s i) V (IntKind.wrap .i64 (i.op - 8))).1).t)]), (g2, (Q.S.cells (((K.access (K.w0 s i) V (IntKind.wrap .i64 (i.op - 8))).1).s)))] Nz.sub (E.C.ret (E.To.body (fn := Tryz.f20) [Q.S.val (((K.access (K.w0 s i) V (IntKind.wrap .i64 (i.op - 8))).1).s), .agg #[E.i (((K.access (K.w0 s i) V (IntKind.wrap .i64 (i.op - 8))).1).k), E.u (((K.access (K.w0 s i) V (IntKind.wrap .i64 (i.op - 8))).1).t)]] ?_ ?_)))))))))
   · exact ⟨⟨by kernel_rfl, _, _, 1, _, rfl, rfl, by kernel_rfl⟩, ⟨by kernel_rfl, _, _, 0, _, rfl, rfl, by kernel_rfl⟩, trivial⟩
   intro w h
   have e : (K.stepI i k t s V) = ((((K.access (K.w0 s i) V (IntKind.wrap .i64 (i.op - 8))).1).s), ((K.access (K.w0 s i) V (IntKind.wrap .i64 (i.op - 8))).1).k, ((K.access (K.w0 s i) V (IntKind.wrap .i64 (i.op - 8))).1).t, (K.access (K.w0 s i) V (IntKind.wrap .i64 (i.op - 8))).2) := by unfold K.stepI; rw [hc4, cond_false, hc8, cond_false, hc13, cond_false, hc18, cond_false, hc23, cond_false, hc28, cond_true, hc30, cond_false] <;> rfl
   rw [e]
   exact ⟨(), trivial, rfl, A.dq [2] [0, 1] h⟩
  refine E.sr (E.op (E.i i.op) (E.op (.bool (decide (i.op ≥ 16))) (E.op (.bool (decide (i.op ≥ 16))) (E.G.cut 3 [(2, E.pt g1), (4, E.pt g2), (5, E.pt g3), (6, E.pt α), (8, E.pt g5), (9, E.i i.op), (128, .bool ((decide (i.op ≥ 16)) && (decide (i.op ≤ 21))))] (A.X w oo aa [M.It m V xs]) [(g5, (K.wk (K.w0 s i) m)), (α, [E.i i.op, E.i i.d, E.i i.s, E.i i.ix, E.i i.sc, E.u i.imm, E.i i.sz]), (g3, [E.i 0, E.u 0]), (g2, (Q.S.cells Q.z0)), (g1, (Q.S.cells s))] ?_ ?_))))
  ·
   generalize hc31 : (decide (i.op ≥ 16)) = b32
   cases b32
   ·
    exact E.sk (E.sk (E.op (.bool false) (E.G.end_pst ⟨by kernel_rfl, by kernel_rfl⟩ Nz.sub (fun _ h => h))))
   exact E.op (E.i i.op) (E.op (.bool (decide (i.op ≤ 21))) (E.op (.bool (decide (i.op ≤ 21))) (E.G.end_pst ⟨by kernel_rfl, by kernel_rfl⟩ Nz.sub (fun _ h => h))))
  refine E.op (.bool ((decide (i.op ≥ 16)) && (decide (i.op ≤ 21)))) (E.To.code (E.cd ((decide (i.op ≥ 16)) && (decide (i.op ≤ 21))) (fun hc33 => ?_) (fun hc33 => ?_)))
  ·
   refine E.C.region (E.op (E.pt g5) (A.G.call (I := Unit) (D := fun _ => True) (V := fun _ => .tuple #[]) (q := fun _ => [A.blk g5 (K.wk ((K.single (K.w0 s i) V).1) m), M.It m ((K.single (K.w0 s i) V).2) xs]) [A.blk α ([E.i i.op, E.i i.d, E.i i.s, E.i i.ix, E.i i.sc, E.u i.imm, E.i i.sz]), A.blk g3 ([E.i 0, E.u 0]), A.blk g2 (Q.S.cells Q.z0), A.blk g1 (Q.S.cells s)] (fun _ => [(g5, (K.wk ((K.single (K.w0 s i) V).1) m)), (α, [E.i i.op, E.i i.d, E.i i.s, E.i i.ix, E.i i.sc, E.u i.imm, E.i i.sz]), (g3, [E.i 0, E.u 0]), (g2, (Q.S.cells Q.z0)), (g1, (Q.S.cells s))]) (fun _ => [M.It m ((K.single (K.w0 s i) V).2) xs]) (Single_w (b := g5) (m := m) (xs := xs) (K.w0 s i) V (K.w0_wf hs) (hi (K.eq0 hc4)) hV) (by kernel_rfl) (A.pn [0, 5, 1, 2, 3, 4]) (fun _ => A.pm [0, 2, 3, 4, 5, 1] (by kernel_rfl) (by kernel_rfl)) (fun w _ => by kernel_rfl) (by kernel_rfl) (fun _ hd34 => E.P.nb (E.To.code (E.C.seq (E.sr (E.op (E.pt g5) (E.op (E.pt g5) (E.op (.pointer (some ⟨g5, 55, none⟩)) (E.op (.pointer (some ⟨g5, 55, none⟩)) (E.li (E.i (((K.single (K.w0 s i) V).1).k)) 0 rfl rfl (E.op (.bool ((((K.single (K.w0 s i) V).1).k) != 0)) ?_))))))))))))
   refine E.To.code (E.wk [(2, E.pt g1), (4, E.pt g2), (5, E.pt g3), (8, E.pt g5), (159, .bool ((((K.single (K.w0 s i) V).1).k) != 0))] [(g5, (K.wk ((K.single (K.w0 s i) V).1) m)), (g3, [E.i 0, E.u 0]), (g2, (Q.S.cells Q.z0)), (g1, (Q.S.cells s))] Nz.sub (E.cd ((((K.single (K.w0 s i) V).1).k) != 0) (fun hc35 => ?_) (fun hc35 => ?_)))
   ·
    refine E.C.seq (E.C.held (E.Hp (oo) w (A.X w oo aa [M.It m ((K.single (K.w0 s i) V).2) xs]) [(g5, (K.wk ((K.single (K.w0 s i) V).1) m)), (g1, (Q.S.cells s))]) (by kernel_rfl) (E.tj 0 (Q.S.val s) rfl (fun w h => h.less Nz.sub) (fun w h => E.run_load h 1 rfl rfl (by kernel_rfl)) (E.tk 1 (E.pt g5) rfl (fun w h => h.less Nz.sub) (E.tk 2 (E.pt g5) rfl (fun w h => h.less Nz.sub) (E.tk 3 (.pointer (some ⟨g5, 55, none⟩)) rfl (fun w h => h.less Nz.sub) (E.tj 4 (.agg #[E.i (((K.single (K.w0 s i) V).1).k), E.u (((K.single (K.w0 s i) V).1).t)]) rfl (fun w h => h.less Nz.sub) (fun w h => E.run_load h 0 rfl rfl (by kernel_rfl)) (E.al 5 rfl (E.st 2 (Q.S.cells s) rfl rfl (E.H.back (fun w h => h.less Nz.sub) (E.al 6 rfl (E.st 1 [E.i (((K.single (K.w0 s i) V).1).k), E.u (((K.single (K.w0 s i) V).1).t)] rfl rfl ?_)))))))))))
    refine E.H.back (fun w h => h.less Nz.sub) (E.H.done (by kernel_rfl) (E.To.code (E.C.ret (E.P.rt (E.To.body (fn := Tryz.f20) [Q.S.val s, .agg #[E.i (((K.single (K.w0 s i) V).1).k), E.u (((K.single (K.w0 s i) V).1).t)]] ?_ ?_)))))
    · exact ⟨⟨by kernel_rfl, _, _, 2, _, rfl, rfl, by kernel_rfl⟩, ⟨by kernel_rfl, _, _, 1, _, rfl, rfl, by kernel_rfl⟩, trivial⟩
    intro w h
    have e : (K.stepI i k t s V) = (s, ((K.single (K.w0 s i) V).1).k, ((K.single (K.w0 s i) V).1).t, (K.single (K.w0 s i) V).2) := by unfold K.stepI; rw [hc4, cond_false, hc8, cond_false, hc13, cond_false, hc18, cond_false, hc23, cond_false, hc28, cond_false, hc33, cond_true, hc35, cond_true] <;> rfl
    rw [e]
    exact ⟨(), trivial, rfl, A.dq [4] [0, 1, 2, 3] h⟩
   refine E.C.skip (E.To.code (E.C.seq (E.C.held (E.Hp (oo) w (A.X w oo aa [M.It m ((K.single (K.w0 s i) V).2) xs]) [(g5, (K.wk ((K.single (K.w0 s i) V).1) m)), (g1, (Q.S.cells s))]) (by kernel_rfl) (E.tk 0 (E.pt g5) rfl (fun w h => h.less Nz.sub) (E.tk 1 (E.pt g5) rfl (fun w h => h.less Nz.sub) (E.tk 2 (.pointer (some ⟨g5, 24, none⟩)) rfl (fun w h => h.less Nz.sub) (E.tj 3 (Q.S.val (((K.single (K.w0 s i) V).1).s)) rfl (fun w h => h.less Nz.sub) (fun w h => E.run_load h 0 rfl rfl (by kernel_rfl)) (E.tk 4 (E.pt g5) rfl (fun w h => h.less Nz.sub) (E.tk 5 (E.pt g5) rfl (fun w h => h.less Nz.sub) (E.tk 6 (.pointer (some ⟨g5, 55, none⟩)) rfl (fun w h => h.less Nz.sub) (E.tj 7 (.agg #[E.i (((K.single (K.w0 s i) V).1).k), E.u (((K.single (K.w0 s i) V).1).t)]) rfl (fun w h => h.less Nz.sub) (fun w h => E.run_load h 0 rfl rfl (by kernel_rfl)) (E.al 8 rfl ?_))))))))))))
   refine E.st 2 (Q.S.cells (((K.single (K.w0 s i) V).1).s)) rfl rfl (E.H.back (fun w h => h.less Nz.sub) (E.al 9 rfl (E.st 1 [E.i (((K.single (K.w0 s i) V).1).k), E.u (((K.single (K.w0 s i) V).1).t)] rfl rfl (E.H.back (fun w h => h.less Nz.sub) (E.H.done (by kernel_rfl) (E.To.code (E.wk [(4, E.pt g2), (5, E.pt g3)] [(g3, [E.i (((K.single (K.w0 s i) V).1).k), E.u (((K.single (K.w0 s i) V).1).t)]), (g2, (Q.S.cells (((K.single (K.w0 s i) V).1).s)))] Nz.sub (E.C.ret (E.To.body (fn := Tryz.f20) [Q.S.val (((K.single (K.w0 s i) V).1).s), .agg #[E.i (((K.single (K.w0 s i) V).1).k), E.u (((K.single (K.w0 s i) V).1).t)]] ?_ ?_)))))))))
   · exact ⟨⟨by kernel_rfl, _, _, 1, _, rfl, rfl, by kernel_rfl⟩, ⟨by kernel_rfl, _, _, 0, _, rfl, rfl, by kernel_rfl⟩, trivial⟩
   intro w h
   have e : (K.stepI i k t s V) = ((((K.single (K.w0 s i) V).1).s), ((K.single (K.w0 s i) V).1).k, ((K.single (K.w0 s i) V).1).t, (K.single (K.w0 s i) V).2) := by unfold K.stepI; rw [hc4, cond_false, hc8, cond_false, hc13, cond_false, hc18, cond_false, hc23, cond_false, hc28, cond_false, hc33, cond_true, hc35, cond_false] <;> rfl
   rw [e]
   exact ⟨(), trivial, rfl, A.dq [2] [0, 1] h⟩
  refine E.sr (E.op (E.i i.op) (E.op (.bool (decide (i.op ≥ 96))) (E.op (.bool (decide (i.op ≥ 96))) (E.G.cut 3 [(2, E.pt g1), (4, E.pt g2), (5, E.pt g3), (6, E.pt α), (8, E.pt g5), (9, E.i i.op), (137, .bool ((decide (i.op ≥ 96)) && (decide (i.op < 110))))] (A.X w oo aa [M.It m V xs]) [(g5, (K.wk (K.w0 s i) m)), (α, [E.i i.op, E.i i.d, E.i i.s, E.i i.ix, E.i i.sc, E.u i.imm, E.i i.sz]), (g3, [E.i 0, E.u 0]), (g2, (Q.S.cells Q.z0)), (g1, (Q.S.cells s))] ?_ ?_))))
  ·
   generalize hc36 : (decide (i.op ≥ 96)) = b37
   cases b37
   ·
    exact E.sk (E.sk (E.op (.bool false) (E.G.end_pst ⟨by kernel_rfl, by kernel_rfl⟩ Nz.sub (fun _ h => h))))
   exact E.op (E.i i.op) (E.op (.bool (decide (i.op < 110))) (E.op (.bool (decide (i.op < 110))) (E.G.end_pst ⟨by kernel_rfl, by kernel_rfl⟩ Nz.sub (fun _ h => h))))
  refine E.op (.bool ((decide (i.op ≥ 96)) && (decide (i.op < 110)))) (E.To.code (E.cd ((decide (i.op ≥ 96)) && (decide (i.op < 110))) (fun hc38 => ?_) (fun hc38 => ?_)))
  ·
   refine E.sr (E.op (E.i i.op) (E.op (E.i (IntKind.wrap .i64 (i.op - 96))) (E.op (.pointer (some ⟨g1, 17, none⟩)) (E.li (E.u s.f) 4 rfl rfl (E.G.call (.bool (W.cond (IntKind.wrap .i64 (i.op - 96)) s.f)) (fun w h => Cond_any (IntKind.wrap .i64 (i.op - 96)) s.f w) (fun w _ => by kernel_rfl) (by kernel_rfl) (E.To.code (E.cd (W.cond (IntKind.wrap .i64 (i.op - 96)) s.f) (fun hc39 => ?_) (fun hc39 => ?_))))))))
   ·
    refine E.C.held (E.Hp (oo) w (A.X w oo aa [M.It m V xs]) [(α, [E.i i.op, E.i i.d, E.i i.s, E.i i.ix, E.i i.sc, E.u i.imm, E.i i.sz]), (g3, [E.i 0, E.u 0]), (g2, (Q.S.cells Q.z0)), (g1, (Q.S.cells s))]) (by kernel_rfl) (E.tk 0 (E.pt g5) rfl (fun w h => h.less Nz.sub) (E.tk 1 (E.pt g5) rfl (fun w h => h.less Nz.sub) (E.tk 2 (.pointer (some ⟨g5, 24, none⟩)) rfl (fun w h => h.less Nz.sub) (E.tk 3 (.pointer (some ⟨g5, 24, none⟩)) rfl (fun w h => h.less Nz.sub) (E.tk 5 (.pointer (some ⟨α, 5, none⟩)) rfl (fun w h => h.less Nz.sub) (E.tj 6 (E.u i.imm) rfl (fun w h => h.less Nz.sub) (fun w h => E.run_load h 0 rfl rfl (by kernel_rfl)) (E.al 4 rfl (E.li (E.u (((K.w0 s i).s).pc)) 0 rfl rfl (E.H.back (fun w h => h.less Nz.sub) (E.tk 7 (E.u (IntKind.wrap .u32 ((((K.w0 s i).s).pc) + i.imm))) rfl (fun w h => h.less Nz.sub) (E.tk 8 (E.pt g5) rfl (fun w h => h.less Nz.sub) ?_)))))))))))
    refine E.tk 9 (.pointer (some ⟨g5, 24, none⟩)) rfl (fun w h => h.less Nz.sub) (E.tk 10 (.pointer (some ⟨g5, 24, none⟩)) rfl (fun w h => h.less Nz.sub) (E.al 11 rfl (E.st 0 (K.wk (⟨((K.w0 s i).u), ⟨(IntKind.wrap .u32 ((((K.w0 s i).s).pc) + i.imm)), ((K.w0 s i).s).r, ((K.w0 s i).s).f, ((K.w0 s i).s).c, ((K.w0 s i).s).st, ((K.w0 s i).s).du⟩, ((K.w0 s i).i), (K.w0 s i).k, (K.w0 s i).t⟩) m) rfl rfl (E.H.back (fun w h => h.less Nz.sub) (E.H.done (by kernel_rfl) (E.P.nb (E.To.code (E.wk [(2, E.pt g1), (4, E.pt g2), (5, E.pt g3), (8, E.pt g5)] [(g5, (K.wk (⟨((K.w0 s i).u), ⟨(IntKind.wrap .u32 ((((K.w0 s i).s).pc) + i.imm)), ((K.w0 s i).s).r, ((K.w0 s i).s).f, ((K.w0 s i).s).c, ((K.w0 s i).s).st, ((K.w0 s i).s).du⟩, ((K.w0 s i).i), (K.w0 s i).k, (K.w0 s i).t⟩) m)), (g3, [E.i 0, E.u 0]), (g2, (Q.S.cells Q.z0)), (g1, (Q.S.cells s))] Nz.sub (E.C.seq (E.sr (E.op (E.pt g5) (E.op (E.pt g5) ?_))))))))))))
    refine E.op (.pointer (some ⟨g5, 55, none⟩)) (E.op (.pointer (some ⟨g5, 55, none⟩)) (E.li (E.i ((K.w0 s i).k)) 0 rfl rfl (E.op (.bool (((K.w0 s i).k) != 0)) (E.To.code (E.cd (((K.w0 s i).k) != 0) (fun hc40 => ?_) (fun hc40 => ?_))))))
    ·
     refine E.C.seq (E.C.held (E.Hp (oo) w (A.X w oo aa [M.It m V xs]) [(g5, (K.wk (⟨((K.w0 s i).u), ⟨(IntKind.wrap .u32 ((((K.w0 s i).s).pc) + i.imm)), ((K.w0 s i).s).r, ((K.w0 s i).s).f, ((K.w0 s i).s).c, ((K.w0 s i).s).st, ((K.w0 s i).s).du⟩, ((K.w0 s i).i), (K.w0 s i).k, (K.w0 s i).t⟩) m)), (g1, (Q.S.cells s))]) (by kernel_rfl) (E.tj 0 (Q.S.val s) rfl (fun w h => h.less Nz.sub) (fun w h => E.run_load h 1 rfl rfl (by kernel_rfl)) (E.tk 1 (E.pt g5) rfl (fun w h => h.less Nz.sub) (E.tk 2 (E.pt g5) rfl (fun w h => h.less Nz.sub) (E.tk 3 (.pointer (some ⟨g5, 55, none⟩)) rfl (fun w h => h.less Nz.sub) (E.tj 4 (.agg #[E.i ((K.w0 s i).k), E.u ((K.w0 s i).t)]) rfl (fun w h => h.less Nz.sub) (fun w h => E.run_load h 0 rfl rfl (by kernel_rfl)) (E.al 5 rfl (E.st 2 (Q.S.cells s) rfl rfl (E.H.back (fun w h => h.less Nz.sub) (E.al 6 rfl (E.st 1 [E.i ((K.w0 s i).k), E.u ((K.w0 s i).t)] rfl rfl ?_)))))))))))
     refine E.H.back (fun w h => h.less Nz.sub) (E.H.done (by kernel_rfl) (E.To.code (E.wk [(4, E.pt g2), (5, E.pt g3), (8, E.pt g5)] [(g5, (K.wk (⟨((K.w0 s i).u), ⟨(IntKind.wrap .u32 ((((K.w0 s i).s).pc) + i.imm)), ((K.w0 s i).s).r, ((K.w0 s i).s).f, ((K.w0 s i).s).c, ((K.w0 s i).s).st, ((K.w0 s i).s).du⟩, ((K.w0 s i).i), (K.w0 s i).k, (K.w0 s i).t⟩) m)), (g3, [E.i ((K.w0 s i).k), E.u ((K.w0 s i).t)]), (g2, (Q.S.cells s))] Nz.sub (E.C.ret (E.P.rt (E.To.body (fn := Tryz.f20) [Q.S.val s, .agg #[E.i ((K.w0 s i).k), E.u ((K.w0 s i).t)]] ?_ ?_))))))
     · exact ⟨⟨by kernel_rfl, _, _, 2, _, rfl, rfl, by kernel_rfl⟩, ⟨by kernel_rfl, _, _, 1, _, rfl, rfl, by kernel_rfl⟩, trivial⟩
     intro w h
     have e : (K.stepI i k t s V) = (s, (K.w0 s i).k, (K.w0 s i).t, V) := by unfold K.stepI; rw [hc4, cond_false, hc8, cond_false, hc13, cond_false, hc18, cond_false, hc23, cond_false, hc28, cond_false, hc33, cond_false, hc38, cond_true, hc39, cond_true, hc40, cond_true] <;> rfl
     rw [e]
     exact ⟨(), trivial, rfl, A.dq [3] [0, 1, 2] h⟩
    refine E.C.skip (E.To.code (E.C.seq (E.C.held (E.Hp (oo) w (A.X w oo aa [M.It m V xs]) [(g5, (K.wk (⟨((K.w0 s i).u), ⟨(IntKind.wrap .u32 ((((K.w0 s i).s).pc) + i.imm)), ((K.w0 s i).s).r, ((K.w0 s i).s).f, ((K.w0 s i).s).c, ((K.w0 s i).s).st, ((K.w0 s i).s).du⟩, ((K.w0 s i).i), (K.w0 s i).k, (K.w0 s i).t⟩) m)), (g1, (Q.S.cells s))]) (by kernel_rfl) (E.tk 0 (E.pt g5) rfl (fun w h => h.less Nz.sub) (E.tk 1 (E.pt g5) rfl (fun w h => h.less Nz.sub) (E.tk 2 (.pointer (some ⟨g5, 24, none⟩)) rfl (fun w h => h.less Nz.sub) (E.tj 3 (Q.S.val (⟨(IntKind.wrap .u32 ((((K.w0 s i).s).pc) + i.imm)), ((K.w0 s i).s).r, ((K.w0 s i).s).f, ((K.w0 s i).s).c, ((K.w0 s i).s).st, ((K.w0 s i).s).du⟩)) rfl (fun w h => h.less Nz.sub) (fun w h => E.run_load h 0 rfl rfl (by kernel_rfl)) (E.tk 4 (E.pt g5) rfl (fun w h => h.less Nz.sub) (E.tk 5 (E.pt g5) rfl (fun w h => h.less Nz.sub) (E.tk 6 (.pointer (some ⟨g5, 55, none⟩)) rfl (fun w h => h.less Nz.sub) (E.tj 7 (.agg #[E.i ((K.w0 s i).k), E.u ((K.w0 s i).t)]) rfl (fun w h => h.less Nz.sub) (fun w h => E.run_load h 0 rfl rfl (by kernel_rfl)) (E.al 8 rfl ?_))))))))))))
    refine E.st 2 (Q.S.cells (⟨(IntKind.wrap .u32 ((((K.w0 s i).s).pc) + i.imm)), ((K.w0 s i).s).r, ((K.w0 s i).s).f, ((K.w0 s i).s).c, ((K.w0 s i).s).st, ((K.w0 s i).s).du⟩)) rfl rfl (E.H.back (fun w h => h.less Nz.sub) (E.al 9 rfl (E.st 1 [E.i ((K.w0 s i).k), E.u ((K.w0 s i).t)] rfl rfl (E.H.back (fun w h => h.less Nz.sub) (E.H.done (by kernel_rfl) (E.To.code (E.wk [(4, E.pt g2), (5, E.pt g3)] [(g3, [E.i ((K.w0 s i).k), E.u ((K.w0 s i).t)]), (g2, (Q.S.cells (⟨(IntKind.wrap .u32 ((((K.w0 s i).s).pc) + i.imm)), ((K.w0 s i).s).r, ((K.w0 s i).s).f, ((K.w0 s i).s).c, ((K.w0 s i).s).st, ((K.w0 s i).s).du⟩)))] Nz.sub (E.C.ret (E.To.body (fn := Tryz.f20) [Q.S.val (⟨(IntKind.wrap .u32 ((((K.w0 s i).s).pc) + i.imm)), ((K.w0 s i).s).r, ((K.w0 s i).s).f, ((K.w0 s i).s).c, ((K.w0 s i).s).st, ((K.w0 s i).s).du⟩), .agg #[E.i ((K.w0 s i).k), E.u ((K.w0 s i).t)]] ?_ ?_)))))))))
    · exact ⟨⟨by kernel_rfl, _, _, 1, _, rfl, rfl, by kernel_rfl⟩, ⟨by kernel_rfl, _, _, 0, _, rfl, rfl, by kernel_rfl⟩, trivial⟩
    intro w h
    have e : (K.stepI i k t s V) = (⟨(IntKind.wrap .u32 ((((K.w0 s i).s).pc) + i.imm)), ((K.w0 s i).s).r, ((K.w0 s i).s).f, ((K.w0 s i).s).c, ((K.w0 s i).s).st, ((K.w0 s i).s).du⟩, (K.w0 s i).k, (K.w0 s i).t, V) := by unfold K.stepI; rw [hc4, cond_false, hc8, cond_false, hc13, cond_false, hc18, cond_false, hc23, cond_false, hc28, cond_false, hc33, cond_false, hc38, cond_true, hc39, cond_true, hc40, cond_false] <;> rfl
    rw [e]
    exact ⟨(), trivial, rfl, A.dq [2] [0, 1] h⟩
   refine E.C.skip (E.P.nb (E.To.code (E.wk [(2, E.pt g1), (4, E.pt g2), (5, E.pt g3), (8, E.pt g5)] [(g5, (K.wk (K.w0 s i) m)), (g3, [E.i 0, E.u 0]), (g2, (Q.S.cells Q.z0)), (g1, (Q.S.cells s))] Nz.sub (E.C.seq (E.sr (E.op (E.pt g5) (E.op (E.pt g5) (E.op (.pointer (some ⟨g5, 55, none⟩)) (E.op (.pointer (some ⟨g5, 55, none⟩)) (E.li (E.i ((K.w0 s i).k)) 0 rfl rfl (E.op (.bool (((K.w0 s i).k) != 0)) (E.To.code (E.cd (((K.w0 s i).k) != 0) (fun hc41 => ?_) (fun hc41 => ?_))))))))))))))
   ·
    refine E.C.seq (E.C.held (E.Hp (oo) w (A.X w oo aa [M.It m V xs]) [(g5, (K.wk (K.w0 s i) m)), (g1, (Q.S.cells s))]) (by kernel_rfl) (E.tj 0 (Q.S.val s) rfl (fun w h => h.less Nz.sub) (fun w h => E.run_load h 1 rfl rfl (by kernel_rfl)) (E.tk 1 (E.pt g5) rfl (fun w h => h.less Nz.sub) (E.tk 2 (E.pt g5) rfl (fun w h => h.less Nz.sub) (E.tk 3 (.pointer (some ⟨g5, 55, none⟩)) rfl (fun w h => h.less Nz.sub) (E.tj 4 (.agg #[E.i ((K.w0 s i).k), E.u ((K.w0 s i).t)]) rfl (fun w h => h.less Nz.sub) (fun w h => E.run_load h 0 rfl rfl (by kernel_rfl)) (E.al 5 rfl (E.st 2 (Q.S.cells s) rfl rfl (E.H.back (fun w h => h.less Nz.sub) (E.al 6 rfl (E.st 1 [E.i ((K.w0 s i).k), E.u ((K.w0 s i).t)] rfl rfl ?_)))))))))))
    refine E.H.back (fun w h => h.less Nz.sub) (E.H.done (by kernel_rfl) (E.To.code (E.wk [(4, E.pt g2), (5, E.pt g3), (8, E.pt g5)] [(g5, (K.wk (K.w0 s i) m)), (g3, [E.i ((K.w0 s i).k), E.u ((K.w0 s i).t)]), (g2, (Q.S.cells s))] Nz.sub (E.C.ret (E.P.rt (E.To.body (fn := Tryz.f20) [Q.S.val s, .agg #[E.i ((K.w0 s i).k), E.u ((K.w0 s i).t)]] ?_ ?_))))))
    · exact ⟨⟨by kernel_rfl, _, _, 2, _, rfl, rfl, by kernel_rfl⟩, ⟨by kernel_rfl, _, _, 1, _, rfl, rfl, by kernel_rfl⟩, trivial⟩
    intro w h
    have e : (K.stepI i k t s V) = (s, (K.w0 s i).k, (K.w0 s i).t, V) := by unfold K.stepI; rw [hc4, cond_false, hc8, cond_false, hc13, cond_false, hc18, cond_false, hc23, cond_false, hc28, cond_false, hc33, cond_false, hc38, cond_true, hc39, cond_false, hc41, cond_true] <;> rfl
    rw [e]
    exact ⟨(), trivial, rfl, A.dq [3] [0, 1, 2] h⟩
   refine E.C.skip (E.To.code (E.C.seq (E.C.held (E.Hp (oo) w (A.X w oo aa [M.It m V xs]) [(g5, (K.wk (K.w0 s i) m)), (g1, (Q.S.cells s))]) (by kernel_rfl) (E.tk 0 (E.pt g5) rfl (fun w h => h.less Nz.sub) (E.tk 1 (E.pt g5) rfl (fun w h => h.less Nz.sub) (E.tk 2 (.pointer (some ⟨g5, 24, none⟩)) rfl (fun w h => h.less Nz.sub) (E.tj 3 (Q.S.val ((K.w0 s i).s)) rfl (fun w h => h.less Nz.sub) (fun w h => E.run_load h 0 rfl rfl (by kernel_rfl)) (E.tk 4 (E.pt g5) rfl (fun w h => h.less Nz.sub) (E.tk 5 (E.pt g5) rfl (fun w h => h.less Nz.sub) (E.tk 6 (.pointer (some ⟨g5, 55, none⟩)) rfl (fun w h => h.less Nz.sub) (E.tj 7 (.agg #[E.i ((K.w0 s i).k), E.u ((K.w0 s i).t)]) rfl (fun w h => h.less Nz.sub) (fun w h => E.run_load h 0 rfl rfl (by kernel_rfl)) (E.al 8 rfl ?_))))))))))))
   refine E.st 2 (Q.S.cells ((K.w0 s i).s)) rfl rfl (E.H.back (fun w h => h.less Nz.sub) (E.al 9 rfl (E.st 1 [E.i ((K.w0 s i).k), E.u ((K.w0 s i).t)] rfl rfl (E.H.back (fun w h => h.less Nz.sub) (E.H.done (by kernel_rfl) (E.To.code (E.wk [(4, E.pt g2), (5, E.pt g3)] [(g3, [E.i ((K.w0 s i).k), E.u ((K.w0 s i).t)]), (g2, (Q.S.cells ((K.w0 s i).s)))] Nz.sub (E.C.ret (E.To.body (fn := Tryz.f20) [Q.S.val ((K.w0 s i).s), .agg #[E.i ((K.w0 s i).k), E.u ((K.w0 s i).t)]] ?_ ?_)))))))))
   · exact ⟨⟨by kernel_rfl, _, _, 1, _, rfl, rfl, by kernel_rfl⟩, ⟨by kernel_rfl, _, _, 0, _, rfl, rfl, by kernel_rfl⟩, trivial⟩
   intro w h
   have e : (K.stepI i k t s V) = (((K.w0 s i).s), (K.w0 s i).k, (K.w0 s i).t, V) := by unfold K.stepI; rw [hc4, cond_false, hc8, cond_false, hc13, cond_false, hc18, cond_false, hc23, cond_false, hc28, cond_false, hc33, cond_false, hc38, cond_true, hc39, cond_false, hc41, cond_false] <;> rfl
   rw [e]
   exact ⟨(), trivial, rfl, A.dq [2] [0, 1] h⟩
  refine E.C.region (E.op (E.pt g5) (A.G.call (I := Unit) (D := fun _ => True) (V := fun _ => .tuple #[]) (q := fun _ => [A.blk g5 (K.wk ((K.control (K.w0 s i) V).1) m), M.It m ((K.control (K.w0 s i) V).2) xs]) [A.blk α ([E.i i.op, E.i i.d, E.i i.s, E.i i.ix, E.i i.sc, E.u i.imm, E.i i.sz]), A.blk g3 ([E.i 0, E.u 0]), A.blk g2 (Q.S.cells Q.z0), A.blk g1 (Q.S.cells s)] (fun _ => [(g5, (K.wk ((K.control (K.w0 s i) V).1) m)), (α, [E.i i.op, E.i i.d, E.i i.s, E.i i.ix, E.i i.sc, E.u i.imm, E.i i.sz]), (g3, [E.i 0, E.u 0]), (g2, (Q.S.cells Q.z0)), (g1, (Q.S.cells s))]) (fun _ => [M.It m ((K.control (K.w0 s i) V).2) xs]) (Control_w (b := g5) (m := m) (xs := xs) (K.w0 s i) V (K.w0_wf hs) (hi (K.eq0 hc4)) hV) (by kernel_rfl) (A.pn [0, 5, 1, 2, 3, 4]) (fun _ => A.pm [0, 2, 3, 4, 5, 1] (by kernel_rfl) (by kernel_rfl)) (fun w _ => by kernel_rfl) (by kernel_rfl) (fun _ hd42 => E.P.nb (E.To.code (E.C.seq (E.sr (E.op (E.pt g5) (E.op (E.pt g5) (E.op (.pointer (some ⟨g5, 55, none⟩)) (E.op (.pointer (some ⟨g5, 55, none⟩)) (E.li (E.i (((K.control (K.w0 s i) V).1).k)) 0 rfl rfl (E.op (.bool ((((K.control (K.w0 s i) V).1).k) != 0)) ?_))))))))))))
  refine E.To.code (E.wk [(2, E.pt g1), (4, E.pt g2), (5, E.pt g3), (8, E.pt g5), (159, .bool ((((K.control (K.w0 s i) V).1).k) != 0))] [(g5, (K.wk ((K.control (K.w0 s i) V).1) m)), (g3, [E.i 0, E.u 0]), (g2, (Q.S.cells Q.z0)), (g1, (Q.S.cells s))] Nz.sub (E.cd ((((K.control (K.w0 s i) V).1).k) != 0) (fun hc43 => ?_) (fun hc43 => ?_)))
  ·
   refine E.C.seq (E.C.held (E.Hp (oo) w (A.X w oo aa [M.It m ((K.control (K.w0 s i) V).2) xs]) [(g5, (K.wk ((K.control (K.w0 s i) V).1) m)), (g1, (Q.S.cells s))]) (by kernel_rfl) (E.tj 0 (Q.S.val s) rfl (fun w h => h.less Nz.sub) (fun w h => E.run_load h 1 rfl rfl (by kernel_rfl)) (E.tk 1 (E.pt g5) rfl (fun w h => h.less Nz.sub) (E.tk 2 (E.pt g5) rfl (fun w h => h.less Nz.sub) (E.tk 3 (.pointer (some ⟨g5, 55, none⟩)) rfl (fun w h => h.less Nz.sub) (E.tj 4 (.agg #[E.i (((K.control (K.w0 s i) V).1).k), E.u (((K.control (K.w0 s i) V).1).t)]) rfl (fun w h => h.less Nz.sub) (fun w h => E.run_load h 0 rfl rfl (by kernel_rfl)) (E.al 5 rfl (E.st 2 (Q.S.cells s) rfl rfl (E.H.back (fun w h => h.less Nz.sub) (E.al 6 rfl (E.st 1 [E.i (((K.control (K.w0 s i) V).1).k), E.u (((K.control (K.w0 s i) V).1).t)] rfl rfl ?_)))))))))))
   refine E.H.back (fun w h => h.less Nz.sub) (E.H.done (by kernel_rfl) (E.To.code (E.C.ret (E.P.rt (E.To.body (fn := Tryz.f20) [Q.S.val s, .agg #[E.i (((K.control (K.w0 s i) V).1).k), E.u (((K.control (K.w0 s i) V).1).t)]] ?_ ?_)))))
   · exact ⟨⟨by kernel_rfl, _, _, 2, _, rfl, rfl, by kernel_rfl⟩, ⟨by kernel_rfl, _, _, 1, _, rfl, rfl, by kernel_rfl⟩, trivial⟩
   intro w h
   have e : (K.stepI i k t s V) = (s, ((K.control (K.w0 s i) V).1).k, ((K.control (K.w0 s i) V).1).t, (K.control (K.w0 s i) V).2) := by unfold K.stepI; rw [hc4, cond_false, hc8, cond_false, hc13, cond_false, hc18, cond_false, hc23, cond_false, hc28, cond_false, hc33, cond_false, hc38, cond_false, hc43, cond_true] <;> rfl
   rw [e]
   exact ⟨(), trivial, rfl, A.dq [4] [0, 1, 2, 3] h⟩
  refine E.C.skip (E.To.code (E.C.seq (E.C.held (E.Hp (oo) w (A.X w oo aa [M.It m ((K.control (K.w0 s i) V).2) xs]) [(g5, (K.wk ((K.control (K.w0 s i) V).1) m)), (g1, (Q.S.cells s))]) (by kernel_rfl) (E.tk 0 (E.pt g5) rfl (fun w h => h.less Nz.sub) (E.tk 1 (E.pt g5) rfl (fun w h => h.less Nz.sub) (E.tk 2 (.pointer (some ⟨g5, 24, none⟩)) rfl (fun w h => h.less Nz.sub) (E.tj 3 (Q.S.val (((K.control (K.w0 s i) V).1).s)) rfl (fun w h => h.less Nz.sub) (fun w h => E.run_load h 0 rfl rfl (by kernel_rfl)) (E.tk 4 (E.pt g5) rfl (fun w h => h.less Nz.sub) (E.tk 5 (E.pt g5) rfl (fun w h => h.less Nz.sub) (E.tk 6 (.pointer (some ⟨g5, 55, none⟩)) rfl (fun w h => h.less Nz.sub) (E.tj 7 (.agg #[E.i (((K.control (K.w0 s i) V).1).k), E.u (((K.control (K.w0 s i) V).1).t)]) rfl (fun w h => h.less Nz.sub) (fun w h => E.run_load h 0 rfl rfl (by kernel_rfl)) (E.al 8 rfl ?_))))))))))))
  refine E.st 2 (Q.S.cells (((K.control (K.w0 s i) V).1).s)) rfl rfl (E.H.back (fun w h => h.less Nz.sub) (E.al 9 rfl (E.st 1 [E.i (((K.control (K.w0 s i) V).1).k), E.u (((K.control (K.w0 s i) V).1).t)] rfl rfl (E.H.back (fun w h => h.less Nz.sub) (E.H.done (by kernel_rfl) (E.To.code (E.wk [(4, E.pt g2), (5, E.pt g3)] [(g3, [E.i (((K.control (K.w0 s i) V).1).k), E.u (((K.control (K.w0 s i) V).1).t)]), (g2, (Q.S.cells (((K.control (K.w0 s i) V).1).s)))] Nz.sub (E.C.ret (E.To.body (fn := Tryz.f20) [Q.S.val (((K.control (K.w0 s i) V).1).s), .agg #[E.i (((K.control (K.w0 s i) V).1).k), E.u (((K.control (K.w0 s i) V).1).t)]] ?_ ?_)))))))))
  · exact ⟨⟨by kernel_rfl, _, _, 1, _, rfl, rfl, by kernel_rfl⟩, ⟨by kernel_rfl, _, _, 0, _, rfl, rfl, by kernel_rfl⟩, trivial⟩
  intro w h
  have e : (K.stepI i k t s V) = ((((K.control (K.w0 s i) V).1).s), ((K.control (K.w0 s i) V).1).k, ((K.control (K.w0 s i) V).1).t, (K.control (K.w0 s i) V).2) := by unfold K.stepI; rw [hc4, cond_false, hc8, cond_false, hc13, cond_false, hc18, cond_false, hc23, cond_false, hc28, cond_false, hc33, cond_false, hc38, cond_false, hc43, cond_false] <;> rfl
  rw [e]
  exact ⟨(), trivial, rfl, A.dq [2] [0, 1] h⟩
 have nd3 : ∀ (α β : Nat), H 1 (E.bits 13 4095) [(1, .iface 35 (E.pt m)), (2, E.pt g1), (4, E.pt g2), (5, E.pt g3), (6, E.pt α), (7, E.pt β), (18, .agg #[E.i k, E.u t])] (A.X w oo aa [M.It m V xs]) [(α, [E.i i.op, E.i i.d, E.i i.s, E.i i.ix, E.i i.sc, E.u i.imm, E.i i.sz]), (β, [E.i 0, E.u 0]), (g3, [E.i 0, E.u 0]), (g2, (Q.S.cells Q.z0)), (g1, (Q.S.cells s))] := by
  intro α β
  exact up _ _ _ _ _ (E.al 12 rfl (E.st 1 [E.i k, E.u t] rfl rfl (E.H.back (fun w h => A.hq [2, 3, 4] [0, 1, 5] h) (E.ho (dn _ _ _ _ _ (nd4 α β))))))
 have nd2 : ∀ (α β : Nat), H 2 (E.bits 13 2047) [(1, .iface 35 (E.pt m)), (2, E.pt g1), (4, E.pt g2), (5, E.pt g3), (6, E.pt α), (7, E.pt β), (17, .agg #[E.i i.op, E.i i.d, E.i i.s, E.i i.ix, E.i i.sc, E.u i.imm, E.i i.sz]), (18, .agg #[E.i k, E.u t])] (A.X w oo aa [M.It m V xs]) [(α, [E.i 0, E.i 0, E.i 0, E.i 0, E.i 0, E.u 0, E.i 0]), (β, [E.i 0, E.u 0]), (g3, [E.i 0, E.u 0]), (g2, (Q.S.cells Q.z0)), (g1, (Q.S.cells s))] := by
  intro α β
  exact up _ _ _ _ _ (E.al 11 rfl (E.st 0 [E.i i.op, E.i i.d, E.i i.s, E.i i.ix, E.i i.sc, E.u i.imm, E.i i.sz] rfl rfl (E.H.back (fun w h => A.hq [2, 3, 4] [0, 1, 5] h) (E.ho (dn _ _ _ _ _ (nd3 α β))))))
 have nd1 : ∀ (α : Nat), H 3 (E.bits 13 1023) [(1, .iface 35 (E.pt m)), (2, E.pt g1), (4, E.pt g2), (5, E.pt g3), (6, E.pt α), (17, .agg #[E.i i.op, E.i i.d, E.i i.s, E.i i.ix, E.i i.sc, E.u i.imm, E.i i.sz]), (18, .agg #[E.i k, E.u t])] (A.X w oo aa [M.It m V xs]) [(α, [E.i 0, E.i 0, E.i 0, E.i 0, E.i 0, E.u 0, E.i 0]), (g3, [E.i 0, E.u 0]), (g2, (Q.S.cells Q.z0)), (g1, (Q.S.cells s))] := by
  intro α
  exact up _ _ _ _ _ (E.al 10 rfl (E.G.new (fun g => E.pt g) [E.i 0, E.u 0] 47 (fun w => by kernel_rfl) (by kernel_rfl) (fun β => E.H.back (fun w h => A.hq [2, 3, 4] [0, 1, 5] h) (E.H.toP _ _ [(α, [E.i 0, E.i 0, E.i 0, E.i 0, E.i 0, E.u 0, E.i 0]), (β, [E.i 0, E.u 0]), (g3, [E.i 0, E.u 0]), (g2, (Q.S.cells Q.z0)), (g1, (Q.S.cells s))] (by kernel_rfl) ⟨by kernel_rfl, by kernel_rfl⟩ (A.pn [1, 0, 2, 3, 4]) (dn _ _ _ _ _ (nd2 α β))))))
 have nd5 : ∀ (β : Nat), H 3 (E.bits 13 1535) [(1, .iface 35 (E.pt m)), (2, E.pt g1), (4, E.pt g2), (5, E.pt g3), (7, E.pt β), (17, .agg #[E.i i.op, E.i i.d, E.i i.s, E.i i.ix, E.i i.sc, E.u i.imm, E.i i.sz]), (18, .agg #[E.i k, E.u t])] (A.X w oo aa [M.It m V xs]) [(β, [E.i 0, E.u 0]), (g3, [E.i 0, E.u 0]), (g2, (Q.S.cells Q.z0)), (g1, (Q.S.cells s))] := by
  intro β
  exact up _ _ _ _ _ (E.al 9 rfl (E.G.new (fun g => E.pt g) [E.i 0, E.i 0, E.i 0, E.i 0, E.i 0, E.u 0, E.i 0] 66 (fun w => by kernel_rfl) (by kernel_rfl) (fun α => E.H.back (fun w h => A.hq [2, 3, 4] [0, 1, 5] h) (E.ho (dn _ _ _ _ _ (nd2 α β))))))
 have nd0 : H 7 (E.bits 13 63) [(1, .iface 35 (E.pt m)), (2, E.pt g1), (4, E.pt g2), (5, E.pt g3), (16, .tuple #[.agg #[E.i i.op, E.i i.d, E.i i.s, E.i i.ix, E.i i.sc, E.u i.imm, E.i i.sz], .agg #[E.i k, E.u t]])] (A.X w oo aa [M.It m V xs]) [(g3, [E.i 0, E.u 0]), (g2, (Q.S.cells Q.z0)), (g1, (Q.S.cells s))] := by
  refine up _ _ _ _ _ (E.tk 6 (.tuple #[.agg #[E.i i.op, E.i i.d, E.i i.s, E.i i.ix, E.i i.sc, E.u i.imm, E.i i.sz], .agg #[E.i k, E.u t]]) rfl (fun w h => A.hpY0 h (by kernel_rfl)) (E.tk 7 (.agg #[E.i i.op, E.i i.d, E.i i.s, E.i i.ix, E.i i.sc, E.u i.imm, E.i i.sz]) rfl (fun w h => A.hpY0 h (by kernel_rfl)) (E.tk 8 (.agg #[E.i k, E.u t]) rfl (fun w h => A.hpY0 h (by kernel_rfl)) (E.al2 9 10 rfl rfl ?_ ?_))))
  ·
   exact E.G.new (fun g => E.pt g) [E.i 0, E.i 0, E.i 0, E.i 0, E.i 0, E.u 0, E.i 0] 66 (fun w => by kernel_rfl) (by kernel_rfl) (fun α => E.H.back (fun w h => A.hq [1, 2, 3] [0, 4] h) (E.ho (dn _ _ _ _ _ (nd1 α))))
  exact E.G.new (fun g => E.pt g) [E.i 0, E.u 0] 47 (fun w => by kernel_rfl) (by kernel_rfl) (fun β => E.H.back (fun w h => A.hq [1, 2, 3] [0, 4] h) (E.ho (dn _ _ _ _ _ (nd5 β))))
 have nd7 : ∀ (α : Nat), H 6 (E.bits 13 575) [(1, .iface 35 (E.pt m)), (2, E.pt g1), (4, E.pt g2), (5, E.pt g3), (6, E.pt α), (16, .tuple #[.agg #[E.i i.op, E.i i.d, E.i i.s, E.i i.ix, E.i i.sc, E.u i.imm, E.i i.sz], .agg #[E.i k, E.u t]])] (A.X w oo aa [M.It m V xs]) [(α, [E.i 0, E.i 0, E.i 0, E.i 0, E.i 0, E.u 0, E.i 0]), (g3, [E.i 0, E.u 0]), (g2, (Q.S.cells Q.z0)), (g1, (Q.S.cells s))] := by
  intro α
  exact up _ _ _ _ _ (E.tk 6 (.tuple #[.agg #[E.i i.op, E.i i.d, E.i i.s, E.i i.ix, E.i i.sc, E.u i.imm, E.i i.sz], .agg #[E.i k, E.u t]]) rfl (fun w h => A.hq [1, 2, 3] [0, 4] h) (E.tk 7 (.agg #[E.i i.op, E.i i.d, E.i i.s, E.i i.ix, E.i i.sc, E.u i.imm, E.i i.sz]) rfl (fun w h => A.hq [1, 2, 3] [0, 4] h) (E.tk 8 (.agg #[E.i k, E.u t]) rfl (fun w h => A.hq [1, 2, 3] [0, 4] h) (E.al 10 rfl (E.G.new (fun g => E.pt g) [E.i 0, E.u 0] 47 (fun w => by kernel_rfl) (by kernel_rfl) (fun β => E.H.back (fun w h => A.hq [2, 3, 4] [0, 1, 5] h) (E.H.toP _ _ [(α, [E.i 0, E.i 0, E.i 0, E.i 0, E.i 0, E.u 0, E.i 0]), (β, [E.i 0, E.u 0]), (g3, [E.i 0, E.u 0]), (g2, (Q.S.cells Q.z0)), (g1, (Q.S.cells s))] (by kernel_rfl) ⟨by kernel_rfl, by kernel_rfl⟩ (A.pn [1, 0, 2, 3, 4]) (dn _ _ _ _ _ (nd2 α β)))))))))
 have nd9 : ∀ (α β : Nat), H 5 (E.bits 13 1599) [(1, .iface 35 (E.pt m)), (2, E.pt g1), (4, E.pt g2), (5, E.pt g3), (6, E.pt α), (7, E.pt β), (16, .tuple #[.agg #[E.i i.op, E.i i.d, E.i i.s, E.i i.ix, E.i i.sc, E.u i.imm, E.i i.sz], .agg #[E.i k, E.u t]])] (A.X w oo aa [M.It m V xs]) [(α, [E.i 0, E.i 0, E.i 0, E.i 0, E.i 0, E.u 0, E.i 0]), (β, [E.i 0, E.u 0]), (g3, [E.i 0, E.u 0]), (g2, (Q.S.cells Q.z0)), (g1, (Q.S.cells s))] := by
  intro α β
  exact up _ _ _ _ _ (E.tk 6 (.tuple #[.agg #[E.i i.op, E.i i.d, E.i i.s, E.i i.ix, E.i i.sc, E.u i.imm, E.i i.sz], .agg #[E.i k, E.u t]]) rfl (fun w h => A.hq [2, 3, 4] [0, 1, 5] h) (E.tk 7 (.agg #[E.i i.op, E.i i.d, E.i i.s, E.i i.ix, E.i i.sc, E.u i.imm, E.i i.sz]) rfl (fun w h => A.hq [2, 3, 4] [0, 1, 5] h) (E.tk 8 (.agg #[E.i k, E.u t]) rfl (fun w h => A.hq [2, 3, 4] [0, 1, 5] h) (E.al 11 rfl (E.st 0 [E.i i.op, E.i i.d, E.i i.s, E.i i.ix, E.i i.sc, E.u i.imm, E.i i.sz] rfl rfl (E.H.back (fun w h => A.hq [2, 3, 4] [0, 1, 5] h) (E.ho (dn _ _ _ _ _ (nd3 α β)))))))))
 have nd8 : ∀ (α β : Nat), H 6 (E.bits 13 1567) [(1, .iface 35 (E.pt m)), (2, E.pt g1), (4, E.pt g2), (5, E.pt g3), (6, E.pt α), (7, E.pt β), (12, E.u s.pc), (15, .func (.method "Fetch") #[.iface 35 (E.pt m)] #[])] (A.X w oo aa [M.It m V xs]) [(α, [E.i 0, E.i 0, E.i 0, E.i 0, E.i 0, E.u 0, E.i 0]), (β, [E.i 0, E.u 0]), (g3, [E.i 0, E.u 0]), (g2, (Q.S.cells Q.z0)), (g1, (Q.S.cells s))] := by
  intro α β
  exact up _ _ _ _ _ (E.al 5 rfl (E.G.call (.tuple #[.agg #[E.i i.op, E.i i.d, E.i i.s, E.i i.ix, E.i i.sc, E.u i.imm, E.i i.sz], .agg #[E.i k, E.u t]]) (fun w h => A.cq [5] [0, 1, 2, 3, 4] (A.rdAs (v' := .tuple #[.agg #[E.i i.op, E.i i.d, E.i i.s, E.i i.ix, E.i i.sc, E.u i.imm, E.i i.sz], .agg #[E.i k, E.u t]]) (Fetch_rd (m := m) (xs := xs) V s.pc hs.pc) (by rw [hf] <;> rfl)) h) (fun w _ => by kernel_rfl) (by kernel_rfl) (E.H.back (fun w h => A.hq [2, 3, 4] [0, 1, 5] h) (E.ho (dn _ _ _ _ _ (nd9 α β))))))
 have nd6 : ∀ (α : Nat), H 7 (E.bits 13 543) [(1, .iface 35 (E.pt m)), (2, E.pt g1), (4, E.pt g2), (5, E.pt g3), (6, E.pt α), (12, E.u s.pc), (15, .func (.method "Fetch") #[.iface 35 (E.pt m)] #[])] (A.X w oo aa [M.It m V xs]) [(α, [E.i 0, E.i 0, E.i 0, E.i 0, E.i 0, E.u 0, E.i 0]), (g3, [E.i 0, E.u 0]), (g2, (Q.S.cells Q.z0)), (g1, (Q.S.cells s))] := by
  intro α
  refine up _ _ _ _ _ (E.al2 5 10 rfl rfl ?_ ?_)
  ·
   exact E.G.call (.tuple #[.agg #[E.i i.op, E.i i.d, E.i i.s, E.i i.ix, E.i i.sc, E.u i.imm, E.i i.sz], .agg #[E.i k, E.u t]]) (fun w h => A.cq [4] [0, 1, 2, 3] (A.rdAs (v' := .tuple #[.agg #[E.i i.op, E.i i.d, E.i i.s, E.i i.ix, E.i i.sc, E.u i.imm, E.i i.sz], .agg #[E.i k, E.u t]]) (Fetch_rd (m := m) (xs := xs) V s.pc hs.pc) (by rw [hf] <;> rfl)) h) (fun w _ => by kernel_rfl) (by kernel_rfl) (E.H.back (fun w h => A.hq [1, 2, 3] [0, 4] h) (E.ho (dn _ _ _ _ _ (nd7 α))))
  exact E.G.new (fun g => E.pt g) [E.i 0, E.u 0] 47 (fun w => by kernel_rfl) (by kernel_rfl) (fun β => E.H.back (fun w h => A.hq [2, 3, 4] [0, 1, 5] h) (E.H.toP _ _ [(α, [E.i 0, E.i 0, E.i 0, E.i 0, E.i 0, E.u 0, E.i 0]), (β, [E.i 0, E.u 0]), (g3, [E.i 0, E.u 0]), (g2, (Q.S.cells Q.z0)), (g1, (Q.S.cells s))] (by kernel_rfl) ⟨by kernel_rfl, by kernel_rfl⟩ (A.pn [1, 0, 2, 3, 4]) (dn _ _ _ _ _ (nd8 α β))))
 have nd11 : ∀ (β : Nat), H 6 (E.bits 13 1087) [(1, .iface 35 (E.pt m)), (2, E.pt g1), (4, E.pt g2), (5, E.pt g3), (7, E.pt β), (16, .tuple #[.agg #[E.i i.op, E.i i.d, E.i i.s, E.i i.ix, E.i i.sc, E.u i.imm, E.i i.sz], .agg #[E.i k, E.u t]])] (A.X w oo aa [M.It m V xs]) [(β, [E.i 0, E.u 0]), (g3, [E.i 0, E.u 0]), (g2, (Q.S.cells Q.z0)), (g1, (Q.S.cells s))] := by
  intro β
  exact up _ _ _ _ _ (E.tk 6 (.tuple #[.agg #[E.i i.op, E.i i.d, E.i i.s, E.i i.ix, E.i i.sc, E.u i.imm, E.i i.sz], .agg #[E.i k, E.u t]]) rfl (fun w h => A.hq [1, 2, 3] [0, 4] h) (E.tk 7 (.agg #[E.i i.op, E.i i.d, E.i i.s, E.i i.ix, E.i i.sc, E.u i.imm, E.i i.sz]) rfl (fun w h => A.hq [1, 2, 3] [0, 4] h) (E.tk 8 (.agg #[E.i k, E.u t]) rfl (fun w h => A.hq [1, 2, 3] [0, 4] h) (E.al 9 rfl (E.G.new (fun g => E.pt g) [E.i 0, E.i 0, E.i 0, E.i 0, E.i 0, E.u 0, E.i 0] 66 (fun w => by kernel_rfl) (by kernel_rfl) (fun α => E.H.back (fun w h => A.hq [2, 3, 4] [0, 1, 5] h) (E.ho (dn _ _ _ _ _ (nd2 α β)))))))))
 have nd10 : ∀ (β : Nat), H 7 (E.bits 13 1055) [(1, .iface 35 (E.pt m)), (2, E.pt g1), (4, E.pt g2), (5, E.pt g3), (7, E.pt β), (12, E.u s.pc), (15, .func (.method "Fetch") #[.iface 35 (E.pt m)] #[])] (A.X w oo aa [M.It m V xs]) [(β, [E.i 0, E.u 0]), (g3, [E.i 0, E.u 0]), (g2, (Q.S.cells Q.z0)), (g1, (Q.S.cells s))] := by
  intro β
  refine up _ _ _ _ _ (E.al2 5 9 rfl rfl ?_ ?_)
  ·
   exact E.G.call (.tuple #[.agg #[E.i i.op, E.i i.d, E.i i.s, E.i i.ix, E.i i.sc, E.u i.imm, E.i i.sz], .agg #[E.i k, E.u t]]) (fun w h => A.cq [4] [0, 1, 2, 3] (A.rdAs (v' := .tuple #[.agg #[E.i i.op, E.i i.d, E.i i.s, E.i i.ix, E.i i.sc, E.u i.imm, E.i i.sz], .agg #[E.i k, E.u t]]) (Fetch_rd (m := m) (xs := xs) V s.pc hs.pc) (by rw [hf] <;> rfl)) h) (fun w _ => by kernel_rfl) (by kernel_rfl) (E.H.back (fun w h => A.hq [1, 2, 3] [0, 4] h) (E.ho (dn _ _ _ _ _ (nd11 β))))
  exact E.G.new (fun g => E.pt g) [E.i 0, E.i 0, E.i 0, E.i 0, E.i 0, E.u 0, E.i 0] 66 (fun w => by kernel_rfl) (by kernel_rfl) (fun α => E.H.back (fun w h => A.hq [2, 3, 4] [0, 1, 5] h) (E.ho (dn _ _ _ _ _ (nd8 α β))))
 refine up _ _ _ _ _ (E.tk 0 (E.pt g1) rfl (fun w h => A.hpY0 h (by kernel_rfl)) (E.tj 1 (E.u s.pc) rfl (fun w h => A.hpY0 h (by kernel_rfl)) (fun w h => A.Y.bld h (k := 2) (j := 0) rfl (by kernel_rfl) (by kernel_rfl)) (E.tk 2 (.iface 35 (E.pt m)) rfl (fun w h => A.hpY0 h (by kernel_rfl)) (E.tk 3 (.iface 35 (E.pt m)) rfl (fun w h => A.hpY0 h (by kernel_rfl)) (E.tk 4 (.func (.method "Fetch") #[.iface 35 (E.pt m)] #[]) rfl (fun w h => A.hpY0 h (by kernel_rfl)) (E.al3 5 9 10 rfl rfl rfl ?_ ?_ ?_))))))
 ·
  exact E.G.call (.tuple #[.agg #[E.i i.op, E.i i.d, E.i i.s, E.i i.ix, E.i i.sc, E.u i.imm, E.i i.sz], .agg #[E.i k, E.u t]]) (fun w h => A.cq [3] [0, 1, 2] (A.rdAs (v' := .tuple #[.agg #[E.i i.op, E.i i.d, E.i i.s, E.i i.ix, E.i i.sc, E.u i.imm, E.i i.sz], .agg #[E.i k, E.u t]]) (Fetch_rd (m := m) (xs := xs) V s.pc hs.pc) (by rw [hf] <;> rfl)) h) (fun w _ => by kernel_rfl) (by kernel_rfl) (E.hb (dn _ _ _ _ _ (nd0)))
 ·
  exact E.G.new (fun g => E.pt g) [E.i 0, E.i 0, E.i 0, E.i 0, E.i 0, E.u 0, E.i 0] 66 (fun w => by kernel_rfl) (by kernel_rfl) (fun α => E.H.back (fun w h => A.hq [1, 2, 3] [0, 4] h) (E.ho (dn _ _ _ _ _ (nd6 α))))
 exact E.G.new (fun g => E.pt g) [E.i 0, E.u 0] 47 (fun w => by kernel_rfl) (by kernel_rfl) (fun β => E.H.back (fun w h => A.hq [1, 2, 3] [0, 4] h) (E.ho (dn _ _ _ _ _ (nd10 β))))
theorem K.valid_ok {i : K.Ins} (hm : 0 ≤ i.imm ∧ i.imm < 4294967296) (h : K.valid i = true) : K.iok i := by
  have hr : K.rng i = true := by
    unfold K.valid at h
    split at h
    · exact Bool.noConfusion (show false = true from h)
    · unfold K.valid1 at h
      cases hq : K.rng i
      · rw [hq] at h; simp at h
      · rfl
  unfold K.rng at hr
  simp only [K.in_one, Bool.and_eq_true, decide_eq_true_eq] at hr
  obtain ⟨⟨a0, a1⟩, ⟨b0, b1⟩, ⟨c0, c1⟩, d0, d1⟩ := hr
  have hmo : K.most i.op ≤ 7 := by unfold K.most; split <;> (try split) <;> omega
  refine ⟨⟨a0, by omega⟩, ⟨b0, by omega⟩, ⟨c0, by omega⟩, ⟨d0, by omega⟩, hm, fun hg => ?_⟩
  have e : i.op = 129 := by simpa using hg
  rw [e] at b1
  have : K.most 129 = 3 := rfl
  omega
theorem K.decode_ok {s : ByteArray} (h : ((K.decode s).2 != 0) = false) : K.iok (K.decode s).1 := by
  unfold K.decode at h ⊢
  split at h
  · unfold K.decode0 at h
    cases hb : (s.toList == (⟨#[]⟩ : ByteArray).toList) <;> rw [hb] at h <;> cases h
  · next k hk =>
    show K.iok (K.decode1 k s).1
    unfold K.decode1 at h ⊢
    revert h
    refine Q.bifP (p := fun x : K.Ins × Int => (x.2 != 0) = false → K.iok x.1) (fun _ h => nomatch h) fun _ => ?_
    refine Q.bifP (p := fun x : K.Ins × Int => (x.2 != 0) = false → K.iok x.1) (fun _ h => nomatch h) fun _ => ?_
    refine Q.bifP (p := fun x : K.Ins × Int => (x.2 != 0) = false → K.iok x.1) (fun _ h => nomatch h) fun hv _ => ?_
    exact K.valid_ok (K.rd_imm k (K.fmt_lt hk) _ _) (by rw [Bool.not_eq_false'] at hv; exact hv)
theorem K.fetch_ok {V : M.V} {p : Int} (h : ((K.fetch V p).2.1 == 0) = true) : K.iok (K.fetch V p).1 := by
  unfold K.fetch at h ⊢
  revert h
  repeat' (first
    | (exact fun h => absurd h (by decide : ¬ (((5 : Int) == 0) = true)))
    | (exact fun h => absurd h (by decide : ¬ (((7 : Int) == 0) = true)))
    | (refine Q.bifP (p := fun x : K.Ins × Int × Int => (x.2.1 == 0) = true → K.iok x.1) (fun _ h => absurd h (by decide : ¬ (((7 : Int) == 0) = true))) (fun hd _ => K.decode_ok hd))
    | (refine Q.bifP (p := fun x : K.Ins × Int × Int => (x.2.1 == 0) = true → K.iok x.1) (fun _ => ?_) (fun _ => ?_)))
theorem Q.wf_sto {V : M.V} (h : R.Wf V) (a : Nat) (n v : Int) : R.Wf (V.sto a n v) := by
  unfold M.V.sto; split
  · exact h.put _ _ _
  · exact h
abbrev K.wf2 (y : K.W × M.V) : Prop := K.wf y.1 ∧ R.Wf y.2
section
variable {x : K.W} {V : M.V} (hx : K.wf x) (hV : R.Wf V)
theorem K.wf.pc (hx : K.wf x) {p : Int} (hp : 0 ≤ p ∧ p < 4294967296) {f st du k t : Int} {i : K.Ins} : K.wf ⟨x.u, ⟨p, x.s.r, f, x.s.c, st, du⟩, i, k, t⟩ := ⟨hx.u, ⟨hp, hx.s.r, hx.s.c⟩⟩
theorem K.wf.up (hx : K.wf x) {D : Nat} {v : Int} (hv : 0 ≤ v ∧ v < 4294967296) {f st du k t : Int} {i : K.Ins} : K.wf ⟨x.u, ⟨x.s.pc, Q.up x.s.r D v, f, x.s.c, st, du⟩, i, k, t⟩ := ⟨hx.u, ⟨hx.s.pc, Q.up_bd hx.s.r hv, hx.s.c⟩⟩
theorem K.wf.uc (hx : K.wf x) {D : Nat} {v : Int} (hv : 0 ≤ v ∧ v < 4294967296) {f st du k t : Int} {i : K.Ins} : K.wf ⟨x.u, ⟨x.s.pc, x.s.r, f, Q.up x.s.c D v, st, du⟩, i, k, t⟩ := ⟨hx.u, ⟨hx.s.pc, hx.s.r, Q.up_bd hx.s.c hv⟩⟩
theorem K.wf.any (hx : K.wf x) {f st du k t : Int} {i : K.Ins} : K.wf ⟨x.u, ⟨x.s.pc, x.s.r, f, x.s.c, st, du⟩, i, k, t⟩ := ⟨hx.u, ⟨hx.s.pc, hx.s.r, hx.s.c⟩⟩
theorem K.wf.fl (hx : K.wf x) (k p q : Int) : K.wf (K.flags x k p q) := ⟨hx.u, ⟨hx.s.pc, hx.s.r, hx.s.c⟩⟩
include hx hV
theorem K.put_wf (a n v : Int) : K.wf2 (K.put x V a n v) := Q.bifP (p := K.wf2) (fun _ => ⟨⟨hx.u, hx.s⟩, Q.wf_sto hV _ _ _⟩) (fun _ => ⟨hx, Q.wf_sto hV _ _ _⟩)
theorem K.ga1_wf (a n D : Int) : K.wf2 (K.ga1 x V a n D) := Q.bifP (p := K.wf2) (fun _ => ⟨⟨hx.u, hx.s⟩, hV⟩) (fun _ => ⟨hx.up (M.load_bd hV _ _), hV⟩)
theorem K.ga2_wf (a n D : Int) : K.wf2 (K.ga2 x V a n D) := Q.bifP (p := K.wf2) (fun _ => ⟨⟨hx.u, hx.s⟩, hV⟩) (fun _ => ⟨hx.up (M.load_bd hV _ _), hV⟩)
theorem K.gs1_wf (a n D : Int) : K.wf2 (K.gs1 x V a n D) := Q.bifP (p := K.wf2) (fun _ => ⟨⟨hx.u, hx.s⟩, hV⟩) (fun _ => ⟨hx.up (M.load_bd hV _ _), hV⟩)
theorem K.gc1_wf (a n : Int) : K.wf2 (K.gc1 x V a n) := Q.bifP (p := K.wf2) (fun _ => ⟨⟨hx.u, hx.s⟩, hV⟩) (fun _ => ⟨hx.pc (M.load_bd hV _ _), hV⟩)
theorem K.ga3_wf (a n D p : Int) : K.wf2 (K.ga3 x V a n D p) := Q.bifP (p := K.wf2) (fun _ => ⟨⟨hx.u, hx.s⟩, hV⟩) (fun _ => ⟨hx.up (Q.wrap_bd _), hV⟩)
theorem K.ga4_wf (a n p : Int) : K.wf2 (K.ga4 x V a n p) := Q.bifP (p := K.wf2) (fun _ => ⟨⟨hx.u, hx.s⟩, hV⟩) (fun _ => K.put_wf (hx.fl _ _ _) hV _ _ _)
theorem K.push_wf (v : Int) : K.wf2 (K.push x V v) := K.put_wf (hx.up (Q.wrap_bd _)) hV _ _ _
theorem K.ps1_wf (D : Int) : K.wf2 (K.ps1 x V D) := K.gs1_wf (hx.up (Q.wrap_bd _)) hV _ _ _
theorem K.pc1_wf : K.wf2 (K.pc1 x V) := K.gc1_wf (hx.up (Q.wrap_bd _)) hV _ _
theorem K.single_wf : K.wf2 (K.single x V) := by
  unfold K.single
  refine Q.bifP (p := K.wf2) (fun _ => K.push_wf hx hV _) fun _ => ?_
  refine Q.bifP (p := K.wf2) (fun _ => K.ps1_wf hx hV _) fun _ => ?_
  refine Q.bifP (p := K.wf2) (fun _ => ⟨hx.up (Q.wrap_bd _), hV⟩) fun _ => ?_
  refine Q.bifP (p := K.wf2) (fun _ => ⟨hx.up (W.bits_bd _ _ _), hV⟩) fun _ => ?_
  refine Q.bifP (p := K.wf2) (fun _ => ⟨(K.push_wf hx hV _).1.pc (hx.s.r _), (K.push_wf hx hV _).2⟩) fun _ => ?_
  exact Q.bifP (p := K.wf2) (fun _ => ⟨hx.pc (hx.s.r _), hV⟩) fun _ => ⟨hx, hV⟩
theorem K.control_wf (hi : K.iok x.i) : K.wf2 (K.control x V) := by
  unfold K.control
  refine Q.bifP (p := K.wf2) (fun _ => K.pc1_wf hx hV) fun _ => ?_
  refine Q.bifP (p := K.wf2) (fun _ => ⟨hx.any, hV⟩) fun _ => ?_
  refine Q.bifP (p := K.wf2) (fun _ => ⟨hx.any, hV⟩) fun _ => ?_
  refine Q.bifP (p := K.wf2) (fun _ => ⟨hx.pc (hx.s.c _), hV⟩) fun _ => ?_
  refine Q.bifP (p := K.wf2) (fun _ => ⟨(K.push_wf hx hV _).1.pc (Q.wrap_bd _), (K.push_wf hx hV _).2⟩) fun _ => ?_
  refine Q.bifP (p := K.wf2) (fun _ => ⟨hx.pc (Q.wrap_bd _), hV⟩) fun _ => ?_
  refine Q.bifP (p := K.wf2) (fun _ => ⟨hx.any, hV⟩) fun _ => ?_
  refine Q.bifP (p := K.wf2) (fun _ => ⟨hx.up (hx.s.c _), hV⟩) fun _ => ?_
  refine Q.bifP (p := K.wf2) (fun _ => ?_) fun _ => ⟨hx, hV⟩
  refine Q.bifP (p := K.wf2) (fun _ => ⟨hx.uc (hx.s.r _), hV⟩) fun _ => ?_
  refine Q.bifP (p := K.wf2) (fun _ => ⟨hx.uc (hx.s.r _), hV⟩) fun _ => ?_
  refine Q.bifP (p := K.wf2) (fun _ => ?_) fun _ => ⟨hx, hV⟩
  exact Q.bifP (p := K.wf2) (fun _ => ⟨hx.any, hV⟩) fun _ => ⟨hx.any, hV⟩
theorem K.access_wf (o : Int) : K.wf2 (K.access x V o) := by
  unfold K.access
  refine Q.bifP (p := K.wf2) (fun _ => K.ga1_wf hx hV _ _ _) fun _ => ?_
  refine Q.bifP (p := K.wf2) (fun _ => K.ga2_wf hx hV _ _ _) fun _ => ?_
  refine Q.bifP (p := K.wf2) (fun _ => K.put_wf hx hV _ _ _) fun _ => ?_
  refine Q.bifP (p := K.wf2) (fun _ => K.put_wf hx hV _ _ _) fun _ => ?_
  refine Q.bifP (p := K.wf2) (fun _ => ⟨hx.up (Q.bif_bd (Q.wrap_bd _) (Q.wrap_bd _)), hV⟩) fun _ => ?_
  refine Q.bifP (p := K.wf2) (fun _ => K.ga3_wf hx hV _ _ _ _) fun _ => ?_
  exact Q.bifP (p := K.wf2) (fun _ => K.ga4_wf hx hV _ _ _) fun _ => ⟨hx, hV⟩
omit hV hx in
theorem K.res_v {o a b q : Int} (ha : 0 ≤ a ∧ a < 4294967296) (hb : 0 ≤ b ∧ b < 4294967296) : 0 ≤ (K.res o a b q).v ∧ (K.res o a b q).v < 4294967296 := by
  let p : K.R → Prop := fun r => 0 ≤ r.v ∧ r.v < 4294967296
  have it : ∀ {c : Prop} [Decidable c] {x y : K.R}, p x → p y → p (if c then x else y) := fun hx hy => by split <;> assumption
  show p (K.res o a b q)
  unfold K.res
  exact it hb (it (Q.wrap_bd _) (it (Q.wrap_bd _) (it (Q.wrap_bd _) (it (Q.wrap_bd _) (it ha (it ha (W.op_bd _ _ _ ha.1 ha.2 hb.1)))))))
omit hV in
theorem K.arith_wf {o b : Int} (hb : 0 ≤ b ∧ b < 4294967296) : K.wf (K.arith x o b) := by
  unfold K.arith
  refine Q.bifP (p := K.wf) (fun _ => ⟨hx.u, hx.s⟩) fun _ => ?_
  refine Q.bifP (p := K.wf) (fun _ => ?_) fun _ => ?_
  · exact Q.bifP (p := K.wf) (fun _ => (hx.up (K.res_v (hx.s.r _) hb)).fl _ _ _) fun _ => hx.up (K.res_v (hx.s.r _) hb)
  · exact Q.bifP (p := K.wf) (fun _ => hx.fl _ _ _) fun _ => hx
end
theorem K.stepI_wf {i : K.Ins} {k t : Int} {s : Q.S} {V : M.V} (hi : (k == 0) = true → K.iok i) (hs : Q.wf s) (hV : R.Wf V) : Q.wf (K.stepI i k t s V).1 ∧ R.Wf (K.stepI i k t s V).2.2.2 := by
  let p : Q.S × Int × Int × M.V → Prop := fun x => Q.wf x.1 ∧ R.Wf x.2.2.2
  show p (K.stepI i k t s V)
  unfold K.stepI
  have hx : K.wf (K.w0 s i) := K.w0_wf hs
  refine Q.bifP (p := p) (fun _ => ⟨hs, hV⟩) fun hk => ?_
  have hI := hi (K.eq0 hk)
  have hA := fun o b (hb : 0 ≤ b ∧ b < 4294967296) => (K.arith_wf (o := o) hx hb).s
  have hb2 : ∀ {c : Bool} {y : K.W × M.V}, K.wf2 y → p (bif c then (s, y.1.k, y.1.t, y.2) else (y.1.s, y.1.k, y.1.t, y.2)) := fun h => Q.bifP (p := p) (fun _ => ⟨hs, h.2⟩) fun _ => ⟨h.1.s, h.2⟩
  refine Q.bifP (p := p) (fun _ => Q.bifP (p := p) (fun _ => ⟨hs, hV⟩) fun _ => ⟨hA _ _ (hs.r _), hV⟩) fun _ => ?_
  refine Q.bifP (p := p) (fun _ => Q.bifP (p := p) (fun _ => ⟨hs, hV⟩) fun _ => ⟨hA _ _ hI.imm, hV⟩) fun _ => ?_
  refine Q.bifP (p := p) (fun _ => Q.bifP (p := p) (fun _ => ⟨hs, hV⟩) fun _ => ⟨hA _ _ hI.imm, hV⟩) fun _ => ?_
  refine Q.bifP (p := p) (fun _ => hb2 (K.access_wf hx hV _)) fun _ => ?_
  refine Q.bifP (p := p) (fun _ => hb2 (K.access_wf hx hV _)) fun _ => ?_
  refine Q.bifP (p := p) (fun _ => hb2 (K.single_wf hx hV)) fun _ => ?_
  refine Q.bifP (p := p) (fun _ => ?_) fun _ => hb2 (K.control_wf hx hV hI)
  refine Q.bifP (p := p) (fun _ => Q.bifP (p := p) (fun _ => ⟨hs, hV⟩) fun _ => ⟨⟨Q.wrap_bd _, hx.s.r, hx.s.c⟩, hV⟩) fun _ => ?_
  exact Q.bifP (p := p) (fun _ => ⟨hs, hV⟩) fun _ => ⟨hx.s, hV⟩
/-- One step: the state behind it, the trap, the memory. -/
def K.step (s : Q.S) (V : M.V) : Q.S × Int × Int × M.V := K.stepI (K.fetch V s.pc).1 (K.fetch V s.pc).2.1 (K.fetch V s.pc).2.2 s V
theorem K.step_wf {s : Q.S} {V : M.V} (hs : Q.wf s) (hV : R.Wf V) : Q.wf (K.step s V).1 ∧ R.Wf (K.step s V).2.2.2 := K.stepI_wf K.fetch_ok hs hV
/-- A run: at n instructions of most, with fuel. -/
def K.run (most : Int) : Nat → Nat → Q.S → M.V → Q.S × Int × Int × M.V
  | 0, _, s, V => (s, 1, 0, V)
  | f + 1, n, s, V => bif (decide (s.du > 0) && decide (s.st ≥ s.du)) then (s, 8, 0, V) else bif (decide (((n : Nat) : Int) ≥ most)) then (s, 1, 0, V) else
    bif ((K.step s V).2.1 != 0) then (s, (K.step s V).2.1, (K.step s V).2.2.1, (K.step s V).2.2.2) else K.run most f (n + 1) (K.step s V).1 (K.step s V).2.2.2
/-- All of a run. -/
def K.runs (most : Int) (s : Q.S) (V : M.V) : Q.S × Int × Int × M.V := K.run most (most.toNat + 1) 0 s V
theorem Step_any {m : Nat} {xs : List Value} (s : Q.S) (V : M.V) (hs : Q.wf s) (hV : R.Wf V) : A.Tr Tryz.prog 20 #[Q.S.val s, .iface 35 (.pointer (some ⟨m, 0, none⟩))] [M.It m V xs] (I := Unit) (fun _ => True) (fun _ => .tuple #[Q.S.val ((K.step s V).1), .agg #[.int .i64 ((K.step s V).2.1), .int .u32 ((K.step s V).2.2.1)]]) (fun _ => [M.It m (K.step s V).2.2.2 xs]) := Step_i _ _ _ s V rfl K.fetch_ok hs hV
section
variable {most : Int} {F n : Nat} {s : Q.S} {V : M.V}
theorem K.run_f (h : n < F) : ∃ f, F - n = f + 1 ∧ F - (n + 1) = f := ⟨F - (n + 1), by omega, rfl⟩
theorem K.run_t (h : n < F) (h1 : (decide (s.du > 0) && decide (s.st ≥ s.du)) = true) : K.run most (F - n) n s V = (s, 8, 0, V) := by
  obtain ⟨f, e, _⟩ := K.run_f h
  rw [e, K.run, h1]; rfl
theorem K.run_b (h : n < F) (h1 : (decide (s.du > 0) && decide (s.st ≥ s.du)) = false) (h2 : decide (((n : Nat) : Int) ≥ most) = true) : K.run most (F - n) n s V = (s, 1, 0, V) := by
  obtain ⟨f, e, _⟩ := K.run_f h
  rw [e, K.run, h1, h2]; rfl
theorem K.run_s (h : n < F) (h1 : (decide (s.du > 0) && decide (s.st ≥ s.du)) = false) (h2 : decide (((n : Nat) : Int) ≥ most) = false) (h3 : ((K.step s V).2.1 != 0) = true) : K.run most (F - n) n s V = (s, (K.step s V).2.1, (K.step s V).2.2.1, (K.step s V).2.2.2) := by
  obtain ⟨f, e, _⟩ := K.run_f h
  rw [e, K.run, h1, h2, h3]; rfl
theorem K.run_n (h : n < F) (h1 : (decide (s.du > 0) && decide (s.st ≥ s.du)) = false) (h2 : decide (((n : Nat) : Int) ≥ most) = false) (h3 : ((K.step s V).2.1 != 0) = false) : K.run most (F - n) n s V = K.run most (F - (n + 1)) (n + 1) (K.step s V).1 (K.step s V).2.2.2 := by
  obtain ⟨f, e, e2⟩ := K.run_f h
  rw [e2, e, K.run, h1, h2, h3]; rfl
theorem K.run_lt (hm : most < 9223372036854775808) (h2 : decide (((n : Nat) : Int) ≥ most) = false) : n + 1 < most.toNat + 1 ∧ IntKind.wrap .i64 (((n : Nat) : Int) + 1) = ((n + 1 : Nat) : Int) := by
  have := of_decide_eq_false h2
  rw [IntKind.wrap_i64]
  omega
end
theorem CNew (n : Int) : A.Tr Tryz.prog 23 #[.int .i64 n] [] (I := Nat × Nat) (fun _ => True) (fun i => .pointer (some ⟨i.1, 0, none⟩)) (fun i => [A.blk i.1 (.pointer (some ⟨i.2, 0, none⟩) :: Q.S.cells Q.z0), M.It i.2 (M.V.new (M.np n) true) []]) := by
 intro w oo aa hh
 exact E.enter (n := 7) (S := oo) Tryz.func23 rfl rfl (by kernel_rfl) (A.start (L := []) hh) (E.sr (E.op (.pointer none) (E.tr (E.op (E.i n) (A.G.call (I := Nat) (D := fun m1 => True) (V := fun m1 => E.pt m1) (q := fun m1 => [M.It m1 (M.V.new (M.np n) true) ([])]) [] (fun m1 => []) (fun m1 => [M.It m1 (M.V.new (M.np n) true) ([])]) (A_New n true) (by kernel_rfl) (A.pn []) (fun m1 => A.pm [0] (by kernel_rfl) (by kernel_rfl)) (fun w _ => by kernel_rfl) (by kernel_rfl) (fun m1 hd2 => E.vl (.agg #[E.pt m1, E.u 0, E.u 0, E.u 0, E.u 0, E.u 0, E.u 0, E.u 0, E.u 0, E.u 0, E.u 0, E.u 0, E.u 0, E.u 0, E.u 0, E.u 0, E.u 0, E.u 0, E.u 0, E.u 0, E.u 0, E.u 0, E.u 0, E.i 0, E.i 0]) (fun w h => E.run_build #[E.pt m1, E.u 0, E.u 0, E.u 0, E.u 0, E.u 0, E.u 0, E.u 0, E.u 0, E.u 0, E.u 0, E.u 0, E.u 0, E.u 0, E.u 0, E.u 0, E.u 0, E.u 0, E.u 0, E.u 0, E.u 0, E.u 0, E.u 0, E.i 0, E.i 0] (by kernel_rfl) w) (E.G.new (fun g => E.pt g) (E.pt m1 :: Q.S.cells Q.z0) 129 (fun w => by kernel_rfl) (by kernel_rfl) (fun c3 => E.op (E.pt c3) (E.To.code (E.C.ret (E.bd Tryz.f23 [E.pt c3] (fun w h => ⟨(c3, m1), trivial, rfl, A.dq [0, 1] [] h⟩))))))))))))
theorem CState {c m : Nat} (s : Q.S) : A.Rd Tryz.prog 27 #[.pointer (some ⟨c, 0, none⟩)] [A.blk c (.pointer (some ⟨m, 0, none⟩) :: Q.S.cells s)] (Q.S.val s) := by
 intro w oo aa hh
 refine E.enter (n := 10) (S := fun _ => False) Tryz.func27 rfl rfl (by kernel_rfl) (A.startY hh) (E.sr (E.G.new (fun g => E.pt g) (Q.S.cells Q.z0) 26 (fun w => by kernel_rfl) (by kernel_rfl) (fun g1 => E.To.code (E.C.seq (E.sr (E.op (E.pt c) (E.op (.bool false) (E.To.code (E.C.condF (by kernel_rfl) (by kernel_rfl) (E.C.skip (E.To.code (E.sr ?_))))))))))))
 refine E.op (E.pt c) (E.op (E.pt c) (E.op (.pointer (some ⟨c, 1, none⟩)) (E.vl (Q.S.val s) (fun w h => A.Y.bld h.x (k := 0) (j := 1) rfl (by kernel_rfl) (by kernel_rfl)) (E.st 0 (Q.S.cells s) rfl rfl (E.To.code (E.C.ret (E.To.body (fn := Tryz.f27) [Q.S.val s] ?_ ?_)))))))
 · exact ⟨⟨by kernel_rfl, _, _, 0, _, rfl, rfl, by kernel_rfl⟩, trivial⟩
 intro w h
 exact ⟨rfl, h.ch.bel (fun _ h => h.elim)⟩
theorem CMem {c m : Nat} {s : Q.S} : A.Rd Tryz.prog 65 #[.pointer (some ⟨c, 0, none⟩)] [A.blk c (.pointer (some ⟨m, 0, none⟩) :: Q.S.cells s)] (.pointer (some ⟨m, 0, none⟩)) := by
 intro w oo aa hh
 refine E.enter (n := 9) (S := fun _ => False) Tryz.func65 rfl rfl (by kernel_rfl) (A.startY hh) (E.sr (E.op (.pointer none) (E.To.code (E.C.seq (E.sr (E.op (E.pt c) (E.op (.bool false) (E.To.code (E.C.condF (by kernel_rfl) (by kernel_rfl) (E.C.skip (E.To.code (E.sr ?_))))))))))))
 exact E.op (E.pt c) (E.op (E.pt c) (E.op (E.pt c) (E.vl (E.pt m) (fun w h => A.Y.bld h.x (k := 0) (j := 0) rfl (by kernel_rfl) (by kernel_rfl)) (E.op (E.pt m) (E.To.code (E.C.ret (E.bd Tryz.f65 [E.pt m] (fun w h => ⟨rfl, h.ch.bel (fun _ h => h.elim)⟩))))))))
def K.norm (s : Q.S) : Q.S := ⟨s.pc, (Q.up (Q.up (Q.up (Q.up (Q.up (Q.up (Q.up (Q.up s.r 8 0) 9 0) 10 0) 11 0) 12 0) 13 0) 14 0) 15 0), (bits .and .u32 s.f 15), s.c, (if 0 > s.st then 0 else s.st), (if 0 > s.du then 0 else s.du)⟩
theorem CSet {c m : Nat} {s0 : Q.S} (s : Q.S)  : A.Tr Tryz.prog 25 #[.pointer (some ⟨c, 0, none⟩), Q.S.val s] [A.blk c (.pointer (some ⟨m, 0, none⟩) :: Q.S.cells s0)] (I := Unit) (fun _ => True) (fun _ => .tuple #[]) (fun _ => [A.blk c (.pointer (some ⟨m, 0, none⟩) :: Q.S.cells (K.norm s))]) := by
 intro w oo aa hh
 refine E.enter (n := 30) (S := oo) Tryz.func25 rfl rfl (by kernel_rfl) (A.start (L := [(c, (E.pt m :: Q.S.cells s0))]) hh) (E.sr (E.G.new (fun g => E.pt g) (Q.S.cells s) 26 (fun w => by kernel_rfl) (by kernel_rfl) (fun g1 => E.To.code (E.C.seq (E.sr (E.op (E.pt c) (E.op (.bool false) (E.To.code (E.C.condF (by kernel_rfl) (by kernel_rfl) (E.C.skip (E.To.code (E.C.seq ?_))))))))))))
 refine E.sr (E.op (E.i 8) (E.To.code (E.C.block (E.C.rounds 9 (E.C.seq (E.sr (E.op (E.i 8) (E.op (.bool true) (E.To.code (E.C.condT (by kernel_rfl) (by kernel_rfl) (E.C.skip (E.To.code ?_))))))))))))
 refine E.C.seq (E.C.block (E.C.region (E.op (E.i 8) (E.op (.pointer (some ⟨g1, 1, none⟩)) (E.op (.pointer (some ⟨g1, 9, none⟩)) (E.st 0 (Q.S.cells (⟨s.pc, (Q.up s.r 8 0), s.f, s.c, s.st, s.du⟩)) rfl rfl (E.P.nb (E.To.code (E.C.region (E.op (E.i 8) (E.op (E.i 9) (E.op (E.i 9) ?_))))))))))))
 refine E.To.rounds 8 (E.wk [(0, E.pt c), (3, E.pt g1), (4, E.i 9), (7, E.i 8), (8, .bool true), (9, E.i 8), (10, E.i 9), (11, E.i 8), (12, .pointer (some ⟨g1, 1, none⟩)), (13, .pointer (some ⟨g1, 9, none⟩))] [(g1, (Q.S.cells (⟨s.pc, (Q.up s.r 8 0), s.f, s.c, s.st, s.du⟩))), (c, (E.pt m :: Q.S.cells s0))] Nz.sub (E.C.seq (E.sr (E.op (E.i 9) (E.op (.bool true) (E.To.code (E.C.condT (by kernel_rfl) (by kernel_rfl) (E.C.skip (E.To.code (E.C.seq (E.C.block (E.C.region ?_))))))))))))
 refine E.op (E.i 9) (E.op (.pointer (some ⟨g1, 1, none⟩)) (E.op (.pointer (some ⟨g1, 10, none⟩)) (E.st 0 (Q.S.cells (⟨s.pc, (Q.up (Q.up s.r 8 0) 9 0), s.f, s.c, s.st, s.du⟩)) rfl rfl (E.P.nb (E.To.code (E.C.region (E.op (E.i 9) (E.op (E.i 10) (E.op (E.i 10) (E.To.rounds 7 (E.wk [(0, E.pt c), (3, E.pt g1), (4, E.i 10), (7, E.i 9), (8, .bool true), (9, E.i 9), (10, E.i 10), (11, E.i 9), (12, .pointer (some ⟨g1, 1, none⟩)), (13, .pointer (some ⟨g1, 10, none⟩))] [(g1, (Q.S.cells (⟨s.pc, (Q.up (Q.up s.r 8 0) 9 0), s.f, s.c, s.st, s.du⟩))), (c, (E.pt m :: Q.S.cells s0))] Nz.sub (E.C.seq ?_))))))))))))
 refine E.sr (E.op (E.i 10) (E.op (.bool true) (E.To.code (E.C.condT (by kernel_rfl) (by kernel_rfl) (E.C.skip (E.To.code (E.C.seq (E.C.block (E.C.region (E.op (E.i 10) (E.op (.pointer (some ⟨g1, 1, none⟩)) (E.op (.pointer (some ⟨g1, 11, none⟩)) ?_))))))))))))
 refine E.st 0 (Q.S.cells (⟨s.pc, (Q.up (Q.up (Q.up s.r 8 0) 9 0) 10 0), s.f, s.c, s.st, s.du⟩)) rfl rfl (E.P.nb (E.To.code (E.C.region (E.op (E.i 10) (E.op (E.i 11) (E.op (E.i 11) (E.To.rounds 6 (E.wk [(0, E.pt c), (3, E.pt g1), (4, E.i 11), (7, E.i 10), (8, .bool true), (9, E.i 10), (10, E.i 11), (11, E.i 10), (12, .pointer (some ⟨g1, 1, none⟩)), (13, .pointer (some ⟨g1, 11, none⟩))] [(g1, (Q.S.cells (⟨s.pc, (Q.up (Q.up (Q.up s.r 8 0) 9 0) 10 0), s.f, s.c, s.st, s.du⟩))), (c, (E.pt m :: Q.S.cells s0))] Nz.sub (E.C.seq (E.sr (E.op (E.i 11) (E.op (.bool true) ?_))))))))))))
 refine E.To.code (E.C.condT (by kernel_rfl) (by kernel_rfl) (E.C.skip (E.To.code (E.C.seq (E.C.block (E.C.region (E.op (E.i 11) (E.op (.pointer (some ⟨g1, 1, none⟩)) (E.op (.pointer (some ⟨g1, 12, none⟩)) (E.st 0 (Q.S.cells (⟨s.pc, (Q.up (Q.up (Q.up (Q.up s.r 8 0) 9 0) 10 0) 11 0), s.f, s.c, s.st, s.du⟩)) rfl rfl (E.P.nb (E.To.code (E.C.region ?_)))))))))))))
 refine E.op (E.i 11) (E.op (E.i 12) (E.op (E.i 12) (E.To.rounds 5 (E.wk [(0, E.pt c), (3, E.pt g1), (4, E.i 12), (7, E.i 11), (8, .bool true), (9, E.i 11), (10, E.i 12), (11, E.i 11), (12, .pointer (some ⟨g1, 1, none⟩)), (13, .pointer (some ⟨g1, 12, none⟩))] [(g1, (Q.S.cells (⟨s.pc, (Q.up (Q.up (Q.up (Q.up s.r 8 0) 9 0) 10 0) 11 0), s.f, s.c, s.st, s.du⟩))), (c, (E.pt m :: Q.S.cells s0))] Nz.sub (E.C.seq (E.sr (E.op (E.i 12) (E.op (.bool true) (E.To.code (E.C.condT (by kernel_rfl) (by kernel_rfl) (E.C.skip (E.To.code ?_))))))))))))
 refine E.C.seq (E.C.block (E.C.region (E.op (E.i 12) (E.op (.pointer (some ⟨g1, 1, none⟩)) (E.op (.pointer (some ⟨g1, 13, none⟩)) (E.st 0 (Q.S.cells (⟨s.pc, (Q.up (Q.up (Q.up (Q.up (Q.up s.r 8 0) 9 0) 10 0) 11 0) 12 0), s.f, s.c, s.st, s.du⟩)) rfl rfl (E.P.nb (E.To.code (E.C.region (E.op (E.i 12) (E.op (E.i 13) (E.op (E.i 13) ?_))))))))))))
 refine E.To.rounds 4 (E.wk [(0, E.pt c), (3, E.pt g1), (4, E.i 13), (7, E.i 12), (8, .bool true), (9, E.i 12), (10, E.i 13), (11, E.i 12), (12, .pointer (some ⟨g1, 1, none⟩)), (13, .pointer (some ⟨g1, 13, none⟩))] [(g1, (Q.S.cells (⟨s.pc, (Q.up (Q.up (Q.up (Q.up (Q.up s.r 8 0) 9 0) 10 0) 11 0) 12 0), s.f, s.c, s.st, s.du⟩))), (c, (E.pt m :: Q.S.cells s0))] Nz.sub (E.C.seq (E.sr (E.op (E.i 13) (E.op (.bool true) (E.To.code (E.C.condT (by kernel_rfl) (by kernel_rfl) (E.C.skip (E.To.code (E.C.seq (E.C.block (E.C.region ?_))))))))))))
 refine E.op (E.i 13) (E.op (.pointer (some ⟨g1, 1, none⟩)) (E.op (.pointer (some ⟨g1, 14, none⟩)) (E.st 0 (Q.S.cells (⟨s.pc, (Q.up (Q.up (Q.up (Q.up (Q.up (Q.up s.r 8 0) 9 0) 10 0) 11 0) 12 0) 13 0), s.f, s.c, s.st, s.du⟩)) rfl rfl (E.P.nb (E.To.code (E.C.region (E.op (E.i 13) (E.op (E.i 14) (E.op (E.i 14) (E.To.rounds 3 (E.wk [(0, E.pt c), (3, E.pt g1), (4, E.i 14), (7, E.i 13), (8, .bool true), (9, E.i 13), (10, E.i 14), (11, E.i 13), (12, .pointer (some ⟨g1, 1, none⟩)), (13, .pointer (some ⟨g1, 14, none⟩))] [(g1, (Q.S.cells (⟨s.pc, (Q.up (Q.up (Q.up (Q.up (Q.up (Q.up s.r 8 0) 9 0) 10 0) 11 0) 12 0) 13 0), s.f, s.c, s.st, s.du⟩))), (c, (E.pt m :: Q.S.cells s0))] Nz.sub (E.C.seq ?_))))))))))))
 refine E.sr (E.op (E.i 14) (E.op (.bool true) (E.To.code (E.C.condT (by kernel_rfl) (by kernel_rfl) (E.C.skip (E.To.code (E.C.seq (E.C.block (E.C.region (E.op (E.i 14) (E.op (.pointer (some ⟨g1, 1, none⟩)) (E.op (.pointer (some ⟨g1, 15, none⟩)) ?_))))))))))))
 refine E.st 0 (Q.S.cells (⟨s.pc, (Q.up (Q.up (Q.up (Q.up (Q.up (Q.up (Q.up s.r 8 0) 9 0) 10 0) 11 0) 12 0) 13 0) 14 0), s.f, s.c, s.st, s.du⟩)) rfl rfl (E.P.nb (E.To.code (E.C.region (E.op (E.i 14) (E.op (E.i 15) (E.op (E.i 15) (E.To.rounds 2 (E.wk [(0, E.pt c), (3, E.pt g1), (4, E.i 15), (7, E.i 14), (8, .bool true), (9, E.i 14), (10, E.i 15), (11, E.i 14), (12, .pointer (some ⟨g1, 1, none⟩)), (13, .pointer (some ⟨g1, 15, none⟩))] [(g1, (Q.S.cells (⟨s.pc, (Q.up (Q.up (Q.up (Q.up (Q.up (Q.up (Q.up s.r 8 0) 9 0) 10 0) 11 0) 12 0) 13 0) 14 0), s.f, s.c, s.st, s.du⟩))), (c, (E.pt m :: Q.S.cells s0))] Nz.sub (E.C.seq (E.sr (E.op (E.i 15) (E.op (.bool true) ?_))))))))))))
 refine E.To.code (E.C.condT (by kernel_rfl) (by kernel_rfl) (E.C.skip (E.To.code (E.C.seq (E.C.block (E.C.region (E.op (E.i 15) (E.op (.pointer (some ⟨g1, 1, none⟩)) (E.op (.pointer (some ⟨g1, 16, none⟩)) (E.st 0 (Q.S.cells (⟨s.pc, (Q.up (Q.up (Q.up (Q.up (Q.up (Q.up (Q.up (Q.up s.r 8 0) 9 0) 10 0) 11 0) 12 0) 13 0) 14 0) 15 0), s.f, s.c, s.st, s.du⟩)) rfl rfl (E.P.nb (E.To.code (E.C.region ?_)))))))))))))
 refine E.op (E.i 15) (E.op (E.i 16) (E.op (E.i 16) (E.To.rounds 1 (E.wk [(0, E.pt c), (3, E.pt g1), (4, E.i 16), (7, E.i 15), (8, .bool true), (9, E.i 15), (10, E.i 16), (11, E.i 15), (12, .pointer (some ⟨g1, 1, none⟩)), (13, .pointer (some ⟨g1, 16, none⟩))] [(g1, (Q.S.cells (⟨s.pc, (Q.up (Q.up (Q.up (Q.up (Q.up (Q.up (Q.up (Q.up s.r 8 0) 9 0) 10 0) 11 0) 12 0) 13 0) 14 0) 15 0), s.f, s.c, s.st, s.du⟩))), (c, (E.pt m :: Q.S.cells s0))] Nz.sub (E.C.seq (E.sr (E.op (E.i 16) (E.op (.bool false) (E.To.code (E.C.condF (by kernel_rfl) (by kernel_rfl) (E.C.exit (E.P.et (E.P.et (E.P.eh (E.To.code ?_)))))))))))))))
 refine E.wk [(0, E.pt c), (3, E.pt g1)] [(g1, (Q.S.cells (⟨s.pc, (Q.up (Q.up (Q.up (Q.up (Q.up (Q.up (Q.up (Q.up s.r 8 0) 9 0) 10 0) 11 0) 12 0) 13 0) 14 0) 15 0), s.f, s.c, s.st, s.du⟩))), (c, (E.pt m :: Q.S.cells s0))] Nz.sub (E.sr (E.op (.pointer (some ⟨g1, 17, none⟩)) (E.li (E.u s.f) 0 rfl rfl (E.op (E.u (bits .and .u32 s.f 15)) (E.op (.pointer (some ⟨g1, 17, none⟩)) (E.st 0 (Q.S.cells (⟨s.pc, (Q.up (Q.up (Q.up (Q.up (Q.up (Q.up (Q.up (Q.up s.r 8 0) 9 0) 10 0) 11 0) 12 0) 13 0) 14 0) 15 0), (bits .and .u32 s.f 15), s.c, s.st, s.du⟩)) rfl rfl (E.tr (E.op (.pointer (some ⟨g1, 22, none⟩)) (E.li (E.i s.st) 0 rfl rfl (E.op (E.i (if 0 > s.st then 0 else s.st)) (E.op (.pointer (some ⟨g1, 23, none⟩)) ?_)))))))))))
 refine E.li (E.i s.du) 0 rfl rfl (E.op (E.i (if 0 > s.du then 0 else s.du)) (E.op (.pointer (some ⟨g1, 22, none⟩)) (E.st 0 (Q.S.cells (⟨s.pc, (Q.up (Q.up (Q.up (Q.up (Q.up (Q.up (Q.up (Q.up s.r 8 0) 9 0) 10 0) 11 0) 12 0) 13 0) 14 0) 15 0), (bits .and .u32 s.f 15), s.c, (if 0 > s.st then 0 else s.st), s.du⟩)) rfl rfl (E.op (.pointer (some ⟨g1, 23, none⟩)) (E.st 0 (Q.S.cells (⟨s.pc, (Q.up (Q.up (Q.up (Q.up (Q.up (Q.up (Q.up (Q.up s.r 8 0) 9 0) 10 0) 11 0) 12 0) 13 0) 14 0) 15 0), (bits .and .u32 s.f 15), s.c, (if 0 > s.st then 0 else s.st), (if 0 > s.du then 0 else s.du)⟩)) rfl rfl (E.To.code (E.wk [(0, E.pt c), (3, E.pt g1)] [(g1, (Q.S.cells (⟨s.pc, (Q.up (Q.up (Q.up (Q.up (Q.up (Q.up (Q.up (Q.up s.r 8 0) 9 0) 10 0) 11 0) 12 0) 13 0) 14 0) 15 0), (bits .and .u32 s.f 15), s.c, (if 0 > s.st then 0 else s.st), (if 0 > s.du then 0 else s.du)⟩))), (c, (E.pt m :: Q.S.cells s0))] Nz.sub (E.C.region (E.op (E.pt c) (E.li (Q.S.val (⟨s.pc, (Q.up (Q.up (Q.up (Q.up (Q.up (Q.up (Q.up (Q.up s.r 8 0) 9 0) 10 0) 11 0) 12 0) 13 0) 14 0) 15 0), (bits .and .u32 s.f 15), s.c, (if 0 > s.st then 0 else s.st), (if 0 > s.du then 0 else s.du)⟩)) 0 rfl rfl (E.op (E.pt c) ?_)))))))))))
 refine E.op (.pointer (some ⟨c, 1, none⟩)) (E.st 1 (E.pt m :: Q.S.cells (⟨s.pc, (Q.up (Q.up (Q.up (Q.up (Q.up (Q.up (Q.up (Q.up s.r 8 0) 9 0) 10 0) 11 0) 12 0) 13 0) 14 0) 15 0), (bits .and .u32 s.f 15), s.c, (if 0 > s.st then 0 else s.st), (if 0 > s.du then 0 else s.du)⟩)) rfl rfl (E.To.bodyN (fn := Tryz.f25) [] ?_ ?_))
 · exact trivial
 intro w h
 have e : (K.norm s) = ⟨s.pc, (Q.up (Q.up (Q.up (Q.up (Q.up (Q.up (Q.up (Q.up s.r 8 0) 9 0) 10 0) 11 0) 12 0) 13 0) 14 0) 15 0), (bits .and .u32 s.f 15), s.c, (if 0 > s.st then 0 else s.st), (if 0 > s.du then 0 else s.du)⟩ := by unfold K.norm; rfl
 rw [e]
 exact ⟨(), trivial, rfl, A.dq [1] [0] h⟩
set_option maxHeartbeats 4000000 in
theorem CRun {c m : Nat} (most : Int) (s : Q.S) (V : M.V) (hm : -9223372036854775808 ≤ most ∧ most < 9223372036854775808) (hs : Q.wf s) (hV : R.Wf V) : A.Tr Tryz.prog 26 #[.pointer (some ⟨c, 0, none⟩), .int .i64 most] [A.blk c (.pointer (some ⟨m, 0, none⟩) :: Q.S.cells s), M.It m V []] (I := Unit) (fun _ => True) (fun _ => .agg #[.int .i64 (K.runs most s V).2.1, .int .u32 (K.runs most s V).2.2.1]) (fun _ => [A.blk c (.pointer (some ⟨m, 0, none⟩) :: Q.S.cells ((K.runs most s V).1)), M.It m (K.runs most s V).2.2.2 []]) := by
 intro w oo aa hh
 refine E.enter (n := 47) (S := oo) Tryz.func26 rfl rfl (by kernel_rfl) (A.start (L := [(c, (E.pt m :: Q.S.cells s))]) hh) (E.sr (E.G.new (fun g => E.pt g) [E.i 0, E.u 0] 47 (fun w => by kernel_rfl) (by kernel_rfl) (fun g1 => E.tr (E.op (E.pt c) (E.G.call (Q.S.val s) (fun w h => A.cq [1] [0, 2] (CState (c := c) (m := m) s) h) (fun w _ => by kernel_rfl) (by kernel_rfl) (E.G.new (fun g => E.pt g) (Q.S.cells Q.z0) 26 (fun w => by kernel_rfl) (by kernel_rfl) (fun g2 => E.st 0 (Q.S.cells s) rfl rfl (E.tr (E.op (E.i 0) (E.To.code (E.C.block ?_)))))))))))
 refine E.C.loop (I := Nat × Q.S × M.V) (fun i => (most.toNat + 1) - i.1) (fun i => i.1 < (most.toNat + 1) ∧ Q.wf i.2.1 ∧ R.Wf i.2.2 ∧ K.run most ((most.toNat + 1) - i.1) i.1 i.2.1 i.2.2 = (K.runs most s V)) (fun i => [(0, E.pt c), (1, E.i most), (4, E.pt g1), (5, E.pt g2), (6, E.i ((i.1 : Nat) : Int))]) (fun i => A.X w oo aa [M.It m i.2.2 ([])]) (fun i => [(g2, (Q.S.cells i.2.1)), (g1, [E.i 0, E.u 0]), (c, (E.pt m :: Q.S.cells i.2.1))]) (0, s, V) (⟨Nat.succ_pos _, hs, hV, rfl⟩) ⟨by kernel_rfl, by kernel_rfl⟩ Nz.sub (fun _ h => h) (fun i hk1 => E.C.seq (E.C.block (E.C.seq (E.sr (E.op (.pointer (some ⟨g2, 23, none⟩)) (E.li (E.i i.2.1.du) 0 rfl rfl (E.op (.bool (decide (i.2.1.du > 0))) (E.op (.bool (decide (i.2.1.du > 0))) (E.G.cut 6 [(0, E.pt c), (1, E.i most), (4, E.pt g1), (5, E.pt g2), (6, E.i ((i.1 : Nat) : Int)), (13, .pointer (some ⟨g2, 23, none⟩)), (14, E.i i.2.1.du), (15, .bool (decide (i.2.1.du > 0))), (16, .bool (decide (i.2.1.du > 0))), (22, .bool ((decide (i.2.1.du > 0)) && (decide (i.2.1.st ≥ i.2.1.du))))] (A.X w oo aa [M.It m i.2.2 ([])]) [(g2, (Q.S.cells i.2.1)), (g1, [E.i 0, E.u 0]), (c, (E.pt m :: Q.S.cells i.2.1))] ?_ ?_)))))))))
 ·
  generalize hc3 : (decide (i.2.1.du > 0)) = b4
  cases b4
  ·
   exact E.sk (E.sk (E.sk (E.sk (E.sk (E.op (.bool false) (E.G.end_pst ⟨by kernel_rfl, by kernel_rfl⟩ Nz.sub (fun _ h => h)))))))
  exact E.op (.pointer (some ⟨g2, 22, none⟩)) (E.li (E.i i.2.1.st) 0 rfl rfl (E.op (.pointer (some ⟨g2, 23, none⟩)) (E.li (E.i i.2.1.du) 0 rfl rfl (E.op (.bool (decide (i.2.1.st ≥ i.2.1.du))) (E.op (.bool (decide (i.2.1.st ≥ i.2.1.du))) (E.G.end_pst ⟨by kernel_rfl, by kernel_rfl⟩ Nz.sub (fun _ h => h)))))))
 refine E.To.code (E.cd ((decide (i.2.1.du > 0)) && (decide (i.2.1.st ≥ i.2.1.du))) (fun hc5 => ?_) (fun hc5 => ?_))
 ·
  refine E.sr (E.vl (.agg #[E.i 8, E.u 0]) (fun w h => E.run_build #[E.i 8, E.u 0] (by kernel_rfl) w) (E.st 1 [E.i 8, E.u 0] rfl rfl (E.To.code (E.C.ret (E.P.rt (E.P.rb (E.P.rt (E.P.rt (E.P.rb (E.To.body (fn := Tryz.f26) [.agg #[E.i 8, E.u 0]] ?_ ?_))))))))))
  · exact ⟨⟨by kernel_rfl, _, _, 1, _, rfl, rfl, by kernel_rfl⟩, trivial⟩
  intro w h
  have e := hk1.2.2.2
  rw [K.run_t hk1.1 hc5] at e
  rw [← e]
  exact ⟨(), trivial, rfl, A.dq [2, 3] [0, 1] h⟩
 refine E.C.skip (E.To.code (E.C.seq (E.sr (E.op (E.i ((i.1 : Nat) : Int)) (E.op (E.i most) (E.op (.bool (decide (((i.1 : Nat) : Int) ≥ most))) (E.To.code (E.cd (decide (((i.1 : Nat) : Int) ≥ most)) (fun hc6 => ?_) (fun hc6 => ?_)))))))))
 ·
  refine E.sr (E.vl (.agg #[E.i 1, E.u 0]) (fun w h => E.run_build #[E.i 1, E.u 0] (by kernel_rfl) w) (E.st 1 [E.i 1, E.u 0] rfl rfl (E.To.code (E.C.ret (E.P.rt (E.P.rb (E.P.rt (E.P.rt (E.P.rb (E.To.body (fn := Tryz.f26) [.agg #[E.i 1, E.u 0]] ?_ ?_))))))))))
  · exact ⟨⟨by kernel_rfl, _, _, 1, _, rfl, rfl, by kernel_rfl⟩, trivial⟩
  intro w h
  have e := hk1.2.2.2
  rw [K.run_b hk1.1 hc5 hc6] at e
  rw [← e]
  exact ⟨(), trivial, rfl, A.dq [2, 3] [0, 1] h⟩
 refine E.C.skip (E.To.code (E.C.seq (E.C.held (A.Y [A.blk g2 (Q.S.cells i.2.1), A.blk g1 ([E.i 0, E.u 0]), A.blk c (E.pt m :: Q.S.cells i.2.1)]) (by kernel_rfl) (E.H.gen (fun H up dn => ?_)))))
 have nd5 : ∀ (β α : Nat), H 0 (E.bits 12 4095) [(0, E.pt c), (1, E.i most), (4, E.pt g1), (5, E.pt g2), (6, E.i ((i.1 : Nat) : Int)), (7, E.pt β), (8, E.pt α), (13, .pointer (some ⟨g2, 23, none⟩)), (14, E.i i.2.1.du), (15, .bool (decide (i.2.1.du > 0))), (16, .bool (decide (i.2.1.du > 0))), (22, .bool ((decide (i.2.1.du > 0)) && (decide (i.2.1.st ≥ i.2.1.du)))), (24, E.i ((i.1 : Nat) : Int)), (25, E.i most), (26, .bool (decide (((i.1 : Nat) : Int) ≥ most))), (28, .tuple #[Q.S.val ((K.step i.2.1 i.2.2).1), .agg #[E.i ((K.step i.2.1 i.2.2).2.1), E.u ((K.step i.2.1 i.2.2).2.2.1)]]), (29, Q.S.val i.2.1), (30, E.pt c), (31, E.pt m), (32, .iface 35 (E.pt m)), (33, .tuple #[Q.S.val ((K.step i.2.1 i.2.2).1), .agg #[E.i ((K.step i.2.1 i.2.2).2.1), E.u ((K.step i.2.1 i.2.2).2.2.1)]]), (34, Q.S.val ((K.step i.2.1 i.2.2).1)), (35, .agg #[E.i ((K.step i.2.1 i.2.2).2.1), E.u ((K.step i.2.1 i.2.2).2.2.1)])] (A.X w oo aa [M.It m ((K.step i.2.1 i.2.2).2.2.2) ([])]) [(β, (Q.S.cells ((K.step i.2.1 i.2.2).1))), (α, [E.i ((K.step i.2.1 i.2.2).2.1), E.u ((K.step i.2.1 i.2.2).2.2.1)]), (g2, (Q.S.cells i.2.1)), (g1, [E.i 0, E.u 0]), (c, (E.pt m :: Q.S.cells i.2.1))] := by
  intro β α
  refine up _ _ _ _ _ (E.H.done (by kernel_rfl) (E.To.code (E.C.seq (E.sr (E.op (E.pt α) (E.li (E.i ((K.step i.2.1 i.2.2).2.1)) 1 rfl rfl (E.op (.bool (((K.step i.2.1 i.2.2).2.1) != 0)) (E.To.code (E.cd (((K.step i.2.1 i.2.2).2.1) != 0) (fun hc7 => ?_) (fun hc7 => ?_))))))))))
  ·
   refine E.sr (E.li (.agg #[E.i ((K.step i.2.1 i.2.2).2.1), E.u ((K.step i.2.1 i.2.2).2.2.1)]) 1 rfl rfl (E.st 3 [E.i ((K.step i.2.1 i.2.2).2.1), E.u ((K.step i.2.1 i.2.2).2.2.1)] rfl rfl (E.To.code (E.C.ret (E.P.rt (E.P.rb (E.P.rt (E.P.rt (E.P.rb (E.To.body (fn := Tryz.f26) [.agg #[E.i ((K.step i.2.1 i.2.2).2.1), E.u ((K.step i.2.1 i.2.2).2.2.1)]] ?_ ?_))))))))))
   · exact ⟨⟨by kernel_rfl, _, _, 3, _, rfl, rfl, by kernel_rfl⟩, trivial⟩
   intro w h
   have e := hk1.2.2.2
   rw [K.run_s hk1.1 hc5 hc6 hc7] at e
   rw [← e]
   exact ⟨(), trivial, rfl, A.dq [4, 5] [0, 1, 2, 3] h⟩
  refine E.C.skip (E.To.code (E.sr (E.li (Q.S.val ((K.step i.2.1 i.2.2).1)) 0 rfl rfl (E.st 2 (Q.S.cells ((K.step i.2.1 i.2.2).1)) rfl rfl (E.tr (E.op (E.pt c) (E.op (.bool true) (E.To.code (E.C.condT (by kernel_rfl) (by kernel_rfl) (E.C.region (E.op (E.pt c) (E.li (Q.S.val ((K.step i.2.1 i.2.2).1)) 0 rfl rfl ?_))))))))))))
  exact E.op (E.pt c) (E.op (.pointer (some ⟨c, 1, none⟩)) (E.st 4 (E.pt m :: Q.S.cells ((K.step i.2.1 i.2.2).1)) rfl rfl (E.P.nb (E.To.code (E.C.region (E.op (E.i ((i.1 : Nat) : Int)) (E.vl (E.i ((i.1 + 1 : Nat) : Int)) (fun w h => E.run_as (a := E.i (IntKind.wrap .i64 (((i.1 : Nat) : Int) + 1))) (by kernel_rfl) (congrArg (Value.int .i64) (K.run_lt hm.2 hc6).2)) (E.op (E.i ((i.1 + 1 : Nat) : Int)) (E.To.round (i.1 + 1, (K.step i.2.1 i.2.2).1, (K.step i.2.1 i.2.2).2.2.2) (by show (most.toNat + 1) - (i.1 + 1) < (most.toNat + 1) - i.1; have := hk1.1; omega) (⟨(K.run_lt hm.2 hc6).1, (K.step_wf hk1.2.1 hk1.2.2.1).1, (K.step_wf hk1.2.1 hk1.2.2.1).2, (K.run_n hk1.1 hc5 hc6 hc7).symm.trans hk1.2.2.2⟩) ⟨by kernel_rfl, by kernel_rfl⟩ Nz.sub (fun _ h => h))))))))))
 have nd4 : ∀ (β α : Nat), H 1 (E.bits 12 2047) [(0, E.pt c), (1, E.i most), (4, E.pt g1), (5, E.pt g2), (6, E.i ((i.1 : Nat) : Int)), (7, E.pt β), (8, E.pt α), (13, .pointer (some ⟨g2, 23, none⟩)), (14, E.i i.2.1.du), (15, .bool (decide (i.2.1.du > 0))), (16, .bool (decide (i.2.1.du > 0))), (22, .bool ((decide (i.2.1.du > 0)) && (decide (i.2.1.st ≥ i.2.1.du)))), (24, E.i ((i.1 : Nat) : Int)), (25, E.i most), (26, .bool (decide (((i.1 : Nat) : Int) ≥ most))), (28, .tuple #[Q.S.val ((K.step i.2.1 i.2.2).1), .agg #[E.i ((K.step i.2.1 i.2.2).2.1), E.u ((K.step i.2.1 i.2.2).2.2.1)]]), (29, Q.S.val i.2.1), (30, E.pt c), (31, E.pt m), (32, .iface 35 (E.pt m)), (33, .tuple #[Q.S.val ((K.step i.2.1 i.2.2).1), .agg #[E.i ((K.step i.2.1 i.2.2).2.1), E.u ((K.step i.2.1 i.2.2).2.2.1)]]), (34, Q.S.val ((K.step i.2.1 i.2.2).1)), (35, .agg #[E.i ((K.step i.2.1 i.2.2).2.1), E.u ((K.step i.2.1 i.2.2).2.2.1)])] (A.X w oo aa [M.It m ((K.step i.2.1 i.2.2).2.2.2) ([])]) [(β, (Q.S.cells ((K.step i.2.1 i.2.2).1))), (α, [E.i 0, E.u 0]), (g2, (Q.S.cells i.2.1)), (g1, [E.i 0, E.u 0]), (c, (E.pt m :: Q.S.cells i.2.1))] := by
  intro β α
  exact up _ _ _ _ _ (E.al 11 rfl (E.st 1 [E.i ((K.step i.2.1 i.2.2).2.1), E.u ((K.step i.2.1 i.2.2).2.2.1)] rfl rfl (E.H.back (fun w h => A.hq [2, 3, 4] [0, 1, 5] h) (E.ho (dn _ _ _ _ _ (nd5 β α))))))
 have nd3 : ∀ (β α : Nat), H 2 (E.bits 12 1023) [(0, E.pt c), (1, E.i most), (4, E.pt g1), (5, E.pt g2), (6, E.i ((i.1 : Nat) : Int)), (7, E.pt β), (8, E.pt α), (13, .pointer (some ⟨g2, 23, none⟩)), (14, E.i i.2.1.du), (15, .bool (decide (i.2.1.du > 0))), (16, .bool (decide (i.2.1.du > 0))), (22, .bool ((decide (i.2.1.du > 0)) && (decide (i.2.1.st ≥ i.2.1.du)))), (24, E.i ((i.1 : Nat) : Int)), (25, E.i most), (26, .bool (decide (((i.1 : Nat) : Int) ≥ most))), (28, .tuple #[Q.S.val ((K.step i.2.1 i.2.2).1), .agg #[E.i ((K.step i.2.1 i.2.2).2.1), E.u ((K.step i.2.1 i.2.2).2.2.1)]]), (29, Q.S.val i.2.1), (30, E.pt c), (31, E.pt m), (32, .iface 35 (E.pt m)), (33, .tuple #[Q.S.val ((K.step i.2.1 i.2.2).1), .agg #[E.i ((K.step i.2.1 i.2.2).2.1), E.u ((K.step i.2.1 i.2.2).2.2.1)]]), (34, Q.S.val ((K.step i.2.1 i.2.2).1)), (35, .agg #[E.i ((K.step i.2.1 i.2.2).2.1), E.u ((K.step i.2.1 i.2.2).2.2.1)])] (A.X w oo aa [M.It m ((K.step i.2.1 i.2.2).2.2.2) ([])]) [(β, (Q.S.cells Q.z0)), (α, [E.i 0, E.u 0]), (g2, (Q.S.cells i.2.1)), (g1, [E.i 0, E.u 0]), (c, (E.pt m :: Q.S.cells i.2.1))] := by
  intro β α
  exact up _ _ _ _ _ (E.al 10 rfl (E.st 0 (Q.S.cells ((K.step i.2.1 i.2.2).1)) rfl rfl (E.H.back (fun w h => A.hq [2, 3, 4] [0, 1, 5] h) (E.ho (dn _ _ _ _ _ (nd4 β α))))))
 have nd2 : ∀ (β : Nat), H 3 (E.bits 12 511) [(0, E.pt c), (1, E.i most), (4, E.pt g1), (5, E.pt g2), (6, E.i ((i.1 : Nat) : Int)), (7, E.pt β), (13, .pointer (some ⟨g2, 23, none⟩)), (14, E.i i.2.1.du), (15, .bool (decide (i.2.1.du > 0))), (16, .bool (decide (i.2.1.du > 0))), (22, .bool ((decide (i.2.1.du > 0)) && (decide (i.2.1.st ≥ i.2.1.du)))), (24, E.i ((i.1 : Nat) : Int)), (25, E.i most), (26, .bool (decide (((i.1 : Nat) : Int) ≥ most))), (28, .tuple #[Q.S.val ((K.step i.2.1 i.2.2).1), .agg #[E.i ((K.step i.2.1 i.2.2).2.1), E.u ((K.step i.2.1 i.2.2).2.2.1)]]), (29, Q.S.val i.2.1), (30, E.pt c), (31, E.pt m), (32, .iface 35 (E.pt m)), (33, .tuple #[Q.S.val ((K.step i.2.1 i.2.2).1), .agg #[E.i ((K.step i.2.1 i.2.2).2.1), E.u ((K.step i.2.1 i.2.2).2.2.1)]]), (34, Q.S.val ((K.step i.2.1 i.2.2).1)), (35, .agg #[E.i ((K.step i.2.1 i.2.2).2.1), E.u ((K.step i.2.1 i.2.2).2.2.1)])] (A.X w oo aa [M.It m ((K.step i.2.1 i.2.2).2.2.2) ([])]) [(β, (Q.S.cells Q.z0)), (g2, (Q.S.cells i.2.1)), (g1, [E.i 0, E.u 0]), (c, (E.pt m :: Q.S.cells i.2.1))] := by
  intro β
  exact up _ _ _ _ _ (E.al 9 rfl (E.G.new (fun g => E.pt g) [E.i 0, E.u 0] 47 (fun w => by kernel_rfl) (by kernel_rfl) (fun α => E.H.back (fun w h => A.hq [2, 3, 4] [0, 1, 5] h) (E.H.toP _ _ [(β, (Q.S.cells Q.z0)), (α, [E.i 0, E.u 0]), (g2, (Q.S.cells i.2.1)), (g1, [E.i 0, E.u 0]), (c, (E.pt m :: Q.S.cells i.2.1))] (by kernel_rfl) ⟨by kernel_rfl, by kernel_rfl⟩ (A.pn [1, 0, 2, 3, 4]) (dn _ _ _ _ _ (nd3 β α))))))
 have nd6 : ∀ (α : Nat), H 3 (E.bits 12 767) [(0, E.pt c), (1, E.i most), (4, E.pt g1), (5, E.pt g2), (6, E.i ((i.1 : Nat) : Int)), (8, E.pt α), (13, .pointer (some ⟨g2, 23, none⟩)), (14, E.i i.2.1.du), (15, .bool (decide (i.2.1.du > 0))), (16, .bool (decide (i.2.1.du > 0))), (22, .bool ((decide (i.2.1.du > 0)) && (decide (i.2.1.st ≥ i.2.1.du)))), (24, E.i ((i.1 : Nat) : Int)), (25, E.i most), (26, .bool (decide (((i.1 : Nat) : Int) ≥ most))), (28, .tuple #[Q.S.val ((K.step i.2.1 i.2.2).1), .agg #[E.i ((K.step i.2.1 i.2.2).2.1), E.u ((K.step i.2.1 i.2.2).2.2.1)]]), (29, Q.S.val i.2.1), (30, E.pt c), (31, E.pt m), (32, .iface 35 (E.pt m)), (33, .tuple #[Q.S.val ((K.step i.2.1 i.2.2).1), .agg #[E.i ((K.step i.2.1 i.2.2).2.1), E.u ((K.step i.2.1 i.2.2).2.2.1)]]), (34, Q.S.val ((K.step i.2.1 i.2.2).1)), (35, .agg #[E.i ((K.step i.2.1 i.2.2).2.1), E.u ((K.step i.2.1 i.2.2).2.2.1)])] (A.X w oo aa [M.It m ((K.step i.2.1 i.2.2).2.2.2) ([])]) [(α, [E.i 0, E.u 0]), (g2, (Q.S.cells i.2.1)), (g1, [E.i 0, E.u 0]), (c, (E.pt m :: Q.S.cells i.2.1))] := by
  intro α
  exact up _ _ _ _ _ (E.al 8 rfl (E.G.new (fun g => E.pt g) (Q.S.cells Q.z0) 26 (fun w => by kernel_rfl) (by kernel_rfl) (fun β => E.H.back (fun w h => A.hq [2, 3, 4] [0, 1, 5] h) (E.ho (dn _ _ _ _ _ (nd3 β α))))))
 have nd1 : H 7 (E.bits 12 31) [(0, E.pt c), (1, E.i most), (4, E.pt g1), (5, E.pt g2), (6, E.i ((i.1 : Nat) : Int)), (13, .pointer (some ⟨g2, 23, none⟩)), (14, E.i i.2.1.du), (15, .bool (decide (i.2.1.du > 0))), (16, .bool (decide (i.2.1.du > 0))), (22, .bool ((decide (i.2.1.du > 0)) && (decide (i.2.1.st ≥ i.2.1.du)))), (24, E.i ((i.1 : Nat) : Int)), (25, E.i most), (26, .bool (decide (((i.1 : Nat) : Int) ≥ most))), (29, Q.S.val i.2.1), (30, E.pt c), (31, E.pt m), (32, .iface 35 (E.pt m)), (33, .tuple #[Q.S.val ((K.step i.2.1 i.2.2).1), .agg #[E.i ((K.step i.2.1 i.2.2).2.1), E.u ((K.step i.2.1 i.2.2).2.2.1)]])] (A.X w oo aa [M.It m ((K.step i.2.1 i.2.2).2.2.2) ([])]) [(g2, (Q.S.cells i.2.1)), (g1, [E.i 0, E.u 0]), (c, (E.pt m :: Q.S.cells i.2.1))] := by
  refine up _ _ _ _ _ (E.tk 5 (.tuple #[Q.S.val ((K.step i.2.1 i.2.2).1), .agg #[E.i ((K.step i.2.1 i.2.2).2.1), E.u ((K.step i.2.1 i.2.2).2.2.1)]]) rfl (fun w h => A.hpY0 h (by kernel_rfl)) (E.tk 6 (Q.S.val ((K.step i.2.1 i.2.2).1)) rfl (fun w h => A.hpY0 h (by kernel_rfl)) (E.tk 7 (.agg #[E.i ((K.step i.2.1 i.2.2).2.1), E.u ((K.step i.2.1 i.2.2).2.2.1)]) rfl (fun w h => A.hpY0 h (by kernel_rfl)) (E.al2 8 9 rfl rfl ?_ ?_))))
  ·
   exact E.G.new (fun g => E.pt g) (Q.S.cells Q.z0) 26 (fun w => by kernel_rfl) (by kernel_rfl) (fun β => E.H.back (fun w h => A.hq [1, 2, 3] [0, 4] h) (E.ho (dn _ _ _ _ _ (nd2 β))))
  exact E.G.new (fun g => E.pt g) [E.i 0, E.u 0] 47 (fun w => by kernel_rfl) (by kernel_rfl) (fun α => E.H.back (fun w h => A.hq [1, 2, 3] [0, 4] h) (E.ho (dn _ _ _ _ _ (nd6 α))))
 have nd8 : ∀ (β : Nat), H 6 (E.bits 12 287) [(0, E.pt c), (1, E.i most), (4, E.pt g1), (5, E.pt g2), (6, E.i ((i.1 : Nat) : Int)), (7, E.pt β), (13, .pointer (some ⟨g2, 23, none⟩)), (14, E.i i.2.1.du), (15, .bool (decide (i.2.1.du > 0))), (16, .bool (decide (i.2.1.du > 0))), (22, .bool ((decide (i.2.1.du > 0)) && (decide (i.2.1.st ≥ i.2.1.du)))), (24, E.i ((i.1 : Nat) : Int)), (25, E.i most), (26, .bool (decide (((i.1 : Nat) : Int) ≥ most))), (29, Q.S.val i.2.1), (30, E.pt c), (31, E.pt m), (32, .iface 35 (E.pt m)), (33, .tuple #[Q.S.val ((K.step i.2.1 i.2.2).1), .agg #[E.i ((K.step i.2.1 i.2.2).2.1), E.u ((K.step i.2.1 i.2.2).2.2.1)]])] (A.X w oo aa [M.It m ((K.step i.2.1 i.2.2).2.2.2) ([])]) [(β, (Q.S.cells Q.z0)), (g2, (Q.S.cells i.2.1)), (g1, [E.i 0, E.u 0]), (c, (E.pt m :: Q.S.cells i.2.1))] := by
  intro β
  exact up _ _ _ _ _ (E.tk 5 (.tuple #[Q.S.val ((K.step i.2.1 i.2.2).1), .agg #[E.i ((K.step i.2.1 i.2.2).2.1), E.u ((K.step i.2.1 i.2.2).2.2.1)]]) rfl (fun w h => A.hq [1, 2, 3] [0, 4] h) (E.tk 6 (Q.S.val ((K.step i.2.1 i.2.2).1)) rfl (fun w h => A.hq [1, 2, 3] [0, 4] h) (E.tk 7 (.agg #[E.i ((K.step i.2.1 i.2.2).2.1), E.u ((K.step i.2.1 i.2.2).2.2.1)]) rfl (fun w h => A.hq [1, 2, 3] [0, 4] h) (E.al 9 rfl (E.G.new (fun g => E.pt g) [E.i 0, E.u 0] 47 (fun w => by kernel_rfl) (by kernel_rfl) (fun α => E.H.back (fun w h => A.hq [2, 3, 4] [0, 1, 5] h) (E.H.toP _ _ [(β, (Q.S.cells Q.z0)), (α, [E.i 0, E.u 0]), (g2, (Q.S.cells i.2.1)), (g1, [E.i 0, E.u 0]), (c, (E.pt m :: Q.S.cells i.2.1))] (by kernel_rfl) ⟨by kernel_rfl, by kernel_rfl⟩ (A.pn [1, 0, 2, 3, 4]) (dn _ _ _ _ _ (nd3 β α)))))))))
 have nd10 : ∀ (β α : Nat), H 5 (E.bits 12 799) [(0, E.pt c), (1, E.i most), (4, E.pt g1), (5, E.pt g2), (6, E.i ((i.1 : Nat) : Int)), (7, E.pt β), (8, E.pt α), (13, .pointer (some ⟨g2, 23, none⟩)), (14, E.i i.2.1.du), (15, .bool (decide (i.2.1.du > 0))), (16, .bool (decide (i.2.1.du > 0))), (22, .bool ((decide (i.2.1.du > 0)) && (decide (i.2.1.st ≥ i.2.1.du)))), (24, E.i ((i.1 : Nat) : Int)), (25, E.i most), (26, .bool (decide (((i.1 : Nat) : Int) ≥ most))), (29, Q.S.val i.2.1), (30, E.pt c), (31, E.pt m), (32, .iface 35 (E.pt m)), (33, .tuple #[Q.S.val ((K.step i.2.1 i.2.2).1), .agg #[E.i ((K.step i.2.1 i.2.2).2.1), E.u ((K.step i.2.1 i.2.2).2.2.1)]])] (A.X w oo aa [M.It m ((K.step i.2.1 i.2.2).2.2.2) ([])]) [(β, (Q.S.cells Q.z0)), (α, [E.i 0, E.u 0]), (g2, (Q.S.cells i.2.1)), (g1, [E.i 0, E.u 0]), (c, (E.pt m :: Q.S.cells i.2.1))] := by
  intro β α
  exact up _ _ _ _ _ (E.tk 5 (.tuple #[Q.S.val ((K.step i.2.1 i.2.2).1), .agg #[E.i ((K.step i.2.1 i.2.2).2.1), E.u ((K.step i.2.1 i.2.2).2.2.1)]]) rfl (fun w h => A.hq [2, 3, 4] [0, 1, 5] h) (E.tk 6 (Q.S.val ((K.step i.2.1 i.2.2).1)) rfl (fun w h => A.hq [2, 3, 4] [0, 1, 5] h) (E.tk 7 (.agg #[E.i ((K.step i.2.1 i.2.2).2.1), E.u ((K.step i.2.1 i.2.2).2.2.1)]) rfl (fun w h => A.hq [2, 3, 4] [0, 1, 5] h) (E.al 10 rfl (E.st 0 (Q.S.cells ((K.step i.2.1 i.2.2).1)) rfl rfl (E.H.back (fun w h => A.hq [2, 3, 4] [0, 1, 5] h) (E.ho (dn _ _ _ _ _ (nd4 β α)))))))))
 have nd9 : ∀ (β α : Nat), H 6 (E.bits 12 783) [(0, E.pt c), (1, E.i most), (4, E.pt g1), (5, E.pt g2), (6, E.i ((i.1 : Nat) : Int)), (7, E.pt β), (8, E.pt α), (13, .pointer (some ⟨g2, 23, none⟩)), (14, E.i i.2.1.du), (15, .bool (decide (i.2.1.du > 0))), (16, .bool (decide (i.2.1.du > 0))), (22, .bool ((decide (i.2.1.du > 0)) && (decide (i.2.1.st ≥ i.2.1.du)))), (24, E.i ((i.1 : Nat) : Int)), (25, E.i most), (26, .bool (decide (((i.1 : Nat) : Int) ≥ most))), (29, Q.S.val i.2.1), (30, E.pt c), (31, E.pt m), (32, .iface 35 (E.pt m))] (A.X w oo aa [M.It m i.2.2 ([])]) [(β, (Q.S.cells Q.z0)), (α, [E.i 0, E.u 0]), (g2, (Q.S.cells i.2.1)), (g1, [E.i 0, E.u 0]), (c, (E.pt m :: Q.S.cells i.2.1))] := by
  intro β α
  exact up _ _ _ _ _ (E.al 4 rfl (A.G.call (I := Unit) (D := fun _ => True) (V := fun _ => .tuple #[Q.S.val ((K.step i.2.1 i.2.2).1), .agg #[E.i ((K.step i.2.1 i.2.2).2.1), E.u ((K.step i.2.1 i.2.2).2.2.1)]]) (q := fun _ => [M.It m ((K.step i.2.1 i.2.2).2.2.2) ([])]) [A.blk β (Q.S.cells Q.z0), A.blk α ([E.i 0, E.u 0]), A.blk g2 (Q.S.cells i.2.1), A.blk g1 ([E.i 0, E.u 0]), A.blk c (E.pt m :: Q.S.cells i.2.1)] (fun _ => [(β, (Q.S.cells Q.z0)), (α, [E.i 0, E.u 0]), (g2, (Q.S.cells i.2.1)), (g1, [E.i 0, E.u 0]), (c, (E.pt m :: Q.S.cells i.2.1))]) (fun _ => [M.It m ((K.step i.2.1 i.2.2).2.2.2) ([])]) (Step_any (m := m) (xs := []) i.2.1 i.2.2 hk1.2.1 hk1.2.2.1) (by kernel_rfl) (A.pn [5, 0, 1, 2, 3, 4]) (fun _ => A.pm [1, 2, 3, 4, 5, 0] (by kernel_rfl) (by kernel_rfl)) (fun w _ => by kernel_rfl) (by kernel_rfl) (fun _ δ => E.H.back (fun w h => A.hq [2, 3, 4] [0, 1, 5] h) (E.ho (dn _ _ _ _ _ (nd10 β α))))))
 have nd7 : ∀ (β : Nat), H 7 (E.bits 12 271) [(0, E.pt c), (1, E.i most), (4, E.pt g1), (5, E.pt g2), (6, E.i ((i.1 : Nat) : Int)), (7, E.pt β), (13, .pointer (some ⟨g2, 23, none⟩)), (14, E.i i.2.1.du), (15, .bool (decide (i.2.1.du > 0))), (16, .bool (decide (i.2.1.du > 0))), (22, .bool ((decide (i.2.1.du > 0)) && (decide (i.2.1.st ≥ i.2.1.du)))), (24, E.i ((i.1 : Nat) : Int)), (25, E.i most), (26, .bool (decide (((i.1 : Nat) : Int) ≥ most))), (29, Q.S.val i.2.1), (30, E.pt c), (31, E.pt m), (32, .iface 35 (E.pt m))] (A.X w oo aa [M.It m i.2.2 ([])]) [(β, (Q.S.cells Q.z0)), (g2, (Q.S.cells i.2.1)), (g1, [E.i 0, E.u 0]), (c, (E.pt m :: Q.S.cells i.2.1))] := by
  intro β
  refine up _ _ _ _ _ (E.al2 4 9 rfl rfl ?_ ?_)
  ·
   exact A.G.call (I := Unit) (D := fun _ => True) (V := fun _ => .tuple #[Q.S.val ((K.step i.2.1 i.2.2).1), .agg #[E.i ((K.step i.2.1 i.2.2).2.1), E.u ((K.step i.2.1 i.2.2).2.2.1)]]) (q := fun _ => [M.It m ((K.step i.2.1 i.2.2).2.2.2) ([])]) [A.blk β (Q.S.cells Q.z0), A.blk g2 (Q.S.cells i.2.1), A.blk g1 ([E.i 0, E.u 0]), A.blk c (E.pt m :: Q.S.cells i.2.1)] (fun _ => [(β, (Q.S.cells Q.z0)), (g2, (Q.S.cells i.2.1)), (g1, [E.i 0, E.u 0]), (c, (E.pt m :: Q.S.cells i.2.1))]) (fun _ => [M.It m ((K.step i.2.1 i.2.2).2.2.2) ([])]) (Step_any (m := m) (xs := []) i.2.1 i.2.2 hk1.2.1 hk1.2.2.1) (by kernel_rfl) (A.pn [4, 0, 1, 2, 3]) (fun _ => A.pm [1, 2, 3, 4, 0] (by kernel_rfl) (by kernel_rfl)) (fun w _ => by kernel_rfl) (by kernel_rfl) (fun _ δ => E.H.back (fun w h => A.hq [1, 2, 3] [0, 4] h) (E.ho (dn _ _ _ _ _ (nd8 β))))
  exact E.G.new (fun g => E.pt g) [E.i 0, E.u 0] 47 (fun w => by kernel_rfl) (by kernel_rfl) (fun α => E.H.back (fun w h => A.hq [2, 3, 4] [0, 1, 5] h) (E.H.toP _ _ [(β, (Q.S.cells Q.z0)), (α, [E.i 0, E.u 0]), (g2, (Q.S.cells i.2.1)), (g1, [E.i 0, E.u 0]), (c, (E.pt m :: Q.S.cells i.2.1))] (by kernel_rfl) ⟨by kernel_rfl, by kernel_rfl⟩ (A.pn [1, 0, 2, 3, 4]) (dn _ _ _ _ _ (nd9 β α))))
 have nd12 : ∀ (α : Nat), H 6 (E.bits 12 543) [(0, E.pt c), (1, E.i most), (4, E.pt g1), (5, E.pt g2), (6, E.i ((i.1 : Nat) : Int)), (8, E.pt α), (13, .pointer (some ⟨g2, 23, none⟩)), (14, E.i i.2.1.du), (15, .bool (decide (i.2.1.du > 0))), (16, .bool (decide (i.2.1.du > 0))), (22, .bool ((decide (i.2.1.du > 0)) && (decide (i.2.1.st ≥ i.2.1.du)))), (24, E.i ((i.1 : Nat) : Int)), (25, E.i most), (26, .bool (decide (((i.1 : Nat) : Int) ≥ most))), (29, Q.S.val i.2.1), (30, E.pt c), (31, E.pt m), (32, .iface 35 (E.pt m)), (33, .tuple #[Q.S.val ((K.step i.2.1 i.2.2).1), .agg #[E.i ((K.step i.2.1 i.2.2).2.1), E.u ((K.step i.2.1 i.2.2).2.2.1)]])] (A.X w oo aa [M.It m ((K.step i.2.1 i.2.2).2.2.2) ([])]) [(α, [E.i 0, E.u 0]), (g2, (Q.S.cells i.2.1)), (g1, [E.i 0, E.u 0]), (c, (E.pt m :: Q.S.cells i.2.1))] := by
  intro α
  exact up _ _ _ _ _ (E.tk 5 (.tuple #[Q.S.val ((K.step i.2.1 i.2.2).1), .agg #[E.i ((K.step i.2.1 i.2.2).2.1), E.u ((K.step i.2.1 i.2.2).2.2.1)]]) rfl (fun w h => A.hq [1, 2, 3] [0, 4] h) (E.tk 6 (Q.S.val ((K.step i.2.1 i.2.2).1)) rfl (fun w h => A.hq [1, 2, 3] [0, 4] h) (E.tk 7 (.agg #[E.i ((K.step i.2.1 i.2.2).2.1), E.u ((K.step i.2.1 i.2.2).2.2.1)]) rfl (fun w h => A.hq [1, 2, 3] [0, 4] h) (E.al 8 rfl (E.G.new (fun g => E.pt g) (Q.S.cells Q.z0) 26 (fun w => by kernel_rfl) (by kernel_rfl) (fun β => E.H.back (fun w h => A.hq [2, 3, 4] [0, 1, 5] h) (E.ho (dn _ _ _ _ _ (nd3 β α)))))))))
 have nd11 : ∀ (α : Nat), H 7 (E.bits 12 527) [(0, E.pt c), (1, E.i most), (4, E.pt g1), (5, E.pt g2), (6, E.i ((i.1 : Nat) : Int)), (8, E.pt α), (13, .pointer (some ⟨g2, 23, none⟩)), (14, E.i i.2.1.du), (15, .bool (decide (i.2.1.du > 0))), (16, .bool (decide (i.2.1.du > 0))), (22, .bool ((decide (i.2.1.du > 0)) && (decide (i.2.1.st ≥ i.2.1.du)))), (24, E.i ((i.1 : Nat) : Int)), (25, E.i most), (26, .bool (decide (((i.1 : Nat) : Int) ≥ most))), (29, Q.S.val i.2.1), (30, E.pt c), (31, E.pt m), (32, .iface 35 (E.pt m))] (A.X w oo aa [M.It m i.2.2 ([])]) [(α, [E.i 0, E.u 0]), (g2, (Q.S.cells i.2.1)), (g1, [E.i 0, E.u 0]), (c, (E.pt m :: Q.S.cells i.2.1))] := by
  intro α
  refine up _ _ _ _ _ (E.al2 4 8 rfl rfl ?_ ?_)
  ·
   exact A.G.call (I := Unit) (D := fun _ => True) (V := fun _ => .tuple #[Q.S.val ((K.step i.2.1 i.2.2).1), .agg #[E.i ((K.step i.2.1 i.2.2).2.1), E.u ((K.step i.2.1 i.2.2).2.2.1)]]) (q := fun _ => [M.It m ((K.step i.2.1 i.2.2).2.2.2) ([])]) [A.blk α ([E.i 0, E.u 0]), A.blk g2 (Q.S.cells i.2.1), A.blk g1 ([E.i 0, E.u 0]), A.blk c (E.pt m :: Q.S.cells i.2.1)] (fun _ => [(α, [E.i 0, E.u 0]), (g2, (Q.S.cells i.2.1)), (g1, [E.i 0, E.u 0]), (c, (E.pt m :: Q.S.cells i.2.1))]) (fun _ => [M.It m ((K.step i.2.1 i.2.2).2.2.2) ([])]) (Step_any (m := m) (xs := []) i.2.1 i.2.2 hk1.2.1 hk1.2.2.1) (by kernel_rfl) (A.pn [4, 0, 1, 2, 3]) (fun _ => A.pm [1, 2, 3, 4, 0] (by kernel_rfl) (by kernel_rfl)) (fun w _ => by kernel_rfl) (by kernel_rfl) (fun _ δ => E.H.back (fun w h => A.hq [1, 2, 3] [0, 4] h) (E.ho (dn _ _ _ _ _ (nd12 α))))
  exact E.G.new (fun g => E.pt g) (Q.S.cells Q.z0) 26 (fun w => by kernel_rfl) (by kernel_rfl) (fun β => E.H.back (fun w h => A.hq [2, 3, 4] [0, 1, 5] h) (E.ho (dn _ _ _ _ _ (nd9 β α))))
 have nd0 : H 9 (E.bits 12 7) [(0, E.pt c), (1, E.i most), (4, E.pt g1), (5, E.pt g2), (6, E.i ((i.1 : Nat) : Int)), (13, .pointer (some ⟨g2, 23, none⟩)), (14, E.i i.2.1.du), (15, .bool (decide (i.2.1.du > 0))), (16, .bool (decide (i.2.1.du > 0))), (22, .bool ((decide (i.2.1.du > 0)) && (decide (i.2.1.st ≥ i.2.1.du)))), (24, E.i ((i.1 : Nat) : Int)), (25, E.i most), (26, .bool (decide (((i.1 : Nat) : Int) ≥ most))), (29, Q.S.val i.2.1), (30, E.pt c), (31, E.pt m)] (A.X w oo aa [M.It m i.2.2 ([])]) [(g2, (Q.S.cells i.2.1)), (g1, [E.i 0, E.u 0]), (c, (E.pt m :: Q.S.cells i.2.1))] := by
  refine up _ _ _ _ _ (E.tk 3 (.iface 35 (E.pt m)) rfl (fun w h => A.hpY0 h (by kernel_rfl)) (E.al3 4 8 9 rfl rfl rfl ?_ ?_ ?_))
  ·
   exact A.G.call (I := Unit) (D := fun _ => True) (V := fun _ => .tuple #[Q.S.val ((K.step i.2.1 i.2.2).1), .agg #[E.i ((K.step i.2.1 i.2.2).2.1), E.u ((K.step i.2.1 i.2.2).2.2.1)]]) (q := fun _ => [M.It m ((K.step i.2.1 i.2.2).2.2.2) ([])]) [A.blk g2 (Q.S.cells i.2.1), A.blk g1 ([E.i 0, E.u 0]), A.blk c (E.pt m :: Q.S.cells i.2.1)] (fun _ => [(g2, (Q.S.cells i.2.1)), (g1, [E.i 0, E.u 0]), (c, (E.pt m :: Q.S.cells i.2.1))]) (fun _ => [M.It m ((K.step i.2.1 i.2.2).2.2.2) ([])]) (Step_any (m := m) (xs := []) i.2.1 i.2.2 hk1.2.1 hk1.2.2.1) (by kernel_rfl) (A.pn [3, 0, 1, 2]) (fun _ => A.pm [1, 2, 3, 0] (by kernel_rfl) (by kernel_rfl)) (fun w _ => by kernel_rfl) (by kernel_rfl) (fun _ δ => E.hb (dn _ _ _ _ _ (nd1)))
  ·
   exact E.G.new (fun g => E.pt g) (Q.S.cells Q.z0) 26 (fun w => by kernel_rfl) (by kernel_rfl) (fun β => E.H.back (fun w h => A.hq [1, 2, 3] [0, 4] h) (E.ho (dn _ _ _ _ _ (nd7 β))))
  exact E.G.new (fun g => E.pt g) [E.i 0, E.u 0] 47 (fun w => by kernel_rfl) (by kernel_rfl) (fun α => E.H.back (fun w h => A.hq [1, 2, 3] [0, 4] h) (E.ho (dn _ _ _ _ _ (nd11 α))))
 have nd14 : ∀ (β : Nat), H 8 (E.bits 12 263) [(0, E.pt c), (1, E.i most), (4, E.pt g1), (5, E.pt g2), (6, E.i ((i.1 : Nat) : Int)), (7, E.pt β), (13, .pointer (some ⟨g2, 23, none⟩)), (14, E.i i.2.1.du), (15, .bool (decide (i.2.1.du > 0))), (16, .bool (decide (i.2.1.du > 0))), (22, .bool ((decide (i.2.1.du > 0)) && (decide (i.2.1.st ≥ i.2.1.du)))), (24, E.i ((i.1 : Nat) : Int)), (25, E.i most), (26, .bool (decide (((i.1 : Nat) : Int) ≥ most))), (29, Q.S.val i.2.1), (30, E.pt c), (31, E.pt m)] (A.X w oo aa [M.It m i.2.2 ([])]) [(β, (Q.S.cells Q.z0)), (g2, (Q.S.cells i.2.1)), (g1, [E.i 0, E.u 0]), (c, (E.pt m :: Q.S.cells i.2.1))] := by
  intro β
  refine up _ _ _ _ _ (E.tk 3 (.iface 35 (E.pt m)) rfl (fun w h => A.hq [1, 2, 3] [0, 4] h) (E.al2 4 9 rfl rfl ?_ ?_))
  ·
   exact A.G.call (I := Unit) (D := fun _ => True) (V := fun _ => .tuple #[Q.S.val ((K.step i.2.1 i.2.2).1), .agg #[E.i ((K.step i.2.1 i.2.2).2.1), E.u ((K.step i.2.1 i.2.2).2.2.1)]]) (q := fun _ => [M.It m ((K.step i.2.1 i.2.2).2.2.2) ([])]) [A.blk β (Q.S.cells Q.z0), A.blk g2 (Q.S.cells i.2.1), A.blk g1 ([E.i 0, E.u 0]), A.blk c (E.pt m :: Q.S.cells i.2.1)] (fun _ => [(β, (Q.S.cells Q.z0)), (g2, (Q.S.cells i.2.1)), (g1, [E.i 0, E.u 0]), (c, (E.pt m :: Q.S.cells i.2.1))]) (fun _ => [M.It m ((K.step i.2.1 i.2.2).2.2.2) ([])]) (Step_any (m := m) (xs := []) i.2.1 i.2.2 hk1.2.1 hk1.2.2.1) (by kernel_rfl) (A.pn [4, 0, 1, 2, 3]) (fun _ => A.pm [1, 2, 3, 4, 0] (by kernel_rfl) (by kernel_rfl)) (fun w _ => by kernel_rfl) (by kernel_rfl) (fun _ δ => E.H.back (fun w h => A.hq [1, 2, 3] [0, 4] h) (E.ho (dn _ _ _ _ _ (nd8 β))))
  exact E.G.new (fun g => E.pt g) [E.i 0, E.u 0] 47 (fun w => by kernel_rfl) (by kernel_rfl) (fun α => E.H.back (fun w h => A.hq [2, 3, 4] [0, 1, 5] h) (E.H.toP _ _ [(β, (Q.S.cells Q.z0)), (α, [E.i 0, E.u 0]), (g2, (Q.S.cells i.2.1)), (g1, [E.i 0, E.u 0]), (c, (E.pt m :: Q.S.cells i.2.1))] (by kernel_rfl) ⟨by kernel_rfl, by kernel_rfl⟩ (A.pn [1, 0, 2, 3, 4]) (dn _ _ _ _ _ (nd9 β α))))
 have nd16 : ∀ (β α : Nat), H 7 (E.bits 12 775) [(0, E.pt c), (1, E.i most), (4, E.pt g1), (5, E.pt g2), (6, E.i ((i.1 : Nat) : Int)), (7, E.pt β), (8, E.pt α), (13, .pointer (some ⟨g2, 23, none⟩)), (14, E.i i.2.1.du), (15, .bool (decide (i.2.1.du > 0))), (16, .bool (decide (i.2.1.du > 0))), (22, .bool ((decide (i.2.1.du > 0)) && (decide (i.2.1.st ≥ i.2.1.du)))), (24, E.i ((i.1 : Nat) : Int)), (25, E.i most), (26, .bool (decide (((i.1 : Nat) : Int) ≥ most))), (29, Q.S.val i.2.1), (30, E.pt c), (31, E.pt m)] (A.X w oo aa [M.It m i.2.2 ([])]) [(β, (Q.S.cells Q.z0)), (α, [E.i 0, E.u 0]), (g2, (Q.S.cells i.2.1)), (g1, [E.i 0, E.u 0]), (c, (E.pt m :: Q.S.cells i.2.1))] := by
  intro β α
  exact up _ _ _ _ _ (E.tk 3 (.iface 35 (E.pt m)) rfl (fun w h => A.hq [2, 3, 4] [0, 1, 5] h) (E.al 4 rfl (A.G.call (I := Unit) (D := fun _ => True) (V := fun _ => .tuple #[Q.S.val ((K.step i.2.1 i.2.2).1), .agg #[E.i ((K.step i.2.1 i.2.2).2.1), E.u ((K.step i.2.1 i.2.2).2.2.1)]]) (q := fun _ => [M.It m ((K.step i.2.1 i.2.2).2.2.2) ([])]) [A.blk β (Q.S.cells Q.z0), A.blk α ([E.i 0, E.u 0]), A.blk g2 (Q.S.cells i.2.1), A.blk g1 ([E.i 0, E.u 0]), A.blk c (E.pt m :: Q.S.cells i.2.1)] (fun _ => [(β, (Q.S.cells Q.z0)), (α, [E.i 0, E.u 0]), (g2, (Q.S.cells i.2.1)), (g1, [E.i 0, E.u 0]), (c, (E.pt m :: Q.S.cells i.2.1))]) (fun _ => [M.It m ((K.step i.2.1 i.2.2).2.2.2) ([])]) (Step_any (m := m) (xs := []) i.2.1 i.2.2 hk1.2.1 hk1.2.2.1) (by kernel_rfl) (A.pn [5, 0, 1, 2, 3, 4]) (fun _ => A.pm [1, 2, 3, 4, 5, 0] (by kernel_rfl) (by kernel_rfl)) (fun w _ => by kernel_rfl) (by kernel_rfl) (fun _ δ => E.H.back (fun w h => A.hq [2, 3, 4] [0, 1, 5] h) (E.ho (dn _ _ _ _ _ (nd10 β α)))))))
 have nd15 : ∀ (β α : Nat), H 8 (E.bits 12 771) [(0, E.pt c), (1, E.i most), (4, E.pt g1), (5, E.pt g2), (6, E.i ((i.1 : Nat) : Int)), (7, E.pt β), (8, E.pt α), (13, .pointer (some ⟨g2, 23, none⟩)), (14, E.i i.2.1.du), (15, .bool (decide (i.2.1.du > 0))), (16, .bool (decide (i.2.1.du > 0))), (22, .bool ((decide (i.2.1.du > 0)) && (decide (i.2.1.st ≥ i.2.1.du)))), (24, E.i ((i.1 : Nat) : Int)), (25, E.i most), (26, .bool (decide (((i.1 : Nat) : Int) ≥ most))), (29, Q.S.val i.2.1), (30, E.pt c)] (A.X w oo aa [M.It m i.2.2 ([])]) [(β, (Q.S.cells Q.z0)), (α, [E.i 0, E.u 0]), (g2, (Q.S.cells i.2.1)), (g1, [E.i 0, E.u 0]), (c, (E.pt m :: Q.S.cells i.2.1))] := by
  intro β α
  exact up _ _ _ _ _ (E.al 2 rfl (E.G.call (E.pt m) (fun w h => A.cq [4] [0, 1, 2, 3, 5] (CMem (c := c) (m := m) (s := i.2.1)) h) (fun w _ => by kernel_rfl) (by kernel_rfl) (E.H.back (fun w h => A.hq [2, 3, 4] [0, 1, 5] h) (E.ho (dn _ _ _ _ _ (nd16 β α))))))
 have nd13 : ∀ (β : Nat), H 9 (E.bits 12 259) [(0, E.pt c), (1, E.i most), (4, E.pt g1), (5, E.pt g2), (6, E.i ((i.1 : Nat) : Int)), (7, E.pt β), (13, .pointer (some ⟨g2, 23, none⟩)), (14, E.i i.2.1.du), (15, .bool (decide (i.2.1.du > 0))), (16, .bool (decide (i.2.1.du > 0))), (22, .bool ((decide (i.2.1.du > 0)) && (decide (i.2.1.st ≥ i.2.1.du)))), (24, E.i ((i.1 : Nat) : Int)), (25, E.i most), (26, .bool (decide (((i.1 : Nat) : Int) ≥ most))), (29, Q.S.val i.2.1), (30, E.pt c)] (A.X w oo aa [M.It m i.2.2 ([])]) [(β, (Q.S.cells Q.z0)), (g2, (Q.S.cells i.2.1)), (g1, [E.i 0, E.u 0]), (c, (E.pt m :: Q.S.cells i.2.1))] := by
  intro β
  refine up _ _ _ _ _ (E.al2 2 9 rfl rfl ?_ ?_)
  ·
   exact E.G.call (E.pt m) (fun w h => A.cq [3] [0, 1, 2, 4] (CMem (c := c) (m := m) (s := i.2.1)) h) (fun w _ => by kernel_rfl) (by kernel_rfl) (E.H.back (fun w h => A.hq [1, 2, 3] [0, 4] h) (E.ho (dn _ _ _ _ _ (nd14 β))))
  exact E.G.new (fun g => E.pt g) [E.i 0, E.u 0] 47 (fun w => by kernel_rfl) (by kernel_rfl) (fun α => E.H.back (fun w h => A.hq [2, 3, 4] [0, 1, 5] h) (E.H.toP _ _ [(β, (Q.S.cells Q.z0)), (α, [E.i 0, E.u 0]), (g2, (Q.S.cells i.2.1)), (g1, [E.i 0, E.u 0]), (c, (E.pt m :: Q.S.cells i.2.1))] (by kernel_rfl) ⟨by kernel_rfl, by kernel_rfl⟩ (A.pn [1, 0, 2, 3, 4]) (dn _ _ _ _ _ (nd15 β α))))
 have nd18 : ∀ (α : Nat), H 8 (E.bits 12 519) [(0, E.pt c), (1, E.i most), (4, E.pt g1), (5, E.pt g2), (6, E.i ((i.1 : Nat) : Int)), (8, E.pt α), (13, .pointer (some ⟨g2, 23, none⟩)), (14, E.i i.2.1.du), (15, .bool (decide (i.2.1.du > 0))), (16, .bool (decide (i.2.1.du > 0))), (22, .bool ((decide (i.2.1.du > 0)) && (decide (i.2.1.st ≥ i.2.1.du)))), (24, E.i ((i.1 : Nat) : Int)), (25, E.i most), (26, .bool (decide (((i.1 : Nat) : Int) ≥ most))), (29, Q.S.val i.2.1), (30, E.pt c), (31, E.pt m)] (A.X w oo aa [M.It m i.2.2 ([])]) [(α, [E.i 0, E.u 0]), (g2, (Q.S.cells i.2.1)), (g1, [E.i 0, E.u 0]), (c, (E.pt m :: Q.S.cells i.2.1))] := by
  intro α
  refine up _ _ _ _ _ (E.tk 3 (.iface 35 (E.pt m)) rfl (fun w h => A.hq [1, 2, 3] [0, 4] h) (E.al2 4 8 rfl rfl ?_ ?_))
  ·
   exact A.G.call (I := Unit) (D := fun _ => True) (V := fun _ => .tuple #[Q.S.val ((K.step i.2.1 i.2.2).1), .agg #[E.i ((K.step i.2.1 i.2.2).2.1), E.u ((K.step i.2.1 i.2.2).2.2.1)]]) (q := fun _ => [M.It m ((K.step i.2.1 i.2.2).2.2.2) ([])]) [A.blk α ([E.i 0, E.u 0]), A.blk g2 (Q.S.cells i.2.1), A.blk g1 ([E.i 0, E.u 0]), A.blk c (E.pt m :: Q.S.cells i.2.1)] (fun _ => [(α, [E.i 0, E.u 0]), (g2, (Q.S.cells i.2.1)), (g1, [E.i 0, E.u 0]), (c, (E.pt m :: Q.S.cells i.2.1))]) (fun _ => [M.It m ((K.step i.2.1 i.2.2).2.2.2) ([])]) (Step_any (m := m) (xs := []) i.2.1 i.2.2 hk1.2.1 hk1.2.2.1) (by kernel_rfl) (A.pn [4, 0, 1, 2, 3]) (fun _ => A.pm [1, 2, 3, 4, 0] (by kernel_rfl) (by kernel_rfl)) (fun w _ => by kernel_rfl) (by kernel_rfl) (fun _ δ => E.H.back (fun w h => A.hq [1, 2, 3] [0, 4] h) (E.ho (dn _ _ _ _ _ (nd12 α))))
  exact E.G.new (fun g => E.pt g) (Q.S.cells Q.z0) 26 (fun w => by kernel_rfl) (by kernel_rfl) (fun β => E.H.back (fun w h => A.hq [2, 3, 4] [0, 1, 5] h) (E.ho (dn _ _ _ _ _ (nd9 β α))))
 have nd17 : ∀ (α : Nat), H 9 (E.bits 12 515) [(0, E.pt c), (1, E.i most), (4, E.pt g1), (5, E.pt g2), (6, E.i ((i.1 : Nat) : Int)), (8, E.pt α), (13, .pointer (some ⟨g2, 23, none⟩)), (14, E.i i.2.1.du), (15, .bool (decide (i.2.1.du > 0))), (16, .bool (decide (i.2.1.du > 0))), (22, .bool ((decide (i.2.1.du > 0)) && (decide (i.2.1.st ≥ i.2.1.du)))), (24, E.i ((i.1 : Nat) : Int)), (25, E.i most), (26, .bool (decide (((i.1 : Nat) : Int) ≥ most))), (29, Q.S.val i.2.1), (30, E.pt c)] (A.X w oo aa [M.It m i.2.2 ([])]) [(α, [E.i 0, E.u 0]), (g2, (Q.S.cells i.2.1)), (g1, [E.i 0, E.u 0]), (c, (E.pt m :: Q.S.cells i.2.1))] := by
  intro α
  refine up _ _ _ _ _ (E.al2 2 8 rfl rfl ?_ ?_)
  ·
   exact E.G.call (E.pt m) (fun w h => A.cq [3] [0, 1, 2, 4] (CMem (c := c) (m := m) (s := i.2.1)) h) (fun w _ => by kernel_rfl) (by kernel_rfl) (E.H.back (fun w h => A.hq [1, 2, 3] [0, 4] h) (E.ho (dn _ _ _ _ _ (nd18 α))))
  exact E.G.new (fun g => E.pt g) (Q.S.cells Q.z0) 26 (fun w => by kernel_rfl) (by kernel_rfl) (fun β => E.H.back (fun w h => A.hq [2, 3, 4] [0, 1, 5] h) (E.ho (dn _ _ _ _ _ (nd15 β α))))
 refine up _ _ _ _ _ (E.tj 0 (Q.S.val i.2.1) rfl (fun w h => A.hpY0 h (by kernel_rfl)) (fun w h => A.Y.bld h (k := 0) (j := 0) rfl (by kernel_rfl) (by kernel_rfl)) (E.tk 1 (E.pt c) rfl (fun w h => A.hpY0 h (by kernel_rfl)) (E.al3 2 8 9 rfl rfl rfl ?_ ?_ ?_)))
 ·
  exact E.G.call (E.pt m) (fun w h => A.cq [2] [0, 1, 3] (CMem (c := c) (m := m) (s := i.2.1)) h) (fun w _ => by kernel_rfl) (by kernel_rfl) (E.hb (dn _ _ _ _ _ (nd0)))
 ·
  exact E.G.new (fun g => E.pt g) (Q.S.cells Q.z0) 26 (fun w => by kernel_rfl) (by kernel_rfl) (fun β => E.H.back (fun w h => A.hq [1, 2, 3] [0, 4] h) (E.ho (dn _ _ _ _ _ (nd13 β))))
 exact E.G.new (fun g => E.pt g) [E.i 0, E.u 0] 47 (fun w => by kernel_rfl) (by kernel_rfl) (fun α => E.H.back (fun w h => A.hq [1, 2, 3] [0, 4] h) (E.ho (dn _ _ _ _ _ (nd17 α))))
theorem KPoke {c m : Nat} {s : Q.S} {V : M.V} (x : Int) (hx : 0 ≤ x ∧ x < 4294967296) (t : ByteArray) (hs : t.size < 4294967296) : A.Tr Tryz.prog 34 #[.pointer (some ⟨c, 0, none⟩), .int .u32 x, .string t] [A.blk c (.pointer (some ⟨m, 0, none⟩) :: Q.S.cells s), M.It m V []] (I := Unit) (fun _ => True) (fun _ => .tuple #[]) (fun _ => [A.blk c (.pointer (some ⟨m, 0, none⟩) :: Q.S.cells s), M.It m (V.poke (x).toNat t t.size) []]) := by
  intro w oo aa hh
  refine E.enter (n := 11) (S := oo) Tryz.func34 rfl rfl (by kernel_rfl) (A.start (L := [(c, (.pointer (some ⟨m, 0, none⟩) :: Q.S.cells s))]) hh) ?_
  refine E.C.region ?_
  refine E.op (.pointer (some ⟨c, 0, none⟩)) ?_
  refine E.G.call (.pointer (some ⟨m, 0, none⟩)) (fun w h => A.cq [0] [1] (CMem (c := c) (m := m) (s := s)) h) (fun w _ => by kernel_rfl) (by kernel_rfl) ?_
  refine E.op (.int .u32 x) ?_
  refine E.op (.string t) ?_
  refine A.G.call (I := Unit) (D := fun _ => True) (V := fun _ => .tuple #[]) (q := fun _ => [M.It m (V.poke (x).toNat t t.size) ([])]) [A.blk c (.pointer (some ⟨m, 0, none⟩) :: Q.S.cells s)] (fun _ => [(c, (.pointer (some ⟨m, 0, none⟩) :: Q.S.cells s))]) (fun _ => [M.It m (V.poke (x).toNat t t.size) ([])]) (I_Poke x t hx hs (m := m) (V := V) (xs := [])) (by kernel_rfl) (A.pn [1, 0]) (fun _ => A.pm [1, 0] (by kernel_rfl) (by kernel_rfl)) (fun w _ => by kernel_rfl) (by kernel_rfl) (fun _ hd1 => ?_)
  refine E.To.bodyN (fn := Tryz.f34) [] ?_ ?_
  · exact trivial
  · intro w h
    exact ⟨(), trivial, rfl, A.dq [0, 1] [] h⟩
theorem KProtect {c m : Nat} {s : Q.S} {V : M.V} (n z : Int) : A.Tr Tryz.prog 24 #[.pointer (some ⟨c, 0, none⟩), .int .i64 n, .int .i64 z] [A.blk c (.pointer (some ⟨m, 0, none⟩) :: Q.S.cells s), M.It m V []] (I := Unit) (fun _ => True) (fun _ => .tuple #[]) (fun _ => [A.blk c (.pointer (some ⟨m, 0, none⟩) :: Q.S.cells s), M.It m (V.prot n z) []]) := by
  intro w oo aa hh
  refine E.enter (n := 11) (S := oo) Tryz.func24 rfl rfl (by kernel_rfl) (A.start (L := [(c, (.pointer (some ⟨m, 0, none⟩) :: Q.S.cells s))]) hh) ?_
  refine E.C.region ?_
  refine E.op (.pointer (some ⟨c, 0, none⟩)) ?_
  refine E.G.call (.pointer (some ⟨m, 0, none⟩)) (fun w h => A.cq [0] [1] (CMem (c := c) (m := m) (s := s)) h) (fun w _ => by kernel_rfl) (by kernel_rfl) ?_
  refine E.op (.int .i64 n) ?_
  refine E.op (.int .i64 z) ?_
  refine A.G.call (I := Unit) (D := fun _ => True) (V := fun _ => .tuple #[]) (q := fun _ => [M.It m (V.prot n z) ([])]) [A.blk c (.pointer (some ⟨m, 0, none⟩) :: Q.S.cells s)] (fun _ => [(c, (.pointer (some ⟨m, 0, none⟩) :: Q.S.cells s))]) (fun _ => [M.It m (V.prot n z) ([])]) (A_Protect n z (m := m) (V := V) (xs := [])) (by kernel_rfl) (A.pn [1, 0]) (fun _ => A.pm [1, 0] (by kernel_rfl) (by kernel_rfl)) (fun w _ => by kernel_rfl) (by kernel_rfl) (fun _ hd1 => ?_)
  refine E.To.bodyN (fn := Tryz.f24) [] ?_ ?_
  · exact trivial
  · intro w h
    exact ⟨(), trivial, rfl, A.dq [0, 1] [] h⟩
theorem E.api_Trap_eql {fr : E.Fr} {x y : Operand} {u T : TypeId} {d : Option Nat} {pos : String} {af : Array Edge} {gd : Option (Nat × Bool)} {a0 a1 b0 b1 : Int} {w : World}
    (hx : E.ev fr x = .agg #[.int .i64 a0, .int .u32 a1]) (hy : E.ev fr y = .agg #[.int .i64 b0, .int .u32 b1]) :
    (execOp (E.ev fr) ⟨d, .binOp .eql 47 x y u, T, pos, af, gd⟩).run Tryz.prog w = .ok (.value (.bool (a0 == b0 && a1 == b1))) w := by
  show (do let r ← (do eqGuard .eql 47 x y (E.ev fr x) (E.ev fr y); binOp .eql 47 (E.ev fr x) (E.ev fr y)); pure (Next.value r) : Sem Next).run Tryz.prog w = _
  rw [hx, hy]
  go_simp
  (repeat' split) <;> simp_all
theorem E.api_Trap_neq {fr : E.Fr} {x y : Operand} {u T : TypeId} {d : Option Nat} {pos : String} {af : Array Edge} {gd : Option (Nat × Bool)} {a0 a1 b0 b1 : Int} {w : World}
    (hx : E.ev fr x = .agg #[.int .i64 a0, .int .u32 a1]) (hy : E.ev fr y = .agg #[.int .i64 b0, .int .u32 b1]) :
    (execOp (E.ev fr) ⟨d, .binOp .neq 47 x y u, T, pos, af, gd⟩).run Tryz.prog w = .ok (.value (.bool (!(a0 == b0 && a1 == b1)))) w := by
  show (do let r ← (do eqGuard .neq 47 x y (E.ev fr x) (E.ev fr y); binOp .neq 47 (E.ev fr x) (E.ev fr y)); pure (Next.value r) : Sem Next).run Tryz.prog w = _
  rw [hx, hy]
  go_simp
  (repeat' split) <;> simp_all
theorem Q.run_items (w : World) (d : Nat) (l : List Value) (hl : ∀ (i : Nat) (v : Value), l[i]? = some v → ∃ x : Int, v = Value.int .u32 x) : ∀ (is : List Nat), (∀ i ∈ is, i < l.length) → (Op.eqItems (d + 1) 22 1 l.toArray l.toArray is).run Tryz.prog w = .ok true w
  | [], _ => by simp [Op.eqItems]
  | i :: is, h => by
    have hi : i < l.length := h i (by simp)
    have ih := Q.run_items w d l hl is fun j hj => h j (by simp [hj])
    have ha : (isAgg 22).run Tryz.prog w = .ok false w := M.one Tryz.underlying22 rfl
    obtain ⟨x, hx⟩ := hl i _ (List.getElem?_eq_getElem hi)
    have p : (part 22 l.toArray (i * 1)).run Tryz.prog w = .ok (.int .u32 x) w := by
      have hg : l[i]? = some (.int .u32 x) := by rw [List.getElem?_eq_getElem hi, hx]
      simp [part, ha, hg]
    have e := run_equalIn_int (P := Tryz.prog) w d 22 .u32 .u32 x x Tryz.underlying22
    simp only [Op.eqItems, Sem.run_bind, p, e, Result.andThen_ok]
    simpa using ih
theorem Q.run_row (w : World) {t : TypeId} (n : Nat) (l : List Value) (ht : Tryz.prog.underlying t = some (.array n 22)) (hn : l.length = n) (hl : ∀ (i : Nat) (v : Value), l[i]? = some v → ∃ x : Int, v = Value.int .u32 x) : (Op.equalIn 9999 t (.agg l.toArray) (.agg l.toArray)).run Tryz.prog w = .ok true w := by
  subst hn
  have hi : ∃ i, Tryz.prog.info? 22 = some i := by
    cases h : Tryz.prog.info? 22 with
    | some i => exact ⟨i, rfl⟩
    | none => have : (Tryz.prog.info? 22).isSome = true := by kernel_rfl
              rw [h] at this; cases this
  obtain ⟨i, hi⟩ := hi
  have h := run_equalIn_array (P := Tryz.prog) w 9998 l.toArray l.toArray ht hi
  have hc : Tryz.prog.cellsOf 22 = 1 := by kernel_rfl
  rw [hc, Q.run_items w 9997 l hl (List.range l.length) (by simp)] at h
  exact h
theorem Q.all_u32 {l : List Int} : ∀ (i : Nat) (v : Value), (l.map (Value.int .u32))[i]? = some v → ∃ x : Int, v = Value.int .u32 x := fun i v h => by
  rw [List.getElem?_map] at h
  cases hq : l[i]? with
  | none => rw [hq] at h; cases h
  | some x => rw [hq] at h; exact ⟨x, (Option.some.inj h).symm⟩
theorem E.api_State_self {fr : E.Fr} {x y : Operand} {u T : TypeId} {d : Option Nat} {pos : String} {af : Array Edge} {gd : Option (Nat × Bool)} (s : Q.S) {w : World}
    (hx : E.ev fr x = s.val) (hy : E.ev fr y = s.val) :
    (execOp (E.ev fr) ⟨d, .binOp .eql 26 x y u, T, pos, af, gd⟩).run Tryz.prog w = .ok (.value (.bool true)) w := by
  show (do let r ← (do eqGuard .eql 26 x y (E.ev fr x) (E.ev fr y); binOp .eql 26 (E.ev fr x) (E.ev fr y)); pure (Next.value r) : Sem Next).run Tryz.prog w = _
  have h1 := Q.run_row w 16 ([s.r 0, s.r 1, s.r 2, s.r 3, s.r 4, s.r 5, s.r 6, s.r 7, s.r 8, s.r 9, s.r 10, s.r 11, s.r 12, s.r 13, s.r 14, s.r 15].map (Value.int .u32)) Tryz.underlying23 rfl Q.all_u32
  have h2 := Q.run_row w 4 ([s.c 0, s.c 1, s.c 2, s.c 3].map (Value.int .u32)) Tryz.underlying24 rfl Q.all_u32
  simp only [List.map_cons, List.map_nil] at h1 h2
  rw [hx, hy]
  unfold Q.S.val
  go_simp
theorem E.api_State_nself {fr : E.Fr} {x y : Operand} {u T : TypeId} {d : Option Nat} {pos : String} {af : Array Edge} {gd : Option (Nat × Bool)} (s : Q.S) {w : World}
    (hx : E.ev fr x = s.val) (hy : E.ev fr y = s.val) :
    (execOp (E.ev fr) ⟨d, .binOp .neq 26 x y u, T, pos, af, gd⟩).run Tryz.prog w = .ok (.value (.bool false)) w := by
  show (do let r ← (do eqGuard .neq 26 x y (E.ev fr x) (E.ev fr y); binOp .neq 26 (E.ev fr x) (E.ev fr y)); pure (Next.value r) : Sem Next).run Tryz.prog w = _
  have h1 := Q.run_row w 16 ([s.r 0, s.r 1, s.r 2, s.r 3, s.r 4, s.r 5, s.r 6, s.r 7, s.r 8, s.r 9, s.r 10, s.r 11, s.r 12, s.r 13, s.r 14, s.r 15].map (Value.int .u32)) Tryz.underlying23 rfl Q.all_u32
  have h2 := Q.run_row w 4 ([s.c 0, s.c 1, s.c 2, s.c 3].map (Value.int .u32)) Tryz.underlying24 rfl Q.all_u32
  simp only [List.map_cons, List.map_nil] at h1 h2
  rw [hx, hy]
  unfold Q.S.val
  go_simp
theorem E.api_State_same {fr : E.Fr} {x y : Operand} {u T : TypeId} {d : Option Nat} {pos : String} {af : Array Edge} {gd : Option (Nat × Bool)} {s t : Q.S} {w : World} (e : s = t)
    (hx : E.ev fr x = s.val) (hy : E.ev fr y = t.val) :
    (execOp (E.ev fr) ⟨d, .binOp .eql 26 x y u, T, pos, af, gd⟩).run Tryz.prog w = .ok (.value (.bool true)) w := by
  subst e; exact E.api_State_self s hx hy
theorem Q.z0_wf : Q.wf Q.z0 := ⟨by decide, fun _ => by show (0 : Int) ≤ 0 ∧ (0 : Int) < 4294967296; decide, fun _ => by show (0 : Int) ≤ 0 ∧ (0 : Int) < 4294967296; decide⟩
theorem K.norm_wf {s : Q.S} (h : Q.wf s) : Q.wf (K.norm s) := ⟨h.pc, (Q.up_bd (Q.up_bd (Q.up_bd (Q.up_bd (Q.up_bd (Q.up_bd (Q.up_bd (Q.up_bd h.r (by decide)) (by decide)) (by decide)) (by decide)) (by decide)) (by decide)) (by decide)) (by decide)), h.c⟩
def K.snA : M.V := (((M.V.new (M.np 1) true).prot 0 7).poke (0 : Int).toNat ⟨#[65, 1, 5, 0, 0, 0, 2]⟩ 7)
def K.snB : M.V := (((M.V.new (M.np 1) true).prot 0 7).poke (0 : Int).toNat ⟨#[16, 1]⟩ 2)
theorem K.lst_bd : ∀ (l : List Int), (∀ x, x ∈ l → 0 ≤ x ∧ x < 4294967296) → ∀ k, 0 ≤ l.getD k 0 ∧ l.getD k 0 < 4294967296
  | [], _, k => by show (0 : Int) ≤ 0 ∧ (0 : Int) < 4294967296; decide
  | x :: l, h, 0 => h x (List.mem_cons_self ..)
  | x :: l, h, k + 1 => K.lst_bd l (fun y hy => h y (List.mem_cons_of_mem _ hy)) k
theorem K.zero_bd (k : Nat) : 0 ≤ (fun _ => 0 : Nat → Int) k ∧ (fun _ => 0 : Nat → Int) k < 4294967296 := by show (0 : Int) ≤ 0 ∧ (0 : Int) < 4294967296; decide
def K.sn1 : Q.S × Int × Int × M.V := K.runs 10 Q.z0 K.snA
def K.snS : Q.S := K.norm ⟨0, (fun k => [0, 0, 0, 0, 0, 0, 0, 2, 0, 0, 0, 0, 0, 0, 0, 0].getD k 0), 0, (fun _ => 0), 0, 0⟩
theorem K.snS_wf : Q.wf K.snS := K.norm_wf ⟨by show (0 : Int) ≤ 0 ∧ (0 : Int) < 4294967296; decide, K.lst_bd _ (by decide), K.zero_bd⟩
def K.sn2 : Q.S × Int × Int × M.V := K.runs 1 K.snS K.snB
theorem K.sn2_st : K.sn2.1 = ⟨0, (fun k => [0, 0, 0, 0, 0, 0, 0, 2, 0, 0, 0, 0, 0, 0, 0, 0].getD k 0), 0, (fun _ => 0), 0, 0⟩ := by
  have e : K.sn2.1 = K.snS := by kernel_rfl
  rw [e]; unfold K.snS K.norm
  have hr : ∀ k, (Q.up (Q.up (Q.up (Q.up (Q.up (Q.up (Q.up (Q.up (fun k => [0, 0, 0, 0, 0, 0, 0, 2, 0, 0, 0, 0, 0, 0, 0, 0].getD k 0) 8 0) 9 0) 10 0) 11 0) 12 0) 13 0) 14 0) 15 0) k = ([0, 0, 0, 0, 0, 0, 0, 2, 0, 0, 0, 0, 0, 0, 0, 0] : List Int).getD k 0 := fun k => by
    rcases Nat.lt_or_ge k 16 with h | h
    · rcases (by omega : k = 0 ∨ k = 1 ∨ k = 2 ∨ k = 3 ∨ k = 4 ∨ k = 5 ∨ k = 6 ∨ k = 7 ∨ k = 8 ∨ k = 9 ∨ k = 10 ∨ k = 11 ∨ k = 12 ∨ k = 13 ∨ k = 14 ∨ k = 15) with rfl | rfl | rfl | rfl | rfl | rfl | rfl | rfl | rfl | rfl | rfl | rfl | rfl | rfl | rfl | rfl <;> rfl
    · unfold Q.up
      simp only [if_neg (by omega : ¬ k = 8), if_neg (by omega : ¬ k = 9), if_neg (by omega : ¬ k = 10), if_neg (by omega : ¬ k = 11), if_neg (by omega : ¬ k = 12), if_neg (by omega : ¬ k = 13), if_neg (by omega : ¬ k = 14), if_neg (by omega : ¬ k = 15)]
  rw [funext hr]; rfl
theorem San5  : A.Rd Tryz.prog 15 #[] [] (.bool true) := by
 intro w oo aa hh
 refine E.enter (n := 64) (S := oo) Tryz.func15 rfl rfl (by kernel_rfl) (A.start (L := []) hh) (E.sr (E.op (.bool false) (E.tr (A.G.call (I := Nat × Nat) (D := fun i1 => True) (V := fun i1 => E.pt i1.1) (q := fun i1 => [A.blk i1.1 (E.pt i1.2 :: Q.S.cells Q.z0), M.It i1.2 (M.V.new (M.np 1) true) ([])]) [] (fun i1 => [(i1.1, (E.pt i1.2 :: Q.S.cells Q.z0))]) (fun i1 => [M.It i1.2 (M.V.new (M.np 1) true) ([])]) (CNew 1) (by kernel_rfl) (A.pn []) (fun i1 => A.pm [0, 1] (by kernel_rfl) (by kernel_rfl)) (fun w _ => by kernel_rfl) (by kernel_rfl) (fun i1 hd2 => E.op (E.pt i1.1) (E.tr (E.op (E.pt i1.1) (A.G.call (I := Unit) (D := fun _ => True) (V := fun _ => .tuple #[]) (q := fun _ => [A.blk i1.1 (E.pt i1.2 :: Q.S.cells Q.z0), M.It i1.2 ((M.V.new (M.np 1) true).prot 0 7) ([])]) [] (fun _ => [(i1.1, (E.pt i1.2 :: Q.S.cells Q.z0))]) (fun _ => [M.It i1.2 ((M.V.new (M.np 1) true).prot 0 7) ([])]) (KProtect 0 7 (c := i1.1) (m := i1.2) (s := Q.z0) (V := (M.V.new (M.np 1) true))) (by kernel_rfl) (A.pn [0, 1]) (fun _ => A.pm [0, 1] (by kernel_rfl) (by kernel_rfl)) (fun w _ => by kernel_rfl) (by kernel_rfl) (fun _ hd3 => E.tr (E.op (E.pt i1.1) (A.G.call (I := Unit) (D := fun _ => True) (V := fun _ => .tuple #[]) (q := fun _ => [A.blk i1.1 (E.pt i1.2 :: Q.S.cells Q.z0), M.It i1.2 K.snA ([])]) [] (fun _ => [(i1.1, (E.pt i1.2 :: Q.S.cells Q.z0))]) (fun _ => [M.It i1.2 K.snA ([])]) (KPoke 0 (by decide) (⟨#[65, 1, 5, 0, 0, 0, 2]⟩ : ByteArray) (by decide) (c := i1.1) (m := i1.2) (s := Q.z0) (V := ((M.V.new (M.np 1) true).prot 0 7))) (by kernel_rfl) (A.pn [0, 1]) (fun _ => A.pm [0, 1] (by kernel_rfl) (by kernel_rfl)) (fun w _ => by kernel_rfl) (by kernel_rfl) (fun _ hd4 => ?_))))))))))))
 refine E.tr (E.op (E.pt i1.1) (A.G.call (I := Unit) (D := fun _ => True) (V := fun _ => .agg #[E.i K.sn1.2.1, E.u K.sn1.2.2.1]) (q := fun _ => [A.blk i1.1 (E.pt i1.2 :: Q.S.cells K.sn1.1), M.It i1.2 K.sn1.2.2.2 ([])]) [] (fun _ => [(i1.1, (E.pt i1.2 :: Q.S.cells K.sn1.1))]) (fun _ => [M.It i1.2 K.sn1.2.2.2 ([])]) (CRun (c := i1.1) (m := i1.2) 10 Q.z0 K.snA (by decide) Q.z0_wf (R.Wf.poke (R.Wf.prot (R.Wf.new (M.np_le _) _) _ _) _ _ _)) (by kernel_rfl) (A.pn [0, 1]) (fun _ => A.pm [0, 1] (by kernel_rfl) (by kernel_rfl)) (fun w _ => by kernel_rfl) (by kernel_rfl) (fun _ hd5 => E.G.new (fun g => E.pt g) [E.i 0, E.u 0] 47 (fun w => by kernel_rfl) (by kernel_rfl) (fun g6 => E.st 0 [E.i K.sn1.2.1, E.u K.sn1.2.2.1] rfl rfl (E.tr (E.op (E.pt i1.1) (E.G.call (Q.S.val K.sn1.1) (fun w h => A.cq [1] [0, 2] (CState (c := i1.1) (m := i1.2) K.sn1.1) h) (fun w _ => by kernel_rfl) (by kernel_rfl) (E.G.new (fun g => E.pt g) (Q.S.cells Q.z0) 26 (fun w => by kernel_rfl) (by kernel_rfl) (fun g7 => E.st 0 (Q.S.cells K.sn1.1) rfl rfl (E.To.code (E.wk [(0, .bool false), (2, E.pt g6), (3, E.pt g7)] [(g7, (Q.S.cells K.sn1.1)), (g6, [E.i K.sn1.2.1, E.u K.sn1.2.2.1])] Nz.sub ?_)))))))))))
 refine E.sr (E.li (.agg #[E.i K.sn1.2.1, E.u K.sn1.2.2.1]) 1 rfl rfl (E.vl (.agg #[E.i 2, E.u 0]) (fun w h => E.run_build #[E.i 2, E.u 0] (by kernel_rfl) w) (E.vl (.bool true) (fun w h => E.run_as (a := .bool ((K.sn1.2.1 == 2) && (K.sn1.2.2.1 == 0))) (E.api_Trap_eql (by kernel_rfl) (by kernel_rfl)) (congrArg Value.bool (by kernel_rfl))) (E.op (.bool true) (E.op (.pointer (some ⟨g7, 1, none⟩)) (E.op (.pointer (some ⟨g7, 2, none⟩)) (E.li (E.u (K.sn1.1.r 1)) 0 rfl rfl (E.vl (.bool true) (fun w h => E.run_as (a := .bool ((K.sn1.1.r 1) == 5)) (by kernel_rfl) (congrArg Value.bool (by kernel_rfl))) (E.op (.bool true) (E.op (.bool true) (E.op (.pointer (some ⟨g7, 17, none⟩)) ?_)))))))))))
 refine E.li (E.u K.sn1.1.f) 0 rfl rfl (E.vl (.bool true) (fun w h => E.run_as (a := .bool (K.sn1.1.f == 0)) (by kernel_rfl) (congrArg Value.bool (by kernel_rfl))) (E.op (.bool true) (E.op (.bool true) (E.op (E.pt g7) (E.li (E.u K.sn1.1.pc) 0 rfl rfl (E.vl (.bool true) (fun w h => E.run_as (a := .bool (K.sn1.1.pc == 6)) (by kernel_rfl) (congrArg Value.bool (by kernel_rfl))) (E.op (.bool true) (E.op (.bool true) (E.op (.pointer (some ⟨g7, 22, none⟩)) (E.li (E.i K.sn1.1.st) 0 rfl rfl (E.vl (.bool true) (fun w h => E.run_as (a := .bool (K.sn1.1.st == 1)) (by kernel_rfl) (congrArg Value.bool (by kernel_rfl))) ?_)))))))))))
 refine E.op (.bool true) (E.op (.bool true) (E.To.code (E.wk [(0, .bool false), (4, .bool true)] [] Nz.sub (E.sr (A.G.call (I := Nat × Nat) (D := fun i8 => True) (V := fun i8 => E.pt i8.1) (q := fun i8 => [A.blk i8.1 (E.pt i8.2 :: Q.S.cells Q.z0), M.It i8.2 (M.V.new (M.np 1) true) ([])]) [M.It i1.2 K.sn1.2.2.2 ([])] (fun i8 => [(i8.1, (E.pt i8.2 :: Q.S.cells Q.z0))]) (fun i8 => [M.It i8.2 (M.V.new (M.np 1) true) ([]), M.It i1.2 K.sn1.2.2.2 ([])]) (CNew 1) (by kernel_rfl) (A.pn [0]) (fun i8 => A.pm [0, 1, 2] (by kernel_rfl) (by kernel_rfl)) (fun w _ => by kernel_rfl) (by kernel_rfl) (fun i8 hd9 => E.op (E.pt i8.1) (E.tr (E.op (E.pt i8.1) (A.G.call (I := Unit) (D := fun _ => True) (V := fun _ => .tuple #[]) (q := fun _ => [A.blk i8.1 (E.pt i8.2 :: Q.S.cells Q.z0), M.It i8.2 ((M.V.new (M.np 1) true).prot 0 7) ([])]) [M.It i1.2 K.sn1.2.2.2 ([])] (fun _ => [(i8.1, (E.pt i8.2 :: Q.S.cells Q.z0))]) (fun _ => [M.It i8.2 ((M.V.new (M.np 1) true).prot 0 7) ([]), M.It i1.2 K.sn1.2.2.2 ([])]) (KProtect 0 7 (c := i8.1) (m := i8.2) (s := Q.z0) (V := (M.V.new (M.np 1) true))) (by kernel_rfl) (A.pn [0, 1, 2]) (fun _ => A.pm [0, 1, 2] (by kernel_rfl) (by kernel_rfl)) (fun w _ => by kernel_rfl) (by kernel_rfl) (fun _ hd10 => E.tr (E.op (E.pt i8.1) ?_)))))))))))
 refine A.G.call (I := Unit) (D := fun _ => True) (V := fun _ => .tuple #[]) (q := fun _ => [A.blk i8.1 (E.pt i8.2 :: Q.S.cells Q.z0), M.It i8.2 K.snB ([])]) [M.It i1.2 K.sn1.2.2.2 ([])] (fun _ => [(i8.1, (E.pt i8.2 :: Q.S.cells Q.z0))]) (fun _ => [M.It i8.2 K.snB ([]), M.It i1.2 K.sn1.2.2.2 ([])]) (KPoke 0 (by decide) (⟨#[16, 1]⟩ : ByteArray) (by decide) (c := i8.1) (m := i8.2) (s := Q.z0) (V := ((M.V.new (M.np 1) true).prot 0 7))) (by kernel_rfl) (A.pn [0, 1, 2]) (fun _ => A.pm [0, 1, 2] (by kernel_rfl) (by kernel_rfl)) (fun w _ => by kernel_rfl) (by kernel_rfl) (fun _ hd11 => E.tr (E.op (E.pt i8.1) (E.vl (.agg #[E.u 0, E.u 0, E.u 0, E.u 0, E.u 0, E.u 0, E.u 0, E.u 2, E.u 0, E.u 0, E.u 0, E.u 0, E.u 0, E.u 0, E.u 0, E.u 0]) (fun w h => E.run_build #[E.u 0, E.u 0, E.u 0, E.u 0, E.u 0, E.u 0, E.u 0, E.u 2, E.u 0, E.u 0, E.u 0, E.u 0, E.u 0, E.u 0, E.u 0, E.u 0] (by kernel_rfl) w) (E.vl (Q.S.val (⟨0, (fun k => [0, 0, 0, 0, 0, 0, 0, 2, 0, 0, 0, 0, 0, 0, 0, 0].getD k 0), 0, (fun _ => 0), 0, 0⟩)) (fun w h => E.run_build (Q.S.cells ⟨0, (fun k => [0, 0, 0, 0, 0, 0, 0, 2, 0, 0, 0, 0, 0, 0, 0, 0].getD k 0), 0, (fun _ => 0), 0, 0⟩).toArray (by kernel_rfl) w) (A.G.call (I := Unit) (D := fun _ => True) (V := fun _ => .tuple #[]) (q := fun _ => [A.blk i8.1 (E.pt i8.2 :: Q.S.cells K.snS)]) [M.It i8.2 K.snB ([]), M.It i1.2 K.sn1.2.2.2 ([])] (fun _ => [(i8.1, (E.pt i8.2 :: Q.S.cells K.snS))]) (fun _ => [M.It i8.2 K.snB ([]), M.It i1.2 K.sn1.2.2.2 ([])]) (CSet (c := i8.1) (m := i8.2) (s0 := Q.z0) (⟨0, (fun k => [0, 0, 0, 0, 0, 0, 0, 2, 0, 0, 0, 0, 0, 0, 0, 0].getD k 0), 0, (fun _ => 0), 0, 0⟩ : Q.S)) (by kernel_rfl) (A.pn [0, 1, 2]) (fun _ => A.pm [0, 1, 2] (by kernel_rfl) (by kernel_rfl)) (fun w _ => by kernel_rfl) (by kernel_rfl) (fun _ hd12 => E.To.code (E.wk [(0, .bool false), (4, .bool true), (5, E.pt i8.1)] [(i8.1, (E.pt i8.2 :: Q.S.cells K.snS))] Nz.sub (E.sr (E.op (E.pt i8.1) (A.G.call (I := Unit) (D := fun _ => True) (V := fun _ => .agg #[E.i K.sn2.2.1, E.u K.sn2.2.2.1]) (q := fun _ => [A.blk i8.1 (E.pt i8.2 :: Q.S.cells K.sn2.1), M.It i8.2 K.sn2.2.2.2 ([])]) [M.It i1.2 K.sn1.2.2.2 ([])] (fun _ => [(i8.1, (E.pt i8.2 :: Q.S.cells K.sn2.1))]) (fun _ => [M.It i8.2 K.sn2.2.2.2 ([]), M.It i1.2 K.sn1.2.2.2 ([])]) (CRun (c := i8.1) (m := i8.2) 1 K.snS K.snB (by decide) K.snS_wf (R.Wf.poke (R.Wf.prot (R.Wf.new (M.np_le _) _) _ _) _ _ _)) (by kernel_rfl) (A.pn [0, 1, 2]) (fun _ => A.pm [0, 1, 2] (by kernel_rfl) (by kernel_rfl)) (fun w _ => by kernel_rfl) (by kernel_rfl) (fun _ hd13 => E.G.new (fun g => E.pt g) [E.i 0, E.u 0] 47 (fun w => by kernel_rfl) (by kernel_rfl) (fun g14 => ?_))))))))))))
 refine E.st 0 [E.i K.sn2.2.1, E.u K.sn2.2.2.1] rfl rfl (E.tr (E.op (.bool true) (E.op (.bool true) (E.li (.agg #[E.i K.sn2.2.1, E.u K.sn2.2.2.1]) 0 rfl rfl (E.vl (.agg #[E.i 5, E.u 4294967294]) (fun w h => E.run_build #[E.i 5, E.u 4294967294] (by kernel_rfl) w) (E.vl (.bool true) (fun w h => E.run_as (a := .bool ((K.sn2.2.1 == 5) && (K.sn2.2.2.1 == 4294967294))) (E.api_Trap_eql (by kernel_rfl) (by kernel_rfl)) (congrArg Value.bool (by kernel_rfl))) (E.op (.bool true) (E.op (.bool true) (E.op (E.pt i8.1) (E.G.call (Q.S.val K.sn2.1) (fun w h => A.cq [1] [0, 2, 3] (CState (c := i8.1) (m := i8.2) K.sn2.1) h) (fun w _ => by kernel_rfl) (by kernel_rfl) (E.vl (.agg #[E.u 0, E.u 0, E.u 0, E.u 0, E.u 0, E.u 0, E.u 0, E.u 2, E.u 0, E.u 0, E.u 0, E.u 0, E.u 0, E.u 0, E.u 0, E.u 0]) (fun w h => E.run_build #[E.u 0, E.u 0, E.u 0, E.u 0, E.u 0, E.u 0, E.u 0, E.u 2, E.u 0, E.u 0, E.u 0, E.u 0, E.u 0, E.u 0, E.u 0, E.u 0] (by kernel_rfl) w) ?_)))))))))))
 exact E.vl (Q.S.val (⟨0, (fun k => [0, 0, 0, 0, 0, 0, 0, 2, 0, 0, 0, 0, 0, 0, 0, 0].getD k 0), 0, (fun _ => 0), 0, 0⟩)) (fun w h => E.run_build (Q.S.cells ⟨0, (fun k => [0, 0, 0, 0, 0, 0, 0, 2, 0, 0, 0, 0, 0, 0, 0, 0].getD k 0), 0, (fun _ => 0), 0, 0⟩).toArray (by kernel_rfl) w) (E.vl (.bool true) (fun w h => E.api_State_same K.sn2_st (by kernel_rfl) (by kernel_rfl)) (E.op (.bool true) (E.op (.bool true) (E.To.code (E.wk [(0, .bool true)] [] Nz.sub (E.C.ret (E.bd Tryz.f15 [.bool true] (fun w h => ⟨rfl, h.ch.bel (fun x hx => (hh.1 x hx).elim)⟩))))))))
end Go.Proofs.YtglidnmmeclneaaGreat
