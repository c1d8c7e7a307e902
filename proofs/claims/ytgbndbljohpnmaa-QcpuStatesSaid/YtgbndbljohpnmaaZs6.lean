/- Texts of the walk, merged (6): see the remark ahead of each. -/
import Derived.Test.YtgbndbljohpnmaaZs5
import Derived.Test.YtgbndbljohpnmaaProg
import Derived.ChangeKeysEq
/- XQl -/
namespace Go.Proofs.Ytgbndbljohpnmaa
set_option linter.unusedVariables false
set_option linter.unusedSimpArgs false
open Go.RowKit
theorem Q.bifP {α : Type} {p : α → Prop} {c : Bool} {a b : α} (ha : c = true → p a) (hb : c = false → p b) : p (bif c then a else b) := by
  cases c
  · exact hb rfl
  · exact ha rfl
theorem Q.fits_bd {n : Int} {u : Bool} (h : Q.fits n u = true) : 0 ≤ n ∧ n < 16 := by
  unfold Q.fits at h
  simp only [Bool.or_eq_true, Bool.and_eq_true, beq_iff_eq, decide_eq_true_eq] at h
  omega
theorem Q.of_53 : Q.of 53 = ⟨true, true, false, false, 2, 18, 3⟩ := by
  rw [Q.of_lt (by decide)]; kernel_rfl
theorem Q.valid_ok {i : Q.I} (h : Q.valid i = true) (hm : 0 ≤ i.imm ∧ i.imm < 4294967296) : Q.iok i := by
  unfold Q.valid at h
  simp only [Bool.and_eq_true] at h
  obtain ⟨⟨⟨⟨hk, hd⟩, ha⟩, hb⟩, hi⟩ := h
  refine ⟨?_, Q.fits_bd hd, Q.fits_bd ha, Q.fits_bd hb, hm, fun h53 => ?_⟩
  · rcases Classical.em (0 ≤ i.op ∧ i.op < 64) with k | k
    · exact k
    · rw [Q.of_out k] at hk; cases hk
  · have e : i.op = 53 := by simpa using h53
    rw [e, Q.of_53] at hi
    have hi : decide (i.imm ≤ 3) = true := hi
    have := of_decide_eq_true hi
    omega
theorem Q.enc_valid {i : Q.I} (h : ((Q.encode i).2 != 0) = false) : Q.valid i = true := by
  unfold Q.encode at h
  cases hv : Q.valid i with
  | true => rfl
  | false => rw [hv] at h; cases h
theorem Q.decode_ok {x : Int} (h : ((Q.decode x).2 != 0) = false) : Q.iok (Q.decode x).1 := by
  unfold Q.decode at h ⊢
  have key : ∀ c : Q.I, (0 ≤ c.imm ∧ c.imm < 4294967296) → (((bif ((((Q.encode c).2) != 0) || (((Q.encode c).1) != x)) then ((⟨0, 0, 0, 0, 0⟩ : Q.I), (12 : Int)) else (c, 0)).2 != 0) = false) → Q.iok (bif ((((Q.encode c).2) != 0) || (((Q.encode c).1) != x)) then ((⟨0, 0, 0, 0, 0⟩ : Q.I), (12 : Int)) else (c, 0)).1 := fun c hc h => by
    cases hb : ((((Q.encode c).2) != 0) || (((Q.encode c).1) != x)) with
    | true => rw [hb] at h; cases h
    | false => exact Q.valid_ok (Q.enc_valid (Bool.or_eq_false_iff.1 hb).1) hc
  cases hk : ((((Q.of (Q.dop x)).kind) == 1)) with
  | true => rw [hk] at h; exact key _ (Q.dsg_bd x) h
  | false => rw [hk] at h; exact key _ (Q.dimm_bd x) h
theorem Q.fetch_ok {V : M.V} {p : Int} (h : ((Q.fetch V p).2.1 == 0) = true) : Q.iok (Q.fetch V p).1 := by
  unfold Q.fetch at h ⊢
  revert h
  refine Q.bifP (p := fun x : Q.I × Int × Int => (x.2.1 == 0) = true → Q.iok x.1) (fun _ h => absurd h (by decide : ¬ (((7 : Int) == 0) = true))) fun _ => ?_
  iterate 4 refine Q.bifP (p := fun x : Q.I × Int × Int => (x.2.1 == 0) = true → Q.iok x.1) (fun _ h => absurd h (by decide : ¬ (((5 : Int) == 0) = true))) fun _ => ?_
  exact Q.bifP (p := fun x : Q.I × Int × Int => (x.2.1 == 0) = true → Q.iok x.1) (fun _ h => absurd h (by decide : ¬ (((7 : Int) == 0) = true))) fun hd _ => Q.decode_ok hd
theorem Q.wf_sto {V : M.V} (h : R.Wf V) (a : Nat) (n v : Int) : R.Wf (V.sto a n v) := by
  unfold M.V.sto; split
  · exact h.put _ _ _
  · exact h
theorem Q.load_bd {V : M.V} (h : R.Wf V) (a : Nat) (n : Int) : 0 ≤ (V.load a n).1 ∧ (V.load a n).1 < 4294967296 := by
  unfold M.V.load; split
  · exact R.ldv_bd h _ _ _
  · exact ⟨Int.le_refl _, by show (0 : Int) < 4294967296; decide⟩
theorem Q.acc_wf {V : M.V} (h : R.Wf V) (i : Q.I) (x v : Int) : (0 ≤ (Q.acc i V x v).1 ∧ (Q.acc i V x v).1 < 4294967296) ∧ R.Wf (Q.acc i V x v).2.2.2 := by
  unfold Q.acc
  refine Q.bifP (p := fun y : Int × Int × Int × M.V => (0 ≤ y.1 ∧ y.1 < 4294967296) ∧ R.Wf y.2.2.2) (fun _ => ?_) (fun _ => ?_) <;>
    exact Q.bifP (p := fun y : Int × Int × Int × M.V => (0 ≤ y.1 ∧ y.1 < 4294967296) ∧ R.Wf y.2.2.2) (fun _ => ⟨⟨Int.le_refl _, by show (0 : Int) < 4294967296; decide⟩, Q.wf_sto h _ _ _⟩) (fun _ => ⟨Q.load_bd h _ _, h⟩)
theorem Q.ctl_wf {s : Q.S} (h : Q.wf s) (n : Int) {v : Int} (hv : 0 ≤ v ∧ v < 4294967296) : Q.wf (Q.ctl s n v) := by
  unfold Q.ctl
  refine Q.bifP (p := Q.wf) (fun _ => ⟨h.pc, h.r, h.c⟩) fun _ => Q.bifP (p := Q.wf) (fun _ => ⟨h.pc, h.r, h.c⟩) fun _ => Q.bifP (p := Q.wf) (fun _ => ⟨h.pc, h.r, Q.up_bd h.c hv⟩) fun _ => h
theorem Q.stepI_wf {i : Q.I} {k t : Int} {s : Q.S} {V : M.V} (hi : (k == 0) = true → Q.iok i) (hs : Q.wf s) (hV : R.Wf V) : Q.wf (Q.stepI i k t s V).1 ∧ R.Wf (Q.stepI i k t s V).2.2.2 := by
  have hz : (0 : Int) ≤ 0 ∧ (0 : Int) < 4294967296 := by decide
  have hr0 : ∀ d, 0 ≤ Q.up s.r 0 0 d ∧ Q.up s.r 0 0 d < 4294967296 := Q.up_bd hs.r hz
  unfold Q.stepI
  refine Q.bifP (p := fun x : Q.S × Int × Int × M.V => Q.wf x.1 ∧ R.Wf x.2.2.2) (fun hk => ?_) (fun _ => ⟨hs, hV⟩)
  have hI := hi hk
  have hA := Q.acc_wf hV i (IntKind.wrap .u32 (((Q.up s.r 0 0) ((i.a).toNat)) + i.imm)) ((Q.up s.r 0 0) ((i.d).toNat))
  have hop : ∀ c b, (0 ≤ b ∧ b < 4294967296) → 0 ≤ W.op c ((Q.up s.r 0 0) ((i.a).toNat)) b ∧ W.op c ((Q.up s.r 0 0) ((i.a).toNat)) b < 4294967296 := fun c b hb => W.op_bd c _ b (hr0 _).1 (hr0 _).2 hb.1
  have hb : 0 ≤ (bif (decide (i.op ≥ 16)) then i.imm else ((Q.up s.r 0 0) ((i.b).toNat))) ∧ (bif (decide (i.op ≥ 16)) then i.imm else ((Q.up s.r 0 0) ((i.b).toNat))) < 4294967296 := Q.bif_bd hI.imm (hr0 _)
  have hc : Q.wf (Q.ctl (⟨s.pc, (Q.up s.r 0 0), s.f, s.c, s.st, s.du⟩ : Q.S) i.imm ((Q.up s.r 0 0) ((i.a).toNat))) := Q.ctl_wf (s := ⟨s.pc, (Q.up s.r 0 0), s.f, s.c, s.st, s.du⟩) ⟨hs.pc, hr0, hs.c⟩ _ (hr0 _)
  repeat' (first
    | exact ⟨hs, hV⟩
    | exact ⟨hs, hA.2⟩
    | exact ⟨hs, hV.sync _⟩
    | exact ⟨⟨Q.wrap_bd _, Q.up_bd hr0 hz, hs.c⟩, hV⟩
    | exact ⟨⟨Q.wrap_bd _, Q.up_bd hr0 hz, hs.c⟩, hA.2⟩
    | exact ⟨⟨Q.wrap_bd _, Q.up_bd hr0 hz, hs.c⟩, hV.sync _⟩
    | exact ⟨⟨W.bits_bd _ _ _, Q.up_bd hr0 hz, hs.c⟩, hV⟩
    | exact ⟨⟨Q.wrap_bd _, Q.up_bd (Q.up_bd hr0 (hop _ _ hb)) hz, hs.c⟩, hV⟩
    | exact ⟨⟨Q.wrap_bd _, Q.up_bd (Q.up_bd hr0 hA.1) hz, hs.c⟩, hA.2⟩
    | exact ⟨⟨Q.wrap_bd _, Q.up_bd (Q.up_bd hr0 (Q.wrap_bd _)) hz, hs.c⟩, hV⟩
    | exact ⟨⟨W.bits_bd _ _ _, Q.up_bd (Q.up_bd hr0 (Q.wrap_bd _)) hz, hs.c⟩, hV⟩
    | exact ⟨⟨Q.wrap_bd _, Q.up_bd (Q.up_bd hr0 (hs.c _)) hz, hs.c⟩, hV⟩
    | exact ⟨⟨Q.wrap_bd _, Q.up_bd hc.r hz, hc.c⟩, hV⟩
    | refine Q.bifP (p := fun x : Q.S × Int × Int × M.V => Q.wf x.1 ∧ R.Wf x.2.2.2) (fun _ => ?_) (fun _ => ?_))
/-- One step: the state behind it, the trap, the memory. -/
def Q.step (s : Q.S) (V : M.V) : Q.S × Int × Int × M.V := Q.stepI (Q.fetch V s.pc).1 (Q.fetch V s.pc).2.1 (Q.fetch V s.pc).2.2 s V
theorem Q.step_wf {s : Q.S} {V : M.V} (hs : Q.wf s) (hV : R.Wf V) : Q.wf (Q.step s V).1 ∧ R.Wf (Q.step s V).2.2.2 := Q.stepI_wf Q.fetch_ok hs hV
/-- A run: at n instructions of most, with fuel. -/
def Q.run (most : Int) : Nat → Nat → Q.S → M.V → Q.S × Int × Int × M.V
  | 0, _, s, V => (s, 1, 0, V)
  | f + 1, n, s, V => bif (decide (s.du > 0) && decide (s.st ≥ s.du)) then (s, 8, 0, V) else bif (decide (((n : Nat) : Int) ≥ most)) then (s, 1, 0, V) else
    bif ((Q.step s V).2.1 != 0) then (s, (Q.step s V).2.1, (Q.step s V).2.2.1, (Q.step s V).2.2.2) else Q.run most f (n + 1) (Q.step s V).1 (Q.step s V).2.2.2
/-- All of a run. -/
def Q.runs (most : Int) (s : Q.S) (V : M.V) : Q.S × Int × Int × M.V := Q.run most (most.toNat + 1) 0 s V
theorem Step_any {m : Nat} {xs : List Value} (s : Q.S) (V : M.V) (hs : Q.wf s) : A.Tr Try.prog 48 #[Q.S.val s, .iface 82 (.pointer (some ⟨m, 0, none⟩))] [M.It m V xs] (I := Unit) (fun _ => True) (fun _ => .tuple #[Q.S.val ((Q.step s V).1), .agg #[.int .i64 ((Q.step s V).2.1), .int .u32 ((Q.step s V).2.2.1)]]) (fun _ => [M.It m (Q.step s V).2.2.2 xs]) := Step_i _ _ _ s V rfl Q.fetch_ok hs
end Go.Proofs.Ytgbndbljohpnmaa

/- XEm -/
namespace Go.Proofs.Ytgbndbljohpnmaa
set_option linter.unusedVariables false
set_option linter.unusedSimpArgs false
open Go.RowKit
/-- A row of marks. -/
def E.bits (n k : Nat) : Array Bool := ((List.range n).map (Nat.testBit k)).toArray
section
variable {P : Program} {n : Nat} {ops : Array Oper} {Q : Exit → Act → World → Prop} {S : Nat → Prop} {w0 : World} {X : World → Prop} {L : List (Nat × List Value)} {fr : E.Fr} {D : World → Prop} {fuel : Nat} {listed : Array Bool}
/-- Nodes of a region that draws its order. -/
theorem E.H.gen (h : ∀ (H : Nat → Array Bool → E.Fr → (World → Prop) → List (Nat × List Value) → Prop), (∀ f l fr X L, E.H P n ops Q D f l fr S w0 X L → H f l fr X L) → (∀ f l fr X L, H f l fr X L → E.H P n ops Q D f l fr S w0 X L) → H fuel listed fr X L) : E.H P n ops Q D fuel listed fr S w0 X L :=
  h (fun f l fr X L => E.H P n ops Q D f l fr S w0 X L) (fun _ _ _ _ _ h => h) (fun _ _ _ _ _ h => h)
theorem E.H.to (listed' : Array Bool) (fr' : E.Fr) (L' : List (Nat × List Value)) (he : listed = listed') (hs : E.sub fr' fr) (hl : L'.Sublist L) (k : E.H P n ops Q D fuel listed' fr' S w0 X L') : E.H P n ops Q D fuel listed fr S w0 X L :=
  he ▸ E.H.weak fr' L' hs hl k
theorem E.H.toP (listed' : Array Bool) (fr' : E.Fr) (L' : List (Nat × List Value)) (he : listed = listed') (hs : E.sub fr' fr) (hl : L.Perm L') (k : E.H P n ops Q D fuel listed' fr' S w0 X L') : E.H P n ops Q D fuel listed fr S w0 X L :=
  he ▸ fun a w h1 h2 => k a w (h1.sub hs) (h2.perm hl.symm)
end
end Go.Proofs.Ytgbndbljohpnmaa

/- XQm -/
namespace Go.Proofs.Ytgbndbljohpnmaa
set_option linter.unusedVariables false
set_option linter.unusedSimpArgs false
open Go.RowKit
section
variable {most : Int} {F n : Nat} {s : Q.S} {V : M.V}
theorem Q.run_f (h : n < F) : ∃ f, F - n = f + 1 ∧ F - (n + 1) = f := ⟨F - (n + 1), by omega, rfl⟩
theorem Q.run_t (h : n < F) (h1 : (decide (s.du > 0) && decide (s.st ≥ s.du)) = true) : Q.run most (F - n) n s V = (s, 8, 0, V) := by
  obtain ⟨f, e, _⟩ := Q.run_f h
  rw [e, Q.run, h1]; rfl
theorem Q.run_b (h : n < F) (h1 : (decide (s.du > 0) && decide (s.st ≥ s.du)) = false) (h2 : decide (((n : Nat) : Int) ≥ most) = true) : Q.run most (F - n) n s V = (s, 1, 0, V) := by
  obtain ⟨f, e, _⟩ := Q.run_f h
  rw [e, Q.run, h1, h2]; rfl
theorem Q.run_s (h : n < F) (h1 : (decide (s.du > 0) && decide (s.st ≥ s.du)) = false) (h2 : decide (((n : Nat) : Int) ≥ most) = false) (h3 : ((Q.step s V).2.1 != 0) = true) : Q.run most (F - n) n s V = (s, (Q.step s V).2.1, (Q.step s V).2.2.1, (Q.step s V).2.2.2) := by
  obtain ⟨f, e, _⟩ := Q.run_f h
  rw [e, Q.run, h1, h2, h3]; rfl
theorem Q.run_n (h : n < F) (h1 : (decide (s.du > 0) && decide (s.st ≥ s.du)) = false) (h2 : decide (((n : Nat) : Int) ≥ most) = false) (h3 : ((Q.step s V).2.1 != 0) = false) : Q.run most (F - n) n s V = Q.run most (F - (n + 1)) (n + 1) (Q.step s V).1 (Q.step s V).2.2.2 := by
  obtain ⟨f, e, e2⟩ := Q.run_f h
  rw [e2, e, Q.run, h1, h2, h3]; rfl
theorem Q.run_lt (hm : most < 9223372036854775808) (h2 : decide (((n : Nat) : Int) ≥ most) = false) : n + 1 < most.toNat + 1 ∧ IntKind.wrap .i64 (((n : Nat) : Int) + 1) = ((n + 1 : Nat) : Int) := by
  have := of_decide_eq_false h2
  rw [IntKind.wrap_i64]
  omega
end
theorem CRun {c : Nat} (most : Int) (s : Q.S) (V : M.V) (hm : -9223372036854775808 ≤ most ∧ most < 9223372036854775808) (hs : Q.wf s) (hV : R.Wf V) : A.Tr Try.prog 20 #[.pointer (some ⟨c, 0, none⟩), .int .i64 most] [M.It c V (Q.S.cells s)] (I := Unit) (fun _ => True) (fun _ => .agg #[.int .i64 (Q.runs most s V).2.1, .int .u32 (Q.runs most s V).2.2.1]) (fun _ => [M.It c (Q.runs most s V).2.2.2 (Q.S.cells (Q.runs most s V).1)]) := by
  intro w oo aa hh
  refine E.enter (n := 54) (S := oo) Try.func20 rfl rfl (by kernel_rfl) (A.start (L := []) hh) ?_
  refine E.C.seq ?_
  refine E.C.region ?_
  refine E.G.new (fun g => .pointer (some ⟨g, 0, none⟩)) [.int .i64 0, .int .u32 0] 51 (fun w => by kernel_rfl) (by kernel_rfl) (fun g1 => ?_)
  refine E.To.code ?_
  refine E.C.seq ?_
  refine E.C.region ?_
  refine E.G.op (.int .i64 0) (fun w => by kernel_rfl) (by kernel_rfl) ?_
  refine E.To.code ?_
  refine E.C.block ?_
  refine E.C.loop (I := Nat × Q.S × M.V) (fun i => (most.toNat + 1) - i.1) (fun i => i.1 < (most.toNat + 1) ∧ Q.wf i.2.1 ∧ R.Wf i.2.2 ∧ Q.run most ((most.toNat + 1) - i.1) i.1 i.2.1 i.2.2 = (Q.runs most s V)) (fun i => [(0, .pointer (some ⟨c, 0, none⟩)), (1, .int .i64 most), (4, .pointer (some ⟨g1, 0, none⟩)), (5, .int .i64 ((i.1 : Nat) : Int))]) (fun i => A.X w oo aa [M.It c i.2.2 (Q.S.cells i.2.1)]) (fun i => [(g1, [.int .i64 0, .int .u32 0])]) (0, s, V) (⟨Nat.succ_pos _, hs, hV, rfl⟩) ⟨by kernel_rfl, by kernel_rfl⟩ (List.Sublist.refl _) (fun _ h => h) (fun i hk1 => ?_)
  refine E.C.seq ?_
  refine E.C.block ?_
  refine E.C.seq ?_
  refine E.C.seq ?_
  refine E.C.quiet (by kernel_rfl) (by kernel_rfl) ?_
  refine E.W.op (.pointer (some ⟨c, 0, none⟩)) (fun w => by kernel_rfl) (by kernel_rfl) ?_
  refine E.W.op (.pointer (some ⟨c, 0, none⟩)) (fun w => by kernel_rfl) (by kernel_rfl) ?_
  refine E.W.op (.pointer (some ⟨c, 2, none⟩)) (fun w => by kernel_rfl) (by kernel_rfl) ?_
  refine E.W.op (.pointer (some ⟨c, 25, none⟩)) (fun w => by kernel_rfl) (by kernel_rfl) ?_
  refine E.W.val (.int .i64 i.2.1.du) (by kernel_rfl) (fun w h => A.Y.xld (A.X.y h.x) (k := 0) (j := 23) rfl (by kernel_rfl) (by kernel_rfl)) ?_
  refine E.W.op (.bool (decide (i.2.1.du > 0))) (fun w => by kernel_rfl) (by kernel_rfl) ?_
  refine E.W.op (.bool (decide (i.2.1.du > 0))) (fun w => by kernel_rfl) (by kernel_rfl) ?_
  refine E.W.cut 12 [(0, .pointer (some ⟨c, 0, none⟩)), (1, .int .i64 most), (4, .pointer (some ⟨g1, 0, none⟩)), (5, .int .i64 ((i.1 : Nat) : Int)), (10, .pointer (some ⟨c, 0, none⟩)), (11, .pointer (some ⟨c, 0, none⟩)), (12, .pointer (some ⟨c, 2, none⟩)), (13, .pointer (some ⟨c, 25, none⟩)), (14, .int .i64 i.2.1.du), (15, .bool (decide (i.2.1.du > 0))), (16, .bool (decide (i.2.1.du > 0))), (28, .bool ((decide (i.2.1.du > 0)) && (decide (i.2.1.st ≥ i.2.1.du))))] ?_ ?_
  · generalize hc2 : (decide (i.2.1.du > 0)) = b3
    cases b3
    · skip
      refine E.W.skip (by kernel_rfl) (by kernel_rfl) ?_
      refine E.W.skip (by kernel_rfl) (by kernel_rfl) ?_
      refine E.W.skip (by kernel_rfl) (by kernel_rfl) ?_
      refine E.W.skip (by kernel_rfl) (by kernel_rfl) ?_
      refine E.W.skip (by kernel_rfl) (by kernel_rfl) ?_
      refine E.W.skip (by kernel_rfl) (by kernel_rfl) ?_
      refine E.W.skip (by kernel_rfl) (by kernel_rfl) ?_
      refine E.W.skip (by kernel_rfl) (by kernel_rfl) ?_
      refine E.W.skip (by kernel_rfl) (by kernel_rfl) ?_
      refine E.W.skip (by kernel_rfl) (by kernel_rfl) ?_
      refine E.W.skip (by kernel_rfl) (by kernel_rfl) ?_
      refine E.W.op (.bool false) (fun w => by kernel_rfl) (by kernel_rfl) ?_
      exact E.W.end_cut ⟨by kernel_rfl, by kernel_rfl⟩
    · skip
      refine E.W.op (.pointer (some ⟨c, 0, none⟩)) (fun w => by kernel_rfl) (by kernel_rfl) ?_
      refine E.W.op (.pointer (some ⟨c, 0, none⟩)) (fun w => by kernel_rfl) (by kernel_rfl) ?_
      refine E.W.op (.pointer (some ⟨c, 2, none⟩)) (fun w => by kernel_rfl) (by kernel_rfl) ?_
      refine E.W.op (.pointer (some ⟨c, 24, none⟩)) (fun w => by kernel_rfl) (by kernel_rfl) ?_
      refine E.W.val (.int .i64 i.2.1.st) (by kernel_rfl) (fun w h => A.Y.xld (A.X.y h.x) (k := 0) (j := 22) rfl (by kernel_rfl) (by kernel_rfl)) ?_
      refine E.W.op (.pointer (some ⟨c, 0, none⟩)) (fun w => by kernel_rfl) (by kernel_rfl) ?_
      refine E.W.op (.pointer (some ⟨c, 0, none⟩)) (fun w => by kernel_rfl) (by kernel_rfl) ?_
      refine E.W.op (.pointer (some ⟨c, 2, none⟩)) (fun w => by kernel_rfl) (by kernel_rfl) ?_
      refine E.W.op (.pointer (some ⟨c, 25, none⟩)) (fun w => by kernel_rfl) (by kernel_rfl) ?_
      refine E.W.val (.int .i64 i.2.1.du) (by kernel_rfl) (fun w h => A.Y.xld (A.X.y h.x) (k := 0) (j := 23) rfl (by kernel_rfl) (by kernel_rfl)) ?_
      refine E.W.op (.bool (decide (i.2.1.st ≥ i.2.1.du))) (fun w => by kernel_rfl) (by kernel_rfl) ?_
      refine E.W.op (.bool (decide (i.2.1.st ≥ i.2.1.du))) (fun w => by kernel_rfl) (by kernel_rfl) ?_
      exact E.W.end_cut ⟨by kernel_rfl, by kernel_rfl⟩
  refine E.W.done (E.To.code ?_)
  refine E.C.cond ((decide (i.2.1.du > 0)) && (decide (i.2.1.st ≥ i.2.1.du))) (by kernel_rfl) (by kernel_rfl) (fun hc4 => ?_) (fun hc4 => ?_)
  · skip
    refine E.C.seq ?_
    refine E.C.region ?_
    refine E.G.val (.agg #[.int .i64 8, .int .u32 0]) (by kernel_rfl) (fun w h => E.run_build #[.int .i64 8, .int .u32 0] (by kernel_rfl) w) ?_
    refine E.G.store 0 [.int .i64 8, .int .u32 0] rfl rfl (by kernel_rfl) (by kernel_rfl) ?_
    refine E.To.code ?_
    refine E.C.ret (E.P.rt (E.P.rb (E.P.rt (E.P.rt (E.P.rb (E.To.body (fn := Try.f20) [.agg #[.int .i64 8, .int .u32 0]] ?_ ?_))))))
    · exact ⟨⟨by kernel_rfl, _, _, 0, _, rfl, rfl, by kernel_rfl⟩, trivial⟩
    · intro w h
      have e := hk1.2.2.2
      rw [Q.run_t hk1.1 hc4] at e
      rw [← e]
      exact ⟨(), trivial, rfl, A.done (q := [M.It c i.2.2 (Q.S.cells i.2.1)]) (r := [A.blk g1 ([.int .i64 8, .int .u32 0])]) h (by kernel_rfl) (A.pm [1, 0] (by kernel_rfl) (by kernel_rfl))⟩
  · skip
    refine E.C.skip (E.To.code ?_)
    refine E.C.seq ?_
    refine E.C.seq ?_
    refine E.C.region ?_
    refine E.G.op (.int .i64 ((i.1 : Nat) : Int)) (fun w => by kernel_rfl) (by kernel_rfl) ?_
    refine E.G.op (.int .i64 most) (fun w => by kernel_rfl) (by kernel_rfl) ?_
    refine E.G.op (.bool (decide (((i.1 : Nat) : Int) ≥ most))) (fun w => by kernel_rfl) (by kernel_rfl) ?_
    refine E.To.code ?_
    refine E.C.cond (decide (((i.1 : Nat) : Int) ≥ most)) (by kernel_rfl) (by kernel_rfl) (fun hc5 => ?_) (fun hc5 => ?_)
    · skip
      refine E.C.seq ?_
      refine E.C.region ?_
      refine E.G.val (.agg #[.int .i64 1, .int .u32 0]) (by kernel_rfl) (fun w h => E.run_build #[.int .i64 1, .int .u32 0] (by kernel_rfl) w) ?_
      refine E.G.store 0 [.int .i64 1, .int .u32 0] rfl rfl (by kernel_rfl) (by kernel_rfl) ?_
      refine E.To.code ?_
      refine E.C.ret (E.P.rt (E.P.rb (E.P.rt (E.P.rt (E.P.rb (E.To.body (fn := Try.f20) [.agg #[.int .i64 1, .int .u32 0]] ?_ ?_))))))
      · exact ⟨⟨by kernel_rfl, _, _, 0, _, rfl, rfl, by kernel_rfl⟩, trivial⟩
      · intro w h
        have e := hk1.2.2.2
        rw [Q.run_b hk1.1 hc4 hc5] at e
        rw [← e]
        exact ⟨(), trivial, rfl, A.done (q := [M.It c i.2.2 (Q.S.cells i.2.1)]) (r := [A.blk g1 ([.int .i64 1, .int .u32 0])]) h (by kernel_rfl) (A.pm [1, 0] (by kernel_rfl) (by kernel_rfl))⟩
    · skip
      refine E.C.skip (E.To.code ?_)
      refine E.C.seq ?_
      refine E.C.held (M.Xc c (Q.S.cells i.2.1)) (by kernel_rfl) ?_
      refine E.H.gen (fun H up dn => ?_)
      have nd4 : ∀ (v1_g_6_1 : Nat) (v1_g_7_1 : Nat), H 0 (E.bits 16 65535) [(0, .pointer (some ⟨c, 0, none⟩)), (1, .int .i64 most), (4, .pointer (some ⟨g1, 0, none⟩)), (5, .int .i64 ((i.1 : Nat) : Int)), (6, .pointer (some ⟨v1_g_6_1, 0, none⟩)), (7, .pointer (some ⟨v1_g_7_1, 0, none⟩)), (10, .pointer (some ⟨c, 0, none⟩)), (11, .pointer (some ⟨c, 0, none⟩)), (12, .pointer (some ⟨c, 2, none⟩)), (13, .pointer (some ⟨c, 25, none⟩)), (14, .int .i64 i.2.1.du), (15, .bool (decide (i.2.1.du > 0))), (16, .bool (decide (i.2.1.du > 0))), (28, .bool ((decide (i.2.1.du > 0)) && (decide (i.2.1.st ≥ i.2.1.du)))), (30, .int .i64 ((i.1 : Nat) : Int)), (31, .int .i64 most), (32, .bool (decide (((i.1 : Nat) : Int) ≥ most))), (34, .tuple #[Q.S.val ((Q.step i.2.1 i.2.2).1), .agg #[.int .i64 ((Q.step i.2.1 i.2.2).2.1), .int .u32 ((Q.step i.2.1 i.2.2).2.2.1)]]), (35, .pointer (some ⟨c, 0, none⟩)), (36, .pointer (some ⟨c, 0, none⟩)), (37, .pointer (some ⟨c, 2, none⟩)), (38, Q.S.val i.2.1), (39, .pointer (some ⟨c, 0, none⟩)), (40, .pointer (some ⟨c, 0, none⟩)), (41, .pointer (some ⟨c, 0, none⟩)), (42, .iface 82 (.pointer (some ⟨c, 0, none⟩))), (43, .tuple #[Q.S.val ((Q.step i.2.1 i.2.2).1), .agg #[.int .i64 ((Q.step i.2.1 i.2.2).2.1), .int .u32 ((Q.step i.2.1 i.2.2).2.2.1)]]), (44, Q.S.val ((Q.step i.2.1 i.2.2).1)), (45, .agg #[.int .i64 ((Q.step i.2.1 i.2.2).2.1), .int .u32 ((Q.step i.2.1 i.2.2).2.2.1)])] (A.X w oo aa [M.It c ((Q.step i.2.1 i.2.2).2.2.2) (Q.S.cells i.2.1)]) [(v1_g_6_1, (Q.S.cells ((Q.step i.2.1 i.2.2).1))), (v1_g_7_1, [.int .i64 ((Q.step i.2.1 i.2.2).2.1), .int .u32 ((Q.step i.2.1 i.2.2).2.2.1)]), (g1, [.int .i64 0, .int .u32 0])] := by
        intro v1_g_6_1 v1_g_7_1
        refine up _ _ _ _ _ ?_
        refine E.H.done (by kernel_rfl) ?_
        refine E.To.code ?_
        refine E.C.seq ?_
        refine E.C.seq ?_
        refine E.C.region ?_
        refine E.G.op (.pointer (some ⟨v1_g_7_1, 0, none⟩)) (fun w => by kernel_rfl) (by kernel_rfl) ?_
        refine E.G.val (.int .i64 ((Q.step i.2.1 i.2.2).2.1)) (by kernel_rfl) (fun w h => E.run_load h 1 rfl rfl (by kernel_rfl)) ?_
        refine E.G.op (.bool (((Q.step i.2.1 i.2.2).2.1) != 0)) (fun w => by kernel_rfl) (by kernel_rfl) ?_
        refine E.To.code ?_
        refine E.C.cond (((Q.step i.2.1 i.2.2).2.1) != 0) (by kernel_rfl) (by kernel_rfl) (fun hc6 => ?_) (fun hc6 => ?_)
        · skip
          refine E.C.seq ?_
          refine E.C.region ?_
          refine E.G.val (.agg #[.int .i64 ((Q.step i.2.1 i.2.2).2.1), .int .u32 ((Q.step i.2.1 i.2.2).2.2.1)]) (by kernel_rfl) (fun w h => E.run_load h 1 rfl rfl (by kernel_rfl)) ?_
          refine E.G.store 2 [.int .i64 ((Q.step i.2.1 i.2.2).2.1), .int .u32 ((Q.step i.2.1 i.2.2).2.2.1)] rfl rfl (by kernel_rfl) (by kernel_rfl) ?_
          refine E.To.code ?_
          refine E.C.ret (E.P.rt (E.P.rb (E.P.rt (E.P.rt (E.P.rb (E.To.body (fn := Try.f20) [.agg #[.int .i64 ((Q.step i.2.1 i.2.2).2.1), .int .u32 ((Q.step i.2.1 i.2.2).2.2.1)]] ?_ ?_))))))
          · exact ⟨⟨by kernel_rfl, _, _, 2, _, rfl, rfl, by kernel_rfl⟩, trivial⟩
          · intro w h
            have e := hk1.2.2.2
            rw [Q.run_s hk1.1 hc4 hc5 hc6] at e
            rw [← e]
            exact ⟨(), trivial, rfl, A.done (q := [M.It c ((Q.step i.2.1 i.2.2).2.2.2) (Q.S.cells i.2.1)]) (r := [A.blk v1_g_6_1 (Q.S.cells ((Q.step i.2.1 i.2.2).1)), A.blk v1_g_7_1 ([.int .i64 ((Q.step i.2.1 i.2.2).2.1), .int .u32 ((Q.step i.2.1 i.2.2).2.2.1)]), A.blk g1 ([.int .i64 ((Q.step i.2.1 i.2.2).2.1), .int .u32 ((Q.step i.2.1 i.2.2).2.2.1)])]) h (by kernel_rfl) (A.pm [3, 0, 1, 2] (by kernel_rfl) (by kernel_rfl))⟩
        · skip
          refine E.C.skip (E.To.code ?_)
          refine E.C.region ?_
          refine E.G.op (.pointer (some ⟨c, 0, none⟩)) (fun w => by kernel_rfl) (by kernel_rfl) ?_
          refine E.G.val (Q.S.val ((Q.step i.2.1 i.2.2).1)) (by kernel_rfl) (fun w h => E.run_load h 0 rfl rfl (by kernel_rfl)) ?_
          refine E.G.op (.pointer (some ⟨c, 0, none⟩)) (fun w => by kernel_rfl) (by kernel_rfl) ?_
          refine E.G.op (.pointer (some ⟨c, 2, none⟩)) (fun w => by kernel_rfl) (by kernel_rfl) ?_
          refine A.G.openM (m := c) (V := (Q.step i.2.1 i.2.2).2.2.2) (xs := (Q.S.cells i.2.1)) (fun b7 => [(c, (M.hdr b7 ++ (Q.S.cells i.2.1))), (v1_g_6_1, (Q.S.cells ((Q.step i.2.1 i.2.2).1))), (v1_g_7_1, [.int .i64 ((Q.step i.2.1 i.2.2).2.1), .int .u32 ((Q.step i.2.1 i.2.2).2.2.1)]), (g1, [.int .i64 0, .int .u32 0])]) (fun b7 => [M.Bd b7 ((Q.step i.2.1 i.2.2).2.2.2)]) [A.blk v1_g_6_1 (Q.S.cells ((Q.step i.2.1 i.2.2).1)), A.blk v1_g_7_1 ([.int .i64 ((Q.step i.2.1 i.2.2).2.1), .int .u32 ((Q.step i.2.1 i.2.2).2.2.1)]), A.blk g1 ([.int .i64 0, .int .u32 0])] (by kernel_rfl) (A.pm [3, 0, 1, 2] (by kernel_rfl) (by kernel_rfl)) (fun b7 => A.pm [0, 2, 3, 4, 1] (by kernel_rfl) (by kernel_rfl)) (fun b7 => ?_)
          refine E.G.store 0 (M.hdr b7 ++ (Q.S.cells ((Q.step i.2.1 i.2.2).1))) rfl rfl (by kernel_rfl) (by kernel_rfl) ?_
          refine A.G.closeM (b := b7) (m := c) (V := (Q.step i.2.1 i.2.2).2.2.2) (xs := (Q.S.cells ((Q.step i.2.1 i.2.2).1))) [(v1_g_6_1, (Q.S.cells ((Q.step i.2.1 i.2.2).1))), (v1_g_7_1, [.int .i64 ((Q.step i.2.1 i.2.2).2.1), .int .u32 ((Q.step i.2.1 i.2.2).2.2.1)]), (g1, [.int .i64 0, .int .u32 0])] [M.It c ((Q.step i.2.1 i.2.2).2.2.2) (Q.S.cells ((Q.step i.2.1 i.2.2).1))] [A.blk v1_g_6_1 (Q.S.cells ((Q.step i.2.1 i.2.2).1)), A.blk v1_g_7_1 ([.int .i64 ((Q.step i.2.1 i.2.2).2.1), .int .u32 ((Q.step i.2.1 i.2.2).2.2.1)]), A.blk g1 ([.int .i64 0, .int .u32 0])] (by kernel_rfl) (A.pm [0, 4, 1, 2, 3] (by kernel_rfl) (by kernel_rfl)) (A.pm [1, 2, 3, 0] (by kernel_rfl) (by kernel_rfl)) ?_
          refine E.P.nb (E.To.code ?_)
          refine E.C.region ?_
          refine E.G.op (.int .i64 ((i.1 : Nat) : Int)) (fun w => by kernel_rfl) (by kernel_rfl) ?_
          refine E.G.val (.int .i64 ((i.1 + 1 : Nat) : Int)) (by kernel_rfl) (fun w h => E.run_as (a := .int .i64 (IntKind.wrap .i64 (((i.1 : Nat) : Int) + 1))) (by kernel_rfl) (congrArg (Value.int .i64) (Q.run_lt hm.2 hc5).2)) ?_
          refine E.G.op (.int .i64 ((i.1 + 1 : Nat) : Int)) (fun w => by kernel_rfl) (by kernel_rfl) ?_
          exact E.To.round (i.1 + 1, (Q.step i.2.1 i.2.2).1, (Q.step i.2.1 i.2.2).2.2.2) (by show (most.toNat + 1) - (i.1 + 1) < (most.toNat + 1) - i.1; have := hk1.1; omega) (⟨(Q.run_lt hm.2 hc5).1, (Q.step_wf hk1.2.1 hk1.2.2.1).1, (Q.step_wf hk1.2.1 hk1.2.2.1).2, (Q.run_n hk1.1 hc4 hc5 hc6).symm.trans hk1.2.2.2⟩) ⟨by kernel_rfl, by kernel_rfl⟩ (List.Sublist.cons _ (List.Sublist.cons _ (List.Sublist.refl _))) (fun _ h => h)
      have nd3 : ∀ (v1_g_6_1 : Nat) (v1_g_7_1 : Nat), H 1 (E.bits 16 32767) [(0, .pointer (some ⟨c, 0, none⟩)), (1, .int .i64 most), (4, .pointer (some ⟨g1, 0, none⟩)), (5, .int .i64 ((i.1 : Nat) : Int)), (6, .pointer (some ⟨v1_g_6_1, 0, none⟩)), (7, .pointer (some ⟨v1_g_7_1, 0, none⟩)), (10, .pointer (some ⟨c, 0, none⟩)), (11, .pointer (some ⟨c, 0, none⟩)), (12, .pointer (some ⟨c, 2, none⟩)), (13, .pointer (some ⟨c, 25, none⟩)), (14, .int .i64 i.2.1.du), (15, .bool (decide (i.2.1.du > 0))), (16, .bool (decide (i.2.1.du > 0))), (28, .bool ((decide (i.2.1.du > 0)) && (decide (i.2.1.st ≥ i.2.1.du)))), (30, .int .i64 ((i.1 : Nat) : Int)), (31, .int .i64 most), (32, .bool (decide (((i.1 : Nat) : Int) ≥ most))), (34, .tuple #[Q.S.val ((Q.step i.2.1 i.2.2).1), .agg #[.int .i64 ((Q.step i.2.1 i.2.2).2.1), .int .u32 ((Q.step i.2.1 i.2.2).2.2.1)]]), (35, .pointer (some ⟨c, 0, none⟩)), (36, .pointer (some ⟨c, 0, none⟩)), (37, .pointer (some ⟨c, 2, none⟩)), (38, Q.S.val i.2.1), (39, .pointer (some ⟨c, 0, none⟩)), (40, .pointer (some ⟨c, 0, none⟩)), (41, .pointer (some ⟨c, 0, none⟩)), (42, .iface 82 (.pointer (some ⟨c, 0, none⟩))), (43, .tuple #[Q.S.val ((Q.step i.2.1 i.2.2).1), .agg #[.int .i64 ((Q.step i.2.1 i.2.2).2.1), .int .u32 ((Q.step i.2.1 i.2.2).2.2.1)]]), (44, Q.S.val ((Q.step i.2.1 i.2.2).1)), (45, .agg #[.int .i64 ((Q.step i.2.1 i.2.2).2.1), .int .u32 ((Q.step i.2.1 i.2.2).2.2.1)])] (A.X w oo aa [M.It c ((Q.step i.2.1 i.2.2).2.2.2) (Q.S.cells i.2.1)]) [(v1_g_6_1, (Q.S.cells ((Q.step i.2.1 i.2.2).1))), (v1_g_7_1, [.int .i64 0, .int .u32 0]), (g1, [.int .i64 0, .int .u32 0])] := by
        intro v1_g_6_1 v1_g_7_1
        refine up _ _ _ _ _ ?_
        refine E.H.all [15] (by kernel_rfl) (by simp) (List.forall_mem_cons.2 ⟨⟨_, rfl, ?_⟩, fun _ h => (List.not_mem_nil h).elim⟩)
        · skip
          refine E.G.store 1 [.int .i64 ((Q.step i.2.1 i.2.2).2.1), .int .u32 ((Q.step i.2.1 i.2.2).2.2.1)] rfl rfl (by kernel_rfl) (by kernel_rfl) ?_
          refine E.H.back (fun w h => A.Y.xc (A.X.y h.x) (k := 0) rfl) ?_
          exact E.H.to _ _ _ (by kernel_rfl) ⟨by kernel_rfl, by kernel_rfl⟩ (List.Sublist.refl _) (dn _ _ _ _ _ (nd4 v1_g_6_1 v1_g_7_1))
      have nd2 : ∀ (v1_g_6_1 : Nat) (v1_g_7_1 : Nat), H 2 (E.bits 16 16383) [(0, .pointer (some ⟨c, 0, none⟩)), (1, .int .i64 most), (4, .pointer (some ⟨g1, 0, none⟩)), (5, .int .i64 ((i.1 : Nat) : Int)), (6, .pointer (some ⟨v1_g_6_1, 0, none⟩)), (7, .pointer (some ⟨v1_g_7_1, 0, none⟩)), (10, .pointer (some ⟨c, 0, none⟩)), (11, .pointer (some ⟨c, 0, none⟩)), (12, .pointer (some ⟨c, 2, none⟩)), (13, .pointer (some ⟨c, 25, none⟩)), (14, .int .i64 i.2.1.du), (15, .bool (decide (i.2.1.du > 0))), (16, .bool (decide (i.2.1.du > 0))), (28, .bool ((decide (i.2.1.du > 0)) && (decide (i.2.1.st ≥ i.2.1.du)))), (30, .int .i64 ((i.1 : Nat) : Int)), (31, .int .i64 most), (32, .bool (decide (((i.1 : Nat) : Int) ≥ most))), (34, .tuple #[Q.S.val ((Q.step i.2.1 i.2.2).1), .agg #[.int .i64 ((Q.step i.2.1 i.2.2).2.1), .int .u32 ((Q.step i.2.1 i.2.2).2.2.1)]]), (35, .pointer (some ⟨c, 0, none⟩)), (36, .pointer (some ⟨c, 0, none⟩)), (37, .pointer (some ⟨c, 2, none⟩)), (38, Q.S.val i.2.1), (39, .pointer (some ⟨c, 0, none⟩)), (40, .pointer (some ⟨c, 0, none⟩)), (41, .pointer (some ⟨c, 0, none⟩)), (42, .iface 82 (.pointer (some ⟨c, 0, none⟩))), (43, .tuple #[Q.S.val ((Q.step i.2.1 i.2.2).1), .agg #[.int .i64 ((Q.step i.2.1 i.2.2).2.1), .int .u32 ((Q.step i.2.1 i.2.2).2.2.1)]]), (44, Q.S.val ((Q.step i.2.1 i.2.2).1)), (45, .agg #[.int .i64 ((Q.step i.2.1 i.2.2).2.1), .int .u32 ((Q.step i.2.1 i.2.2).2.2.1)])] (A.X w oo aa [M.It c ((Q.step i.2.1 i.2.2).2.2.2) (Q.S.cells i.2.1)]) [(v1_g_6_1, (Q.S.cells Q.z0)), (v1_g_7_1, [.int .i64 0, .int .u32 0]), (g1, [.int .i64 0, .int .u32 0])] := by
        intro v1_g_6_1 v1_g_7_1
        refine up _ _ _ _ _ ?_
        refine E.H.all [14] (by kernel_rfl) (by simp) (List.forall_mem_cons.2 ⟨⟨_, rfl, ?_⟩, fun _ h => (List.not_mem_nil h).elim⟩)
        · skip
          refine E.G.store 0 (Q.S.cells ((Q.step i.2.1 i.2.2).1)) rfl rfl (by kernel_rfl) (by kernel_rfl) ?_
          refine E.H.back (fun w h => A.Y.xc (A.X.y h.x) (k := 0) rfl) ?_
          exact E.H.to _ _ _ (by kernel_rfl) ⟨by kernel_rfl, by kernel_rfl⟩ (List.Sublist.refl _) (dn _ _ _ _ _ (nd3 v1_g_6_1 v1_g_7_1))
      have nd1 : ∀ (v1_g_6_1 : Nat), H 3 (E.bits 16 8191) [(0, .pointer (some ⟨c, 0, none⟩)), (1, .int .i64 most), (4, .pointer (some ⟨g1, 0, none⟩)), (5, .int .i64 ((i.1 : Nat) : Int)), (6, .pointer (some ⟨v1_g_6_1, 0, none⟩)), (10, .pointer (some ⟨c, 0, none⟩)), (11, .pointer (some ⟨c, 0, none⟩)), (12, .pointer (some ⟨c, 2, none⟩)), (13, .pointer (some ⟨c, 25, none⟩)), (14, .int .i64 i.2.1.du), (15, .bool (decide (i.2.1.du > 0))), (16, .bool (decide (i.2.1.du > 0))), (28, .bool ((decide (i.2.1.du > 0)) && (decide (i.2.1.st ≥ i.2.1.du)))), (30, .int .i64 ((i.1 : Nat) : Int)), (31, .int .i64 most), (32, .bool (decide (((i.1 : Nat) : Int) ≥ most))), (34, .tuple #[Q.S.val ((Q.step i.2.1 i.2.2).1), .agg #[.int .i64 ((Q.step i.2.1 i.2.2).2.1), .int .u32 ((Q.step i.2.1 i.2.2).2.2.1)]]), (35, .pointer (some ⟨c, 0, none⟩)), (36, .pointer (some ⟨c, 0, none⟩)), (37, .pointer (some ⟨c, 2, none⟩)), (38, Q.S.val i.2.1), (39, .pointer (some ⟨c, 0, none⟩)), (40, .pointer (some ⟨c, 0, none⟩)), (41, .pointer (some ⟨c, 0, none⟩)), (42, .iface 82 (.pointer (some ⟨c, 0, none⟩))), (43, .tuple #[Q.S.val ((Q.step i.2.1 i.2.2).1), .agg #[.int .i64 ((Q.step i.2.1 i.2.2).2.1), .int .u32 ((Q.step i.2.1 i.2.2).2.2.1)]]), (44, Q.S.val ((Q.step i.2.1 i.2.2).1)), (45, .agg #[.int .i64 ((Q.step i.2.1 i.2.2).2.1), .int .u32 ((Q.step i.2.1 i.2.2).2.2.1)])] (A.X w oo aa [M.It c ((Q.step i.2.1 i.2.2).2.2.2) (Q.S.cells i.2.1)]) [(v1_g_6_1, (Q.S.cells Q.z0)), (g1, [.int .i64 0, .int .u32 0])] := by
        intro v1_g_6_1
        refine up _ _ _ _ _ ?_
        refine E.H.all [13] (by kernel_rfl) (by simp) (List.forall_mem_cons.2 ⟨⟨_, rfl, ?_⟩, fun _ h => (List.not_mem_nil h).elim⟩)
        · skip
          refine E.G.new (fun g => .pointer (some ⟨g, 0, none⟩)) [.int .i64 0, .int .u32 0] 51 (fun w => by kernel_rfl) (by kernel_rfl) (fun v1_g_7_1 => ?_)
          refine E.H.back (fun w h => A.Y.xc (A.X.y h.x) (k := 0) rfl) ?_
          exact E.H.toP _ _ [(v1_g_6_1, (Q.S.cells Q.z0)), (v1_g_7_1, [.int .i64 0, .int .u32 0]), (g1, [.int .i64 0, .int .u32 0])] (by kernel_rfl) ⟨by kernel_rfl, by kernel_rfl⟩ (A.pm [1, 0, 2] (by kernel_rfl) (by kernel_rfl)) (dn _ _ _ _ _ (nd2 v1_g_6_1 v1_g_7_1))
      have nd5 : ∀ (v1_g_7_1 : Nat), H 3 (E.bits 16 12287) [(0, .pointer (some ⟨c, 0, none⟩)), (1, .int .i64 most), (4, .pointer (some ⟨g1, 0, none⟩)), (5, .int .i64 ((i.1 : Nat) : Int)), (7, .pointer (some ⟨v1_g_7_1, 0, none⟩)), (10, .pointer (some ⟨c, 0, none⟩)), (11, .pointer (some ⟨c, 0, none⟩)), (12, .pointer (some ⟨c, 2, none⟩)), (13, .pointer (some ⟨c, 25, none⟩)), (14, .int .i64 i.2.1.du), (15, .bool (decide (i.2.1.du > 0))), (16, .bool (decide (i.2.1.du > 0))), (28, .bool ((decide (i.2.1.du > 0)) && (decide (i.2.1.st ≥ i.2.1.du)))), (30, .int .i64 ((i.1 : Nat) : Int)), (31, .int .i64 most), (32, .bool (decide (((i.1 : Nat) : Int) ≥ most))), (34, .tuple #[Q.S.val ((Q.step i.2.1 i.2.2).1), .agg #[.int .i64 ((Q.step i.2.1 i.2.2).2.1), .int .u32 ((Q.step i.2.1 i.2.2).2.2.1)]]), (35, .pointer (some ⟨c, 0, none⟩)), (36, .pointer (some ⟨c, 0, none⟩)), (37, .pointer (some ⟨c, 2, none⟩)), (38, Q.S.val i.2.1), (39, .pointer (some ⟨c, 0, none⟩)), (40, .pointer (some ⟨c, 0, none⟩)), (41, .pointer (some ⟨c, 0, none⟩)), (42, .iface 82 (.pointer (some ⟨c, 0, none⟩))), (43, .tuple #[Q.S.val ((Q.step i.2.1 i.2.2).1), .agg #[.int .i64 ((Q.step i.2.1 i.2.2).2.1), .int .u32 ((Q.step i.2.1 i.2.2).2.2.1)]]), (44, Q.S.val ((Q.step i.2.1 i.2.2).1)), (45, .agg #[.int .i64 ((Q.step i.2.1 i.2.2).2.1), .int .u32 ((Q.step i.2.1 i.2.2).2.2.1)])] (A.X w oo aa [M.It c ((Q.step i.2.1 i.2.2).2.2.2) (Q.S.cells i.2.1)]) [(v1_g_7_1, [.int .i64 0, .int .u32 0]), (g1, [.int .i64 0, .int .u32 0])] := by
        intro v1_g_7_1
        refine up _ _ _ _ _ ?_
        refine E.H.all [12] (by kernel_rfl) (by simp) (List.forall_mem_cons.2 ⟨⟨_, rfl, ?_⟩, fun _ h => (List.not_mem_nil h).elim⟩)
        · skip
          refine E.G.new (fun g => .pointer (some ⟨g, 0, none⟩)) (Q.S.cells Q.z0) 27 (fun w => by kernel_rfl) (by kernel_rfl) (fun v1_g_6_1 => ?_)
          refine E.H.back (fun w h => A.Y.xc (A.X.y h.x) (k := 0) rfl) ?_
          exact E.H.to _ _ _ (by kernel_rfl) ⟨by kernel_rfl, by kernel_rfl⟩ (List.Sublist.refl _) (dn _ _ _ _ _ (nd2 v1_g_6_1 v1_g_7_1))
      have nd0 : H 7 (E.bits 16 511) [(0, .pointer (some ⟨c, 0, none⟩)), (1, .int .i64 most), (4, .pointer (some ⟨g1, 0, none⟩)), (5, .int .i64 ((i.1 : Nat) : Int)), (10, .pointer (some ⟨c, 0, none⟩)), (11, .pointer (some ⟨c, 0, none⟩)), (12, .pointer (some ⟨c, 2, none⟩)), (13, .pointer (some ⟨c, 25, none⟩)), (14, .int .i64 i.2.1.du), (15, .bool (decide (i.2.1.du > 0))), (16, .bool (decide (i.2.1.du > 0))), (28, .bool ((decide (i.2.1.du > 0)) && (decide (i.2.1.st ≥ i.2.1.du)))), (30, .int .i64 ((i.1 : Nat) : Int)), (31, .int .i64 most), (32, .bool (decide (((i.1 : Nat) : Int) ≥ most))), (35, .pointer (some ⟨c, 0, none⟩)), (36, .pointer (some ⟨c, 0, none⟩)), (37, .pointer (some ⟨c, 2, none⟩)), (38, Q.S.val i.2.1), (39, .pointer (some ⟨c, 0, none⟩)), (40, .pointer (some ⟨c, 0, none⟩)), (41, .pointer (some ⟨c, 0, none⟩)), (42, .iface 82 (.pointer (some ⟨c, 0, none⟩))), (43, .tuple #[Q.S.val ((Q.step i.2.1 i.2.2).1), .agg #[.int .i64 ((Q.step i.2.1 i.2.2).2.1), .int .u32 ((Q.step i.2.1 i.2.2).2.2.1)]])] (A.X w oo aa [M.It c ((Q.step i.2.1 i.2.2).2.2.2) (Q.S.cells i.2.1)]) [(g1, [.int .i64 0, .int .u32 0])] := by
        refine up _ _ _ _ _ ?_
        refine E.H.take 9 (.tuple #[Q.S.val ((Q.step i.2.1 i.2.2).1), .agg #[.int .i64 ((Q.step i.2.1 i.2.2).2.1), .int .u32 ((Q.step i.2.1 i.2.2).2.2.1)]]) rfl (by kernel_rfl) (by kernel_rfl) (by kernel_rfl) (fun _ _ _ h => h) (fun w h => A.Y.xc (A.X.y h.x) (k := 0) rfl) (.inl ⟨by kernel_rfl, by kernel_rfl, fun w h => by kernel_rfl⟩) (by kernel_rfl) ?_
        refine E.H.take 10 (Q.S.val ((Q.step i.2.1 i.2.2).1)) rfl (by kernel_rfl) (by kernel_rfl) (by kernel_rfl) (fun _ _ _ h => h) (fun w h => A.Y.xc (A.X.y h.x) (k := 0) rfl) (.inl ⟨by kernel_rfl, by kernel_rfl, fun w h => by kernel_rfl⟩) (by kernel_rfl) ?_
        refine E.H.take 11 (.agg #[.int .i64 ((Q.step i.2.1 i.2.2).2.1), .int .u32 ((Q.step i.2.1 i.2.2).2.2.1)]) rfl (by kernel_rfl) (by kernel_rfl) (by kernel_rfl) (fun _ _ _ h => h) (fun w h => A.Y.xc (A.X.y h.x) (k := 0) rfl) (.inl ⟨by kernel_rfl, by kernel_rfl, fun w h => by kernel_rfl⟩) (by kernel_rfl) ?_
        refine E.H.all [12, 13] (by kernel_rfl) (by simp) (List.forall_mem_cons.2 ⟨⟨_, rfl, ?_⟩, List.forall_mem_cons.2 ⟨⟨_, rfl, ?_⟩, fun _ h => (List.not_mem_nil h).elim⟩⟩)
        · skip
          refine E.G.new (fun g => .pointer (some ⟨g, 0, none⟩)) (Q.S.cells Q.z0) 27 (fun w => by kernel_rfl) (by kernel_rfl) (fun v1_g_6_1 => ?_)
          refine E.H.back (fun w h => A.Y.xc (A.X.y h.x) (k := 0) rfl) ?_
          exact E.H.to _ _ _ (by kernel_rfl) ⟨by kernel_rfl, by kernel_rfl⟩ (List.Sublist.refl _) (dn _ _ _ _ _ (nd1 v1_g_6_1))
        · skip
          refine E.G.new (fun g => .pointer (some ⟨g, 0, none⟩)) [.int .i64 0, .int .u32 0] 51 (fun w => by kernel_rfl) (by kernel_rfl) (fun v1_g_7_1 => ?_)
          refine E.H.back (fun w h => A.Y.xc (A.X.y h.x) (k := 0) rfl) ?_
          exact E.H.to _ _ _ (by kernel_rfl) ⟨by kernel_rfl, by kernel_rfl⟩ (List.Sublist.refl _) (dn _ _ _ _ _ (nd5 v1_g_7_1))
      have nd7 : ∀ (v1_g_6_1 : Nat), H 6 (E.bits 16 4607) [(0, .pointer (some ⟨c, 0, none⟩)), (1, .int .i64 most), (4, .pointer (some ⟨g1, 0, none⟩)), (5, .int .i64 ((i.1 : Nat) : Int)), (6, .pointer (some ⟨v1_g_6_1, 0, none⟩)), (10, .pointer (some ⟨c, 0, none⟩)), (11, .pointer (some ⟨c, 0, none⟩)), (12, .pointer (some ⟨c, 2, none⟩)), (13, .pointer (some ⟨c, 25, none⟩)), (14, .int .i64 i.2.1.du), (15, .bool (decide (i.2.1.du > 0))), (16, .bool (decide (i.2.1.du > 0))), (28, .bool ((decide (i.2.1.du > 0)) && (decide (i.2.1.st ≥ i.2.1.du)))), (30, .int .i64 ((i.1 : Nat) : Int)), (31, .int .i64 most), (32, .bool (decide (((i.1 : Nat) : Int) ≥ most))), (35, .pointer (some ⟨c, 0, none⟩)), (36, .pointer (some ⟨c, 0, none⟩)), (37, .pointer (some ⟨c, 2, none⟩)), (38, Q.S.val i.2.1), (39, .pointer (some ⟨c, 0, none⟩)), (40, .pointer (some ⟨c, 0, none⟩)), (41, .pointer (some ⟨c, 0, none⟩)), (42, .iface 82 (.pointer (some ⟨c, 0, none⟩))), (43, .tuple #[Q.S.val ((Q.step i.2.1 i.2.2).1), .agg #[.int .i64 ((Q.step i.2.1 i.2.2).2.1), .int .u32 ((Q.step i.2.1 i.2.2).2.2.1)]])] (A.X w oo aa [M.It c ((Q.step i.2.1 i.2.2).2.2.2) (Q.S.cells i.2.1)]) [(v1_g_6_1, (Q.S.cells Q.z0)), (g1, [.int .i64 0, .int .u32 0])] := by
        intro v1_g_6_1
        refine up _ _ _ _ _ ?_
        refine E.H.take 9 (.tuple #[Q.S.val ((Q.step i.2.1 i.2.2).1), .agg #[.int .i64 ((Q.step i.2.1 i.2.2).2.1), .int .u32 ((Q.step i.2.1 i.2.2).2.2.1)]]) rfl (by kernel_rfl) (by kernel_rfl) (by kernel_rfl) (fun _ _ _ h => h) (fun w h => A.Y.xc (A.X.y h.x) (k := 0) rfl) (.inl ⟨by kernel_rfl, by kernel_rfl, fun w h => by kernel_rfl⟩) (by kernel_rfl) ?_
        refine E.H.take 10 (Q.S.val ((Q.step i.2.1 i.2.2).1)) rfl (by kernel_rfl) (by kernel_rfl) (by kernel_rfl) (fun _ _ _ h => h) (fun w h => A.Y.xc (A.X.y h.x) (k := 0) rfl) (.inl ⟨by kernel_rfl, by kernel_rfl, fun w h => by kernel_rfl⟩) (by kernel_rfl) ?_
        refine E.H.take 11 (.agg #[.int .i64 ((Q.step i.2.1 i.2.2).2.1), .int .u32 ((Q.step i.2.1 i.2.2).2.2.1)]) rfl (by kernel_rfl) (by kernel_rfl) (by kernel_rfl) (fun _ _ _ h => h) (fun w h => A.Y.xc (A.X.y h.x) (k := 0) rfl) (.inl ⟨by kernel_rfl, by kernel_rfl, fun w h => by kernel_rfl⟩) (by kernel_rfl) ?_
        refine E.H.all [13] (by kernel_rfl) (by simp) (List.forall_mem_cons.2 ⟨⟨_, rfl, ?_⟩, fun _ h => (List.not_mem_nil h).elim⟩)
        · skip
          refine E.G.new (fun g => .pointer (some ⟨g, 0, none⟩)) [.int .i64 0, .int .u32 0] 51 (fun w => by kernel_rfl) (by kernel_rfl) (fun v1_g_7_1 => ?_)
          refine E.H.back (fun w h => A.Y.xc (A.X.y h.x) (k := 0) rfl) ?_
          exact E.H.toP _ _ [(v1_g_6_1, (Q.S.cells Q.z0)), (v1_g_7_1, [.int .i64 0, .int .u32 0]), (g1, [.int .i64 0, .int .u32 0])] (by kernel_rfl) ⟨by kernel_rfl, by kernel_rfl⟩ (A.pm [1, 0, 2] (by kernel_rfl) (by kernel_rfl)) (dn _ _ _ _ _ (nd2 v1_g_6_1 v1_g_7_1))
      have nd9 : ∀ (v1_g_6_1 : Nat) (v1_g_7_1 : Nat), H 5 (E.bits 16 12799) [(0, .pointer (some ⟨c, 0, none⟩)), (1, .int .i64 most), (4, .pointer (some ⟨g1, 0, none⟩)), (5, .int .i64 ((i.1 : Nat) : Int)), (6, .pointer (some ⟨v1_g_6_1, 0, none⟩)), (7, .pointer (some ⟨v1_g_7_1, 0, none⟩)), (10, .pointer (some ⟨c, 0, none⟩)), (11, .pointer (some ⟨c, 0, none⟩)), (12, .pointer (some ⟨c, 2, none⟩)), (13, .pointer (some ⟨c, 25, none⟩)), (14, .int .i64 i.2.1.du), (15, .bool (decide (i.2.1.du > 0))), (16, .bool (decide (i.2.1.du > 0))), (28, .bool ((decide (i.2.1.du > 0)) && (decide (i.2.1.st ≥ i.2.1.du)))), (30, .int .i64 ((i.1 : Nat) : Int)), (31, .int .i64 most), (32, .bool (decide (((i.1 : Nat) : Int) ≥ most))), (35, .pointer (some ⟨c, 0, none⟩)), (36, .pointer (some ⟨c, 0, none⟩)), (37, .pointer (some ⟨c, 2, none⟩)), (38, Q.S.val i.2.1), (39, .pointer (some ⟨c, 0, none⟩)), (40, .pointer (some ⟨c, 0, none⟩)), (41, .pointer (some ⟨c, 0, none⟩)), (42, .iface 82 (.pointer (some ⟨c, 0, none⟩))), (43, .tuple #[Q.S.val ((Q.step i.2.1 i.2.2).1), .agg #[.int .i64 ((Q.step i.2.1 i.2.2).2.1), .int .u32 ((Q.step i.2.1 i.2.2).2.2.1)]])] (A.X w oo aa [M.It c ((Q.step i.2.1 i.2.2).2.2.2) (Q.S.cells i.2.1)]) [(v1_g_6_1, (Q.S.cells Q.z0)), (v1_g_7_1, [.int .i64 0, .int .u32 0]), (g1, [.int .i64 0, .int .u32 0])] := by
        intro v1_g_6_1 v1_g_7_1
        refine up _ _ _ _ _ ?_
        refine E.H.take 9 (.tuple #[Q.S.val ((Q.step i.2.1 i.2.2).1), .agg #[.int .i64 ((Q.step i.2.1 i.2.2).2.1), .int .u32 ((Q.step i.2.1 i.2.2).2.2.1)]]) rfl (by kernel_rfl) (by kernel_rfl) (by kernel_rfl) (fun _ _ _ h => h) (fun w h => A.Y.xc (A.X.y h.x) (k := 0) rfl) (.inl ⟨by kernel_rfl, by kernel_rfl, fun w h => by kernel_rfl⟩) (by kernel_rfl) ?_
        refine E.H.take 10 (Q.S.val ((Q.step i.2.1 i.2.2).1)) rfl (by kernel_rfl) (by kernel_rfl) (by kernel_rfl) (fun _ _ _ h => h) (fun w h => A.Y.xc (A.X.y h.x) (k := 0) rfl) (.inl ⟨by kernel_rfl, by kernel_rfl, fun w h => by kernel_rfl⟩) (by kernel_rfl) ?_
        refine E.H.take 11 (.agg #[.int .i64 ((Q.step i.2.1 i.2.2).2.1), .int .u32 ((Q.step i.2.1 i.2.2).2.2.1)]) rfl (by kernel_rfl) (by kernel_rfl) (by kernel_rfl) (fun _ _ _ h => h) (fun w h => A.Y.xc (A.X.y h.x) (k := 0) rfl) (.inl ⟨by kernel_rfl, by kernel_rfl, fun w h => by kernel_rfl⟩) (by kernel_rfl) ?_
        refine E.H.all [14] (by kernel_rfl) (by simp) (List.forall_mem_cons.2 ⟨⟨_, rfl, ?_⟩, fun _ h => (List.not_mem_nil h).elim⟩)
        · skip
          refine E.G.store 0 (Q.S.cells ((Q.step i.2.1 i.2.2).1)) rfl rfl (by kernel_rfl) (by kernel_rfl) ?_
          refine E.H.back (fun w h => A.Y.xc (A.X.y h.x) (k := 0) rfl) ?_
          exact E.H.to _ _ _ (by kernel_rfl) ⟨by kernel_rfl, by kernel_rfl⟩ (List.Sublist.refl _) (dn _ _ _ _ _ (nd3 v1_g_6_1 v1_g_7_1))
      have nd8 : ∀ (v1_g_6_1 : Nat) (v1_g_7_1 : Nat), H 6 (E.bits 16 12543) [(0, .pointer (some ⟨c, 0, none⟩)), (1, .int .i64 most), (4, .pointer (some ⟨g1, 0, none⟩)), (5, .int .i64 ((i.1 : Nat) : Int)), (6, .pointer (some ⟨v1_g_6_1, 0, none⟩)), (7, .pointer (some ⟨v1_g_7_1, 0, none⟩)), (10, .pointer (some ⟨c, 0, none⟩)), (11, .pointer (some ⟨c, 0, none⟩)), (12, .pointer (some ⟨c, 2, none⟩)), (13, .pointer (some ⟨c, 25, none⟩)), (14, .int .i64 i.2.1.du), (15, .bool (decide (i.2.1.du > 0))), (16, .bool (decide (i.2.1.du > 0))), (28, .bool ((decide (i.2.1.du > 0)) && (decide (i.2.1.st ≥ i.2.1.du)))), (30, .int .i64 ((i.1 : Nat) : Int)), (31, .int .i64 most), (32, .bool (decide (((i.1 : Nat) : Int) ≥ most))), (35, .pointer (some ⟨c, 0, none⟩)), (36, .pointer (some ⟨c, 0, none⟩)), (37, .pointer (some ⟨c, 2, none⟩)), (38, Q.S.val i.2.1), (39, .pointer (some ⟨c, 0, none⟩)), (40, .pointer (some ⟨c, 0, none⟩)), (41, .pointer (some ⟨c, 0, none⟩)), (42, .iface 82 (.pointer (some ⟨c, 0, none⟩)))] (A.X w oo aa [M.It c i.2.2 (Q.S.cells i.2.1)]) [(v1_g_6_1, (Q.S.cells Q.z0)), (v1_g_7_1, [.int .i64 0, .int .u32 0]), (g1, [.int .i64 0, .int .u32 0])] := by
        intro v1_g_6_1 v1_g_7_1
        refine up _ _ _ _ _ ?_
        refine E.H.all [8] (by kernel_rfl) (by simp) (List.forall_mem_cons.2 ⟨⟨_, rfl, ?_⟩, fun _ h => (List.not_mem_nil h).elim⟩)
        · skip
          refine A.G.call (I := Unit) (D := fun _ => True) (V := fun _ => .tuple #[Q.S.val ((Q.step i.2.1 i.2.2).1), .agg #[.int .i64 ((Q.step i.2.1 i.2.2).2.1), .int .u32 ((Q.step i.2.1 i.2.2).2.2.1)]]) (q := fun _ => [M.It c ((Q.step i.2.1 i.2.2).2.2.2) (Q.S.cells i.2.1)]) [A.blk v1_g_6_1 (Q.S.cells Q.z0), A.blk v1_g_7_1 ([.int .i64 0, .int .u32 0]), A.blk g1 ([.int .i64 0, .int .u32 0])] (fun _ => [(v1_g_6_1, (Q.S.cells Q.z0)), (v1_g_7_1, [.int .i64 0, .int .u32 0]), (g1, [.int .i64 0, .int .u32 0])]) (fun _ => [M.It c ((Q.step i.2.1 i.2.2).2.2.2) (Q.S.cells i.2.1)]) (Step_any (m := c) (xs := (Q.S.cells i.2.1)) i.2.1 i.2.2 hk1.2.1) (by kernel_rfl) (A.pm [3, 0, 1, 2] (by kernel_rfl) (by kernel_rfl)) (fun _ => A.pm [1, 2, 3, 0] (by kernel_rfl) (by kernel_rfl)) (fun w _ => by kernel_rfl) (by kernel_rfl) (fun _ v1_hd_43_1 => ?_)
          refine E.H.back (fun w h => A.Y.xc (A.X.y h.x) (k := 0) rfl) ?_
          exact E.H.to _ _ _ (by kernel_rfl) ⟨by kernel_rfl, by kernel_rfl⟩ (List.Sublist.refl _) (dn _ _ _ _ _ (nd9 v1_g_6_1 v1_g_7_1))
      have nd6 : ∀ (v1_g_6_1 : Nat), H 7 (E.bits 16 4351) [(0, .pointer (some ⟨c, 0, none⟩)), (1, .int .i64 most), (4, .pointer (some ⟨g1, 0, none⟩)), (5, .int .i64 ((i.1 : Nat) : Int)), (6, .pointer (some ⟨v1_g_6_1, 0, none⟩)), (10, .pointer (some ⟨c, 0, none⟩)), (11, .pointer (some ⟨c, 0, none⟩)), (12, .pointer (some ⟨c, 2, none⟩)), (13, .pointer (some ⟨c, 25, none⟩)), (14, .int .i64 i.2.1.du), (15, .bool (decide (i.2.1.du > 0))), (16, .bool (decide (i.2.1.du > 0))), (28, .bool ((decide (i.2.1.du > 0)) && (decide (i.2.1.st ≥ i.2.1.du)))), (30, .int .i64 ((i.1 : Nat) : Int)), (31, .int .i64 most), (32, .bool (decide (((i.1 : Nat) : Int) ≥ most))), (35, .pointer (some ⟨c, 0, none⟩)), (36, .pointer (some ⟨c, 0, none⟩)), (37, .pointer (some ⟨c, 2, none⟩)), (38, Q.S.val i.2.1), (39, .pointer (some ⟨c, 0, none⟩)), (40, .pointer (some ⟨c, 0, none⟩)), (41, .pointer (some ⟨c, 0, none⟩)), (42, .iface 82 (.pointer (some ⟨c, 0, none⟩)))] (A.X w oo aa [M.It c i.2.2 (Q.S.cells i.2.1)]) [(v1_g_6_1, (Q.S.cells Q.z0)), (g1, [.int .i64 0, .int .u32 0])] := by
        intro v1_g_6_1
        refine up _ _ _ _ _ ?_
        refine E.H.all [8, 13] (by kernel_rfl) (by simp) (List.forall_mem_cons.2 ⟨⟨_, rfl, ?_⟩, List.forall_mem_cons.2 ⟨⟨_, rfl, ?_⟩, fun _ h => (List.not_mem_nil h).elim⟩⟩)
        · skip
          refine A.G.call (I := Unit) (D := fun _ => True) (V := fun _ => .tuple #[Q.S.val ((Q.step i.2.1 i.2.2).1), .agg #[.int .i64 ((Q.step i.2.1 i.2.2).2.1), .int .u32 ((Q.step i.2.1 i.2.2).2.2.1)]]) (q := fun _ => [M.It c ((Q.step i.2.1 i.2.2).2.2.2) (Q.S.cells i.2.1)]) [A.blk v1_g_6_1 (Q.S.cells Q.z0), A.blk g1 ([.int .i64 0, .int .u32 0])] (fun _ => [(v1_g_6_1, (Q.S.cells Q.z0)), (g1, [.int .i64 0, .int .u32 0])]) (fun _ => [M.It c ((Q.step i.2.1 i.2.2).2.2.2) (Q.S.cells i.2.1)]) (Step_any (m := c) (xs := (Q.S.cells i.2.1)) i.2.1 i.2.2 hk1.2.1) (by kernel_rfl) (A.pm [2, 0, 1] (by kernel_rfl) (by kernel_rfl)) (fun _ => A.pm [1, 2, 0] (by kernel_rfl) (by kernel_rfl)) (fun w _ => by kernel_rfl) (by kernel_rfl) (fun _ v1_hd_43_1 => ?_)
          refine E.H.back (fun w h => A.Y.xc (A.X.y h.x) (k := 0) rfl) ?_
          exact E.H.to _ _ _ (by kernel_rfl) ⟨by kernel_rfl, by kernel_rfl⟩ (List.Sublist.refl _) (dn _ _ _ _ _ (nd7 v1_g_6_1))
        · skip
          refine E.G.new (fun g => .pointer (some ⟨g, 0, none⟩)) [.int .i64 0, .int .u32 0] 51 (fun w => by kernel_rfl) (by kernel_rfl) (fun v1_g_7_1 => ?_)
          refine E.H.back (fun w h => A.Y.xc (A.X.y h.x) (k := 0) rfl) ?_
          exact E.H.toP _ _ [(v1_g_6_1, (Q.S.cells Q.z0)), (v1_g_7_1, [.int .i64 0, .int .u32 0]), (g1, [.int .i64 0, .int .u32 0])] (by kernel_rfl) ⟨by kernel_rfl, by kernel_rfl⟩ (A.pm [1, 0, 2] (by kernel_rfl) (by kernel_rfl)) (dn _ _ _ _ _ (nd8 v1_g_6_1 v1_g_7_1))
      have nd11 : ∀ (v1_g_7_1 : Nat), H 6 (E.bits 16 8703) [(0, .pointer (some ⟨c, 0, none⟩)), (1, .int .i64 most), (4, .pointer (some ⟨g1, 0, none⟩)), (5, .int .i64 ((i.1 : Nat) : Int)), (7, .pointer (some ⟨v1_g_7_1, 0, none⟩)), (10, .pointer (some ⟨c, 0, none⟩)), (11, .pointer (some ⟨c, 0, none⟩)), (12, .pointer (some ⟨c, 2, none⟩)), (13, .pointer (some ⟨c, 25, none⟩)), (14, .int .i64 i.2.1.du), (15, .bool (decide (i.2.1.du > 0))), (16, .bool (decide (i.2.1.du > 0))), (28, .bool ((decide (i.2.1.du > 0)) && (decide (i.2.1.st ≥ i.2.1.du)))), (30, .int .i64 ((i.1 : Nat) : Int)), (31, .int .i64 most), (32, .bool (decide (((i.1 : Nat) : Int) ≥ most))), (35, .pointer (some ⟨c, 0, none⟩)), (36, .pointer (some ⟨c, 0, none⟩)), (37, .pointer (some ⟨c, 2, none⟩)), (38, Q.S.val i.2.1), (39, .pointer (some ⟨c, 0, none⟩)), (40, .pointer (some ⟨c, 0, none⟩)), (41, .pointer (some ⟨c, 0, none⟩)), (42, .iface 82 (.pointer (some ⟨c, 0, none⟩))), (43, .tuple #[Q.S.val ((Q.step i.2.1 i.2.2).1), .agg #[.int .i64 ((Q.step i.2.1 i.2.2).2.1), .int .u32 ((Q.step i.2.1 i.2.2).2.2.1)]])] (A.X w oo aa [M.It c ((Q.step i.2.1 i.2.2).2.2.2) (Q.S.cells i.2.1)]) [(v1_g_7_1, [.int .i64 0, .int .u32 0]), (g1, [.int .i64 0, .int .u32 0])] := by
        intro v1_g_7_1
        refine up _ _ _ _ _ ?_
        refine E.H.take 9 (.tuple #[Q.S.val ((Q.step i.2.1 i.2.2).1), .agg #[.int .i64 ((Q.step i.2.1 i.2.2).2.1), .int .u32 ((Q.step i.2.1 i.2.2).2.2.1)]]) rfl (by kernel_rfl) (by kernel_rfl) (by kernel_rfl) (fun _ _ _ h => h) (fun w h => A.Y.xc (A.X.y h.x) (k := 0) rfl) (.inl ⟨by kernel_rfl, by kernel_rfl, fun w h => by kernel_rfl⟩) (by kernel_rfl) ?_
        refine E.H.take 10 (Q.S.val ((Q.step i.2.1 i.2.2).1)) rfl (by kernel_rfl) (by kernel_rfl) (by kernel_rfl) (fun _ _ _ h => h) (fun w h => A.Y.xc (A.X.y h.x) (k := 0) rfl) (.inl ⟨by kernel_rfl, by kernel_rfl, fun w h => by kernel_rfl⟩) (by kernel_rfl) ?_
        refine E.H.take 11 (.agg #[.int .i64 ((Q.step i.2.1 i.2.2).2.1), .int .u32 ((Q.step i.2.1 i.2.2).2.2.1)]) rfl (by kernel_rfl) (by kernel_rfl) (by kernel_rfl) (fun _ _ _ h => h) (fun w h => A.Y.xc (A.X.y h.x) (k := 0) rfl) (.inl ⟨by kernel_rfl, by kernel_rfl, fun w h => by kernel_rfl⟩) (by kernel_rfl) ?_
        refine E.H.all [12] (by kernel_rfl) (by simp) (List.forall_mem_cons.2 ⟨⟨_, rfl, ?_⟩, fun _ h => (List.not_mem_nil h).elim⟩)
        · skip
          refine E.G.new (fun g => .pointer (some ⟨g, 0, none⟩)) (Q.S.cells Q.z0) 27 (fun w => by kernel_rfl) (by kernel_rfl) (fun v1_g_6_1 => ?_)
          refine E.H.back (fun w h => A.Y.xc (A.X.y h.x) (k := 0) rfl) ?_
          exact E.H.to _ _ _ (by kernel_rfl) ⟨by kernel_rfl, by kernel_rfl⟩ (List.Sublist.refl _) (dn _ _ _ _ _ (nd2 v1_g_6_1 v1_g_7_1))
      have nd10 : ∀ (v1_g_7_1 : Nat), H 7 (E.bits 16 8447) [(0, .pointer (some ⟨c, 0, none⟩)), (1, .int .i64 most), (4, .pointer (some ⟨g1, 0, none⟩)), (5, .int .i64 ((i.1 : Nat) : Int)), (7, .pointer (some ⟨v1_g_7_1, 0, none⟩)), (10, .pointer (some ⟨c, 0, none⟩)), (11, .pointer (some ⟨c, 0, none⟩)), (12, .pointer (some ⟨c, 2, none⟩)), (13, .pointer (some ⟨c, 25, none⟩)), (14, .int .i64 i.2.1.du), (15, .bool (decide (i.2.1.du > 0))), (16, .bool (decide (i.2.1.du > 0))), (28, .bool ((decide (i.2.1.du > 0)) && (decide (i.2.1.st ≥ i.2.1.du)))), (30, .int .i64 ((i.1 : Nat) : Int)), (31, .int .i64 most), (32, .bool (decide (((i.1 : Nat) : Int) ≥ most))), (35, .pointer (some ⟨c, 0, none⟩)), (36, .pointer (some ⟨c, 0, none⟩)), (37, .pointer (some ⟨c, 2, none⟩)), (38, Q.S.val i.2.1), (39, .pointer (some ⟨c, 0, none⟩)), (40, .pointer (some ⟨c, 0, none⟩)), (41, .pointer (some ⟨c, 0, none⟩)), (42, .iface 82 (.pointer (some ⟨c, 0, none⟩)))] (A.X w oo aa [M.It c i.2.2 (Q.S.cells i.2.1)]) [(v1_g_7_1, [.int .i64 0, .int .u32 0]), (g1, [.int .i64 0, .int .u32 0])] := by
        intro v1_g_7_1
        refine up _ _ _ _ _ ?_
        refine E.H.all [8, 12] (by kernel_rfl) (by simp) (List.forall_mem_cons.2 ⟨⟨_, rfl, ?_⟩, List.forall_mem_cons.2 ⟨⟨_, rfl, ?_⟩, fun _ h => (List.not_mem_nil h).elim⟩⟩)
        · skip
          refine A.G.call (I := Unit) (D := fun _ => True) (V := fun _ => .tuple #[Q.S.val ((Q.step i.2.1 i.2.2).1), .agg #[.int .i64 ((Q.step i.2.1 i.2.2).2.1), .int .u32 ((Q.step i.2.1 i.2.2).2.2.1)]]) (q := fun _ => [M.It c ((Q.step i.2.1 i.2.2).2.2.2) (Q.S.cells i.2.1)]) [A.blk v1_g_7_1 ([.int .i64 0, .int .u32 0]), A.blk g1 ([.int .i64 0, .int .u32 0])] (fun _ => [(v1_g_7_1, [.int .i64 0, .int .u32 0]), (g1, [.int .i64 0, .int .u32 0])]) (fun _ => [M.It c ((Q.step i.2.1 i.2.2).2.2.2) (Q.S.cells i.2.1)]) (Step_any (m := c) (xs := (Q.S.cells i.2.1)) i.2.1 i.2.2 hk1.2.1) (by kernel_rfl) (A.pm [2, 0, 1] (by kernel_rfl) (by kernel_rfl)) (fun _ => A.pm [1, 2, 0] (by kernel_rfl) (by kernel_rfl)) (fun w _ => by kernel_rfl) (by kernel_rfl) (fun _ v1_hd_43_1 => ?_)
          refine E.H.back (fun w h => A.Y.xc (A.X.y h.x) (k := 0) rfl) ?_
          exact E.H.to _ _ _ (by kernel_rfl) ⟨by kernel_rfl, by kernel_rfl⟩ (List.Sublist.refl _) (dn _ _ _ _ _ (nd11 v1_g_7_1))
        · skip
          refine E.G.new (fun g => .pointer (some ⟨g, 0, none⟩)) (Q.S.cells Q.z0) 27 (fun w => by kernel_rfl) (by kernel_rfl) (fun v1_g_6_1 => ?_)
          refine E.H.back (fun w h => A.Y.xc (A.X.y h.x) (k := 0) rfl) ?_
          exact E.H.to _ _ _ (by kernel_rfl) ⟨by kernel_rfl, by kernel_rfl⟩ (List.Sublist.refl _) (dn _ _ _ _ _ (nd8 v1_g_6_1 v1_g_7_1))
      refine up _ _ _ _ _ ?_
      refine E.H.take 0 (.pointer (some ⟨c, 0, none⟩)) rfl (by kernel_rfl) (by kernel_rfl) (by kernel_rfl) (fun _ _ _ h => h) (fun w h => A.Y.xc (A.X.y h.x) (k := 0) rfl) (.inl ⟨by kernel_rfl, by kernel_rfl, fun w h => by kernel_rfl⟩) (by kernel_rfl) ?_
      refine E.H.take 1 (.pointer (some ⟨c, 0, none⟩)) rfl (by kernel_rfl) (by kernel_rfl) (by kernel_rfl) (fun _ _ _ h => h) (fun w h => A.Y.xc (A.X.y h.x) (k := 0) rfl) (.inl ⟨by kernel_rfl, by kernel_rfl, fun w h => by kernel_rfl⟩) (by kernel_rfl) ?_
      refine E.H.take 2 (.pointer (some ⟨c, 2, none⟩)) rfl (by kernel_rfl) (by kernel_rfl) (by kernel_rfl) (fun _ _ _ h => h) (fun w h => A.Y.xc (A.X.y h.x) (k := 0) rfl) (.inl ⟨by kernel_rfl, by kernel_rfl, fun w h => by kernel_rfl⟩) (by kernel_rfl) ?_
      refine E.H.take 3 (Q.S.val i.2.1) rfl (by kernel_rfl) (by kernel_rfl) (by kernel_rfl) (fun _ _ _ h => h) (fun w h => A.Y.xc (A.X.y h.x) (k := 0) rfl) (.inl ⟨by kernel_rfl, by kernel_rfl, fun w h => M.Xc.ld (j := 0) h (by kernel_rfl) (by kernel_rfl)⟩) (by kernel_rfl) ?_
      refine E.H.take 4 (.pointer (some ⟨c, 0, none⟩)) rfl (by kernel_rfl) (by kernel_rfl) (by kernel_rfl) (fun _ _ _ h => h) (fun w h => A.Y.xc (A.X.y h.x) (k := 0) rfl) (.inl ⟨by kernel_rfl, by kernel_rfl, fun w h => by kernel_rfl⟩) (by kernel_rfl) ?_
      refine E.H.take 5 (.pointer (some ⟨c, 0, none⟩)) rfl (by kernel_rfl) (by kernel_rfl) (by kernel_rfl) (fun _ _ _ h => h) (fun w h => A.Y.xc (A.X.y h.x) (k := 0) rfl) (.inl ⟨by kernel_rfl, by kernel_rfl, fun w h => by kernel_rfl⟩) (by kernel_rfl) ?_
      refine E.H.take 6 (.pointer (some ⟨c, 0, none⟩)) rfl (by kernel_rfl) (by kernel_rfl) (by kernel_rfl) (fun _ _ _ h => h) (fun w h => A.Y.xc (A.X.y h.x) (k := 0) rfl) (.inl ⟨by kernel_rfl, by kernel_rfl, fun w h => by kernel_rfl⟩) (by kernel_rfl) ?_
      refine E.H.take 7 (.iface 82 (.pointer (some ⟨c, 0, none⟩))) rfl (by kernel_rfl) (by kernel_rfl) (by kernel_rfl) (fun _ _ _ h => h) (fun w h => A.Y.xc (A.X.y h.x) (k := 0) rfl) (.inl ⟨by kernel_rfl, by kernel_rfl, fun w h => by kernel_rfl⟩) (by kernel_rfl) ?_
      refine E.H.all [8, 12, 13] (by kernel_rfl) (by simp) (List.forall_mem_cons.2 ⟨⟨_, rfl, ?_⟩, List.forall_mem_cons.2 ⟨⟨_, rfl, ?_⟩, List.forall_mem_cons.2 ⟨⟨_, rfl, ?_⟩, fun _ h => (List.not_mem_nil h).elim⟩⟩⟩)
      · skip
        refine A.G.call (I := Unit) (D := fun _ => True) (V := fun _ => .tuple #[Q.S.val ((Q.step i.2.1 i.2.2).1), .agg #[.int .i64 ((Q.step i.2.1 i.2.2).2.1), .int .u32 ((Q.step i.2.1 i.2.2).2.2.1)]]) (q := fun _ => [M.It c ((Q.step i.2.1 i.2.2).2.2.2) (Q.S.cells i.2.1)]) [A.blk g1 ([.int .i64 0, .int .u32 0])] (fun _ => [(g1, [.int .i64 0, .int .u32 0])]) (fun _ => [M.It c ((Q.step i.2.1 i.2.2).2.2.2) (Q.S.cells i.2.1)]) (Step_any (m := c) (xs := (Q.S.cells i.2.1)) i.2.1 i.2.2 hk1.2.1) (by kernel_rfl) (A.pm [1, 0] (by kernel_rfl) (by kernel_rfl)) (fun _ => A.pm [1, 0] (by kernel_rfl) (by kernel_rfl)) (fun w _ => by kernel_rfl) (by kernel_rfl) (fun _ v1_hd_43_1 => ?_)
        refine E.H.back (fun w h => A.Y.xc (A.X.y h.x) (k := 0) rfl) ?_
        exact E.H.to _ _ _ (by kernel_rfl) ⟨by kernel_rfl, by kernel_rfl⟩ (List.Sublist.refl _) (dn _ _ _ _ _ (nd0))
      · skip
        refine E.G.new (fun g => .pointer (some ⟨g, 0, none⟩)) (Q.S.cells Q.z0) 27 (fun w => by kernel_rfl) (by kernel_rfl) (fun v1_g_6_1 => ?_)
        refine E.H.back (fun w h => A.Y.xc (A.X.y h.x) (k := 0) rfl) ?_
        exact E.H.to _ _ _ (by kernel_rfl) ⟨by kernel_rfl, by kernel_rfl⟩ (List.Sublist.refl _) (dn _ _ _ _ _ (nd6 v1_g_6_1))
      · skip
        refine E.G.new (fun g => .pointer (some ⟨g, 0, none⟩)) [.int .i64 0, .int .u32 0] 51 (fun w => by kernel_rfl) (by kernel_rfl) (fun v1_g_7_1 => ?_)
        refine E.H.back (fun w h => A.Y.xc (A.X.y h.x) (k := 0) rfl) ?_
        exact E.H.to _ _ _ (by kernel_rfl) ⟨by kernel_rfl, by kernel_rfl⟩ (List.Sublist.refl _) (dn _ _ _ _ _ (nd10 v1_g_7_1))
end Go.Proofs.Ytgbndbljohpnmaa

/- XQn -/
namespace Go.Proofs.Ytgbndbljohpnmaa
set_option linter.unusedVariables false
set_option linter.unusedSimpArgs false
open Go.RowKit
/-- A format of the reference. -/
structure Q3.Fm where
  is : Bool
  d : Bool
  a : Bool
  b : Bool
  sg : Bool
  bits : Nat
  most : Int
section
variable {P : Program} {fr : E.Fr} {T : TypeId} {d : Option Nat} {pos : String} {af : Array Edge} {gd : Option (Nat × Bool)}
theorem E.remI {t u : TypeId} {x y : Operand} {k : IntKind} (a b : Int) (hx : E.ev fr x = .int k a) (hy : E.ev fr y = .int k b) (hb : b ≠ 0) (w : World) :
    (execOp (E.ev fr) ⟨d, .binOp .rem t x y u, T, pos, af, gd⟩).run P w = .ok (.value (.int k (Int.tmod a b))) w := by
  show (do let r ← (do eqGuard .rem t x y (E.ev fr x) (E.ev fr y); binOp .rem t (E.ev fr x) (E.ev fr y)); pure (Next.value r) : Sem Next).run P w = _
  rw [hx, hy]
  simp [eqGuard, binOp, Op.intDiv, hb]
end
theorem Q.w64u {n : Nat} (h : n < 64) : IntKind.wrap .u64 ((n : Nat) : Int) = ((n : Nat) : Int) := by
  show ((n : Nat) : Int) % 18446744073709551616 = _
  omega
def Q3.of (op : Int) : Q3.Fm := (bif ((decide (op ≥ 1)) && (decide (op ≤ 12))) then ⟨true, true, true, true, false, 0, 0⟩ else (bif (((op == 17) || (op == 18)) || (op == 19)) then ⟨true, true, true, false, false, 18, 0⟩ else (bif (((decide (op ≥ 16)) && (decide (op ≤ 27))) || ((decide (op ≥ 32)) && (decide (op ≤ 37)))) then ⟨true, true, true, false, true, 18, 0⟩ else (bif (op == 40) then ⟨true, true, false, false, true, 22, 0⟩ else (bif (op == 41) then ⟨true, true, false, false, false, 22, 0⟩ else (bif (op == 48) then ⟨true, false, false, false, false, 18, 0⟩ else (bif (((op == 49) || (op == 50)) || (op == 51)) then ⟨true, false, false, false, false, 0, 0⟩ else (bif (op == 52) then ⟨true, false, true, false, false, 0, 0⟩ else (bif (op == 53) then ⟨true, true, false, false, false, 18, 3⟩ else (bif (op == 54) then ⟨true, false, true, false, false, 18, 4⟩ else ⟨false, false, false, false, false, 0, 0⟩))))))))))
theorem Of3_any (op : Int) (w : World) : Calls Try.prog 47 #[.int .i64 op] w fun e w' => e = .returned (.agg #[.bool ((Q3.of op).is), .bool ((Q3.of op).d), .bool ((Q3.of op).a), .bool ((Q3.of op).b), .bool ((Q3.of op).sg), .int .i64 (((Q3.of op).bits : Nat) : Int), .int .u32 ((Q3.of op).most)]) ∧ Bel w w' := by
  refine E.enter (n := 76) (S := fun _ => False) Try.func47 rfl rfl (by kernel_rfl) (E.Hp.start w) ?_
  refine E.C.seq ?_
  refine E.C.region ?_
  refine E.G.new (fun g => .pointer (some ⟨g, 0, none⟩)) [.bool false, .bool false, .bool false, .bool false, .bool false, .int .i64 0, .int .u32 0] 88 (fun w => by kernel_rfl) (by kernel_rfl) (fun g1 => ?_)
  refine E.To.code ?_
  refine E.C.seq ?_
  refine E.C.block ?_
  refine E.C.seq ?_
  refine E.C.region ?_
  refine E.G.op (.int .i64 op) (fun w => by kernel_rfl) (by kernel_rfl) ?_
  refine E.G.op (.bool (decide (op ≥ 1))) (fun w => by kernel_rfl) (by kernel_rfl) ?_
  refine E.G.op (.bool (decide (op ≥ 1))) (fun w => by kernel_rfl) (by kernel_rfl) ?_
  refine E.G.cut 3 [(0, .int .i64 op), (2, .pointer (some ⟨g1, 0, none⟩)), (9, .bool ((decide (op ≥ 1)) && (decide (op ≤ 12))))] (fun _ => True) [(g1, [.bool false, .bool false, .bool false, .bool false, .bool false, .int .i64 0, .int .u32 0])] ?_ ?_
  · generalize hc2 : (decide (op ≥ 1)) = b3
    cases b3
    · skip
      refine E.G.skip (by kernel_rfl) (by kernel_rfl) ?_
      refine E.G.skip (by kernel_rfl) (by kernel_rfl) ?_
      refine E.G.op (.bool false) (fun w => by kernel_rfl) (by kernel_rfl) ?_
      exact E.G.end_pst ⟨by kernel_rfl, by kernel_rfl⟩ (List.Sublist.refl _) (fun _ h => h)
    · skip
      refine E.G.op (.int .i64 op) (fun w => by kernel_rfl) (by kernel_rfl) ?_
      refine E.G.op (.bool (decide (op ≤ 12))) (fun w => by kernel_rfl) (by kernel_rfl) ?_
      refine E.G.op (.bool (decide (op ≤ 12))) (fun w => by kernel_rfl) (by kernel_rfl) ?_
      exact E.G.end_pst ⟨by kernel_rfl, by kernel_rfl⟩ (List.Sublist.refl _) (fun _ h => h)
  refine E.G.op (.bool ((decide (op ≥ 1)) && (decide (op ≤ 12)))) (fun w => by kernel_rfl) (by kernel_rfl) ?_
  refine E.To.code ?_
  refine E.C.cond ((decide (op ≥ 1)) && (decide (op ≤ 12))) (by kernel_rfl) (by kernel_rfl) (fun hc4 => ?_) (fun hc4 => ?_)
  · skip
    refine E.C.seq ?_
    refine E.C.region ?_
    refine E.G.val (.agg #[.bool true, .bool true, .bool true, .bool true, .bool false, .int .i64 0, .int .u32 0]) (by kernel_rfl) (fun w h => E.run_build #[.bool true, .bool true, .bool true, .bool true, .bool false, .int .i64 0, .int .u32 0] (by kernel_rfl) w) ?_
    refine E.G.store 0 [.bool true, .bool true, .bool true, .bool true, .bool false, .int .i64 0, .int .u32 0] rfl rfl (by kernel_rfl) (by kernel_rfl) ?_
    refine E.To.code ?_
    refine E.C.ret (E.P.rb (E.P.rt (E.To.body (fn := Try.f47) [.agg #[.bool true, .bool true, .bool true, .bool true, .bool false, .int .i64 0, .int .u32 0]] ?_ ?_)))
    · exact ⟨⟨by kernel_rfl, _, _, 0, _, rfl, rfl, by kernel_rfl⟩, trivial⟩
    · intro w h
      exact ⟨by show Ending.returned (.agg #[.bool true, .bool true, .bool true, .bool true, .bool false, .int .i64 0, .int .u32 0]) = _; unfold Q3.of; rw [hc4, cond_true] <;> rfl, h.ch.bel (fun _ h => h.elim)⟩
  · skip
    refine E.C.seq ?_
    refine E.C.region ?_
    refine E.G.op (.int .i64 op) (fun w => by kernel_rfl) (by kernel_rfl) ?_
    refine E.G.op (.bool (op == 17)) (fun w => by kernel_rfl) (by kernel_rfl) ?_
    refine E.G.op (.bool (op == 17)) (fun w => by kernel_rfl) (by kernel_rfl) ?_
    refine E.G.cut 3 [(0, .int .i64 op), (2, .pointer (some ⟨g1, 0, none⟩)), (17, .bool ((op == 17) || (op == 18)))] (fun _ => True) [(g1, [.bool false, .bool false, .bool false, .bool false, .bool false, .int .i64 0, .int .u32 0])] ?_ ?_
    · generalize hc5 : (op == 17) = b6
      cases b6
      · skip
        refine E.G.op (.int .i64 op) (fun w => by kernel_rfl) (by kernel_rfl) ?_
        refine E.G.op (.bool (op == 18)) (fun w => by kernel_rfl) (by kernel_rfl) ?_
        refine E.G.op (.bool (op == 18)) (fun w => by kernel_rfl) (by kernel_rfl) ?_
        exact E.G.end_pst ⟨by kernel_rfl, by kernel_rfl⟩ (List.Sublist.refl _) (fun _ h => h)
      · skip
        refine E.G.skip (by kernel_rfl) (by kernel_rfl) ?_
        refine E.G.skip (by kernel_rfl) (by kernel_rfl) ?_
        refine E.G.op (.bool true) (fun w => by kernel_rfl) (by kernel_rfl) ?_
        exact E.G.end_pst ⟨by kernel_rfl, by kernel_rfl⟩ (List.Sublist.refl _) (fun _ h => h)
    refine E.G.op (.bool ((op == 17) || (op == 18))) (fun w => by kernel_rfl) (by kernel_rfl) ?_
    refine E.G.cut 3 [(0, .int .i64 op), (2, .pointer (some ⟨g1, 0, none⟩)), (21, .bool (((op == 17) || (op == 18)) || (op == 19)))] (fun _ => True) [(g1, [.bool false, .bool false, .bool false, .bool false, .bool false, .int .i64 0, .int .u32 0])] ?_ ?_
    · generalize hc7 : ((op == 17) || (op == 18)) = b8
      cases b8
      · skip
        refine E.G.op (.int .i64 op) (fun w => by kernel_rfl) (by kernel_rfl) ?_
        refine E.G.op (.bool (op == 19)) (fun w => by kernel_rfl) (by kernel_rfl) ?_
        refine E.G.op (.bool (op == 19)) (fun w => by kernel_rfl) (by kernel_rfl) ?_
        exact E.G.end_pst ⟨by kernel_rfl, by kernel_rfl⟩ (List.Sublist.refl _) (fun _ h => h)
      · skip
        refine E.G.skip (by kernel_rfl) (by kernel_rfl) ?_
        refine E.G.skip (by kernel_rfl) (by kernel_rfl) ?_
        refine E.G.op (.bool true) (fun w => by kernel_rfl) (by kernel_rfl) ?_
        exact E.G.end_pst ⟨by kernel_rfl, by kernel_rfl⟩ (List.Sublist.refl _) (fun _ h => h)
    refine E.G.op (.bool (((op == 17) || (op == 18)) || (op == 19))) (fun w => by kernel_rfl) (by kernel_rfl) ?_
    refine E.To.code ?_
    refine E.C.cond (((op == 17) || (op == 18)) || (op == 19)) (by kernel_rfl) (by kernel_rfl) (fun hc9 => ?_) (fun hc9 => ?_)
    · skip
      refine E.C.seq ?_
      refine E.C.region ?_
      refine E.G.val (.agg #[.bool true, .bool true, .bool true, .bool false, .bool false, .int .i64 18, .int .u32 0]) (by kernel_rfl) (fun w h => E.run_build #[.bool true, .bool true, .bool true, .bool false, .bool false, .int .i64 18, .int .u32 0] (by kernel_rfl) w) ?_
      refine E.G.store 0 [.bool true, .bool true, .bool true, .bool false, .bool false, .int .i64 18, .int .u32 0] rfl rfl (by kernel_rfl) (by kernel_rfl) ?_
      refine E.To.code ?_
      refine E.C.ret (E.P.rb (E.P.rt (E.To.body (fn := Try.f47) [.agg #[.bool true, .bool true, .bool true, .bool false, .bool false, .int .i64 18, .int .u32 0]] ?_ ?_)))
      · exact ⟨⟨by kernel_rfl, _, _, 0, _, rfl, rfl, by kernel_rfl⟩, trivial⟩
      · intro w h
        exact ⟨by show Ending.returned (.agg #[.bool true, .bool true, .bool true, .bool false, .bool false, .int .i64 18, .int .u32 0]) = _; unfold Q3.of; rw [hc4, cond_false, hc9, cond_true] <;> rfl, h.ch.bel (fun _ h => h.elim)⟩
    · skip
      refine E.C.seq ?_
      refine E.C.region ?_
      refine E.G.op (.int .i64 op) (fun w => by kernel_rfl) (by kernel_rfl) ?_
      refine E.G.op (.bool (decide (op ≥ 16))) (fun w => by kernel_rfl) (by kernel_rfl) ?_
      refine E.G.op (.bool (decide (op ≥ 16))) (fun w => by kernel_rfl) (by kernel_rfl) ?_
      refine E.G.cut 3 [(0, .int .i64 op), (2, .pointer (some ⟨g1, 0, none⟩)), (29, .bool ((decide (op ≥ 16)) && (decide (op ≤ 27))))] (fun _ => True) [(g1, [.bool false, .bool false, .bool false, .bool false, .bool false, .int .i64 0, .int .u32 0])] ?_ ?_
      · generalize hc10 : (decide (op ≥ 16)) = b11
        cases b11
        · skip
          refine E.G.skip (by kernel_rfl) (by kernel_rfl) ?_
          refine E.G.skip (by kernel_rfl) (by kernel_rfl) ?_
          refine E.G.op (.bool false) (fun w => by kernel_rfl) (by kernel_rfl) ?_
          exact E.G.end_pst ⟨by kernel_rfl, by kernel_rfl⟩ (List.Sublist.refl _) (fun _ h => h)
        · skip
          refine E.G.op (.int .i64 op) (fun w => by kernel_rfl) (by kernel_rfl) ?_
          refine E.G.op (.bool (decide (op ≤ 27))) (fun w => by kernel_rfl) (by kernel_rfl) ?_
          refine E.G.op (.bool (decide (op ≤ 27))) (fun w => by kernel_rfl) (by kernel_rfl) ?_
          exact E.G.end_pst ⟨by kernel_rfl, by kernel_rfl⟩ (List.Sublist.refl _) (fun _ h => h)
      refine E.G.op (.bool ((decide (op ≥ 16)) && (decide (op ≤ 27)))) (fun w => by kernel_rfl) (by kernel_rfl) ?_
      refine E.G.cut 7 [(0, .int .i64 op), (2, .pointer (some ⟨g1, 0, none⟩)), (37, .bool (((decide (op ≥ 16)) && (decide (op ≤ 27))) || ((decide (op ≥ 32)) && (decide (op ≤ 37)))))] (fun _ => True) [(g1, [.bool false, .bool false, .bool false, .bool false, .bool false, .int .i64 0, .int .u32 0])] ?_ ?_
      · generalize hc12 : ((decide (op ≥ 16)) && (decide (op ≤ 27))) = b13
        cases b13
        · skip
          refine E.G.op (.int .i64 op) (fun w => by kernel_rfl) (by kernel_rfl) ?_
          refine E.G.op (.bool (decide (op ≥ 32))) (fun w => by kernel_rfl) (by kernel_rfl) ?_
          refine E.G.op (.bool (decide (op ≥ 32))) (fun w => by kernel_rfl) (by kernel_rfl) ?_
          refine E.G.cut 3 [(0, .int .i64 op), (2, .pointer (some ⟨g1, 0, none⟩)), (30, .bool false), (36, .bool ((decide (op ≥ 32)) && (decide (op ≤ 37))))] (fun _ => True) [(g1, [.bool false, .bool false, .bool false, .bool false, .bool false, .int .i64 0, .int .u32 0])] ?_ ?_
          · generalize hc14 : (decide (op ≥ 32)) = b15
            cases b15
            · skip
              refine E.G.skip (by kernel_rfl) (by kernel_rfl) ?_
              refine E.G.skip (by kernel_rfl) (by kernel_rfl) ?_
              refine E.G.op (.bool false) (fun w => by kernel_rfl) (by kernel_rfl) ?_
              exact E.G.end_pst ⟨by kernel_rfl, by kernel_rfl⟩ (List.Sublist.refl _) (fun _ h => h)
            · skip
              refine E.G.op (.int .i64 op) (fun w => by kernel_rfl) (by kernel_rfl) ?_
              refine E.G.op (.bool (decide (op ≤ 37))) (fun w => by kernel_rfl) (by kernel_rfl) ?_
              refine E.G.op (.bool (decide (op ≤ 37))) (fun w => by kernel_rfl) (by kernel_rfl) ?_
              exact E.G.end_pst ⟨by kernel_rfl, by kernel_rfl⟩ (List.Sublist.refl _) (fun _ h => h)
          refine E.G.op (.bool ((decide (op ≥ 32)) && (decide (op ≤ 37)))) (fun w => by kernel_rfl) (by kernel_rfl) ?_
          exact E.G.end_pst ⟨by kernel_rfl, by kernel_rfl⟩ (List.Sublist.refl _) (fun _ h => h)
        · skip
          refine E.G.skip (by kernel_rfl) (by kernel_rfl) ?_
          refine E.G.skip (by kernel_rfl) (by kernel_rfl) ?_
          refine E.G.skip (by kernel_rfl) (by kernel_rfl) ?_
          refine E.G.skip (by kernel_rfl) (by kernel_rfl) ?_
          refine E.G.skip (by kernel_rfl) (by kernel_rfl) ?_
          refine E.G.skip (by kernel_rfl) (by kernel_rfl) ?_
          refine E.G.op (.bool true) (fun w => by kernel_rfl) (by kernel_rfl) ?_
          exact E.G.end_pst ⟨by kernel_rfl, by kernel_rfl⟩ (List.Sublist.refl _) (fun _ h => h)
      refine E.G.op (.bool (((decide (op ≥ 16)) && (decide (op ≤ 27))) || ((decide (op ≥ 32)) && (decide (op ≤ 37))))) (fun w => by kernel_rfl) (by kernel_rfl) ?_
      refine E.To.code ?_
      refine E.C.cond (((decide (op ≥ 16)) && (decide (op ≤ 27))) || ((decide (op ≥ 32)) && (decide (op ≤ 37)))) (by kernel_rfl) (by kernel_rfl) (fun hc16 => ?_) (fun hc16 => ?_)
      · skip
        refine E.C.seq ?_
        refine E.C.region ?_
        refine E.G.val (.agg #[.bool true, .bool true, .bool true, .bool false, .bool true, .int .i64 18, .int .u32 0]) (by kernel_rfl) (fun w h => E.run_build #[.bool true, .bool true, .bool true, .bool false, .bool true, .int .i64 18, .int .u32 0] (by kernel_rfl) w) ?_
        refine E.G.store 0 [.bool true, .bool true, .bool true, .bool false, .bool true, .int .i64 18, .int .u32 0] rfl rfl (by kernel_rfl) (by kernel_rfl) ?_
        refine E.To.code ?_
        refine E.C.ret (E.P.rb (E.P.rt (E.To.body (fn := Try.f47) [.agg #[.bool true, .bool true, .bool true, .bool false, .bool true, .int .i64 18, .int .u32 0]] ?_ ?_)))
        · exact ⟨⟨by kernel_rfl, _, _, 0, _, rfl, rfl, by kernel_rfl⟩, trivial⟩
        · intro w h
          exact ⟨by show Ending.returned (.agg #[.bool true, .bool true, .bool true, .bool false, .bool true, .int .i64 18, .int .u32 0]) = _; unfold Q3.of; rw [hc4, cond_false, hc9, cond_false, hc16, cond_true] <;> rfl, h.ch.bel (fun _ h => h.elim)⟩
      · skip
        refine E.C.seq ?_
        refine E.C.region ?_
        refine E.G.op (.int .i64 op) (fun w => by kernel_rfl) (by kernel_rfl) ?_
        refine E.G.op (.bool (op == 40)) (fun w => by kernel_rfl) (by kernel_rfl) ?_
        refine E.G.op (.bool (op == 40)) (fun w => by kernel_rfl) (by kernel_rfl) ?_
        refine E.To.code ?_
        refine E.C.cond (op == 40) (by kernel_rfl) (by kernel_rfl) (fun hc17 => ?_) (fun hc17 => ?_)
        · skip
          refine E.C.seq ?_
          refine E.C.region ?_
          refine E.G.val (.agg #[.bool true, .bool true, .bool false, .bool false, .bool true, .int .i64 22, .int .u32 0]) (by kernel_rfl) (fun w h => E.run_build #[.bool true, .bool true, .bool false, .bool false, .bool true, .int .i64 22, .int .u32 0] (by kernel_rfl) w) ?_
          refine E.G.store 0 [.bool true, .bool true, .bool false, .bool false, .bool true, .int .i64 22, .int .u32 0] rfl rfl (by kernel_rfl) (by kernel_rfl) ?_
          refine E.To.code ?_
          refine E.C.ret (E.P.rb (E.P.rt (E.To.body (fn := Try.f47) [.agg #[.bool true, .bool true, .bool false, .bool false, .bool true, .int .i64 22, .int .u32 0]] ?_ ?_)))
          · exact ⟨⟨by kernel_rfl, _, _, 0, _, rfl, rfl, by kernel_rfl⟩, trivial⟩
          · intro w h
            exact ⟨by show Ending.returned (.agg #[.bool true, .bool true, .bool false, .bool false, .bool true, .int .i64 22, .int .u32 0]) = _; unfold Q3.of; rw [hc4, cond_false, hc9, cond_false, hc16, cond_false, hc17, cond_true] <;> rfl, h.ch.bel (fun _ h => h.elim)⟩
        · skip
          refine E.C.seq ?_
          refine E.C.region ?_
          refine E.G.op (.int .i64 op) (fun w => by kernel_rfl) (by kernel_rfl) ?_
          refine E.G.op (.bool (op == 41)) (fun w => by kernel_rfl) (by kernel_rfl) ?_
          refine E.G.op (.bool (op == 41)) (fun w => by kernel_rfl) (by kernel_rfl) ?_
          refine E.To.code ?_
          refine E.C.cond (op == 41) (by kernel_rfl) (by kernel_rfl) (fun hc18 => ?_) (fun hc18 => ?_)
          · skip
            refine E.C.seq ?_
            refine E.C.region ?_
            refine E.G.val (.agg #[.bool true, .bool true, .bool false, .bool false, .bool false, .int .i64 22, .int .u32 0]) (by kernel_rfl) (fun w h => E.run_build #[.bool true, .bool true, .bool false, .bool false, .bool false, .int .i64 22, .int .u32 0] (by kernel_rfl) w) ?_
            refine E.G.store 0 [.bool true, .bool true, .bool false, .bool false, .bool false, .int .i64 22, .int .u32 0] rfl rfl (by kernel_rfl) (by kernel_rfl) ?_
            refine E.To.code ?_
            refine E.C.weak [(2, .pointer (some ⟨g1, 0, none⟩))] [(g1, [.bool true, .bool true, .bool false, .bool false, .bool false, .int .i64 22, .int .u32 0])] ⟨by kernel_rfl, by kernel_rfl⟩ (List.Sublist.refl _) ?_
            refine E.C.ret (E.P.rb (E.P.rt (E.To.body (fn := Try.f47) [.agg #[.bool true, .bool true, .bool false, .bool false, .bool false, .int .i64 22, .int .u32 0]] ?_ ?_)))
            · exact ⟨⟨by kernel_rfl, _, _, 0, _, rfl, rfl, by kernel_rfl⟩, trivial⟩
            · intro w h
              exact ⟨by show Ending.returned (.agg #[.bool true, .bool true, .bool false, .bool false, .bool false, .int .i64 22, .int .u32 0]) = _; unfold Q3.of; rw [hc4, cond_false, hc9, cond_false, hc16, cond_false, hc17, cond_false, hc18, cond_true] <;> rfl, h.ch.bel (fun _ h => h.elim)⟩
          · skip
            refine E.C.seq ?_
            refine E.C.region ?_
            refine E.G.op (.int .i64 op) (fun w => by kernel_rfl) (by kernel_rfl) ?_
            refine E.G.op (.bool (op == 48)) (fun w => by kernel_rfl) (by kernel_rfl) ?_
            refine E.G.op (.bool (op == 48)) (fun w => by kernel_rfl) (by kernel_rfl) ?_
            refine E.To.code ?_
            refine E.C.weak [(0, .int .i64 op), (2, .pointer (some ⟨g1, 0, none⟩)), (47, .bool (op == 48))] [(g1, [.bool false, .bool false, .bool false, .bool false, .bool false, .int .i64 0, .int .u32 0])] ⟨by kernel_rfl, by kernel_rfl⟩ (List.Sublist.refl _) ?_
            refine E.C.cond (op == 48) (by kernel_rfl) (by kernel_rfl) (fun hc19 => ?_) (fun hc19 => ?_)
            · skip
              refine E.C.seq ?_
              refine E.C.region ?_
              refine E.G.val (.agg #[.bool true, .bool false, .bool false, .bool false, .bool false, .int .i64 18, .int .u32 0]) (by kernel_rfl) (fun w h => E.run_build #[.bool true, .bool false, .bool false, .bool false, .bool false, .int .i64 18, .int .u32 0] (by kernel_rfl) w) ?_
              refine E.G.store 0 [.bool true, .bool false, .bool false, .bool false, .bool false, .int .i64 18, .int .u32 0] rfl rfl (by kernel_rfl) (by kernel_rfl) ?_
              refine E.To.code ?_
              refine E.C.ret (E.P.rb (E.P.rt (E.To.body (fn := Try.f47) [.agg #[.bool true, .bool false, .bool false, .bool false, .bool false, .int .i64 18, .int .u32 0]] ?_ ?_)))
              · exact ⟨⟨by kernel_rfl, _, _, 0, _, rfl, rfl, by kernel_rfl⟩, trivial⟩
              · intro w h
                exact ⟨by show Ending.returned (.agg #[.bool true, .bool false, .bool false, .bool false, .bool false, .int .i64 18, .int .u32 0]) = _; unfold Q3.of; rw [hc4, cond_false, hc9, cond_false, hc16, cond_false, hc17, cond_false, hc18, cond_false, hc19, cond_true] <;> rfl, h.ch.bel (fun _ h => h.elim)⟩
            · skip
              refine E.C.seq ?_
              refine E.C.region ?_
              refine E.G.op (.int .i64 op) (fun w => by kernel_rfl) (by kernel_rfl) ?_
              refine E.G.op (.bool (op == 49)) (fun w => by kernel_rfl) (by kernel_rfl) ?_
              refine E.G.op (.bool (op == 49)) (fun w => by kernel_rfl) (by kernel_rfl) ?_
              refine E.G.cut 3 [(0, .int .i64 op), (2, .pointer (some ⟨g1, 0, none⟩)), (57, .bool ((op == 49) || (op == 50)))] (fun _ => True) [(g1, [.bool false, .bool false, .bool false, .bool false, .bool false, .int .i64 0, .int .u32 0])] ?_ ?_
              · generalize hc20 : (op == 49) = b21
                cases b21
                · skip
                  refine E.G.op (.int .i64 op) (fun w => by kernel_rfl) (by kernel_rfl) ?_
                  refine E.G.op (.bool (op == 50)) (fun w => by kernel_rfl) (by kernel_rfl) ?_
                  refine E.G.op (.bool (op == 50)) (fun w => by kernel_rfl) (by kernel_rfl) ?_
                  exact E.G.end_pst ⟨by kernel_rfl, by kernel_rfl⟩ (List.Sublist.refl _) (fun _ h => h)
                · skip
                  refine E.G.skip (by kernel_rfl) (by kernel_rfl) ?_
                  refine E.G.skip (by kernel_rfl) (by kernel_rfl) ?_
                  refine E.G.op (.bool true) (fun w => by kernel_rfl) (by kernel_rfl) ?_
                  exact E.G.end_pst ⟨by kernel_rfl, by kernel_rfl⟩ (List.Sublist.refl _) (fun _ h => h)
              refine E.G.op (.bool ((op == 49) || (op == 50))) (fun w => by kernel_rfl) (by kernel_rfl) ?_
              refine E.G.cut 3 [(0, .int .i64 op), (2, .pointer (some ⟨g1, 0, none⟩)), (61, .bool (((op == 49) || (op == 50)) || (op == 51)))] (fun _ => True) [(g1, [.bool false, .bool false, .bool false, .bool false, .bool false, .int .i64 0, .int .u32 0])] ?_ ?_
              · generalize hc22 : ((op == 49) || (op == 50)) = b23
                cases b23
                · skip
                  refine E.G.op (.int .i64 op) (fun w => by kernel_rfl) (by kernel_rfl) ?_
                  refine E.G.op (.bool (op == 51)) (fun w => by kernel_rfl) (by kernel_rfl) ?_
                  refine E.G.op (.bool (op == 51)) (fun w => by kernel_rfl) (by kernel_rfl) ?_
                  exact E.G.end_pst ⟨by kernel_rfl, by kernel_rfl⟩ (List.Sublist.refl _) (fun _ h => h)
                · skip
                  refine E.G.skip (by kernel_rfl) (by kernel_rfl) ?_
                  refine E.G.skip (by kernel_rfl) (by kernel_rfl) ?_
                  refine E.G.op (.bool true) (fun w => by kernel_rfl) (by kernel_rfl) ?_
                  exact E.G.end_pst ⟨by kernel_rfl, by kernel_rfl⟩ (List.Sublist.refl _) (fun _ h => h)
              refine E.G.op (.bool (((op == 49) || (op == 50)) || (op == 51))) (fun w => by kernel_rfl) (by kernel_rfl) ?_
              refine E.To.code ?_
              refine E.C.cond (((op == 49) || (op == 50)) || (op == 51)) (by kernel_rfl) (by kernel_rfl) (fun hc24 => ?_) (fun hc24 => ?_)
              · skip
                refine E.C.seq ?_
                refine E.C.region ?_
                refine E.G.val (.agg #[.bool true, .bool false, .bool false, .bool false, .bool false, .int .i64 0, .int .u32 0]) (by kernel_rfl) (fun w h => E.run_build #[.bool true, .bool false, .bool false, .bool false, .bool false, .int .i64 0, .int .u32 0] (by kernel_rfl) w) ?_
                refine E.G.store 0 [.bool true, .bool false, .bool false, .bool false, .bool false, .int .i64 0, .int .u32 0] rfl rfl (by kernel_rfl) (by kernel_rfl) ?_
                refine E.To.code ?_
                refine E.C.ret (E.P.rb (E.P.rt (E.To.body (fn := Try.f47) [.agg #[.bool true, .bool false, .bool false, .bool false, .bool false, .int .i64 0, .int .u32 0]] ?_ ?_)))
                · exact ⟨⟨by kernel_rfl, _, _, 0, _, rfl, rfl, by kernel_rfl⟩, trivial⟩
                · intro w h
                  exact ⟨by show Ending.returned (.agg #[.bool true, .bool false, .bool false, .bool false, .bool false, .int .i64 0, .int .u32 0]) = _; unfold Q3.of; rw [hc4, cond_false, hc9, cond_false, hc16, cond_false, hc17, cond_false, hc18, cond_false, hc19, cond_false, hc24, cond_true] <;> rfl, h.ch.bel (fun _ h => h.elim)⟩
              · skip
                refine E.C.seq ?_
                refine E.C.region ?_
                refine E.G.op (.int .i64 op) (fun w => by kernel_rfl) (by kernel_rfl) ?_
                refine E.G.op (.bool (op == 52)) (fun w => by kernel_rfl) (by kernel_rfl) ?_
                refine E.G.op (.bool (op == 52)) (fun w => by kernel_rfl) (by kernel_rfl) ?_
                refine E.To.code ?_
                refine E.C.cond (op == 52) (by kernel_rfl) (by kernel_rfl) (fun hc25 => ?_) (fun hc25 => ?_)
                · skip
                  refine E.C.seq ?_
                  refine E.C.region ?_
                  refine E.G.val (.agg #[.bool true, .bool false, .bool true, .bool false, .bool false, .int .i64 0, .int .u32 0]) (by kernel_rfl) (fun w h => E.run_build #[.bool true, .bool false, .bool true, .bool false, .bool false, .int .i64 0, .int .u32 0] (by kernel_rfl) w) ?_
                  refine E.G.store 0 [.bool true, .bool false, .bool true, .bool false, .bool false, .int .i64 0, .int .u32 0] rfl rfl (by kernel_rfl) (by kernel_rfl) ?_
                  refine E.To.code ?_
                  refine E.C.ret (E.P.rb (E.P.rt (E.To.body (fn := Try.f47) [.agg #[.bool true, .bool false, .bool true, .bool false, .bool false, .int .i64 0, .int .u32 0]] ?_ ?_)))
                  · exact ⟨⟨by kernel_rfl, _, _, 0, _, rfl, rfl, by kernel_rfl⟩, trivial⟩
                  · intro w h
                    exact ⟨by show Ending.returned (.agg #[.bool true, .bool false, .bool true, .bool false, .bool false, .int .i64 0, .int .u32 0]) = _; unfold Q3.of; rw [hc4, cond_false, hc9, cond_false, hc16, cond_false, hc17, cond_false, hc18, cond_false, hc19, cond_false, hc24, cond_false, hc25, cond_true] <;> rfl, h.ch.bel (fun _ h => h.elim)⟩
                · skip
                  refine E.C.seq ?_
                  refine E.C.region ?_
                  refine E.G.op (.int .i64 op) (fun w => by kernel_rfl) (by kernel_rfl) ?_
                  refine E.G.op (.bool (op == 53)) (fun w => by kernel_rfl) (by kernel_rfl) ?_
                  refine E.G.op (.bool (op == 53)) (fun w => by kernel_rfl) (by kernel_rfl) ?_
                  refine E.To.code ?_
                  refine E.C.cond (op == 53) (by kernel_rfl) (by kernel_rfl) (fun hc26 => ?_) (fun hc26 => ?_)
                  · skip
                    refine E.C.seq ?_
                    refine E.C.region ?_
                    refine E.G.val (.agg #[.bool true, .bool true, .bool false, .bool false, .bool false, .int .i64 18, .int .u32 3]) (by kernel_rfl) (fun w h => E.run_build #[.bool true, .bool true, .bool false, .bool false, .bool false, .int .i64 18, .int .u32 3] (by kernel_rfl) w) ?_
                    refine E.G.store 0 [.bool true, .bool true, .bool false, .bool false, .bool false, .int .i64 18, .int .u32 3] rfl rfl (by kernel_rfl) (by kernel_rfl) ?_
                    refine E.To.code ?_
                    refine E.C.weak [(2, .pointer (some ⟨g1, 0, none⟩))] [(g1, [.bool true, .bool true, .bool false, .bool false, .bool false, .int .i64 18, .int .u32 3])] ⟨by kernel_rfl, by kernel_rfl⟩ (List.Sublist.refl _) ?_
                    refine E.C.ret (E.P.rb (E.P.rt (E.To.body (fn := Try.f47) [.agg #[.bool true, .bool true, .bool false, .bool false, .bool false, .int .i64 18, .int .u32 3]] ?_ ?_)))
                    · exact ⟨⟨by kernel_rfl, _, _, 0, _, rfl, rfl, by kernel_rfl⟩, trivial⟩
                    · intro w h
                      exact ⟨by show Ending.returned (.agg #[.bool true, .bool true, .bool false, .bool false, .bool false, .int .i64 18, .int .u32 3]) = _; unfold Q3.of; rw [hc4, cond_false, hc9, cond_false, hc16, cond_false, hc17, cond_false, hc18, cond_false, hc19, cond_false, hc24, cond_false, hc25, cond_false, hc26, cond_true] <;> rfl, h.ch.bel (fun _ h => h.elim)⟩
                  · skip
                    refine E.C.seq ?_
                    refine E.C.region ?_
                    refine E.G.op (.int .i64 op) (fun w => by kernel_rfl) (by kernel_rfl) ?_
                    refine E.G.op (.bool (op == 54)) (fun w => by kernel_rfl) (by kernel_rfl) ?_
                    refine E.G.op (.bool (op == 54)) (fun w => by kernel_rfl) (by kernel_rfl) ?_
                    refine E.To.code ?_
                    refine E.C.weak [(2, .pointer (some ⟨g1, 0, none⟩)), (71, .bool (op == 54))] [(g1, [.bool false, .bool false, .bool false, .bool false, .bool false, .int .i64 0, .int .u32 0])] ⟨by kernel_rfl, by kernel_rfl⟩ (List.Sublist.refl _) ?_
                    refine E.C.cond (op == 54) (by kernel_rfl) (by kernel_rfl) (fun hc27 => ?_) (fun hc27 => ?_)
                    · skip
                      refine E.C.seq ?_
                      refine E.C.region ?_
                      refine E.G.val (.agg #[.bool true, .bool false, .bool true, .bool false, .bool false, .int .i64 18, .int .u32 4]) (by kernel_rfl) (fun w h => E.run_build #[.bool true, .bool false, .bool true, .bool false, .bool false, .int .i64 18, .int .u32 4] (by kernel_rfl) w) ?_
                      refine E.G.store 0 [.bool true, .bool false, .bool true, .bool false, .bool false, .int .i64 18, .int .u32 4] rfl rfl (by kernel_rfl) (by kernel_rfl) ?_
                      refine E.To.code ?_
                      refine E.C.ret (E.P.rb (E.P.rt (E.To.body (fn := Try.f47) [.agg #[.bool true, .bool false, .bool true, .bool false, .bool false, .int .i64 18, .int .u32 4]] ?_ ?_)))
                      · exact ⟨⟨by kernel_rfl, _, _, 0, _, rfl, rfl, by kernel_rfl⟩, trivial⟩
                      · intro w h
                        exact ⟨by show Ending.returned (.agg #[.bool true, .bool false, .bool true, .bool false, .bool false, .int .i64 18, .int .u32 4]) = _; unfold Q3.of; rw [hc4, cond_false, hc9, cond_false, hc16, cond_false, hc17, cond_false, hc18, cond_false, hc19, cond_false, hc24, cond_false, hc25, cond_false, hc26, cond_false, hc27, cond_true] <;> rfl, h.ch.bel (fun _ h => h.elim)⟩
                    · skip
                      refine E.C.skip (E.P.nb (E.To.code ?_))
                      refine E.C.seq ?_
                      refine E.C.region ?_
                      refine E.G.val (.agg #[.bool false, .bool false, .bool false, .bool false, .bool false, .int .i64 0, .int .u32 0]) (by kernel_rfl) (fun w h => E.run_build #[.bool false, .bool false, .bool false, .bool false, .bool false, .int .i64 0, .int .u32 0] (by kernel_rfl) w) ?_
                      refine E.G.store 0 [.bool false, .bool false, .bool false, .bool false, .bool false, .int .i64 0, .int .u32 0] rfl rfl (by kernel_rfl) (by kernel_rfl) ?_
                      refine E.To.code ?_
                      refine E.C.ret (E.To.body (fn := Try.f47) [.agg #[.bool false, .bool false, .bool false, .bool false, .bool false, .int .i64 0, .int .u32 0]] ?_ ?_)
                      · exact ⟨⟨by kernel_rfl, _, _, 0, _, rfl, rfl, by kernel_rfl⟩, trivial⟩
                      · intro w h
                        exact ⟨by show Ending.returned (.agg #[.bool false, .bool false, .bool false, .bool false, .bool false, .int .i64 0, .int .u32 0]) = _; unfold Q3.of; rw [hc4, cond_false, hc9, cond_false, hc16, cond_false, hc17, cond_false, hc18, cond_false, hc19, cond_false, hc24, cond_false, hc25, cond_false, hc26, cond_false, hc27, cond_false] <;> rfl, h.ch.bel (fun _ h => h.elim)⟩

def Q3.reg (n : Int) (u : Bool) : Bool := ((n == 0) || ((u && (decide (n > 0))) && (decide (n < 16))))
theorem reg3_any (n : Int) (u : Bool) (w : World) : Calls Try.prog 65 #[.int .i64 n, .bool u] w fun e w' => e = .returned (.bool (Q3.reg n u)) ∧ Bel w w' := by
  refine E.enter (n := 18) (S := fun _ => False) Try.func65 rfl rfl (by kernel_rfl) (E.Hp.start w) ?_
  refine E.C.seq ?_
  refine E.C.region ?_
  refine E.G.op (.bool false) (fun w => by kernel_rfl) (by kernel_rfl) ?_
  refine E.To.code ?_
  refine E.C.seq ?_
  refine E.C.region ?_
  refine E.G.op (.int .i64 n) (fun w => by kernel_rfl) (by kernel_rfl) ?_
  refine E.G.op (.bool (n == 0)) (fun w => by kernel_rfl) (by kernel_rfl) ?_
  refine E.G.op (.bool (n == 0)) (fun w => by kernel_rfl) (by kernel_rfl) ?_
  refine E.G.cut 10 [(4, .bool false), (17, .bool ((n == 0) || ((u && (decide (n > 0))) && (decide (n < 16)))))] (fun _ => True) [] ?_ ?_
  · generalize hc1 : (n == 0) = b2
    cases b2
    · skip
      refine E.G.op (.bool u) (fun w => by kernel_rfl) (by kernel_rfl) ?_
      refine E.G.op (.bool u) (fun w => by kernel_rfl) (by kernel_rfl) ?_
      refine E.G.cut 3 [(0, .int .i64 n), (4, .bool false), (7, .bool false), (12, .bool (u && (decide (n > 0))))] (fun _ => True) [] ?_ ?_
      · generalize hc3 : u = b4
        cases b4
        · skip
          refine E.G.skip (by kernel_rfl) (by kernel_rfl) ?_
          refine E.G.skip (by kernel_rfl) (by kernel_rfl) ?_
          refine E.G.op (.bool false) (fun w => by kernel_rfl) (by kernel_rfl) ?_
          exact E.G.end_pst ⟨by kernel_rfl, by kernel_rfl⟩ (List.Sublist.refl _) (fun _ h => h)
        · skip
          refine E.G.op (.int .i64 n) (fun w => by kernel_rfl) (by kernel_rfl) ?_
          refine E.G.op (.bool (decide (n > 0))) (fun w => by kernel_rfl) (by kernel_rfl) ?_
          refine E.G.op (.bool (decide (n > 0))) (fun w => by kernel_rfl) (by kernel_rfl) ?_
          exact E.G.end_pst ⟨by kernel_rfl, by kernel_rfl⟩ (List.Sublist.refl _) (fun _ h => h)
      refine E.G.op (.bool (u && (decide (n > 0)))) (fun w => by kernel_rfl) (by kernel_rfl) ?_
      refine E.G.cut 3 [(4, .bool false), (7, .bool false), (16, .bool ((u && (decide (n > 0))) && (decide (n < 16))))] (fun _ => True) [] ?_ ?_
      · generalize hc5 : (u && (decide (n > 0))) = b6
        cases b6
        · skip
          refine E.G.skip (by kernel_rfl) (by kernel_rfl) ?_
          refine E.G.skip (by kernel_rfl) (by kernel_rfl) ?_
          refine E.G.op (.bool false) (fun w => by kernel_rfl) (by kernel_rfl) ?_
          exact E.G.end_pst ⟨by kernel_rfl, by kernel_rfl⟩ (List.Sublist.refl _) (fun _ h => h)
        · skip
          refine E.G.op (.int .i64 n) (fun w => by kernel_rfl) (by kernel_rfl) ?_
          refine E.G.op (.bool (decide (n < 16))) (fun w => by kernel_rfl) (by kernel_rfl) ?_
          refine E.G.op (.bool (decide (n < 16))) (fun w => by kernel_rfl) (by kernel_rfl) ?_
          exact E.G.end_pst ⟨by kernel_rfl, by kernel_rfl⟩ (List.Sublist.refl _) (fun _ h => h)
      refine E.G.op (.bool ((u && (decide (n > 0))) && (decide (n < 16)))) (fun w => by kernel_rfl) (by kernel_rfl) ?_
      exact E.G.end_pst ⟨by kernel_rfl, by kernel_rfl⟩ (List.Sublist.refl _) (fun _ h => h)
    · skip
      refine E.G.skip (by kernel_rfl) (by kernel_rfl) ?_
      refine E.G.skip (by kernel_rfl) (by kernel_rfl) ?_
      refine E.G.skip (by kernel_rfl) (by kernel_rfl) ?_
      refine E.G.skip (by kernel_rfl) (by kernel_rfl) ?_
      refine E.G.skip (by kernel_rfl) (by kernel_rfl) ?_
      refine E.G.skip (by kernel_rfl) (by kernel_rfl) ?_
      refine E.G.skip (by kernel_rfl) (by kernel_rfl) ?_
      refine E.G.skip (by kernel_rfl) (by kernel_rfl) ?_
      refine E.G.skip (by kernel_rfl) (by kernel_rfl) ?_
      refine E.G.op (.bool true) (fun w => by kernel_rfl) (by kernel_rfl) ?_
      exact E.G.end_pst ⟨by kernel_rfl, by kernel_rfl⟩ (List.Sublist.refl _) (fun _ h => h)
  refine E.G.op (.bool ((n == 0) || ((u && (decide (n > 0))) && (decide (n < 16))))) (fun w => by kernel_rfl) (by kernel_rfl) ?_
  refine E.To.code ?_
  refine E.C.ret (E.To.body (fn := Try.f65) [.bool ((n == 0) || ((u && (decide (n > 0))) && (decide (n < 16))))] ?_ ?_)
  · exact ⟨⟨by kernel_rfl, by kernel_rfl⟩, trivial⟩
  · intro w h
    exact ⟨rfl, h.ch.bel (fun _ h => h.elim)⟩

theorem Q3.bifb {c : Bool} {x y : Q3.Fm} (hx : x.bits ≤ 22) (hy : y.bits ≤ 22) : (bif c then x else y).bits ≤ 22 := by
  cases c
  · exact hy
  · exact hx
theorem Q3.of_bits (x : Int) : (Q3.of x).bits ≤ 22 := by
  unfold Q3.of
  repeat' (first | (show (_ : Nat) ≤ 22; decide) | refine Q3.bifb ?_ ?_)

def Q3.valid (i : Q.I) : Bool := (bif (!((Q3.of i.op).is)) then false else (bif (((!(Q3.reg i.d ((Q3.of i.op).d))) || (!(Q3.reg i.a ((Q3.of i.op).a)))) || (!(Q3.reg i.b ((Q3.of i.op).b)))) then false else (bif ((((Q3.of i.op).bits : Nat) : Int) == 0) then (i.imm == 0) else (bif (Q3.of i.op).sg then (W.sign i.imm (((Q3.of i.op).bits : Nat) : Int) == i.imm) else (bif (decide (((Q3.of i.op).most) > 0)) then (decide (i.imm ≤ ((Q3.of i.op).most))) else (decide (i.imm < (IntKind.wrap .u32 (1 * 2 ^ (min ((Q3.of i.op).bits) 32))))))))))
theorem Valid3_any (i : Q.I) (hm : 0 ≤ i.imm ∧ i.imm < 4294967296) (w : World) : Calls Try.prog 49 #[.agg #[.int .i64 i.op, .int .i64 i.d, .int .i64 i.a, .int .i64 i.b, .int .u32 i.imm]] w fun e w' => e = .returned (.bool (Q3.valid i)) ∧ Bel w w' := by
  have hb := Q3.of_bits i.op
  refine E.enter (n := 66) (S := fun _ => False) Try.func49 rfl rfl (by kernel_rfl) (E.Hp.start w) ?_
  refine E.C.seq ?_
  refine E.C.region ?_
  refine E.G.new (fun g => .pointer (some ⟨g, 0, none⟩)) [.int .i64 i.op, .int .i64 i.d, .int .i64 i.a, .int .i64 i.b, .int .u32 i.imm] 47 (fun w => by kernel_rfl) (by kernel_rfl) (fun g1 => ?_)
  refine E.G.op (.bool false) (fun w => by kernel_rfl) (by kernel_rfl) ?_
  refine E.To.code ?_
  refine E.C.seq ?_
  refine E.C.region ?_
  refine E.G.op (.pointer (some ⟨g1, 0, none⟩)) (fun w => by kernel_rfl) (by kernel_rfl) ?_
  refine E.G.val (.int .i64 i.op) (by kernel_rfl) (fun w h => E.run_load h 0 rfl rfl (by kernel_rfl)) ?_
  refine E.G.call (.agg #[.bool ((Q3.of i.op).is), .bool ((Q3.of i.op).d), .bool ((Q3.of i.op).a), .bool ((Q3.of i.op).b), .bool ((Q3.of i.op).sg), .int .i64 (((Q3.of i.op).bits : Nat) : Int), .int .u32 ((Q3.of i.op).most)]) (fun w h => Of3_any i.op w) (fun w _ => by kernel_rfl) (by kernel_rfl) ?_
  refine E.G.new (fun g => .pointer (some ⟨g, 0, none⟩)) [.bool false, .bool false, .bool false, .bool false, .bool false, .int .i64 0, .int .u32 0] 88 (fun w => by kernel_rfl) (by kernel_rfl) (fun g2 => ?_)
  refine E.G.store 0 [.bool ((Q3.of i.op).is), .bool ((Q3.of i.op).d), .bool ((Q3.of i.op).a), .bool ((Q3.of i.op).b), .bool ((Q3.of i.op).sg), .int .i64 (((Q3.of i.op).bits : Nat) : Int), .int .u32 ((Q3.of i.op).most)] rfl rfl (by kernel_rfl) (by kernel_rfl) ?_
  refine E.To.code ?_
  refine E.C.seq ?_
  refine E.C.seq ?_
  refine E.C.region ?_
  refine E.G.op (.pointer (some ⟨g2, 0, none⟩)) (fun w => by kernel_rfl) (by kernel_rfl) ?_
  refine E.G.val (.bool ((Q3.of i.op).is)) (by kernel_rfl) (fun w h => E.run_load h 0 rfl rfl (by kernel_rfl)) ?_
  refine E.G.op (.bool (!((Q3.of i.op).is))) (fun w => by kernel_rfl) (by kernel_rfl) ?_
  refine E.To.code ?_
  refine E.C.cond (!((Q3.of i.op).is)) (by kernel_rfl) (by kernel_rfl) (fun hc3 => ?_) (fun hc3 => ?_)
  · skip
    refine E.C.seq ?_
    refine E.C.region ?_
    refine E.G.op (.bool false) (fun w => by kernel_rfl) (by kernel_rfl) ?_
    refine E.To.code ?_
    refine E.C.ret (E.P.rt (E.To.body (fn := Try.f49) [.bool false] ?_ ?_))
    · exact ⟨⟨by kernel_rfl, by kernel_rfl⟩, trivial⟩
    · intro w h
      exact ⟨by show Ending.returned (.bool false) = _; unfold Q3.valid; rw [hc3, cond_true] <;> rfl, h.ch.bel (fun _ h => h.elim)⟩
  · skip
    refine E.C.skip (E.To.code ?_)
    refine E.C.seq ?_
    refine E.C.region ?_
    refine E.G.op (.pointer (some ⟨g1, 1, none⟩)) (fun w => by kernel_rfl) (by kernel_rfl) ?_
    refine E.G.val (.int .i64 i.d) (by kernel_rfl) (fun w h => E.run_load h 1 rfl rfl (by kernel_rfl)) ?_
    refine E.G.op (.pointer (some ⟨g2, 1, none⟩)) (fun w => by kernel_rfl) (by kernel_rfl) ?_
    refine E.G.val (.bool ((Q3.of i.op).d)) (by kernel_rfl) (fun w h => E.run_load h 0 rfl rfl (by kernel_rfl)) ?_
    refine E.G.call (.bool (Q3.reg i.d ((Q3.of i.op).d))) (fun w h => reg3_any i.d ((Q3.of i.op).d) w) (fun w _ => by kernel_rfl) (by kernel_rfl) ?_
    refine E.G.op (.bool (Q3.reg i.d ((Q3.of i.op).d))) (fun w => by kernel_rfl) (by kernel_rfl) ?_
    refine E.To.code ?_
    refine E.C.weak [(1, .pointer (some ⟨g1, 0, none⟩)), (2, .bool false), (3, .pointer (some ⟨g2, 0, none⟩)), (4, .bool (Q3.reg i.d ((Q3.of i.op).d)))] [(g2, [.bool ((Q3.of i.op).is), .bool ((Q3.of i.op).d), .bool ((Q3.of i.op).a), .bool ((Q3.of i.op).b), .bool ((Q3.of i.op).sg), .int .i64 (((Q3.of i.op).bits : Nat) : Int), .int .u32 ((Q3.of i.op).most)]), (g1, [.int .i64 i.op, .int .i64 i.d, .int .i64 i.a, .int .i64 i.b, .int .u32 i.imm])] ⟨by kernel_rfl, by kernel_rfl⟩ (List.Sublist.refl _) ?_
    refine E.C.seq ?_
    refine E.C.region ?_
    refine E.G.op (.pointer (some ⟨g1, 2, none⟩)) (fun w => by kernel_rfl) (by kernel_rfl) ?_
    refine E.G.val (.int .i64 i.a) (by kernel_rfl) (fun w h => E.run_load h 1 rfl rfl (by kernel_rfl)) ?_
    refine E.G.op (.pointer (some ⟨g2, 2, none⟩)) (fun w => by kernel_rfl) (by kernel_rfl) ?_
    refine E.G.val (.bool ((Q3.of i.op).a)) (by kernel_rfl) (fun w h => E.run_load h 0 rfl rfl (by kernel_rfl)) ?_
    refine E.G.call (.bool (Q3.reg i.a ((Q3.of i.op).a))) (fun w h => reg3_any i.a ((Q3.of i.op).a) w) (fun w _ => by kernel_rfl) (by kernel_rfl) ?_
    refine E.G.op (.bool (Q3.reg i.a ((Q3.of i.op).a))) (fun w => by kernel_rfl) (by kernel_rfl) ?_
    refine E.To.code ?_
    refine E.C.seq ?_
    refine E.C.region ?_
    refine E.G.op (.pointer (some ⟨g1, 3, none⟩)) (fun w => by kernel_rfl) (by kernel_rfl) ?_
    refine E.G.val (.int .i64 i.b) (by kernel_rfl) (fun w h => E.run_load h 1 rfl rfl (by kernel_rfl)) ?_
    refine E.G.op (.pointer (some ⟨g2, 3, none⟩)) (fun w => by kernel_rfl) (by kernel_rfl) ?_
    refine E.G.val (.bool ((Q3.of i.op).b)) (by kernel_rfl) (fun w h => E.run_load h 0 rfl rfl (by kernel_rfl)) ?_
    refine E.G.call (.bool (Q3.reg i.b ((Q3.of i.op).b))) (fun w h => reg3_any i.b ((Q3.of i.op).b) w) (fun w _ => by kernel_rfl) (by kernel_rfl) ?_
    refine E.G.op (.bool (Q3.reg i.b ((Q3.of i.op).b))) (fun w => by kernel_rfl) (by kernel_rfl) ?_
    refine E.To.code ?_
    refine E.C.weak [(1, .pointer (some ⟨g1, 0, none⟩)), (2, .bool false), (3, .pointer (some ⟨g2, 0, none⟩)), (4, .bool (Q3.reg i.d ((Q3.of i.op).d))), (5, .bool (Q3.reg i.a ((Q3.of i.op).a))), (6, .bool (Q3.reg i.b ((Q3.of i.op).b)))] [(g2, [.bool ((Q3.of i.op).is), .bool ((Q3.of i.op).d), .bool ((Q3.of i.op).a), .bool ((Q3.of i.op).b), .bool ((Q3.of i.op).sg), .int .i64 (((Q3.of i.op).bits : Nat) : Int), .int .u32 ((Q3.of i.op).most)]), (g1, [.int .i64 i.op, .int .i64 i.d, .int .i64 i.a, .int .i64 i.b, .int .u32 i.imm])] ⟨by kernel_rfl, by kernel_rfl⟩ (List.Sublist.refl _) ?_
    refine E.C.seq ?_
    refine E.C.seq ?_
    refine E.C.region ?_
    refine E.G.op (.bool (Q3.reg i.d ((Q3.of i.op).d))) (fun w => by kernel_rfl) (by kernel_rfl) ?_
    refine E.G.op (.bool (!(Q3.reg i.d ((Q3.of i.op).d)))) (fun w => by kernel_rfl) (by kernel_rfl) ?_
    refine E.G.op (.bool (!(Q3.reg i.d ((Q3.of i.op).d)))) (fun w => by kernel_rfl) (by kernel_rfl) ?_
    refine E.G.cut 3 [(1, .pointer (some ⟨g1, 0, none⟩)), (2, .bool false), (3, .pointer (some ⟨g2, 0, none⟩)), (6, .bool (Q3.reg i.b ((Q3.of i.op).b))), (33, .bool ((!(Q3.reg i.d ((Q3.of i.op).d))) || (!(Q3.reg i.a ((Q3.of i.op).a)))))] (fun _ => True) [(g2, [.bool ((Q3.of i.op).is), .bool ((Q3.of i.op).d), .bool ((Q3.of i.op).a), .bool ((Q3.of i.op).b), .bool ((Q3.of i.op).sg), .int .i64 (((Q3.of i.op).bits : Nat) : Int), .int .u32 ((Q3.of i.op).most)]), (g1, [.int .i64 i.op, .int .i64 i.d, .int .i64 i.a, .int .i64 i.b, .int .u32 i.imm])] ?_ ?_
    · generalize hc4 : (!(Q3.reg i.d ((Q3.of i.op).d))) = b5
      cases b5
      · skip
        refine E.G.op (.bool (Q3.reg i.a ((Q3.of i.op).a))) (fun w => by kernel_rfl) (by kernel_rfl) ?_
        refine E.G.op (.bool (!(Q3.reg i.a ((Q3.of i.op).a)))) (fun w => by kernel_rfl) (by kernel_rfl) ?_
        refine E.G.op (.bool (!(Q3.reg i.a ((Q3.of i.op).a)))) (fun w => by kernel_rfl) (by kernel_rfl) ?_
        exact E.G.end_pst ⟨by kernel_rfl, by kernel_rfl⟩ (List.Sublist.refl _) (fun _ h => h)
      · skip
        refine E.G.skip (by kernel_rfl) (by kernel_rfl) ?_
        refine E.G.skip (by kernel_rfl) (by kernel_rfl) ?_
        refine E.G.op (.bool true) (fun w => by kernel_rfl) (by kernel_rfl) ?_
        exact E.G.end_pst ⟨by kernel_rfl, by kernel_rfl⟩ (List.Sublist.refl _) (fun _ h => h)
    refine E.G.op (.bool ((!(Q3.reg i.d ((Q3.of i.op).d))) || (!(Q3.reg i.a ((Q3.of i.op).a))))) (fun w => by kernel_rfl) (by kernel_rfl) ?_
    refine E.G.cut 3 [(1, .pointer (some ⟨g1, 0, none⟩)), (2, .bool false), (3, .pointer (some ⟨g2, 0, none⟩)), (37, .bool (((!(Q3.reg i.d ((Q3.of i.op).d))) || (!(Q3.reg i.a ((Q3.of i.op).a)))) || (!(Q3.reg i.b ((Q3.of i.op).b)))))] (fun _ => True) [(g2, [.bool ((Q3.of i.op).is), .bool ((Q3.of i.op).d), .bool ((Q3.of i.op).a), .bool ((Q3.of i.op).b), .bool ((Q3.of i.op).sg), .int .i64 (((Q3.of i.op).bits : Nat) : Int), .int .u32 ((Q3.of i.op).most)]), (g1, [.int .i64 i.op, .int .i64 i.d, .int .i64 i.a, .int .i64 i.b, .int .u32 i.imm])] ?_ ?_
    · generalize hc6 : ((!(Q3.reg i.d ((Q3.of i.op).d))) || (!(Q3.reg i.a ((Q3.of i.op).a)))) = b7
      cases b7
      · skip
        refine E.G.op (.bool (Q3.reg i.b ((Q3.of i.op).b))) (fun w => by kernel_rfl) (by kernel_rfl) ?_
        refine E.G.op (.bool (!(Q3.reg i.b ((Q3.of i.op).b)))) (fun w => by kernel_rfl) (by kernel_rfl) ?_
        refine E.G.op (.bool (!(Q3.reg i.b ((Q3.of i.op).b)))) (fun w => by kernel_rfl) (by kernel_rfl) ?_
        exact E.G.end_pst ⟨by kernel_rfl, by kernel_rfl⟩ (List.Sublist.refl _) (fun _ h => h)
      · skip
        refine E.G.skip (by kernel_rfl) (by kernel_rfl) ?_
        refine E.G.skip (by kernel_rfl) (by kernel_rfl) ?_
        refine E.G.op (.bool true) (fun w => by kernel_rfl) (by kernel_rfl) ?_
        exact E.G.end_pst ⟨by kernel_rfl, by kernel_rfl⟩ (List.Sublist.refl _) (fun _ h => h)
    refine E.To.code ?_
    refine E.C.cond (((!(Q3.reg i.d ((Q3.of i.op).d))) || (!(Q3.reg i.a ((Q3.of i.op).a)))) || (!(Q3.reg i.b ((Q3.of i.op).b)))) (by kernel_rfl) (by kernel_rfl) (fun hc8 => ?_) (fun hc8 => ?_)
    · skip
      refine E.C.seq ?_
      refine E.C.region ?_
      refine E.G.op (.bool false) (fun w => by kernel_rfl) (by kernel_rfl) ?_
      refine E.To.code ?_
      refine E.C.ret (E.P.rt (E.To.body (fn := Try.f49) [.bool false] ?_ ?_))
      · exact ⟨⟨by kernel_rfl, by kernel_rfl⟩, trivial⟩
      · intro w h
        exact ⟨by show Ending.returned (.bool false) = _; unfold Q3.valid; rw [hc3, cond_false, hc8, cond_true] <;> rfl, h.ch.bel (fun _ h => h.elim)⟩
    · skip
      refine E.C.skip (E.To.code ?_)
      refine E.C.seq ?_
      refine E.C.seq ?_
      refine E.C.region ?_
      refine E.G.op (.pointer (some ⟨g2, 5, none⟩)) (fun w => by kernel_rfl) (by kernel_rfl) ?_
      refine E.G.val (.int .i64 (((Q3.of i.op).bits : Nat) : Int)) (by kernel_rfl) (fun w h => E.run_load h 0 rfl rfl (by kernel_rfl)) ?_
      refine E.G.op (.bool ((((Q3.of i.op).bits : Nat) : Int) == 0)) (fun w => by kernel_rfl) (by kernel_rfl) ?_
      refine E.To.code ?_
      refine E.C.cond ((((Q3.of i.op).bits : Nat) : Int) == 0) (by kernel_rfl) (by kernel_rfl) (fun hc9 => ?_) (fun hc9 => ?_)
      · skip
        refine E.C.seq ?_
        refine E.C.region ?_
        refine E.G.op (.pointer (some ⟨g1, 4, none⟩)) (fun w => by kernel_rfl) (by kernel_rfl) ?_
        refine E.G.val (.int .u32 i.imm) (by kernel_rfl) (fun w h => E.run_load h 1 rfl rfl (by kernel_rfl)) ?_
        refine E.G.op (.bool (i.imm == 0)) (fun w => by kernel_rfl) (by kernel_rfl) ?_
        refine E.G.op (.bool (i.imm == 0)) (fun w => by kernel_rfl) (by kernel_rfl) ?_
        refine E.To.code ?_
        refine E.C.ret (E.P.rt (E.To.body (fn := Try.f49) [.bool (i.imm == 0)] ?_ ?_))
        · exact ⟨⟨by kernel_rfl, by kernel_rfl⟩, trivial⟩
        · intro w h
          exact ⟨by show Ending.returned (.bool (i.imm == 0)) = _; unfold Q3.valid; rw [hc3, cond_false, hc8, cond_false, hc9, cond_true] <;> rfl, h.ch.bel (fun _ h => h.elim)⟩
      · skip
        refine E.C.skip (E.To.code ?_)
        refine E.C.seq ?_
        refine E.C.seq ?_
        refine E.C.region ?_
        refine E.G.op (.pointer (some ⟨g2, 4, none⟩)) (fun w => by kernel_rfl) (by kernel_rfl) ?_
        refine E.G.val (.bool ((Q3.of i.op).sg)) (by kernel_rfl) (fun w h => E.run_load h 0 rfl rfl (by kernel_rfl)) ?_
        refine E.To.code ?_
        refine E.C.cond ((Q3.of i.op).sg) (by kernel_rfl) (by kernel_rfl) (fun hc10 => ?_) (fun hc10 => ?_)
        · skip
          refine E.C.seq ?_
          refine E.C.region ?_
          refine E.G.op (.pointer (some ⟨g1, 4, none⟩)) (fun w => by kernel_rfl) (by kernel_rfl) ?_
          refine E.G.val (.int .u32 i.imm) (by kernel_rfl) (fun w h => E.run_load h 1 rfl rfl (by kernel_rfl)) ?_
          refine E.G.op (.pointer (some ⟨g2, 5, none⟩)) (fun w => by kernel_rfl) (by kernel_rfl) ?_
          refine E.G.val (.int .i64 (((Q3.of i.op).bits : Nat) : Int)) (by kernel_rfl) (fun w h => E.run_load h 0 rfl rfl (by kernel_rfl)) ?_
          refine E.G.call (.bool (W.sign i.imm (((Q3.of i.op).bits : Nat) : Int) == i.imm)) (fun w h => rFits_any i.imm (((Q3.of i.op).bits : Nat) : Int) hm.1 hm.2 (by omega) (by omega) w) (fun w _ => by kernel_rfl) (by kernel_rfl) ?_
          refine E.G.op (.bool (W.sign i.imm (((Q3.of i.op).bits : Nat) : Int) == i.imm)) (fun w => by kernel_rfl) (by kernel_rfl) ?_
          refine E.To.code ?_
          refine E.C.weak [(1, .pointer (some ⟨g1, 0, none⟩)), (2, .bool (W.sign i.imm (((Q3.of i.op).bits : Nat) : Int) == i.imm)), (3, .pointer (some ⟨g2, 0, none⟩))] [(g2, [.bool ((Q3.of i.op).is), .bool ((Q3.of i.op).d), .bool ((Q3.of i.op).a), .bool ((Q3.of i.op).b), .bool ((Q3.of i.op).sg), .int .i64 (((Q3.of i.op).bits : Nat) : Int), .int .u32 ((Q3.of i.op).most)]), (g1, [.int .i64 i.op, .int .i64 i.d, .int .i64 i.a, .int .i64 i.b, .int .u32 i.imm])] ⟨by kernel_rfl, by kernel_rfl⟩ (List.Sublist.refl _) ?_
          refine E.C.ret (E.P.rt (E.To.body (fn := Try.f49) [.bool (W.sign i.imm (((Q3.of i.op).bits : Nat) : Int) == i.imm)] ?_ ?_))
          · exact ⟨⟨by kernel_rfl, by kernel_rfl⟩, trivial⟩
          · intro w h
            exact ⟨by show Ending.returned (.bool (W.sign i.imm (((Q3.of i.op).bits : Nat) : Int) == i.imm)) = _; unfold Q3.valid; rw [hc3, cond_false, hc8, cond_false, hc9, cond_false, hc10, cond_true] <;> rfl, h.ch.bel (fun _ h => h.elim)⟩
        · skip
          refine E.C.skip (E.To.code ?_)
          refine E.C.seq ?_
          refine E.C.seq ?_
          refine E.C.region ?_
          refine E.G.op (.pointer (some ⟨g2, 6, none⟩)) (fun w => by kernel_rfl) (by kernel_rfl) ?_
          refine E.G.val (.int .u32 ((Q3.of i.op).most)) (by kernel_rfl) (fun w h => E.run_load h 0 rfl rfl (by kernel_rfl)) ?_
          refine E.G.op (.bool (decide (((Q3.of i.op).most) > 0))) (fun w => by kernel_rfl) (by kernel_rfl) ?_
          refine E.To.code ?_
          refine E.C.weak [(1, .pointer (some ⟨g1, 0, none⟩)), (2, .bool false), (3, .pointer (some ⟨g2, 0, none⟩)), (53, .bool (decide (((Q3.of i.op).most) > 0)))] [(g2, [.bool ((Q3.of i.op).is), .bool ((Q3.of i.op).d), .bool ((Q3.of i.op).a), .bool ((Q3.of i.op).b), .bool ((Q3.of i.op).sg), .int .i64 (((Q3.of i.op).bits : Nat) : Int), .int .u32 ((Q3.of i.op).most)]), (g1, [.int .i64 i.op, .int .i64 i.d, .int .i64 i.a, .int .i64 i.b, .int .u32 i.imm])] ⟨by kernel_rfl, by kernel_rfl⟩ (List.Sublist.refl _) ?_
          refine E.C.cond (decide (((Q3.of i.op).most) > 0)) (by kernel_rfl) (by kernel_rfl) (fun hc11 => ?_) (fun hc11 => ?_)
          · skip
            refine E.C.seq ?_
            refine E.C.region ?_
            refine E.G.op (.pointer (some ⟨g1, 4, none⟩)) (fun w => by kernel_rfl) (by kernel_rfl) ?_
            refine E.G.val (.int .u32 i.imm) (by kernel_rfl) (fun w h => E.run_load h 1 rfl rfl (by kernel_rfl)) ?_
            refine E.G.op (.pointer (some ⟨g2, 6, none⟩)) (fun w => by kernel_rfl) (by kernel_rfl) ?_
            refine E.G.val (.int .u32 ((Q3.of i.op).most)) (by kernel_rfl) (fun w h => E.run_load h 0 rfl rfl (by kernel_rfl)) ?_
            refine E.G.op (.bool (decide (i.imm ≤ ((Q3.of i.op).most)))) (fun w => by kernel_rfl) (by kernel_rfl) ?_
            refine E.G.op (.bool (decide (i.imm ≤ ((Q3.of i.op).most)))) (fun w => by kernel_rfl) (by kernel_rfl) ?_
            refine E.To.code ?_
            refine E.C.ret (E.P.rt (E.To.body (fn := Try.f49) [.bool (decide (i.imm ≤ ((Q3.of i.op).most)))] ?_ ?_))
            · exact ⟨⟨by kernel_rfl, by kernel_rfl⟩, trivial⟩
            · intro w h
              exact ⟨by show Ending.returned (.bool (decide (i.imm ≤ ((Q3.of i.op).most)))) = _; unfold Q3.valid; rw [hc3, cond_false, hc8, cond_false, hc9, cond_false, hc10, cond_false, hc11, cond_true] <;> rfl, h.ch.bel (fun _ h => h.elim)⟩
          · skip
            refine E.C.skip (E.To.code ?_)
            refine E.C.seq ?_
            refine E.C.region ?_
            refine E.G.op (.pointer (some ⟨g1, 4, none⟩)) (fun w => by kernel_rfl) (by kernel_rfl) ?_
            refine E.G.val (.int .u32 i.imm) (by kernel_rfl) (fun w h => E.run_load h 1 rfl rfl (by kernel_rfl)) ?_
            refine E.G.op (.pointer (some ⟨g2, 5, none⟩)) (fun w => by kernel_rfl) (by kernel_rfl) ?_
            refine E.G.val (.int .i64 (((Q3.of i.op).bits : Nat) : Int)) (by kernel_rfl) (fun w h => E.run_load h 0 rfl rfl (by kernel_rfl)) ?_
            refine E.G.val (.int .u64 (((Q3.of i.op).bits : Nat) : Int)) (by kernel_rfl) (fun w h => E.run_as (a := .int .u64 (IntKind.wrap .u64 (((Q3.of i.op).bits : Nat) : Int))) (by kernel_rfl) (congrArg (Value.int .u64) (Q.w64u (by omega)))) ?_
            refine E.G.val (.int .u32 (IntKind.wrap .u32 (1 * 2 ^ (min ((Q3.of i.op).bits) 32)))) (by kernel_rfl) (fun w h => E.shlN (k2 := .u64) 1 ((Q3.of i.op).bits) 32 (by rfl) (by kernel_rfl) (by kernel_rfl) w) ?_
            refine E.G.op (.bool (decide (i.imm < (IntKind.wrap .u32 (1 * 2 ^ (min ((Q3.of i.op).bits) 32)))))) (fun w => by kernel_rfl) (by kernel_rfl) ?_
            refine E.G.op (.bool (decide (i.imm < (IntKind.wrap .u32 (1 * 2 ^ (min ((Q3.of i.op).bits) 32)))))) (fun w => by kernel_rfl) (by kernel_rfl) ?_
            refine E.To.code ?_
            refine E.C.weak [(2, .bool (decide (i.imm < (IntKind.wrap .u32 (1 * 2 ^ (min ((Q3.of i.op).bits) 32))))))] [] ⟨by kernel_rfl, by kernel_rfl⟩ (List.nil_sublist _) ?_
            refine E.C.ret (E.To.body (fn := Try.f49) [.bool (decide (i.imm < (IntKind.wrap .u32 (1 * 2 ^ (min ((Q3.of i.op).bits) 32)))))] ?_ ?_)
            · exact ⟨⟨by kernel_rfl, by kernel_rfl⟩, trivial⟩
            · intro w h
              exact ⟨by show Ending.returned (.bool (decide (i.imm < (IntKind.wrap .u32 (1 * 2 ^ (min ((Q3.of i.op).bits) 32)))))) = _; unfold Q3.valid; rw [hc3, cond_false, hc8, cond_false, hc9, cond_false, hc10, cond_false, hc11, cond_false] <;> rfl, h.ch.bel (fun _ h => h.elim)⟩

theorem Q3.pow_ne {b : Nat} (h : b ≤ 22) : IntKind.wrap .u32 (1 * 2 ^ (min b 32)) ≠ 0 := by
  have e : ∀ b : Fin 23, IntKind.wrap .u32 (1 * 2 ^ (min b.val 32)) ≠ 0 := by decide +kernel
  exact e ⟨b, by omega⟩

def Q3.encode (i : Q.I) : Int × Int := (bif (!(Q3.valid i)) then (0, 12) else (bif ((((Q3.of i.op).bits : Nat) : Int) == 0) then ((IntKind.wrap .u32 ((IntKind.wrap .u32 ((IntKind.wrap .u32 ((IntKind.wrap .u32 ((IntKind.wrap .u32 i.op) * 67108864)) + (IntKind.wrap .u32 ((IntKind.wrap .u32 i.d) * 4194304)))) + (IntKind.wrap .u32 ((IntKind.wrap .u32 i.a) * 262144)))) + (IntKind.wrap .u32 ((IntKind.wrap .u32 i.b) * 16384)))), 0) else ((IntKind.wrap .u32 ((IntKind.wrap .u32 ((IntKind.wrap .u32 ((IntKind.wrap .u32 ((IntKind.wrap .u32 ((IntKind.wrap .u32 i.op) * 67108864)) + (IntKind.wrap .u32 ((IntKind.wrap .u32 i.d) * 4194304)))) + (IntKind.wrap .u32 ((IntKind.wrap .u32 i.a) * 262144)))) + (IntKind.wrap .u32 ((IntKind.wrap .u32 i.b) * 16384)))) + (Int.tmod i.imm (IntKind.wrap .u32 (1 * 2 ^ (min ((Q3.of i.op).bits) 32)))))), 0)))
theorem Encode3_any (i : Q.I) (hm : 0 ≤ i.imm ∧ i.imm < 4294967296) (w : World) : Calls Try.prog 22 #[.agg #[.int .i64 i.op, .int .i64 i.d, .int .i64 i.a, .int .i64 i.b, .int .u32 i.imm]] w fun e w' => e = .returned (.tuple #[.int .u32 (((Q3.encode i)).1), .int .i64 (((Q3.encode i)).2)]) ∧ Bel w w' := by
  have hb := Q3.of_bits i.op
  refine E.enter (n := 45) (S := fun _ => False) Try.func22 rfl rfl (by kernel_rfl) (E.Hp.start w) ?_
  refine E.C.seq ?_
  refine E.C.region ?_
  refine E.G.new (fun g => .pointer (some ⟨g, 0, none⟩)) [.int .i64 i.op, .int .i64 i.d, .int .i64 i.a, .int .i64 i.b, .int .u32 i.imm] 47 (fun w => by kernel_rfl) (by kernel_rfl) (fun g1 => ?_)
  refine E.G.op (.int .u32 0) (fun w => by kernel_rfl) (by kernel_rfl) ?_
  refine E.G.op (.int .i64 0) (fun w => by kernel_rfl) (by kernel_rfl) ?_
  refine E.To.code ?_
  refine E.C.seq ?_
  refine E.C.region ?_
  refine E.G.val (.agg #[.int .i64 i.op, .int .i64 i.d, .int .i64 i.a, .int .i64 i.b, .int .u32 i.imm]) (by kernel_rfl) (fun w h => E.run_load h 0 rfl rfl (by kernel_rfl)) ?_
  refine E.G.call (.bool (Q3.valid i)) (fun w h => Valid3_any i hm w) (fun w _ => by kernel_rfl) (by kernel_rfl) ?_
  refine E.G.op (.bool (Q3.valid i)) (fun w => by kernel_rfl) (by kernel_rfl) ?_
  refine E.To.code ?_
  refine E.C.seq ?_
  refine E.C.seq ?_
  refine E.C.region ?_
  refine E.G.op (.bool (Q3.valid i)) (fun w => by kernel_rfl) (by kernel_rfl) ?_
  refine E.G.op (.bool (!(Q3.valid i))) (fun w => by kernel_rfl) (by kernel_rfl) ?_
  refine E.To.code ?_
  refine E.C.cond (!(Q3.valid i)) (by kernel_rfl) (by kernel_rfl) (fun hc2 => ?_) (fun hc2 => ?_)
  · skip
    refine E.C.seq ?_
    refine E.C.region ?_
    refine E.G.op (.int .u32 0) (fun w => by kernel_rfl) (by kernel_rfl) ?_
    refine E.G.op (.int .i64 12) (fun w => by kernel_rfl) (by kernel_rfl) ?_
    refine E.To.code ?_
    refine E.C.ret (E.P.rt (E.To.body (fn := Try.f22) [.int .u32 0, .int .i64 12] ?_ ?_))
    · exact ⟨⟨by kernel_rfl, by kernel_rfl⟩, ⟨by kernel_rfl, by kernel_rfl⟩, trivial⟩
    · intro w h
      exact ⟨by show Ending.returned (.tuple #[.int .u32 0, .int .i64 12]) = _; unfold Q3.encode; rw [hc2, cond_true] <;> rfl, h.ch.bel (fun _ h => h.elim)⟩
  · skip
    refine E.C.skip (E.To.code ?_)
    refine E.C.seq ?_
    refine E.C.region ?_
    refine E.G.op (.pointer (some ⟨g1, 0, none⟩)) (fun w => by kernel_rfl) (by kernel_rfl) ?_
    refine E.G.val (.int .i64 i.op) (by kernel_rfl) (fun w h => E.run_load h 0 rfl rfl (by kernel_rfl)) ?_
    refine E.G.op (.int .u32 (IntKind.wrap .u32 i.op)) (fun w => by kernel_rfl) (by kernel_rfl) ?_
    refine E.G.op (.int .u32 (IntKind.wrap .u32 ((IntKind.wrap .u32 i.op) * 67108864))) (fun w => by kernel_rfl) (by kernel_rfl) ?_
    refine E.G.op (.pointer (some ⟨g1, 1, none⟩)) (fun w => by kernel_rfl) (by kernel_rfl) ?_
    refine E.G.val (.int .i64 i.d) (by kernel_rfl) (fun w h => E.run_load h 0 rfl rfl (by kernel_rfl)) ?_
    refine E.G.op (.int .u32 (IntKind.wrap .u32 i.d)) (fun w => by kernel_rfl) (by kernel_rfl) ?_
    refine E.G.op (.int .u32 (IntKind.wrap .u32 ((IntKind.wrap .u32 i.d) * 4194304))) (fun w => by kernel_rfl) (by kernel_rfl) ?_
    refine E.G.op (.int .u32 (IntKind.wrap .u32 ((IntKind.wrap .u32 ((IntKind.wrap .u32 i.op) * 67108864)) + (IntKind.wrap .u32 ((IntKind.wrap .u32 i.d) * 4194304))))) (fun w => by kernel_rfl) (by kernel_rfl) ?_
    refine E.G.op (.pointer (some ⟨g1, 2, none⟩)) (fun w => by kernel_rfl) (by kernel_rfl) ?_
    refine E.G.val (.int .i64 i.a) (by kernel_rfl) (fun w h => E.run_load h 0 rfl rfl (by kernel_rfl)) ?_
    refine E.G.op (.int .u32 (IntKind.wrap .u32 i.a)) (fun w => by kernel_rfl) (by kernel_rfl) ?_
    refine E.G.op (.int .u32 (IntKind.wrap .u32 ((IntKind.wrap .u32 i.a) * 262144))) (fun w => by kernel_rfl) (by kernel_rfl) ?_
    refine E.G.op (.int .u32 (IntKind.wrap .u32 ((IntKind.wrap .u32 ((IntKind.wrap .u32 ((IntKind.wrap .u32 i.op) * 67108864)) + (IntKind.wrap .u32 ((IntKind.wrap .u32 i.d) * 4194304)))) + (IntKind.wrap .u32 ((IntKind.wrap .u32 i.a) * 262144))))) (fun w => by kernel_rfl) (by kernel_rfl) ?_
    refine E.G.op (.pointer (some ⟨g1, 3, none⟩)) (fun w => by kernel_rfl) (by kernel_rfl) ?_
    refine E.G.val (.int .i64 i.b) (by kernel_rfl) (fun w h => E.run_load h 0 rfl rfl (by kernel_rfl)) ?_
    refine E.G.op (.int .u32 (IntKind.wrap .u32 i.b)) (fun w => by kernel_rfl) (by kernel_rfl) ?_
    refine E.G.op (.int .u32 (IntKind.wrap .u32 ((IntKind.wrap .u32 i.b) * 16384))) (fun w => by kernel_rfl) (by kernel_rfl) ?_
    refine E.G.op (.int .u32 (IntKind.wrap .u32 ((IntKind.wrap .u32 ((IntKind.wrap .u32 ((IntKind.wrap .u32 ((IntKind.wrap .u32 i.op) * 67108864)) + (IntKind.wrap .u32 ((IntKind.wrap .u32 i.d) * 4194304)))) + (IntKind.wrap .u32 ((IntKind.wrap .u32 i.a) * 262144)))) + (IntKind.wrap .u32 ((IntKind.wrap .u32 i.b) * 16384))))) (fun w => by kernel_rfl) (by kernel_rfl) ?_
    refine E.G.op (.int .u32 (IntKind.wrap .u32 ((IntKind.wrap .u32 ((IntKind.wrap .u32 ((IntKind.wrap .u32 ((IntKind.wrap .u32 i.op) * 67108864)) + (IntKind.wrap .u32 ((IntKind.wrap .u32 i.d) * 4194304)))) + (IntKind.wrap .u32 ((IntKind.wrap .u32 i.a) * 262144)))) + (IntKind.wrap .u32 ((IntKind.wrap .u32 i.b) * 16384))))) (fun w => by kernel_rfl) (by kernel_rfl) ?_
    refine E.To.code ?_
    refine E.C.weak [(1, .pointer (some ⟨g1, 0, none⟩)), (2, .int .u32 0), (3, .int .i64 0), (5, .int .u32 (IntKind.wrap .u32 ((IntKind.wrap .u32 ((IntKind.wrap .u32 ((IntKind.wrap .u32 ((IntKind.wrap .u32 i.op) * 67108864)) + (IntKind.wrap .u32 ((IntKind.wrap .u32 i.d) * 4194304)))) + (IntKind.wrap .u32 ((IntKind.wrap .u32 i.a) * 262144)))) + (IntKind.wrap .u32 ((IntKind.wrap .u32 i.b) * 16384)))))] [(g1, [.int .i64 i.op, .int .i64 i.d, .int .i64 i.a, .int .i64 i.b, .int .u32 i.imm])] ⟨by kernel_rfl, by kernel_rfl⟩ (List.Sublist.refl _) ?_
    refine E.C.seq ?_
    refine E.C.region ?_
    refine E.G.op (.pointer (some ⟨g1, 0, none⟩)) (fun w => by kernel_rfl) (by kernel_rfl) ?_
    refine E.G.val (.int .i64 i.op) (by kernel_rfl) (fun w h => E.run_load h 0 rfl rfl (by kernel_rfl)) ?_
    refine E.G.call (.agg #[.bool ((Q3.of i.op).is), .bool ((Q3.of i.op).d), .bool ((Q3.of i.op).a), .bool ((Q3.of i.op).b), .bool ((Q3.of i.op).sg), .int .i64 (((Q3.of i.op).bits : Nat) : Int), .int .u32 ((Q3.of i.op).most)]) (fun w h => Of3_any i.op w) (fun w _ => by kernel_rfl) (by kernel_rfl) ?_
    refine E.G.op (.int .i64 (((Q3.of i.op).bits : Nat) : Int)) (fun w => by kernel_rfl) (by kernel_rfl) ?_
    refine E.G.op (.int .i64 (((Q3.of i.op).bits : Nat) : Int)) (fun w => by kernel_rfl) (by kernel_rfl) ?_
    refine E.To.code ?_
    refine E.C.seq ?_
    refine E.C.seq ?_
    refine E.C.region ?_
    refine E.G.op (.int .i64 (((Q3.of i.op).bits : Nat) : Int)) (fun w => by kernel_rfl) (by kernel_rfl) ?_
    refine E.G.op (.bool ((((Q3.of i.op).bits : Nat) : Int) == 0)) (fun w => by kernel_rfl) (by kernel_rfl) ?_
    refine E.To.code ?_
    refine E.C.cond ((((Q3.of i.op).bits : Nat) : Int) == 0) (by kernel_rfl) (by kernel_rfl) (fun hc3 => ?_) (fun hc3 => ?_)
    · skip
      refine E.C.seq ?_
      refine E.C.region ?_
      refine E.G.op (.int .u32 (IntKind.wrap .u32 ((IntKind.wrap .u32 ((IntKind.wrap .u32 ((IntKind.wrap .u32 ((IntKind.wrap .u32 i.op) * 67108864)) + (IntKind.wrap .u32 ((IntKind.wrap .u32 i.d) * 4194304)))) + (IntKind.wrap .u32 ((IntKind.wrap .u32 i.a) * 262144)))) + (IntKind.wrap .u32 ((IntKind.wrap .u32 i.b) * 16384))))) (fun w => by kernel_rfl) (by kernel_rfl) ?_
      refine E.G.op (.int .u32 (IntKind.wrap .u32 ((IntKind.wrap .u32 ((IntKind.wrap .u32 ((IntKind.wrap .u32 ((IntKind.wrap .u32 i.op) * 67108864)) + (IntKind.wrap .u32 ((IntKind.wrap .u32 i.d) * 4194304)))) + (IntKind.wrap .u32 ((IntKind.wrap .u32 i.a) * 262144)))) + (IntKind.wrap .u32 ((IntKind.wrap .u32 i.b) * 16384))))) (fun w => by kernel_rfl) (by kernel_rfl) ?_
      refine E.G.op (.int .i64 0) (fun w => by kernel_rfl) (by kernel_rfl) ?_
      refine E.To.code ?_
      refine E.C.ret (E.P.rt (E.To.body (fn := Try.f22) [.int .u32 (IntKind.wrap .u32 ((IntKind.wrap .u32 ((IntKind.wrap .u32 ((IntKind.wrap .u32 ((IntKind.wrap .u32 i.op) * 67108864)) + (IntKind.wrap .u32 ((IntKind.wrap .u32 i.d) * 4194304)))) + (IntKind.wrap .u32 ((IntKind.wrap .u32 i.a) * 262144)))) + (IntKind.wrap .u32 ((IntKind.wrap .u32 i.b) * 16384)))), .int .i64 0] ?_ ?_))
      · exact ⟨⟨by kernel_rfl, by kernel_rfl⟩, ⟨by kernel_rfl, by kernel_rfl⟩, trivial⟩
      · intro w h
        exact ⟨by show Ending.returned (.tuple #[.int .u32 (IntKind.wrap .u32 ((IntKind.wrap .u32 ((IntKind.wrap .u32 ((IntKind.wrap .u32 ((IntKind.wrap .u32 i.op) * 67108864)) + (IntKind.wrap .u32 ((IntKind.wrap .u32 i.d) * 4194304)))) + (IntKind.wrap .u32 ((IntKind.wrap .u32 i.a) * 262144)))) + (IntKind.wrap .u32 ((IntKind.wrap .u32 i.b) * 16384)))), .int .i64 0]) = _; unfold Q3.encode; rw [hc2, cond_false, hc3, cond_true] <;> rfl, h.ch.bel (fun _ h => h.elim)⟩
    · skip
      refine E.C.skip (E.To.code ?_)
      refine E.C.seq ?_
      refine E.C.region ?_
      refine E.G.op (.int .u32 (IntKind.wrap .u32 ((IntKind.wrap .u32 ((IntKind.wrap .u32 ((IntKind.wrap .u32 ((IntKind.wrap .u32 i.op) * 67108864)) + (IntKind.wrap .u32 ((IntKind.wrap .u32 i.d) * 4194304)))) + (IntKind.wrap .u32 ((IntKind.wrap .u32 i.a) * 262144)))) + (IntKind.wrap .u32 ((IntKind.wrap .u32 i.b) * 16384))))) (fun w => by kernel_rfl) (by kernel_rfl) ?_
      refine E.G.op (.pointer (some ⟨g1, 4, none⟩)) (fun w => by kernel_rfl) (by kernel_rfl) ?_
      refine E.G.val (.int .u32 i.imm) (by kernel_rfl) (fun w h => E.run_load h 0 rfl rfl (by kernel_rfl)) ?_
      refine E.G.op (.int .i64 (((Q3.of i.op).bits : Nat) : Int)) (fun w => by kernel_rfl) (by kernel_rfl) ?_
      refine E.G.val (.int .u64 (((Q3.of i.op).bits : Nat) : Int)) (by kernel_rfl) (fun w h => E.run_as (a := .int .u64 (IntKind.wrap .u64 (((Q3.of i.op).bits : Nat) : Int))) (by kernel_rfl) (congrArg (Value.int .u64) (Q.w64u (by omega)))) ?_
      refine E.G.val (.int .u32 (IntKind.wrap .u32 (1 * 2 ^ (min ((Q3.of i.op).bits) 32)))) (by kernel_rfl) (fun w h => E.shlN (k2 := .u64) 1 ((Q3.of i.op).bits) 32 (by rfl) (by kernel_rfl) (by kernel_rfl) w) ?_
      refine E.G.val (.int .u32 (Int.tmod i.imm (IntKind.wrap .u32 (1 * 2 ^ (min ((Q3.of i.op).bits) 32))))) (by kernel_rfl) (fun w h => E.remI i.imm (IntKind.wrap .u32 (1 * 2 ^ (min ((Q3.of i.op).bits) 32))) (by kernel_rfl) (by kernel_rfl) (Q3.pow_ne hb) w) ?_
      refine E.G.op (.int .u32 (IntKind.wrap .u32 ((IntKind.wrap .u32 ((IntKind.wrap .u32 ((IntKind.wrap .u32 ((IntKind.wrap .u32 ((IntKind.wrap .u32 i.op) * 67108864)) + (IntKind.wrap .u32 ((IntKind.wrap .u32 i.d) * 4194304)))) + (IntKind.wrap .u32 ((IntKind.wrap .u32 i.a) * 262144)))) + (IntKind.wrap .u32 ((IntKind.wrap .u32 i.b) * 16384)))) + (Int.tmod i.imm (IntKind.wrap .u32 (1 * 2 ^ (min ((Q3.of i.op).bits) 32))))))) (fun w => by kernel_rfl) (by kernel_rfl) ?_
      refine E.G.op (.int .u32 (IntKind.wrap .u32 ((IntKind.wrap .u32 ((IntKind.wrap .u32 ((IntKind.wrap .u32 ((IntKind.wrap .u32 ((IntKind.wrap .u32 i.op) * 67108864)) + (IntKind.wrap .u32 ((IntKind.wrap .u32 i.d) * 4194304)))) + (IntKind.wrap .u32 ((IntKind.wrap .u32 i.a) * 262144)))) + (IntKind.wrap .u32 ((IntKind.wrap .u32 i.b) * 16384)))) + (Int.tmod i.imm (IntKind.wrap .u32 (1 * 2 ^ (min ((Q3.of i.op).bits) 32))))))) (fun w => by kernel_rfl) (by kernel_rfl) ?_
      refine E.G.op (.int .i64 0) (fun w => by kernel_rfl) (by kernel_rfl) ?_
      refine E.To.code ?_
      refine E.C.weak [(2, .int .u32 (IntKind.wrap .u32 ((IntKind.wrap .u32 ((IntKind.wrap .u32 ((IntKind.wrap .u32 ((IntKind.wrap .u32 ((IntKind.wrap .u32 i.op) * 67108864)) + (IntKind.wrap .u32 ((IntKind.wrap .u32 i.d) * 4194304)))) + (IntKind.wrap .u32 ((IntKind.wrap .u32 i.a) * 262144)))) + (IntKind.wrap .u32 ((IntKind.wrap .u32 i.b) * 16384)))) + (Int.tmod i.imm (IntKind.wrap .u32 (1 * 2 ^ (min ((Q3.of i.op).bits) 32))))))), (3, .int .i64 0)] [] ⟨by kernel_rfl, by kernel_rfl⟩ (List.nil_sublist _) ?_
      refine E.C.ret (E.To.body (fn := Try.f22) [.int .u32 (IntKind.wrap .u32 ((IntKind.wrap .u32 ((IntKind.wrap .u32 ((IntKind.wrap .u32 ((IntKind.wrap .u32 ((IntKind.wrap .u32 i.op) * 67108864)) + (IntKind.wrap .u32 ((IntKind.wrap .u32 i.d) * 4194304)))) + (IntKind.wrap .u32 ((IntKind.wrap .u32 i.a) * 262144)))) + (IntKind.wrap .u32 ((IntKind.wrap .u32 i.b) * 16384)))) + (Int.tmod i.imm (IntKind.wrap .u32 (1 * 2 ^ (min ((Q3.of i.op).bits) 32)))))), .int .i64 0] ?_ ?_)
      · exact ⟨⟨by kernel_rfl, by kernel_rfl⟩, ⟨by kernel_rfl, by kernel_rfl⟩, trivial⟩
      · intro w h
        exact ⟨by show Ending.returned (.tuple #[.int .u32 (IntKind.wrap .u32 ((IntKind.wrap .u32 ((IntKind.wrap .u32 ((IntKind.wrap .u32 ((IntKind.wrap .u32 ((IntKind.wrap .u32 i.op) * 67108864)) + (IntKind.wrap .u32 ((IntKind.wrap .u32 i.d) * 4194304)))) + (IntKind.wrap .u32 ((IntKind.wrap .u32 i.a) * 262144)))) + (IntKind.wrap .u32 ((IntKind.wrap .u32 i.b) * 16384)))) + (Int.tmod i.imm (IntKind.wrap .u32 (1 * 2 ^ (min ((Q3.of i.op).bits) 32)))))), .int .i64 0]) = _; unfold Q3.encode; rw [hc2, cond_false, hc3, cond_false] <;> rfl, h.ch.bel (fun _ h => h.elim)⟩
end Go.Proofs.Ytgbndbljohpnmaa

/- XQo -/
namespace Go.Proofs.Ytgbndbljohpnmaa
set_option linter.unusedVariables false
set_option linter.unusedSimpArgs false
open Go.RowKit
theorem E.api_Trap_eql {fr : E.Fr} {x y : Operand} {u T : TypeId} {d : Option Nat} {pos : String} {af : Array Edge} {gd : Option (Nat × Bool)} {a0 a1 b0 b1 : Int} {w : World}
    (hx : E.ev fr x = .agg #[.int .i64 a0, .int .u32 a1]) (hy : E.ev fr y = .agg #[.int .i64 b0, .int .u32 b1]) :
    (execOp (E.ev fr) ⟨d, .binOp .eql 51 x y u, T, pos, af, gd⟩).run Try.prog w = .ok (.value (.bool (a0 == b0 && a1 == b1))) w := by
  show (do let r ← (do eqGuard .eql 51 x y (E.ev fr x) (E.ev fr y); binOp .eql 51 (E.ev fr x) (E.ev fr y)); pure (Next.value r) : Sem Next).run Try.prog w = _
  rw [hx, hy]
  go_simp
  (repeat' split) <;> simp_all
theorem Q.run_items (w : World) (d : Nat) (l : List Value) (hl : ∀ (i : Nat) (v : Value), l[i]? = some v → ∃ x : Int, v = Value.int .u32 x) : ∀ (is : List Nat), (∀ i ∈ is, i < l.length) → (Op.eqItems (d + 1) 22 1 l.toArray l.toArray is).run Try.prog w = .ok true w
  | [], _ => by simp [Op.eqItems]
  | i :: is, h => by
    have hi : i < l.length := h i (by simp)
    have ih := Q.run_items w d l hl is fun j hj => h j (by simp [hj])
    have ha : (isAgg 22).run Try.prog w = .ok false w := M.one Try.underlying22 rfl
    obtain ⟨x, hx⟩ := hl i _ (List.getElem?_eq_getElem hi)
    have p : (part 22 l.toArray (i * 1)).run Try.prog w = .ok (.int .u32 x) w := by
      have hg : l[i]? = some (.int .u32 x) := by rw [List.getElem?_eq_getElem hi, hx]
      simp [part, ha, hg]
    have e := run_equalIn_int (P := Try.prog) w d 22 .u32 .u32 x x Try.underlying22
    simp only [Op.eqItems, Sem.run_bind, p, e, Result.andThen_ok]
    simpa using ih
theorem Q.run_row (w : World) {t : TypeId} (n : Nat) (l : List Value) (ht : Try.prog.underlying t = some (.array n 22)) (hn : l.length = n) (hl : ∀ (i : Nat) (v : Value), l[i]? = some v → ∃ x : Int, v = Value.int .u32 x) : (Op.equalIn 9999 t (.agg l.toArray) (.agg l.toArray)).run Try.prog w = .ok true w := by
  subst hn
  have hi : ∃ i, Try.prog.info? 22 = some i := by
    cases h : Try.prog.info? 22 with
    | some i => exact ⟨i, rfl⟩
    | none => have : (Try.prog.info? 22).isSome = true := by kernel_rfl
              rw [h] at this; cases this
  obtain ⟨i, hi⟩ := hi
  have h := run_equalIn_array (P := Try.prog) w 9998 l.toArray l.toArray ht hi
  have hc : Try.prog.cellsOf 22 = 1 := by kernel_rfl
  rw [hc, Q.run_items w 9997 l hl (List.range l.length) (by simp)] at h
  exact h
theorem Q.all_u32 {l : List Int} : ∀ (i : Nat) (v : Value), (l.map (Value.int .u32))[i]? = some v → ∃ x : Int, v = Value.int .u32 x := fun i v h => by
  rw [List.getElem?_map] at h
  cases hq : l[i]? with
  | none => rw [hq] at h; cases h
  | some x => rw [hq] at h; exact ⟨x, (Option.some.inj h).symm⟩
theorem E.api_State_self {fr : E.Fr} {x y : Operand} {u T : TypeId} {d : Option Nat} {pos : String} {af : Array Edge} {gd : Option (Nat × Bool)} (s : Q.S) {w : World}
    (hx : E.ev fr x = s.val) (hy : E.ev fr y = s.val) :
    (execOp (E.ev fr) ⟨d, .binOp .eql 27 x y u, T, pos, af, gd⟩).run Try.prog w = .ok (.value (.bool true)) w := by
  show (do let r ← (do eqGuard .eql 27 x y (E.ev fr x) (E.ev fr y); binOp .eql 27 (E.ev fr x) (E.ev fr y)); pure (Next.value r) : Sem Next).run Try.prog w = _
  have h1 := Q.run_row w 16 ([s.r 0, s.r 1, s.r 2, s.r 3, s.r 4, s.r 5, s.r 6, s.r 7, s.r 8, s.r 9, s.r 10, s.r 11, s.r 12, s.r 13, s.r 14, s.r 15].map (Value.int .u32)) Try.underlying25 rfl Q.all_u32
  have h2 := Q.run_row w 4 ([s.c 0, s.c 1, s.c 2, s.c 3].map (Value.int .u32)) Try.underlying23 rfl Q.all_u32
  simp only [List.map_cons, List.map_nil] at h1 h2
  rw [hx, hy]
  unfold Q.S.val
  go_simp
end Go.Proofs.Ytgbndbljohpnmaa

/- XWm -/
namespace Go.Proofs.Ytgbndbljohpnmaa
set_option linter.unusedVariables false
set_option linter.unusedSimpArgs false
open Go.RowKit
theorem conv1 (w : World) (x : Int) : (convert 97 9 (.slice (some ⟨w.heap.size, 0, none⟩) 1 1)).run Try.prog (w.alloc (.cells #[.int .u8 x] 5)) = .ok (.string (strOfNums [x])) (w.alloc (.cells #[.int .u8 x] 5)) := by
  refine run_convert_bytes_arg _ _ _ Try.underlying97 Try.underlying5 _ 0 1 1 [x] rfl ?_ _ Try.underlying9
  intro i hi
  obtain rfl : i = 0 := by omega
  rw [Nat.zero_add, World.cell?_alloc_mark]; rfl
theorem put_step (n : Int) (k : Nat) (hk : k < 4) : W.put n k ++ strOfNums [n / 2 ^ (8 * k) % 256] = W.put n (k + 1 : Nat) := by
  unfold W.put
  rw [show (max 0 (min (k : Int) 4)).toNat = k by omega, show (max 0 (min ((k + 1 : Nat) : Int) 4)).toNat = k + 1 by omega]
  rcases (by omega : k = 0 ∨ k = 1 ∨ k = 2 ∨ k = 3) with rfl | rfl | rfl | rfl <;> simp [W.bytes4, strOfNums] <;> rfl
theorem rPut_any (n k : Int) (h0 : 0 ≤ n) (h1 : n < 4294967296) (k0 : -9223372036854775808 ≤ k) (k1 : k ≤ 9223372036854775807) (w : World) :
    Calls Try.prog 24 #[.int .u32 n, .int .i64 k] w fun e w' => e = .returned (.string (W.put n k)) ∧ Bel w w' := by
  have hcv := conv1
  go_enter Try.func24, Try.ntmps24
  go_wp2
  go_loopw [5, 6] (fun s i wr => ∃ m : Nat, m ≤ 4 ∧ (m = 0 ∨ m ≤ k) ∧ i = .int .i64 m ∧ s = .string (W.put n m) ∧ Bel w wr) (fun _ i _ => 4 - (intOf i).toNat)
  case atStart => exact ⟨0, by omega, by omega, rfl, rfl, (by repeat (first | assumption | exact Bel.refl _ | refine Bel.drew ?_ | refine Bel.drewN ?_ _ | refine Bel.alloc ?_ _ | (refine Bel.trans ?_ (by assumption)) | (refine Bel.then ?_ (by assumption) (by intro x hx; first | (subst hx; simp; done) | (simp at *; omega)))))⟩
  case round =>
    obtain ⟨m, hm, hm2, rfl, rfl, hb⟩ := hrel
    by_cases c1 : m < k
    · by_cases c2 : m < 4
      · have HS := hid (put_step n m c2)
        have z1 : (strOfNums [n / 2 ^ (8 * m) % 256]).size = 1 := by rw [strOfNums_size]; rfl
        have z2 : (W.put n m).size = m := by have := W.put_size n m (by omega) (by omega); omega
        go_wp2
        go_roundw
        case rel => exact ⟨m + 1, by omega, by omega, by go_num, by rw [← HS.out], (by repeat (first | assumption | exact Bel.refl _ | refine Bel.drew ?_ | refine Bel.drewN ?_ _ | refine Bel.alloc ?_ _ | (refine Bel.trans ?_ (by assumption)) | (refine Bel.then ?_ (by assumption) (by intro x hx; first | (subst hx; simp; done) | (simp at *; omega)))))⟩
        case measure => simp [intOf]; omega
      · have HS := hid (show W.put n m = W.put n k by unfold W.put; rw [show (max 0 (min (m : Int) 4)).toNat = (max 0 (min k 4)).toNat by omega])
        go_wp2
        go_ret
        exact ⟨by rw [← HS.out]; rfl, (by repeat (first | assumption | exact Bel.refl _ | refine Bel.drew ?_ | refine Bel.drewN ?_ _ | refine Bel.alloc ?_ _ | (refine Bel.trans ?_ (by assumption)) | (refine Bel.then ?_ (by assumption) (by intro x hx; first | (subst hx; simp; done) | (simp at *; omega)))))⟩
    · have HS := hid (show W.put n m = W.put n k by unfold W.put; rw [show (max 0 (min (m : Int) 4)).toNat = (max 0 (min k 4)).toNat by omega])
      go_wp2
      go_ret
      exact ⟨by rw [← HS.out]; rfl, (by repeat (first | assumption | exact Bel.refl _ | refine Bel.drew ?_ | refine Bel.drewN ?_ _ | refine Bel.alloc ?_ _ | (refine Bel.trans ?_ (by assumption)) | (refine Bel.then ?_ (by assumption) (by intro x hx; first | (subst hx; simp; done) | (simp at *; omega)))))⟩
end Go.Proofs.Ytgbndbljohpnmaa

/- XQp -/
namespace Go.Proofs.Ytgbndbljohpnmaa
set_option linter.unusedVariables false
set_option linter.unusedSimpArgs false
open Go.RowKit
theorem Q.z0_wf : Q.wf Q.z0 := ⟨by decide, fun _ => by show (0 : Int) ≤ 0 ∧ (0 : Int) < 4294967296; decide, fun _ => by show (0 : Int) ≤ 0 ∧ (0 : Int) < 4294967296; decide⟩
theorem Q.run_wf {most : Int} : ∀ (f n : Nat) {s : Q.S} {V : M.V}, Q.wf s → R.Wf V → Q.wf (Q.run most f n s V).1 ∧ R.Wf (Q.run most f n s V).2.2.2
  | 0, _, _, _, hs, hV => ⟨hs, hV⟩
  | f + 1, n, s, V, hs, hV => by
    have h1 := Q.step_wf hs hV
    rw [Q.run]
    refine Q.bifP (p := fun x : Q.S × Int × Int × M.V => Q.wf x.1 ∧ R.Wf x.2.2.2) (fun _ => ⟨hs, hV⟩) fun _ => Q.bifP (p := fun x : Q.S × Int × Int × M.V => Q.wf x.1 ∧ R.Wf x.2.2.2) (fun _ => ⟨hs, hV⟩) fun _ => Q.bifP (p := fun x : Q.S × Int × Int × M.V => Q.wf x.1 ∧ R.Wf x.2.2.2) (fun _ => ⟨hs, h1.2⟩) fun _ => Q.run_wf f (n + 1) h1.1 h1.2
theorem Q.runs_wf {most : Int} {s : Q.S} {V : M.V} (hs : Q.wf s) (hV : R.Wf V) : Q.wf (Q.runs most s V).1 ∧ R.Wf (Q.runs most s V).2.2.2 := Q.run_wf _ _ hs hV
theorem Q3.enc_bd (i : Q.I) : 0 ≤ (Q3.encode i).1 ∧ (Q3.encode i).1 < 4294967296 := by
  unfold Q3.encode
  refine Q.bifP (p := fun x : Int × Int => 0 ≤ x.1 ∧ x.1 < 4294967296) (fun _ => by decide) fun _ => Q.bifP (p := fun x : Int × Int => 0 ≤ x.1 ∧ x.1 < 4294967296) (fun _ => Q.wrap_bd _) fun _ => Q.wrap_bd _
theorem Q.put_size (n : Int) : (W.put n 4).size = 4 := by
  unfold W.put; rw [strOfNums_size]; rfl
theorem rPut_all (n k : Int) (h : 0 ≤ n ∧ n < 4294967296) (hk : -9223372036854775808 ≤ k ∧ k ≤ 9223372036854775807) (w : World) : Calls Try.prog 24 #[.int .u32 n, .int .i64 k] w fun e w' => e = .returned (.string (W.put n k)) ∧ Bel w w' := rPut_any n k h.1 h.2 hk.1 hk.2 w
def Q.sanS : ByteArray := ((((⟨#[]⟩ : ByteArray) ++ (W.put (Q3.encode ⟨16, 1, 0, 0, 5⟩).1 4)) ++ (W.put (Q3.encode ⟨33, 1, 0, 0, 4294967295⟩).1 4)) ++ (W.put (Q3.encode ⟨50, 0, 0, 0, 0⟩).1 4))
def Q.sanV : M.V := ((M.V.new (M.np 1) false).setc 0 Q.sanS).prot 0 4
def Q.sn1 : Q.S × Int × Int × M.V := Q.runs 1 Q.z0 Q.sanV
def Q.sn2 : Q.S × Int × Int × M.V := Q.runs 2 Q.sn1.1 Q.sn1.2.2.2
def Q.sn3 : Q.S × Int × Int × M.V := Q.runs 1 Q.z0 (M.V.new (M.np 0) false)
def Q.sn4 : Q.S × Int × Int × M.V := Q.runs 0 Q.sn3.1 Q.sn3.2.2.2
theorem CKind {c : Nat} (w : World) : Calls Try.prog 16 #[.pointer (some ⟨c, 0, none⟩)] w fun e w' => e = .returned (.int .i64 2) ∧ Bel w w' := by
  refine E.enter (n := 3) (S := fun _ => False) Try.func16 rfl rfl (by kernel_rfl) (E.Hp.start w) ?_
  refine E.C.seq ?_
  refine E.C.region ?_
  refine E.G.op (.int .i64 0) (fun w => by kernel_rfl) (by kernel_rfl) ?_
  refine E.To.code ?_
  refine E.C.seq ?_
  refine E.C.region ?_
  refine E.G.op (.int .i64 2) (fun w => by kernel_rfl) (by kernel_rfl) ?_
  refine E.To.code ?_
  refine E.C.ret (E.To.body (fn := Try.f16) [.int .i64 2] ?_ ?_)
  · exact ⟨⟨by kernel_rfl, by kernel_rfl⟩, trivial⟩
  · intro w h
    exact ⟨rfl, h.ch.bel (fun _ h => h.elim)⟩
theorem San6  : A.Rd Try.prog 10 #[] [] (.bool true) := by
  intro w oo aa hh
  refine E.enter (n := 105) (S := oo) Try.func10 rfl rfl (by kernel_rfl) (A.start (L := []) hh) ?_
  refine E.C.seq ?_
  refine E.C.region ?_
  refine E.G.op (.bool false) (fun w => by kernel_rfl) (by kernel_rfl) ?_
  refine E.To.code ?_
  refine E.C.seq ?_
  refine E.C.region ?_
  refine A.G.call (I := Nat) (D := fun m1 => True) (V := fun m1 => .pointer (some ⟨m1, 0, none⟩)) (q := fun m1 => [M.It m1 (M.V.new (M.np 1) false) (Q.S.cells Q.z0)]) [] (fun m1 => []) (fun m1 => [M.It m1 (M.V.new (M.np 1) false) (Q.S.cells Q.z0)]) (CNew 1) (by kernel_rfl) (A.pm [] (by kernel_rfl) (by kernel_rfl)) (fun m1 => A.pm [0] (by kernel_rfl) (by kernel_rfl)) (fun w _ => by kernel_rfl) (by kernel_rfl) (fun m1 hd2 => ?_)
  refine E.G.op (.pointer (some ⟨m1, 0, none⟩)) (fun w => by kernel_rfl) (by kernel_rfl) ?_
  refine E.To.code ?_
  refine E.C.seq ?_
  refine E.C.region ?_
  refine A.G.call (I := Nat) (D := fun m3 => True) (V := fun m3 => .pointer (some ⟨m3, 0, none⟩)) (q := fun m3 => [M.It m3 (M.V.new (M.np 0) false) (Q.S.cells Q.z0)]) [M.It m1 (M.V.new (M.np 1) false) (Q.S.cells Q.z0)] (fun m3 => []) (fun m3 => [M.It m3 (M.V.new (M.np 0) false) (Q.S.cells Q.z0), M.It m1 (M.V.new (M.np 1) false) (Q.S.cells Q.z0)]) (CNew 0) (by kernel_rfl) (A.pm [0] (by kernel_rfl) (by kernel_rfl)) (fun m3 => A.pm [0, 1] (by kernel_rfl) (by kernel_rfl)) (fun w _ => by kernel_rfl) (by kernel_rfl) (fun m3 hd4 => ?_)
  refine E.G.op (.pointer (some ⟨m3, 0, none⟩)) (fun w => by kernel_rfl) (by kernel_rfl) ?_
  refine E.To.code ?_
  refine E.C.seq ?_
  refine E.C.seq ?_
  refine E.C.region ?_
  refine E.G.op (.pointer (some ⟨m1, 0, none⟩)) (fun w => by kernel_rfl) (by kernel_rfl) ?_
  refine E.G.op (.bool false) (fun w => by kernel_rfl) (by kernel_rfl) ?_
  refine E.G.op (.bool false) (fun w => by kernel_rfl) (by kernel_rfl) ?_
  refine E.G.op (.pointer (some ⟨m3, 0, none⟩)) (fun w => by kernel_rfl) (by kernel_rfl) ?_
  refine E.G.op (.bool false) (fun w => by kernel_rfl) (by kernel_rfl) ?_
  refine E.G.op (.bool false) (fun w => by kernel_rfl) (by kernel_rfl) ?_
  refine E.To.code ?_
  refine E.C.condF (by kernel_rfl) (by kernel_rfl) ?_
  refine E.C.skip (E.To.code ?_)
  refine E.C.weak [(0, .bool false), (1, .pointer (some ⟨m1, 0, none⟩)), (2, .pointer (some ⟨m3, 0, none⟩))] [] ⟨by kernel_rfl, by kernel_rfl⟩ (List.Sublist.refl _) ?_
  refine E.C.seq ?_
  refine E.C.region ?_
  refine E.G.op (.string (⟨#[]⟩ : ByteArray)) (fun w => by kernel_rfl) (by kernel_rfl) ?_
  refine E.To.code ?_
  refine E.C.seq ?_
  refine E.C.region ?_
  refine E.G.val (.agg #[.int .i64 16, .int .i64 1, .int .i64 0, .int .i64 0, .int .u32 5]) (by kernel_rfl) (fun w h => E.run_build #[.int .i64 16, .int .i64 1, .int .i64 0, .int .i64 0, .int .u32 5] (by kernel_rfl) w) ?_
  refine E.G.val (.agg #[.int .i64 33, .int .i64 1, .int .i64 0, .int .i64 0, .int .u32 4294967295]) (by kernel_rfl) (fun w h => E.run_build #[.int .i64 33, .int .i64 1, .int .i64 0, .int .i64 0, .int .u32 4294967295] (by kernel_rfl) w) ?_
  refine E.G.val (.agg #[.int .i64 50, .int .i64 0, .int .i64 0, .int .i64 0, .int .u32 0]) (by kernel_rfl) (fun w h => E.run_build #[.int .i64 50, .int .i64 0, .int .i64 0, .int .i64 0, .int .u32 0] (by kernel_rfl) w) ?_
  refine E.G.buildSlice [.int .i64 16, .int .i64 1, .int .i64 0, .int .i64 0, .int .u32 5, .int .i64 33, .int .i64 1, .int .i64 0, .int .i64 0, .int .u32 4294967295, .int .i64 50, .int .i64 0, .int .i64 0, .int .i64 0, .int .u32 0] (by kernel_rfl) (by kernel_rfl) (fun g5 => ?_)
  refine E.G.op (.slice (some ⟨g5, 0, none⟩) 3 3) (fun w => by kernel_rfl) (by kernel_rfl) ?_
  refine E.To.code ?_
  refine E.C.seq ?_
  refine E.C.seq ?_
  refine E.C.region ?_
  refine E.G.op (.int .i64 0) (fun w => by kernel_rfl) (by kernel_rfl) ?_
  refine E.To.code ?_
  refine E.C.block ?_
  refine E.C.rounds 3 ?_
  refine E.C.seq ?_
  refine E.C.seq ?_
  refine E.C.region ?_
  refine E.G.op (.int .i64 0) (fun w => by kernel_rfl) (by kernel_rfl) ?_
  refine E.G.op (.slice (some ⟨g5, 0, none⟩) 3 3) (fun w => by kernel_rfl) (by kernel_rfl) ?_
  refine E.G.op (.int .i64 3) (fun w => by kernel_rfl) (by kernel_rfl) ?_
  refine E.G.op (.bool true) (fun w => by kernel_rfl) (by kernel_rfl) ?_
  refine E.To.code ?_
  refine E.C.condT (by kernel_rfl) (by kernel_rfl) ?_
  refine E.C.skip (E.To.code ?_)
  refine E.C.seq ?_
  refine E.C.block ?_
  refine E.C.seq ?_
  refine E.C.region ?_
  refine E.G.op (.slice (some ⟨g5, 0, none⟩) 3 3) (fun w => by kernel_rfl) (by kernel_rfl) ?_
  refine E.G.op (.int .i64 0) (fun w => by kernel_rfl) (by kernel_rfl) ?_
  refine E.G.op (.pointer (some ⟨g5, 0, none⟩)) (fun w => by kernel_rfl) (by kernel_rfl) ?_
  refine E.G.val (.agg #[.int .i64 16, .int .i64 1, .int .i64 0, .int .i64 0, .int .u32 5]) (by kernel_rfl) (fun w h => E.run_load h 0 rfl rfl (by kernel_rfl)) ?_
  refine E.G.call (.tuple #[.int .u32 ((Q3.encode (⟨16, 1, 0, 0, 5⟩ : Q.I)).1), .int .i64 ((Q3.encode (⟨16, 1, 0, 0, 5⟩ : Q.I)).2)]) (fun w h => Encode3_any (⟨16, 1, 0, 0, 5⟩ : Q.I) (by decide) w) (fun w _ => by kernel_rfl) (by kernel_rfl) ?_
  refine E.G.op (.tuple #[.int .u32 ((Q3.encode (⟨16, 1, 0, 0, 5⟩ : Q.I)).1), .int .i64 ((Q3.encode (⟨16, 1, 0, 0, 5⟩ : Q.I)).2)]) (fun w => by kernel_rfl) (by kernel_rfl) ?_
  refine E.G.op (.int .u32 ((Q3.encode (⟨16, 1, 0, 0, 5⟩ : Q.I)).1)) (fun w => by kernel_rfl) (by kernel_rfl) ?_
  refine E.G.op (.int .i64 ((Q3.encode (⟨16, 1, 0, 0, 5⟩ : Q.I)).2)) (fun w => by kernel_rfl) (by kernel_rfl) ?_
  refine E.G.op (.int .u32 ((Q3.encode (⟨16, 1, 0, 0, 5⟩ : Q.I)).1)) (fun w => by kernel_rfl) (by kernel_rfl) ?_
  refine E.G.op (.int .i64 ((Q3.encode (⟨16, 1, 0, 0, 5⟩ : Q.I)).2)) (fun w => by kernel_rfl) (by kernel_rfl) ?_
  refine E.To.code ?_
  refine E.C.region ?_
  refine E.G.op (.string (⟨#[]⟩ : ByteArray)) (fun w => by kernel_rfl) (by kernel_rfl) ?_
  refine E.G.op (.int .u32 ((Q3.encode (⟨16, 1, 0, 0, 5⟩ : Q.I)).1)) (fun w => by kernel_rfl) (by kernel_rfl) ?_
  refine E.G.call (.string (W.put ((Q3.encode (⟨16, 1, 0, 0, 5⟩ : Q.I)).1) 4)) (fun w h => rPut_all ((Q3.encode (⟨16, 1, 0, 0, 5⟩ : Q.I)).1) 4 (Q3.enc_bd _) (by omega) w) (fun w _ => by kernel_rfl) (by kernel_rfl) ?_
  refine E.G.val (.string ((⟨#[]⟩ : ByteArray) ++ (W.put ((Q3.encode (⟨16, 1, 0, 0, 5⟩ : Q.I)).1) 4))) (by kernel_rfl) (fun w h => E.cat (⟨#[]⟩ : ByteArray) (W.put ((Q3.encode (⟨16, 1, 0, 0, 5⟩ : Q.I)).1) 4) (by kernel_rfl) (by kernel_rfl) (by simp only [ByteArray.size_append, Q.put_size]; decide) w) ?_
  refine E.G.op (.string ((⟨#[]⟩ : ByteArray) ++ (W.put ((Q3.encode (⟨16, 1, 0, 0, 5⟩ : Q.I)).1) 4))) (fun w => by kernel_rfl) (by kernel_rfl) ?_
  refine E.P.nb (E.To.code ?_)
  refine E.C.region ?_
  refine E.G.op (.int .i64 0) (fun w => by kernel_rfl) (by kernel_rfl) ?_
  refine E.G.op (.int .i64 1) (fun w => by kernel_rfl) (by kernel_rfl) ?_
  refine E.G.op (.int .i64 1) (fun w => by kernel_rfl) (by kernel_rfl) ?_
  refine E.To.rounds 2 ?_
  refine E.C.weak [(0, .bool false), (1, .pointer (some ⟨m1, 0, none⟩)), (2, .pointer (some ⟨m3, 0, none⟩)), (3, .string ((⟨#[]⟩ : ByteArray) ++ (W.put ((Q3.encode (⟨16, 1, 0, 0, 5⟩ : Q.I)).1) 4))), (4, .slice (some ⟨g5, 0, none⟩) 3 3), (5, .int .i64 1), (6, .int .u32 ((Q3.encode (⟨16, 1, 0, 0, 5⟩ : Q.I)).1)), (24, .int .i64 0), (25, .slice (some ⟨g5, 0, none⟩) 3 3), (26, .int .i64 3), (27, .bool true), (28, .int .i64 0), (29, .int .i64 1), (30, .tuple #[.int .u32 ((Q3.encode (⟨16, 1, 0, 0, 5⟩ : Q.I)).1), .int .i64 ((Q3.encode (⟨16, 1, 0, 0, 5⟩ : Q.I)).2)]), (31, .slice (some ⟨g5, 0, none⟩) 3 3), (32, .int .i64 0), (33, .pointer (some ⟨g5, 0, none⟩)), (34, .agg #[.int .i64 16, .int .i64 1, .int .i64 0, .int .i64 0, .int .u32 5]), (35, .tuple #[.int .u32 ((Q3.encode (⟨16, 1, 0, 0, 5⟩ : Q.I)).1), .int .i64 ((Q3.encode (⟨16, 1, 0, 0, 5⟩ : Q.I)).2)]), (36, .int .u32 ((Q3.encode (⟨16, 1, 0, 0, 5⟩ : Q.I)).1)), (37, .int .i64 ((Q3.encode (⟨16, 1, 0, 0, 5⟩ : Q.I)).2)), (38, .string (⟨#[]⟩ : ByteArray)), (39, .int .u32 ((Q3.encode (⟨16, 1, 0, 0, 5⟩ : Q.I)).1)), (40, .string (W.put ((Q3.encode (⟨16, 1, 0, 0, 5⟩ : Q.I)).1) 4)), (41, .string ((⟨#[]⟩ : ByteArray) ++ (W.put ((Q3.encode (⟨16, 1, 0, 0, 5⟩ : Q.I)).1) 4)))] [(g5, [.int .i64 16, .int .i64 1, .int .i64 0, .int .i64 0, .int .u32 5, .int .i64 33, .int .i64 1, .int .i64 0, .int .i64 0, .int .u32 4294967295, .int .i64 50, .int .i64 0, .int .i64 0, .int .i64 0, .int .u32 0])] ⟨by kernel_rfl, by kernel_rfl⟩ (List.Sublist.refl _) ?_
  refine E.C.seq ?_
  refine E.C.seq ?_
  refine E.C.region ?_
  refine E.G.op (.int .i64 1) (fun w => by kernel_rfl) (by kernel_rfl) ?_
  refine E.G.op (.slice (some ⟨g5, 0, none⟩) 3 3) (fun w => by kernel_rfl) (by kernel_rfl) ?_
  refine E.G.op (.int .i64 3) (fun w => by kernel_rfl) (by kernel_rfl) ?_
  refine E.G.op (.bool true) (fun w => by kernel_rfl) (by kernel_rfl) ?_
  refine E.To.code ?_
  refine E.C.condT (by kernel_rfl) (by kernel_rfl) ?_
  refine E.C.skip (E.To.code ?_)
  refine E.C.seq ?_
  refine E.C.block ?_
  refine E.C.seq ?_
  refine E.C.region ?_
  refine E.G.op (.slice (some ⟨g5, 0, none⟩) 3 3) (fun w => by kernel_rfl) (by kernel_rfl) ?_
  refine E.G.op (.int .i64 1) (fun w => by kernel_rfl) (by kernel_rfl) ?_
  refine E.G.op (.pointer (some ⟨g5, 5, none⟩)) (fun w => by kernel_rfl) (by kernel_rfl) ?_
  refine E.G.val (.agg #[.int .i64 33, .int .i64 1, .int .i64 0, .int .i64 0, .int .u32 4294967295]) (by kernel_rfl) (fun w h => E.run_load h 0 rfl rfl (by kernel_rfl)) ?_
  refine E.G.call (.tuple #[.int .u32 ((Q3.encode (⟨33, 1, 0, 0, 4294967295⟩ : Q.I)).1), .int .i64 ((Q3.encode (⟨33, 1, 0, 0, 4294967295⟩ : Q.I)).2)]) (fun w h => Encode3_any (⟨33, 1, 0, 0, 4294967295⟩ : Q.I) (by decide) w) (fun w _ => by kernel_rfl) (by kernel_rfl) ?_
  refine E.G.op (.tuple #[.int .u32 ((Q3.encode (⟨33, 1, 0, 0, 4294967295⟩ : Q.I)).1), .int .i64 ((Q3.encode (⟨33, 1, 0, 0, 4294967295⟩ : Q.I)).2)]) (fun w => by kernel_rfl) (by kernel_rfl) ?_
  refine E.G.op (.int .u32 ((Q3.encode (⟨33, 1, 0, 0, 4294967295⟩ : Q.I)).1)) (fun w => by kernel_rfl) (by kernel_rfl) ?_
  refine E.G.op (.int .i64 ((Q3.encode (⟨33, 1, 0, 0, 4294967295⟩ : Q.I)).2)) (fun w => by kernel_rfl) (by kernel_rfl) ?_
  refine E.G.op (.int .u32 ((Q3.encode (⟨33, 1, 0, 0, 4294967295⟩ : Q.I)).1)) (fun w => by kernel_rfl) (by kernel_rfl) ?_
  refine E.G.op (.int .i64 ((Q3.encode (⟨33, 1, 0, 0, 4294967295⟩ : Q.I)).2)) (fun w => by kernel_rfl) (by kernel_rfl) ?_
  refine E.To.code ?_
  refine E.C.region ?_
  refine E.G.op (.string ((⟨#[]⟩ : ByteArray) ++ (W.put ((Q3.encode (⟨16, 1, 0, 0, 5⟩ : Q.I)).1) 4))) (fun w => by kernel_rfl) (by kernel_rfl) ?_
  refine E.G.op (.int .u32 ((Q3.encode (⟨33, 1, 0, 0, 4294967295⟩ : Q.I)).1)) (fun w => by kernel_rfl) (by kernel_rfl) ?_
  refine E.G.call (.string (W.put ((Q3.encode (⟨33, 1, 0, 0, 4294967295⟩ : Q.I)).1) 4)) (fun w h => rPut_all ((Q3.encode (⟨33, 1, 0, 0, 4294967295⟩ : Q.I)).1) 4 (Q3.enc_bd _) (by omega) w) (fun w _ => by kernel_rfl) (by kernel_rfl) ?_
  refine E.G.val (.string (((⟨#[]⟩ : ByteArray) ++ (W.put ((Q3.encode (⟨16, 1, 0, 0, 5⟩ : Q.I)).1) 4)) ++ (W.put ((Q3.encode (⟨33, 1, 0, 0, 4294967295⟩ : Q.I)).1) 4))) (by kernel_rfl) (fun w h => E.cat ((⟨#[]⟩ : ByteArray) ++ (W.put ((Q3.encode (⟨16, 1, 0, 0, 5⟩ : Q.I)).1) 4)) (W.put ((Q3.encode (⟨33, 1, 0, 0, 4294967295⟩ : Q.I)).1) 4) (by kernel_rfl) (by kernel_rfl) (by simp only [ByteArray.size_append, Q.put_size]; decide) w) ?_
  refine E.G.op (.string (((⟨#[]⟩ : ByteArray) ++ (W.put ((Q3.encode (⟨16, 1, 0, 0, 5⟩ : Q.I)).1) 4)) ++ (W.put ((Q3.encode (⟨33, 1, 0, 0, 4294967295⟩ : Q.I)).1) 4))) (fun w => by kernel_rfl) (by kernel_rfl) ?_
  refine E.P.nb (E.To.code ?_)
  refine E.C.region ?_
  refine E.G.op (.int .i64 1) (fun w => by kernel_rfl) (by kernel_rfl) ?_
  refine E.G.op (.int .i64 2) (fun w => by kernel_rfl) (by kernel_rfl) ?_
  refine E.G.op (.int .i64 2) (fun w => by kernel_rfl) (by kernel_rfl) ?_
  refine E.To.rounds 1 ?_
  refine E.C.weak [(0, .bool false), (1, .pointer (some ⟨m1, 0, none⟩)), (2, .pointer (some ⟨m3, 0, none⟩)), (3, .string (((⟨#[]⟩ : ByteArray) ++ (W.put ((Q3.encode (⟨16, 1, 0, 0, 5⟩ : Q.I)).1) 4)) ++ (W.put ((Q3.encode (⟨33, 1, 0, 0, 4294967295⟩ : Q.I)).1) 4))), (4, .slice (some ⟨g5, 0, none⟩) 3 3), (5, .int .i64 2), (6, .int .u32 ((Q3.encode (⟨33, 1, 0, 0, 4294967295⟩ : Q.I)).1)), (24, .int .i64 1), (25, .slice (some ⟨g5, 0, none⟩) 3 3), (26, .int .i64 3), (27, .bool true), (28, .int .i64 1), (29, .int .i64 2), (30, .tuple #[.int .u32 ((Q3.encode (⟨33, 1, 0, 0, 4294967295⟩ : Q.I)).1), .int .i64 ((Q3.encode (⟨33, 1, 0, 0, 4294967295⟩ : Q.I)).2)]), (31, .slice (some ⟨g5, 0, none⟩) 3 3), (32, .int .i64 1), (33, .pointer (some ⟨g5, 5, none⟩)), (34, .agg #[.int .i64 33, .int .i64 1, .int .i64 0, .int .i64 0, .int .u32 4294967295]), (35, .tuple #[.int .u32 ((Q3.encode (⟨33, 1, 0, 0, 4294967295⟩ : Q.I)).1), .int .i64 ((Q3.encode (⟨33, 1, 0, 0, 4294967295⟩ : Q.I)).2)]), (36, .int .u32 ((Q3.encode (⟨33, 1, 0, 0, 4294967295⟩ : Q.I)).1)), (37, .int .i64 ((Q3.encode (⟨33, 1, 0, 0, 4294967295⟩ : Q.I)).2)), (38, .string ((⟨#[]⟩ : ByteArray) ++ (W.put ((Q3.encode (⟨16, 1, 0, 0, 5⟩ : Q.I)).1) 4))), (39, .int .u32 ((Q3.encode (⟨33, 1, 0, 0, 4294967295⟩ : Q.I)).1)), (40, .string (W.put ((Q3.encode (⟨33, 1, 0, 0, 4294967295⟩ : Q.I)).1) 4)), (41, .string (((⟨#[]⟩ : ByteArray) ++ (W.put ((Q3.encode (⟨16, 1, 0, 0, 5⟩ : Q.I)).1) 4)) ++ (W.put ((Q3.encode (⟨33, 1, 0, 0, 4294967295⟩ : Q.I)).1) 4)))] [(g5, [.int .i64 16, .int .i64 1, .int .i64 0, .int .i64 0, .int .u32 5, .int .i64 33, .int .i64 1, .int .i64 0, .int .i64 0, .int .u32 4294967295, .int .i64 50, .int .i64 0, .int .i64 0, .int .i64 0, .int .u32 0])] ⟨by kernel_rfl, by kernel_rfl⟩ (List.Sublist.refl _) ?_
  refine E.C.seq ?_
  refine E.C.seq ?_
  refine E.C.region ?_
  refine E.G.op (.int .i64 2) (fun w => by kernel_rfl) (by kernel_rfl) ?_
  refine E.G.op (.slice (some ⟨g5, 0, none⟩) 3 3) (fun w => by kernel_rfl) (by kernel_rfl) ?_
  refine E.G.op (.int .i64 3) (fun w => by kernel_rfl) (by kernel_rfl) ?_
  refine E.G.op (.bool true) (fun w => by kernel_rfl) (by kernel_rfl) ?_
  refine E.To.code ?_
  refine E.C.condT (by kernel_rfl) (by kernel_rfl) ?_
  refine E.C.skip (E.To.code ?_)
  refine E.C.seq ?_
  refine E.C.block ?_
  refine E.C.seq ?_
  refine E.C.region ?_
  refine E.G.op (.slice (some ⟨g5, 0, none⟩) 3 3) (fun w => by kernel_rfl) (by kernel_rfl) ?_
  refine E.G.op (.int .i64 2) (fun w => by kernel_rfl) (by kernel_rfl) ?_
  refine E.G.op (.pointer (some ⟨g5, 10, none⟩)) (fun w => by kernel_rfl) (by kernel_rfl) ?_
  refine E.G.val (.agg #[.int .i64 50, .int .i64 0, .int .i64 0, .int .i64 0, .int .u32 0]) (by kernel_rfl) (fun w h => E.run_load h 0 rfl rfl (by kernel_rfl)) ?_
  refine E.G.call (.tuple #[.int .u32 ((Q3.encode (⟨50, 0, 0, 0, 0⟩ : Q.I)).1), .int .i64 ((Q3.encode (⟨50, 0, 0, 0, 0⟩ : Q.I)).2)]) (fun w h => Encode3_any (⟨50, 0, 0, 0, 0⟩ : Q.I) (by decide) w) (fun w _ => by kernel_rfl) (by kernel_rfl) ?_
  refine E.G.op (.tuple #[.int .u32 ((Q3.encode (⟨50, 0, 0, 0, 0⟩ : Q.I)).1), .int .i64 ((Q3.encode (⟨50, 0, 0, 0, 0⟩ : Q.I)).2)]) (fun w => by kernel_rfl) (by kernel_rfl) ?_
  refine E.G.op (.int .u32 ((Q3.encode (⟨50, 0, 0, 0, 0⟩ : Q.I)).1)) (fun w => by kernel_rfl) (by kernel_rfl) ?_
  refine E.G.op (.int .i64 ((Q3.encode (⟨50, 0, 0, 0, 0⟩ : Q.I)).2)) (fun w => by kernel_rfl) (by kernel_rfl) ?_
  refine E.G.op (.int .u32 ((Q3.encode (⟨50, 0, 0, 0, 0⟩ : Q.I)).1)) (fun w => by kernel_rfl) (by kernel_rfl) ?_
  refine E.G.op (.int .i64 ((Q3.encode (⟨50, 0, 0, 0, 0⟩ : Q.I)).2)) (fun w => by kernel_rfl) (by kernel_rfl) ?_
  refine E.To.code ?_
  refine E.C.region ?_
  refine E.G.op (.string (((⟨#[]⟩ : ByteArray) ++ (W.put ((Q3.encode (⟨16, 1, 0, 0, 5⟩ : Q.I)).1) 4)) ++ (W.put ((Q3.encode (⟨33, 1, 0, 0, 4294967295⟩ : Q.I)).1) 4))) (fun w => by kernel_rfl) (by kernel_rfl) ?_
  refine E.G.op (.int .u32 ((Q3.encode (⟨50, 0, 0, 0, 0⟩ : Q.I)).1)) (fun w => by kernel_rfl) (by kernel_rfl) ?_
  refine E.G.call (.string (W.put ((Q3.encode (⟨50, 0, 0, 0, 0⟩ : Q.I)).1) 4)) (fun w h => rPut_all ((Q3.encode (⟨50, 0, 0, 0, 0⟩ : Q.I)).1) 4 (Q3.enc_bd _) (by omega) w) (fun w _ => by kernel_rfl) (by kernel_rfl) ?_
  refine E.G.val (.string ((((⟨#[]⟩ : ByteArray) ++ (W.put ((Q3.encode (⟨16, 1, 0, 0, 5⟩ : Q.I)).1) 4)) ++ (W.put ((Q3.encode (⟨33, 1, 0, 0, 4294967295⟩ : Q.I)).1) 4)) ++ (W.put ((Q3.encode (⟨50, 0, 0, 0, 0⟩ : Q.I)).1) 4))) (by kernel_rfl) (fun w h => E.cat (((⟨#[]⟩ : ByteArray) ++ (W.put ((Q3.encode (⟨16, 1, 0, 0, 5⟩ : Q.I)).1) 4)) ++ (W.put ((Q3.encode (⟨33, 1, 0, 0, 4294967295⟩ : Q.I)).1) 4)) (W.put ((Q3.encode (⟨50, 0, 0, 0, 0⟩ : Q.I)).1) 4) (by kernel_rfl) (by kernel_rfl) (by simp only [ByteArray.size_append, Q.put_size]; decide) w) ?_
  refine E.G.op (.string ((((⟨#[]⟩ : ByteArray) ++ (W.put ((Q3.encode (⟨16, 1, 0, 0, 5⟩ : Q.I)).1) 4)) ++ (W.put ((Q3.encode (⟨33, 1, 0, 0, 4294967295⟩ : Q.I)).1) 4)) ++ (W.put ((Q3.encode (⟨50, 0, 0, 0, 0⟩ : Q.I)).1) 4))) (fun w => by kernel_rfl) (by kernel_rfl) ?_
  refine E.P.nb (E.To.code ?_)
  refine E.C.region ?_
  refine E.G.op (.int .i64 2) (fun w => by kernel_rfl) (by kernel_rfl) ?_
  refine E.G.op (.int .i64 3) (fun w => by kernel_rfl) (by kernel_rfl) ?_
  refine E.G.op (.int .i64 3) (fun w => by kernel_rfl) (by kernel_rfl) ?_
  refine E.To.rounds 0 ?_
  refine E.C.weak [(0, .bool false), (1, .pointer (some ⟨m1, 0, none⟩)), (2, .pointer (some ⟨m3, 0, none⟩)), (3, .string ((((⟨#[]⟩ : ByteArray) ++ (W.put ((Q3.encode (⟨16, 1, 0, 0, 5⟩ : Q.I)).1) 4)) ++ (W.put ((Q3.encode (⟨33, 1, 0, 0, 4294967295⟩ : Q.I)).1) 4)) ++ (W.put ((Q3.encode (⟨50, 0, 0, 0, 0⟩ : Q.I)).1) 4))), (4, .slice (some ⟨g5, 0, none⟩) 3 3), (5, .int .i64 3), (6, .int .u32 ((Q3.encode (⟨50, 0, 0, 0, 0⟩ : Q.I)).1)), (24, .int .i64 2), (25, .slice (some ⟨g5, 0, none⟩) 3 3), (26, .int .i64 3), (27, .bool true), (28, .int .i64 2), (29, .int .i64 3), (30, .tuple #[.int .u32 ((Q3.encode (⟨50, 0, 0, 0, 0⟩ : Q.I)).1), .int .i64 ((Q3.encode (⟨50, 0, 0, 0, 0⟩ : Q.I)).2)]), (31, .slice (some ⟨g5, 0, none⟩) 3 3), (32, .int .i64 2), (33, .pointer (some ⟨g5, 10, none⟩)), (34, .agg #[.int .i64 50, .int .i64 0, .int .i64 0, .int .i64 0, .int .u32 0]), (35, .tuple #[.int .u32 ((Q3.encode (⟨50, 0, 0, 0, 0⟩ : Q.I)).1), .int .i64 ((Q3.encode (⟨50, 0, 0, 0, 0⟩ : Q.I)).2)]), (36, .int .u32 ((Q3.encode (⟨50, 0, 0, 0, 0⟩ : Q.I)).1)), (37, .int .i64 ((Q3.encode (⟨50, 0, 0, 0, 0⟩ : Q.I)).2)), (38, .string (((⟨#[]⟩ : ByteArray) ++ (W.put ((Q3.encode (⟨16, 1, 0, 0, 5⟩ : Q.I)).1) 4)) ++ (W.put ((Q3.encode (⟨33, 1, 0, 0, 4294967295⟩ : Q.I)).1) 4))), (39, .int .u32 ((Q3.encode (⟨50, 0, 0, 0, 0⟩ : Q.I)).1)), (40, .string (W.put ((Q3.encode (⟨50, 0, 0, 0, 0⟩ : Q.I)).1) 4)), (41, .string ((((⟨#[]⟩ : ByteArray) ++ (W.put ((Q3.encode (⟨16, 1, 0, 0, 5⟩ : Q.I)).1) 4)) ++ (W.put ((Q3.encode (⟨33, 1, 0, 0, 4294967295⟩ : Q.I)).1) 4)) ++ (W.put ((Q3.encode (⟨50, 0, 0, 0, 0⟩ : Q.I)).1) 4)))] [(g5, [.int .i64 16, .int .i64 1, .int .i64 0, .int .i64 0, .int .u32 5, .int .i64 33, .int .i64 1, .int .i64 0, .int .i64 0, .int .u32 4294967295, .int .i64 50, .int .i64 0, .int .i64 0, .int .i64 0, .int .u32 0])] ⟨by kernel_rfl, by kernel_rfl⟩ (List.Sublist.refl _) ?_
  refine E.C.seq ?_
  refine E.C.seq ?_
  refine E.C.region ?_
  refine E.G.op (.int .i64 3) (fun w => by kernel_rfl) (by kernel_rfl) ?_
  refine E.G.op (.slice (some ⟨g5, 0, none⟩) 3 3) (fun w => by kernel_rfl) (by kernel_rfl) ?_
  refine E.G.op (.int .i64 3) (fun w => by kernel_rfl) (by kernel_rfl) ?_
  refine E.G.op (.bool false) (fun w => by kernel_rfl) (by kernel_rfl) ?_
  refine E.To.code ?_
  refine E.C.condF (by kernel_rfl) (by kernel_rfl) ?_
  refine E.C.exit (E.P.et (E.P.et (E.P.eh (E.To.code ?_))))
  refine E.C.weak [(0, .bool false), (1, .pointer (some ⟨m1, 0, none⟩)), (2, .pointer (some ⟨m3, 0, none⟩)), (3, .string ((((⟨#[]⟩ : ByteArray) ++ (W.put ((Q3.encode (⟨16, 1, 0, 0, 5⟩ : Q.I)).1) 4)) ++ (W.put ((Q3.encode (⟨33, 1, 0, 0, 4294967295⟩ : Q.I)).1) 4)) ++ (W.put ((Q3.encode (⟨50, 0, 0, 0, 0⟩ : Q.I)).1) 4)))] [] ⟨by kernel_rfl, by kernel_rfl⟩ (List.nil_sublist _) ?_
  refine E.C.seq ?_
  refine E.C.region ?_
  refine E.G.op (.pointer (some ⟨m1, 0, none⟩)) (fun w => by kernel_rfl) (by kernel_rfl) ?_
  refine E.G.op (.pointer (some ⟨m1, 0, none⟩)) (fun w => by kernel_rfl) (by kernel_rfl) ?_
  refine E.G.op (.pointer (some ⟨m1, 0, none⟩)) (fun w => by kernel_rfl) (by kernel_rfl) ?_
  refine E.G.op (.string Q.sanS) (fun w => by kernel_rfl) (by kernel_rfl) ?_
  refine A.G.call (I := Unit) (D := fun _ => True) (V := fun _ => .tuple #[]) (q := fun _ => [M.It m1 ((M.V.new (M.np 1) false).setc 0 Q.sanS) (Q.S.cells Q.z0)]) [M.It m3 (M.V.new (M.np 0) false) (Q.S.cells Q.z0)] (fun _ => []) (fun _ => [M.It m3 (M.V.new (M.np 0) false) (Q.S.cells Q.z0), M.It m1 ((M.V.new (M.np 1) false).setc 0 Q.sanS) (Q.S.cells Q.z0)]) (A_SetCode 0 Q.sanS (m := m1) (V := (M.V.new (M.np 1) false)) (xs := (Q.S.cells Q.z0))) (by kernel_rfl) (A.pm [1, 0] (by kernel_rfl) (by kernel_rfl)) (fun _ => A.pm [1, 0] (by kernel_rfl) (by kernel_rfl)) (fun w _ => by kernel_rfl) (by kernel_rfl) (fun _ hd6 => ?_)
  refine E.To.code ?_
  refine E.C.seq ?_
  refine E.C.region ?_
  refine E.G.op (.pointer (some ⟨m1, 0, none⟩)) (fun w => by kernel_rfl) (by kernel_rfl) ?_
  refine E.G.op (.pointer (some ⟨m1, 0, none⟩)) (fun w => by kernel_rfl) (by kernel_rfl) ?_
  refine E.G.op (.pointer (some ⟨m1, 0, none⟩)) (fun w => by kernel_rfl) (by kernel_rfl) ?_
  refine A.G.call (I := Unit) (D := fun _ => True) (V := fun _ => .tuple #[]) (q := fun _ => [M.It m1 Q.sanV (Q.S.cells Q.z0)]) [M.It m3 (M.V.new (M.np 0) false) (Q.S.cells Q.z0)] (fun _ => []) (fun _ => [M.It m3 (M.V.new (M.np 0) false) (Q.S.cells Q.z0), M.It m1 Q.sanV (Q.S.cells Q.z0)]) (A_Protect 0 4 (m := m1) (V := ((M.V.new (M.np 1) false).setc 0 Q.sanS)) (xs := (Q.S.cells Q.z0))) (by kernel_rfl) (A.pm [1, 0] (by kernel_rfl) (by kernel_rfl)) (fun _ => A.pm [1, 0] (by kernel_rfl) (by kernel_rfl)) (fun w _ => by kernel_rfl) (by kernel_rfl) (fun _ hd7 => ?_)
  refine E.To.code ?_
  refine E.C.weak [(0, .bool false), (1, .pointer (some ⟨m1, 0, none⟩)), (2, .pointer (some ⟨m3, 0, none⟩))] [] ⟨by kernel_rfl, by kernel_rfl⟩ (List.Sublist.refl _) ?_
  refine E.C.seq ?_
  refine E.C.region ?_
  refine E.G.op (.pointer (some ⟨m1, 0, none⟩)) (fun w => by kernel_rfl) (by kernel_rfl) ?_
  refine A.G.call (I := Unit) (D := fun _ => True) (V := fun _ => .agg #[.int .i64 Q.sn1.2.1, .int .u32 Q.sn1.2.2.1]) (q := fun _ => [M.It m1 Q.sn1.2.2.2 (Q.S.cells Q.sn1.1)]) [M.It m3 (M.V.new (M.np 0) false) (Q.S.cells Q.z0)] (fun _ => []) (fun _ => [M.It m3 (M.V.new (M.np 0) false) (Q.S.cells Q.z0), M.It m1 Q.sn1.2.2.2 (Q.S.cells Q.sn1.1)]) (CRun (c := m1) 1 Q.z0 Q.sanV (by omega) Q.z0_wf (R.Wf.prot (R.Wf.setc (R.Wf.new (M.np_le _) _) _ _) _ _)) (by kernel_rfl) (A.pm [1, 0] (by kernel_rfl) (by kernel_rfl)) (fun _ => A.pm [1, 0] (by kernel_rfl) (by kernel_rfl)) (fun w _ => by kernel_rfl) (by kernel_rfl) (fun _ hd8 => ?_)
  refine E.G.new (fun g => .pointer (some ⟨g, 0, none⟩)) [.int .i64 0, .int .u32 0] 51 (fun w => by kernel_rfl) (by kernel_rfl) (fun g9 => ?_)
  refine E.G.store 0 [.int .i64 Q.sn1.2.1, .int .u32 Q.sn1.2.2.1] rfl rfl (by kernel_rfl) (by kernel_rfl) ?_
  refine E.To.code ?_
  refine E.C.seq ?_
  refine E.C.region ?_
  refine E.G.op (.pointer (some ⟨m1, 0, none⟩)) (fun w => by kernel_rfl) (by kernel_rfl) ?_
  refine E.G.call (Q.S.val Q.sn1.1) (fun w h => A.call_rd [A.blk g9 ([.int .i64 Q.sn1.2.1, .int .u32 Q.sn1.2.2.1]), M.It m3 (M.V.new (M.np 0) false) (Q.S.cells Q.z0)] (CState (c := m1) (V := Q.sn1.2.2.2) Q.sn1.1) h (by kernel_rfl) (A.pm [2, 0, 1] (by kernel_rfl) (by kernel_rfl))) (fun w _ => by kernel_rfl) (by kernel_rfl) ?_
  refine E.G.new (fun g => .pointer (some ⟨g, 0, none⟩)) (Q.S.cells Q.z0) 27 (fun w => by kernel_rfl) (by kernel_rfl) (fun g10 => ?_)
  refine E.G.store 0 (Q.S.cells Q.sn1.1) rfl rfl (by kernel_rfl) (by kernel_rfl) ?_
  refine E.To.code ?_
  refine E.C.seq ?_
  refine E.C.region ?_
  refine E.G.op (.pointer (some ⟨m1, 0, none⟩)) (fun w => by kernel_rfl) (by kernel_rfl) ?_
  refine A.G.call (I := Unit) (D := fun _ => True) (V := fun _ => .agg #[.int .i64 Q.sn2.2.1, .int .u32 Q.sn2.2.2.1]) (q := fun _ => [M.It m1 Q.sn2.2.2.2 (Q.S.cells Q.sn2.1)]) [A.blk g10 (Q.S.cells Q.sn1.1), A.blk g9 ([.int .i64 Q.sn1.2.1, .int .u32 Q.sn1.2.2.1]), M.It m3 (M.V.new (M.np 0) false) (Q.S.cells Q.z0)] (fun _ => [(g10, (Q.S.cells Q.sn1.1)), (g9, [.int .i64 Q.sn1.2.1, .int .u32 Q.sn1.2.2.1])]) (fun _ => [M.It m3 (M.V.new (M.np 0) false) (Q.S.cells Q.z0), M.It m1 Q.sn2.2.2.2 (Q.S.cells Q.sn2.1)]) (CRun (c := m1) 2 Q.sn1.1 Q.sn1.2.2.2 (by omega) (Q.runs_wf Q.z0_wf (R.Wf.prot (R.Wf.setc (R.Wf.new (M.np_le _) _) _ _) _ _)).1 (Q.runs_wf Q.z0_wf (R.Wf.prot (R.Wf.setc (R.Wf.new (M.np_le _) _) _ _) _ _)).2) (by kernel_rfl) (A.pm [3, 0, 1, 2] (by kernel_rfl) (by kernel_rfl)) (fun _ => A.pm [1, 2, 3, 0] (by kernel_rfl) (by kernel_rfl)) (fun w _ => by kernel_rfl) (by kernel_rfl) (fun _ hd11 => ?_)
  refine E.G.new (fun g => .pointer (some ⟨g, 0, none⟩)) [.int .i64 0, .int .u32 0] 51 (fun w => by kernel_rfl) (by kernel_rfl) (fun g12 => ?_)
  refine E.G.store 0 [.int .i64 Q.sn2.2.1, .int .u32 Q.sn2.2.2.1] rfl rfl (by kernel_rfl) (by kernel_rfl) ?_
  refine E.To.code ?_
  refine E.C.seq ?_
  refine E.C.region ?_
  refine E.G.op (.pointer (some ⟨m1, 0, none⟩)) (fun w => by kernel_rfl) (by kernel_rfl) ?_
  refine E.G.call (Q.S.val Q.sn2.1) (fun w h => A.call_rd [A.blk g12 ([.int .i64 Q.sn2.2.1, .int .u32 Q.sn2.2.2.1]), A.blk g10 (Q.S.cells Q.sn1.1), A.blk g9 ([.int .i64 Q.sn1.2.1, .int .u32 Q.sn1.2.2.1]), M.It m3 (M.V.new (M.np 0) false) (Q.S.cells Q.z0)] (CState (c := m1) (V := Q.sn2.2.2.2) Q.sn2.1) h (by kernel_rfl) (A.pm [4, 0, 1, 2, 3] (by kernel_rfl) (by kernel_rfl))) (fun w _ => by kernel_rfl) (by kernel_rfl) ?_
  refine E.G.new (fun g => .pointer (some ⟨g, 0, none⟩)) (Q.S.cells Q.z0) 27 (fun w => by kernel_rfl) (by kernel_rfl) (fun g13 => ?_)
  refine E.G.store 0 (Q.S.cells Q.sn2.1) rfl rfl (by kernel_rfl) (by kernel_rfl) ?_
  refine E.To.code ?_
  refine E.C.weak [(0, .bool false), (2, .pointer (some ⟨m3, 0, none⟩)), (8, .pointer (some ⟨g9, 0, none⟩)), (9, .pointer (some ⟨g10, 0, none⟩)), (10, .pointer (some ⟨g12, 0, none⟩)), (11, .pointer (some ⟨g13, 0, none⟩))] [(g13, (Q.S.cells Q.sn2.1)), (g12, [.int .i64 Q.sn2.2.1, .int .u32 Q.sn2.2.2.1]), (g10, (Q.S.cells Q.sn1.1)), (g9, [.int .i64 Q.sn1.2.1, .int .u32 Q.sn1.2.2.1])] ⟨by kernel_rfl, by kernel_rfl⟩ (List.Sublist.refl _) ?_
  refine E.C.seq ?_
  refine E.C.region ?_
  refine E.G.op (.pointer (some ⟨g9, 0, none⟩)) (fun w => by kernel_rfl) (by kernel_rfl) ?_
  refine E.G.val (.int .i64 Q.sn1.2.1) (by kernel_rfl) (fun w h => E.run_load h 3 rfl rfl (by kernel_rfl)) ?_
  refine E.G.val (.bool true) (by kernel_rfl) (fun w h => E.run_as (a := .bool (Q.sn1.2.1 == 1)) (by kernel_rfl) (congrArg Value.bool (by kernel_rfl))) ?_
  refine E.G.op (.bool true) (fun w => by kernel_rfl) (by kernel_rfl) ?_
  refine E.G.op (.pointer (some ⟨g10, 0, none⟩)) (fun w => by kernel_rfl) (by kernel_rfl) ?_
  refine E.G.val (.int .u32 Q.sn1.1.pc) (by kernel_rfl) (fun w h => E.run_load h 2 rfl rfl (by kernel_rfl)) ?_
  refine E.G.val (.bool true) (by kernel_rfl) (fun w h => E.run_as (a := .bool (Q.sn1.1.pc == 4)) (by kernel_rfl) (congrArg Value.bool (by kernel_rfl))) ?_
  refine E.G.op (.bool true) (fun w => by kernel_rfl) (by kernel_rfl) ?_
  refine E.G.op (.bool true) (fun w => by kernel_rfl) (by kernel_rfl) ?_
  refine E.G.op (.pointer (some ⟨g10, 1, none⟩)) (fun w => by kernel_rfl) (by kernel_rfl) ?_
  refine E.G.op (.pointer (some ⟨g10, 2, none⟩)) (fun w => by kernel_rfl) (by kernel_rfl) ?_
  refine E.G.val (.int .u32 (Q.sn1.1.r 1)) (by kernel_rfl) (fun w h => E.run_load h 2 rfl rfl (by kernel_rfl)) ?_
  refine E.G.val (.bool true) (by kernel_rfl) (fun w h => E.run_as (a := .bool ((Q.sn1.1.r 1) == 5)) (by kernel_rfl) (congrArg Value.bool (by kernel_rfl))) ?_
  refine E.G.op (.bool true) (fun w => by kernel_rfl) (by kernel_rfl) ?_
  refine E.G.op (.bool true) (fun w => by kernel_rfl) (by kernel_rfl) ?_
  refine E.G.op (.pointer (some ⟨g10, 22, none⟩)) (fun w => by kernel_rfl) (by kernel_rfl) ?_
  refine E.G.val (.int .i64 Q.sn1.1.st) (by kernel_rfl) (fun w h => E.run_load h 2 rfl rfl (by kernel_rfl)) ?_
  refine E.G.val (.bool true) (by kernel_rfl) (fun w h => E.run_as (a := .bool (Q.sn1.1.st == 1)) (by kernel_rfl) (congrArg Value.bool (by kernel_rfl))) ?_
  refine E.G.op (.bool true) (fun w => by kernel_rfl) (by kernel_rfl) ?_
  refine E.G.op (.bool true) (fun w => by kernel_rfl) (by kernel_rfl) ?_
  refine E.G.op (.pointer (some ⟨g12, 0, none⟩)) (fun w => by kernel_rfl) (by kernel_rfl) ?_
  refine E.G.val (.int .i64 Q.sn2.2.1) (by kernel_rfl) (fun w h => E.run_load h 1 rfl rfl (by kernel_rfl)) ?_
  refine E.G.val (.bool true) (by kernel_rfl) (fun w h => E.run_as (a := .bool (Q.sn2.2.1 == 1)) (by kernel_rfl) (congrArg Value.bool (by kernel_rfl))) ?_
  refine E.G.op (.bool true) (fun w => by kernel_rfl) (by kernel_rfl) ?_
  refine E.G.op (.bool true) (fun w => by kernel_rfl) (by kernel_rfl) ?_
  refine E.G.op (.pointer (some ⟨g13, 0, none⟩)) (fun w => by kernel_rfl) (by kernel_rfl) ?_
  refine E.G.val (.int .u32 Q.sn2.1.pc) (by kernel_rfl) (fun w h => E.run_load h 0 rfl rfl (by kernel_rfl)) ?_
  refine E.G.val (.bool true) (by kernel_rfl) (fun w h => E.run_as (a := .bool (Q.sn2.1.pc == 4)) (by kernel_rfl) (congrArg Value.bool (by kernel_rfl))) ?_
  refine E.G.op (.bool true) (fun w => by kernel_rfl) (by kernel_rfl) ?_
  refine E.G.op (.bool true) (fun w => by kernel_rfl) (by kernel_rfl) ?_
  refine E.G.op (.pointer (some ⟨g13, 22, none⟩)) (fun w => by kernel_rfl) (by kernel_rfl) ?_
  refine E.G.val (.int .i64 Q.sn2.1.st) (by kernel_rfl) (fun w h => E.run_load h 0 rfl rfl (by kernel_rfl)) ?_
  refine E.G.val (.bool true) (by kernel_rfl) (fun w h => E.run_as (a := .bool (Q.sn2.1.st == 3)) (by kernel_rfl) (congrArg Value.bool (by kernel_rfl))) ?_
  refine E.G.op (.bool true) (fun w => by kernel_rfl) (by kernel_rfl) ?_
  refine E.G.op (.bool true) (fun w => by kernel_rfl) (by kernel_rfl) ?_
  refine E.G.op (.pointer (some ⟨m3, 0, none⟩)) (fun w => by kernel_rfl) (by kernel_rfl) ?_
  refine A.G.call (I := Unit) (D := fun _ => True) (V := fun _ => .agg #[.int .i64 Q.sn3.2.1, .int .u32 Q.sn3.2.2.1]) (q := fun _ => [M.It m3 Q.sn3.2.2.2 (Q.S.cells Q.sn3.1)]) [A.blk g13 (Q.S.cells Q.sn2.1), A.blk g12 ([.int .i64 Q.sn2.2.1, .int .u32 Q.sn2.2.2.1]), A.blk g10 (Q.S.cells Q.sn1.1), A.blk g9 ([.int .i64 Q.sn1.2.1, .int .u32 Q.sn1.2.2.1]), M.It m1 Q.sn2.2.2.2 (Q.S.cells Q.sn2.1)] (fun _ => [(g13, (Q.S.cells Q.sn2.1)), (g12, [.int .i64 Q.sn2.2.1, .int .u32 Q.sn2.2.2.1]), (g10, (Q.S.cells Q.sn1.1)), (g9, [.int .i64 Q.sn1.2.1, .int .u32 Q.sn1.2.2.1])]) (fun _ => [M.It m3 Q.sn3.2.2.2 (Q.S.cells Q.sn3.1), M.It m1 Q.sn2.2.2.2 (Q.S.cells Q.sn2.1)]) (CRun (c := m3) 1 Q.z0 (M.V.new (M.np 0) false) (by omega) Q.z0_wf (R.Wf.new (M.np_le _) _)) (by kernel_rfl) (A.pm [4, 0, 1, 2, 3, 5] (by kernel_rfl) (by kernel_rfl)) (fun _ => A.pm [1, 2, 3, 4, 0, 5] (by kernel_rfl) (by kernel_rfl)) (fun w _ => by kernel_rfl) (by kernel_rfl) (fun _ hd14 => ?_)
  refine E.G.val (.agg #[.int .i64 5, .int .u32 0]) (by kernel_rfl) (fun w h => E.run_build #[.int .i64 5, .int .u32 0] (by kernel_rfl) w) ?_
  refine E.G.val (.bool true) (by kernel_rfl) (fun w h => E.run_as (a := .bool ((Q.sn3.2.1 == 5) && (Q.sn3.2.2.1 == 0))) (E.api_Trap_eql (by kernel_rfl) (by kernel_rfl)) (congrArg Value.bool (by kernel_rfl))) ?_
  refine E.G.op (.bool true) (fun w => by kernel_rfl) (by kernel_rfl) ?_
  refine E.G.op (.bool true) (fun w => by kernel_rfl) (by kernel_rfl) ?_
  refine E.G.op (.pointer (some ⟨m3, 0, none⟩)) (fun w => by kernel_rfl) (by kernel_rfl) ?_
  refine A.G.call (I := Unit) (D := fun _ => True) (V := fun _ => .agg #[.int .i64 Q.sn4.2.1, .int .u32 Q.sn4.2.2.1]) (q := fun _ => [M.It m3 Q.sn4.2.2.2 (Q.S.cells Q.sn4.1)]) [A.blk g13 (Q.S.cells Q.sn2.1), A.blk g12 ([.int .i64 Q.sn2.2.1, .int .u32 Q.sn2.2.2.1]), A.blk g10 (Q.S.cells Q.sn1.1), A.blk g9 ([.int .i64 Q.sn1.2.1, .int .u32 Q.sn1.2.2.1]), M.It m1 Q.sn2.2.2.2 (Q.S.cells Q.sn2.1)] (fun _ => [(g13, (Q.S.cells Q.sn2.1)), (g12, [.int .i64 Q.sn2.2.1, .int .u32 Q.sn2.2.2.1]), (g10, (Q.S.cells Q.sn1.1)), (g9, [.int .i64 Q.sn1.2.1, .int .u32 Q.sn1.2.2.1])]) (fun _ => [M.It m3 Q.sn4.2.2.2 (Q.S.cells Q.sn4.1), M.It m1 Q.sn2.2.2.2 (Q.S.cells Q.sn2.1)]) (CRun (c := m3) 0 Q.sn3.1 Q.sn3.2.2.2 (by omega) (Q.runs_wf Q.z0_wf (R.Wf.new (M.np_le _) _)).1 (Q.runs_wf Q.z0_wf (R.Wf.new (M.np_le _) _)).2) (by kernel_rfl) (A.pm [4, 0, 1, 2, 3, 5] (by kernel_rfl) (by kernel_rfl)) (fun _ => A.pm [1, 2, 3, 4, 0, 5] (by kernel_rfl) (by kernel_rfl)) (fun w _ => by kernel_rfl) (by kernel_rfl) (fun _ hd15 => ?_)
  refine E.G.val (.agg #[.int .i64 1, .int .u32 0]) (by kernel_rfl) (fun w h => E.run_build #[.int .i64 1, .int .u32 0] (by kernel_rfl) w) ?_
  refine E.G.val (.bool true) (by kernel_rfl) (fun w h => E.run_as (a := .bool ((Q.sn4.2.1 == 1) && (Q.sn4.2.2.1 == 0))) (E.api_Trap_eql (by kernel_rfl) (by kernel_rfl)) (congrArg Value.bool (by kernel_rfl))) ?_
  refine E.G.op (.bool true) (fun w => by kernel_rfl) (by kernel_rfl) ?_
  refine E.G.op (.bool true) (fun w => by kernel_rfl) (by kernel_rfl) ?_
  refine E.To.code ?_
  refine E.C.weak [(0, .bool true)] [] ⟨by kernel_rfl, by kernel_rfl⟩ (List.nil_sublist _) ?_
  refine E.C.ret (E.To.body (fn := Try.f10) [.bool true] ?_ ?_)
  · exact ⟨⟨by kernel_rfl, by kernel_rfl⟩, trivial⟩
  · intro w h
    exact ⟨rfl, h.ch.bel (fun x hx => (hh.1 x hx).elim)⟩
end Go.Proofs.Ytgbndbljohpnmaa

/- XQq -/
namespace Go.Proofs.Ytgbndbljohpnmaa
set_option linter.unusedVariables false
set_option linter.unusedSimpArgs false
open Go.RowKit
theorem CNew6 (n : Int) : A.Tr Try.prog 13 #[.int .i64 n] [] (I := Nat × Nat) (fun _ => True) (fun i => .pointer (some ⟨i.1, 0, none⟩)) (fun i => [A.blk i.1 (Q.S.cells Q.z0 ++ [.pointer (some ⟨i.2, 0, none⟩)]), R.It i.2 (M.V.new (M.np n) false)]) := by
  intro w oo aa hh
  refine E.enter (n := 7) (S := oo) Try.func13 rfl rfl (by kernel_rfl) (A.start (L := []) hh) ?_
  refine E.C.seq ?_
  refine E.C.region ?_
  refine E.G.op (.pointer none) (fun w => by kernel_rfl) (by kernel_rfl) ?_
  refine E.To.code ?_
  refine E.C.seq ?_
  refine E.C.region ?_
  refine E.G.op (.int .i64 n) (fun w => by kernel_rfl) (by kernel_rfl) ?_
  refine A.G.call (I := Nat) (D := fun r1 => True) (V := fun r1 => .pointer (some ⟨r1, 0, none⟩)) (q := fun r1 => [R.It r1 (M.V.new (M.np n) false)]) [] (fun r1 => []) (fun r1 => [R.It r1 (M.V.new (M.np n) false)]) (R_New n false) (by kernel_rfl) (A.pm [] (by kernel_rfl) (by kernel_rfl)) (fun r1 => A.pm [0] (by kernel_rfl) (by kernel_rfl)) (fun w _ => by kernel_rfl) (by kernel_rfl) (fun r1 hd2 => ?_)
  refine E.G.val (.agg #[.int .u32 0, .int .u32 0, .int .u32 0, .int .u32 0, .int .u32 0, .int .u32 0, .int .u32 0, .int .u32 0, .int .u32 0, .int .u32 0, .int .u32 0, .int .u32 0, .int .u32 0, .int .u32 0, .int .u32 0, .int .u32 0, .int .u32 0, .int .u32 0, .int .u32 0, .int .u32 0, .int .u32 0, .int .u32 0, .int .i64 0, .int .i64 0, .pointer (some ⟨r1, 0, none⟩)]) (by kernel_rfl) (fun w h => E.run_build #[.int .u32 0, .int .u32 0, .int .u32 0, .int .u32 0, .int .u32 0, .int .u32 0, .int .u32 0, .int .u32 0, .int .u32 0, .int .u32 0, .int .u32 0, .int .u32 0, .int .u32 0, .int .u32 0, .int .u32 0, .int .u32 0, .int .u32 0, .int .u32 0, .int .u32 0, .int .u32 0, .int .u32 0, .int .u32 0, .int .i64 0, .int .i64 0, .pointer (some ⟨r1, 0, none⟩)] (by kernel_rfl) w) ?_
  refine E.G.new (fun g => .pointer (some ⟨g, 0, none⟩)) (Q.S.cells Q.z0 ++ [.pointer (some ⟨r1, 0, none⟩)]) 36 (fun w => by kernel_rfl) (by kernel_rfl) (fun g3 => ?_)
  refine E.G.op (.pointer (some ⟨g3, 0, none⟩)) (fun w => by kernel_rfl) (by kernel_rfl) ?_
  refine E.To.code ?_
  refine E.C.ret (E.To.body (fn := Try.f13) [.pointer (some ⟨g3, 0, none⟩)] ?_ ?_)
  · exact ⟨⟨by kernel_rfl, by kernel_rfl⟩, trivial⟩
  · intro w h
    exact ⟨(g3, r1), trivial, rfl, A.done (q := [A.blk g3 (Q.S.cells Q.z0 ++ [.pointer (some ⟨r1, 0, none⟩)]), R.It r1 (M.V.new (M.np n) false)]) (r := []) h (by kernel_rfl) (A.pm [0, 1] (by kernel_rfl) (by kernel_rfl))⟩
theorem CSet6 {r : Nat} {p : Value} {s0 : Q.S} (s : Q.S) : A.Tr Try.prog 14 #[.pointer (some ⟨r, 0, none⟩), Q.S.val s] [A.blk r (Q.S.cells s0 ++ [p])] (I := Unit) (fun _ => True) (fun _ => .tuple #[]) (fun _ => [A.blk r (Q.S.cells (Q.norm s) ++ [p])]) := by
  intro w oo aa hh
  refine E.enter (n := 19) (S := oo) Try.func14 rfl rfl (by kernel_rfl) (A.start (L := [(r, (Q.S.cells s0 ++ [p]))]) hh) ?_
  refine E.C.seq ?_
  refine E.C.region ?_
  refine E.G.new (fun g => .pointer (some ⟨g, 0, none⟩)) (Q.S.cells s) 27 (fun w => by kernel_rfl) (by kernel_rfl) (fun g1 => ?_)
  refine E.To.code ?_
  refine E.C.seq ?_
  refine E.C.region ?_
  refine E.G.op (.pointer (some ⟨g1, 1, none⟩)) (fun w => by kernel_rfl) (by kernel_rfl) ?_
  refine E.G.op (.pointer (some ⟨g1, 1, none⟩)) (fun w => by kernel_rfl) (by kernel_rfl) ?_
  refine E.G.store 0 (Q.S.cells (⟨s.pc, (Q.up s.r 0 0), s.f, s.c, s.st, s.du⟩)) rfl rfl (by kernel_rfl) (by kernel_rfl) ?_
  refine E.To.code ?_
  refine E.C.seq ?_
  refine E.C.region ?_
  refine E.G.op (.pointer (some ⟨g1, 17, none⟩)) (fun w => by kernel_rfl) (by kernel_rfl) ?_
  refine E.G.store 0 (Q.S.cells (⟨s.pc, (Q.up s.r 0 0), 0, s.c, s.st, s.du⟩)) rfl rfl (by kernel_rfl) (by kernel_rfl) ?_
  refine E.To.code ?_
  refine E.C.seq ?_
  refine E.C.region ?_
  refine E.G.op (.pointer (some ⟨g1, 22, none⟩)) (fun w => by kernel_rfl) (by kernel_rfl) ?_
  refine E.G.val (.int .i64 s.st) (by kernel_rfl) (fun w h => E.run_load h 0 rfl rfl (by kernel_rfl)) ?_
  refine E.G.op (.int .i64 (if 0 > s.st then 0 else s.st)) (fun w => by kernel_rfl) (by kernel_rfl) ?_
  refine E.G.op (.pointer (some ⟨g1, 22, none⟩)) (fun w => by kernel_rfl) (by kernel_rfl) ?_
  refine E.G.store 0 (Q.S.cells (⟨s.pc, (Q.up s.r 0 0), 0, s.c, (if 0 > s.st then 0 else s.st), s.du⟩)) rfl rfl (by kernel_rfl) (by kernel_rfl) ?_
  refine E.To.code ?_
  refine E.C.weak [(0, .pointer (some ⟨r, 0, none⟩)), (3, .pointer (some ⟨g1, 0, none⟩))] [(g1, (Q.S.cells (⟨s.pc, (Q.up s.r 0 0), 0, s.c, (if 0 > s.st then 0 else s.st), s.du⟩))), (r, (Q.S.cells s0 ++ [p]))] ⟨by kernel_rfl, by kernel_rfl⟩ (List.Sublist.refl _) ?_
  refine E.C.seq ?_
  refine E.C.region ?_
  refine E.G.op (.pointer (some ⟨g1, 23, none⟩)) (fun w => by kernel_rfl) (by kernel_rfl) ?_
  refine E.G.val (.int .i64 s.du) (by kernel_rfl) (fun w h => E.run_load h 0 rfl rfl (by kernel_rfl)) ?_
  refine E.G.op (.int .i64 (if 0 > s.du then 0 else s.du)) (fun w => by kernel_rfl) (by kernel_rfl) ?_
  refine E.G.op (.pointer (some ⟨g1, 23, none⟩)) (fun w => by kernel_rfl) (by kernel_rfl) ?_
  refine E.G.store 0 (Q.S.cells (⟨s.pc, (Q.up s.r 0 0), 0, s.c, (if 0 > s.st then 0 else s.st), (if 0 > s.du then 0 else s.du)⟩)) rfl rfl (by kernel_rfl) (by kernel_rfl) ?_
  refine E.To.code ?_
  refine E.C.region ?_
  refine E.G.op (.pointer (some ⟨r, 0, none⟩)) (fun w => by kernel_rfl) (by kernel_rfl) ?_
  refine E.G.val (Q.S.val (⟨s.pc, (Q.up s.r 0 0), 0, s.c, (if 0 > s.st then 0 else s.st), (if 0 > s.du then 0 else s.du)⟩)) (by kernel_rfl) (fun w h => E.run_load h 0 rfl rfl (by kernel_rfl)) ?_
  refine E.G.op (.pointer (some ⟨r, 0, none⟩)) (fun w => by kernel_rfl) (by kernel_rfl) ?_
  refine E.G.op (.pointer (some ⟨r, 0, none⟩)) (fun w => by kernel_rfl) (by kernel_rfl) ?_
  refine E.G.store 1 (Q.S.cells (⟨s.pc, (Q.up s.r 0 0), 0, s.c, (if 0 > s.st then 0 else s.st), (if 0 > s.du then 0 else s.du)⟩) ++ [p]) rfl rfl (by kernel_rfl) (by kernel_rfl) ?_
  refine E.To.bodyN (fn := Try.f14) [] ?_ ?_
  · exact trivial
  · intro w h
    refine ⟨(), trivial, rfl, ?_⟩
    exact A.done (q := [A.blk r (Q.S.cells (⟨s.pc, (Q.up s.r 0 0), 0, s.c, (if 0 > s.st then 0 else s.st), (if 0 > s.du then 0 else s.du)⟩) ++ [p])]) (r := [A.blk g1 (Q.S.cells (⟨s.pc, (Q.up s.r 0 0), 0, s.c, (if 0 > s.st then 0 else s.st), (if 0 > s.du then 0 else s.du)⟩))]) h (by kernel_rfl) (A.pm [1, 0] (by kernel_rfl) (by kernel_rfl))
end Go.Proofs.Ytgbndbljohpnmaa
