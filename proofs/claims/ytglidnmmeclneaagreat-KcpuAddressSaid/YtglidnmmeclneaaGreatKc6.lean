/- Texts of the walk, merged (6): see the remark ahead of each. -/
import Derived.Test.YtglidnmmeclneaaGreatKc5
import Derived.Test.YtglidnmmeclneaaGreatProg
namespace Go.Proofs.YtglidnmmeclneaaGreat
set_option linter.unusedVariables false
set_option linter.unusedSimpArgs false
open Go.RowKit
theorem E.api_State_same {fr : E.Fr} {x y : Operand} {u T : TypeId} {d : Option Nat} {pos : String} {af : Array Edge} {gd : Option (Nat × Bool)} {s t : Q.S} {w : World} (e : s = t)
    (hx : E.ev fr x = s.val) (hy : E.ev fr y = t.val) :
    (execOp (E.ev fr) ⟨d, .binOp .eql 26 x y u, T, pos, af, gd⟩).run Tryz.prog w = .ok (.value (.bool true)) w := by
  subst e; exact E.api_State_self s hx hy
theorem Q.z0_wf : Q.wf Q.z0 := ⟨by decide, fun _ => by show (0 : Int) ≤ 0 ∧ (0 : Int) < 4294967296; decide, fun _ => by show (0 : Int) ≤ 0 ∧ (0 : Int) < 4294967296; decide⟩
theorem K.norm_wf {s : Q.S} (h : Q.wf s) : Q.wf (K.norm s) := ⟨h.pc, (Q.up_bd (Q.up_bd (Q.up_bd (Q.up_bd (Q.up_bd (Q.up_bd (Q.up_bd (Q.up_bd h.r (by decide)) (by decide)) (by decide)) (by decide)) (by decide)) (by decide)) (by decide)) (by decide)), h.c⟩
theorem K.run_wf {most : Int} : ∀ (f n : Nat) {s : Q.S} {V : M.V}, Q.wf s → R.Wf V → Q.wf (K.run most f n s V).1 ∧ R.Wf (K.run most f n s V).2.2.2
  | 0, _, _, _, hs, hV => ⟨hs, hV⟩
  | f + 1, n, s, V, hs, hV => by
    have h1 := K.step_wf hs hV
    rw [K.run]
    refine Q.bifP (p := fun x : Q.S × Int × Int × M.V => Q.wf x.1 ∧ R.Wf x.2.2.2) (fun _ => ⟨hs, hV⟩) fun _ => Q.bifP (p := fun x : Q.S × Int × Int × M.V => Q.wf x.1 ∧ R.Wf x.2.2.2) (fun _ => ⟨hs, hV⟩) fun _ => Q.bifP (p := fun x : Q.S × Int × Int × M.V => Q.wf x.1 ∧ R.Wf x.2.2.2) (fun _ => ⟨hs, h1.2⟩) fun _ => K.run_wf f (n + 1) h1.1 h1.2
theorem K.runs_wf {most : Int} {s : Q.S} {V : M.V} (hs : Q.wf s) (hV : R.Wf V) : Q.wf (K.runs most s V).1 ∧ R.Wf (K.runs most s V).2.2.2 := K.run_wf _ _ hs hV
def K.snA : M.V := (((M.V.new (M.np 1) true).prot 0 7).poke (0 : Int).toNat ⟨#[65, 1, 5, 0, 0, 0, 2]⟩ 7)
def K.snB : M.V := (((M.V.new (M.np 1) true).prot 0 7).poke (0 : Int).toNat ⟨#[16, 1]⟩ 2)
theorem K.lst_bd : ∀ (l : List Int), (∀ x, x ∈ l → 0 ≤ x ∧ x < 4294967296) → ∀ k, 0 ≤ l.getD k 0 ∧ l.getD k 0 < 4294967296
  | [], _, k => by show (0 : Int) ≤ 0 ∧ (0 : Int) < 4294967296; decide
  | x :: l, h, 0 => h x (List.mem_cons_self ..)
  | x :: l, h, k + 1 => K.lst_bd l (fun y hy => h y (List.mem_cons_of_mem _ hy)) k
theorem K.zero_bd (k : Nat) : 0 ≤ (fun _ => 0 : Nat → Int) k ∧ (fun _ => 0 : Nat → Int) k < 4294967296 := by show (0 : Int) ≤ 0 ∧ (0 : Int) < 4294967296; decide
def K.sn1 : Q.S × Int × Int × M.V := K.runs 10 Q.z0 K.snA
def K.snS : Q.S := K.norm ⟨0, (fun k => [0, 0, 0, 0, 0, 0, 0, 2, 0, 0, 0, 0, 0, 0, 0, 0].getD k 0), 0, (fun _ => 0), 0, 0⟩
theorem K.snS_wf : Q.wf K.snS := K.norm_wf ⟨by show (0 : Int) ≤ 0 ∧ (0 : Int) < 4294967296; decide, K.lst_bd _ (by decide), K.zero_bd⟩
def K.sn2 : Q.S × Int × Int × M.V := K.runs 1 K.snS K.snB
theorem K.sn2_st : K.sn2.1 = ⟨0, (fun k => [0, 0, 0, 0, 0, 0, 0, 2, 0, 0, 0, 0, 0, 0, 0, 0].getD k 0), 0, (fun _ => 0), 0, 0⟩ := by
  have e : K.sn2.1 = K.snS := by kernel_rfl
  rw [e]; unfold K.snS K.norm
  have hr : ∀ k, (Q.up (Q.up (Q.up (Q.up (Q.up (Q.up (Q.up (Q.up (fun k => [0, 0, 0, 0, 0, 0, 0, 2, 0, 0, 0, 0, 0, 0, 0, 0].getD k 0) 8 0) 9 0) 10 0) 11 0) 12 0) 13 0) 14 0) 15 0) k = ([0, 0, 0, 0, 0, 0, 0, 2, 0, 0, 0, 0, 0, 0, 0, 0] : List Int).getD k 0 := fun k => by
    rcases Nat.lt_or_ge k 16 with h | h
    · rcases (by omega : k = 0 ∨ k = 1 ∨ k = 2 ∨ k = 3 ∨ k = 4 ∨ k = 5 ∨ k = 6 ∨ k = 7 ∨ k = 8 ∨ k = 9 ∨ k = 10 ∨ k = 11 ∨ k = 12 ∨ k = 13 ∨ k = 14 ∨ k = 15) with rfl | rfl | rfl | rfl | rfl | rfl | rfl | rfl | rfl | rfl | rfl | rfl | rfl | rfl | rfl | rfl <;> rfl
    · unfold Q.up
      simp only [if_neg (by omega : ¬ k = 8), if_neg (by omega : ¬ k = 9), if_neg (by omega : ¬ k = 10), if_neg (by omega : ¬ k = 11), if_neg (by omega : ¬ k = 12), if_neg (by omega : ¬ k = 13), if_neg (by omega : ¬ k = 14), if_neg (by omega : ¬ k = 15)]
  rw [funext hr]; rfl
theorem KKind {c : Nat} (w : World) : Calls Tryz.prog 38 #[.pointer (some ⟨c, 0, none⟩)] w fun e w' => e = .returned (.int .i64 1) ∧ Bel w w' := by
  refine E.enter (n := 3) (S := fun _ => False) Tryz.func38 rfl rfl (by kernel_rfl) (E.Hp.start w) ?_
  refine E.sr ?_
  refine E.op (.int .i64 0) ?_
  refine E.tr ?_
  refine E.op (.int .i64 1) ?_
  refine E.To.code ?_
  refine E.C.ret (E.To.body (fn := Tryz.f38) [.int .i64 1] ?_ ?_)
  · exact ⟨⟨by kernel_rfl, by kernel_rfl⟩, trivial⟩
  · intro w h
    exact ⟨rfl, h.ch.bel (fun _ h => h.elim)⟩
theorem KSetCode {c : Nat} (n : Int) (t : ByteArray) (w : World) : Calls Tryz.prog 37 #[.pointer (some ⟨c, 0, none⟩), .int .i64 n, .string t] w fun e w' => e = .returned (.tuple #[]) ∧ Bel w w' := by
  refine E.enter (n := 6) (S := fun _ => False) Tryz.func37 rfl rfl (by kernel_rfl) (E.Hp.start w) ?_
  refine E.C.skip (E.To.bodyN (fn := Tryz.f37) [] ?_ ?_)
  · exact trivial
  · intro w h
    exact ⟨rfl, h.ch.bel (fun _ h => h.elim)⟩
theorem San5  : A.Rd Tryz.prog 15 #[] [] (.bool true) := by
 intro w oo aa hh
 refine E.enter (n := 64) (S := oo) Tryz.func15 rfl rfl (by kernel_rfl) (A.start (L := []) hh) (E.sr (E.op (.bool false) (E.tr (A.G.call (I := Nat × Nat) (D := fun i1 => True) (V := fun i1 => E.pt i1.1) (q := fun i1 => [A.blk i1.1 (E.pt i1.2 :: Q.S.cells Q.z0), M.It i1.2 (M.V.new (M.np 1) true) ([])]) [] (fun i1 => [(i1.1, (E.pt i1.2 :: Q.S.cells Q.z0))]) (fun i1 => [M.It i1.2 (M.V.new (M.np 1) true) ([])]) (CNew 1) (by kernel_rfl) (A.pn []) (fun i1 => A.pm [0, 1] (by kernel_rfl) (by kernel_rfl)) (fun w _ => by kernel_rfl) (by kernel_rfl) (fun i1 hd2 => E.op (E.pt i1.1) (E.tr (E.op (E.pt i1.1) (A.G.call (I := Unit) (D := fun _ => True) (V := fun _ => .tuple #[]) (q := fun _ => [A.blk i1.1 (E.pt i1.2 :: Q.S.cells Q.z0), M.It i1.2 ((M.V.new (M.np 1) true).prot 0 7) ([])]) [] (fun _ => [(i1.1, (E.pt i1.2 :: Q.S.cells Q.z0))]) (fun _ => [M.It i1.2 ((M.V.new (M.np 1) true).prot 0 7) ([])]) (KProtect 0 7 (c := i1.1) (m := i1.2) (s := Q.z0) (V := (M.V.new (M.np 1) true))) (by kernel_rfl) (A.pn [0, 1]) (fun _ => A.pm [0, 1] (by kernel_rfl) (by kernel_rfl)) (fun w _ => by kernel_rfl) (by kernel_rfl) (fun _ hd3 => E.tr (E.op (E.pt i1.1) (A.G.call (I := Unit) (D := fun _ => True) (V := fun _ => .tuple #[]) (q := fun _ => [A.blk i1.1 (E.pt i1.2 :: Q.S.cells Q.z0), M.It i1.2 K.snA ([])]) [] (fun _ => [(i1.1, (E.pt i1.2 :: Q.S.cells Q.z0))]) (fun _ => [M.It i1.2 K.snA ([])]) (KPoke 0 (by decide) (⟨#[65, 1, 5, 0, 0, 0, 2]⟩ : ByteArray) (by decide) (c := i1.1) (m := i1.2) (s := Q.z0) (V := ((M.V.new (M.np 1) true).prot 0 7))) (by kernel_rfl) (A.pn [0, 1]) (fun _ => A.pm [0, 1] (by kernel_rfl) (by kernel_rfl)) (fun w _ => by kernel_rfl) (by kernel_rfl) (fun _ hd4 => ?_))))))))))))
 refine E.tr (E.op (E.pt i1.1) (A.G.call (I := Unit) (D := fun _ => True) (V := fun _ => .agg #[E.i K.sn1.2.1, E.u K.sn1.2.2.1]) (q := fun _ => [A.blk i1.1 (E.pt i1.2 :: Q.S.cells K.sn1.1), M.It i1.2 K.sn1.2.2.2 ([])]) [] (fun _ => [(i1.1, (E.pt i1.2 :: Q.S.cells K.sn1.1))]) (fun _ => [M.It i1.2 K.sn1.2.2.2 ([])]) (CRun (c := i1.1) (m := i1.2) 10 Q.z0 K.snA (by decide) Q.z0_wf (R.Wf.poke (R.Wf.prot (R.Wf.new (M.np_le _) _) _ _) _ _ _)) (by kernel_rfl) (A.pn [0, 1]) (fun _ => A.pm [0, 1] (by kernel_rfl) (by kernel_rfl)) (fun w _ => by kernel_rfl) (by kernel_rfl) (fun _ hd5 => E.nw [E.i 0, E.u 0] 47 (fun g6 => E.st 0 [E.i K.sn1.2.1, E.u K.sn1.2.2.1] rfl rfl (E.tr (E.op (E.pt i1.1) (E.ca (Q.S.val K.sn1.1) (fun w h => A.cq [1] [0, 2] (CState (c := i1.1) (m := i1.2) K.sn1.1) h) (E.nw (Q.S.cells Q.z0) 26 (fun g7 => E.st 0 (Q.S.cells K.sn1.1) rfl rfl (E.To.code (E.wk [(0, .bool false), (2, E.pt g6), (3, E.pt g7)] [(g7, (Q.S.cells K.sn1.1)), (g6, [E.i K.sn1.2.1, E.u K.sn1.2.2.1])] Nz.sub ?_)))))))))))
 refine E.sr (E.li (.agg #[E.i K.sn1.2.1, E.u K.sn1.2.2.1]) 1 rfl rfl (E.vl (.agg #[E.i 2, E.u 0]) (fun w h => E.run_build #[E.i 2, E.u 0] (by kernel_rfl) w) (E.vl (.bool true) (fun w h => E.run_as (a := .bool ((K.sn1.2.1 == 2) && (K.sn1.2.2.1 == 0))) (E.api_Trap_eql (by kernel_rfl) (by kernel_rfl)) (congrArg Value.bool (by kernel_rfl))) (E.op (.bool true) (E.op (.pointer (some ⟨g7, 1, none⟩)) (E.op (.pointer (some ⟨g7, 2, none⟩)) (E.li (E.u (K.sn1.1.r 1)) 0 rfl rfl (E.vl (.bool true) (fun w h => E.run_as (a := .bool ((K.sn1.1.r 1) == 5)) (by kernel_rfl) (congrArg Value.bool (by kernel_rfl))) (E.op (.bool true) (E.op (.bool true) (E.op (.pointer (some ⟨g7, 17, none⟩)) ?_)))))))))))
 refine E.li (E.u K.sn1.1.f) 0 rfl rfl (E.vl (.bool true) (fun w h => E.run_as (a := .bool (K.sn1.1.f == 0)) (by kernel_rfl) (congrArg Value.bool (by kernel_rfl))) (E.op (.bool true) (E.op (.bool true) (E.op (E.pt g7) (E.li (E.u K.sn1.1.pc) 0 rfl rfl (E.vl (.bool true) (fun w h => E.run_as (a := .bool (K.sn1.1.pc == 6)) (by kernel_rfl) (congrArg Value.bool (by kernel_rfl))) (E.op (.bool true) (E.op (.bool true) (E.op (.pointer (some ⟨g7, 22, none⟩)) (E.li (E.i K.sn1.1.st) 0 rfl rfl (E.vl (.bool true) (fun w h => E.run_as (a := .bool (K.sn1.1.st == 1)) (by kernel_rfl) (congrArg Value.bool (by kernel_rfl))) ?_)))))))))))
 refine E.op (.bool true) (E.op (.bool true) (E.To.code (E.wk [(0, .bool false), (4, .bool true)] [] Nz.sub (E.sr (A.G.call (I := Nat × Nat) (D := fun i8 => True) (V := fun i8 => E.pt i8.1) (q := fun i8 => [A.blk i8.1 (E.pt i8.2 :: Q.S.cells Q.z0), M.It i8.2 (M.V.new (M.np 1) true) ([])]) [M.It i1.2 K.sn1.2.2.2 ([])] (fun i8 => [(i8.1, (E.pt i8.2 :: Q.S.cells Q.z0))]) (fun i8 => [M.It i8.2 (M.V.new (M.np 1) true) ([]), M.It i1.2 K.sn1.2.2.2 ([])]) (CNew 1) (by kernel_rfl) (A.pn [0]) (fun i8 => A.pm [0, 1, 2] (by kernel_rfl) (by kernel_rfl)) (fun w _ => by kernel_rfl) (by kernel_rfl) (fun i8 hd9 => E.op (E.pt i8.1) (E.tr (E.op (E.pt i8.1) (A.G.call (I := Unit) (D := fun _ => True) (V := fun _ => .tuple #[]) (q := fun _ => [A.blk i8.1 (E.pt i8.2 :: Q.S.cells Q.z0), M.It i8.2 ((M.V.new (M.np 1) true).prot 0 7) ([])]) [M.It i1.2 K.sn1.2.2.2 ([])] (fun _ => [(i8.1, (E.pt i8.2 :: Q.S.cells Q.z0))]) (fun _ => [M.It i8.2 ((M.V.new (M.np 1) true).prot 0 7) ([]), M.It i1.2 K.sn1.2.2.2 ([])]) (KProtect 0 7 (c := i8.1) (m := i8.2) (s := Q.z0) (V := (M.V.new (M.np 1) true))) (by kernel_rfl) (A.pn [0, 1, 2]) (fun _ => A.pm [0, 1, 2] (by kernel_rfl) (by kernel_rfl)) (fun w _ => by kernel_rfl) (by kernel_rfl) (fun _ hd10 => E.tr (E.op (E.pt i8.1) ?_)))))))))))
 refine A.G.call (I := Unit) (D := fun _ => True) (V := fun _ => .tuple #[]) (q := fun _ => [A.blk i8.1 (E.pt i8.2 :: Q.S.cells Q.z0), M.It i8.2 K.snB ([])]) [M.It i1.2 K.sn1.2.2.2 ([])] (fun _ => [(i8.1, (E.pt i8.2 :: Q.S.cells Q.z0))]) (fun _ => [M.It i8.2 K.snB ([]), M.It i1.2 K.sn1.2.2.2 ([])]) (KPoke 0 (by decide) (⟨#[16, 1]⟩ : ByteArray) (by decide) (c := i8.1) (m := i8.2) (s := Q.z0) (V := ((M.V.new (M.np 1) true).prot 0 7))) (by kernel_rfl) (A.pn [0, 1, 2]) (fun _ => A.pm [0, 1, 2] (by kernel_rfl) (by kernel_rfl)) (fun w _ => by kernel_rfl) (by kernel_rfl) (fun _ hd11 => E.tr (E.op (E.pt i8.1) (E.vl (.agg #[E.u 0, E.u 0, E.u 0, E.u 0, E.u 0, E.u 0, E.u 0, E.u 2, E.u 0, E.u 0, E.u 0, E.u 0, E.u 0, E.u 0, E.u 0, E.u 0]) (fun w h => E.run_build #[E.u 0, E.u 0, E.u 0, E.u 0, E.u 0, E.u 0, E.u 0, E.u 2, E.u 0, E.u 0, E.u 0, E.u 0, E.u 0, E.u 0, E.u 0, E.u 0] (by kernel_rfl) w) (E.vl (Q.S.val (⟨0, (fun k => [0, 0, 0, 0, 0, 0, 0, 2, 0, 0, 0, 0, 0, 0, 0, 0].getD k 0), 0, (fun _ => 0), 0, 0⟩)) (fun w h => E.run_build (Q.S.cells ⟨0, (fun k => [0, 0, 0, 0, 0, 0, 0, 2, 0, 0, 0, 0, 0, 0, 0, 0].getD k 0), 0, (fun _ => 0), 0, 0⟩).toArray (by kernel_rfl) w) (A.G.call (I := Unit) (D := fun _ => True) (V := fun _ => .tuple #[]) (q := fun _ => [A.blk i8.1 (E.pt i8.2 :: Q.S.cells K.snS)]) [M.It i8.2 K.snB ([]), M.It i1.2 K.sn1.2.2.2 ([])] (fun _ => [(i8.1, (E.pt i8.2 :: Q.S.cells K.snS))]) (fun _ => [M.It i8.2 K.snB ([]), M.It i1.2 K.sn1.2.2.2 ([])]) (CSet (c := i8.1) (m := i8.2) (s0 := Q.z0) (⟨0, (fun k => [0, 0, 0, 0, 0, 0, 0, 2, 0, 0, 0, 0, 0, 0, 0, 0].getD k 0), 0, (fun _ => 0), 0, 0⟩ : Q.S)) (by kernel_rfl) (A.pn [0, 1, 2]) (fun _ => A.pm [0, 1, 2] (by kernel_rfl) (by kernel_rfl)) (fun w _ => by kernel_rfl) (by kernel_rfl) (fun _ hd12 => E.To.code (E.wk [(0, .bool false), (4, .bool true), (5, E.pt i8.1)] [(i8.1, (E.pt i8.2 :: Q.S.cells K.snS))] Nz.sub (E.sr (E.op (E.pt i8.1) (A.G.call (I := Unit) (D := fun _ => True) (V := fun _ => .agg #[E.i K.sn2.2.1, E.u K.sn2.2.2.1]) (q := fun _ => [A.blk i8.1 (E.pt i8.2 :: Q.S.cells K.sn2.1), M.It i8.2 K.sn2.2.2.2 ([])]) [M.It i1.2 K.sn1.2.2.2 ([])] (fun _ => [(i8.1, (E.pt i8.2 :: Q.S.cells K.sn2.1))]) (fun _ => [M.It i8.2 K.sn2.2.2.2 ([]), M.It i1.2 K.sn1.2.2.2 ([])]) (CRun (c := i8.1) (m := i8.2) 1 K.snS K.snB (by decide) K.snS_wf (R.Wf.poke (R.Wf.prot (R.Wf.new (M.np_le _) _) _ _) _ _ _)) (by kernel_rfl) (A.pn [0, 1, 2]) (fun _ => A.pm [0, 1, 2] (by kernel_rfl) (by kernel_rfl)) (fun w _ => by kernel_rfl) (by kernel_rfl) (fun _ hd13 => E.nw [E.i 0, E.u 0] 47 (fun g14 => ?_))))))))))))
 refine E.st 0 [E.i K.sn2.2.1, E.u K.sn2.2.2.1] rfl rfl (E.tr (E.op (.bool true) (E.op (.bool true) (E.li (.agg #[E.i K.sn2.2.1, E.u K.sn2.2.2.1]) 0 rfl rfl (E.vl (.agg #[E.i 5, E.u 4294967294]) (fun w h => E.run_build #[E.i 5, E.u 4294967294] (by kernel_rfl) w) (E.vl (.bool true) (fun w h => E.run_as (a := .bool ((K.sn2.2.1 == 5) && (K.sn2.2.2.1 == 4294967294))) (E.api_Trap_eql (by kernel_rfl) (by kernel_rfl)) (congrArg Value.bool (by kernel_rfl))) (E.op (.bool true) (E.op (.bool true) (E.op (E.pt i8.1) (E.ca (Q.S.val K.sn2.1) (fun w h => A.cq [1] [0, 2, 3] (CState (c := i8.1) (m := i8.2) K.sn2.1) h) (E.vl (.agg #[E.u 0, E.u 0, E.u 0, E.u 0, E.u 0, E.u 0, E.u 0, E.u 2, E.u 0, E.u 0, E.u 0, E.u 0, E.u 0, E.u 0, E.u 0, E.u 0]) (fun w h => E.run_build #[E.u 0, E.u 0, E.u 0, E.u 0, E.u 0, E.u 0, E.u 0, E.u 2, E.u 0, E.u 0, E.u 0, E.u 0, E.u 0, E.u 0, E.u 0, E.u 0] (by kernel_rfl) w) ?_)))))))))))
 exact E.vl (Q.S.val (⟨0, (fun k => [0, 0, 0, 0, 0, 0, 0, 2, 0, 0, 0, 0, 0, 0, 0, 0].getD k 0), 0, (fun _ => 0), 0, 0⟩)) (fun w h => E.run_build (Q.S.cells ⟨0, (fun k => [0, 0, 0, 0, 0, 0, 0, 2, 0, 0, 0, 0, 0, 0, 0, 0].getD k 0), 0, (fun _ => 0), 0, 0⟩).toArray (by kernel_rfl) w) (E.vl (.bool true) (fun w h => E.api_State_same K.sn2_st (by kernel_rfl) (by kernel_rfl)) (E.op (.bool true) (E.op (.bool true) (E.To.code (E.wk [(0, .bool true)] [] Nz.sub (E.C.ret (E.bd Tryz.f15 [.bool true] (fun w h => ⟨rfl, h.ch.bel (fun x hx => (hh.1 x hx).elim)⟩))))))))
end Go.Proofs.YtglidnmmeclneaaGreat
namespace Go.Proofs.YtglidnmmeclneaaGreat
set_option linter.unusedVariables false
set_option linter.unusedSimpArgs false
open Go.Joins Go.ChangeShapes Go.WideShapes Go.ChangeAt Go.RowKit Go.Deep
section
variable {H : Type} {enc : TypeId × Value → H} {P : Program} {w : World} {base : Nat} {spare : Nat → Bool} {held : Bool} {fuel : Nat} {t e : TypeId} {k : IntKind} {n : Nat} {cs : List Value} {x : DataW H × List MemPlace}
theorem K.trod_row (ht : P.underlying t = some (.array n e)) (he : P.underlying e = some (.int k)) (hc : P.cellsOf e = 1) (hct : P.cellsOf t = n) (h : DataW.trod enc P w base spare held fuel t cs = some x) : ∃ l : List Int, l.length = n ∧ cs = l.map (.int k) ∧ ∀ x ∈ l, (Lit.int k x).wf = true := by
  obtain ⟨xs, m, _, _, hl, hx, hel⟩ := DataW.trod_array ht h
  rw [hct] at hl
  have key : ∀ i, i < n → ∃ a, cs[i]? = some (.int k a) ∧ (Lit.int k a).wf = true := by
    intro i hi
    have h0 := hel i hi
    rw [hc, Nat.mul_one, List.getElem?_eq_getElem (by omega)] at h0
    obtain ⟨a, ea, _, wa⟩ := DataW.trod_int he h0
    refine ⟨a, ?_, wa⟩
    have hsz : i < cs.length := by omega
    have h2 : (cs.drop i).take 1 = [cs[i]] := by
      rw [List.drop_eq_getElem_cons hsz, List.take_succ_cons, List.take_zero]
    rw [h2] at ea
    rw [List.getElem?_eq_getElem hsz]
    exact congrArg some (List.cons.inj ea).1
  have key2 : ∃ f : Nat → Int, ∀ i, i < n → cs[i]? = some (.int k (f i)) ∧ (Lit.int k (f i)).wf = true := by
    refine ⟨fun i => if h : i < n then (key i h).choose else 0, fun i h => ?_⟩
    have := (key i h).choose_spec
    simp only [h, dif_pos]
    exact this
  obtain ⟨f, hf⟩ := key2
  refine ⟨(List.range n).map f, by simp, ?_, fun x hx => ?_⟩
  · apply List.ext_getElem?
    intro i
    by_cases hi : i < n
    · rw [(hf i hi).1]; simp [List.getElem?_range, hi]
    · rw [List.getElem?_eq_none (by omega)]; simp [hi]
  · obtain ⟨i, hi, rfl⟩ := List.mem_map.1 hx
    exact (hf i (List.mem_range.1 hi)).2
theorem K.cut_at {α : Type} (l : List α) (a k : Nat) : l.drop a = (l.drop a).take k ++ l.drop (a + k) := by rw [← List.drop_drop, List.take_append_drop]
end
theorem K.bu32 {n : Int} (h : (Lit.int .u32 n).wf = true) : 0 ≤ n ∧ n < 4294967296 := by have := bounds_u32 h; omega
theorem K.bi64 {n : Int} (h : (Lit.int .i64 n).wf = true) : -9223372036854775808 ≤ n ∧ n < 9223372036854775808 := by have := bounds_i64 h; omega
theorem K.bu8 {n : Int} (h : (Lit.int .u8 n).wf = true) : 0 ≤ n ∧ n < 256 := by have := bounds_u8 h; omega
/-- A state's facts. -/
structure K.sok (s : Q.S) : Prop where
  wf : Q.wf s
  f : 0 ≤ s.f ∧ s.f < 4294967296
  st : -9223372036854775808 ≤ s.st ∧ s.st < 9223372036854775808
  du : -9223372036854775808 ≤ s.du ∧ s.du < 9223372036854775808
section
variable {H : Type} {enc : TypeId × Value → H} {w : World} {base : Nat} {spare : Nat → Bool} {held : Bool} {fuel : Nat} {x : DataW H × List MemPlace}
theorem K.trod_state {cs : List Value} (h : DataW.trod enc Tryz.prog w base spare held fuel 26 cs = some x) : ∃ s : Q.S, cs = Q.S.cells s ∧ K.sok s := by
  obtain ⟨xs, n, _, _, hl, hx, hg⟩ := DataW.trod_struct Tryz.underlying26 h
  have hl : cs.length = 24 := hl.trans (by kernel_rfl)
  have c1 : Tryz.prog.cellsOf 22 = 1 := by kernel_rfl
  have c2 : Tryz.prog.cellsOf 3 = 1 := by kernel_rfl
  have c3 : Tryz.prog.cellsOf 23 = 16 := by kernel_rfl
  have c4 : Tryz.prog.cellsOf 24 = 4 := by kernel_rfl
  have hx : xs.length = 6 := hx
  have gx : ∀ i, i < 6 → ∃ y, xs[i]? = some y := fun i hi => ⟨_, List.getElem?_eq_getElem (by omega)⟩
  obtain ⟨y0, e0⟩ := gx 0 (by decide)
  obtain ⟨y1, e1⟩ := gx 1 (by decide)
  obtain ⟨y2, e2⟩ := gx 2 (by decide)
  obtain ⟨y3, e3⟩ := gx 3 (by decide)
  obtain ⟨y4, e4⟩ := gx 4 (by decide)
  obtain ⟨y5, e5⟩ := gx 5 (by decide)
  have g0 : DataW.trod enc Tryz.prog w base spare held n 22 ((cs.drop 0).take (Tryz.prog.cellsOf 22)) = some y0 := (hg 0 _ rfl).trans e0
  have g1 : DataW.trod enc Tryz.prog w base spare held n 23 ((cs.drop 1).take (Tryz.prog.cellsOf 23)) = some y1 := (hg 1 _ rfl).trans e1
  have g2 : DataW.trod enc Tryz.prog w base spare held n 22 ((cs.drop 17).take (Tryz.prog.cellsOf 22)) = some y2 := (hg 2 _ rfl).trans e2
  have g3 : DataW.trod enc Tryz.prog w base spare held n 24 ((cs.drop 18).take (Tryz.prog.cellsOf 24)) = some y3 := (hg 3 _ rfl).trans e3
  have g4 : DataW.trod enc Tryz.prog w base spare held n 3 ((cs.drop 22).take (Tryz.prog.cellsOf 3)) = some y4 := (hg 4 _ rfl).trans e4
  have g5 : DataW.trod enc Tryz.prog w base spare held n 3 ((cs.drop 23).take (Tryz.prog.cellsOf 3)) = some y5 := (hg 5 _ rfl).trans e5
  rw [c1] at g0 g2
  rw [c2] at g4 g5
  rw [c3] at g1
  rw [c4] at g3
  obtain ⟨p, p1, -, p2⟩ := DataW.trod_int Tryz.underlying22 g0
  obtain ⟨r, r0, r1, r2⟩ := K.trod_row Tryz.underlying23 Tryz.underlying22 c1 c3 g1
  obtain ⟨f, f1, -, f2⟩ := DataW.trod_int Tryz.underlying22 g2
  obtain ⟨c, c0, c1', c2'⟩ := K.trod_row Tryz.underlying24 Tryz.underlying22 c1 c4 g3
  obtain ⟨st, st1, -, st2⟩ := DataW.trod_int Tryz.underlying3 g4
  obtain ⟨du, du1, -, du2⟩ := DataW.trod_int Tryz.underlying3 g5
  have e : cs = [Value.int .u32 p] ++ (r.map (Value.int .u32) ++ ([Value.int .u32 f] ++ (c.map (Value.int .u32) ++ ([Value.int .i64 st] ++ ([Value.int .i64 du] ++ []))))) := by
    have h0 := K.cut_at cs 0 1
    have h1 := K.cut_at cs 1 16
    have h2 := K.cut_at cs 17 1
    have h3 := K.cut_at cs 18 4
    have h4 := K.cut_at cs 22 1
    have h5 := K.cut_at cs 23 1
    have h6 : cs.drop 24 = [] := List.drop_eq_nil_of_le (by omega)
    rw [p1] at h0; rw [r1] at h1; rw [f1] at h2; rw [c1'] at h3; rw [st1] at h4; rw [du1] at h5
    exact h0.trans (congrArg (_ ++ ·) (h1.trans (congrArg (_ ++ ·) (h2.trans (congrArg (_ ++ ·) (h3.trans (congrArg (_ ++ ·) (h4.trans (congrArg (_ ++ ·) (h5.trans (congrArg (_ ++ ·) h6)))))))))))
  match r, r0, c, c0 with
  | [a0, a1, a2, a3, a4, a5, a6, a7, a8, a9, a10, a11, a12, a13, a14, a15], _, [b0, b1, b2, b3], _ =>
    exact ⟨⟨p, fun k => [a0, a1, a2, a3, a4, a5, a6, a7, a8, a9, a10, a11, a12, a13, a14, a15].getD k 0, f, fun k => [b0, b1, b2, b3].getD k 0, st, du⟩, e, ⟨⟨K.bu32 p2, K.lst_bd _ fun x hx => K.bu32 (r2 x hx), K.lst_bd _ fun x hx => K.bu32 (c2' x hx)⟩, K.bu32 f2, K.bi64 st2, K.bi64 du2⟩⟩
set_option maxRecDepth 100000 in
theorem open_start {v : Value} {d : DataW H} {ps : List MemPlace} {r : Reach} {b0 : Nat} (hval : Value.okWide Tryz.prog w r b0 29 v) (hd : DataW.Trod enc Tryz.prog w base spare held 29 v d ps) :
    ∃ (s : Q.S) (x0 x1 x2 x3 z a : Int) (code : ByteArray), v = .agg (Q.S.cells s ++ [Value.int .u8 x0, Value.int .u8 x1, Value.int .u8 x2, Value.int .u8 x3, Value.int .u32 z, Value.int .u32 a, Value.string code]).toArray ∧ K.sok s ∧ (0 ≤ x0 ∧ x0 < 256) ∧ (0 ≤ x1 ∧ x1 < 256) ∧ (0 ≤ x2 ∧ x2 < 256) ∧ (0 ≤ x3 ∧ x3 < 256) ∧ (0 ≤ z ∧ z < 4294967296) ∧ (0 ≤ a ∧ a < 4294967296) ∧ code.size ≤ maxLen := by
  obtain ⟨cs, rfl, _⟩ := okWide_struct Tryz.underlying29 hval
  obtain ⟨fuel, hf⟩ := hd
  obtain ⟨xs, n, _, _, hl, hx, hg⟩ := DataW.trod_struct Tryz.underlying29 hf
  have hl : cs.toList.length = 31 := hl.trans (by kernel_rfl)
  have c1 : Tryz.prog.cellsOf 22 = 1 := by kernel_rfl
  have c2 : Tryz.prog.cellsOf 5 = 1 := by kernel_rfl
  have c3 : Tryz.prog.cellsOf 26 = 24 := by kernel_rfl
  have c4 : Tryz.prog.cellsOf 27 = 4 := by kernel_rfl
  have c5 : Tryz.prog.cellsOf 9 = 1 := by kernel_rfl
  have hx : xs.length = 5 := hx
  have gx : ∀ i, i < 5 → ∃ y, xs[i]? = some y := fun i hi => ⟨_, List.getElem?_eq_getElem (by omega)⟩
  obtain ⟨y0, e0⟩ := gx 0 (by decide)
  obtain ⟨y1, e1⟩ := gx 1 (by decide)
  obtain ⟨y2, e2⟩ := gx 2 (by decide)
  obtain ⟨y3, e3⟩ := gx 3 (by decide)
  obtain ⟨y4, e4⟩ := gx 4 (by decide)
  have g0 : DataW.trod enc Tryz.prog w base spare held n 26 ((cs.toList.drop 0).take (Tryz.prog.cellsOf 26)) = some y0 := (hg 0 _ rfl).trans e0
  have g1 : DataW.trod enc Tryz.prog w base spare held n 27 ((cs.toList.drop 24).take (Tryz.prog.cellsOf 27)) = some y1 := (hg 1 _ rfl).trans e1
  have g2 : DataW.trod enc Tryz.prog w base spare held n 22 ((cs.toList.drop 28).take (Tryz.prog.cellsOf 22)) = some y2 := (hg 2 _ rfl).trans e2
  have g3 : DataW.trod enc Tryz.prog w base spare held n 22 ((cs.toList.drop 29).take (Tryz.prog.cellsOf 22)) = some y3 := (hg 3 _ rfl).trans e3
  have g4 : DataW.trod enc Tryz.prog w base spare held n 9 ((cs.toList.drop 30).take (Tryz.prog.cellsOf 9)) = some y4 := (hg 4 _ rfl).trans e4
  rw [c3] at g0
  rw [c4] at g1
  rw [c1] at g2 g3
  rw [c5] at g4
  obtain ⟨s, s1, s2⟩ := K.trod_state g0
  obtain ⟨l, l0, l1, l2⟩ := K.trod_row Tryz.underlying27 Tryz.underlying5 c2 c4 g1
  obtain ⟨z, z1, -, z2⟩ := DataW.trod_int Tryz.underlying22 g2
  obtain ⟨a, a1, -, a2⟩ := DataW.trod_int Tryz.underlying22 g3
  obtain ⟨code, d1, -, d2⟩ := DataW.trod_string Tryz.underlying9 g4
  have e : cs.toList = Q.S.cells s ++ (l.map (Value.int .u8) ++ ([Value.int .u32 z] ++ ([Value.int .u32 a] ++ ([Value.string code] ++ [])))) := by
    have h0 := K.cut_at cs.toList 0 24
    have h1 := K.cut_at cs.toList 24 4
    have h2 := K.cut_at cs.toList 28 1
    have h3 := K.cut_at cs.toList 29 1
    have h4 := K.cut_at cs.toList 30 1
    have h5 : cs.toList.drop 31 = [] := List.drop_eq_nil_of_le (by omega)
    rw [s1] at h0; rw [l1] at h1; rw [z1] at h2; rw [a1] at h3; rw [d1] at h4
    exact h0.trans (congrArg (_ ++ ·) (h1.trans (congrArg (_ ++ ·) (h2.trans (congrArg (_ ++ ·) (h3.trans (congrArg (_ ++ ·) (h4.trans (congrArg (_ ++ ·) h5)))))))))
  match l, l0 with
  | [x0, x1, x2, x3], _ =>
    have l2 : ∀ x, x ∈ [x0, x1, x2, x3] → 0 ≤ x ∧ x < 256 := fun x hx => K.bu8 (l2 x hx)
    exact ⟨s, x0, x1, x2, x3, z, a, code, congrArg Value.agg (Array.toList_inj.1 e), s2, l2 _ (by simp), l2 _ (by simp), l2 _ (by simp), l2 _ (by simp), K.bu32 z2, K.bu32 a2, d2⟩
set_option maxRecDepth 100000 in
theorem open_state {v : Value} {d : DataW H} {ps : List MemPlace} {r : Reach} {b0 : Nat} (hval : Value.okWide Tryz.prog w r b0 26 v) (hd : DataW.Trod enc Tryz.prog w base spare held 26 v d ps) : ∃ s : Q.S, v = Q.S.val s ∧ K.sok s := by
  obtain ⟨cs, rfl, _⟩ := okWide_struct Tryz.underlying26 hval
  obtain ⟨fuel, hf⟩ := hd
  obtain ⟨s, s1, s2⟩ := K.trod_state (cs := cs.toList) hf
  exact ⟨s, congrArg Value.agg (Array.toList_inj.1 s1), s2⟩
end
end Go.Proofs.YtglidnmmeclneaaGreat
namespace Go.Proofs.YtglidnmmeclneaaGreat
set_option linter.unusedVariables false
set_option linter.unusedSimpArgs false
open Go.RowKit
section rules
variable {P : Program} {fr : E.Fr} {its : List A.It}
variable {T : TypeId} {d : Option Nat} {pos : String} {af : Array Edge} {gd : Option (Nat × Bool)}
/-- A whole slice of bytes of known length, as a string. -/
theorem A.Y.strN {w : World} {x : Operand} {a b e : TypeId} {ao : Option Addr} {cap c2 : Nat} {l : List Int} {k n : Nat} (h : A.Y its w) (hk : its[k]? = some (A.vec .u8 ao cap l)) (hs : P.underlying a = some (.slice e)) (he : P.underlying e = some (.int .u8)) (hb : P.underlying b = some .string)
    (hx : E.ev fr x = .slice ao n c2) (hn : l.length = n) (hl : 0 < n) :
    (execOp (E.ev fr) ⟨d, .convert a b x, T, pos, af, gd⟩).run P w = .ok (.value (.string (strOfNums l))) w := by
  subst hn
  exact A.Y.strAll h hk hs he hb hx hl
end rules
def K.fs (z : Int) : Nat → Int
  | 0 => z
  | k + 1 => IntKind.wrap .u32 (IntKind.wrap .u32 (K.fs z k * 1664525) + 1013904223)
def K.fl (z : Int) : Nat → List Int
  | 0 => List.replicate 1024 0
  | k + 1 => (K.fl z k).set k (IntKind.wrap .u8 (Int.fdiv (K.fs z (k + 1)) (2 ^ 24)))
theorem K.fl_len (z : Int) : ∀ k, (K.fl z k).length = 1024
  | 0 => List.length_replicate
  | k + 1 => by rw [K.fl, List.length_set]; exact K.fl_len z k
/-- What Fill returns. -/
def K.fill (z : Int) : ByteArray := strOfNums (K.fl z 1024)
theorem K.fill_size (z : Int) : (K.fill z).size = 1024 := by unfold K.fill; rw [strOfNums_size, K.fl_len]
theorem K.fill_eq {z : Int} {k : Nat} (hk : k ≤ 1024) (h : decide (((k : Nat) : Int) < 1024) = false) : strOfNums (K.fl z k) = K.fill z := by
  have : k = 1024 := by have := of_decide_eq_false h; omega
  subst this; rfl
def K.cl (V : M.V) : Nat → List Int
  | 0 => List.replicate 1024 0
  | k + 1 => (K.cl V k).set k (V.peek k)
theorem K.cl_len (V : M.V) : ∀ k, (K.cl V k).length = 1024
  | 0 => List.length_replicate
  | k + 1 => by rw [K.cl, List.length_set]; exact K.cl_len V k
/-- What content returns. -/
def K.cs (V : M.V) : ByteArray := strOfNums (K.cl V 1024)
theorem K.cs_eq {V : M.V} {k : Nat} (hk : k ≤ 1024) (h : decide (((k : Nat) : Int) < 1024) = false) : strOfNums (K.cl V k) = K.cs V := by
  have : k = 1024 := by have := of_decide_eq_false h; omega
  subst this; rfl
theorem K.w32n {k : Nat} (h : k ≤ 1024) : IntKind.wrap .u32 ((k : Nat) : Int) = ((k : Nat) : Int) := by show ((k : Nat) : Int) % 4294967296 = _; omega
theorem K.kbd {k : Nat} (h : k ≤ 1024) : 0 ≤ ((k : Nat) : Int) ∧ ((k : Nat) : Int) < 4294967296 := by omega
theorem Fill5 (z : Int) : A.Tr Tryz.prog 44 #[.int .u32 z, .int .i64 1024] [] (I := Unit) (fun _ => True) (fun _ => .string (K.fill z)) (fun _ => []) := by
 intro w oo aa hh
 refine E.enter (n := 27) (S := oo) Tryz.func44 rfl rfl (by kernel_rfl) (A.start (L := []) hh) (E.sr (E.op (.string (⟨#[]⟩ : ByteArray)) (E.tr (E.op (E.i 1024) (E.vl (E.i ((1024 : Nat) : Int)) (fun w h => E.run_as (a := E.i (if 1024 > 0 then 1024 else 0)) (by kernel_rfl) (rfl)) (A.G.make (e := 5) (kd := .u8) (lk := .i64) 1024 1 (by kernel_rfl) (by kernel_rfl) (by kernel_rfl) Nz.pom Nz.pom (by kernel_rfl) (fun ao1 => E.op (.slice ao1 1024 1024) (E.To.code (E.C.seq (E.sr (E.op (E.i 0) ?_)))))))))))
 refine E.To.code (E.C.block (E.C.loop (I := Nat) (fun k => 1024 - k) (fun k => k ≤ 1024) (fun k => [(0, E.u (K.fs z k)), (4, .string (⟨#[]⟩ : ByteArray)), (5, .slice ao1 1024 1024), (6, E.i ((k : Nat) : Int))]) (fun k => A.X w oo aa [A.vec .u8 ao1 1024 (K.fl z k)]) (fun k => []) 0 (Nat.zero_le _) ⟨by kernel_rfl, by kernel_rfl⟩ Nz.sub (fun _ h => h) (fun k hk1 => E.C.seq (E.sr (E.op (E.i ((k : Nat) : Int)) (E.op (.slice ao1 1024 1024) (E.op (E.i 1024) (E.op (.bool (decide (((k : Nat) : Int) < 1024))) (E.To.code (E.cd (decide (((k : Nat) : Int) < 1024)) (fun hc2 => ?_) (fun hc2 => ?_)))))))))))
 ·
  refine E.C.skip (E.To.code (E.C.seq (E.C.block (E.sr (E.op (E.u (K.fs z k)) (E.op (E.u (IntKind.wrap .u32 ((K.fs z k) * 1664525))) (E.op (E.u (IntKind.wrap .u32 ((IntKind.wrap .u32 ((K.fs z k) * 1664525)) + 1013904223))) (E.op (E.u (IntKind.wrap .u32 ((IntKind.wrap .u32 ((K.fs z k) * 1664525)) + 1013904223))) (E.ur (E.op (.slice ao1 1024 1024) (E.op (E.i ((k : Nat) : Int)) (E.op (E.u (IntKind.wrap .u32 ((IntKind.wrap .u32 ((K.fs z k) * 1664525)) + 1013904223))) ?_))))))))))))
  exact E.op (E.u (Int.fdiv (IntKind.wrap .u32 ((IntKind.wrap .u32 ((K.fs z k) * 1664525)) + 1013904223)) (2 ^ 24))) (E.op (.int .u8 (IntKind.wrap .u8 (Int.fdiv (IntKind.wrap .u32 ((IntKind.wrap .u32 ((K.fs z k) * 1664525)) + 1013904223)) (2 ^ 24)))) (E.vl (.pointer (some ⟨(A.bk ao1), k, none⟩)) (fun w h => A.Y.idx (e := 5) (ik := .i64) (i := k) (len := 1024) (c2 := 1024) (A.X.y h.x) (k := 0) rfl (by kernel_rfl) (by kernel_rfl) (by kernel_rfl) (by kernel_rfl) Nz.pom (by rw [K.fl_len]; exact Nz.pom)) (A.G.vst (kd := .u8) (ao := ao1) (cap := 1024) (i := k) (xs := (K.fl z k)) (v := (IntKind.wrap .u8 (Int.fdiv (IntKind.wrap .u32 ((IntKind.wrap .u32 ((K.fs z k) * 1664525)) + 1013904223)) (2 ^ 24)))) 0 rfl (by kernel_rfl) (by kernel_rfl) (by kernel_rfl) (by rw [K.fl_len]; exact Nz.pom) (by kernel_rfl) (by kernel_rfl) (E.P.nb (E.To.code (E.C.region (E.op (E.i ((k : Nat) : Int)) (E.vl (E.i ((k + 1 : Nat) : Int)) (fun w h => E.run_as (a := E.i (IntKind.wrap .i64 (((k : Nat) : Int) + 1))) (by kernel_rfl) (congrArg (Value.int .i64) (by exact Nz.add64 (x := k) (y := 1) Nz.pom))) (E.op (E.i ((k + 1 : Nat) : Int)) (E.To.round (k + 1) Nz.pom Nz.pom ⟨by kernel_rfl, by kernel_rfl⟩ Nz.sub (fun _ h => h)))))))))))
 exact E.C.exit (E.P.et (E.P.et (E.P.eh (E.To.code (E.sr (E.op (.slice ao1 1024 1024) (E.vl (.string (K.fill z)) (fun w h => E.run_as (a := .string (strOfNums (K.fl z k))) (A.Y.strN (e := 5) (n := 1024) (c2 := 1024) (A.X.y h.x) (k := 0) rfl (by kernel_rfl) (by kernel_rfl) (by kernel_rfl) (by kernel_rfl) (K.fl_len _ _) (by decide)) (congrArg Value.string (K.fill_eq hk1 (by assumption)))) (E.op (.string (K.fill z)) (E.To.code (E.wk [(4, .string (K.fill z))] [] Nz.sub (E.C.ret (E.bd Tryz.f44 [.string (K.fill z)] (fun w h => ⟨(), trivial, rfl, A.dq [] [0] h⟩)))))))))))))
theorem Content {c m : Nat} {s : Q.S} {V : M.V} : A.Tr Tryz.prog 33 #[.pointer (some ⟨c, 0, none⟩)] [A.blk c (.pointer (some ⟨m, 0, none⟩) :: Q.S.cells s), M.It m V []] (I := Unit) (fun _ => True) (fun _ => .string (K.cs V)) (fun _ => [A.blk c (.pointer (some ⟨m, 0, none⟩) :: Q.S.cells s), M.It m V []]) := by
 intro w oo aa hh
 refine E.enter (n := 19) (S := oo) Tryz.func33 rfl rfl (by kernel_rfl) (A.start (L := [(c, (E.pt m :: Q.S.cells s))]) hh) (E.sr (E.op (.string (⟨#[]⟩ : ByteArray)) (E.tr (A.G.make (e := 5) (kd := .u8) (lk := .i64) 1024 1 (by kernel_rfl) (by kernel_rfl) (by kernel_rfl) Nz.pom Nz.pom (by kernel_rfl) (fun ao1 => E.op (.slice ao1 1024 1024) (E.To.code (E.C.seq (E.sr (E.op (E.i 0) (E.To.code (E.C.block ?_)))))))))))
 refine E.C.loop (I := Nat) (fun k => 1024 - k) (fun k => k ≤ 1024) (fun k => [(0, E.pt c), (2, .string (⟨#[]⟩ : ByteArray)), (3, .slice ao1 1024 1024), (4, E.i ((k : Nat) : Int))]) (fun k => A.X w oo aa [A.vec .u8 ao1 1024 (K.cl V k), M.It m V ([])]) (fun k => [(c, (E.pt m :: Q.S.cells s))]) 0 (Nat.zero_le _) ⟨by kernel_rfl, by kernel_rfl⟩ Nz.sub (fun _ h => h) (fun k hk1 => E.C.seq (E.sr (E.op (E.i ((k : Nat) : Int)) (E.op (.bool (decide (((k : Nat) : Int) < 1024))) (E.To.code (E.cd (decide (((k : Nat) : Int) < 1024)) (fun hc2 => ?_) (fun hc2 => ?_)))))))
 ·
  refine E.C.skip (E.To.code (E.C.seq (E.C.block (E.C.region (E.op (.slice ao1 1024 1024) (E.op (E.i ((k : Nat) : Int)) (E.op (E.pt c) (E.op (E.i ((k : Nat) : Int)) (E.vl (E.u ((k : Nat) : Int)) (fun w h => E.run_as (a := E.u (IntKind.wrap .u32 ((k : Nat) : Int))) (by kernel_rfl) (congrArg (Value.int .u32) (K.w32n hk1))) (E.ca (.int .u8 (V.peek (((k : Nat) : Int)).toNat)) (fun w h => A.cq [0, 2] [1] (KPeek ((k : Nat) : Int) (K.kbd hk1) (c := c) (m := m) (s := s) (V := V)) h) (E.vl (.pointer (some ⟨(A.bk ao1), k, none⟩)) (fun w h => A.Y.idx (e := 5) (ik := .i64) (i := k) (len := 1024) (c2 := 1024) (A.X.y h.x) (k := 0) rfl (by kernel_rfl) (by kernel_rfl) (by kernel_rfl) (by kernel_rfl) Nz.pom (by rw [K.cl_len]; exact Nz.pom)) (A.G.vst (kd := .u8) (ao := ao1) (cap := 1024) (i := k) (xs := (K.cl V k)) (v := (V.peek (((k : Nat) : Int)).toNat)) 0 rfl (by kernel_rfl) (by kernel_rfl) (by kernel_rfl) (by rw [K.cl_len]; exact Nz.pom) (by kernel_rfl) (by kernel_rfl) ?_))))))))))))
  exact E.P.nb (E.To.code (E.C.region (E.op (E.i ((k : Nat) : Int)) (E.vl (E.i ((k + 1 : Nat) : Int)) (fun w h => E.run_as (a := E.i (IntKind.wrap .i64 (((k : Nat) : Int) + 1))) (by kernel_rfl) (congrArg (Value.int .i64) (by exact Nz.add64 (x := k) (y := 1) Nz.pom))) (E.op (E.i ((k + 1 : Nat) : Int)) (E.To.round (k + 1) Nz.pom Nz.pom ⟨by kernel_rfl, by kernel_rfl⟩ Nz.sub (fun _ h => h)))))))
 exact E.C.exit (E.P.et (E.P.et (E.P.eh (E.To.code (E.sr (E.op (.slice ao1 1024 1024) (E.vl (.string (K.cs V)) (fun w h => E.run_as (a := .string (strOfNums (K.cl V k))) (A.Y.strN (e := 5) (n := 1024) (c2 := 1024) (A.X.y h.x) (k := 0) rfl (by kernel_rfl) (by kernel_rfl) (by kernel_rfl) (by kernel_rfl) (K.cl_len _ _) (by decide)) (congrArg Value.string (K.cs_eq hk1 (by assumption)))) (E.op (.string (K.cs V)) (E.To.code (E.C.ret (E.bd Tryz.f33 [.string (K.cs V)] (fun w h => ⟨(), trivial, rfl, A.dq [0, 2] [1] h⟩))))))))))))
def K.cut (s : ByteArray) : ByteArray := s.extract 0 (if 400 < ((s.size : Nat) : Int) then (400 : Int) else ((s.size : Nat) : Int)).toNat
theorem K.cut_ok (s : ByteArray) : 0 ≤ (if 400 < ((s.size : Nat) : Int) then (400 : Int) else ((s.size : Nat) : Int)) ∧ (if 400 < ((s.size : Nat) : Int) then (400 : Int) else ((s.size : Nat) : Int)) ≤ ((s.size : Nat) : Int) := by split <;> omega
theorem K.cut_size (s : ByteArray) : (K.cut s).size ≤ 400 := by
  unfold K.cut
  rw [ByteArray.size_extract]
  split <;> omega
def K.bW (z a : Int) (s : ByteArray) : M.V := ((M.V.new (M.np 4) true).poke (0 : Int).toNat (K.fill z) (K.fill z).size).poke (a).toNat (K.cut s) (K.cut s).size
/-- The memory that both makes. -/
def K.bV (x0 x1 x2 x3 z a : Int) (s : ByteArray) : M.V := ((((K.bW z a s).prot 0 x0).prot 1 x1).prot 2 x2).prot 3 x3
theorem K.bW_wf (z a : Int) (s : ByteArray) : R.Wf (K.bW z a s) := R.Wf.poke (R.Wf.poke (R.Wf.new (M.np_le _) _) _ _ _) _ _ _
theorem K.bV_wf (x0 x1 x2 x3 z a : Int) (s : ByteArray) : R.Wf (K.bV x0 x1 x2 x3 z a s) := R.Wf.prot (R.Wf.prot (R.Wf.prot (R.Wf.prot (K.bW_wf z a s) _ _) _ _) _ _) _ _
theorem CNew5 (n : Int) : A.Tr Tryz.prog 43 #[.int .i64 n] [] (I := Nat × Nat) (fun _ => True) (fun i => .pointer (some ⟨i.1, 0, none⟩)) (fun i => [A.blk i.1 (Q.S.cells Q.z0 ++ [.pointer (some ⟨i.2, 0, none⟩)]), R.It i.2 (M.V.new (M.np n) true)]) := by
 intro w oo aa hh
 exact E.enter (n := 7) (S := oo) Tryz.func43 rfl rfl (by kernel_rfl) (A.start (L := []) hh) (E.sr (E.op (.pointer none) (E.tr (E.op (E.i n) (A.G.call (I := Nat) (D := fun r1 => True) (V := fun r1 => E.pt r1) (q := fun r1 => [R.It r1 (M.V.new (M.np n) true)]) [] (fun r1 => []) (fun r1 => [R.It r1 (M.V.new (M.np n) true)]) (R_New n true) (by kernel_rfl) (A.pn []) (fun r1 => A.pm [0] (by kernel_rfl) (by kernel_rfl)) (fun w _ => by kernel_rfl) (by kernel_rfl) (fun r1 hd2 => E.vl (.agg #[E.u 0, E.u 0, E.u 0, E.u 0, E.u 0, E.u 0, E.u 0, E.u 0, E.u 0, E.u 0, E.u 0, E.u 0, E.u 0, E.u 0, E.u 0, E.u 0, E.u 0, E.u 0, E.u 0, E.u 0, E.u 0, E.u 0, E.i 0, E.i 0, E.pt r1]) (fun w h => E.run_build #[E.u 0, E.u 0, E.u 0, E.u 0, E.u 0, E.u 0, E.u 0, E.u 0, E.u 0, E.u 0, E.u 0, E.u 0, E.u 0, E.u 0, E.u 0, E.u 0, E.u 0, E.u 0, E.u 0, E.u 0, E.u 0, E.u 0, E.i 0, E.i 0, E.pt r1] (by kernel_rfl) w) (E.nw (Q.S.cells Q.z0 ++ [E.pt r1]) 44 (fun g3 => E.op (E.pt g3) (E.To.code (E.C.ret (E.bd Tryz.f43 [E.pt g3] (fun w h => ⟨(g3, r1), trivial, rfl, A.dq [0, 1] [] h⟩))))))))))))
def K5.norm (s : Q.S) : Q.S := ⟨s.pc, (Q.up (Q.up (Q.up (Q.up (Q.up (Q.up (Q.up (Q.up s.r 8 0) 9 0) 10 0) 11 0) 12 0) 13 0) 14 0) 15 0), (Int.tmod s.f 16), s.c, (if 0 > s.st then 0 else s.st), (if 0 > s.du then 0 else s.du)⟩
theorem Normal5 (s : Q.S)  : A.Rd Tryz.prog 47 #[Q.S.val s] [] (Q.S.val (K5.norm s)) := by
 intro w oo aa hh
 refine E.enter (n := 24) (S := fun _ => False) Tryz.func47 rfl rfl (by kernel_rfl) (A.startY hh) (E.sr (E.nw (Q.S.cells s) 26 (fun g1 => E.nw (Q.S.cells Q.z0) 26 (fun g2 => E.To.code (E.C.seq (E.sr (E.op (E.i 8) (E.To.code (E.C.block (E.C.rounds 9 (E.C.seq ?_)))))))))))
 refine E.sr (E.op (E.i 8) (E.op (.bool true) (E.To.code (E.C.condT (by kernel_rfl) (by kernel_rfl) (E.C.skip (E.To.code (E.C.seq (E.C.block (E.C.region (E.op (E.i 8) (E.op (.pointer (some ⟨g1, 1, none⟩)) (E.op (.pointer (some ⟨g1, 9, none⟩)) ?_))))))))))))
 refine E.st 1 (Q.S.cells (⟨s.pc, (Q.up s.r 8 0), s.f, s.c, s.st, s.du⟩)) rfl rfl (E.P.nb (E.To.code (E.C.region (E.op (E.i 8) (E.op (E.i 9) (E.op (E.i 9) (E.To.rounds 8 (E.wk [(1, E.pt g1), (2, E.pt g2), (3, E.i 9), (4, E.i 8), (5, .bool true), (6, E.i 8), (7, E.i 9), (8, E.i 8), (9, .pointer (some ⟨g1, 1, none⟩)), (10, .pointer (some ⟨g1, 9, none⟩))] [(g2, (Q.S.cells Q.z0)), (g1, (Q.S.cells (⟨s.pc, (Q.up s.r 8 0), s.f, s.c, s.st, s.du⟩)))] Nz.sub (E.C.seq (E.sr (E.op (E.i 9) (E.op (.bool true) ?_))))))))))))
 refine E.To.code (E.C.condT (by kernel_rfl) (by kernel_rfl) (E.C.skip (E.To.code (E.C.seq (E.C.block (E.C.region (E.op (E.i 9) (E.op (.pointer (some ⟨g1, 1, none⟩)) (E.op (.pointer (some ⟨g1, 10, none⟩)) (E.st 1 (Q.S.cells (⟨s.pc, (Q.up (Q.up s.r 8 0) 9 0), s.f, s.c, s.st, s.du⟩)) rfl rfl (E.P.nb (E.To.code (E.C.region ?_)))))))))))))
 refine E.op (E.i 9) (E.op (E.i 10) (E.op (E.i 10) (E.To.rounds 7 (E.wk [(1, E.pt g1), (2, E.pt g2), (3, E.i 10), (4, E.i 9), (5, .bool true), (6, E.i 9), (7, E.i 10), (8, E.i 9), (9, .pointer (some ⟨g1, 1, none⟩)), (10, .pointer (some ⟨g1, 10, none⟩))] [(g2, (Q.S.cells Q.z0)), (g1, (Q.S.cells (⟨s.pc, (Q.up (Q.up s.r 8 0) 9 0), s.f, s.c, s.st, s.du⟩)))] Nz.sub (E.C.seq (E.sr (E.op (E.i 10) (E.op (.bool true) (E.To.code (E.C.condT (by kernel_rfl) (by kernel_rfl) (E.C.skip (E.To.code ?_))))))))))))
 refine E.C.seq (E.C.block (E.C.region (E.op (E.i 10) (E.op (.pointer (some ⟨g1, 1, none⟩)) (E.op (.pointer (some ⟨g1, 11, none⟩)) (E.st 1 (Q.S.cells (⟨s.pc, (Q.up (Q.up (Q.up s.r 8 0) 9 0) 10 0), s.f, s.c, s.st, s.du⟩)) rfl rfl (E.P.nb (E.To.code (E.C.region (E.op (E.i 10) (E.op (E.i 11) (E.op (E.i 11) ?_))))))))))))
 refine E.To.rounds 6 (E.wk [(1, E.pt g1), (2, E.pt g2), (3, E.i 11), (4, E.i 10), (5, .bool true), (6, E.i 10), (7, E.i 11), (8, E.i 10), (9, .pointer (some ⟨g1, 1, none⟩)), (10, .pointer (some ⟨g1, 11, none⟩))] [(g2, (Q.S.cells Q.z0)), (g1, (Q.S.cells (⟨s.pc, (Q.up (Q.up (Q.up s.r 8 0) 9 0) 10 0), s.f, s.c, s.st, s.du⟩)))] Nz.sub (E.C.seq (E.sr (E.op (E.i 11) (E.op (.bool true) (E.To.code (E.C.condT (by kernel_rfl) (by kernel_rfl) (E.C.skip (E.To.code (E.C.seq (E.C.block (E.C.region ?_))))))))))))
 refine E.op (E.i 11) (E.op (.pointer (some ⟨g1, 1, none⟩)) (E.op (.pointer (some ⟨g1, 12, none⟩)) (E.st 1 (Q.S.cells (⟨s.pc, (Q.up (Q.up (Q.up (Q.up s.r 8 0) 9 0) 10 0) 11 0), s.f, s.c, s.st, s.du⟩)) rfl rfl (E.P.nb (E.To.code (E.C.region (E.op (E.i 11) (E.op (E.i 12) (E.op (E.i 12) (E.To.rounds 5 (E.wk [(1, E.pt g1), (2, E.pt g2), (3, E.i 12), (4, E.i 11), (5, .bool true), (6, E.i 11), (7, E.i 12), (8, E.i 11), (9, .pointer (some ⟨g1, 1, none⟩)), (10, .pointer (some ⟨g1, 12, none⟩))] [(g2, (Q.S.cells Q.z0)), (g1, (Q.S.cells (⟨s.pc, (Q.up (Q.up (Q.up (Q.up s.r 8 0) 9 0) 10 0) 11 0), s.f, s.c, s.st, s.du⟩)))] Nz.sub (E.C.seq ?_))))))))))))
 refine E.sr (E.op (E.i 12) (E.op (.bool true) (E.To.code (E.C.condT (by kernel_rfl) (by kernel_rfl) (E.C.skip (E.To.code (E.C.seq (E.C.block (E.C.region (E.op (E.i 12) (E.op (.pointer (some ⟨g1, 1, none⟩)) (E.op (.pointer (some ⟨g1, 13, none⟩)) ?_))))))))))))
 refine E.st 1 (Q.S.cells (⟨s.pc, (Q.up (Q.up (Q.up (Q.up (Q.up s.r 8 0) 9 0) 10 0) 11 0) 12 0), s.f, s.c, s.st, s.du⟩)) rfl rfl (E.P.nb (E.To.code (E.C.region (E.op (E.i 12) (E.op (E.i 13) (E.op (E.i 13) (E.To.rounds 4 (E.wk [(1, E.pt g1), (2, E.pt g2), (3, E.i 13), (4, E.i 12), (5, .bool true), (6, E.i 12), (7, E.i 13), (8, E.i 12), (9, .pointer (some ⟨g1, 1, none⟩)), (10, .pointer (some ⟨g1, 13, none⟩))] [(g2, (Q.S.cells Q.z0)), (g1, (Q.S.cells (⟨s.pc, (Q.up (Q.up (Q.up (Q.up (Q.up s.r 8 0) 9 0) 10 0) 11 0) 12 0), s.f, s.c, s.st, s.du⟩)))] Nz.sub (E.C.seq (E.sr (E.op (E.i 13) (E.op (.bool true) ?_))))))))))))
 refine E.To.code (E.C.condT (by kernel_rfl) (by kernel_rfl) (E.C.skip (E.To.code (E.C.seq (E.C.block (E.C.region (E.op (E.i 13) (E.op (.pointer (some ⟨g1, 1, none⟩)) (E.op (.pointer (some ⟨g1, 14, none⟩)) (E.st 1 (Q.S.cells (⟨s.pc, (Q.up (Q.up (Q.up (Q.up (Q.up (Q.up s.r 8 0) 9 0) 10 0) 11 0) 12 0) 13 0), s.f, s.c, s.st, s.du⟩)) rfl rfl (E.P.nb (E.To.code (E.C.region ?_)))))))))))))
 refine E.op (E.i 13) (E.op (E.i 14) (E.op (E.i 14) (E.To.rounds 3 (E.wk [(1, E.pt g1), (2, E.pt g2), (3, E.i 14), (4, E.i 13), (5, .bool true), (6, E.i 13), (7, E.i 14), (8, E.i 13), (9, .pointer (some ⟨g1, 1, none⟩)), (10, .pointer (some ⟨g1, 14, none⟩))] [(g2, (Q.S.cells Q.z0)), (g1, (Q.S.cells (⟨s.pc, (Q.up (Q.up (Q.up (Q.up (Q.up (Q.up s.r 8 0) 9 0) 10 0) 11 0) 12 0) 13 0), s.f, s.c, s.st, s.du⟩)))] Nz.sub (E.C.seq (E.sr (E.op (E.i 14) (E.op (.bool true) (E.To.code (E.C.condT (by kernel_rfl) (by kernel_rfl) (E.C.skip (E.To.code ?_))))))))))))
 refine E.C.seq (E.C.block (E.C.region (E.op (E.i 14) (E.op (.pointer (some ⟨g1, 1, none⟩)) (E.op (.pointer (some ⟨g1, 15, none⟩)) (E.st 1 (Q.S.cells (⟨s.pc, (Q.up (Q.up (Q.up (Q.up (Q.up (Q.up (Q.up s.r 8 0) 9 0) 10 0) 11 0) 12 0) 13 0) 14 0), s.f, s.c, s.st, s.du⟩)) rfl rfl (E.P.nb (E.To.code (E.C.region (E.op (E.i 14) (E.op (E.i 15) (E.op (E.i 15) ?_))))))))))))
 refine E.To.rounds 2 (E.wk [(1, E.pt g1), (2, E.pt g2), (3, E.i 15), (4, E.i 14), (5, .bool true), (6, E.i 14), (7, E.i 15), (8, E.i 14), (9, .pointer (some ⟨g1, 1, none⟩)), (10, .pointer (some ⟨g1, 15, none⟩))] [(g2, (Q.S.cells Q.z0)), (g1, (Q.S.cells (⟨s.pc, (Q.up (Q.up (Q.up (Q.up (Q.up (Q.up (Q.up s.r 8 0) 9 0) 10 0) 11 0) 12 0) 13 0) 14 0), s.f, s.c, s.st, s.du⟩)))] Nz.sub (E.C.seq (E.sr (E.op (E.i 15) (E.op (.bool true) (E.To.code (E.C.condT (by kernel_rfl) (by kernel_rfl) (E.C.skip (E.To.code (E.C.seq (E.C.block (E.C.region ?_))))))))))))
 refine E.op (E.i 15) (E.op (.pointer (some ⟨g1, 1, none⟩)) (E.op (.pointer (some ⟨g1, 16, none⟩)) (E.st 1 (Q.S.cells (⟨s.pc, (Q.up (Q.up (Q.up (Q.up (Q.up (Q.up (Q.up (Q.up s.r 8 0) 9 0) 10 0) 11 0) 12 0) 13 0) 14 0) 15 0), s.f, s.c, s.st, s.du⟩)) rfl rfl (E.P.nb (E.To.code (E.C.region (E.op (E.i 15) (E.op (E.i 16) (E.op (E.i 16) (E.To.rounds 1 (E.wk [(1, E.pt g1), (2, E.pt g2), (3, E.i 16), (4, E.i 15), (5, .bool true), (6, E.i 15), (7, E.i 16), (8, E.i 15), (9, .pointer (some ⟨g1, 1, none⟩)), (10, .pointer (some ⟨g1, 16, none⟩))] [(g2, (Q.S.cells Q.z0)), (g1, (Q.S.cells (⟨s.pc, (Q.up (Q.up (Q.up (Q.up (Q.up (Q.up (Q.up (Q.up s.r 8 0) 9 0) 10 0) 11 0) 12 0) 13 0) 14 0) 15 0), s.f, s.c, s.st, s.du⟩)))] Nz.sub (E.C.seq ?_))))))))))))
 refine E.sr (E.op (E.i 16) (E.op (.bool false) (E.To.code (E.C.condF (by kernel_rfl) (by kernel_rfl) (E.C.exit (E.P.et (E.P.et (E.P.eh (E.To.code (E.wk [(1, E.pt g1), (2, E.pt g2)] [(g2, (Q.S.cells Q.z0)), (g1, (Q.S.cells (⟨s.pc, (Q.up (Q.up (Q.up (Q.up (Q.up (Q.up (Q.up (Q.up s.r 8 0) 9 0) 10 0) 11 0) 12 0) 13 0) 14 0) 15 0), s.f, s.c, s.st, s.du⟩)))] Nz.sub (E.sr (E.op (.pointer (some ⟨g1, 17, none⟩)) (E.li (E.u s.f) 1 rfl rfl (E.op (E.u (Int.tmod s.f 16)) (E.op (.pointer (some ⟨g1, 17, none⟩)) ?_)))))))))))))))
 refine E.st 1 (Q.S.cells (⟨s.pc, (Q.up (Q.up (Q.up (Q.up (Q.up (Q.up (Q.up (Q.up s.r 8 0) 9 0) 10 0) 11 0) 12 0) 13 0) 14 0) 15 0), (Int.tmod s.f 16), s.c, s.st, s.du⟩)) rfl rfl (E.tr (E.op (.pointer (some ⟨g1, 22, none⟩)) (E.li (E.i s.st) 1 rfl rfl (E.op (E.i (if 0 > s.st then 0 else s.st)) (E.op (.pointer (some ⟨g1, 22, none⟩)) (E.st 1 (Q.S.cells (⟨s.pc, (Q.up (Q.up (Q.up (Q.up (Q.up (Q.up (Q.up (Q.up s.r 8 0) 9 0) 10 0) 11 0) 12 0) 13 0) 14 0) 15 0), (Int.tmod s.f 16), s.c, (if 0 > s.st then 0 else s.st), s.du⟩)) rfl rfl (E.To.code (E.wk [(1, E.pt g1), (2, E.pt g2)] [(g2, (Q.S.cells Q.z0)), (g1, (Q.S.cells (⟨s.pc, (Q.up (Q.up (Q.up (Q.up (Q.up (Q.up (Q.up (Q.up s.r 8 0) 9 0) 10 0) 11 0) 12 0) 13 0) 14 0) 15 0), (Int.tmod s.f 16), s.c, (if 0 > s.st then 0 else s.st), s.du⟩)))] Nz.sub (E.sr (E.op (.pointer (some ⟨g1, 23, none⟩)) (E.li (E.i s.du) 1 rfl rfl ?_)))))))))))
 exact E.op (E.i (if 0 > s.du then 0 else s.du)) (E.op (.pointer (some ⟨g1, 23, none⟩)) (E.st 1 (Q.S.cells (⟨s.pc, (Q.up (Q.up (Q.up (Q.up (Q.up (Q.up (Q.up (Q.up s.r 8 0) 9 0) 10 0) 11 0) 12 0) 13 0) 14 0) 15 0), (Int.tmod s.f 16), s.c, (if 0 > s.st then 0 else s.st), (if 0 > s.du then 0 else s.du)⟩)) rfl rfl (E.tr (E.li (Q.S.val (⟨s.pc, (Q.up (Q.up (Q.up (Q.up (Q.up (Q.up (Q.up (Q.up s.r 8 0) 9 0) 10 0) 11 0) 12 0) 13 0) 14 0) 15 0), (Int.tmod s.f 16), s.c, (if 0 > s.st then 0 else s.st), (if 0 > s.du then 0 else s.du)⟩)) 1 rfl rfl (E.st 0 (Q.S.cells (⟨s.pc, (Q.up (Q.up (Q.up (Q.up (Q.up (Q.up (Q.up (Q.up s.r 8 0) 9 0) 10 0) 11 0) 12 0) 13 0) 14 0) 15 0), (Int.tmod s.f 16), s.c, (if 0 > s.st then 0 else s.st), (if 0 > s.du then 0 else s.du)⟩)) rfl rfl (E.To.code (E.C.ret (E.b0 Tryz.f47 [Q.S.val (⟨s.pc, (Q.up (Q.up (Q.up (Q.up (Q.up (Q.up (Q.up (Q.up s.r 8 0) 9 0) 10 0) 11 0) 12 0) 13 0) 14 0) 15 0), (Int.tmod s.f 16), s.c, (if 0 > s.st then 0 else s.st), (if 0 > s.du then 0 else s.du)⟩)] (fun w h => ⟨rfl, h.ch.bel (fun _ h => h.elim)⟩)))))))))
set_option maxHeartbeats 4000000 in
set_option maxHeartbeats 4000000 in
theorem Both (s : Q.S) (x0 x1 x2 x3 z a : Int) (code : ByteArray) (ha : 0 ≤ a ∧ a < 4294967296) (hx0 : 0 ≤ x0 ∧ x0 < 256) (hx1 : 0 ≤ x1 ∧ x1 < 256) (hx2 : 0 ≤ x2 ∧ x2 < 256) (hx3 : 0 ≤ x3 ∧ x3 < 256) : A.Tr Tryz.prog 16 #[.agg (Q.S.cells s ++ [Value.int .u8 x0, Value.int .u8 x1, Value.int .u8 x2, Value.int .u8 x3, Value.int .u32 z, Value.int .u32 a, Value.string code]).toArray] [] (I := (Nat × Nat) × (Nat × Nat)) (fun _ => True) (fun i => .tuple #[.pointer (some ⟨i.1.1, 0, none⟩), .pointer (some ⟨i.2.1, 0, none⟩)]) (fun i => [A.blk i.1.1 (.pointer (some ⟨i.1.2, 0, none⟩) :: Q.S.cells (K.norm s)), M.It i.1.2 (K.bV x0 x1 x2 x3 z a code) [], A.blk i.2.1 (Q.S.cells (K5.norm s) ++ [.pointer (some ⟨i.2.2, 0, none⟩)]), R.It i.2.2 (K.bV x0 x1 x2 x3 z a code)]) := by
 intro w oo aa hh
 refine E.enter (n := 78) (S := oo) Tryz.func16 rfl rfl (by kernel_rfl) (A.start (L := []) hh) (E.sr (E.nw (Q.S.cells s ++ [.int .u8 x0, .int .u8 x1, .int .u8 x2, .int .u8 x3, E.u z, E.u a, .string code]) 29 (fun g1 => E.op (.pointer none) (E.op (.pointer none) (E.tr (A.G.call (I := Nat × Nat) (D := fun i2 => True) (V := fun i2 => E.pt i2.1) (q := fun i2 => [A.blk i2.1 (E.pt i2.2 :: Q.S.cells Q.z0), M.It i2.2 (M.V.new (M.np 4) true) ([])]) [A.blk g1 (Q.S.cells s ++ [.int .u8 x0, .int .u8 x1, .int .u8 x2, .int .u8 x3, E.u z, E.u a, .string code])] (fun i2 => [(i2.1, (E.pt i2.2 :: Q.S.cells Q.z0)), (g1, (Q.S.cells s ++ [.int .u8 x0, .int .u8 x1, .int .u8 x2, .int .u8 x3, E.u z, E.u a, .string code]))]) (fun i2 => [M.It i2.2 (M.V.new (M.np 4) true) ([])]) (CNew 4) (by kernel_rfl) (A.pn [0]) (fun i2 => A.pm [0, 2, 1] (by kernel_rfl) (by kernel_rfl)) (fun w _ => by kernel_rfl) (by kernel_rfl) (fun i2 hd3 => E.op (E.pt i2.1) (E.tr (A.G.call (I := Nat × Nat) (D := fun j4 => True) (V := fun j4 => E.pt j4.1) (q := fun j4 => [A.blk j4.1 (Q.S.cells Q.z0 ++ [E.pt j4.2]), R.It j4.2 (M.V.new (M.np 4) true)]) [A.blk i2.1 (E.pt i2.2 :: Q.S.cells Q.z0), A.blk g1 (Q.S.cells s ++ [.int .u8 x0, .int .u8 x1, .int .u8 x2, .int .u8 x3, E.u z, E.u a, .string code]), M.It i2.2 (M.V.new (M.np 4) true) ([])] (fun j4 => [(j4.1, (Q.S.cells Q.z0 ++ [E.pt j4.2])), (i2.1, (E.pt i2.2 :: Q.S.cells Q.z0)), (g1, (Q.S.cells s ++ [.int .u8 x0, .int .u8 x1, .int .u8 x2, .int .u8 x3, E.u z, E.u a, .string code]))]) (fun j4 => [R.It j4.2 (M.V.new (M.np 4) true), M.It i2.2 (M.V.new (M.np 4) true) ([])]) (CNew5 4) (by kernel_rfl) (A.pn [0, 1, 2]) (fun j4 => A.pm [0, 2, 3, 1, 4] (by kernel_rfl) (by kernel_rfl)) (fun w _ => by kernel_rfl) (by kernel_rfl) (fun j4 hd5 => E.op (E.pt j4.1) (E.tr ?_)))))))))))
 refine E.op (.pointer (some ⟨g1, 28, none⟩)) (E.li (E.u z) 2 rfl rfl (A.G.call (I := Unit) (D := fun _ => True) (V := fun _ => .string (K.fill z)) (q := fun _ => []) [A.blk j4.1 (Q.S.cells Q.z0 ++ [E.pt j4.2]), A.blk i2.1 (E.pt i2.2 :: Q.S.cells Q.z0), A.blk g1 (Q.S.cells s ++ [.int .u8 x0, .int .u8 x1, .int .u8 x2, .int .u8 x3, E.u z, E.u a, .string code]), R.It j4.2 (M.V.new (M.np 4) true), M.It i2.2 (M.V.new (M.np 4) true) ([])] (fun _ => [(j4.1, (Q.S.cells Q.z0 ++ [E.pt j4.2])), (i2.1, (E.pt i2.2 :: Q.S.cells Q.z0)), (g1, (Q.S.cells s ++ [.int .u8 x0, .int .u8 x1, .int .u8 x2, .int .u8 x3, E.u z, E.u a, .string code]))]) (fun _ => [R.It j4.2 (M.V.new (M.np 4) true), M.It i2.2 (M.V.new (M.np 4) true) ([])]) (Fill5 z) (by kernel_rfl) (A.pn [0, 1, 2, 3, 4]) (fun _ => A.pm [0, 1, 2, 3, 4] (by kernel_rfl) (by kernel_rfl)) (fun w _ => by kernel_rfl) (by kernel_rfl) (fun _ hd6 => E.op (.string (K.fill z)) (E.tr (E.op (.pointer (some ⟨g1, 30, none⟩)) (E.li (.string code) 2 rfl rfl (E.op (.pointer (some ⟨g1, 30, none⟩)) (E.li (.string code) 2 rfl rfl (E.op (E.i ((code.size : Nat) : Int)) (E.op (E.i (if 400 < ((code.size : Nat) : Int) then 400 else ((code.size : Nat) : Int))) (E.vl (.string (K.cut code)) (fun w h => E.slTo code .i64 (if 400 < ((code.size : Nat) : Int) then 400 else ((code.size : Nat) : Int)) (by kernel_rfl) (by kernel_rfl) (by kernel_rfl) (K.cut_ok _).1 (K.cut_ok _).2 w) ?_)))))))))))
 refine E.op (.string (K.cut code)) (E.To.code (E.wk [(1, E.pt g1), (2, .pointer none), (3, .pointer none), (4, E.pt i2.1), (5, E.pt j4.1), (6, .string (K.fill z)), (7, .string (K.cut code))] [(j4.1, (Q.S.cells Q.z0 ++ [E.pt j4.2])), (i2.1, (E.pt i2.2 :: Q.S.cells Q.z0)), (g1, (Q.S.cells s ++ [.int .u8 x0, .int .u8 x1, .int .u8 x2, .int .u8 x3, E.u z, E.u a, .string code]))] Nz.sub (E.sr (E.op (E.pt i2.1) (E.op (.string (K.fill z)) (A.G.call (I := Unit) (D := fun _ => True) (V := fun _ => .tuple #[]) (q := fun _ => [A.blk i2.1 (E.pt i2.2 :: Q.S.cells Q.z0), M.It i2.2 ((M.V.new (M.np 4) true).poke (0 : Int).toNat (K.fill z) (K.fill z).size) ([])]) [A.blk j4.1 (Q.S.cells Q.z0 ++ [E.pt j4.2]), A.blk g1 (Q.S.cells s ++ [.int .u8 x0, .int .u8 x1, .int .u8 x2, .int .u8 x3, E.u z, E.u a, .string code]), R.It j4.2 (M.V.new (M.np 4) true)] (fun _ => [(i2.1, (E.pt i2.2 :: Q.S.cells Q.z0)), (j4.1, (Q.S.cells Q.z0 ++ [E.pt j4.2])), (g1, (Q.S.cells s ++ [.int .u8 x0, .int .u8 x1, .int .u8 x2, .int .u8 x3, E.u z, E.u a, .string code]))]) (fun _ => [R.It j4.2 (M.V.new (M.np 4) true), M.It i2.2 ((M.V.new (M.np 4) true).poke (0 : Int).toNat (K.fill z) (K.fill z).size) ([])]) (KPoke 0 (by decide) (K.fill z) (by rw [K.fill_size]; decide) (c := i2.1) (m := i2.2) (s := Q.z0) (V := (M.V.new (M.np 4) true))) (by kernel_rfl) (A.pn [1, 4, 0, 2, 3]) (fun _ => A.pm [0, 2, 3, 4, 1] (by kernel_rfl) (by kernel_rfl)) (fun w _ => by kernel_rfl) (by kernel_rfl) (fun _ hd7 => E.tr (E.op (E.pt j4.1) (E.op (E.pt j4.1) (E.op (.pointer (some ⟨j4.1, 24, none⟩)) (E.li (E.pt j4.2) 1 rfl rfl ?_)))))))))))
 refine E.op (.string (K.fill z)) (A.G.call (I := Unit) (D := fun _ => True) (V := fun _ => .tuple #[]) (q := fun _ => [R.It j4.2 ((M.V.new (M.np 4) true).poke (0 : Int).toNat (K.fill z) (K.fill z).size)]) [A.blk i2.1 (E.pt i2.2 :: Q.S.cells Q.z0), A.blk j4.1 (Q.S.cells Q.z0 ++ [E.pt j4.2]), A.blk g1 (Q.S.cells s ++ [.int .u8 x0, .int .u8 x1, .int .u8 x2, .int .u8 x3, E.u z, E.u a, .string code]), M.It i2.2 ((M.V.new (M.np 4) true).poke (0 : Int).toNat (K.fill z) (K.fill z).size) ([])] (fun _ => [(i2.1, (E.pt i2.2 :: Q.S.cells Q.z0)), (j4.1, (Q.S.cells Q.z0 ++ [E.pt j4.2])), (g1, (Q.S.cells s ++ [.int .u8 x0, .int .u8 x1, .int .u8 x2, .int .u8 x3, E.u z, E.u a, .string code]))]) (fun _ => [R.It j4.2 ((M.V.new (M.np 4) true).poke (0 : Int).toNat (K.fill z) (K.fill z).size), M.It i2.2 ((M.V.new (M.np 4) true).poke (0 : Int).toNat (K.fill z) (K.fill z).size) ([])]) (J_Poke 0 (K.fill z) (by decide) (by rw [K.fill_size]; decide) (m := j4.2) (V := (M.V.new (M.np 4) true))) (by kernel_rfl) (A.pn [3, 0, 1, 2, 4]) (fun _ => A.pm [1, 2, 3, 0, 4] (by kernel_rfl) (by kernel_rfl)) (fun w _ => by kernel_rfl) (by kernel_rfl) (fun _ hd8 => E.To.code (E.wk [(1, E.pt g1), (2, .pointer none), (3, .pointer none), (4, E.pt i2.1), (5, E.pt j4.1), (7, .string (K.cut code))] [(i2.1, (E.pt i2.2 :: Q.S.cells Q.z0)), (j4.1, (Q.S.cells Q.z0 ++ [E.pt j4.2])), (g1, (Q.S.cells s ++ [.int .u8 x0, .int .u8 x1, .int .u8 x2, .int .u8 x3, E.u z, E.u a, .string code]))] Nz.sub (E.sr (E.op (E.pt i2.1) (E.op (.pointer (some ⟨g1, 29, none⟩)) (E.li (E.u a) 2 rfl rfl (E.op (.string (K.cut code)) (A.G.call (I := Unit) (D := fun _ => True) (V := fun _ => .tuple #[]) (q := fun _ => [A.blk i2.1 (E.pt i2.2 :: Q.S.cells Q.z0), M.It i2.2 (K.bW z a code) ([])]) [A.blk j4.1 (Q.S.cells Q.z0 ++ [E.pt j4.2]), A.blk g1 (Q.S.cells s ++ [.int .u8 x0, .int .u8 x1, .int .u8 x2, .int .u8 x3, E.u z, E.u a, .string code]), R.It j4.2 ((M.V.new (M.np 4) true).poke (0 : Int).toNat (K.fill z) (K.fill z).size)] (fun _ => [(i2.1, (E.pt i2.2 :: Q.S.cells Q.z0)), (j4.1, (Q.S.cells Q.z0 ++ [E.pt j4.2])), (g1, (Q.S.cells s ++ [.int .u8 x0, .int .u8 x1, .int .u8 x2, .int .u8 x3, E.u z, E.u a, .string code]))]) (fun _ => [R.It j4.2 ((M.V.new (M.np 4) true).poke (0 : Int).toNat (K.fill z) (K.fill z).size), M.It i2.2 (K.bW z a code) ([])]) (KPoke a ha (K.cut code) (by have := K.cut_size code; omega) (c := i2.1) (m := i2.2) (s := Q.z0) (V := ((M.V.new (M.np 4) true).poke (0 : Int).toNat (K.fill z) (K.fill z).size))) (by kernel_rfl) (A.pn [0, 4, 1, 2, 3]) (fun _ => A.pm [0, 2, 3, 4, 1] (by kernel_rfl) (by kernel_rfl)) (fun w _ => by kernel_rfl) (by kernel_rfl) (fun _ hd9 => E.To.code (E.C.joint (fun J up dn => ?_))))))))))))
 have rest : J [(1, E.pt g1), (2, .pointer none), (3, .pointer none), (4, E.pt i2.1), (5, E.pt j4.1)] (A.X w oo aa [R.It j4.2 (K.bW z a code), M.It i2.2 (K.bW z a code) ([])]) [(i2.1, (E.pt i2.2 :: Q.S.cells Q.z0)), (j4.1, (Q.S.cells Q.z0 ++ [E.pt j4.2])), (g1, (Q.S.cells s ++ [.int .u8 x0, .int .u8 x1, .int .u8 x2, .int .u8 x3, E.u z, E.u a, .string code]))] := by
  refine up _ _ _ (E.C.seq (E.sr (E.op (E.i 0) (E.To.code (E.C.block (E.C.rounds 4 (E.C.seq (E.sr (E.op (E.i 0) (E.op (.bool true) (E.To.code ?_)))))))))))
  refine E.C.condT (by kernel_rfl) (by kernel_rfl) (E.C.skip (E.To.code (E.C.seq (E.C.block (E.sr (E.op (E.pt i2.1) (E.op (E.i 0) (E.op (E.i 0) (E.op (.pointer (some ⟨g1, 24, none⟩)) (E.op (.pointer (some ⟨g1, 24, none⟩)) (E.li (.int .u8 x0) 2 rfl rfl (E.vl (E.i x0) (fun w h => E.run_as (a := E.i (IntKind.wrap .i64 x0)) (by kernel_rfl) (congrArg (Value.int .i64) (IntWalk.i64_in _ (by omega)))) ?_))))))))))))
  refine A.G.call (I := Unit) (D := fun _ => True) (V := fun _ => .tuple #[]) (q := fun _ => [A.blk i2.1 (E.pt i2.2 :: Q.S.cells Q.z0), M.It i2.2 ((K.bW z a code).prot 0 x0) ([])]) [A.blk j4.1 (Q.S.cells Q.z0 ++ [E.pt j4.2]), A.blk g1 (Q.S.cells s ++ [.int .u8 x0, .int .u8 x1, .int .u8 x2, .int .u8 x3, E.u z, E.u a, .string code]), R.It j4.2 (K.bW z a code)] (fun _ => [(i2.1, (E.pt i2.2 :: Q.S.cells Q.z0)), (j4.1, (Q.S.cells Q.z0 ++ [E.pt j4.2])), (g1, (Q.S.cells s ++ [.int .u8 x0, .int .u8 x1, .int .u8 x2, .int .u8 x3, E.u z, E.u a, .string code]))]) (fun _ => [R.It j4.2 (K.bW z a code), M.It i2.2 ((K.bW z a code).prot 0 x0) ([])]) (KProtect 0 x0 (c := i2.1) (m := i2.2) (s := Q.z0) (V := (K.bW z a code))) (by kernel_rfl) (A.pn [0, 4, 1, 2, 3]) (fun _ => A.pm [0, 2, 3, 4, 1] (by kernel_rfl) (by kernel_rfl)) (fun w _ => by kernel_rfl) (by kernel_rfl) (fun _ hd10 => E.To.code (E.C.held (A.Y [A.blk j4.1 (Q.S.cells Q.z0 ++ [E.pt j4.2]), A.blk g1 (Q.S.cells s ++ [.int .u8 x0, .int .u8 x1, .int .u8 x2, .int .u8 x3, E.u z, E.u a, .string code])]) (by kernel_rfl) (E.tk 0 (E.pt j4.1) rfl (fun w h => A.hq [1, 2] [0, 3, 4] h) (E.tk 1 (E.pt j4.1) rfl (fun w h => A.hq [1, 2] [0, 3, 4] h) (E.tk 2 (.pointer (some ⟨j4.1, 24, none⟩)) rfl (fun w h => A.hq [1, 2] [0, 3, 4] h) (E.tj 3 (E.pt j4.2) rfl (fun w h => A.hq [1, 2] [0, 3, 4] h) (fun w h => A.Y.bld h (k := 0) (j := 24) rfl (by kernel_rfl) (by kernel_rfl)) (E.tk 4 (E.i 0) rfl (fun w h => A.hq [1, 2] [0, 3, 4] h) (E.tk 5 (E.i 0) rfl (fun w h => A.hq [1, 2] [0, 3, 4] h) (E.tk 6 (.pointer (some ⟨g1, 24, none⟩)) rfl (fun w h => A.hq [1, 2] [0, 3, 4] h) (E.tk 7 (.pointer (some ⟨g1, 24, none⟩)) rfl (fun w h => A.hq [1, 2] [0, 3, 4] h) (E.tj 8 (.int .u8 x0) rfl (fun w h => A.hq [1, 2] [0, 3, 4] h) (fun w h => A.Y.bld h (k := 1) (j := 24) rfl (by kernel_rfl) (by kernel_rfl)) ?_)))))))))))
  refine E.tj 9 (E.i x0) rfl (fun w h => A.hq [1, 2] [0, 3, 4] h) (fun w h => E.run_as (a := E.i (IntKind.wrap .i64 x0)) (by kernel_rfl) (congrArg (Value.int .i64) (IntWalk.i64_in _ (by omega)))) (E.al 10 rfl (A.G.call (I := Unit) (D := fun _ => True) (V := fun _ => .tuple #[]) (q := fun _ => [R.It j4.2 ((K.bW z a code).prot 0 x0)]) [A.blk i2.1 (E.pt i2.2 :: Q.S.cells Q.z0), A.blk j4.1 (Q.S.cells Q.z0 ++ [E.pt j4.2]), A.blk g1 (Q.S.cells s ++ [.int .u8 x0, .int .u8 x1, .int .u8 x2, .int .u8 x3, E.u z, E.u a, .string code]), M.It i2.2 ((K.bW z a code).prot 0 x0) ([])] (fun _ => [(i2.1, (E.pt i2.2 :: Q.S.cells Q.z0)), (j4.1, (Q.S.cells Q.z0 ++ [E.pt j4.2])), (g1, (Q.S.cells s ++ [.int .u8 x0, .int .u8 x1, .int .u8 x2, .int .u8 x3, E.u z, E.u a, .string code]))]) (fun _ => [R.It j4.2 ((K.bW z a code).prot 0 x0), M.It i2.2 ((K.bW z a code).prot 0 x0) ([])]) (B_Protect 0 x0 (r := j4.2) (V := (K.bW z a code))) (by kernel_rfl) (A.pn [3, 0, 1, 2, 4]) (fun _ => A.pm [1, 2, 3, 0, 4] (by kernel_rfl) (by kernel_rfl)) (fun w _ => by kernel_rfl) (by kernel_rfl) (fun _ hd11 => E.H.back (fun w h => A.hq [1, 2] [0, 3, 4] h) (E.H.done (by kernel_rfl) (E.P.nb (E.To.code (E.C.region (E.op (E.i 0) (E.op (E.i 1) (E.op (E.i 1) (E.To.rounds 3 (E.wk [(1, E.pt g1), (2, .pointer none), (3, .pointer none), (4, E.pt i2.1), (5, E.pt j4.1), (8, E.i 1), (43, E.i 0), (44, .bool true), (45, E.i 0), (46, E.i 1), (47, E.pt i2.1), (48, E.i 0), (49, E.i 0), (50, .pointer (some ⟨g1, 24, none⟩)), (51, .pointer (some ⟨g1, 24, none⟩)), (52, .int .u8 x0), (53, E.i x0), (55, E.pt j4.1), (56, E.pt j4.1), (57, .pointer (some ⟨j4.1, 24, none⟩)), (58, E.pt j4.2), (59, E.i 0), (60, E.i 0), (61, .pointer (some ⟨g1, 24, none⟩)), (62, .pointer (some ⟨g1, 24, none⟩)), (63, .int .u8 x0), (64, E.i x0)] [(i2.1, (E.pt i2.2 :: Q.S.cells Q.z0)), (j4.1, (Q.S.cells Q.z0 ++ [E.pt j4.2])), (g1, (Q.S.cells s ++ [.int .u8 x0, .int .u8 x1, .int .u8 x2, .int .u8 x3, E.u z, E.u a, .string code]))] Nz.sub ?_))))))))))))
  refine E.C.seq (E.sr (E.op (E.i 1) (E.op (.bool true) (E.To.code (E.C.condT (by kernel_rfl) (by kernel_rfl) (E.C.skip (E.To.code (E.C.seq (E.C.block (E.sr (E.op (E.pt i2.1) (E.op (E.i 1) ?_))))))))))))
  refine E.op (E.i 1) (E.op (.pointer (some ⟨g1, 24, none⟩)) (E.op (.pointer (some ⟨g1, 25, none⟩)) (E.li (.int .u8 x1) 2 rfl rfl (E.vl (E.i x1) (fun w h => E.run_as (a := E.i (IntKind.wrap .i64 x1)) (by kernel_rfl) (congrArg (Value.int .i64) (IntWalk.i64_in _ (by omega)))) (A.G.call (I := Unit) (D := fun _ => True) (V := fun _ => .tuple #[]) (q := fun _ => [A.blk i2.1 (E.pt i2.2 :: Q.S.cells Q.z0), M.It i2.2 (((K.bW z a code).prot 0 x0).prot 1 x1) ([])]) [A.blk j4.1 (Q.S.cells Q.z0 ++ [E.pt j4.2]), A.blk g1 (Q.S.cells s ++ [.int .u8 x0, .int .u8 x1, .int .u8 x2, .int .u8 x3, E.u z, E.u a, .string code]), R.It j4.2 ((K.bW z a code).prot 0 x0)] (fun _ => [(i2.1, (E.pt i2.2 :: Q.S.cells Q.z0)), (j4.1, (Q.S.cells Q.z0 ++ [E.pt j4.2])), (g1, (Q.S.cells s ++ [.int .u8 x0, .int .u8 x1, .int .u8 x2, .int .u8 x3, E.u z, E.u a, .string code]))]) (fun _ => [R.It j4.2 ((K.bW z a code).prot 0 x0), M.It i2.2 (((K.bW z a code).prot 0 x0).prot 1 x1) ([])]) (KProtect 1 x1 (c := i2.1) (m := i2.2) (s := Q.z0) (V := ((K.bW z a code).prot 0 x0))) (by kernel_rfl) (A.pn [0, 4, 1, 2, 3]) (fun _ => A.pm [0, 2, 3, 4, 1] (by kernel_rfl) (by kernel_rfl)) (fun w _ => by kernel_rfl) (by kernel_rfl) (fun _ hd12 => E.To.code (E.C.held (A.Y [A.blk j4.1 (Q.S.cells Q.z0 ++ [E.pt j4.2]), A.blk g1 (Q.S.cells s ++ [.int .u8 x0, .int .u8 x1, .int .u8 x2, .int .u8 x3, E.u z, E.u a, .string code])]) (by kernel_rfl) (E.tk 0 (E.pt j4.1) rfl (fun w h => A.hq [1, 2] [0, 3, 4] h) (E.tk 1 (E.pt j4.1) rfl (fun w h => A.hq [1, 2] [0, 3, 4] h) (E.tk 2 (.pointer (some ⟨j4.1, 24, none⟩)) rfl (fun w h => A.hq [1, 2] [0, 3, 4] h) (E.tj 3 (E.pt j4.2) rfl (fun w h => A.hq [1, 2] [0, 3, 4] h) (fun w h => A.Y.bld h (k := 0) (j := 24) rfl (by kernel_rfl) (by kernel_rfl)) ?_)))))))))))
  refine E.tk 4 (E.i 1) rfl (fun w h => A.hq [1, 2] [0, 3, 4] h) (E.tk 5 (E.i 1) rfl (fun w h => A.hq [1, 2] [0, 3, 4] h) (E.tk 6 (.pointer (some ⟨g1, 24, none⟩)) rfl (fun w h => A.hq [1, 2] [0, 3, 4] h) (E.tk 7 (.pointer (some ⟨g1, 25, none⟩)) rfl (fun w h => A.hq [1, 2] [0, 3, 4] h) (E.tj 8 (.int .u8 x1) rfl (fun w h => A.hq [1, 2] [0, 3, 4] h) (fun w h => A.Y.bld h (k := 1) (j := 25) rfl (by kernel_rfl) (by kernel_rfl)) (E.tj 9 (E.i x1) rfl (fun w h => A.hq [1, 2] [0, 3, 4] h) (fun w h => E.run_as (a := E.i (IntKind.wrap .i64 x1)) (by kernel_rfl) (congrArg (Value.int .i64) (IntWalk.i64_in _ (by omega)))) (E.al 10 rfl (A.G.call (I := Unit) (D := fun _ => True) (V := fun _ => .tuple #[]) (q := fun _ => [R.It j4.2 (((K.bW z a code).prot 0 x0).prot 1 x1)]) [A.blk i2.1 (E.pt i2.2 :: Q.S.cells Q.z0), A.blk j4.1 (Q.S.cells Q.z0 ++ [E.pt j4.2]), A.blk g1 (Q.S.cells s ++ [.int .u8 x0, .int .u8 x1, .int .u8 x2, .int .u8 x3, E.u z, E.u a, .string code]), M.It i2.2 (((K.bW z a code).prot 0 x0).prot 1 x1) ([])] (fun _ => [(i2.1, (E.pt i2.2 :: Q.S.cells Q.z0)), (j4.1, (Q.S.cells Q.z0 ++ [E.pt j4.2])), (g1, (Q.S.cells s ++ [.int .u8 x0, .int .u8 x1, .int .u8 x2, .int .u8 x3, E.u z, E.u a, .string code]))]) (fun _ => [R.It j4.2 (((K.bW z a code).prot 0 x0).prot 1 x1), M.It i2.2 (((K.bW z a code).prot 0 x0).prot 1 x1) ([])]) (B_Protect 1 x1 (r := j4.2) (V := ((K.bW z a code).prot 0 x0))) (by kernel_rfl) (A.pn [3, 0, 1, 2, 4]) (fun _ => A.pm [1, 2, 3, 0, 4] (by kernel_rfl) (by kernel_rfl)) (fun w _ => by kernel_rfl) (by kernel_rfl) (fun _ hd13 => E.H.back (fun w h => A.hq [1, 2] [0, 3, 4] h) (E.H.done (by kernel_rfl) (E.P.nb (E.To.code (E.C.region ?_))))))))))))
  refine E.op (E.i 1) (E.op (E.i 2) (E.op (E.i 2) (E.To.rounds 2 (E.wk [(1, E.pt g1), (2, .pointer none), (3, .pointer none), (4, E.pt i2.1), (5, E.pt j4.1), (8, E.i 2), (43, E.i 1), (44, .bool true), (45, E.i 1), (46, E.i 2), (47, E.pt i2.1), (48, E.i 1), (49, E.i 1), (50, .pointer (some ⟨g1, 24, none⟩)), (51, .pointer (some ⟨g1, 25, none⟩)), (52, .int .u8 x1), (53, E.i x1), (55, E.pt j4.1), (56, E.pt j4.1), (57, .pointer (some ⟨j4.1, 24, none⟩)), (58, E.pt j4.2), (59, E.i 1), (60, E.i 1), (61, .pointer (some ⟨g1, 24, none⟩)), (62, .pointer (some ⟨g1, 25, none⟩)), (63, .int .u8 x1), (64, E.i x1)] [(i2.1, (E.pt i2.2 :: Q.S.cells Q.z0)), (j4.1, (Q.S.cells Q.z0 ++ [E.pt j4.2])), (g1, (Q.S.cells s ++ [.int .u8 x0, .int .u8 x1, .int .u8 x2, .int .u8 x3, E.u z, E.u a, .string code]))] Nz.sub (E.C.seq (E.sr (E.op (E.i 2) (E.op (.bool true) (E.To.code (E.C.condT (by kernel_rfl) (by kernel_rfl) (E.C.skip (E.To.code ?_))))))))))))
  refine E.C.seq (E.C.block (E.sr (E.op (E.pt i2.1) (E.op (E.i 2) (E.op (E.i 2) (E.op (.pointer (some ⟨g1, 24, none⟩)) (E.op (.pointer (some ⟨g1, 26, none⟩)) (E.li (.int .u8 x2) 2 rfl rfl (E.vl (E.i x2) (fun w h => E.run_as (a := E.i (IntKind.wrap .i64 x2)) (by kernel_rfl) (congrArg (Value.int .i64) (IntWalk.i64_in _ (by omega)))) (A.G.call (I := Unit) (D := fun _ => True) (V := fun _ => .tuple #[]) (q := fun _ => [A.blk i2.1 (E.pt i2.2 :: Q.S.cells Q.z0), M.It i2.2 ((((K.bW z a code).prot 0 x0).prot 1 x1).prot 2 x2) ([])]) [A.blk j4.1 (Q.S.cells Q.z0 ++ [E.pt j4.2]), A.blk g1 (Q.S.cells s ++ [.int .u8 x0, .int .u8 x1, .int .u8 x2, .int .u8 x3, E.u z, E.u a, .string code]), R.It j4.2 (((K.bW z a code).prot 0 x0).prot 1 x1)] (fun _ => [(i2.1, (E.pt i2.2 :: Q.S.cells Q.z0)), (j4.1, (Q.S.cells Q.z0 ++ [E.pt j4.2])), (g1, (Q.S.cells s ++ [.int .u8 x0, .int .u8 x1, .int .u8 x2, .int .u8 x3, E.u z, E.u a, .string code]))]) (fun _ => [R.It j4.2 (((K.bW z a code).prot 0 x0).prot 1 x1), M.It i2.2 ((((K.bW z a code).prot 0 x0).prot 1 x1).prot 2 x2) ([])]) (KProtect 2 x2 (c := i2.1) (m := i2.2) (s := Q.z0) (V := (((K.bW z a code).prot 0 x0).prot 1 x1))) (by kernel_rfl) (A.pn [0, 4, 1, 2, 3]) (fun _ => A.pm [0, 2, 3, 4, 1] (by kernel_rfl) (by kernel_rfl)) (fun w _ => by kernel_rfl) (by kernel_rfl) (fun _ hd14 => E.To.code ?_)))))))))))
  refine E.C.held (A.Y [A.blk j4.1 (Q.S.cells Q.z0 ++ [E.pt j4.2]), A.blk g1 (Q.S.cells s ++ [.int .u8 x0, .int .u8 x1, .int .u8 x2, .int .u8 x3, E.u z, E.u a, .string code])]) (by kernel_rfl) (E.tk 0 (E.pt j4.1) rfl (fun w h => A.hq [1, 2] [0, 3, 4] h) (E.tk 1 (E.pt j4.1) rfl (fun w h => A.hq [1, 2] [0, 3, 4] h) (E.tk 2 (.pointer (some ⟨j4.1, 24, none⟩)) rfl (fun w h => A.hq [1, 2] [0, 3, 4] h) (E.tj 3 (E.pt j4.2) rfl (fun w h => A.hq [1, 2] [0, 3, 4] h) (fun w h => A.Y.bld h (k := 0) (j := 24) rfl (by kernel_rfl) (by kernel_rfl)) (E.tk 4 (E.i 2) rfl (fun w h => A.hq [1, 2] [0, 3, 4] h) (E.tk 5 (E.i 2) rfl (fun w h => A.hq [1, 2] [0, 3, 4] h) (E.tk 6 (.pointer (some ⟨g1, 24, none⟩)) rfl (fun w h => A.hq [1, 2] [0, 3, 4] h) (E.tk 7 (.pointer (some ⟨g1, 26, none⟩)) rfl (fun w h => A.hq [1, 2] [0, 3, 4] h) (E.tj 8 (.int .u8 x2) rfl (fun w h => A.hq [1, 2] [0, 3, 4] h) (fun w h => A.Y.bld h (k := 1) (j := 26) rfl (by kernel_rfl) (by kernel_rfl)) (E.tj 9 (E.i x2) rfl (fun w h => A.hq [1, 2] [0, 3, 4] h) (fun w h => E.run_as (a := E.i (IntKind.wrap .i64 x2)) (by kernel_rfl) (congrArg (Value.int .i64) (IntWalk.i64_in _ (by omega)))) (E.al 10 rfl ?_)))))))))))
  refine A.G.call (I := Unit) (D := fun _ => True) (V := fun _ => .tuple #[]) (q := fun _ => [R.It j4.2 ((((K.bW z a code).prot 0 x0).prot 1 x1).prot 2 x2)]) [A.blk i2.1 (E.pt i2.2 :: Q.S.cells Q.z0), A.blk j4.1 (Q.S.cells Q.z0 ++ [E.pt j4.2]), A.blk g1 (Q.S.cells s ++ [.int .u8 x0, .int .u8 x1, .int .u8 x2, .int .u8 x3, E.u z, E.u a, .string code]), M.It i2.2 ((((K.bW z a code).prot 0 x0).prot 1 x1).prot 2 x2) ([])] (fun _ => [(i2.1, (E.pt i2.2 :: Q.S.cells Q.z0)), (j4.1, (Q.S.cells Q.z0 ++ [E.pt j4.2])), (g1, (Q.S.cells s ++ [.int .u8 x0, .int .u8 x1, .int .u8 x2, .int .u8 x3, E.u z, E.u a, .string code]))]) (fun _ => [R.It j4.2 ((((K.bW z a code).prot 0 x0).prot 1 x1).prot 2 x2), M.It i2.2 ((((K.bW z a code).prot 0 x0).prot 1 x1).prot 2 x2) ([])]) (B_Protect 2 x2 (r := j4.2) (V := (((K.bW z a code).prot 0 x0).prot 1 x1))) (by kernel_rfl) (A.pn [3, 0, 1, 2, 4]) (fun _ => A.pm [1, 2, 3, 0, 4] (by kernel_rfl) (by kernel_rfl)) (fun w _ => by kernel_rfl) (by kernel_rfl) (fun _ hd15 => E.H.back (fun w h => A.hq [1, 2] [0, 3, 4] h) (E.H.done (by kernel_rfl) (E.P.nb (E.To.code (E.C.region (E.op (E.i 2) (E.op (E.i 3) (E.op (E.i 3) (E.To.rounds 1 (E.wk [(1, E.pt g1), (2, .pointer none), (3, .pointer none), (4, E.pt i2.1), (5, E.pt j4.1), (8, E.i 3), (43, E.i 2), (44, .bool true), (45, E.i 2), (46, E.i 3), (47, E.pt i2.1), (48, E.i 2), (49, E.i 2), (50, .pointer (some ⟨g1, 24, none⟩)), (51, .pointer (some ⟨g1, 26, none⟩)), (52, .int .u8 x2), (53, E.i x2), (55, E.pt j4.1), (56, E.pt j4.1), (57, .pointer (some ⟨j4.1, 24, none⟩)), (58, E.pt j4.2), (59, E.i 2), (60, E.i 2), (61, .pointer (some ⟨g1, 24, none⟩)), (62, .pointer (some ⟨g1, 26, none⟩)), (63, .int .u8 x2), (64, E.i x2)] [(i2.1, (E.pt i2.2 :: Q.S.cells Q.z0)), (j4.1, (Q.S.cells Q.z0 ++ [E.pt j4.2])), (g1, (Q.S.cells s ++ [.int .u8 x0, .int .u8 x1, .int .u8 x2, .int .u8 x3, E.u z, E.u a, .string code]))] Nz.sub (E.C.seq (E.sr ?_))))))))))))
  refine E.op (E.i 3) (E.op (.bool true) (E.To.code (E.C.condT (by kernel_rfl) (by kernel_rfl) (E.C.skip (E.To.code (E.C.seq (E.C.block (E.sr (E.op (E.pt i2.1) (E.op (E.i 3) (E.op (E.i 3) (E.op (.pointer (some ⟨g1, 24, none⟩)) ?_))))))))))))
  refine E.op (.pointer (some ⟨g1, 27, none⟩)) (E.li (.int .u8 x3) 2 rfl rfl (E.vl (E.i x3) (fun w h => E.run_as (a := E.i (IntKind.wrap .i64 x3)) (by kernel_rfl) (congrArg (Value.int .i64) (IntWalk.i64_in _ (by omega)))) (A.G.call (I := Unit) (D := fun _ => True) (V := fun _ => .tuple #[]) (q := fun _ => [A.blk i2.1 (E.pt i2.2 :: Q.S.cells Q.z0), M.It i2.2 (K.bV x0 x1 x2 x3 z a code) ([])]) [A.blk j4.1 (Q.S.cells Q.z0 ++ [E.pt j4.2]), A.blk g1 (Q.S.cells s ++ [.int .u8 x0, .int .u8 x1, .int .u8 x2, .int .u8 x3, E.u z, E.u a, .string code]), R.It j4.2 ((((K.bW z a code).prot 0 x0).prot 1 x1).prot 2 x2)] (fun _ => [(i2.1, (E.pt i2.2 :: Q.S.cells Q.z0)), (j4.1, (Q.S.cells Q.z0 ++ [E.pt j4.2])), (g1, (Q.S.cells s ++ [.int .u8 x0, .int .u8 x1, .int .u8 x2, .int .u8 x3, E.u z, E.u a, .string code]))]) (fun _ => [R.It j4.2 ((((K.bW z a code).prot 0 x0).prot 1 x1).prot 2 x2), M.It i2.2 (K.bV x0 x1 x2 x3 z a code) ([])]) (KProtect 3 x3 (c := i2.1) (m := i2.2) (s := Q.z0) (V := ((((K.bW z a code).prot 0 x0).prot 1 x1).prot 2 x2))) (by kernel_rfl) (A.pn [0, 4, 1, 2, 3]) (fun _ => A.pm [0, 2, 3, 4, 1] (by kernel_rfl) (by kernel_rfl)) (fun w _ => by kernel_rfl) (by kernel_rfl) (fun _ hd16 => E.To.code (E.C.held (A.Y [A.blk j4.1 (Q.S.cells Q.z0 ++ [E.pt j4.2]), A.blk g1 (Q.S.cells s ++ [.int .u8 x0, .int .u8 x1, .int .u8 x2, .int .u8 x3, E.u z, E.u a, .string code])]) (by kernel_rfl) (E.tk 0 (E.pt j4.1) rfl (fun w h => A.hq [1, 2] [0, 3, 4] h) (E.tk 1 (E.pt j4.1) rfl (fun w h => A.hq [1, 2] [0, 3, 4] h) (E.tk 2 (.pointer (some ⟨j4.1, 24, none⟩)) rfl (fun w h => A.hq [1, 2] [0, 3, 4] h) (E.tj 3 (E.pt j4.2) rfl (fun w h => A.hq [1, 2] [0, 3, 4] h) (fun w h => A.Y.bld h (k := 0) (j := 24) rfl (by kernel_rfl) (by kernel_rfl)) (E.tk 4 (E.i 3) rfl (fun w h => A.hq [1, 2] [0, 3, 4] h) (E.tk 5 (E.i 3) rfl (fun w h => A.hq [1, 2] [0, 3, 4] h) ?_)))))))))))
  refine E.tk 6 (.pointer (some ⟨g1, 24, none⟩)) rfl (fun w h => A.hq [1, 2] [0, 3, 4] h) (E.tk 7 (.pointer (some ⟨g1, 27, none⟩)) rfl (fun w h => A.hq [1, 2] [0, 3, 4] h) (E.tj 8 (.int .u8 x3) rfl (fun w h => A.hq [1, 2] [0, 3, 4] h) (fun w h => A.Y.bld h (k := 1) (j := 27) rfl (by kernel_rfl) (by kernel_rfl)) (E.tj 9 (E.i x3) rfl (fun w h => A.hq [1, 2] [0, 3, 4] h) (fun w h => E.run_as (a := E.i (IntKind.wrap .i64 x3)) (by kernel_rfl) (congrArg (Value.int .i64) (IntWalk.i64_in _ (by omega)))) (E.al 10 rfl (A.G.call (I := Unit) (D := fun _ => True) (V := fun _ => .tuple #[]) (q := fun _ => [R.It j4.2 (K.bV x0 x1 x2 x3 z a code)]) [A.blk i2.1 (E.pt i2.2 :: Q.S.cells Q.z0), A.blk j4.1 (Q.S.cells Q.z0 ++ [E.pt j4.2]), A.blk g1 (Q.S.cells s ++ [.int .u8 x0, .int .u8 x1, .int .u8 x2, .int .u8 x3, E.u z, E.u a, .string code]), M.It i2.2 (K.bV x0 x1 x2 x3 z a code) ([])] (fun _ => [(i2.1, (E.pt i2.2 :: Q.S.cells Q.z0)), (j4.1, (Q.S.cells Q.z0 ++ [E.pt j4.2])), (g1, (Q.S.cells s ++ [.int .u8 x0, .int .u8 x1, .int .u8 x2, .int .u8 x3, E.u z, E.u a, .string code]))]) (fun _ => [R.It j4.2 (K.bV x0 x1 x2 x3 z a code), M.It i2.2 (K.bV x0 x1 x2 x3 z a code) ([])]) (B_Protect 3 x3 (r := j4.2) (V := ((((K.bW z a code).prot 0 x0).prot 1 x1).prot 2 x2))) (by kernel_rfl) (A.pn [3, 0, 1, 2, 4]) (fun _ => A.pm [1, 2, 3, 0, 4] (by kernel_rfl) (by kernel_rfl)) (fun w _ => by kernel_rfl) (by kernel_rfl) (fun _ hd17 => E.H.back (fun w h => A.hq [1, 2] [0, 3, 4] h) (E.H.done (by kernel_rfl) (E.P.nb (E.To.code (E.C.region (E.op (E.i 3) (E.op (E.i 4) ?_))))))))))))
  refine E.op (E.i 4) (E.To.rounds 0 (E.wk [(1, E.pt g1), (2, .pointer none), (3, .pointer none), (4, E.pt i2.1), (5, E.pt j4.1), (8, E.i 4), (43, E.i 3), (44, .bool true), (45, E.i 3), (46, E.i 4), (47, E.pt i2.1), (48, E.i 3), (49, E.i 3), (50, .pointer (some ⟨g1, 24, none⟩)), (51, .pointer (some ⟨g1, 27, none⟩)), (52, .int .u8 x3), (53, E.i x3), (55, E.pt j4.1), (56, E.pt j4.1), (57, .pointer (some ⟨j4.1, 24, none⟩)), (58, E.pt j4.2), (59, E.i 3), (60, E.i 3), (61, .pointer (some ⟨g1, 24, none⟩)), (62, .pointer (some ⟨g1, 27, none⟩)), (63, .int .u8 x3), (64, E.i x3)] [(i2.1, (E.pt i2.2 :: Q.S.cells Q.z0)), (j4.1, (Q.S.cells Q.z0 ++ [E.pt j4.2])), (g1, (Q.S.cells s ++ [.int .u8 x0, .int .u8 x1, .int .u8 x2, .int .u8 x3, E.u z, E.u a, .string code]))] Nz.sub (E.C.seq (E.sr (E.op (E.i 4) (E.op (.bool false) (E.To.code (E.C.condF (by kernel_rfl) (by kernel_rfl) (E.C.exit (E.P.et (E.P.et (E.P.eh (E.To.code (E.wk [(1, E.pt g1), (2, .pointer none), (3, .pointer none), (4, E.pt i2.1), (5, E.pt j4.1)] [(i2.1, (E.pt i2.2 :: Q.S.cells Q.z0)), (j4.1, (Q.S.cells Q.z0 ++ [E.pt j4.2])), (g1, (Q.S.cells s ++ [.int .u8 x0, .int .u8 x1, .int .u8 x2, .int .u8 x3, E.u z, E.u a, .string code]))] Nz.sub (E.sr ?_)))))))))))))))
  refine E.op (E.pt i2.1) (E.op (E.pt g1) (E.li (Q.S.val s) 2 rfl rfl (A.G.call (I := Unit) (D := fun _ => True) (V := fun _ => .tuple #[]) (q := fun _ => [A.blk i2.1 (E.pt i2.2 :: Q.S.cells (K.norm s))]) [A.blk j4.1 (Q.S.cells Q.z0 ++ [E.pt j4.2]), A.blk g1 (Q.S.cells s ++ [.int .u8 x0, .int .u8 x1, .int .u8 x2, .int .u8 x3, E.u z, E.u a, .string code]), R.It j4.2 (K.bV x0 x1 x2 x3 z a code), M.It i2.2 (K.bV x0 x1 x2 x3 z a code) ([])] (fun _ => [(i2.1, (E.pt i2.2 :: Q.S.cells (K.norm s))), (j4.1, (Q.S.cells Q.z0 ++ [E.pt j4.2])), (g1, (Q.S.cells s ++ [.int .u8 x0, .int .u8 x1, .int .u8 x2, .int .u8 x3, E.u z, E.u a, .string code]))]) (fun _ => [R.It j4.2 (K.bV x0 x1 x2 x3 z a code), M.It i2.2 (K.bV x0 x1 x2 x3 z a code) ([])]) (CSet (c := i2.1) (m := i2.2) (s0 := Q.z0) s) (by kernel_rfl) (A.pn [0, 1, 2, 3, 4]) (fun _ => A.pm [0, 1, 2, 3, 4] (by kernel_rfl) (by kernel_rfl)) (fun w _ => by kernel_rfl) (by kernel_rfl) (fun _ hd18 => E.tr (E.op (E.pt j4.1) (E.op (E.pt g1) (E.li (Q.S.val s) 2 rfl rfl (E.ca (Q.S.val (K5.norm s)) (fun w h => A.cq [] [0, 1, 2, 3, 4] (Normal5 s) h) (E.op (E.pt j4.1) (E.op (E.pt j4.1) (E.st 1 (Q.S.cells (K5.norm s) ++ [E.pt j4.2]) rfl rfl ?_)))))))))))
  refine E.To.code (E.wk [(2, .pointer none), (3, .pointer none), (4, E.pt i2.1), (5, E.pt j4.1)] [(i2.1, (E.pt i2.2 :: Q.S.cells (K.norm s))), (j4.1, (Q.S.cells (K5.norm s) ++ [E.pt j4.2]))] Nz.sub (E.sr (E.op (E.pt i2.1) (E.op (E.pt j4.1) (E.op (E.pt i2.1) (E.op (E.pt j4.1) (E.To.code (E.C.ret (E.To.body (fn := Tryz.f16) [E.pt i2.1, E.pt j4.1] ?_ ?_)))))))))
  · exact ⟨⟨by kernel_rfl, by kernel_rfl⟩, ⟨by kernel_rfl, by kernel_rfl⟩, trivial⟩
  intro w h
  exact ⟨((i2.1, i2.2), (j4.1, j4.2)), trivial, rfl, A.dq [0, 3, 1, 2] [] h⟩
 refine E.C.held (A.Y [A.blk j4.1 (Q.S.cells Q.z0 ++ [E.pt j4.2]), A.blk g1 (Q.S.cells s ++ [.int .u8 x0, .int .u8 x1, .int .u8 x2, .int .u8 x3, E.u z, E.u a, .string code])]) (by kernel_rfl) (E.tk 0 (E.pt j4.1) rfl (fun w h => A.hq [1, 2] [0, 3, 4] h) (E.tk 1 (E.pt j4.1) rfl (fun w h => A.hq [1, 2] [0, 3, 4] h) (E.tk 2 (.pointer (some ⟨j4.1, 24, none⟩)) rfl (fun w h => A.hq [1, 2] [0, 3, 4] h) (E.tj 3 (E.pt j4.2) rfl (fun w h => A.hq [1, 2] [0, 3, 4] h) (fun w h => A.Y.bld h (k := 0) (j := 24) rfl (by kernel_rfl) (by kernel_rfl)) (E.tk 4 (.pointer (some ⟨g1, 29, none⟩)) rfl (fun w h => A.hq [1, 2] [0, 3, 4] h) (E.tj 5 (E.u a) rfl (fun w h => A.hq [1, 2] [0, 3, 4] h) (fun w h => A.Y.bld h (k := 1) (j := 29) rfl (by kernel_rfl) (by kernel_rfl)) (E.tk 6 (.string (K.cut code)) rfl (fun w h => A.hq [1, 2] [0, 3, 4] h) (E.al 7 rfl (A.G.call (I := Unit) (D := fun _ => True) (V := fun _ => .tuple #[]) (q := fun _ => [R.It j4.2 (K.bW z a code)]) [A.blk i2.1 (E.pt i2.2 :: Q.S.cells Q.z0), A.blk j4.1 (Q.S.cells Q.z0 ++ [E.pt j4.2]), A.blk g1 (Q.S.cells s ++ [.int .u8 x0, .int .u8 x1, .int .u8 x2, .int .u8 x3, E.u z, E.u a, .string code]), M.It i2.2 (K.bW z a code) ([])] (fun _ => [(i2.1, (E.pt i2.2 :: Q.S.cells Q.z0)), (j4.1, (Q.S.cells Q.z0 ++ [E.pt j4.2])), (g1, (Q.S.cells s ++ [.int .u8 x0, .int .u8 x1, .int .u8 x2, .int .u8 x3, E.u z, E.u a, .string code]))]) (fun _ => [R.It j4.2 (K.bW z a code), M.It i2.2 (K.bW z a code) ([])]) (J_Poke a (K.cut code) ha (by have := K.cut_size code; omega) (m := j4.2) (V := ((M.V.new (M.np 4) true).poke (0 : Int).toNat (K.fill z) (K.fill z).size))) (by kernel_rfl) (A.pn [3, 0, 1, 2, 4]) (fun _ => A.pm [1, 2, 3, 0, 4] (by kernel_rfl) (by kernel_rfl)) (fun w _ => by kernel_rfl) (by kernel_rfl) (fun _ hd10 => E.H.back (fun w h => A.hq [1, 2] [0, 3, 4] h) (E.H.done (by kernel_rfl) ?_)))))))))))
 exact fun a w h1 h2 => dn _ _ _ rest a w (h1.sub ⟨by kernel_rfl, by kernel_rfl⟩) (h2.less Nz.sub)
theorem Q.sto_no {V : M.V} {a : Nat} {n v : Int} (h : (V.chk a 2 n).2 = false) : V.sto a n v = V := by unfold M.V.sto; rw [h]; rfl
/-- What a step in progress keeps: the count of steps; a trap leaves the memory. -/
structure K.tp (t : Int) (V : M.V) (y : K.W × M.V) : Prop where
  st : y.1.s.st = t
  k : 0 ≤ y.1.k ∧ y.1.k ≤ 7 ∧ y.1.k ≠ 1
  mem : (y.1.k != 0) = true → y.2 = V
section
variable {x : K.W} {V : M.V} {t : Int} (hk : x.k = 0) (ht : x.s.st = t)
include hk ht
theorem K.tp0 {pc f du tr : Int} {r c : Nat → Int} {u : Q.S} {W : M.V} {i : K.Ins} : K.tp t V (⟨u, ⟨pc, r, f, c, x.s.st, du⟩, i, x.k, tr⟩, W) := ⟨ht, by show 0 ≤ x.k ∧ x.k ≤ 7 ∧ x.k ≠ 1; rw [hk]; decide, fun h => by have h : (x.k != 0) = true := h; rw [hk] at h; cases h⟩
omit hk in
theorem K.tp1 {pc f du tr k : Int} {r c : Nat → Int} {u : Q.S} {i : K.Ins} (h : 0 ≤ k ∧ k ≤ 7 ∧ k ≠ 1) : K.tp t V (⟨u, ⟨pc, r, f, c, x.s.st, du⟩, i, k, tr⟩, V) := ⟨ht, h, fun _ => rfl⟩
theorem K.put_tp (a n v : Int) : K.tp t V (K.put x V a n v) := Q.bifP (p := K.tp t V) (fun h => ⟨ht, by show (0 : Int) ≤ 5 ∧ (5 : Int) ≤ 7 ∧ (5 : Int) ≠ 1; decide, fun _ => Q.sto_no (by rw [Bool.not_eq_true'] at h; exact h)⟩) (fun _ => K.tp0 hk ht)
theorem K.ga1_tp (a n D : Int) : K.tp t V (K.ga1 x V a n D) := Q.bifP (p := K.tp t V) (fun _ => K.tp1 ht (by decide)) (fun _ => K.tp0 hk ht)
theorem K.ga2_tp (a n D : Int) : K.tp t V (K.ga2 x V a n D) := Q.bifP (p := K.tp t V) (fun _ => K.tp1 ht (by decide)) (fun _ => K.tp0 hk ht)
theorem K.gs1_tp (a n D : Int) : K.tp t V (K.gs1 x V a n D) := Q.bifP (p := K.tp t V) (fun _ => K.tp1 ht (by decide)) (fun _ => K.tp0 hk ht)
theorem K.gc1_tp (a n : Int) : K.tp t V (K.gc1 x V a n) := Q.bifP (p := K.tp t V) (fun _ => K.tp1 ht (by decide)) (fun _ => K.tp0 hk ht)
theorem K.ga3_tp (a n D p : Int) : K.tp t V (K.ga3 x V a n D p) := Q.bifP (p := K.tp t V) (fun _ => K.tp1 ht (by decide)) (fun _ => K.tp0 hk ht)
theorem K.ga4_tp (a n p : Int) : K.tp t V (K.ga4 x V a n p) := Q.bifP (p := K.tp t V) (fun _ => K.tp1 ht (by decide)) (fun _ => K.put_tp (x := K.flags x 1 _ p) hk ht _ _ _)
theorem K.push_tp (v : Int) : K.tp t V (K.push x V v) := K.put_tp (x := ⟨x.u, ⟨x.s.pc, (Q.up x.s.r 7 (IntKind.wrap .u32 ((x.u.r 7) - 4))), x.s.f, x.s.c, x.s.st, x.s.du⟩, x.i, x.k, x.t⟩) hk ht _ _ _
theorem K.ps1_tp (D : Int) : K.tp t V (K.ps1 x V D) := K.gs1_tp (x := ⟨x.u, ⟨x.s.pc, (Q.up x.s.r 7 (IntKind.wrap .u32 ((x.u.r 7) + 4))), x.s.f, x.s.c, x.s.st, x.s.du⟩, x.i, x.k, x.t⟩) hk ht _ _ _
theorem K.pc1_tp : K.tp t V (K.pc1 x V) := K.gc1_tp (x := ⟨x.u, ⟨x.s.pc, (Q.up x.s.r 7 (IntKind.wrap .u32 ((x.u.r 7) + 4))), x.s.f, x.s.c, x.s.st, x.s.du⟩, x.i, x.k, x.t⟩) hk ht _ _
theorem K.single_tp : K.tp t V (K.single x V) := by
  unfold K.single
  refine Q.bifP (p := K.tp t V) (fun _ => K.push_tp hk ht _) fun _ => ?_
  refine Q.bifP (p := K.tp t V) (fun _ => K.ps1_tp hk ht _) fun _ => ?_
  refine Q.bifP (p := K.tp t V) (fun _ => K.tp0 hk ht) fun _ => ?_
  refine Q.bifP (p := K.tp t V) (fun _ => K.tp0 hk ht) fun _ => ?_
  refine Q.bifP (p := K.tp t V) (fun _ => ⟨(K.push_tp hk ht _).st, (K.push_tp hk ht _).k, (K.push_tp hk ht _).mem⟩) fun _ => ?_
  exact Q.bifP (p := K.tp t V) (fun _ => K.tp0 hk ht) fun _ => K.tp0 hk ht
theorem K.control_tp : K.tp t V (K.control x V) := by
  unfold K.control
  refine Q.bifP (p := K.tp t V) (fun _ => K.pc1_tp hk ht) fun _ => ?_
  refine Q.bifP (p := K.tp t V) (fun _ => K.tp1 ht (by decide)) fun _ => ?_
  refine Q.bifP (p := K.tp t V) (fun _ => K.tp1 ht (by decide)) fun _ => ?_
  refine Q.bifP (p := K.tp t V) (fun _ => K.tp0 hk ht) fun _ => ?_
  refine Q.bifP (p := K.tp t V) (fun _ => ⟨(K.push_tp hk ht _).st, (K.push_tp hk ht _).k, (K.push_tp hk ht _).mem⟩) fun _ => ?_
  refine Q.bifP (p := K.tp t V) (fun _ => K.tp0 hk ht) fun _ => ?_
  refine Q.bifP (p := K.tp t V) (fun _ => K.tp1 ht (by decide)) fun _ => ?_
  refine Q.bifP (p := K.tp t V) (fun _ => K.tp0 hk ht) fun _ => ?_
  refine Q.bifP (p := K.tp t V) (fun _ => ?_) fun _ => K.tp0 hk ht
  refine Q.bifP (p := K.tp t V) (fun _ => K.tp0 hk ht) fun _ => ?_
  refine Q.bifP (p := K.tp t V) (fun _ => K.tp0 hk ht) fun _ => ?_
  refine Q.bifP (p := K.tp t V) (fun _ => ?_) fun _ => K.tp0 hk ht
  exact Q.bifP (p := K.tp t V) (fun _ => K.tp0 hk ht) fun _ => K.tp0 hk ht
theorem K.access_tp (o : Int) : K.tp t V (K.access x V o) := by
  unfold K.access
  refine Q.bifP (p := K.tp t V) (fun _ => K.ga1_tp hk ht _ _ _) fun _ => ?_
  refine Q.bifP (p := K.tp t V) (fun _ => K.ga2_tp hk ht _ _ _) fun _ => ?_
  refine Q.bifP (p := K.tp t V) (fun _ => K.put_tp hk ht _ _ _) fun _ => ?_
  refine Q.bifP (p := K.tp t V) (fun _ => K.put_tp hk ht _ _ _) fun _ => ?_
  refine Q.bifP (p := K.tp t V) (fun _ => K.tp0 hk ht) fun _ => ?_
  refine Q.bifP (p := K.tp t V) (fun _ => K.ga3_tp hk ht _ _ _ _) fun _ => ?_
  exact Q.bifP (p := K.tp t V) (fun _ => K.ga4_tp hk ht _ _ _) fun _ => K.tp0 hk ht
theorem K.arith_tp {o b : Int} : K.tp t V (K.arith x o b, V) := by
  let p : K.W → Prop := fun y => K.tp t V (y, V)
  show p (K.arith x o b)
  unfold K.arith
  refine Q.bifP (p := p) (fun _ => K.tp1 ht (by decide)) fun _ => ?_
  refine Q.bifP (p := p) (fun _ => ?_) fun _ => ?_
  · exact Q.bifP (p := p) (fun _ => K.tp0 hk ht) fun _ => K.tp0 hk ht
  · exact Q.bifP (p := p) (fun _ => K.tp0 hk ht) fun _ => K.tp0 hk ht
end
/-- What a step's trap may be; a trap leaves state and memory, every other step counts. -/
structure K.trp (s : Q.S) (V : M.V) (x : Q.S × Int × Int × M.V) : Prop where
  k : 0 ≤ x.2.1 ∧ x.2.1 ≤ 7 ∧ x.2.1 ≠ 1
  mem : (x.2.1 != 0) = true → x.2.2.2 = V
  st : (x.2.1 != 0) = false → x.1.st = IntKind.wrap .i64 (s.st + 1)
theorem K.trp.one {s : Q.S} {V : M.V} {x : Q.S × Int × Int × M.V} (h : K.trp s V x) : x.2.1 ≠ 1 := h.k.2.2
theorem K.stepI_trp {i : K.Ins} {k t : Int} {s : Q.S} {V : M.V} (h : 0 ≤ k ∧ k ≤ 7 ∧ k ≠ 1) : K.trp s V (K.stepI i k t s V) := by
  have hb : ∀ {y : K.W × M.V}, K.tp (IntKind.wrap .i64 (s.st + 1)) V y → K.trp s V (bif (y.1.k != 0) then (s, y.1.k, y.1.t, y.2) else (y.1.s, y.1.k, y.1.t, y.2)) := fun {y} h => by
    cases e : (y.1.k != 0) with
    | true => exact ⟨h.k, fun _ => h.mem e, fun q => (by rw [cond_true] at q; rw [e] at q; cases q)⟩
    | false => exact ⟨h.k, fun q => (by rw [cond_false] at q; rw [e] at q; cases q), fun _ => h.st⟩
  have ha : ∀ {y : K.W}, K.tp (IntKind.wrap .i64 (s.st + 1)) V (y, V) → K.trp s V (bif (y.k != 0) then (s, y.k, y.t, V) else (y.s, y.k, y.t, V)) := fun {y} h => hb (y := (y, V)) h
  have h0 : (K.w0 s i).k = 0 := rfl
  have h1 : (K.w0 s i).s.st = IntKind.wrap .i64 (s.st + 1) := rfl
  unfold K.stepI
  refine Q.bifP (p := K.trp s V) (fun e => ⟨h, fun _ => rfl, fun q => (by have q : (k != 0) = false := q; rw [e] at q; cases q)⟩) fun _ => ?_
  refine Q.bifP (p := K.trp s V) (fun _ => ha (K.arith_tp h0 h1)) fun _ => ?_
  refine Q.bifP (p := K.trp s V) (fun _ => ha (K.arith_tp h0 h1)) fun _ => ?_
  refine Q.bifP (p := K.trp s V) (fun _ => ha (K.arith_tp h0 h1)) fun _ => ?_
  refine Q.bifP (p := K.trp s V) (fun _ => hb (K.access_tp h0 h1 _)) fun _ => ?_
  refine Q.bifP (p := K.trp s V) (fun _ => hb (K.access_tp h0 h1 _)) fun _ => ?_
  refine Q.bifP (p := K.trp s V) (fun _ => hb (K.single_tp h0 h1)) fun _ => ?_
  refine Q.bifP (p := K.trp s V) (fun _ => ?_) fun _ => hb (K.control_tp h0 h1)
  refine Q.bifP (p := K.trp s V) (fun _ => ?_) fun _ => ?_ <;>
    exact Q.bifP (p := K.trp s V) (fun e => by cases e) (fun _ => ⟨by show (0 : Int) ≤ 0 ∧ (0 : Int) ≤ 7 ∧ (0 : Int) ≠ 1; decide, fun q => (by cases q), fun _ => rfl⟩)
theorem K.step_trp {s : Q.S} {V : M.V} (hs : Q.wf s) (hV : R.Wf V) : K.trp s V (K.step s V) := by
  refine K.stepI_trp ?_
  unfold K.fetch
  repeat' (first
    | (show (7 : Int) ≥ 0 ∧ (7 : Int) ≤ 7 ∧ (7 : Int) ≠ 1; decide)
    | (show (5 : Int) ≥ 0 ∧ (5 : Int) ≤ 7 ∧ (5 : Int) ≠ 1; decide)
    | (show (0 : Int) ≥ 0 ∧ (0 : Int) ≤ 7 ∧ (0 : Int) ≠ 1; decide)
    | refine Q.bifP (p := fun x : K.Ins × Int × Int => 0 ≤ x.2.1 ∧ x.2.1 ≤ 7 ∧ x.2.1 ≠ 1) (fun _ => ?_) (fun _ => ?_))
/-- A run that was not stopped by its number of instructions is the run of any greater number; one that was goes on. -/
theorem K.run_split {a b : Int} (hb : a ≤ b) : ∀ (f n : Nat) (g : Nat) {s : Q.S} {V : M.V}, Q.wf s → R.Wf V → a.toNat + 1 ≤ n + f → b.toNat + 1 ≤ n + g → n ≤ a.toNat →
    ((K.run a f n s V).2.1 ≠ 1 → K.run b g n s V = K.run a f n s V) ∧
    ((K.run a f n s V).2.1 = 1 → ∃ m : Nat, m ≤ a.toNat ∧ (0 ≤ a → a ≤ ((m : Nat) : Int)) ∧ n ≤ m ∧ K.run b g n s V = K.run b (g - (m - n)) m (K.run a f n s V).1 (K.run a f n s V).2.2.2 ∧ (decide ((K.run a f n s V).1.du > 0) && decide ((K.run a f n s V).1.st ≥ (K.run a f n s V).1.du)) = false)
  | 0, n, g, s, V, hs, hV, hf, hg, hn => absurd hf (by omega)
  | f + 1, n, 0, s, V, hs, hV, hf, hg, hn => absurd hg (by omega)
  | f + 1, n, g + 1, s, V, hs, hV, hf, hg, hn => by
    have ht := K.step_trp hs hV
    have hw := K.step_wf hs hV
    rw [K.run, K.run]
    cases h1 : (decide (s.du > 0) && decide (s.st ≥ s.du)) with
    | true => exact ⟨fun _ => rfl, fun h => by cases h⟩
    | false =>
      rw [cond_false, cond_false]
      cases h2 : decide (((n : Nat) : Int) ≥ a) with
      | true =>
        rw [cond_true]
        refine ⟨fun h => absurd rfl h, fun _ => ⟨n, hn, fun _ => of_decide_eq_true h2, Nat.le_refl _, ?_, h1⟩⟩
        show _ = K.run b (g + 1 - (n - n)) n s V
        rw [Nat.sub_self, Nat.sub_zero, K.run, h1, cond_false]
      | false =>
        have h2' := of_decide_eq_false h2
        rw [cond_false]
        have h3 : decide (((n : Nat) : Int) ≥ b) = false := decide_eq_false (by omega)
        rw [h3, cond_false]
        cases h4 : ((K.step s V).2.1 != 0) with
        | true =>
          rw [cond_true, cond_true]
          exact ⟨fun _ => rfl, fun h => absurd h ht.one⟩
        | false =>
          rw [cond_false, cond_false]
          obtain ⟨i1, i2⟩ := K.run_split hb f (n + 1) g hw.1 hw.2 (by omega) (by omega) (by omega)
          refine ⟨i1, fun h => ?_⟩
          obtain ⟨m, m1, m2, m3, m4, m5⟩ := i2 h
          refine ⟨m, m1, m2, by omega, ?_, m5⟩
          rw [m4, show g + 1 - (m - n) = g - (m - (n + 1)) by omega]
/-- The count of a run only matters by what is left. -/
theorem K.run_shift {a b : Int} : ∀ (f n m : Nat) {s : Q.S} {V : M.V}, a - ((n : Nat) : Int) = b - ((m : Nat) : Int) → K.run a f n s V = K.run b f m s V
  | 0, _, _, _, _, _ => rfl
  | f + 1, n, m, s, V, h => by
    rw [K.run, K.run, show decide (((n : Nat) : Int) ≥ a) = decide (((m : Nat) : Int) ≥ b) by rw [decide_eq_decide]; omega]
    have ih := K.run_shift (a := a) (b := b) f (n + 1) (m + 1) (s := (K.step s V).1) (V := (K.step s V).2.2.2) (by omega)
    rw [ih]
theorem K.runs_split {a b : Int} (ha : 0 ≤ b) (hb : b ≤ a) {s : Q.S} {V : M.V} (hs : Q.wf s) (hV : R.Wf V) :
    ((K.runs b s V).2.1 ≠ 1 → K.runs b s V = K.runs a s V) ∧ ((K.runs b s V).2.1 = 1 → K.runs (a - b) (K.runs b s V).1 (K.runs b s V).2.2.2 = K.runs a s V) := by
  obtain ⟨h1, h2⟩ := K.run_split hb (b.toNat + 1) 0 (a.toNat + 1) hs hV (by omega) (by omega) (Nat.zero_le _)
  refine ⟨fun h => (h1 h).symm, fun h => ?_⟩
  obtain ⟨m, m1, m2, m3, m4, m5⟩ := h2 h
  have m2 := m2 ha
  show K.run (a - b) ((a - b).toNat + 1) 0 (K.run b (b.toNat + 1) 0 s V).1 (K.run b (b.toNat + 1) 0 s V).2.2.2 = K.run a (a.toNat + 1) 0 s V
  rw [m4, show a.toNat + 1 - (m - 0) = (a - b).toNat + 1 by omega]
  exact K.run_shift _ 0 m (by omega)
theorem A.tr_drop {P : Program} {f : FuncId} {args : Array Value} {I : Type} {p : List A.It} {D : I → Prop} {v : I → Value} {q r : I → List A.It} (h : A.Tr P f args p D v (fun i => q i ++ r i)) : A.Tr P f args p D v q := by
  intro w oo aa hh
  refine (h w oo aa hh).mono fun e w' ⟨i, hD, he, o', a', k, hc, hg⟩ => ?_
  obtain ⟨o1, a1, o2, a2, k1, k2, _, _, ho, ha⟩ := k.append
  exact ⟨i, hD, he, o1, a1, k1, hc, fun x hx hk => hg.1 x hx ((ho x).2 (.inl hk)), fun x hx hk => hg.2 x hx ((ha x).2 (.inl hk))⟩
theorem Both1 (s : Q.S) (x0 x1 x2 x3 z a : Int) (code : ByteArray) (ha : 0 ≤ a ∧ a < 4294967296) (h0 : 0 ≤ x0 ∧ x0 < 256) (h1 : 0 ≤ x1 ∧ x1 < 256) (h2 : 0 ≤ x2 ∧ x2 < 256) (h3 : 0 ≤ x3 ∧ x3 < 256) {S : Q.S} {V : M.V} (hS : K.norm s = S) (hV : K.bV x0 x1 x2 x3 z a code = V) : A.Tr Tryz.prog 16 #[.agg (Q.S.cells s ++ [Value.int .u8 x0, Value.int .u8 x1, Value.int .u8 x2, Value.int .u8 x3, Value.int .u32 z, Value.int .u32 a, Value.string code]).toArray] [] (I := (Nat × Nat) × (Nat × Nat)) (fun _ => True) (fun i => .tuple #[.pointer (some ⟨i.1.1, 0, none⟩), .pointer (some ⟨i.2.1, 0, none⟩)]) (fun i => [A.blk i.1.1 (.pointer (some ⟨i.1.2, 0, none⟩) :: Q.S.cells S), M.It i.1.2 V []]) := by
  subst hS; subst hV
  exact A.tr_drop (I := (Nat × Nat) × (Nat × Nat)) (q := fun i => [A.blk i.1.1 (Value.pointer (some ⟨i.1.2, 0, none⟩) :: Q.S.cells (K.norm s)), M.It i.1.2 (K.bV x0 x1 x2 x3 z a code) []]) (r := fun i => [A.blk i.2.1 (Q.S.cells (K5.norm s) ++ [Value.pointer (some ⟨i.2.2, 0, none⟩)]), R.It i.2.2 (K.bV x0 x1 x2 x3 z a code)]) (Both s x0 x1 x2 x3 z a code ha h0 h1 h2 h3)
def K.fmtB (n : Nat) : Bool :=
  (K.fmt n == none && R2.Format n == 0) || (K.fmt n == some 0 && R2.Format n == 1 && decide (n ≤ 4)) || (K.fmt n == some 1 && R2.Format n == 2 && decide (16 ≤ n ∧ n ≤ 21)) || (K.fmt n == some 2 && R2.Format n == 3 && decide (32 ≤ n ∧ n ≤ 46)) ||
  (K.fmt n == some 3 && R2.Format n == 4 && decide (48 ≤ n ∧ n ≤ 62)) || (K.fmt n == some 4 && R2.Format n == 5 && decide (64 ≤ n ∧ n ≤ 78)) || (K.fmt n == some 5 && R2.Format n == 6 && decide (80 ≤ n ∧ n ≤ 86)) ||
  (K.fmt n == some 6 && R2.Format n == 7 && decide (88 ≤ n ∧ n ≤ 94)) || (K.fmt n == some 7 && R2.Format n == 8 && decide (96 ≤ n ∧ n ≤ 109)) || (K.fmt n == some 8 && R2.Format n == 9 && decide (112 ≤ n ∧ n ≤ 113)) ||
  (K.fmt n == some 9 && R2.Format n == 10 && decide (n = 128)) || (K.fmt n == some 10 && R2.Format n == 11 && decide (n = 129)) || (K.fmt n == some 10 && R2.Format n == 12 && decide (n = 130))
theorem K.fmtB_all : ∀ n : Fin 131, K.fmtB n.val = true := by decide +kernel
theorem K.fmtF_none (op : Int) (h : op < 0 ∨ 130 < op) : ∀ m k, k + m ≤ 11 → K.fmtF op m k = none
  | 0, _, _ => rfl
  | m + 1, k, hk => by
    have hb : 0 ≤ K.lo k ∧ K.hi k ≤ 130 := by
      rcases (by omega : k = 0 ∨ k = 1 ∨ k = 2 ∨ k = 3 ∨ k = 4 ∨ k = 5 ∨ k = 6 ∨ k = 7 ∨ k = 8 ∨ k = 9 ∨ k = 10) with rfl | rfl | rfl | rfl | rfl | rfl | rfl | rfl | rfl | rfl | rfl <;> decide
    unfold K.fmtF
    rw [if_neg (by omega)]
    exact K.fmtF_none op h m (k + 1) (by omega)
theorem R2.Format_none (op : Int) (h : op < 0 ∨ 130 < op) : R2.Format op = 0 := by
  have hd : ∀ a b : Int, 0 ≤ a → b ≤ 130 → (decide (op ≥ a) && decide (op ≤ b)) = false := fun a b ha hb => by simp; omega
  have he : ((op == 112) || (op == 113)) = false := by simp; omega
  unfold R2.Format
  rw [hd 0 4 (by decide) (by decide), hd 16 21 (by decide) (by decide), hd 32 46 (by decide) (by decide), hd 48 62 (by decide) (by decide), hd 64 78 (by decide) (by decide), hd 80 86 (by decide) (by decide), hd 88 94 (by decide) (by decide), hd 96 109 (by decide) (by decide), hd 128 130 (by decide) (by decide), he]
  rfl
/-- The format of a number, in the program's count and in the reference's. -/
theorem K.fmt_cases (op : Int) : (K.fmt op = none ∧ R2.Format op = 0) ∨ (K.fmt op = some 0 ∧ R2.Format op = 1 ∧ 0 ≤ op ∧ op ≤ 4) ∨ (K.fmt op = some 1 ∧ R2.Format op = 2 ∧ 16 ≤ op ∧ op ≤ 21) ∨ (K.fmt op = some 2 ∧ R2.Format op = 3 ∧ 32 ≤ op ∧ op ≤ 46) ∨
    (K.fmt op = some 3 ∧ R2.Format op = 4 ∧ 48 ≤ op ∧ op ≤ 62) ∨ (K.fmt op = some 4 ∧ R2.Format op = 5 ∧ 64 ≤ op ∧ op ≤ 78) ∨ (K.fmt op = some 5 ∧ R2.Format op = 6 ∧ 80 ≤ op ∧ op ≤ 86) ∨ (K.fmt op = some 6 ∧ R2.Format op = 7 ∧ 88 ≤ op ∧ op ≤ 94) ∨
    (K.fmt op = some 7 ∧ R2.Format op = 8 ∧ 96 ≤ op ∧ op ≤ 109) ∨ (K.fmt op = some 8 ∧ R2.Format op = 9 ∧ 112 ≤ op ∧ op ≤ 113) ∨ (K.fmt op = some 9 ∧ R2.Format op = 10 ∧ op = 128) ∨ (K.fmt op = some 10 ∧ R2.Format op = 11 ∧ op = 129) ∨ (K.fmt op = some 10 ∧ R2.Format op = 12 ∧ op = 130) := by
  by_cases h : op < 0 ∨ 130 < op
  · exact .inl ⟨K.fmtF_none op h 11 0 (by omega), R2.Format_none op h⟩
  · obtain ⟨n, rfl⟩ := Int.eq_ofNat_of_zero_le (by omega : 0 ≤ op)
    have := K.fmtB_all ⟨n, by omega⟩
    unfold K.fmtB at this
    simp only [Bool.or_eq_true, Bool.and_eq_true, beq_iff_eq, decide_eq_true_eq] at this
    rcases this with ((((((((((((h | h) | h) | h) | h) | h) | h) | h) | h) | h) | h) | h) | h)
    · exact .inl h
    all_goals
      obtain ⟨⟨a, b⟩, c⟩ := h
      simp only [a, b]
      simp
      omega
def K.ser (k : Nat) (i : K.Ins) : List Int := IntKind.wrap .u8 i.op :: K.wr k i
theorem K.ser_str (k : Nat) (i : K.Ins) : strOfNums [IntKind.wrap .u8 i.op] ++ strOfNums (K.wr k i) = strOfNums (K.ser k i) := K.app _ _
theorem K.u8_bd (n : Int) : 0 ≤ IntKind.wrap .u8 n ∧ IntKind.wrap .u8 n < 256 := by
  have e : IntKind.wrap .u8 n = n % 256 := rfl
  rw [e]; omega
theorem K.wr_bd (k : Nat) (hk : k < 11) (i : K.Ins) (hi : K.In i) : ∀ x ∈ K.wr k i, 0 ≤ x ∧ x < 256 := by
  obtain ⟨d0, d1, s0, s1, x0, x1, c0, c1, i0, i1⟩ := hi
  have hR : ∀ x ∈ K.p_Reg i, 0 ≤ x ∧ x < 256 := by intro x hx; simp [K.p_Reg] at hx; omega
  have hB : ∀ x ∈ K.p_Byte i, 0 ≤ x ∧ x < 256 := by intro x hx; simp [K.p_Byte] at hx; omega
  have hP : ∀ x ∈ K.p_Pair i, 0 ≤ x ∧ x < 256 := by intro x hx; simp [K.p_Pair] at hx; omega
  have hF : ∀ x ∈ K.p_Full i, 0 ≤ x ∧ x < 256 := by intro x hx; simp [K.p_Full] at hx; omega
  have hX : ∀ x ∈ K.p_Index i, 0 ≤ x ∧ x < 256 := by
    intro x hx; simp [K.p_Index] at hx; split at hx <;> omega
  have hA : ∀ {a b : List Int}, (∀ x ∈ a, 0 ≤ x ∧ x < 256) → (∀ x ∈ b, 0 ≤ x ∧ x < 256) → ∀ x ∈ a ++ b, 0 ≤ x ∧ x < 256 := fun ha hb x hx => (List.mem_append.1 hx).elim (ha x) (hb x)
  rcases (by omega : k = 0 ∨ k = 1 ∨ k = 2 ∨ k = 3 ∨ k = 4 ∨ k = 5 ∨ k = 6 ∨ k = 7 ∨ k = 8 ∨ k = 9 ∨ k = 10) with rfl | rfl | rfl | rfl | rfl | rfl | rfl | rfl | rfl | rfl | rfl
  · intro x hx; exact absurd hx (by show x ∉ ([] : List Int); simp)
  · exact hR
  · exact hP
  · exact hA hR hB
  · exact hA hR hF
  · exact hA hP hB
  · exact hA (hA hP hX) hF
  · exact hB
  · exact hF
  · exact hB
  · exact hP
theorem K.ser_bd (k : Nat) (hk : k < 11) (i : K.Ins) (hi : K.In i) : ∀ x ∈ K.ser k i, 0 ≤ x ∧ x < 256 := fun x hx => (List.mem_cons.1 hx).elim (fun e => e ▸ K.u8_bd _) (K.wr_bd k hk i hi x)
theorem K.byt_ser (k : Nat) (hk : k < 11) (i : K.Ins) (hi : K.In i) (j : Nat) : W.byt (strOfNums (K.ser k i)).data.toList j = (K.ser k i).getD j 0 := W.byt_nums _ j (K.ser_bd k hk i hi)
theorem K.v1_0 (i : K.Ins) (hop : 0 ≤ i.op ∧ i.op < 256) (hm : 0 ≤ i.imm ∧ i.imm < 4294967296) : K.valid1 0 i = true ↔ (i.sz = 1 ∧ K.rng i = true ∧ i.d = 0 ∧ i.s = 0 ∧ i.ix = -1 ∧ i.sc = 0 ∧ i.imm = 0) := by
  unfold K.valid1
  have hl : K.len 0 = 1 := rfl
  have hw : IntKind.wrap .u8 i.op = i.op := by show i.op % 256 = i.op; omega
  cases hq : ((i.sz != (K.len 0)) || (!(K.rng i))) with
  | true =>
    rw [hl] at hq
    simp at hq ⊢
    intro h1 h2; rcases hq with hq | hq
    · exact absurd h1 hq
    · rw [h2] at hq; cases hq
  | false =>
    have hi := K.in_of hm hq
    rw [hl] at hq
    simp at hq
    rw [cond_false, K.ser_str]
    have hb := K.byt_ser 0 (by decide) i hi
    have e : K.ser 0 i = [i.op] := by unfold K.ser; rw [hw]; rfl
    rw [e] at hb
    obtain ⟨d0, d1, s0, s1, x0, x1, c0, c1, i0, i1⟩ := hi
    rw [e]
    generalize (strOfNums _).data.toList = l at *
    have hb0 := hb 0
    have hb1 := hb 1
    have hb2 := hb 2
    have hb3 := hb 3
    have hb4 := hb 4
    have hb5 := hb 5
    have hb6 := hb 6
    simp at hb0 hb1 hb2 hb3 hb4 hb5 hb6
    simp [K.rd, K.i0, K.t_none, K.t_reg, K.t_pair, K.t_small, K.t_full, K.t_plain, K.t_index, K.four, hl, hb0, hb1, hb2, hb3, hb4, hb5, hb6, hq]
    omega
theorem K.v1_1 (i : K.Ins) (hop : 0 ≤ i.op ∧ i.op < 256) (hm : 0 ≤ i.imm ∧ i.imm < 4294967296) : K.valid1 1 i = true ↔ (i.sz = 2 ∧ K.rng i = true ∧ i.s = 0 ∧ i.ix = -1 ∧ i.sc = 0 ∧ i.imm = 0) := by
  unfold K.valid1
  have hl : K.len 1 = 2 := rfl
  have hw : IntKind.wrap .u8 i.op = i.op := by show i.op % 256 = i.op; omega
  cases hq : ((i.sz != (K.len 1)) || (!(K.rng i))) with
  | true =>
    rw [hl] at hq
    simp at hq ⊢
    intro h1 h2; rcases hq with hq | hq
    · exact absurd h1 hq
    · rw [h2] at hq; cases hq
  | false =>
    have hi := K.in_of hm hq
    rw [hl] at hq
    simp at hq
    rw [cond_false, K.ser_str]
    have hb := K.byt_ser 1 (by decide) i hi
    have e : K.ser 1 i = [i.op, i.d] := by unfold K.ser; rw [hw]; rfl
    rw [e] at hb
    obtain ⟨d0, d1, s0, s1, x0, x1, c0, c1, i0, i1⟩ := hi
    rw [e]
    generalize (strOfNums _).data.toList = l at *
    have hb0 := hb 0
    have hb1 := hb 1
    have hb2 := hb 2
    have hb3 := hb 3
    have hb4 := hb 4
    have hb5 := hb 5
    have hb6 := hb 6
    simp at hb0 hb1 hb2 hb3 hb4 hb5 hb6
    simp [K.rd, K.i0, K.t_none, K.t_reg, K.t_pair, K.t_small, K.t_full, K.t_plain, K.t_index, K.four, hl, hb0, hb1, hb2, hb3, hb4, hb5, hb6, hq]
    omega
theorem K.v1_2 (i : K.Ins) (hop : 0 ≤ i.op ∧ i.op < 256) (hm : 0 ≤ i.imm ∧ i.imm < 4294967296) : K.valid1 2 i = true ↔ (i.sz = 2 ∧ K.rng i = true ∧ i.ix = -1 ∧ i.sc = 0 ∧ i.imm = 0) := by
  unfold K.valid1
  have hl : K.len 2 = 2 := rfl
  have hw : IntKind.wrap .u8 i.op = i.op := by show i.op % 256 = i.op; omega
  cases hq : ((i.sz != (K.len 2)) || (!(K.rng i))) with
  | true =>
    rw [hl] at hq
    simp at hq ⊢
    intro h1 h2; rcases hq with hq | hq
    · exact absurd h1 hq
    · rw [h2] at hq; cases hq
  | false =>
    have hi := K.in_of hm hq
    rw [hl] at hq
    simp at hq
    rw [cond_false, K.ser_str]
    have hb := K.byt_ser 2 (by decide) i hi
    have e : K.ser 2 i = [i.op, i.d * 16 + i.s] := by unfold K.ser; rw [hw]; rfl
    rw [e] at hb
    obtain ⟨d0, d1, s0, s1, x0, x1, c0, c1, i0, i1⟩ := hi
    rw [e]
    generalize (strOfNums _).data.toList = l at *
    have hb0 := hb 0
    have hb1 := hb 1
    have hb2 := hb 2
    have hb3 := hb 3
    have hb4 := hb 4
    have hb5 := hb 5
    have hb6 := hb 6
    simp at hb0 hb1 hb2 hb3 hb4 hb5 hb6
    simp [K.rd, K.i0, K.t_none, K.t_reg, K.t_pair, K.t_small, K.t_full, K.t_plain, K.t_index, K.four, hl, hb0, hb1, hb2, hb3, hb4, hb5, hb6, hq]
    omega
theorem K.v1_3 (i : K.Ins) (hop : 0 ≤ i.op ∧ i.op < 256) (hm : 0 ≤ i.imm ∧ i.imm < 4294967296) : K.valid1 3 i = true ↔ (i.sz = 3 ∧ K.rng i = true ∧ i.s = 0 ∧ i.ix = -1 ∧ i.sc = 0 ∧ W.sign (i.imm % 256) 8 = i.imm) := by
  unfold K.valid1
  have hl : K.len 3 = 3 := rfl
  have hw : IntKind.wrap .u8 i.op = i.op := by show i.op % 256 = i.op; omega
  cases hq : ((i.sz != (K.len 3)) || (!(K.rng i))) with
  | true =>
    rw [hl] at hq
    simp at hq ⊢
    intro h1 h2; rcases hq with hq | hq
    · exact absurd h1 hq
    · rw [h2] at hq; cases hq
  | false =>
    have hi := K.in_of hm hq
    rw [hl] at hq
    simp at hq
    rw [cond_false, K.ser_str]
    have hb := K.byt_ser 3 (by decide) i hi
    have e : K.ser 3 i = [i.op, i.d, i.imm % 256] := by unfold K.ser; rw [hw]; rfl
    rw [e] at hb
    obtain ⟨d0, d1, s0, s1, x0, x1, c0, c1, i0, i1⟩ := hi
    rw [e]
    generalize (strOfNums _).data.toList = l at *
    have hb0 := hb 0
    have hb1 := hb 1
    have hb2 := hb 2
    have hb3 := hb 3
    have hb4 := hb 4
    have hb5 := hb 5
    have hb6 := hb 6
    simp at hb0 hb1 hb2 hb3 hb4 hb5 hb6
    simp [K.rd, K.i0, K.t_none, K.t_reg, K.t_pair, K.t_small, K.t_full, K.t_plain, K.t_index, K.four, hl, hb0, hb1, hb2, hb3, hb4, hb5, hb6, hq]
    omega
theorem K.v1_4 (i : K.Ins) (hop : 0 ≤ i.op ∧ i.op < 256) (hm : 0 ≤ i.imm ∧ i.imm < 4294967296) : K.valid1 4 i = true ↔ (i.sz = 6 ∧ K.rng i = true ∧ i.s = 0 ∧ i.ix = -1 ∧ i.sc = 0) := by
  unfold K.valid1
  have hl : K.len 4 = 6 := rfl
  have hw : IntKind.wrap .u8 i.op = i.op := by show i.op % 256 = i.op; omega
  cases hq : ((i.sz != (K.len 4)) || (!(K.rng i))) with
  | true =>
    rw [hl] at hq
    simp at hq ⊢
    intro h1 h2; rcases hq with hq | hq
    · exact absurd h1 hq
    · rw [h2] at hq; cases hq
  | false =>
    have hi := K.in_of hm hq
    rw [hl] at hq
    simp at hq
    rw [cond_false, K.ser_str]
    have hb := K.byt_ser 4 (by decide) i hi
    have e : K.ser 4 i = [i.op, i.d, i.imm % 256, i.imm / 256 % 256, i.imm / 65536 % 256, i.imm / 16777216 % 256] := by unfold K.ser; rw [hw]; rfl
    rw [e] at hb
    obtain ⟨d0, d1, s0, s1, x0, x1, c0, c1, i0, i1⟩ := hi
    rw [e]
    generalize (strOfNums _).data.toList = l at *
    have hb0 := hb 0
    have hb1 := hb 1
    have hb2 := hb 2
    have hb3 := hb 3
    have hb4 := hb 4
    have hb5 := hb 5
    have hb6 := hb 6
    simp at hb0 hb1 hb2 hb3 hb4 hb5 hb6
    simp [K.rd, K.i0, K.t_none, K.t_reg, K.t_pair, K.t_small, K.t_full, K.t_plain, K.t_index, K.four, hl, hb0, hb1, hb2, hb3, hb4, hb5, hb6, hq]
    omega
theorem K.v1_5 (i : K.Ins) (hop : 0 ≤ i.op ∧ i.op < 256) (hm : 0 ≤ i.imm ∧ i.imm < 4294967296) : K.valid1 5 i = true ↔ (i.sz = 3 ∧ K.rng i = true ∧ i.ix = -1 ∧ i.sc = 0 ∧ W.sign (i.imm % 256) 8 = i.imm) := by
  unfold K.valid1
  have hl : K.len 5 = 3 := rfl
  have hw : IntKind.wrap .u8 i.op = i.op := by show i.op % 256 = i.op; omega
  cases hq : ((i.sz != (K.len 5)) || (!(K.rng i))) with
  | true =>
    rw [hl] at hq
    simp at hq ⊢
    intro h1 h2; rcases hq with hq | hq
    · exact absurd h1 hq
    · rw [h2] at hq; cases hq
  | false =>
    have hi := K.in_of hm hq
    rw [hl] at hq
    simp at hq
    rw [cond_false, K.ser_str]
    have hb := K.byt_ser 5 (by decide) i hi
    have e : K.ser 5 i = [i.op, i.d * 16 + i.s, i.imm % 256] := by unfold K.ser; rw [hw]; rfl
    rw [e] at hb
    obtain ⟨d0, d1, s0, s1, x0, x1, c0, c1, i0, i1⟩ := hi
    rw [e]
    generalize (strOfNums _).data.toList = l at *
    have hb0 := hb 0
    have hb1 := hb 1
    have hb2 := hb 2
    have hb3 := hb 3
    have hb4 := hb 4
    have hb5 := hb 5
    have hb6 := hb 6
    simp at hb0 hb1 hb2 hb3 hb4 hb5 hb6
    simp [K.rd, K.i0, K.t_none, K.t_reg, K.t_pair, K.t_small, K.t_full, K.t_plain, K.t_index, K.four, hl, hb0, hb1, hb2, hb3, hb4, hb5, hb6, hq]
    omega
theorem K.v1_6 (i : K.Ins) (hop : 0 ≤ i.op ∧ i.op < 256) (hm : 0 ≤ i.imm ∧ i.imm < 4294967296) : K.valid1 6 i = true ↔ (i.sz = 7 ∧ K.rng i = true ∧ (i.ix = -1 → i.sc = 0)) := by
  unfold K.valid1
  have hl : K.len 6 = 7 := rfl
  have hw : IntKind.wrap .u8 i.op = i.op := by show i.op % 256 = i.op; omega
  cases hq : ((i.sz != (K.len 6)) || (!(K.rng i))) with
  | true =>
    rw [hl] at hq
    simp at hq ⊢
    intro h1 h2; rcases hq with hq | hq
    · exact absurd h1 hq
    · rw [h2] at hq; cases hq
  | false =>
    have hi := K.in_of hm hq
    rw [hl] at hq
    simp at hq
    rw [cond_false, K.ser_str]
    have hb := K.byt_ser 6 (by decide) i hi
    have e : K.ser 6 i = [i.op, i.d * 16 + i.s, if i.ix < 0 then 8 else i.sc * 16 + i.ix, i.imm % 256, i.imm / 256 % 256, i.imm / 65536 % 256, i.imm / 16777216 % 256] := by unfold K.ser; rw [hw]; rfl
    rw [e] at hb
    obtain ⟨d0, d1, s0, s1, x0, x1, c0, c1, i0, i1⟩ := hi
    rw [e]
    generalize (strOfNums _).data.toList = l at *
    have hb0 := hb 0
    have hb1 := hb 1
    have hb2 := hb 2
    have hb3 := hb 3
    have hb4 := hb 4
    have hb5 := hb 5
    have hb6 := hb 6
    simp at hb0 hb1 hb2 hb3 hb4 hb5 hb6
    by_cases hx : i.ix < 0
    · rw [if_pos hx] at hb2
      have hx' : i.ix = -1 := by omega
      simp [K.rd, K.i0, K.t_none, K.t_reg, K.t_pair, K.t_small, K.t_full, K.t_plain, K.t_index, K.four, hl, hb0, hb1, hb2, hb3, hb4, hb5, hb6, hq]
      omega
    · rw [if_neg hx] at hb2
      have h8 : ¬ (i.sc * 16 + i.ix = 8) := by omega
      simp [K.rd, K.i0, K.t_none, K.t_reg, K.t_pair, K.t_small, K.t_full, K.t_plain, K.t_index, K.four, hl, hb0, hb1, hb2, hb3, hb4, hb5, hb6, hq, h8]
      omega
theorem K.v1_7 (i : K.Ins) (hop : 0 ≤ i.op ∧ i.op < 256) (hm : 0 ≤ i.imm ∧ i.imm < 4294967296) : K.valid1 7 i = true ↔ (i.sz = 2 ∧ K.rng i = true ∧ i.d = 0 ∧ i.s = 0 ∧ i.ix = -1 ∧ i.sc = 0 ∧ W.sign (i.imm % 256) 8 = i.imm) := by
  unfold K.valid1
  have hl : K.len 7 = 2 := rfl
  have hw : IntKind.wrap .u8 i.op = i.op := by show i.op % 256 = i.op; omega
  cases hq : ((i.sz != (K.len 7)) || (!(K.rng i))) with
  | true =>
    rw [hl] at hq
    simp at hq ⊢
    intro h1 h2; rcases hq with hq | hq
    · exact absurd h1 hq
    · rw [h2] at hq; cases hq
  | false =>
    have hi := K.in_of hm hq
    rw [hl] at hq
    simp at hq
    rw [cond_false, K.ser_str]
    have hb := K.byt_ser 7 (by decide) i hi
    have e : K.ser 7 i = [i.op, i.imm % 256] := by unfold K.ser; rw [hw]; rfl
    rw [e] at hb
    obtain ⟨d0, d1, s0, s1, x0, x1, c0, c1, i0, i1⟩ := hi
    rw [e]
    generalize (strOfNums _).data.toList = l at *
    have hb0 := hb 0
    have hb1 := hb 1
    have hb2 := hb 2
    have hb3 := hb 3
    have hb4 := hb 4
    have hb5 := hb 5
    have hb6 := hb 6
    simp at hb0 hb1 hb2 hb3 hb4 hb5 hb6
    simp [K.rd, K.i0, K.t_none, K.t_reg, K.t_pair, K.t_small, K.t_full, K.t_plain, K.t_index, K.four, hl, hb0, hb1, hb2, hb3, hb4, hb5, hb6, hq]
    omega
theorem K.v1_8 (i : K.Ins) (hop : 0 ≤ i.op ∧ i.op < 256) (hm : 0 ≤ i.imm ∧ i.imm < 4294967296) : K.valid1 8 i = true ↔ (i.sz = 5 ∧ K.rng i = true ∧ i.d = 0 ∧ i.s = 0 ∧ i.ix = -1 ∧ i.sc = 0) := by
  unfold K.valid1
  have hl : K.len 8 = 5 := rfl
  have hw : IntKind.wrap .u8 i.op = i.op := by show i.op % 256 = i.op; omega
  cases hq : ((i.sz != (K.len 8)) || (!(K.rng i))) with
  | true =>
    rw [hl] at hq
    simp at hq ⊢
    intro h1 h2; rcases hq with hq | hq
    · exact absurd h1 hq
    · rw [h2] at hq; cases hq
  | false =>
    have hi := K.in_of hm hq
    rw [hl] at hq
    simp at hq
    rw [cond_false, K.ser_str]
    have hb := K.byt_ser 8 (by decide) i hi
    have e : K.ser 8 i = [i.op, i.imm % 256, i.imm / 256 % 256, i.imm / 65536 % 256, i.imm / 16777216 % 256] := by unfold K.ser; rw [hw]; rfl
    rw [e] at hb
    obtain ⟨d0, d1, s0, s1, x0, x1, c0, c1, i0, i1⟩ := hi
    rw [e]
    generalize (strOfNums _).data.toList = l at *
    have hb0 := hb 0
    have hb1 := hb 1
    have hb2 := hb 2
    have hb3 := hb 3
    have hb4 := hb 4
    have hb5 := hb 5
    have hb6 := hb 6
    simp at hb0 hb1 hb2 hb3 hb4 hb5 hb6
    simp [K.rd, K.i0, K.t_none, K.t_reg, K.t_pair, K.t_small, K.t_full, K.t_plain, K.t_index, K.four, hl, hb0, hb1, hb2, hb3, hb4, hb5, hb6, hq]
    omega
theorem K.v1_9 (i : K.Ins) (hop : 0 ≤ i.op ∧ i.op < 256) (hm : 0 ≤ i.imm ∧ i.imm < 4294967296) : K.valid1 9 i = true ↔ (i.sz = 2 ∧ K.rng i = true ∧ i.d = 0 ∧ i.s = 0 ∧ i.ix = -1 ∧ i.sc = 0 ∧ i.imm < 256) := by
  unfold K.valid1
  have hl : K.len 9 = 2 := rfl
  have hw : IntKind.wrap .u8 i.op = i.op := by show i.op % 256 = i.op; omega
  cases hq : ((i.sz != (K.len 9)) || (!(K.rng i))) with
  | true =>
    rw [hl] at hq
    simp at hq ⊢
    intro h1 h2; rcases hq with hq | hq
    · exact absurd h1 hq
    · rw [h2] at hq; cases hq
  | false =>
    have hi := K.in_of hm hq
    rw [hl] at hq
    simp at hq
    rw [cond_false, K.ser_str]
    have hb := K.byt_ser 9 (by decide) i hi
    have e : K.ser 9 i = [i.op, i.imm % 256] := by unfold K.ser; rw [hw]; rfl
    rw [e] at hb
    obtain ⟨d0, d1, s0, s1, x0, x1, c0, c1, i0, i1⟩ := hi
    rw [e]
    generalize (strOfNums _).data.toList = l at *
    have hb0 := hb 0
    have hb1 := hb 1
    have hb2 := hb 2
    have hb3 := hb 3
    have hb4 := hb 4
    have hb5 := hb 5
    have hb6 := hb 6
    simp at hb0 hb1 hb2 hb3 hb4 hb5 hb6
    simp [K.rd, K.i0, K.t_none, K.t_reg, K.t_pair, K.t_small, K.t_full, K.t_plain, K.t_index, K.four, hl, hb0, hb1, hb2, hb3, hb4, hb5, hb6, hq]
    omega
theorem K.v1_10 (i : K.Ins) (hop : 0 ≤ i.op ∧ i.op < 256) (hm : 0 ≤ i.imm ∧ i.imm < 4294967296) : K.valid1 10 i = true ↔ (i.sz = 2 ∧ K.rng i = true ∧ i.ix = -1 ∧ i.sc = 0 ∧ i.imm = 0) := by
  unfold K.valid1
  have hl : K.len 10 = 2 := rfl
  have hw : IntKind.wrap .u8 i.op = i.op := by show i.op % 256 = i.op; omega
  cases hq : ((i.sz != (K.len 10)) || (!(K.rng i))) with
  | true =>
    rw [hl] at hq
    simp at hq ⊢
    intro h1 h2; rcases hq with hq | hq
    · exact absurd h1 hq
    · rw [h2] at hq; cases hq
  | false =>
    have hi := K.in_of hm hq
    rw [hl] at hq
    simp at hq
    rw [cond_false, K.ser_str]
    have hb := K.byt_ser 10 (by decide) i hi
    have e : K.ser 10 i = [i.op, i.d * 16 + i.s] := by unfold K.ser; rw [hw]; rfl
    rw [e] at hb
    obtain ⟨d0, d1, s0, s1, x0, x1, c0, c1, i0, i1⟩ := hi
    rw [e]
    generalize (strOfNums _).data.toList = l at *
    have hb0 := hb 0
    have hb1 := hb 1
    have hb2 := hb 2
    have hb3 := hb 3
    have hb4 := hb 4
    have hb5 := hb 5
    have hb6 := hb 6
    simp at hb0 hb1 hb2 hb3 hb4 hb5 hb6
    simp [K.rd, K.i0, K.t_none, K.t_reg, K.t_pair, K.t_small, K.t_full, K.t_plain, K.t_index, K.four, hl, hb0, hb1, hb2, hb3, hb4, hb5, hb6, hq]
    omega
theorem K.sign8F : ∀ n : Fin 256, W.sign (n.val : Int) 8 = if n.val < 128 then (n.val : Int) else n.val + 4294967040 := by decide +kernel
theorem K.sign8 (b : Int) (h0 : 0 ≤ b) (h1 : b < 256) : W.sign b 8 = if b < 128 then b else b + 4294967040 := by
  obtain ⟨n, rfl⟩ := Int.eq_ofNat_of_zero_le h0
  have := K.sign8F ⟨n, by omega⟩
  simp only at this
  rw [this]
  by_cases h : n < 128
  · rw [if_pos h, if_pos (by omega)]
  · rw [if_neg h, if_neg (by omega)]
theorem K.sign_iff (n : Int) (h0 : 0 ≤ n) (h1 : n < 4294967296) : W.sign (n % 256) 8 = n ↔ R2.signed n = true := by
  rw [K.sign8 _ (by omega) (by omega)]
  unfold R2.signed
  simp only [Bool.or_eq_true, decide_eq_true_eq]
  split <;> omega
theorem K.w8 (n : Int) (h0 : 0 ≤ n) (h1 : n < 256) : IntKind.wrap .u8 n = n := by show n % 256 = n; omega
theorem K.w64 (n : Int) (h0 : -9223372036854775808 ≤ n) (h1 : n < 9223372036854775808) : IntKind.wrap .i64 n = n := IntWalk.i64_in n (by omega)
theorem K.valid_eq (i : K.Ins) (hm : 0 ≤ i.imm ∧ i.imm < 4294967296) : K.valid i = R2.Valid i := by
  rw [Bool.eq_iff_iff]
  have hsg := K.sign_iff i.imm hm.1 hm.2
  unfold K.valid
  rcases K.fmt_cases i.op with ⟨hk, hf⟩ | ⟨hk, hf, h1, h2⟩ | ⟨hk, hf, h1, h2⟩ | ⟨hk, hf, h1, h2⟩ | ⟨hk, hf, h1, h2⟩ | ⟨hk, hf, h1, h2⟩ | ⟨hk, hf, h1, h2⟩ | ⟨hk, hf, h1, h2⟩ | ⟨hk, hf, h1, h2⟩ | ⟨hk, hf, h1, h2⟩ | ⟨hk, hf, h1⟩ | ⟨hk, hf, h1⟩ | ⟨hk, hf, h1⟩
  · rw [hk]; unfold R2.Valid; rw [hf]; simp
  · rw [hk]
    have e1 := K.w8 i.op (by omega) (by omega)
    have e2 := K.w64 i.op (by omega) (by omega)
    have hz : R2.Size (IntKind.wrap .u8 i.op) = 1 := by unfold R2.Size; rw [e1, e2, hf]; rfl
    have hmo : K.most i.op = 7 := by unfold K.most; rw [if_neg (by omega), if_neg (by omega)]
    show K.valid1 0 i = true ↔ _
    rw [K.v1_0 i ⟨by omega, by omega⟩ hm]
    unfold K.rng R2.Valid R2.reg
    rw [hf, hz, hmo]
    simp only [K.in_one, hsg]
    cases R2.signed i.imm <;> simp <;> omega
  · rw [hk]
    have e1 := K.w8 i.op (by omega) (by omega)
    have e2 := K.w64 i.op (by omega) (by omega)
    have hz : R2.Size (IntKind.wrap .u8 i.op) = 2 := by unfold R2.Size; rw [e1, e2, hf]; rfl
    have hmo : K.most i.op = 7 := by unfold K.most; rw [if_neg (by omega), if_neg (by omega)]
    show K.valid1 1 i = true ↔ _
    rw [K.v1_1 i ⟨by omega, by omega⟩ hm]
    unfold K.rng R2.Valid R2.reg
    rw [hf, hz, hmo]
    simp only [K.in_one, hsg]
    cases R2.signed i.imm <;> simp <;> omega
  · rw [hk]
    have e1 := K.w8 i.op (by omega) (by omega)
    have e2 := K.w64 i.op (by omega) (by omega)
    have hz : R2.Size (IntKind.wrap .u8 i.op) = 2 := by unfold R2.Size; rw [e1, e2, hf]; rfl
    have hmo : K.most i.op = 7 := by unfold K.most; rw [if_neg (by omega), if_neg (by omega)]
    show K.valid1 2 i = true ↔ _
    rw [K.v1_2 i ⟨by omega, by omega⟩ hm]
    unfold K.rng R2.Valid R2.reg
    rw [hf, hz, hmo]
    simp only [K.in_one, hsg]
    cases R2.signed i.imm <;> simp <;> omega
  · rw [hk]
    have e1 := K.w8 i.op (by omega) (by omega)
    have e2 := K.w64 i.op (by omega) (by omega)
    have hz : R2.Size (IntKind.wrap .u8 i.op) = 3 := by unfold R2.Size; rw [e1, e2, hf]; rfl
    have hmo : K.most i.op = 7 := by unfold K.most; rw [if_neg (by omega), if_neg (by omega)]
    show K.valid1 3 i = true ↔ _
    rw [K.v1_3 i ⟨by omega, by omega⟩ hm]
    unfold K.rng R2.Valid R2.reg
    rw [hf, hz, hmo]
    simp only [K.in_one, hsg]
    cases R2.signed i.imm <;> simp <;> omega
  · rw [hk]
    have e1 := K.w8 i.op (by omega) (by omega)
    have e2 := K.w64 i.op (by omega) (by omega)
    have hz : R2.Size (IntKind.wrap .u8 i.op) = 6 := by unfold R2.Size; rw [e1, e2, hf]; rfl
    have hmo : K.most i.op = 7 := by unfold K.most; rw [if_neg (by omega), if_neg (by omega)]
    show K.valid1 4 i = true ↔ _
    rw [K.v1_4 i ⟨by omega, by omega⟩ hm]
    unfold K.rng R2.Valid R2.reg
    rw [hf, hz, hmo]
    simp only [K.in_one, hsg]
    cases R2.signed i.imm <;> simp <;> omega
  · rw [hk]
    have e1 := K.w8 i.op (by omega) (by omega)
    have e2 := K.w64 i.op (by omega) (by omega)
    have hz : R2.Size (IntKind.wrap .u8 i.op) = 3 := by unfold R2.Size; rw [e1, e2, hf]; rfl
    have hmo : K.most i.op = 7 := by unfold K.most; rw [if_neg (by omega), if_neg (by omega)]
    show K.valid1 5 i = true ↔ _
    rw [K.v1_5 i ⟨by omega, by omega⟩ hm]
    unfold K.rng R2.Valid R2.reg
    rw [hf, hz, hmo]
    simp only [K.in_one, hsg]
    cases R2.signed i.imm <;> simp <;> omega
  · rw [hk]
    have e1 := K.w8 i.op (by omega) (by omega)
    have e2 := K.w64 i.op (by omega) (by omega)
    have hz : R2.Size (IntKind.wrap .u8 i.op) = 7 := by unfold R2.Size; rw [e1, e2, hf]; rfl
    have hmo : K.most i.op = 7 := by unfold K.most; rw [if_neg (by omega), if_neg (by omega)]
    show K.valid1 6 i = true ↔ _
    rw [K.v1_6 i ⟨by omega, by omega⟩ hm]
    unfold K.rng R2.Valid R2.reg
    rw [hf, hz, hmo]
    simp only [K.in_one, hsg]
    by_cases hx : i.ix = -1
    · simp [hx]; omega
    · simp [hx]; omega
  · rw [hk]
    have e1 := K.w8 i.op (by omega) (by omega)
    have e2 := K.w64 i.op (by omega) (by omega)
    have hz : R2.Size (IntKind.wrap .u8 i.op) = 2 := by unfold R2.Size; rw [e1, e2, hf]; rfl
    have hmo : K.most i.op = 7 := by unfold K.most; rw [if_neg (by omega), if_neg (by omega)]
    show K.valid1 7 i = true ↔ _
    rw [K.v1_7 i ⟨by omega, by omega⟩ hm]
    unfold K.rng R2.Valid R2.reg
    rw [hf, hz, hmo]
    simp only [K.in_one, hsg]
    cases R2.signed i.imm <;> simp <;> omega
  · rw [hk]
    have e1 := K.w8 i.op (by omega) (by omega)
    have e2 := K.w64 i.op (by omega) (by omega)
    have hz : R2.Size (IntKind.wrap .u8 i.op) = 5 := by unfold R2.Size; rw [e1, e2, hf]; rfl
    have hmo : K.most i.op = 7 := by unfold K.most; rw [if_neg (by omega), if_neg (by omega)]
    show K.valid1 8 i = true ↔ _
    rw [K.v1_8 i ⟨by omega, by omega⟩ hm]
    unfold K.rng R2.Valid R2.reg
    rw [hf, hz, hmo]
    simp only [K.in_one, hsg]
    cases R2.signed i.imm <;> simp <;> omega
  · rw [hk]
    have e1 := K.w8 i.op (by omega) (by omega)
    have e2 := K.w64 i.op (by omega) (by omega)
    have hz : R2.Size (IntKind.wrap .u8 i.op) = 2 := by unfold R2.Size; rw [e1, e2, hf]; rfl
    have hmo : K.most i.op = 7 := by unfold K.most; rw [if_neg (by omega), if_neg (by omega)]
    show K.valid1 9 i = true ↔ _
    rw [K.v1_9 i ⟨by omega, by omega⟩ hm]
    unfold K.rng R2.Valid R2.reg
    rw [hf, hz, hmo]
    simp only [K.in_one, hsg]
    cases R2.signed i.imm <;> simp <;> omega
  · rw [hk]
    have e1 := K.w8 i.op (by omega) (by omega)
    have e2 := K.w64 i.op (by omega) (by omega)
    have hz : R2.Size (IntKind.wrap .u8 i.op) = 2 := by unfold R2.Size; rw [e1, e2, hf]; rfl
    have hmo : K.most i.op = 3 := by unfold K.most; rw [if_pos h1]
    show K.valid1 10 i = true ↔ _
    rw [K.v1_10 i ⟨by omega, by omega⟩ hm]
    unfold K.rng R2.Valid R2.reg
    rw [hf, hz, hmo]
    simp only [K.in_one, hsg]
    cases R2.signed i.imm <;> simp <;> omega
  · rw [hk]
    have e1 := K.w8 i.op (by omega) (by omega)
    have e2 := K.w64 i.op (by omega) (by omega)
    have hz : R2.Size (IntKind.wrap .u8 i.op) = 2 := by unfold R2.Size; rw [e1, e2, hf]; rfl
    have hmo : K.most i.op = 4 := by unfold K.most; rw [if_neg (by omega), if_pos h1]
    show K.valid1 10 i = true ↔ _
    rw [K.v1_10 i ⟨by omega, by omega⟩ hm]
    unfold K.rng R2.Valid R2.reg
    rw [hf, hz, hmo]
    simp only [K.in_one, hsg]
    cases R2.signed i.imm <;> simp <;> omega
theorem K.wu8 (n : Int) : IntKind.wrap .u8 n = n % 256 := rfl
theorem K.wu32 (n : Int) : IntKind.wrap .u32 n = n % 4294967296 := rfl
theorem K.str_congr {a b : List Int} (h : a = b) : strOfNums a = strOfNums b := by rw [h]
theorem K.encode_eq (i : K.Ins) (hm : 0 ≤ i.imm ∧ i.imm < 4294967296) : K.encode i = R2.Encode i := by
  have hv := K.valid_eq i hm
  unfold K.valid at hv
  unfold K.encode
  rcases K.fmt_cases i.op with ⟨hk, hf⟩ | ⟨hk, hf, h1, h2⟩ | ⟨hk, hf, h1, h2⟩ | ⟨hk, hf, h1, h2⟩ | ⟨hk, hf, h1, h2⟩ | ⟨hk, hf, h1, h2⟩ | ⟨hk, hf, h1, h2⟩ | ⟨hk, hf, h1, h2⟩ | ⟨hk, hf, h1, h2⟩ | ⟨hk, hf, h1, h2⟩ | ⟨hk, hf, h1⟩ | ⟨hk, hf, h1⟩ | ⟨hk, hf, h1⟩
  · rw [hk] at hv ⊢
    have hv : false = R2.Valid i := hv
    unfold K.encode0 R2.Encode; rw [← hv]; rfl
  · rw [hk] at hv ⊢
    have hv : K.valid1 0 i = R2.Valid i := hv
    show K.encode1 0 i = _
    unfold K.encode1 R2.Encode
    rw [← hv]
    cases hq : (!(K.valid1 0 i)) with
    | true => rfl
    | false =>
      obtain ⟨d0, d1, s0, s1, x0, x1, c0, c1, i0, i1⟩ := K.in_valid hm hq
      have e1 := K.w8 i.op (by omega) (by omega)
      have e2 := K.w64 (16 * i.d) (by omega) (by omega)
      have e3 := K.w64 (16 * i.d + i.s) (by omega) (by omega)
      have e4 := K.w64 (16 * i.sc) (by omega) (by omega)
      have e : K.ser 0 i = [i.op] := by unfold K.ser; rw [e1]; rfl
      rw [cond_false, cond_false, K.ser_str, e, hf]
      simp only [e1, e2, e3, K.wu8, K.wu32, Int.tdiv_eq_ediv_of_nonneg i0, Int.reduceBEq, cond_false, cond_true]
      all_goals (refine congrArg (·, 0) (K.str_congr ?_); simp only [List.cons.injEq, and_true, true_and] <;> omega)
  · rw [hk] at hv ⊢
    have hv : K.valid1 1 i = R2.Valid i := hv
    show K.encode1 1 i = _
    unfold K.encode1 R2.Encode
    rw [← hv]
    cases hq : (!(K.valid1 1 i)) with
    | true => rfl
    | false =>
      obtain ⟨d0, d1, s0, s1, x0, x1, c0, c1, i0, i1⟩ := K.in_valid hm hq
      have e1 := K.w8 i.op (by omega) (by omega)
      have e2 := K.w64 (16 * i.d) (by omega) (by omega)
      have e3 := K.w64 (16 * i.d + i.s) (by omega) (by omega)
      have e4 := K.w64 (16 * i.sc) (by omega) (by omega)
      have e : K.ser 1 i = [i.op, i.d] := by unfold K.ser; rw [e1]; rfl
      rw [cond_false, cond_false, K.ser_str, e, hf]
      simp only [e1, e2, e3, K.wu8, K.wu32, Int.tdiv_eq_ediv_of_nonneg i0, Int.reduceBEq, cond_false, cond_true]
      all_goals (refine congrArg (·, 0) (K.str_congr ?_); simp only [List.cons.injEq, and_true, true_and] <;> omega)
  · rw [hk] at hv ⊢
    have hv : K.valid1 2 i = R2.Valid i := hv
    show K.encode1 2 i = _
    unfold K.encode1 R2.Encode
    rw [← hv]
    cases hq : (!(K.valid1 2 i)) with
    | true => rfl
    | false =>
      obtain ⟨d0, d1, s0, s1, x0, x1, c0, c1, i0, i1⟩ := K.in_valid hm hq
      have e1 := K.w8 i.op (by omega) (by omega)
      have e2 := K.w64 (16 * i.d) (by omega) (by omega)
      have e3 := K.w64 (16 * i.d + i.s) (by omega) (by omega)
      have e4 := K.w64 (16 * i.sc) (by omega) (by omega)
      have e : K.ser 2 i = [i.op, i.d * 16 + i.s] := by unfold K.ser; rw [e1]; rfl
      rw [cond_false, cond_false, K.ser_str, e, hf]
      simp only [e1, e2, e3, K.wu8, K.wu32, Int.tdiv_eq_ediv_of_nonneg i0, Int.reduceBEq, cond_false, cond_true]
      all_goals (refine congrArg (·, 0) (K.str_congr ?_); simp only [List.cons.injEq, and_true, true_and] <;> omega)
  · rw [hk] at hv ⊢
    have hv : K.valid1 3 i = R2.Valid i := hv
    show K.encode1 3 i = _
    unfold K.encode1 R2.Encode
    rw [← hv]
    cases hq : (!(K.valid1 3 i)) with
    | true => rfl
    | false =>
      obtain ⟨d0, d1, s0, s1, x0, x1, c0, c1, i0, i1⟩ := K.in_valid hm hq
      have e1 := K.w8 i.op (by omega) (by omega)
      have e2 := K.w64 (16 * i.d) (by omega) (by omega)
      have e3 := K.w64 (16 * i.d + i.s) (by omega) (by omega)
      have e4 := K.w64 (16 * i.sc) (by omega) (by omega)
      have e : K.ser 3 i = [i.op, i.d, i.imm % 256] := by unfold K.ser; rw [e1]; rfl
      rw [cond_false, cond_false, K.ser_str, e, hf]
      simp only [e1, e2, e3, K.wu8, K.wu32, Int.tdiv_eq_ediv_of_nonneg i0, Int.reduceBEq, cond_false, cond_true]
      all_goals (refine congrArg (·, 0) (K.str_congr ?_); simp only [List.cons.injEq, and_true, true_and] <;> omega)
  · rw [hk] at hv ⊢
    have hv : K.valid1 4 i = R2.Valid i := hv
    show K.encode1 4 i = _
    unfold K.encode1 R2.Encode
    rw [← hv]
    cases hq : (!(K.valid1 4 i)) with
    | true => rfl
    | false =>
      obtain ⟨d0, d1, s0, s1, x0, x1, c0, c1, i0, i1⟩ := K.in_valid hm hq
      have e1 := K.w8 i.op (by omega) (by omega)
      have e2 := K.w64 (16 * i.d) (by omega) (by omega)
      have e3 := K.w64 (16 * i.d + i.s) (by omega) (by omega)
      have e4 := K.w64 (16 * i.sc) (by omega) (by omega)
      have e : K.ser 4 i = [i.op, i.d, i.imm % 256, i.imm / 256 % 256, i.imm / 65536 % 256, i.imm / 16777216 % 256] := by unfold K.ser; rw [e1]; rfl
      rw [cond_false, cond_false, K.ser_str, e, hf]
      simp only [e1, e2, e3, K.wu8, K.wu32, Int.tdiv_eq_ediv_of_nonneg i0, Int.reduceBEq, cond_false, cond_true]
      all_goals (refine congrArg (·, 0) (K.str_congr ?_); simp only [List.cons.injEq, and_true, true_and] <;> omega)
  · rw [hk] at hv ⊢
    have hv : K.valid1 5 i = R2.Valid i := hv
    show K.encode1 5 i = _
    unfold K.encode1 R2.Encode
    rw [← hv]
    cases hq : (!(K.valid1 5 i)) with
    | true => rfl
    | false =>
      obtain ⟨d0, d1, s0, s1, x0, x1, c0, c1, i0, i1⟩ := K.in_valid hm hq
      have e1 := K.w8 i.op (by omega) (by omega)
      have e2 := K.w64 (16 * i.d) (by omega) (by omega)
      have e3 := K.w64 (16 * i.d + i.s) (by omega) (by omega)
      have e4 := K.w64 (16 * i.sc) (by omega) (by omega)
      have e : K.ser 5 i = [i.op, i.d * 16 + i.s, i.imm % 256] := by unfold K.ser; rw [e1]; rfl
      rw [cond_false, cond_false, K.ser_str, e, hf]
      simp only [e1, e2, e3, K.wu8, K.wu32, Int.tdiv_eq_ediv_of_nonneg i0, Int.reduceBEq, cond_false, cond_true]
      all_goals (refine congrArg (·, 0) (K.str_congr ?_); simp only [List.cons.injEq, and_true, true_and] <;> omega)
  · rw [hk] at hv ⊢
    have hv : K.valid1 6 i = R2.Valid i := hv
    show K.encode1 6 i = _
    unfold K.encode1 R2.Encode
    rw [← hv]
    cases hq : (!(K.valid1 6 i)) with
    | true => rfl
    | false =>
      obtain ⟨d0, d1, s0, s1, x0, x1, c0, c1, i0, i1⟩ := K.in_valid hm hq
      have e1 := K.w8 i.op (by omega) (by omega)
      have e2 := K.w64 (16 * i.d) (by omega) (by omega)
      have e3 := K.w64 (16 * i.d + i.s) (by omega) (by omega)
      have e4 := K.w64 (16 * i.sc) (by omega) (by omega)
      have e : K.ser 6 i = [i.op, i.d * 16 + i.s, if i.ix < 0 then 8 else i.sc * 16 + i.ix, i.imm % 256, i.imm / 256 % 256, i.imm / 65536 % 256, i.imm / 16777216 % 256] := by unfold K.ser; rw [e1]; rfl
      rw [cond_false, cond_false, K.ser_str, e, hf]
      simp only [e1, e2, e3, K.wu8, K.wu32, Int.tdiv_eq_ediv_of_nonneg i0, Int.reduceBEq, cond_false, cond_true]
      by_cases hx : i.ix < 0
      · rw [if_pos hx, show decide (i.ix ≥ 0) = false by simp; omega, cond_false]
        refine congrArg (·, 0) (K.str_congr ?_)
        simp only [List.cons.injEq, and_true, true_and] <;> omega
      · have e5 := K.w64 (i.ix + 16 * i.sc) (by omega) (by omega)
        rw [if_neg hx, show decide (i.ix ≥ 0) = true by simp; omega, cond_true]
        simp only [e4, e5]
        refine congrArg (·, 0) (K.str_congr ?_)
        simp only [List.cons.injEq, and_true, true_and] <;> omega
  · rw [hk] at hv ⊢
    have hv : K.valid1 7 i = R2.Valid i := hv
    show K.encode1 7 i = _
    unfold K.encode1 R2.Encode
    rw [← hv]
    cases hq : (!(K.valid1 7 i)) with
    | true => rfl
    | false =>
      obtain ⟨d0, d1, s0, s1, x0, x1, c0, c1, i0, i1⟩ := K.in_valid hm hq
      have e1 := K.w8 i.op (by omega) (by omega)
      have e2 := K.w64 (16 * i.d) (by omega) (by omega)
      have e3 := K.w64 (16 * i.d + i.s) (by omega) (by omega)
      have e4 := K.w64 (16 * i.sc) (by omega) (by omega)
      have e : K.ser 7 i = [i.op, i.imm % 256] := by unfold K.ser; rw [e1]; rfl
      rw [cond_false, cond_false, K.ser_str, e, hf]
      simp only [e1, e2, e3, K.wu8, K.wu32, Int.tdiv_eq_ediv_of_nonneg i0, Int.reduceBEq, cond_false, cond_true]
      all_goals (refine congrArg (·, 0) (K.str_congr ?_); simp only [List.cons.injEq, and_true, true_and] <;> omega)
  · rw [hk] at hv ⊢
    have hv : K.valid1 8 i = R2.Valid i := hv
    show K.encode1 8 i = _
    unfold K.encode1 R2.Encode
    rw [← hv]
    cases hq : (!(K.valid1 8 i)) with
    | true => rfl
    | false =>
      obtain ⟨d0, d1, s0, s1, x0, x1, c0, c1, i0, i1⟩ := K.in_valid hm hq
      have e1 := K.w8 i.op (by omega) (by omega)
      have e2 := K.w64 (16 * i.d) (by omega) (by omega)
      have e3 := K.w64 (16 * i.d + i.s) (by omega) (by omega)
      have e4 := K.w64 (16 * i.sc) (by omega) (by omega)
      have e : K.ser 8 i = [i.op, i.imm % 256, i.imm / 256 % 256, i.imm / 65536 % 256, i.imm / 16777216 % 256] := by unfold K.ser; rw [e1]; rfl
      rw [cond_false, cond_false, K.ser_str, e, hf]
      simp only [e1, e2, e3, K.wu8, K.wu32, Int.tdiv_eq_ediv_of_nonneg i0, Int.reduceBEq, cond_false, cond_true]
      all_goals (refine congrArg (·, 0) (K.str_congr ?_); simp only [List.cons.injEq, and_true, true_and] <;> omega)
  · rw [hk] at hv ⊢
    have hv : K.valid1 9 i = R2.Valid i := hv
    show K.encode1 9 i = _
    unfold K.encode1 R2.Encode
    rw [← hv]
    cases hq : (!(K.valid1 9 i)) with
    | true => rfl
    | false =>
      obtain ⟨d0, d1, s0, s1, x0, x1, c0, c1, i0, i1⟩ := K.in_valid hm hq
      have e1 := K.w8 i.op (by omega) (by omega)
      have e2 := K.w64 (16 * i.d) (by omega) (by omega)
      have e3 := K.w64 (16 * i.d + i.s) (by omega) (by omega)
      have e4 := K.w64 (16 * i.sc) (by omega) (by omega)
      have e : K.ser 9 i = [i.op, i.imm % 256] := by unfold K.ser; rw [e1]; rfl
      rw [cond_false, cond_false, K.ser_str, e, hf]
      simp only [e1, e2, e3, K.wu8, K.wu32, Int.tdiv_eq_ediv_of_nonneg i0, Int.reduceBEq, cond_false, cond_true]
      all_goals (refine congrArg (·, 0) (K.str_congr ?_); simp only [List.cons.injEq, and_true, true_and] <;> omega)
  · rw [hk] at hv ⊢
    have hv : K.valid1 10 i = R2.Valid i := hv
    show K.encode1 10 i = _
    unfold K.encode1 R2.Encode
    rw [← hv]
    cases hq : (!(K.valid1 10 i)) with
    | true => rfl
    | false =>
      obtain ⟨d0, d1, s0, s1, x0, x1, c0, c1, i0, i1⟩ := K.in_valid hm hq
      have e1 := K.w8 i.op (by omega) (by omega)
      have e2 := K.w64 (16 * i.d) (by omega) (by omega)
      have e3 := K.w64 (16 * i.d + i.s) (by omega) (by omega)
      have e4 := K.w64 (16 * i.sc) (by omega) (by omega)
      have e : K.ser 10 i = [i.op, i.d * 16 + i.s] := by unfold K.ser; rw [e1]; rfl
      rw [cond_false, cond_false, K.ser_str, e, hf]
      simp only [e1, e2, e3, K.wu8, K.wu32, Int.tdiv_eq_ediv_of_nonneg i0, Int.reduceBEq, cond_false, cond_true]
      all_goals (refine congrArg (·, 0) (K.str_congr ?_); simp only [List.cons.injEq, and_true, true_and] <;> omega)
  · rw [hk] at hv ⊢
    have hv : K.valid1 10 i = R2.Valid i := hv
    show K.encode1 10 i = _
    unfold K.encode1 R2.Encode
    rw [← hv]
    cases hq : (!(K.valid1 10 i)) with
    | true => rfl
    | false =>
      obtain ⟨d0, d1, s0, s1, x0, x1, c0, c1, i0, i1⟩ := K.in_valid hm hq
      have e1 := K.w8 i.op (by omega) (by omega)
      have e2 := K.w64 (16 * i.d) (by omega) (by omega)
      have e3 := K.w64 (16 * i.d + i.s) (by omega) (by omega)
      have e4 := K.w64 (16 * i.sc) (by omega) (by omega)
      have e : K.ser 10 i = [i.op, i.d * 16 + i.s] := by unfold K.ser; rw [e1]; rfl
      rw [cond_false, cond_false, K.ser_str, e, hf]
      simp only [e1, e2, e3, K.wu8, K.wu32, Int.tdiv_eq_ediv_of_nonneg i0, Int.reduceBEq, cond_false, cond_true]
      all_goals (refine congrArg (·, 0) (K.str_congr ?_); simp only [List.cons.injEq, and_true, true_and] <;> omega)
theorem R2.byt_from (s : ByteArray) (m j : Nat) (hm : m ≤ s.size) : W.byt (s.extract m s.size).data.toList j = W.byt s.data.toList (m + j) := by
  unfold W.byt
  congr 2
  have e : (s.extract m s.size).data.toList = s.data.toList.drop m := by
    rw [ByteArray.data_extract, Array.toList_extract]
    have : s.size = s.data.toList.length := by rw [Array.length_toList]; rfl
    rw [this, List.extract_eq_take_drop]
    rw [List.take_of_length_le (by simp)]
  rw [e]; simp [List.getD, List.getElem?_drop]
theorem R2.extend_eq (x : Int) (h0 : 0 ≤ x) (h1 : x < 256) : R2.extend x = W.sign x 8 := by
  rw [K.sign8 x h0 h1]
  unfold R2.extend
  simp only [K.wu32, Bool.cond_eq_ite, decide_eq_true_eq]
  split <;> split <;> omega
theorem R2.long_eq (s : ByteArray) (m : Nat) (hm : m + 4 ≤ s.size) : R2.long (s.extract m s.size) = K.four s.data.toList m := by
  unfold R2.long K.four
  have b0 := W.byt_bd s.data.toList m
  have b1 := W.byt_bd s.data.toList (m + 1)
  have b2 := W.byt_bd s.data.toList (m + 2)
  have b3 := W.byt_bd s.data.toList (m + 3)
  simp only [R2.byt_from s m _ (by omega : m ≤ s.size), K.wu32, Nat.add_zero]
  omega
theorem K.wb (l : List UInt8) (n : Nat) : IntKind.wrap .i64 (W.byt l n) = W.byt l n := K.w64 _ (by have := W.byt_bd l n; omega) (by have := W.byt_bd l n; omega)
theorem K.wb2 (l : List UInt8) (n : Nat) : IntKind.wrap .i64 (W.byt l n / 16) = W.byt l n / 16 := K.w64 _ (by have := W.byt_bd l n; omega) (by have := W.byt_bd l n; omega)
theorem K.tdb (l : List UInt8) (n : Nat) : Int.tdiv (W.byt l n) 16 = W.byt l n / 16 := Int.tdiv_eq_ediv_of_nonneg (W.byt_bd l n).1
theorem K.tmb (l : List UInt8) (n : Nat) : Int.tmod (W.byt l n) 16 = W.byt l n % 16 := Int.tmod_eq_emod_of_nonneg (W.byt_bd l n).1
theorem K.exb (l : List UInt8) (n : Nat) : R2.extend (W.byt l n) = W.sign (W.byt l n) 8 := R2.extend_eq _ (W.byt_bd l n).1 (W.byt_bd l n).2
theorem K.read_1 (s : ByteArray) (hs : s.size = 1) (hf : R2.Format (W.byt s.data.toList 0) = 1) : R2.read s = K.rd 0 s.data.toList 1 := by
  have hd : decide (((s.size : Nat) : Int) > 1) = false := by simp; omega
  unfold R2.read
  simp only [K.wb, K.wb2, K.tdb, K.tmb, K.exb, hf, hd]
  rw [show ((s.size : Nat) : Int) = 1 by omega]
  have hb : W.byt s.data.toList 1 % 4294967296 = W.byt s.data.toList 1 := by have := W.byt_bd s.data.toList 1; omega
  simp [K.rd, K.t_none, K.t_reg, K.t_pair, K.t_small, K.t_full, K.t_plain, K.i0, K.wu32, hb]
theorem K.read_2 (s : ByteArray) (hs : s.size = 2) (hf : R2.Format (W.byt s.data.toList 0) = 2) : R2.read s = K.rd 1 s.data.toList 2 := by
  have hd : decide (((s.size : Nat) : Int) > 1) = true := by simp; omega
  unfold R2.read
  simp only [K.wb, K.wb2, K.tdb, K.tmb, K.exb, hf, hd]
  rw [show ((s.size : Nat) : Int) = 2 by omega]
  have hb : W.byt s.data.toList 1 % 4294967296 = W.byt s.data.toList 1 := by have := W.byt_bd s.data.toList 1; omega
  simp [K.rd, K.t_none, K.t_reg, K.t_pair, K.t_small, K.t_full, K.t_plain, K.i0, K.wu32, hb]
theorem K.read_3 (s : ByteArray) (hs : s.size = 2) (hf : R2.Format (W.byt s.data.toList 0) = 3) : R2.read s = K.rd 2 s.data.toList 2 := by
  have hd : decide (((s.size : Nat) : Int) > 1) = true := by simp; omega
  unfold R2.read
  simp only [K.wb, K.wb2, K.tdb, K.tmb, K.exb, hf, hd]
  rw [show ((s.size : Nat) : Int) = 2 by omega]
  have hb : W.byt s.data.toList 1 % 4294967296 = W.byt s.data.toList 1 := by have := W.byt_bd s.data.toList 1; omega
  simp [K.rd, K.t_none, K.t_reg, K.t_pair, K.t_small, K.t_full, K.t_plain, K.i0, K.wu32, hb]
theorem K.read_4 (s : ByteArray) (hs : s.size = 3) (hf : R2.Format (W.byt s.data.toList 0) = 4) : R2.read s = K.rd 3 s.data.toList 3 := by
  have hd : decide (((s.size : Nat) : Int) > 1) = true := by simp; omega
  unfold R2.read
  simp only [K.wb, K.wb2, K.tdb, K.tmb, K.exb, hf, hd]
  rw [show ((s.size : Nat) : Int) = 3 by omega]
  have hb : W.byt s.data.toList 1 % 4294967296 = W.byt s.data.toList 1 := by have := W.byt_bd s.data.toList 1; omega
  simp [K.rd, K.t_none, K.t_reg, K.t_pair, K.t_small, K.t_full, K.t_plain, K.i0, K.wu32, hb]
theorem K.read_5 (s : ByteArray) (hs : s.size = 6) (hf : R2.Format (W.byt s.data.toList 0) = 5) : R2.read s = K.rd 4 s.data.toList 6 := by
  have hd : decide (((s.size : Nat) : Int) > 1) = true := by simp; omega
  unfold R2.read
  simp only [K.wb, K.wb2, K.tdb, K.tmb, K.exb, hf, hd, R2.long_eq s 2 (by omega)]
  rw [show ((s.size : Nat) : Int) = 6 by omega]
  have hb : W.byt s.data.toList 1 % 4294967296 = W.byt s.data.toList 1 := by have := W.byt_bd s.data.toList 1; omega
  simp [K.rd, K.t_none, K.t_reg, K.t_pair, K.t_small, K.t_full, K.t_plain, K.i0, K.wu32, hb]
theorem K.read_6 (s : ByteArray) (hs : s.size = 3) (hf : R2.Format (W.byt s.data.toList 0) = 6) : R2.read s = K.rd 5 s.data.toList 3 := by
  have hd : decide (((s.size : Nat) : Int) > 1) = true := by simp; omega
  unfold R2.read
  simp only [K.wb, K.wb2, K.tdb, K.tmb, K.exb, hf, hd]
  rw [show ((s.size : Nat) : Int) = 3 by omega]
  have hb : W.byt s.data.toList 1 % 4294967296 = W.byt s.data.toList 1 := by have := W.byt_bd s.data.toList 1; omega
  simp [K.rd, K.t_none, K.t_reg, K.t_pair, K.t_small, K.t_full, K.t_plain, K.i0, K.wu32, hb]
theorem K.read_7 (s : ByteArray) (hs : s.size = 7) (hf : R2.Format (W.byt s.data.toList 0) = 7) : R2.read s = K.rd 6 s.data.toList 7 := by
  have hd : decide (((s.size : Nat) : Int) > 1) = true := by simp; omega
  unfold R2.read
  simp only [K.wb, K.wb2, K.tdb, K.tmb, K.exb, hf, hd, R2.long_eq s 3 (by omega)]
  rw [show ((s.size : Nat) : Int) = 7 by omega]
  cases h8 : (W.byt s.data.toList 2 != 8) with
  | true =>
    have h8' : ¬ W.byt s.data.toList 2 = 8 := by simpa using h8
    simp [K.rd, K.t_full, K.t_index, K.t_pair, K.i0, h8']
  | false =>
    have h8' : W.byt s.data.toList 2 = 8 := by simpa using h8
    simp [K.rd, K.t_full, K.t_index, K.t_pair, K.i0, h8']
theorem K.read_8 (s : ByteArray) (hs : s.size = 2) (hf : R2.Format (W.byt s.data.toList 0) = 8) : R2.read s = K.rd 7 s.data.toList 2 := by
  have hd : decide (((s.size : Nat) : Int) > 1) = true := by simp; omega
  unfold R2.read
  simp only [K.wb, K.wb2, K.tdb, K.tmb, K.exb, hf, hd]
  rw [show ((s.size : Nat) : Int) = 2 by omega]
  have hb : W.byt s.data.toList 1 % 4294967296 = W.byt s.data.toList 1 := by have := W.byt_bd s.data.toList 1; omega
  simp [K.rd, K.t_none, K.t_reg, K.t_pair, K.t_small, K.t_full, K.t_plain, K.i0, K.wu32, hb]
theorem K.read_9 (s : ByteArray) (hs : s.size = 5) (hf : R2.Format (W.byt s.data.toList 0) = 9) : R2.read s = K.rd 8 s.data.toList 5 := by
  have hd : decide (((s.size : Nat) : Int) > 1) = true := by simp; omega
  unfold R2.read
  simp only [K.wb, K.wb2, K.tdb, K.tmb, K.exb, hf, hd, R2.long_eq s 1 (by omega)]
  rw [show ((s.size : Nat) : Int) = 5 by omega]
  have hb : W.byt s.data.toList 1 % 4294967296 = W.byt s.data.toList 1 := by have := W.byt_bd s.data.toList 1; omega
  simp [K.rd, K.t_none, K.t_reg, K.t_pair, K.t_small, K.t_full, K.t_plain, K.i0, K.wu32, hb]
theorem K.read_10 (s : ByteArray) (hs : s.size = 2) (hf : R2.Format (W.byt s.data.toList 0) = 10) : R2.read s = K.rd 9 s.data.toList 2 := by
  have hd : decide (((s.size : Nat) : Int) > 1) = true := by simp; omega
  unfold R2.read
  simp only [K.wb, K.wb2, K.tdb, K.tmb, K.exb, hf, hd]
  rw [show ((s.size : Nat) : Int) = 2 by omega]
  have hb : W.byt s.data.toList 1 % 4294967296 = W.byt s.data.toList 1 := by have := W.byt_bd s.data.toList 1; omega
  simp [K.rd, K.t_none, K.t_reg, K.t_pair, K.t_small, K.t_full, K.t_plain, K.i0, K.wu32, hb]
theorem K.read_11 (s : ByteArray) (hs : s.size = 2) (hf : R2.Format (W.byt s.data.toList 0) = 11) : R2.read s = K.rd 10 s.data.toList 2 := by
  have hd : decide (((s.size : Nat) : Int) > 1) = true := by simp; omega
  unfold R2.read
  simp only [K.wb, K.wb2, K.tdb, K.tmb, K.exb, hf, hd]
  rw [show ((s.size : Nat) : Int) = 2 by omega]
  have hb : W.byt s.data.toList 1 % 4294967296 = W.byt s.data.toList 1 := by have := W.byt_bd s.data.toList 1; omega
  simp [K.rd, K.t_none, K.t_reg, K.t_pair, K.t_small, K.t_full, K.t_plain, K.i0, K.wu32, hb]
theorem K.read_12 (s : ByteArray) (hs : s.size = 2) (hf : R2.Format (W.byt s.data.toList 0) = 12) : R2.read s = K.rd 10 s.data.toList 2 := by
  have hd : decide (((s.size : Nat) : Int) > 1) = true := by simp; omega
  unfold R2.read
  simp only [K.wb, K.wb2, K.tdb, K.tmb, K.exb, hf, hd]
  rw [show ((s.size : Nat) : Int) = 2 by omega]
  have hb : W.byt s.data.toList 1 % 4294967296 = W.byt s.data.toList 1 := by have := W.byt_bd s.data.toList 1; omega
  simp [K.rd, K.t_none, K.t_reg, K.t_pair, K.t_small, K.t_full, K.t_plain, K.i0, K.wu32, hb]
set_option maxHeartbeats 2000000 in
theorem K.decode_eq (s : ByteArray) (hs : s.size ≤ maxLen) : K.decode s = R2.Decode s := by
  have hb0 := W.byt_bd s.data.toList 0
  have hw := K.wb s.data.toList 0
  unfold K.decode R2.Decode
  rw [hw]
  rcases K.fmt_cases (W.byt s.data.toList 0) with ⟨hk, hf⟩ | ⟨hk, hf, h1, h2⟩ | ⟨hk, hf, h1, h2⟩ | ⟨hk, hf, h1, h2⟩ | ⟨hk, hf, h1, h2⟩ | ⟨hk, hf, h1, h2⟩ | ⟨hk, hf, h1, h2⟩ | ⟨hk, hf, h1, h2⟩ | ⟨hk, hf, h1, h2⟩ | ⟨hk, hf, h1, h2⟩ | ⟨hk, hf, h1⟩ | ⟨hk, hf, h1⟩ | ⟨hk, hf, h1⟩
  · have hz : R2.Size (W.byt s.data.toList 0) = 0 := by unfold R2.Size; rw [hw, hf]; rfl
    rw [hk, hz]
    show K.decode0 s = _
    unfold K.decode0; rfl
  · have hz : R2.Size (W.byt s.data.toList 0) = 1 := by unfold R2.Size; rw [hw, hf]; rfl
    have hl : K.len 0 = 1 := rfl
    rw [hk, hz]
    show K.decode1 0 s = _
    unfold K.decode1
    rw [hl]
    cases h1 : (s.toList == (⟨#[]⟩ : ByteArray).toList) with
    | true => rfl
    | false =>
      rw [cond_false, cond_false, show ((1 : Int) == 0) = false from rfl, cond_false]
      cases h2 : decide (((s.size : Nat) : Int) < 1) with
      | true => rfl
      | false =>
        have h3 : 1 ≤ s.size := by simp at h2; omega
        have e : ((1 : Int).toNat) = 1 := rfl
        have ez : (s.extract 0 1).size = 1 := by rw [ByteArray.size_extract]; omega
        have er := K.read_1 (s.extract 0 1) ez (by rw [R2.byt_extract s 1 0 (by omega) h3]; exact hf)
        rw [cond_false, cond_false, e, er, K.valid_eq _ (K.rd_imm 0 (by decide) _ _)]
  · have hz : R2.Size (W.byt s.data.toList 0) = 2 := by unfold R2.Size; rw [hw, hf]; rfl
    have hl : K.len 1 = 2 := rfl
    rw [hk, hz]
    show K.decode1 1 s = _
    unfold K.decode1
    rw [hl]
    cases h1 : (s.toList == (⟨#[]⟩ : ByteArray).toList) with
    | true => rfl
    | false =>
      rw [cond_false, cond_false, show ((2 : Int) == 0) = false from rfl, cond_false]
      cases h2 : decide (((s.size : Nat) : Int) < 2) with
      | true => rfl
      | false =>
        have h3 : 2 ≤ s.size := by simp at h2; omega
        have e : ((2 : Int).toNat) = 2 := rfl
        have ez : (s.extract 0 2).size = 2 := by rw [ByteArray.size_extract]; omega
        have er := K.read_2 (s.extract 0 2) ez (by rw [R2.byt_extract s 2 0 (by omega) h3]; exact hf)
        rw [cond_false, cond_false, e, er, K.valid_eq _ (K.rd_imm 1 (by decide) _ _)]
  · have hz : R2.Size (W.byt s.data.toList 0) = 2 := by unfold R2.Size; rw [hw, hf]; rfl
    have hl : K.len 2 = 2 := rfl
    rw [hk, hz]
    show K.decode1 2 s = _
    unfold K.decode1
    rw [hl]
    cases h1 : (s.toList == (⟨#[]⟩ : ByteArray).toList) with
    | true => rfl
    | false =>
      rw [cond_false, cond_false, show ((2 : Int) == 0) = false from rfl, cond_false]
      cases h2 : decide (((s.size : Nat) : Int) < 2) with
      | true => rfl
      | false =>
        have h3 : 2 ≤ s.size := by simp at h2; omega
        have e : ((2 : Int).toNat) = 2 := rfl
        have ez : (s.extract 0 2).size = 2 := by rw [ByteArray.size_extract]; omega
        have er := K.read_3 (s.extract 0 2) ez (by rw [R2.byt_extract s 2 0 (by omega) h3]; exact hf)
        rw [cond_false, cond_false, e, er, K.valid_eq _ (K.rd_imm 2 (by decide) _ _)]
  · have hz : R2.Size (W.byt s.data.toList 0) = 3 := by unfold R2.Size; rw [hw, hf]; rfl
    have hl : K.len 3 = 3 := rfl
    rw [hk, hz]
    show K.decode1 3 s = _
    unfold K.decode1
    rw [hl]
    cases h1 : (s.toList == (⟨#[]⟩ : ByteArray).toList) with
    | true => rfl
    | false =>
      rw [cond_false, cond_false, show ((3 : Int) == 0) = false from rfl, cond_false]
      cases h2 : decide (((s.size : Nat) : Int) < 3) with
      | true => rfl
      | false =>
        have h3 : 3 ≤ s.size := by simp at h2; omega
        have e : ((3 : Int).toNat) = 3 := rfl
        have ez : (s.extract 0 3).size = 3 := by rw [ByteArray.size_extract]; omega
        have er := K.read_4 (s.extract 0 3) ez (by rw [R2.byt_extract s 3 0 (by omega) h3]; exact hf)
        rw [cond_false, cond_false, e, er, K.valid_eq _ (K.rd_imm 3 (by decide) _ _)]
  · have hz : R2.Size (W.byt s.data.toList 0) = 6 := by unfold R2.Size; rw [hw, hf]; rfl
    have hl : K.len 4 = 6 := rfl
    rw [hk, hz]
    show K.decode1 4 s = _
    unfold K.decode1
    rw [hl]
    cases h1 : (s.toList == (⟨#[]⟩ : ByteArray).toList) with
    | true => rfl
    | false =>
      rw [cond_false, cond_false, show ((6 : Int) == 0) = false from rfl, cond_false]
      cases h2 : decide (((s.size : Nat) : Int) < 6) with
      | true => rfl
      | false =>
        have h3 : 6 ≤ s.size := by simp at h2; omega
        have e : ((6 : Int).toNat) = 6 := rfl
        have ez : (s.extract 0 6).size = 6 := by rw [ByteArray.size_extract]; omega
        have er := K.read_5 (s.extract 0 6) ez (by rw [R2.byt_extract s 6 0 (by omega) h3]; exact hf)
        rw [cond_false, cond_false, e, er, K.valid_eq _ (K.rd_imm 4 (by decide) _ _)]
  · have hz : R2.Size (W.byt s.data.toList 0) = 3 := by unfold R2.Size; rw [hw, hf]; rfl
    have hl : K.len 5 = 3 := rfl
    rw [hk, hz]
    show K.decode1 5 s = _
    unfold K.decode1
    rw [hl]
    cases h1 : (s.toList == (⟨#[]⟩ : ByteArray).toList) with
    | true => rfl
    | false =>
      rw [cond_false, cond_false, show ((3 : Int) == 0) = false from rfl, cond_false]
      cases h2 : decide (((s.size : Nat) : Int) < 3) with
      | true => rfl
      | false =>
        have h3 : 3 ≤ s.size := by simp at h2; omega
        have e : ((3 : Int).toNat) = 3 := rfl
        have ez : (s.extract 0 3).size = 3 := by rw [ByteArray.size_extract]; omega
        have er := K.read_6 (s.extract 0 3) ez (by rw [R2.byt_extract s 3 0 (by omega) h3]; exact hf)
        rw [cond_false, cond_false, e, er, K.valid_eq _ (K.rd_imm 5 (by decide) _ _)]
  · have hz : R2.Size (W.byt s.data.toList 0) = 7 := by unfold R2.Size; rw [hw, hf]; rfl
    have hl : K.len 6 = 7 := rfl
    rw [hk, hz]
    show K.decode1 6 s = _
    unfold K.decode1
    rw [hl]
    cases h1 : (s.toList == (⟨#[]⟩ : ByteArray).toList) with
    | true => rfl
    | false =>
      rw [cond_false, cond_false, show ((7 : Int) == 0) = false from rfl, cond_false]
      cases h2 : decide (((s.size : Nat) : Int) < 7) with
      | true => rfl
      | false =>
        have h3 : 7 ≤ s.size := by simp at h2; omega
        have e : ((7 : Int).toNat) = 7 := rfl
        have ez : (s.extract 0 7).size = 7 := by rw [ByteArray.size_extract]; omega
        have er := K.read_7 (s.extract 0 7) ez (by rw [R2.byt_extract s 7 0 (by omega) h3]; exact hf)
        rw [cond_false, cond_false, e, er, K.valid_eq _ (K.rd_imm 6 (by decide) _ _)]
  · have hz : R2.Size (W.byt s.data.toList 0) = 2 := by unfold R2.Size; rw [hw, hf]; rfl
    have hl : K.len 7 = 2 := rfl
    rw [hk, hz]
    show K.decode1 7 s = _
    unfold K.decode1
    rw [hl]
    cases h1 : (s.toList == (⟨#[]⟩ : ByteArray).toList) with
    | true => rfl
    | false =>
      rw [cond_false, cond_false, show ((2 : Int) == 0) = false from rfl, cond_false]
      cases h2 : decide (((s.size : Nat) : Int) < 2) with
      | true => rfl
      | false =>
        have h3 : 2 ≤ s.size := by simp at h2; omega
        have e : ((2 : Int).toNat) = 2 := rfl
        have ez : (s.extract 0 2).size = 2 := by rw [ByteArray.size_extract]; omega
        have er := K.read_8 (s.extract 0 2) ez (by rw [R2.byt_extract s 2 0 (by omega) h3]; exact hf)
        rw [cond_false, cond_false, e, er, K.valid_eq _ (K.rd_imm 7 (by decide) _ _)]
  · have hz : R2.Size (W.byt s.data.toList 0) = 5 := by unfold R2.Size; rw [hw, hf]; rfl
    have hl : K.len 8 = 5 := rfl
    rw [hk, hz]
    show K.decode1 8 s = _
    unfold K.decode1
    rw [hl]
    cases h1 : (s.toList == (⟨#[]⟩ : ByteArray).toList) with
    | true => rfl
    | false =>
      rw [cond_false, cond_false, show ((5 : Int) == 0) = false from rfl, cond_false]
      cases h2 : decide (((s.size : Nat) : Int) < 5) with
      | true => rfl
      | false =>
        have h3 : 5 ≤ s.size := by simp at h2; omega
        have e : ((5 : Int).toNat) = 5 := rfl
        have ez : (s.extract 0 5).size = 5 := by rw [ByteArray.size_extract]; omega
        have er := K.read_9 (s.extract 0 5) ez (by rw [R2.byt_extract s 5 0 (by omega) h3]; exact hf)
        rw [cond_false, cond_false, e, er, K.valid_eq _ (K.rd_imm 8 (by decide) _ _)]
  · have hz : R2.Size (W.byt s.data.toList 0) = 2 := by unfold R2.Size; rw [hw, hf]; rfl
    have hl : K.len 9 = 2 := rfl
    rw [hk, hz]
    show K.decode1 9 s = _
    unfold K.decode1
    rw [hl]
    cases h1 : (s.toList == (⟨#[]⟩ : ByteArray).toList) with
    | true => rfl
    | false =>
      rw [cond_false, cond_false, show ((2 : Int) == 0) = false from rfl, cond_false]
      cases h2 : decide (((s.size : Nat) : Int) < 2) with
      | true => rfl
      | false =>
        have h3 : 2 ≤ s.size := by simp at h2; omega
        have e : ((2 : Int).toNat) = 2 := rfl
        have ez : (s.extract 0 2).size = 2 := by rw [ByteArray.size_extract]; omega
        have er := K.read_10 (s.extract 0 2) ez (by rw [R2.byt_extract s 2 0 (by omega) h3]; exact hf)
        rw [cond_false, cond_false, e, er, K.valid_eq _ (K.rd_imm 9 (by decide) _ _)]
  · have hz : R2.Size (W.byt s.data.toList 0) = 2 := by unfold R2.Size; rw [hw, hf]; rfl
    have hl : K.len 10 = 2 := rfl
    rw [hk, hz]
    show K.decode1 10 s = _
    unfold K.decode1
    rw [hl]
    cases h1 : (s.toList == (⟨#[]⟩ : ByteArray).toList) with
    | true => rfl
    | false =>
      rw [cond_false, cond_false, show ((2 : Int) == 0) = false from rfl, cond_false]
      cases h2 : decide (((s.size : Nat) : Int) < 2) with
      | true => rfl
      | false =>
        have h3 : 2 ≤ s.size := by simp at h2; omega
        have e : ((2 : Int).toNat) = 2 := rfl
        have ez : (s.extract 0 2).size = 2 := by rw [ByteArray.size_extract]; omega
        have er := K.read_11 (s.extract 0 2) ez (by rw [R2.byt_extract s 2 0 (by omega) h3]; exact hf)
        rw [cond_false, cond_false, e, er, K.valid_eq _ (K.rd_imm 10 (by decide) _ _)]
  · have hz : R2.Size (W.byt s.data.toList 0) = 2 := by unfold R2.Size; rw [hw, hf]; rfl
    have hl : K.len 10 = 2 := rfl
    rw [hk, hz]
    show K.decode1 10 s = _
    unfold K.decode1
    rw [hl]
    cases h1 : (s.toList == (⟨#[]⟩ : ByteArray).toList) with
    | true => rfl
    | false =>
      rw [cond_false, cond_false, show ((2 : Int) == 0) = false from rfl, cond_false]
      cases h2 : decide (((s.size : Nat) : Int) < 2) with
      | true => rfl
      | false =>
        have h3 : 2 ≤ s.size := by simp at h2; omega
        have e : ((2 : Int).toNat) = 2 := rfl
        have ez : (s.extract 0 2).size = 2 := by rw [ByteArray.size_extract]; omega
        have er := K.read_12 (s.extract 0 2) ez (by rw [R2.byt_extract s 2 0 (by omega) h3]; exact hf)
        rw [cond_false, cond_false, e, er, K.valid_eq _ (K.rd_imm 10 (by decide) _ _)]
/-- A valid instruction. -/
structure K.Good (i : K.Ins) : Prop where
  val : R2.Valid i = true
  i0 : 0 ≤ i.imm
  i1 : i.imm < 4294967296
def K.bytes (i : K.Ins) : ByteArray := (R2.Encode i).1
structure K.Enc (i : K.Ins) (k : Nat) : Prop where
  fmt : K.fmt i.op = some k
  lt : k < 11
  inn : K.In i
  sz : i.sz = K.len k
  enc : R2.Encode i = (strOfNums (K.ser k i), 0)
  v1 : K.valid1 k i = true
theorem K.good_enc {i : K.Ins} (h : K.Good i) : ∃ k, K.Enc i k := by
  have hm := And.intro h.i0 h.i1
  have hv := K.valid_eq i hm
  rw [h.val] at hv
  have he := K.encode_eq i hm
  unfold K.valid at hv
  unfold K.encode at he
  cases hk : K.fmt i.op with
  | none => rw [hk] at hv; cases hv
  | some k =>
    rw [hk] at hv he
    have hv : K.valid1 k i = true := hv
    have he : K.encode1 k i = R2.Encode i := he
    have hin := K.in_valid (k := k) hm (by rw [hv]; rfl)
    refine ⟨k, hk, K.fmt_lt hk, hin, ?_, ?_, hv⟩
    · unfold K.valid1 at hv
      cases hq : ((i.sz != (K.len k)) || (!(K.rng i))) with
      | true => rw [hq] at hv; simp at hv
      | false => simp at hq; exact hq.1
    · rw [← he]; unfold K.encode1; rw [hv]; simp only [Bool.not_true, cond_false, K.ser_str]
theorem K.ser_len (k : Nat) (hk : k < 11) (i : K.Ins) : ((K.ser k i).length : Int) = K.len k := by
  unfold K.ser; rw [List.length_cons]; have := K.wr_len k hk i; push_cast; omega
theorem K.bytes_eq {i : K.Ins} {k : Nat} (h : K.Enc i k) : K.bytes i = strOfNums (K.ser k i) := by unfold K.bytes; rw [h.enc]
theorem K.bytes_size {i : K.Ins} {k : Nat} (h : K.Enc i k) : ((K.bytes i).size : Int) = K.len k := by rw [K.bytes_eq h, strOfNums_size, K.ser_len k h.lt]
theorem K.good_size {i : K.Ins} (h : K.Good i) : ((K.bytes i).size : Int) = i.sz ∧ 1 ≤ i.sz ∧ i.sz ≤ 7 := by
  obtain ⟨k, hk⟩ := K.good_enc h
  have := K.len_bd k hk.lt
  rw [K.bytes_size hk, hk.sz]; exact ⟨rfl, this.1, this.2⟩
theorem K.rt {i : K.Ins} {k : Nat} (h : K.Enc i k) : K.rd k (strOfNums (K.ser k i)).data.toList (K.len k) = i := by
  have hv := h.v1
  unfold K.valid1 at hv
  cases hq : ((i.sz != (K.len k)) || (!(K.rng i))) with
  | true => rw [hq] at hv; cases hv
  | false =>
    rw [hq, cond_false, K.ser_str] at hv
    generalize K.rd k (strOfNums (K.ser k i)).data.toList (K.len k) = r at *
    simp only [Bool.and_eq_true, beq_iff_eq] at hv
    obtain ⟨⟨⟨⟨⟨⟨a, b⟩, c⟩, d⟩, e⟩, f⟩, g⟩ := hv
    cases r; cases i; simp_all
theorem K.rd_congr (k : Nat) (hk : k < 11) (l1 l2 : List UInt8) (sz : Int) (h : ∀ j : Nat, (j : Int) < K.len k → W.byt l1 j = W.byt l2 j) : K.rd k l1 sz = K.rd k l2 sz := by
  rcases (by omega : k = 0 ∨ k = 1 ∨ k = 2 ∨ k = 3 ∨ k = 4 ∨ k = 5 ∨ k = 6 ∨ k = 7 ∨ k = 8 ∨ k = 9 ∨ k = 10) with rfl | rfl | rfl | rfl | rfl | rfl | rfl | rfl | rfl | rfl | rfl
  · have h0 := h 0 (by decide); simp [K.rd, K.i0, K.t_none, h0]
  · have h0 := h 0 (by decide); have h1 := h 1 (by decide); simp [K.rd, K.i0, K.t_reg, h0, h1]
  · have h0 := h 0 (by decide); have h1 := h 1 (by decide); simp [K.rd, K.i0, K.t_pair, h0, h1]
  · have h0 := h 0 (by decide); have h1 := h 1 (by decide); have h2 := h 2 (by decide); simp [K.rd, K.i0, K.t_reg, K.t_small, h0, h1, h2]
  · have h0 := h 0 (by decide); have h1 := h 1 (by decide); have h2 := h 2 (by decide); have h3 := h 3 (by decide); have h4 := h 4 (by decide); have h5 := h 5 (by decide); simp [K.rd, K.i0, K.t_reg, K.t_full, K.four, h0, h1, h2, h3, h4, h5]
  · have h0 := h 0 (by decide); have h1 := h 1 (by decide); have h2 := h 2 (by decide); simp [K.rd, K.i0, K.t_pair, K.t_small, h0, h1, h2]
  · have h0 := h 0 (by decide); have h1 := h 1 (by decide); have h2 := h 2 (by decide); have h3 := h 3 (by decide); have h4 := h 4 (by decide); have h5 := h 5 (by decide); have h6 := h 6 (by decide); simp [K.rd, K.i0, K.t_pair, K.t_index, K.t_full, K.four, h0, h1, h2, h3, h4, h5, h6]
  · have h0 := h 0 (by decide); have h1 := h 1 (by decide); simp [K.rd, K.i0, K.t_small, h0, h1]
  · have h0 := h 0 (by decide); have h1 := h 1 (by decide); have h2 := h 2 (by decide); have h3 := h 3 (by decide); have h4 := h 4 (by decide); simp [K.rd, K.i0, K.t_full, K.four, h0, h1, h2, h3, h4]
  · have h0 := h 0 (by decide); have h1 := h 1 (by decide); simp [K.rd, K.i0, K.t_plain, h0, h1]
  · have h0 := h 0 (by decide); have h1 := h 1 (by decide); simp [K.rd, K.i0, K.t_pair, h0, h1]
theorem K.not_empty {s : ByteArray} (h : 0 < s.size) : (s.toList == (⟨#[]⟩ : ByteArray).toList) = false := by
  cases hq : (s.toList == (⟨#[]⟩ : ByteArray).toList) with
  | false => rfl
  | true =>
    exfalso
    have e : s = ⟨#[]⟩ := by
      have h1 : s.toList = (⟨#[]⟩ : ByteArray).toList := by simpa using hq
      rw [ByteArray.toList_eq, ByteArray.toList_eq] at h1
      exact ByteArray.ext (Array.toList_inj.1 h1)
    rw [e] at h; exact absurd h (by decide)
/-- What Decode comes to where a format is known. -/
theorem K.dec_of (s : ByteArray) (k : Nat) (hk : K.fmt (W.byt s.data.toList 0) = some k) (h0 : 0 < s.size) (hs : s.size ≤ maxLen) :
    R2.Decode s = bif decide ((s.size : Int) < K.len k) then (⟨0, 0, 0, 0, 0, 0, 0⟩, 10) else bif !(R2.Valid (K.rd k s.data.toList (K.len k))) then (⟨0, 0, 0, 0, 0, 0, 0⟩, 12) else (K.rd k s.data.toList (K.len k), 0) := by
  rw [← K.decode_eq s hs]
  unfold K.decode
  rw [K.wb, hk]
  show K.decode1 k s = _
  unfold K.decode1
  rw [K.not_empty h0, cond_false]
  cases h2 : decide (((s.size : Nat) : Int) < K.len k) with
  | true => rfl
  | false =>
    have h3 : K.len k ≤ s.size := by simp at h2; omega
    have hl := K.len_bd k (K.fmt_lt hk)
    rw [K.rd_congr k (K.fmt_lt hk) (s.extract 0 (K.len k).toNat).data.toList s.data.toList (K.len k) (fun j hj => R2.byt_extract s _ j (by omega) (by omega))]
    rw [K.valid_eq _ (K.rd_imm k (K.fmt_lt hk) _ _)]
theorem K.byt_app (a b : ByteArray) (j : Nat) (h : j < a.size) : W.byt (a ++ b).data.toList j = W.byt a.data.toList j := by
  unfold W.byt
  congr 2
  have e : (a ++ b).data.toList = a.data.toList ++ b.data.toList := by simp [ByteArray.data_append]
  have : j < a.data.toList.length := by rw [Array.length_toList]; exact h
  rw [e]; simp only [List.getD, List.getElem?_append_left this]
theorem K.op_wrap {i : K.Ins} {k : Nat} (h : K.Enc i k) : IntKind.wrap .u8 i.op = i.op := by
  have hk := h.fmt
  rcases K.fmt_cases i.op with ⟨hk', _⟩ | ⟨_, _, a, b⟩ | ⟨_, _, a, b⟩ | ⟨_, _, a, b⟩ | ⟨_, _, a, b⟩ | ⟨_, _, a, b⟩ | ⟨_, _, a, b⟩ | ⟨_, _, a, b⟩ | ⟨_, _, a, b⟩ | ⟨_, _, a, b⟩ | ⟨_, _, a⟩ | ⟨_, _, a⟩ | ⟨_, _, a⟩ <;> first | (rw [hk] at hk'; cases hk') | exact K.w8 _ (by omega) (by omega)
theorem K.byt_bytes {i : K.Ins} {k : Nat} (h : K.Enc i k) (j : Nat) : W.byt (K.bytes i).data.toList j = (K.ser k i).getD j 0 := by rw [K.bytes_eq h]; exact K.byt_ser k h.lt i h.inn j
theorem K.byt_0 {i : K.Ins} {k : Nat} (h : K.Enc i k) : W.byt (K.bytes i).data.toList 0 = i.op := by
  rw [K.byt_bytes h]; show IntKind.wrap .u8 i.op = _; exact K.op_wrap h
/-- Decode inverts Encode, whatever follows. -/
theorem K.dec_app {i : K.Ins} (h : K.Good i) (more : ByteArray) (hs : (K.bytes i ++ more).size ≤ maxLen) : R2.Decode (K.bytes i ++ more) = (i, 0) := by
  obtain ⟨k, hk⟩ := K.good_enc h
  have hl := K.len_bd k hk.lt
  have hz := K.bytes_size hk
  have ha : (K.bytes i ++ more).size = (K.bytes i).size + more.size := ByteArray.size_append
  have e0 : W.byt (K.bytes i ++ more).data.toList 0 = i.op := by rw [K.byt_app _ _ 0 (by omega), K.byt_0 hk]
  have er : K.rd k (K.bytes i ++ more).data.toList (K.len k) = i := by
    rw [K.rd_congr k hk.lt _ (K.bytes i).data.toList _ (fun j hj => K.byt_app _ _ j (by omega)), K.bytes_eq hk, K.rt hk]
  rw [K.dec_of _ k (by rw [e0]; exact hk.fmt) (by omega) hs, er, h.val, show decide (((K.bytes i ++ more).size : Int) < K.len k) = false by simp; omega]
  rfl
theorem K.append_empty (a : ByteArray) : a ++ (⟨#[]⟩ : ByteArray) = a := by
  apply ByteArray.ext; simp [ByteArray.data_append]
theorem K.dec_bytes {i : K.Ins} (h : K.Good i) : R2.Decode (K.bytes i) = (i, 0) := by
  have := K.dec_app h ⟨#[]⟩ (by rw [K.append_empty]; have := K.good_size h; unfold maxLen; omega)
  rwa [K.append_empty] at this
theorem K.str_inj {a b : ByteArray} (h : a.data.toList = b.data.toList) : a = b := ByteArray.ext (Array.toList_inj.1 h)
theorem K.fetch_at {V : M.V} {p : Int} {i : K.Ins} (h : K.Good i) (hp : 0 ≤ p ∧ p < 4294967288) (hA : ∀ j : Nat, j < (K.bytes i).size → V.fetch (p.toNat + j) = (W.byt (K.bytes i).data.toList j, true)) : K.fetch V p = (i, 0, 0) := by
  obtain ⟨k, he⟩ := K.good_enc h
  obtain ⟨z1, z2, z3⟩ := K.good_size h
  have h0 : K.b0 V p = W.byt (K.bytes i).data.toList 0 := by
    unfold K.b0; have := hA 0 (by omega); rw [Nat.add_zero] at this; rw [this]
  have h1 : K.o0 V p = true := by
    unfold K.o0; have := hA 0 (by omega); rw [Nat.add_zero] at this; rw [this]
  have hb : ∀ j : Nat, j < 8 → j < (K.bytes i).size → K.b V p ((j : Nat) : Int) = W.byt (K.bytes i).data.toList j ∧ K.o V p ((j : Nat) : Int) = true := fun j h8 hj => by
    have e : (IntKind.wrap .u32 (p + ((j : Nat) : Int))).toNat = p.toNat + j := by
      show ((p + ((j : Nat) : Int)) % 4294967296).toNat = _
      omega
    unfold K.b K.o; rw [e, hA j hj]; exact ⟨rfl, rfl⟩
  have hop : W.byt (K.bytes i).data.toList 0 = i.op := K.byt_0 he
  have hz : K.size (K.b0 V p) = i.sz := by
    have hbd := W.byt_bd (K.bytes i).data.toList 0
    rw [h0]
    unfold K.size
    rw [hop] at hbd ⊢
    rw [IntWalk.i64_in _ (by omega), he.fmt]
    exact he.sz.symm
  have hl : (K.ser k i).length = (K.bytes i).size := by
    have := K.ser_len k he.lt i
    have := K.bytes_size he
    omega
  have hd : ∀ n : Nat, (K.bytes i).size = n → K.dc V p n = (i, 0) := fun n hn => by
    have e : K.bl V p n = K.ser k i := by
      show List.take n [K.b0 V p, K.b V p 1, K.b V p 2, K.b V p 3, K.b V p 4, K.b V p 5, K.b V p 6] = _
      apply List.ext_getElem
      · rw [List.length_take, hl, hn]; show min n 7 = n; omega
      · intro j j1 j2
        have hj : j < (K.bytes i).size := by omega
        have e2 : (K.ser k i)[j] = W.byt (K.bytes i).data.toList j := by rw [K.byt_bytes he j, List.getD_eq_getElem?_getD, List.getElem?_eq_getElem j2]; rfl
        rw [e2, List.getElem_take]
        rcases (by omega : j = 0 ∨ j = 1 ∨ j = 2 ∨ j = 3 ∨ j = 4 ∨ j = 5 ∨ j = 6) with rfl | rfl | rfl | rfl | rfl | rfl | rfl
        · exact h0
        · exact (hb 1 (by decide) hj).1
        · exact (hb 2 (by decide) hj).1
        · exact (hb 3 (by decide) hj).1
        · exact (hb 4 (by decide) hj).1
        · exact (hb 5 (by decide) hj).1
        · exact (hb 6 (by decide) hj).1
    unfold K.dc
    rw [e, ← K.bytes_eq he, K.decode_eq _ (by have : (8 : Nat) ≤ maxLen := by decide
                                              omega), K.dec_bytes h]
  have o1 : 1 < (K.bytes i).size → K.o V p 1 = true := fun h => (hb 1 (by decide) h).2
  have o2 : 2 < (K.bytes i).size → K.o V p 2 = true := fun h => (hb 2 (by decide) h).2
  have o3 : 3 < (K.bytes i).size → K.o V p 3 = true := fun h => (hb 3 (by decide) h).2
  have o4 : 4 < (K.bytes i).size → K.o V p 4 = true := fun h => (hb 4 (by decide) h).2
  have o5 : 5 < (K.bytes i).size → K.o V p 5 = true := fun h => (hb 5 (by decide) h).2
  have o6 : 6 < (K.bytes i).size → K.o V p 6 = true := fun h => (hb 6 (by decide) h).2
  unfold K.fetch
  rw [h1, hz]
  rcases (by omega : i.sz = 1 ∨ i.sz = 2 ∨ i.sz = 3 ∨ i.sz = 4 ∨ i.sz = 5 ∨ i.sz = 6 ∨ i.sz = 7) with e | e | e | e | e | e | e
  · rw [e, hd 1 (by omega)]; rfl
  · rw [e, o1 (by omega), hd 2 (by omega)]; rfl
  · rw [e, o1 (by omega), o2 (by omega), hd 3 (by omega)]; rfl
  · rw [e, o1 (by omega), o2 (by omega), o3 (by omega), hd 4 (by omega)]; rfl
  · rw [e, o1 (by omega), o2 (by omega), o3 (by omega), o4 (by omega), hd 5 (by omega)]; rfl
  · rw [e, o1 (by omega), o2 (by omega), o3 (by omega), o4 (by omega), o5 (by omega), hd 6 (by omega)]; rfl
  · rw [e, o1 (by omega), o2 (by omega), o3 (by omega), o4 (by omega), o5 (by omega), o6 (by omega), hd 7 (by omega)]; rfl
theorem K.step_at {s : Q.S} {V : M.V} {i : K.Ins} (h : K.fetch V s.pc = (i, 0, 0)) : K.step s V = K.stepI i 0 0 s V := by unfold K.step; rw [h]
/-- No timer is due. -/
abbrev K.nd (s : Q.S) : Prop := (decide (s.du > 0) && decide (s.st ≥ s.du)) = false
theorem K.nd0 {s : Q.S} (h : s.du ≤ 0) : K.nd s := by unfold K.nd; rw [decide_eq_false (by omega : ¬ s.du > 0)]; rfl
theorem K.nd1 {s : Q.S} (h : s.st < s.du) : K.nd s := by unfold K.nd; rw [decide_eq_false (by omega : ¬ s.st ≥ s.du), Bool.and_false]
theorem K.runs_z {s : Q.S} {V : M.V} (h : K.nd s) : K.runs 0 s V = (s, 1, 0, V) := by
  show K.run 0 1 0 s V = _
  rw [K.run, h]; rfl
theorem K.runs_s (k : Nat) {s s' : Q.S} {V V' : M.V} {t : Int} (h : K.nd s) (hs : K.step s V = (s', 0, t, V')) : K.runs (((k + 1 : Nat)) : Int) s V = K.runs ((k : Nat) : Int) s' V' := by
  show K.run (((k + 1 : Nat)) : Int) ((((k + 1 : Nat)) : Int).toNat + 1) 0 s V = K.run ((k : Nat) : Int) (((k : Nat) : Int).toNat + 1) 0 s' V'
  rw [show (((k + 1 : Nat)) : Int).toNat + 1 = (k + 1) + 1 by omega, show ((k : Nat) : Int).toNat + 1 = k + 1 by omega, K.run, h, cond_false, decide_eq_false (by omega : ¬ (((0 : Nat) : Int) ≥ (((k + 1 : Nat)) : Int))), cond_false, hs]
  show K.run (((k + 1 : Nat)) : Int) (k + 1) (0 + 1) s' V' = _
  exact K.run_shift _ _ _ (by omega)
theorem K.runs_1 {s s' : Q.S} {V V' : M.V} {t : Int} (h : K.nd s) (hs : K.step s V = (s', 0, t, V')) (h2 : K.nd s') : K.runs 1 s V = (s', 1, 0, V') := (K.runs_s 0 h hs).trans (K.runs_z h2)
theorem K.runs_t {n : Int} (hn : 1 ≤ n) {s : Q.S} {V : M.V} {k t : Int} (h : K.nd s) (hs : K.step s V = (s, k, t, V)) (hk : (k != 0) = true) : K.runs n s V = (s, k, t, V) := by
  show K.run n (n.toNat + 1) 0 s V = _
  rw [K.run, h, cond_false, decide_eq_false (by omega : ¬ (((0 : Nat) : Int) ≥ n)), cond_false, hs]
  show (bif (k != 0) then _ else _) = _
  rw [hk]; rfl
/-- A memory of four pages that shows the bytes f and the rights r. -/
structure K.Mem (V : M.V) (f : Nat → Int) (r : Nat → Int) : Prop where
  n : V.n = 4
  co : V.coh = true
  d : ∀ x, x < 1024 → V.d (x / 256) (x % 256) = f x
  i : ∀ x, x < 1024 → V.i (x / 256) (x % 256) = f x
  r : ∀ j, j < 4 → V.r j = r j
theorem K.Mem.eq {V : M.V} {f g r : Nat → Int} (h : K.Mem V f r) (e : ∀ x, x < 1024 → f x = g x) : K.Mem V g r := ⟨h.n, h.co, fun x hx => (h.d x hx).trans (e x hx), fun x hx => (h.i x hx).trans (e x hx), h.r⟩
theorem K.Mem.set {V : M.V} {f r : Nat → Int} (h : K.Mem V f r) (a : Nat) (v : Int) : K.Mem (V.set a v) (fun x => if x = a then v else f x) r := by
  unfold M.V.set
  by_cases ha : a / 256 < V.n
  · rw [if_pos ha]
    refine ⟨h.n, h.co, fun x hx => ?_, fun x hx => ?_, h.r⟩
    · show M.up V.d (a / 256) (a % 256) v (x / 256) (x % 256) = _
      unfold M.up
      by_cases e : x = a
      · subst e; rw [if_pos ⟨rfl, rfl⟩, if_pos rfl]
      · rw [if_neg (by omega), if_neg e]; exact h.d x hx
    · show (if V.coh = true then M.up V.i (a / 256) (a % 256) v else V.i) (x / 256) (x % 256) = _
      rw [if_pos h.co]
      unfold M.up
      by_cases e : x = a
      · subst e; rw [if_pos ⟨rfl, rfl⟩, if_pos rfl]
      · rw [if_neg (by omega), if_neg e]; exact h.i x hx
  · rw [if_neg ha]
    have := h.n
    exact h.eq fun x hx => by rw [if_neg (by omega)]
theorem K.Mem.poke {V : M.V} {f r : Nat → Int} (h : K.Mem V f r) (a : Nat) (s : ByteArray) : ∀ c, a + c ≤ 4294967296 → K.Mem (V.poke a s c) (fun x => if a ≤ x ∧ x < a + c then W.byt s.data.toList (x - a) else f x) r
  | 0, _ => h.eq fun x hx => by rw [if_neg (by omega)]
  | c + 1, hc => by
    have ih := K.Mem.poke h a s c (by omega)
    have h2 := ih.set ((a + c) % 4294967296) (W.byt s.data.toList c)
    rw [Nat.mod_eq_of_lt (by omega : a + c < 4294967296)] at h2
    show K.Mem ((V.poke a s c).set ((a + c) % 4294967296) (W.byt s.data.toList c)) _ _
    rw [Nat.mod_eq_of_lt (by omega : a + c < 4294967296)]
    refine h2.eq fun x hx => ?_
    by_cases e : x = a + c
    · rw [if_pos e, if_pos (by omega), show x - a = c by omega]
    · rw [if_neg e]
      by_cases e2 : a ≤ x ∧ x < a + c
      · rw [if_pos e2, if_pos (by omega)]
      · rw [if_neg e2, if_neg (by omega)]
theorem K.Mem.put {V : M.V} {f r : Nat → Int} (h : K.Mem V f r) (a : Nat) (v : Int) : ∀ c, a + c ≤ 4294967296 → K.Mem (V.put a v c) (fun x => if a ≤ x ∧ x < a + c then IntKind.wrap .u8 (Int.fdiv v (2 ^ (8 * (x - a)))) else f x) r
  | 0, _ => h.eq fun x hx => by rw [if_neg (by omega)]
  | c + 1, hc => by
    have ih := K.Mem.put h a v c (by omega)
    have h2 := ih.set ((a + c) % 4294967296) (IntKind.wrap .u8 (Int.fdiv v (2 ^ (8 * c))))
    rw [Nat.mod_eq_of_lt (by omega : a + c < 4294967296)] at h2
    show K.Mem ((V.put a v c).set ((a + c) % 4294967296) (IntKind.wrap .u8 (Int.fdiv v (2 ^ (8 * c))))) _ _
    rw [Nat.mod_eq_of_lt (by omega : a + c < 4294967296)]
    refine h2.eq fun x hx => ?_
    by_cases e : x = a + c
    · rw [if_pos e, if_pos (by omega), show x - a = c by omega]
    · rw [if_neg e]
      by_cases e2 : a ≤ x ∧ x < a + c
      · rw [if_pos e2, if_pos (by omega)]
      · rw [if_neg e2, if_neg (by omega)]
theorem K.Mem.prot {V : M.V} {f r : Nat → Int} (h : K.Mem V f r) (k : Int) (p : Int) (hk : 0 ≤ k ∧ k < 4) : K.Mem (V.prot k p) f (fun j => if j = k.toNat then bits .and .i64 p 7 else r j) := by
  unfold M.V.prot
  have := h.n
  rw [if_pos (by omega)]
  refine ⟨h.n, h.co, h.d, h.i, fun j hj => ?_⟩
  show (if j = k.toNat then bits .and .i64 p 7 else V.r j) = _
  by_cases e : j = k.toNat
  · rw [if_pos e, if_pos e]
  · rw [if_neg e, if_neg e]; exact h.r j hj
theorem K.Mem.ok {V : M.V} {f r : Nat → Int} (h : K.Mem V f r) (a : Nat) (q : Int) (ha : a < 1024) : V.ok a q = !(bits .and .i64 (r (a / 256)) q == 0) := by
  have e2 : a / 256 < V.n := by rw [h.n]; omega
  have e3 : V.r (a / 256) = r (a / 256) := h.r _ (by omega)
  unfold M.V.ok
  rw [decide_eq_true e2, Bool.true_and, e3]
theorem K.Mem.ok_out {V : M.V} {f r : Nat → Int} (h : K.Mem V f r) (a : Nat) (q : Int) (ha : 1024 ≤ a) : V.ok a q = false := by
  have e2 : ¬ a / 256 < V.n := by rw [h.n]; omega
  unfold M.V.ok
  rw [decide_eq_false e2, Bool.false_and]
theorem K.Mem.peek {V : M.V} {f r : Nat → Int} (h : K.Mem V f r) {a : Nat} (ha : a < 1024) : V.peek a = f a := by
  unfold M.V.peek; rw [if_pos (by rw [h.n]; omega)]; exact h.d a ha
theorem K.Mem.fetch {V : M.V} {f r : Nat → Int} (h : K.Mem V f r) {a : Nat} (ha : a < 1024) (hr : (bits .and .i64 (r (a / 256)) 4 == 0) = false) : V.fetch a = (f a, true) := by
  unfold M.V.fetch M.V.code
  rw [h.ok a 4 ha, hr, if_pos (by rfl : (!false) = true), if_pos (by rw [h.n]; omega), h.i a ha]
theorem K.byt_mid (a b : ByteArray) (j : Nat) (h : a.size ≤ j) : W.byt (a ++ b).data.toList j = W.byt b.data.toList (j - a.size) := by
  unfold W.byt
  have e : (a ++ b).data.toList = a.data.toList ++ b.data.toList := by rw [ByteArray.data_append, Array.toList_append]
  rw [e, List.getD_eq_getElem?_getD, List.getD_eq_getElem?_getD, List.getElem?_append_right (by show a.data.toList.length ≤ j; rw [Array.length_toList]; exact h), Array.length_toList]
  rfl
/-- The memory of both, as bytes and rights. -/
def K.bf (z a : Int) (s : ByteArray) (x : Nat) : Int := if a.toNat ≤ x ∧ x < a.toNat + (K.cut s).size then W.byt (K.cut s).data.toList (x - a.toNat) else W.byt (K.fill z).data.toList x
def K.br (x0 x1 x2 x3 : Int) (j : Nat) : Int := bits .and .i64 (if j = 3 then x3 else if j = 2 then x2 else if j = 1 then x1 else x0) 7
theorem K.bV_mem (x0 x1 x2 x3 z a : Int) (s : ByteArray) (ha : 0 ≤ a ∧ a < 4294966000) : K.Mem (K.bV x0 x1 x2 x3 z a s) (K.bf z a s) (K.br x0 x1 x2 x3) := by
  have hs := K.cut_size s
  have h0 : K.Mem (M.V.new (M.np 4) true) (fun _ => 0) (fun _ => 0) := ⟨by kernel_rfl, rfl, fun _ _ => rfl, fun _ _ => rfl, fun _ _ => rfl⟩
  have h1 := h0.poke (0 : Int).toNat (K.fill z) (K.fill z).size (by rw [K.fill_size]; decide)
  have h2 := h1.poke a.toNat (K.cut s) (K.cut s).size (by omega)
  have h3 := (((h2.prot 0 x0 (by decide)).prot 1 x1 (by decide)).prot 2 x2 (by decide)).prot 3 x3 (by decide)
  have h4 : K.Mem (K.bV x0 x1 x2 x3 z a s) _ _ := h3
  refine ⟨h4.n, h4.co, fun x hx => ?_, fun x hx => ?_, fun j hj => ?_⟩
  · rw [h4.d x hx]
    unfold K.bf
    by_cases e : a.toNat ≤ x ∧ x < a.toNat + (K.cut s).size
    · rw [if_pos e, if_pos e]
    · rw [if_neg e, if_neg e, K.fill_size, if_pos (by show 0 ≤ x ∧ x < 0 + 1024; omega)]; rfl
  · rw [h4.i x hx]
    unfold K.bf
    by_cases e : a.toNat ≤ x ∧ x < a.toNat + (K.cut s).size
    · rw [if_pos e, if_pos e]
    · rw [if_neg e, if_neg e, K.fill_size, if_pos (by show 0 ≤ x ∧ x < 0 + 1024; omega)]; rfl
  · rw [h4.r j hj]
    unfold K.br
    rcases (by omega : j = 0 ∨ j = 1 ∨ j = 2 ∨ j = 3) with rfl | rfl | rfl | rfl <;> rfl
theorem K.cut_all {s : ByteArray} (h : s.size ≤ 400) : K.cut s = s := by
  unfold K.cut
  rw [if_neg (by omega)]
  apply K.str_inj
  rw [ByteArray.data_extract, Array.toList_extract]
  show ((s.data.toList.drop 0).take (s.size - 0)) = _
  rw [List.drop_zero, Nat.sub_zero]
  exact List.take_of_length_le (by rw [Array.length_toList]; exact Nat.le_refl _)
/-- An instruction that lies in the code, behind more bytes. -/
theorem K.code_fetch {V : M.V} {r : Nat → Int} {z a p : Int} {s : ByteArray} {i : K.Ins} (h : K.Good i) (hm : K.Mem V (K.bf z a s) r) (hs : s.size ≤ 400) (o : Nat) (ha : 0 ≤ a) (hp : p = a + ((o : Nat) : Int)) (hlt : p + 7 ≤ 1024)
    (hr : ∀ j : Nat, (bits .and .i64 (r ((p.toNat + j) / 256)) 4 == 0) = false ∨ 7 ≤ j) (hin : o + (K.bytes i).size ≤ s.size) (hb : ∀ j : Nat, j < (K.bytes i).size → W.byt s.data.toList (o + j) = W.byt (K.bytes i).data.toList j) : K.fetch V p = (i, 0, 0) := by
  obtain ⟨z1, z2, z3⟩ := K.good_size h
  refine K.fetch_at h (by omega) fun j hj => ?_
  rw [hm.fetch (by omega) ((hr j).resolve_right (by omega))]
  unfold K.bf
  rw [K.cut_all hs, if_pos (by omega), show p.toNat + j - a.toNat = o + j by omega, hb j hj]
theorem A.trAs {P : Program} {f : FuncId} {args : Array Value} {p : List A.It} {v v' : Value} {q q' : List A.It} (h : A.Tr P f args p (I := Unit) (fun _ => True) (fun _ => v) (fun _ => q)) (e : v = v') (e2 : q = q') : A.Tr P f args p (I := Unit) (fun _ => True) (fun _ => v') (fun _ => q') := e2 ▸ e ▸ h
theorem E.api_State_nsame {fr : E.Fr} {x y : Operand} {u T : TypeId} {d : Option Nat} {pos : String} {af : Array Edge} {gd : Option (Nat × Bool)} {s t : Q.S} {w : World} (e : s = t)
    (hx : E.ev fr x = s.val) (hy : E.ev fr y = t.val) :
    (execOp (E.ev fr) ⟨d, .binOp .neq 26 x y u, T, pos, af, gd⟩).run Tryz.prog w = .ok (.value (.bool false)) w := by
  subst e; exact E.api_State_nself s hx hy
theorem K.w32 {x : Int} (h : 0 ≤ x ∧ x < 4294967296) : IntKind.wrap .u32 x = x := by show x % 4294967296 = x; omega
theorem rCond_0 (f : Int) (w : World) : Calls Tryz.prog 30 #[.int .i64 0, .int .u32 f] w fun e w' => e = .returned (.bool (W.cond 0 f)) ∧ Bel w w' := by
  have hn : (bits .and .u32 f 8 != 0) = W.fN f := rfl
  have hz : (bits .and .u32 f 4 != 0) = W.fZ f := rfl
  have hc : (bits .and .u32 f 2 != 0) = W.fC f := rfl
  have hv : (bits .and .u32 f 1 != 0) = W.fV f := rfl
  go_enter Tryz.func30, Tryz.ntmps30
  go_wp2_with fail
  all_goals
    go_ret
    exact ⟨ret_bool (by simp_all [W.cond, W.condB] <;> cases W.fN f <;> cases W.fV f <;> rfl), Nz.bel⟩
theorem rCond_1 (f : Int) (w : World) : Calls Tryz.prog 30 #[.int .i64 1, .int .u32 f] w fun e w' => e = .returned (.bool (W.cond 1 f)) ∧ Bel w w' := by
  have hn : (bits .and .u32 f 8 != 0) = W.fN f := rfl
  have hz : (bits .and .u32 f 4 != 0) = W.fZ f := rfl
  have hc : (bits .and .u32 f 2 != 0) = W.fC f := rfl
  have hv : (bits .and .u32 f 1 != 0) = W.fV f := rfl
  go_enter Tryz.func30, Tryz.ntmps30
  go_wp2_with fail
  all_goals
    go_ret
    exact ⟨ret_bool (by simp_all [W.cond, W.condB] <;> cases W.fN f <;> cases W.fV f <;> rfl), Nz.bel⟩
theorem rCond_2 (f : Int) (w : World) : Calls Tryz.prog 30 #[.int .i64 2, .int .u32 f] w fun e w' => e = .returned (.bool (W.cond 2 f)) ∧ Bel w w' := by
  have hn : (bits .and .u32 f 8 != 0) = W.fN f := rfl
  have hz : (bits .and .u32 f 4 != 0) = W.fZ f := rfl
  have hc : (bits .and .u32 f 2 != 0) = W.fC f := rfl
  have hv : (bits .and .u32 f 1 != 0) = W.fV f := rfl
  go_enter Tryz.func30, Tryz.ntmps30
  go_wp2_with fail
  all_goals
    go_ret
    exact ⟨ret_bool (by simp_all [W.cond, W.condB] <;> cases W.fN f <;> cases W.fV f <;> rfl), Nz.bel⟩
theorem rCond_3 (f : Int) (w : World) : Calls Tryz.prog 30 #[.int .i64 3, .int .u32 f] w fun e w' => e = .returned (.bool (W.cond 3 f)) ∧ Bel w w' := by
  have hn : (bits .and .u32 f 8 != 0) = W.fN f := rfl
  have hz : (bits .and .u32 f 4 != 0) = W.fZ f := rfl
  have hc : (bits .and .u32 f 2 != 0) = W.fC f := rfl
  have hv : (bits .and .u32 f 1 != 0) = W.fV f := rfl
  go_enter Tryz.func30, Tryz.ntmps30
  go_wp2_with fail
  all_goals
    go_ret
    exact ⟨ret_bool (by simp_all [W.cond, W.condB] <;> cases W.fN f <;> cases W.fV f <;> rfl), Nz.bel⟩
theorem rCond_4 (f : Int) (w : World) : Calls Tryz.prog 30 #[.int .i64 4, .int .u32 f] w fun e w' => e = .returned (.bool (W.cond 4 f)) ∧ Bel w w' := by
  have hn : (bits .and .u32 f 8 != 0) = W.fN f := rfl
  have hz : (bits .and .u32 f 4 != 0) = W.fZ f := rfl
  have hc : (bits .and .u32 f 2 != 0) = W.fC f := rfl
  have hv : (bits .and .u32 f 1 != 0) = W.fV f := rfl
  go_enter Tryz.func30, Tryz.ntmps30
  go_wp2_with fail
  all_goals
    go_ret
    exact ⟨ret_bool (by simp_all [W.cond, W.condB] <;> cases W.fN f <;> cases W.fV f <;> rfl), Nz.bel⟩
theorem rCond_5 (f : Int) (w : World) : Calls Tryz.prog 30 #[.int .i64 5, .int .u32 f] w fun e w' => e = .returned (.bool (W.cond 5 f)) ∧ Bel w w' := by
  have hn : (bits .and .u32 f 8 != 0) = W.fN f := rfl
  have hz : (bits .and .u32 f 4 != 0) = W.fZ f := rfl
  have hc : (bits .and .u32 f 2 != 0) = W.fC f := rfl
  have hv : (bits .and .u32 f 1 != 0) = W.fV f := rfl
  go_enter Tryz.func30, Tryz.ntmps30
  go_wp2_with fail
  all_goals
    go_ret
    exact ⟨ret_bool (by simp_all [W.cond, W.condB] <;> cases W.fN f <;> cases W.fV f <;> rfl), Nz.bel⟩
theorem rCond_6 (f : Int) (w : World) : Calls Tryz.prog 30 #[.int .i64 6, .int .u32 f] w fun e w' => e = .returned (.bool (W.cond 6 f)) ∧ Bel w w' := by
  have hn : (bits .and .u32 f 8 != 0) = W.fN f := rfl
  have hz : (bits .and .u32 f 4 != 0) = W.fZ f := rfl
  have hc : (bits .and .u32 f 2 != 0) = W.fC f := rfl
  have hv : (bits .and .u32 f 1 != 0) = W.fV f := rfl
  go_enter Tryz.func30, Tryz.ntmps30
  go_wp2_with fail
  all_goals
    go_ret
    exact ⟨ret_bool (by simp_all [W.cond, W.condB] <;> cases W.fN f <;> cases W.fV f <;> rfl), Nz.bel⟩
theorem rCond_7 (f : Int) (w : World) : Calls Tryz.prog 30 #[.int .i64 7, .int .u32 f] w fun e w' => e = .returned (.bool (W.cond 7 f)) ∧ Bel w w' := by
  have hn : (bits .and .u32 f 8 != 0) = W.fN f := rfl
  have hz : (bits .and .u32 f 4 != 0) = W.fZ f := rfl
  have hc : (bits .and .u32 f 2 != 0) = W.fC f := rfl
  have hv : (bits .and .u32 f 1 != 0) = W.fV f := rfl
  go_enter Tryz.func30, Tryz.ntmps30
  go_wp2_with fail
  all_goals
    go_ret
    exact ⟨ret_bool (by simp_all [W.cond, W.condB] <;> cases W.fN f <;> cases W.fV f <;> rfl), Nz.bel⟩
theorem rCond_8 (f : Int) (w : World) : Calls Tryz.prog 30 #[.int .i64 8, .int .u32 f] w fun e w' => e = .returned (.bool (W.cond 8 f)) ∧ Bel w w' := by
  have hn : (bits .and .u32 f 8 != 0) = W.fN f := rfl
  have hz : (bits .and .u32 f 4 != 0) = W.fZ f := rfl
  have hc : (bits .and .u32 f 2 != 0) = W.fC f := rfl
  have hv : (bits .and .u32 f 1 != 0) = W.fV f := rfl
  go_enter Tryz.func30, Tryz.ntmps30
  go_wp2_with fail
  all_goals
    go_ret
    exact ⟨ret_bool (by simp_all [W.cond, W.condB] <;> cases W.fN f <;> cases W.fV f <;> rfl), Nz.bel⟩
theorem rCond_9 (f : Int) (w : World) : Calls Tryz.prog 30 #[.int .i64 9, .int .u32 f] w fun e w' => e = .returned (.bool (W.cond 9 f)) ∧ Bel w w' := by
  have hn : (bits .and .u32 f 8 != 0) = W.fN f := rfl
  have hz : (bits .and .u32 f 4 != 0) = W.fZ f := rfl
  have hc : (bits .and .u32 f 2 != 0) = W.fC f := rfl
  have hv : (bits .and .u32 f 1 != 0) = W.fV f := rfl
  go_enter Tryz.func30, Tryz.ntmps30
  go_wp2_with fail
  all_goals
    go_ret
    exact ⟨ret_bool (by simp_all [W.cond, W.condB] <;> cases W.fN f <;> cases W.fV f <;> rfl), Nz.bel⟩
theorem rCond_10 (f : Int) (w : World) : Calls Tryz.prog 30 #[.int .i64 10, .int .u32 f] w fun e w' => e = .returned (.bool (W.cond 10 f)) ∧ Bel w w' := by
  have hn : (bits .and .u32 f 8 != 0) = W.fN f := rfl
  have hz : (bits .and .u32 f 4 != 0) = W.fZ f := rfl
  have hc : (bits .and .u32 f 2 != 0) = W.fC f := rfl
  have hv : (bits .and .u32 f 1 != 0) = W.fV f := rfl
  go_enter Tryz.func30, Tryz.ntmps30
  go_wp2_with fail
  all_goals
    go_ret
    exact ⟨ret_bool (by simp_all [W.cond, W.condB] <;> cases W.fN f <;> cases W.fV f <;> rfl), Nz.bel⟩
theorem rCond_11 (f : Int) (w : World) : Calls Tryz.prog 30 #[.int .i64 11, .int .u32 f] w fun e w' => e = .returned (.bool (W.cond 11 f)) ∧ Bel w w' := by
  have hn : (bits .and .u32 f 8 != 0) = W.fN f := rfl
  have hz : (bits .and .u32 f 4 != 0) = W.fZ f := rfl
  have hc : (bits .and .u32 f 2 != 0) = W.fC f := rfl
  have hv : (bits .and .u32 f 1 != 0) = W.fV f := rfl
  go_enter Tryz.func30, Tryz.ntmps30
  go_wp2_with fail
  all_goals
    go_ret
    exact ⟨ret_bool (by simp_all [W.cond, W.condB] <;> cases W.fN f <;> cases W.fV f <;> rfl), Nz.bel⟩
theorem rCond_12 (f : Int) (w : World) : Calls Tryz.prog 30 #[.int .i64 12, .int .u32 f] w fun e w' => e = .returned (.bool (W.cond 12 f)) ∧ Bel w w' := by
  have hn : (bits .and .u32 f 8 != 0) = W.fN f := rfl
  have hz : (bits .and .u32 f 4 != 0) = W.fZ f := rfl
  have hc : (bits .and .u32 f 2 != 0) = W.fC f := rfl
  have hv : (bits .and .u32 f 1 != 0) = W.fV f := rfl
  go_enter Tryz.func30, Tryz.ntmps30
  go_wp2_with fail
  all_goals
    go_ret
    exact ⟨ret_bool (by simp_all [W.cond, W.condB] <;> cases W.fN f <;> cases W.fV f <;> rfl), Nz.bel⟩
theorem rCond_13 (f : Int) (w : World) : Calls Tryz.prog 30 #[.int .i64 13, .int .u32 f] w fun e w' => e = .returned (.bool (W.cond 13 f)) ∧ Bel w w' := by
  have hn : (bits .and .u32 f 8 != 0) = W.fN f := rfl
  have hz : (bits .and .u32 f 4 != 0) = W.fZ f := rfl
  have hc : (bits .and .u32 f 2 != 0) = W.fC f := rfl
  have hv : (bits .and .u32 f 1 != 0) = W.fV f := rfl
  go_enter Tryz.func30, Tryz.ntmps30
  go_wp2_with fail
  all_goals
    go_ret
    exact ⟨ret_bool (by simp_all [W.cond, W.condB] <;> cases W.fN f <;> cases W.fV f <;> rfl), Nz.bel⟩
theorem rCond_n (cc f : Int) (hk : cc < 0 ∨ 13 < cc) (w : World) : Calls Tryz.prog 30 #[.int .i64 cc, .int .u32 f] w fun e w' => e = .returned (.bool (W.cond cc f)) ∧ Bel w w' := by
  have HF := hid (W.cond_n cc f hk)
  have h0 : (cc == 0) = false := by simp; omega
  have h1 : (cc == 1) = false := by simp; omega
  have h2 : (cc == 2) = false := by simp; omega
  have h3 : (cc == 3) = false := by simp; omega
  have h4 : (cc == 4) = false := by simp; omega
  have h5 : (cc == 5) = false := by simp; omega
  have h6 : (cc == 6) = false := by simp; omega
  have h7 : (cc == 7) = false := by simp; omega
  have h8 : (cc == 8) = false := by simp; omega
  have h9 : (cc == 9) = false := by simp; omega
  have h10 : (cc == 10) = false := by simp; omega
  have h11 : (cc == 11) = false := by simp; omega
  have h12 : (cc == 12) = false := by simp; omega
  have h13 : (cc == 13) = false := by simp; omega
  go_enter Tryz.func30, Tryz.ntmps30
  go_wp2_with fail
  go_ret
  exact ⟨ret_bool (by rw [HF.out]), Nz.bel⟩
theorem rCond_any (cc f : Int) (w : World) : Calls Tryz.prog 30 #[.int .i64 cc, .int .u32 f] w fun e w' => e = .returned (.bool (W.cond cc f)) ∧ Bel w w' := by
  rcases (by omega : cc = 0 ∨ cc = 1 ∨ cc = 2 ∨ cc = 3 ∨ cc = 4 ∨ cc = 5 ∨ cc = 6 ∨ cc = 7 ∨ cc = 8 ∨ cc = 9 ∨ cc = 10 ∨ cc = 11 ∨ cc = 12 ∨ cc = 13 ∨ (cc < 0 ∨ 13 < cc)) with rfl | rfl | rfl | rfl | rfl | rfl | rfl | rfl | rfl | rfl | rfl | rfl | rfl | rfl | h
  · exact rCond_0 f w
  · exact rCond_1 f w
  · exact rCond_2 f w
  · exact rCond_3 f w
  · exact rCond_4 f w
  · exact rCond_5 f w
  · exact rCond_6 f w
  · exact rCond_7 f w
  · exact rCond_8 f w
  · exact rCond_9 f w
  · exact rCond_10 f w
  · exact rCond_11 f w
  · exact rCond_12 f w
  · exact rCond_13 f w
  · exact rCond_n cc f h w
end Go.Proofs.YtglidnmmeclneaaGreat
