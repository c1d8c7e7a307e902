/- Walks: set of mem, printed by wip/eng. No condition but what is named. -/
import Derived.Test.YtdjjjikokfadiaaProg
import Derived.Test.YtdjjjikokfadiaaMh
namespace Go.Proofs.Ytdjjjikokfadiaa
set_option linter.unusedVariables false
set_option linter.unusedSimpArgs false
open Go.RowKit
theorem M.Nxt.back {w w1 : World} {o o' : M.Obj} (h : M.Nxt w1 o o') (hs : w.heap.size ≤ w1.heap.size) : M.Nxt w o o' :=
  ⟨h.m, h.n, h.coh, fun x hx k => h.ow x (Nat.lt_of_lt_of_le hx hs) k, fun x hx k => h.al x (Nat.lt_of_lt_of_le hx hs) k⟩
def M.up (f : Nat → Nat → Int) (k y : Nat) (v : Int) : Nat → Nat → Int := fun j x => if j = k ∧ x = y then v else f j x
def M.V.set (V : M.V) (a : Nat) (v : Int) : M.V := if a / 256 < V.n then { V with d := M.up V.d (a / 256) (a % 256) v, i := if V.coh then M.up V.i (a / 256) (a % 256) v else V.i } else V
theorem M.Sh.set_out {o : M.Obj} {V : M.V} {a : Nat} {v : Int} (h : M.Sh o V) (ho : o.sl.length ≤ a / 256) : M.Sh o (V.set a v) := by
  unfold M.V.set
  rw [if_neg (by rw [← h.n]; omega)]; exact h
theorem M.Sh.set_same {o : M.Obj} {V : M.V} {a : Nat} {v : Int} (h : M.Sh o V) (hi : M.Inv o) (ho : a / 256 < o.sl.length) (he : (o.C (o.at (a / 256)).d (a % 256) == v) = true) : M.Sh o (V.set a v) := by
  have he : o.C (o.at (a / 256)).d (a % 256) = v := by simpa using he
  unfold M.V.set
  rw [if_pos (by rw [← h.n]; exact ho)]
  refine ⟨h.n, h.coh, fun j hj x hx => ?_, fun j hj x hx => ?_, h.cd, h.ci, h.r⟩
  · show _ = M.up V.d (a / 256) (a % 256) v j x
    unfold M.up
    by_cases e : j = a / 256 ∧ x = a % 256
    · obtain ⟨rfl, rfl⟩ := e; rw [if_pos ⟨rfl, rfl⟩]; exact he
    · rw [if_neg e]; exact h.d j hj x hx
  · show _ = (if V.coh then M.up V.i (a / 256) (a % 256) v else V.i) j x
    cases hc : V.coh with
    | false => exact h.i j hj x hx
    | true =>
      show _ = M.up V.i (a / 256) (a % 256) v j x
      unfold M.up
      by_cases e : j = a / 256 ∧ x = a % 256
      · obtain ⟨rfl, rfl⟩ := e; rw [if_pos ⟨rfl, rfl⟩]
        have hn : (o.at (a / 256)).c.isNone = true := ((hi.co _ ho).1.trans h.coh).trans hc
        unfold M.img
        cases hq : (o.at (a / 256)).c with
        | none => exact he
        | some p => rw [hq] at hn; cases hn
      · rw [if_neg e]; exact h.i j hj x hx
theorem M.Sh.byte {o : M.Obj} {V : M.V} {a : Nat} {v : Int} (h : M.Sh o V) (hi : M.Inv (M.byte o (o.at (a / 256)).d (a % 256) v)) (ho : a / 256 < o.sl.length) (hod : (o.at (a / 256)).od = true) : M.Sh (M.byte o (o.at (a / 256)).d (a % 256) v) (V.set a v) := by
  have hiod : ∀ i j, i < o.sl.length → j < o.sl.length → (o.at i).od = true → ((o.at j).d = (o.at i).d → j = i) ∧ (o.at j).c ≠ some (o.at i).d ∧ (o.at j).cd ≠ (o.at i).d ∧ (o.at j).cc ≠ some (o.at i).d := hi.od
  have hico : ∀ i, i < o.sl.length → (o.at i).c.isNone = o.coh ∧ (o.at i).cc.isNone = o.coh := hi.co
  have hn : ∀ j, j < V.n → j < o.sl.length := fun j hj => h.n ▸ hj
  have hC : ∀ q, q ≠ (o.at (a / 256)).d → ∀ x, (M.byte o (o.at (a / 256)).d (a % 256) v).C q x = o.C q x := fun q hq x => if_neg (fun e => hq e.1)
  unfold M.V.set
  rw [if_pos (by rw [← h.n]; exact ho)]
  have dat : ∀ j, j < V.n → ∀ x, x < 256 → (M.byte o (o.at (a / 256)).d (a % 256) v).C (o.at j).d x = M.up V.d (a / 256) (a % 256) v j x := fun j hj x hx => by
    have hu := hiod (a / 256) j ho (hn j hj) hod
    show (if (o.at j).d = (o.at (a / 256)).d ∧ x = a % 256 then v else o.C (o.at j).d x) = _
    unfold M.up
    by_cases e : j = a / 256 ∧ x = a % 256
    · obtain ⟨rfl, rfl⟩ := e; rw [if_pos ⟨rfl, rfl⟩, if_pos ⟨rfl, rfl⟩]
    · rw [if_neg e, if_neg (fun e2 => e ⟨hu.1 e2.1, e2.2⟩)]; exact h.d j hj x hx
  refine ⟨h.n, h.coh, dat, fun j hj x hx => ?_, fun j hj x hx => ?_, fun j hj x hx => ?_, h.r⟩
  · show (M.byte o (o.at (a / 256)).d (a % 256) v).C (M.img (o.at j)) x = (if V.coh then M.up V.i (a / 256) (a % 256) v else V.i) j x
    have hu := hiod (a / 256) j ho (hn j hj) hod
    have hco := (hico j (hn j hj)).1.trans h.coh
    have hii := h.i j hj x hx
    unfold M.img at hii ⊢
    cases hq : (o.at j).c with
    | none =>
      rw [hq] at hco hii
      have hco : V.coh = true := hco.symm
      rw [hco, if_pos rfl]
      show (M.byte o (o.at (a / 256)).d (a % 256) v).C (o.at j).d x = _
      rw [dat j hj x hx]
      have hii : o.C (o.at j).d x = V.i j x := hii
      unfold M.up
      by_cases e : j = a / 256 ∧ x = a % 256
      · rw [if_pos e, if_pos e]
      · rw [if_neg e, if_neg e, ← hii]; exact (h.d j hj x hx).symm
    | some p =>
      rw [hq] at hco hii
      have hco : V.coh = false := hco.symm
      rw [hco]
      show (M.byte o (o.at (a / 256)).d (a % 256) v).C p x = V.i j x
      rw [hC p (fun e => hu.2.1 (by rw [hq, e]))]; exact hii
  · show (M.byte o (o.at (a / 256)).d (a % 256) v).C (o.at j).cd x = _
    have hu := hiod (a / 256) j ho (hn j hj) hod
    rw [hC _ hu.2.2.1]; exact h.cd j hj x hx
  · show (M.byte o (o.at (a / 256)).d (a % 256) v).C ((o.at j).cc.getD (o.at j).cd) x = _
    have hu := hiod (a / 256) j ho (hn j hj) hod
    have hne : (o.at j).cc.getD (o.at j).cd ≠ (o.at (a / 256)).d := by
      cases hq : (o.at j).cc with
      | none => exact hu.2.2.1
      | some p => exact fun e => hu.2.2.2 (by rw [hq]; exact congrArg some e)
    rw [hC _ hne]; exact h.ci j hj x hx
theorem M.Nxt.byte (w : World) (o : M.Obj) (p y : Nat) (v : Int) : M.Nxt w o (M.byte o p y v) := ⟨rfl, rfl, rfl, fun _ _ h => h, fun _ _ h => h⟩
theorem M.wr_call {o : M.Obj} {w0 w : World} {k : Nat} (hk : k < o.sl.length) (h : E.Hp (fun x => M.ow o x) w0 (fun w => M.St o w) [] w) :
    Calls Try.prog 54 #[.pointer (some ⟨o.b, k * 7, none⟩)] w fun e w' => ∃ i : M.Obj, (M.Nxt w0 o i ∧ (i.at k).od = true ∧ ∀ V, M.Sh o V → M.Sh i V) ∧ e = .returned (.pointer (some ⟨(i.at k).d, 0, none⟩)) ∧ E.Hp (fun x => M.ow o x) w0 (fun w => M.St i w) [] w' :=
  (writable_any o k hk w h.x).mono fun e w' ⟨i, he, hs, hc, hn, ho, hv⟩ => ⟨i, ⟨hn.back h.ch.size, ho, hv⟩, he, hs.hp (h.ch.trans hc)⟩
theorem set_any (o : M.Obj) (a : Nat) (v : Int) (ha : a < 4294967296) (hv : 0 ≤ v ∧ v < 256) (w : World) (hst : M.St o w) : Calls Try.prog 39 #[.pointer (some ⟨o.m, 0, none⟩), .int .u32 ((a : Nat) : Int), .int .u8 v] w fun e w' => e = .returned (.tuple #[]) ∧ ∃ o', M.St o' w' ∧ Ch (fun x => M.ow o x) w w' ∧ M.Nxt w o o' ∧ ∀ V, M.Sh o V → M.Sh o' (V.set a v) := by
  refine E.enter (n := 32) (S := fun x => M.ow o x) Try.func39 rfl rfl (by kernel_rfl) (hst.hp (Ch.refl _ _)) ?_
  refine E.C.seq ?_
  refine E.C.region ?_
  refine E.G.op (.pointer (some ⟨o.m, 0, none⟩)) (fun w => by kernel_rfl) (by kernel_rfl) ?_
  refine E.G.op (.int .u32 ((a : Nat) : Int)) (fun w => by kernel_rfl) (by kernel_rfl) ?_
  refine E.fork (o.out (a / 256)) (fun hc1 => ?_) (fun hc1 => ?_)
  · skip
    refine E.G.call (.pointer none) (fun w h => at_out o a (by omega) (M.out_of hc1) w h.x.at_) (fun w _ => by kernel_rfl) (by kernel_rfl) ?_
    refine E.G.op (.pointer none) (fun w => by kernel_rfl) (by kernel_rfl) ?_
    refine E.To.code ?_
    refine E.C.seq ?_
    refine E.C.seq ?_
    refine E.C.region ?_
    refine E.G.op (.pointer none) (fun w => by kernel_rfl) (by kernel_rfl) ?_
    refine E.G.op (.bool true) (fun w => by kernel_rfl) (by kernel_rfl) ?_
    refine E.G.op (.bool true) (fun w => by kernel_rfl) (by kernel_rfl) ?_
    refine E.G.skip (by kernel_rfl) (by kernel_rfl) ?_
    refine E.G.skip (by kernel_rfl) (by kernel_rfl) ?_
    refine E.G.skip (by kernel_rfl) (by kernel_rfl) ?_
    refine E.G.skip (by kernel_rfl) (by kernel_rfl) ?_
    refine E.G.skip (by kernel_rfl) (by kernel_rfl) ?_
    refine E.G.skip (by kernel_rfl) (by kernel_rfl) ?_
    refine E.G.skip (by kernel_rfl) (by kernel_rfl) ?_
    refine E.G.skip (by kernel_rfl) (by kernel_rfl) ?_
    refine E.G.skip (by kernel_rfl) (by kernel_rfl) ?_
    refine E.G.skip (by kernel_rfl) (by kernel_rfl) ?_
    refine E.G.skip (by kernel_rfl) (by kernel_rfl) ?_
    refine E.G.op (.bool true) (fun w => by kernel_rfl) (by kernel_rfl) ?_
    refine E.To.code ?_
    refine E.C.weak [(1, .int .u32 ((a : Nat) : Int)), (2, .int .u8 v), (6, .pointer none), (24, .bool true)] [] ⟨by kernel_rfl, by kernel_rfl⟩ (List.Sublist.refl _) ?_
    refine E.C.condT (by kernel_rfl) (by kernel_rfl) ?_
    refine E.C.ret (E.P.rt (E.To.body (fn := Try.f39) [] ?_ ?_))
    · exact trivial
    · intro w h
      exact ⟨rfl, o, h.x, h.ch, M.Nxt.refl _ _, fun V hV => hV.set_out (M.out_of hc1)⟩
  · skip
    have hi2 : (a / 256) < o.sl.length := M.in_of hc1
    refine E.G.call (.pointer (some ⟨o.b, (a / 256) * 7, none⟩)) (fun w h => at_in o a (by omega) hi2 w h.x.at_) (fun w _ => by kernel_rfl) (by kernel_rfl) ?_
    refine E.G.op (.pointer (some ⟨o.b, (a / 256) * 7, none⟩)) (fun w => by kernel_rfl) (by kernel_rfl) ?_
    refine E.To.code ?_
    refine E.C.seq ?_
    refine E.C.seq ?_
    refine E.C.region ?_
    refine E.G.op (.pointer (some ⟨o.b, (a / 256) * 7, none⟩)) (fun w => by kernel_rfl) (by kernel_rfl) ?_
    refine E.G.op (.bool false) (fun w => by kernel_rfl) (by kernel_rfl) ?_
    refine E.G.op (.bool false) (fun w => by kernel_rfl) (by kernel_rfl) ?_
    refine E.G.op (.pointer (some ⟨o.b, (a / 256) * 7, none⟩)) (fun w => by kernel_rfl) (by kernel_rfl) ?_
    refine E.G.op (.pointer (some ⟨o.b, (a / 256) * 7, none⟩)) (fun w => by kernel_rfl) (by kernel_rfl) ?_
    refine E.G.op (.pointer (some ⟨o.b, (a / 256) * 7, none⟩)) (fun w => by kernel_rfl) (by kernel_rfl) ?_
    refine E.G.val (.pointer (some ⟨(o.at (a / 256)).d, 0, none⟩)) (by kernel_rfl) (fun w h => M.load1 (by kernel_rfl) (M.one Try.underlying70 rfl) (h.x.at_.fld (i := (a / 256)) (k := 0) (by (first | assumption | ((try simp only [Bool.or_eq_false_iff, Bool.or_eq_true, Bool.and_eq_true, Bool.and_eq_false_iff, decide_eq_true_eq, decide_eq_false_iff_not, ge_iff_le, gt_iff_lt] at *); omega))) rfl (by decide) _ rfl)) ?_
    refine E.G.op (.int .u32 ((a : Nat) : Int)) (fun w => by kernel_rfl) (by kernel_rfl) ?_
    refine E.G.val (.int .u32 ((a % 256 : Nat) : Int)) (by kernel_rfl) (fun w h => E.run_as (a := .int .u32 (Int.tmod ((a : Nat) : Int) 256)) (by kernel_rfl) (congrArg (Value.int .u32) (M.mod a))) ?_
    refine E.G.op (.pointer (some ⟨(o.at (a / 256)).d, 0, none⟩)) (fun w => by kernel_rfl) (by kernel_rfl) ?_
    refine E.G.val (.pointer (some ⟨(o.at (a / 256)).d, 0 + (((a % 256 : Nat) : Int)).toNat * 1, none⟩)) (by kernel_rfl) (fun w h => E.idxA (e := 5) (o.at (a / 256)).d 0 256 1 .u32 (((a % 256 : Nat) : Int)) (by kernel_rfl) (by kernel_rfl) (by kernel_rfl) (by kernel_rfl) (by omega) (by omega) w) ?_
    refine E.G.val (.int .u8 (o.C (o.at (a / 256)).d (a % 256))) (by kernel_rfl) (fun w h => M.load1 (by kernel_rfl) (M.one Try.underlying5 rfl) (h.x.at_.byte (M.pg_d (i := (a / 256)) (by (first | assumption | ((try simp only [Bool.or_eq_false_iff, Bool.or_eq_true, Bool.and_eq_true, Bool.and_eq_false_iff, decide_eq_true_eq, decide_eq_false_iff_not, ge_iff_le, gt_iff_lt] at *); omega)))) (a % 256) (by omega) (0 + (((a % 256 : Nat) : Int)).toNat * 1) (by omega))) ?_
    refine E.G.op (.int .u8 v) (fun w => by kernel_rfl) (by kernel_rfl) ?_
    refine E.G.op (.bool ((o.C (o.at (a / 256)).d (a % 256)) == v)) (fun w => by kernel_rfl) (by kernel_rfl) ?_
    refine E.G.op (.bool ((o.C (o.at (a / 256)).d (a % 256)) == v)) (fun w => by kernel_rfl) (by kernel_rfl) ?_
    refine E.To.code ?_
    refine E.C.weak [(1, .int .u32 ((a : Nat) : Int)), (2, .int .u8 v), (6, .pointer (some ⟨o.b, (a / 256) * 7, none⟩)), (24, .bool ((o.C (o.at (a / 256)).d (a % 256)) == v))] [] ⟨by kernel_rfl, by kernel_rfl⟩ (List.Sublist.refl _) ?_
    refine E.C.cond ((o.C (o.at (a / 256)).d (a % 256)) == v) (by kernel_rfl) (by kernel_rfl) (fun hc3 => ?_) (fun hc3 => ?_)
    · skip
      refine E.C.ret (E.P.rt (E.To.body (fn := Try.f39) [] ?_ ?_))
      · exact trivial
      · intro w h
        exact ⟨rfl, o, h.x, h.ch, M.Nxt.refl _ _, fun V hV => hV.set_same h.x.inv hi2 hc3⟩
    · skip
      refine E.C.skip (E.To.code ?_)
      refine E.C.region ?_
      refine E.G.op (.pointer (some ⟨o.b, (a / 256) * 7, none⟩)) (fun w => by kernel_rfl) (by kernel_rfl) ?_
      refine E.G.callX (I := M.Obj) (fun i => M.Nxt w o i ∧ (i.at (a / 256)).od = true ∧ ∀ V, M.Sh o V → M.Sh i V) (fun i => .pointer (some ⟨(i.at (a / 256)).d, 0, none⟩)) (fun i w => M.St i w) (fun _ => []) (fun w h => M.wr_call hi2 h) (fun w _ => by kernel_rfl) (by kernel_rfl) (fun o1 hd => ?_)
      have hl1 : (a / 256) < o1.sl.length := by rw [hd.1.n]; exact hi2
      refine E.G.op (.int .u32 ((a : Nat) : Int)) (fun w => by kernel_rfl) (by kernel_rfl) ?_
      refine E.G.val (.int .u32 ((a % 256 : Nat) : Int)) (by kernel_rfl) (fun w h => E.run_as (a := .int .u32 (Int.tmod ((a : Nat) : Int) 256)) (by kernel_rfl) (congrArg (Value.int .u32) (M.mod a))) ?_
      refine E.G.op (.int .u8 v) (fun w => by kernel_rfl) (by kernel_rfl) ?_
      refine E.G.op (.pointer (some ⟨(o1.at (a / 256)).d, 0, none⟩)) (fun w => by kernel_rfl) (by kernel_rfl) ?_
      refine E.G.val (.pointer (some ⟨(o1.at (a / 256)).d, 0 + (((a % 256 : Nat) : Int)).toNat * 1, none⟩)) (by kernel_rfl) (fun w h => E.idxA (e := 5) (o1.at (a / 256)).d 0 256 1 .u32 (((a % 256 : Nat) : Int)) (by kernel_rfl) (by kernel_rfl) (by kernel_rfl) (by kernel_rfl) (by omega) (by omega) w) ?_
      refine M.G.sto (.int .u8 v) (fun w => M.St (M.byte o1 (o1.at (a / 256)).d (a % 256) v) w) [] (by kernel_rfl) (by kernel_rfl) rfl rfl (by kernel_rfl) (fun u h => ⟨h.x.fz _ (.inr (.inr (M.pg_d hl1))) _, ⟨_, h.x.at_.byte (M.pg_d hl1) (a % 256) (by omega) (0 + (((a % 256 : Nat) : Int)).toNat * 1) (by omega)⟩, (h.x.byte (M.pg_d hl1) (by omega) hv (0 + (((a % 256 : Nat) : Int)).toNat * 1) (by omega)).hp (h.ch.setCell (fun hlt => hd.1.ow _ hlt (M.ow_d hl1 hd.2.1)) _)⟩) (by kernel_rfl) ?_
      refine E.To.bodyN (fn := Try.f39) [] ?_ ?_
      · exact trivial
      · intro w h
        exact ⟨rfl, _, h.x, h.ch, ⟨hd.1.m, hd.1.n, hd.1.coh, hd.1.ow, hd.1.al⟩, fun V hV => (hd.2.2 V hV).byte h.x.inv hl1 hd.2.1⟩
end Go.Proofs.Ytdjjjikokfadiaa
