/- Texts 3 of the walk, merged: see the remark ahead of each. -/
import Derived.Test.YtdjjjikokfadiaaZb2
import Derived.Test.YtdjjjikokfadiaaProg
/- Walks: Dirty of mem, printed by wip/eng. No condition but what is named. -/
namespace Go.Proofs.Ytdjjjikokfadiaa
set_option linter.unusedVariables false
set_option linter.unusedSimpArgs false
open Go.RowKit
/-- A memory object as an item. -/
def M.Ob (b : M.Obj) (xs : List Value) : A.It where
  t w o a := M.St b w ∧ (∀ i v, xs[i]? = some v → w.cell? ⟨b.m, 2 + i, none⟩ = some v) ∧ (∀ x, o x ↔ x = b.m ∨ M.ow b x) ∧ ∀ x, a x ↔ M.all b x
  sub := fun {w o a} h x hx => (M.It b.m ⟨b.sl.length, b.coh, fun j => b.C (b.at j).d, fun j => b.C (M.img (b.at j)), fun j => b.C (b.at j).cd, fun j => b.C ((b.at j).cc.getD (b.at j).cd), fun j => (b.at j).r⟩ xs).sub (w := w) ⟨b, rfl, h.1, ⟨rfl, rfl, fun _ _ _ _ => rfl, fun _ _ _ _ => rfl, fun _ _ _ _ => rfl, fun _ _ _ _ => rfl, fun _ _ => rfl⟩, h.2⟩ x hx
  lt := fun h x hx => h.1.at_.alive ((h.2.2.2 x).1 hx)
  keep := fun {w w' o a} ⟨hs, hx, ho, ha⟩ hk => by
    have key : ∀ {p : Addr} {v : Value}, a p.block → w.cell? p = some v → w'.cell? p = some v := fun {p v} hp hv => by
      rw [World.cell?] at hv ⊢; rw [hk _ hp]; exact hv
    have hmm : a b.m := (ha _).2 (.inl rfl)
    refine ⟨⟨⟨key hmm hs.at_.c0, key hmm hs.at_.c1, hs.at_.ha, fun i v hv => key ((ha _).2 (M.all_b ?_)) (hs.at_.cs i v hv), fun p hp i hi => key ((ha _).2 (.inr (.inr hp))) (hs.at_.pg p hp i hi), hs.at_.lt⟩, hs.inv, fun x hx i => ?_⟩, fun i v hv => key hmm (hx i v hv), ho, ha⟩
    · cases hsl : b.sl with
      | nil => rw [hsl] at hv; simp [M.cells] at hv
      | cons => simp
    · have := hs.fz x hx i
      rw [World.frozen?] at this ⊢; rw [hk x ((ha x).2 hx)]; exact this
  apart := fun ⟨hs, _, _, ha⟩ ⟨hs2, _, _, _⟩ hw hz hx => M.apart_pg hs.at_ hs2.at_ rfl hw hz ((ha _).1 hx)
theorem M.Ob.st {w0 w : World} {o0 a0 : Nat → Prop} {its : List A.It} {L : List (Nat × List Value)} {k : Nat} {b : M.Obj} {xs : List Value} (h : E.Hp o0 w0 (A.X w0 o0 a0 its) L w) (hk : its[k]? = some (M.Ob b xs)) : M.St b w := by
  obtain ⟨o1, a1, hv⟩ := A.X.get h hk
  exact hv.1
theorem M.It.ob {m : Nat} {V : M.V} {xs : List Value} {w : World} {o a : Nat → Prop} (h : (M.It m V xs).t w o a) : ∃ b : M.Obj, b.m = m ∧ M.Sh b V ∧ (M.Ob b xs).t w o a := by
  obtain ⟨b, hm, hs, hV, hx, ho, ha⟩ := h
  exact ⟨b, hm, hV, hs, by rw [hm]; exact hx, by rw [hm]; exact ho, ha⟩
theorem M.Ob.it {b : M.Obj} {V : M.V} {xs : List Value} {w : World} {o a : Nat → Prop} (h : (M.Ob b xs).t w o a) (hV : M.Sh b V) : (M.It b.m V xs).t w o a := ⟨b, rfl, h.1, hV, h.2.1, h.2.2.1, h.2.2.2⟩
theorem A.Has.one' {it : A.It} {w : World} {o a : Nat → Prop} (h : A.Has [it] w o a) : ∃ o' a', it.t w o' a' ∧ (∀ x, o' x ↔ o x) ∧ ∀ x, a' x ↔ a x := by
  obtain ⟨o1, a1, o2, a2, h1, h2, _, _, ho, ha⟩ := h
  exact ⟨o1, a1, h1, fun x => by rw [ho]; exact ⟨.inl, fun h => h.elim id fun h => (h2.1 x h).elim⟩, fun x => by rw [ha]; exact ⟨.inl, fun h => h.elim id fun h => (h2.2 x h).elim⟩⟩
/-- A slice without room speaks of nothing. -/
theorem A.vec0 (k : IntKind) (ao : Option Addr) {l : List A.It} {w : World} {o a : Nat → Prop} (h : A.Has l w o a) : A.Has (A.vec k ao 0 [] :: l) w o a :=
  ⟨fun _ => False, fun _ => False, o, a, ⟨Nat.le_refl _, .inl ⟨rfl, fun _ h => h, fun _ h => h⟩⟩, h, fun _ h => h.elim, fun _ _ h => h, fun x => by simp, fun x => by simp⟩
/-- Whether two images, which are there or not, are the same. -/
def M.opt (o : M.Obj) (p q : Option Nat) : Bool := match p, q with | some p, some q => ((p == q) || (M.eqv (o.C p) (o.C q) (List.range 256))) | _, _ => true
/-- Whether a page has changed. -/
def M.dty (o : M.Obj) (k : Nat) : Bool := (!(((o.at k).d == (o.at k).cd) || (M.eqv (o.C (o.at k).d) (o.C (o.at k).cd) (List.range 256)))) || (!(M.opt o (o.at k).c (o.at k).cc))
def M.dl (o : M.Obj) : Nat → List Int
  | 0 => []
  | k + 1 => bif M.dty o k then M.dl o k ++ [((k : Nat) : Int)] else M.dl o k
theorem M.dl_len (o : M.Obj) : ∀ k, (M.dl o k).length ≤ k
  | 0 => Nat.le_refl _
  | k + 1 => by
    have := M.dl_len o k
    show (bif M.dty o k then M.dl o k ++ [((k : Nat) : Int)] else M.dl o k).length ≤ k + 1
    cases M.dty o k with
    | false => show (M.dl o k).length ≤ k + 1; omega
    | true => show (M.dl o k ++ [_]).length ≤ k + 1; rw [List.length_append]; show _ + 1 ≤ _; omega
theorem same_opt2 (o : M.Obj) (p q : Option Nat) (hn : p.isNone = q.isNone) (hp : ∀ x, p = some x → M.Pg o.sl x) (hq : ∀ x, q = some x → M.Pg o.sl x) (w : World) (hst : M.St o w) : Calls Try.prog 42 #[M.ptr p, M.ptr q] w fun e w' => e = .returned (.bool (M.opt o p q)) ∧ Bel w w' := by
  cases p with
  | none =>
    cases q with
    | none => exact same_nil w
    | some q => cases hn
  | some p =>
    cases q with
    | none => cases hn
    | some q => exact same_some o p q (hp p rfl) (hq q rfl) w hst
theorem M.dl_t {o : M.Obj} {k : Nat} (h : M.dty o k = true) : M.dl o (k + 1) = M.dl o k ++ [((k : Nat) : Int)] := by show (bif M.dty o k then _ else _) = _; rw [h]; rfl
theorem M.dl_f {o : M.Obj} {k : Nat} (h : M.dty o k = false) : M.dl o (k + 1) = M.dl o k := by show (bif M.dty o k then _ else _) = _; rw [h]; rfl
theorem Dirty_ob (o : M.Obj) (xs : List Value) : A.Tr Try.prog 23 #[.pointer (some ⟨o.m, 0, none⟩)] [M.Ob o xs] (I := Option Addr × Nat) (fun i => True) (fun i => .slice i.1 (M.dl o o.sl.length).length i.2) (fun i => [M.Ob o xs, A.vec .i64 i.1 i.2 (M.dl o o.sl.length)]) := by
  intro w oo aa hh
  have hlt : o.sl.length ≤ 4096 := by obtain ⟨o1, a1, hv, _⟩ := A.Has.one' hh; exact hv.1.at_.lt
  replace hh := A.vec0 .i64 none hh
  refine E.enter (n := 45) (S := oo) Try.func23 rfl rfl (by kernel_rfl) (A.start (L := []) hh) ?_
  refine E.C.seq ?_
  refine E.C.region ?_
  refine E.G.op (.slice none 0 0) (fun w => by kernel_rfl) (by kernel_rfl) ?_
  refine E.To.code ?_
  refine E.C.seq ?_
  refine E.C.region ?_
  refine E.G.op (.slice none 0 0) (fun w => by kernel_rfl) (by kernel_rfl) ?_
  refine E.To.code ?_
  refine E.C.seq ?_
  refine E.C.seq ?_
  refine E.C.region ?_
  refine E.G.op (.pointer (some ⟨o.m, 0, none⟩)) (fun w => by kernel_rfl) (by kernel_rfl) ?_
  refine E.G.call (.int .i64 ((o.sl.length : Nat) : Int)) (fun w h => Pages_any o w (M.Ob.st h (k := 1) rfl).at_) (fun w _ => by kernel_rfl) (by kernel_rfl) ?_
  refine E.G.op (.int .i64 0) (fun w => by kernel_rfl) (by kernel_rfl) ?_
  refine E.To.code ?_
  refine E.C.block ?_
  refine E.C.loop (I := Nat × Option Addr × Nat) (fun i => o.sl.length - i.1) (fun i => i.1 ≤ o.sl.length) (fun i => [(0, .pointer (some ⟨o.m, 0, none⟩)), (3, .slice i.2.1 ((M.dl o i.1).length) i.2.2), (7, .int .i64 ((o.sl.length : Nat) : Int)), (8, .int .i64 ((i.1 : Nat) : Int))]) (fun i => A.X w oo aa [A.vec .i64 i.2.1 i.2.2 (M.dl o i.1), M.Ob o xs]) (fun _ => []) (0, none, 0) (Nat.zero_le _) ⟨by kernel_rfl, by kernel_rfl⟩ (List.Sublist.refl _) (fun _ h => h) (fun i hk1 => ?_)
  obtain ⟨k, ao, cp⟩ := i
  have hk1 : k ≤ o.sl.length := hk1
  refine E.C.seq ?_
  refine E.C.region ?_
  refine E.G.op (.bool (decide (((k : Nat) : Int) < ((o.sl.length : Nat) : Int)))) (fun w => by kernel_rfl) (by kernel_rfl) ?_
  refine E.To.code ?_
  refine E.C.seq ?_
  refine E.C.cond (decide (((k : Nat) : Int) < ((o.sl.length : Nat) : Int))) (by kernel_rfl) (by kernel_rfl) (fun hc1 => ?_) (fun hc1 => ?_)
  · skip
    refine E.C.skip (E.To.code ?_)
    refine E.C.seq ?_
    refine E.C.block ?_
    refine E.C.seq ?_
    have hl : k < o.sl.length := by (first | assumption | ((try simp only [Bool.or_eq_false_iff, Bool.or_eq_true, Bool.and_eq_true, Bool.and_eq_false_iff, decide_eq_true_eq, decide_eq_false_iff_not, ge_iff_le, gt_iff_lt] at *); omega))
    refine E.C.region ?_
    refine E.G.op (.int .i64 ((k : Nat) : Int)) (fun w => by kernel_rfl) (by kernel_rfl) ?_
    refine E.G.op (.int .i64 ((k : Nat) : Int)) (fun w => by kernel_rfl) (by kernel_rfl) ?_
    refine E.To.code ?_
    refine E.C.seq ?_
    refine E.C.region ?_
    refine E.G.op (.pointer (some ⟨o.m, 0, none⟩)) (fun w => by kernel_rfl) (by kernel_rfl) ?_
    refine E.G.op (.pointer (some ⟨o.m, 0, none⟩)) (fun w => by kernel_rfl) (by kernel_rfl) ?_
    refine E.G.op (.pointer (some ⟨o.m, 0, none⟩)) (fun w => by kernel_rfl) (by kernel_rfl) ?_
    refine E.G.val (.slice o.ao o.sl.length o.cap) (by kernel_rfl) (fun w h => M.load1 (by kernel_rfl) (M.one Try.underlying64 rfl) (M.Ob.st h (k := 1) rfl).at_.c0) ?_
    refine E.G.op (.int .i64 ((k : Nat) : Int)) (fun w => by kernel_rfl) (by kernel_rfl) ?_
    refine E.G.val (.pointer (some ⟨o.b, k * 7, none⟩)) (by kernel_rfl) (fun w h => M.idxO (e := 74) (i := k) (k := .i64) (ao := o.ao) (b := o.b) (len := o.sl.length) (cap := o.cap) (esz := 7) (by kernel_rfl) (by kernel_rfl) (by kernel_rfl) (by kernel_rfl) (by (first | assumption | ((try simp only [Bool.or_eq_false_iff, Bool.or_eq_true, Bool.and_eq_true, Bool.and_eq_false_iff, decide_eq_true_eq, decide_eq_false_iff_not, ge_iff_le, gt_iff_lt] at *); omega))) (M.Ob.st h (k := 1) rfl).at_.ha w) ?_
    refine E.G.op (.pointer (some ⟨o.b, k * 7, none⟩)) (fun w => by kernel_rfl) (by kernel_rfl) ?_
    refine E.To.code ?_
    refine E.C.weak [(0, .pointer (some ⟨o.m, 0, none⟩)), (3, .slice ao ((M.dl o k).length) cp), (4, .int .i64 ((k : Nat) : Int)), (5, .pointer (some ⟨o.b, k * 7, none⟩)), (7, .int .i64 ((o.sl.length : Nat) : Int)), (8, .int .i64 ((k : Nat) : Int))] [] ⟨by kernel_rfl, by kernel_rfl⟩ (List.Sublist.refl _) ?_
    refine E.C.seq ?_
    refine E.C.quiet (by kernel_rfl) (by kernel_rfl) ?_
    refine E.W.op (.pointer (some ⟨o.b, k * 7, none⟩)) (fun w => by kernel_rfl) (by kernel_rfl) ?_
    refine E.W.op (.pointer (some ⟨o.b, k * 7, none⟩)) (fun w => by kernel_rfl) (by kernel_rfl) ?_
    refine E.W.op (.pointer (some ⟨o.b, k * 7, none⟩)) (fun w => by kernel_rfl) (by kernel_rfl) ?_
    refine E.W.val (.pointer (some ⟨(o.at k).d, 0, none⟩)) (by kernel_rfl) (fun w h => M.load1 (by kernel_rfl) (M.one Try.underlying70 rfl) ((M.Ob.st h (k := 1) rfl).at_.fld (i := k) (k := 0) (by (first | assumption | ((try simp only [Bool.or_eq_false_iff, Bool.or_eq_true, Bool.and_eq_true, Bool.and_eq_false_iff, decide_eq_true_eq, decide_eq_false_iff_not, ge_iff_le, gt_iff_lt] at *); omega))) rfl (by decide) _ rfl)) ?_
    refine E.W.op (.pointer (some ⟨o.b, k * 7, none⟩)) (fun w => by kernel_rfl) (by kernel_rfl) ?_
    refine E.W.op (.pointer (some ⟨o.b, k * 7, none⟩)) (fun w => by kernel_rfl) (by kernel_rfl) ?_
    refine E.W.op (.pointer (some ⟨o.b, (k * 7) + 4, none⟩)) (fun w => by kernel_rfl) (by kernel_rfl) ?_
    refine E.W.val (.pointer (some ⟨(o.at k).cd, 0, none⟩)) (by kernel_rfl) (fun w h => M.load1 (by kernel_rfl) (M.one Try.underlying70 rfl) ((M.Ob.st h (k := 1) rfl).at_.fld (i := k) (k := 4) (by (first | assumption | ((try simp only [Bool.or_eq_false_iff, Bool.or_eq_true, Bool.and_eq_true, Bool.and_eq_false_iff, decide_eq_true_eq, decide_eq_false_iff_not, ge_iff_le, gt_iff_lt] at *); omega))) rfl (by decide) _ rfl)) ?_
    refine E.W.call (.bool (((o.at k).d == (o.at k).cd) || (M.eqv (o.C (o.at k).d) (o.C (o.at k).cd) (List.range 256)))) (fun w h => same_some o (o.at k).d (o.at k).cd (M.pg_d hl) (M.pg_cd hl) w (M.Ob.st h (k := 1) rfl)) (fun w _ => by kernel_rfl) (by kernel_rfl) ?_
    refine E.W.op (.bool (!(((o.at k).d == (o.at k).cd) || (M.eqv (o.C (o.at k).d) (o.C (o.at k).cd) (List.range 256))))) (fun w => by kernel_rfl) (by kernel_rfl) ?_
    refine E.W.op (.bool (!(((o.at k).d == (o.at k).cd) || (M.eqv (o.C (o.at k).d) (o.C (o.at k).cd) (List.range 256))))) (fun w => by kernel_rfl) (by kernel_rfl) ?_
    refine E.W.cut 11 [(0, .pointer (some ⟨o.m, 0, none⟩)), (3, .slice ao ((M.dl o k).length) cp), (4, .int .i64 ((k : Nat) : Int)), (7, .int .i64 ((o.sl.length : Nat) : Int)), (8, .int .i64 ((k : Nat) : Int)), (38, .bool ((!(((o.at k).d == (o.at k).cd) || (M.eqv (o.C (o.at k).d) (o.C (o.at k).cd) (List.range 256)))) || (!(M.opt o (o.at k).c (o.at k).cc))))] ?_ ?_
    · generalize hc2 : (!(((o.at k).d == (o.at k).cd) || (M.eqv (o.C (o.at k).d) (o.C (o.at k).cd) (List.range 256)))) = b3
      cases b3
      · skip
        refine E.W.op (.pointer (some ⟨o.b, k * 7, none⟩)) (fun w => by kernel_rfl) (by kernel_rfl) ?_
        refine E.W.op (.pointer (some ⟨o.b, k * 7, none⟩)) (fun w => by kernel_rfl) (by kernel_rfl) ?_
        refine E.W.op (.pointer (some ⟨o.b, (k * 7) + 1, none⟩)) (fun w => by kernel_rfl) (by kernel_rfl) ?_
        refine E.W.val (M.ptr (o.at k).c) (by kernel_rfl) (fun w h => M.load1 (by kernel_rfl) (M.one Try.underlying70 rfl) ((M.Ob.st h (k := 1) rfl).at_.fld (i := k) (k := 1) (by (first | assumption | ((try simp only [Bool.or_eq_false_iff, Bool.or_eq_true, Bool.and_eq_true, Bool.and_eq_false_iff, decide_eq_true_eq, decide_eq_false_iff_not, ge_iff_le, gt_iff_lt] at *); omega))) rfl (by decide) _ rfl)) ?_
        refine E.W.op (.pointer (some ⟨o.b, k * 7, none⟩)) (fun w => by kernel_rfl) (by kernel_rfl) ?_
        refine E.W.op (.pointer (some ⟨o.b, k * 7, none⟩)) (fun w => by kernel_rfl) (by kernel_rfl) ?_
        refine E.W.op (.pointer (some ⟨o.b, (k * 7) + 5, none⟩)) (fun w => by kernel_rfl) (by kernel_rfl) ?_
        refine E.W.val (M.ptr (o.at k).cc) (by kernel_rfl) (fun w h => M.load1 (by kernel_rfl) (M.one Try.underlying70 rfl) ((M.Ob.st h (k := 1) rfl).at_.fld (i := k) (k := 5) (by (first | assumption | ((try simp only [Bool.or_eq_false_iff, Bool.or_eq_true, Bool.and_eq_true, Bool.and_eq_false_iff, decide_eq_true_eq, decide_eq_false_iff_not, ge_iff_le, gt_iff_lt] at *); omega))) rfl (by decide) _ rfl)) ?_
        refine E.W.call (.bool (M.opt o (o.at k).c (o.at k).cc)) (fun w h => same_opt2 o (o.at k).c (o.at k).cc (by have := (M.Ob.st h (k := 1) rfl).inv.co k hl; rw [this.1, this.2]) (fun x hx => M.pg_c hl hx) (fun x hx => M.pg_cc hl hx) w (M.Ob.st h (k := 1) rfl)) (fun w _ => by kernel_rfl) (by kernel_rfl) ?_
        refine E.W.op (.bool (!(M.opt o (o.at k).c (o.at k).cc))) (fun w => by kernel_rfl) (by kernel_rfl) ?_
        refine E.W.op (.bool (!(M.opt o (o.at k).c (o.at k).cc))) (fun w => by kernel_rfl) (by kernel_rfl) ?_
        exact E.W.end_cut ⟨by kernel_rfl, by kernel_rfl⟩
      · skip
        refine E.W.skip (by kernel_rfl) (by kernel_rfl) ?_
        refine E.W.skip (by kernel_rfl) (by kernel_rfl) ?_
        refine E.W.skip (by kernel_rfl) (by kernel_rfl) ?_
        refine E.W.skip (by kernel_rfl) (by kernel_rfl) ?_
        refine E.W.skip (by kernel_rfl) (by kernel_rfl) ?_
        refine E.W.skip (by kernel_rfl) (by kernel_rfl) ?_
        refine E.W.skip (by kernel_rfl) (by kernel_rfl) ?_
        refine E.W.skip (by kernel_rfl) (by kernel_rfl) ?_
        refine E.W.skip (by kernel_rfl) (by kernel_rfl) ?_
        refine E.W.skip (by kernel_rfl) (by kernel_rfl) ?_
        refine E.W.op (.bool true) (fun w => by kernel_rfl) (by kernel_rfl) ?_
        exact E.W.end_cut ⟨by kernel_rfl, by kernel_rfl⟩
    refine E.W.done (E.To.code ?_)
    refine E.C.cond ((!(((o.at k).d == (o.at k).cd) || (M.eqv (o.C (o.at k).d) (o.C (o.at k).cd) (List.range 256)))) || (!(M.opt o (o.at k).c (o.at k).cc))) (by kernel_rfl) (by kernel_rfl) (fun hc4 => ?_) (fun hc4 => ?_)
    · skip
      refine E.C.region ?_
      refine E.G.op (.slice ao ((M.dl o k).length) cp) (fun w => by kernel_rfl) (by kernel_rfl) ?_
      refine E.G.op (.int .i64 ((k : Nat) : Int)) (fun w => by kernel_rfl) (by kernel_rfl) ?_
      refine E.G.buildSlice [.int .i64 ((k : Nat) : Int)] (by kernel_rfl) (by kernel_rfl) (fun g5 => ?_)
      refine A.G.append1 (e := 3) (kd := .i64) (ao := ao) (cap := cp) 0 0 g5 0 1 8 (M.dl o k) ((k : Nat) : Int) _ rfl (by kernel_rfl) (by kernel_rfl) (by kernel_rfl) (by kernel_rfl) (by kernel_rfl) rfl (by kernel_rfl) (by have := M.dl_len o k; have := (show o.sl.length ≤ 4096 from hlt); omega) (by have := M.dl_len o k; have := (show o.sl.length ≤ 4096 from hlt); omega) (by decide) (by kernel_rfl) (fun ao6 cp7 => ?_)
      refine E.G.op (.slice ao6 (((M.dl o k) ++ [((k : Nat) : Int)]).length) cp7) (fun w => by kernel_rfl) (by kernel_rfl) ?_
      refine E.P.nb (E.To.code ?_)
      have hdl := M.dl_t (o := o) (k := k) hc4
      refine E.C.weak [(0, .pointer (some ⟨o.m, 0, none⟩)), (3, .slice ao6 (((M.dl o k) ++ [((k : Nat) : Int)]).length) cp7), (7, .int .i64 ((o.sl.length : Nat) : Int)), (8, .int .i64 ((k : Nat) : Int))] [] ⟨by kernel_rfl, by kernel_rfl⟩ (List.nil_sublist _) ?_
      rw [← hdl]
      refine E.C.region ?_
      refine E.G.val (.int .i64 ((k + 1 : Nat) : Int)) (by kernel_rfl) (fun w h => E.run_as (a := .int .i64 (IntKind.wrap .i64 (((k : Nat) : Int) + 1))) (by kernel_rfl) (congrArg (Value.int .i64) (M.inc64 (by have := (M.Ob.st h (k := 1) rfl).at_.lt; (first | assumption | ((try simp only [Bool.or_eq_false_iff, Bool.or_eq_true, Bool.and_eq_true, Bool.and_eq_false_iff, decide_eq_true_eq, decide_eq_false_iff_not, ge_iff_le, gt_iff_lt] at *); omega)))))) ?_
      refine E.G.op (.int .i64 ((k + 1 : Nat) : Int)) (fun w => by kernel_rfl) (by kernel_rfl) ?_
      exact E.To.round (k + 1, ao6, cp7) (by show o.sl.length - (k + 1) < o.sl.length - k; (first | assumption | ((try simp only [Bool.or_eq_false_iff, Bool.or_eq_true, Bool.and_eq_true, Bool.and_eq_false_iff, decide_eq_true_eq, decide_eq_false_iff_not, ge_iff_le, gt_iff_lt] at *); omega))) (by show k + 1 ≤ o.sl.length; (first | assumption | ((try simp only [Bool.or_eq_false_iff, Bool.or_eq_true, Bool.and_eq_true, Bool.and_eq_false_iff, decide_eq_true_eq, decide_eq_false_iff_not, ge_iff_le, gt_iff_lt] at *); omega))) ⟨by kernel_rfl, by kernel_rfl⟩ (List.nil_sublist _) (fun _ h => h)
    · skip
      refine E.C.skip (E.P.nb (E.To.code ?_))
      have hdl := M.dl_f (o := o) (k := k) hc4
      refine E.C.weak [(0, .pointer (some ⟨o.m, 0, none⟩)), (3, .slice ao ((M.dl o k).length) cp), (7, .int .i64 ((o.sl.length : Nat) : Int)), (8, .int .i64 ((k : Nat) : Int))] [] ⟨by kernel_rfl, by kernel_rfl⟩ (List.nil_sublist _) ?_
      rw [← hdl]
      refine E.C.region ?_
      refine E.G.val (.int .i64 ((k + 1 : Nat) : Int)) (by kernel_rfl) (fun w h => E.run_as (a := .int .i64 (IntKind.wrap .i64 (((k : Nat) : Int) + 1))) (by kernel_rfl) (congrArg (Value.int .i64) (M.inc64 (by have := (M.Ob.st h (k := 1) rfl).at_.lt; (first | assumption | ((try simp only [Bool.or_eq_false_iff, Bool.or_eq_true, Bool.and_eq_true, Bool.and_eq_false_iff, decide_eq_true_eq, decide_eq_false_iff_not, ge_iff_le, gt_iff_lt] at *); omega)))))) ?_
      refine E.G.op (.int .i64 ((k + 1 : Nat) : Int)) (fun w => by kernel_rfl) (by kernel_rfl) ?_
      exact E.To.round (k + 1, ao, cp) (by show o.sl.length - (k + 1) < o.sl.length - k; (first | assumption | ((try simp only [Bool.or_eq_false_iff, Bool.or_eq_true, Bool.and_eq_true, Bool.and_eq_false_iff, decide_eq_true_eq, decide_eq_false_iff_not, ge_iff_le, gt_iff_lt] at *); omega))) (by show k + 1 ≤ o.sl.length; (first | assumption | ((try simp only [Bool.or_eq_false_iff, Bool.or_eq_true, Bool.and_eq_true, Bool.and_eq_false_iff, decide_eq_true_eq, decide_eq_false_iff_not, ge_iff_le, gt_iff_lt] at *); omega))) ⟨by kernel_rfl, by kernel_rfl⟩ (List.nil_sublist _) (fun _ h => h)
  · skip
    refine E.C.exit (E.P.et (E.P.et (E.P.eh (E.To.code ?_))))
    refine E.C.seq ?_
    refine E.C.region ?_
    refine E.G.op (.slice ao ((M.dl o k).length) cp) (fun w => by kernel_rfl) (by kernel_rfl) ?_
    refine E.G.op (.slice ao ((M.dl o k).length) cp) (fun w => by kernel_rfl) (by kernel_rfl) ?_
    refine E.To.code ?_
    refine E.C.ret (E.To.body (fn := Try.f23) [.slice ao ((M.dl o k).length) cp] ?_ ?_)
    · exact ⟨⟨by kernel_rfl, by kernel_rfl⟩, trivial⟩
    · intro w h
      have e : k = o.sl.length := by (first | assumption | ((try simp only [Bool.or_eq_false_iff, Bool.or_eq_true, Bool.and_eq_true, Bool.and_eq_false_iff, decide_eq_true_eq, decide_eq_false_iff_not, ge_iff_le, gt_iff_lt] at *); omega))
      rw [← e]
      exact ⟨(ao, cp), trivial, rfl, A.done (q := [M.Ob o xs, A.vec .i64 ao cp (M.dl o k)]) (r := []) h (by kernel_rfl) (A.pm [1, 0] (by kernel_rfl) (by kernel_rfl))⟩
end Go.Proofs.Ytdjjjikokfadiaa

/- Walks: Equal of mem, printed by wip/eng. No condition but what is named. -/
namespace Go.Proofs.Ytdjjjikokfadiaa
set_option linter.unusedVariables false
set_option linter.unusedSimpArgs false
open Go.RowKit
theorem M.St.two {a b : M.Obj} {w : World} (ha : M.St a w) (hb : M.St b w) : E.Hp (fun _ => False) w (fun w => M.St a w ∧ M.St b w) [] w :=
  ⟨Ch.refl _ _, by simp, by simp, by simp, by simp, by simp, fun w' _ hw => ⟨ha.keep fun x hx => hw x hx (by simp), hb.keep fun x hx => hw x hx (by simp)⟩⟩
theorem same_two (a b : M.Obj) (p q : Nat) (hp : M.Pg a.sl p) (hq : M.Pg b.sl q) (w : World) (ha : M.St a w) (hb : M.St b w) : Calls Try.prog 42 #[.pointer (some ⟨p, 0, none⟩), .pointer (some ⟨q, 0, none⟩)] w fun e w' => e = .returned (.bool ((p == q) || (M.eqv (a.C p) (b.C q) (List.range 256)))) ∧ Bel w w' := by
  refine E.enter (n := 25) (S := fun _ => False) Try.func42 rfl rfl (by kernel_rfl) (ha.two hb) ?_
  refine E.C.seq ?_
  refine E.C.region ?_
  refine E.G.op (.bool false) (fun w => by kernel_rfl) (by kernel_rfl) ?_
  refine E.To.code ?_
  refine E.C.seq ?_
  refine E.C.quiet (by kernel_rfl) (by kernel_rfl) ?_
  refine E.W.op (.pointer (some ⟨p, 0, none⟩)) (fun w => by kernel_rfl) (by kernel_rfl) ?_
  refine E.W.op (.pointer (some ⟨q, 0, none⟩)) (fun w => by kernel_rfl) (by kernel_rfl) ?_
  refine E.W.val (.bool (p == q)) (by kernel_rfl) (fun w h => M.ptr_eq (by kernel_rfl) (by kernel_rfl) (h.x.1.at_.pg p hp 0 (by decide)) (h.x.2.at_.pg q hq 0 (by decide)) (h.x.1.fz p (.inr (.inr hp))) (h.x.2.fz q (.inr (.inr hq)))) ?_
  refine E.W.op (.bool (p == q)) (fun w => by kernel_rfl) (by kernel_rfl) ?_
  refine E.W.cut 16 [(4, .bool false), (24, .bool ((p == q) || (M.eqv (a.C p) (b.C q) (List.range 256))))] ?_ ?_
  · generalize hc1 : (p == q) = b2
    cases b2
    · skip
      refine E.W.op (.pointer (some ⟨p, 0, none⟩)) (fun w => by kernel_rfl) (by kernel_rfl) ?_
      refine E.W.op (.bool true) (fun w => by kernel_rfl) (by kernel_rfl) ?_
      refine E.W.op (.bool true) (fun w => by kernel_rfl) (by kernel_rfl) ?_
      refine E.W.op (.pointer (some ⟨q, 0, none⟩)) (fun w => by kernel_rfl) (by kernel_rfl) ?_
      refine E.W.op (.bool true) (fun w => by kernel_rfl) (by kernel_rfl) ?_
      refine E.W.op (.bool true) (fun w => by kernel_rfl) (by kernel_rfl) ?_
      refine E.W.op (.bool true) (fun w => by kernel_rfl) (by kernel_rfl) ?_
      refine E.W.op (.pointer (some ⟨p, 0, none⟩)) (fun w => by kernel_rfl) (by kernel_rfl) ?_
      refine E.W.op (.pointer (some ⟨p, 0, none⟩)) (fun w => by kernel_rfl) (by kernel_rfl) ?_
      refine E.W.val (.agg (M.pgv (a.C p)).toArray) (by kernel_rfl) (fun w h => M.loadPage h.x.1.at_ hp (by kernel_rfl)) ?_
      refine E.W.op (.pointer (some ⟨q, 0, none⟩)) (fun w => by kernel_rfl) (by kernel_rfl) ?_
      refine E.W.op (.pointer (some ⟨q, 0, none⟩)) (fun w => by kernel_rfl) (by kernel_rfl) ?_
      refine E.W.val (.agg (M.pgv (b.C q)).toArray) (by kernel_rfl) (fun w h => M.loadPage h.x.2.at_ hq (by kernel_rfl)) ?_
      refine E.W.val (.bool (M.eqv (a.C p) (b.C q) (List.range 256))) (by kernel_rfl) (fun w h => M.pg_eql (by kernel_rfl) (by kernel_rfl)) ?_
      refine E.W.op (.bool (M.eqv (a.C p) (b.C q) (List.range 256))) (fun w => by kernel_rfl) (by kernel_rfl) ?_
      refine E.W.op (.bool (M.eqv (a.C p) (b.C q) (List.range 256))) (fun w => by kernel_rfl) (by kernel_rfl) ?_
      exact E.W.end_cut ⟨by kernel_rfl, by kernel_rfl⟩
    · skip
      refine E.W.skip (by kernel_rfl) (by kernel_rfl) ?_
      refine E.W.skip (by kernel_rfl) (by kernel_rfl) ?_
      refine E.W.skip (by kernel_rfl) (by kernel_rfl) ?_
      refine E.W.skip (by kernel_rfl) (by kernel_rfl) ?_
      refine E.W.skip (by kernel_rfl) (by kernel_rfl) ?_
      refine E.W.skip (by kernel_rfl) (by kernel_rfl) ?_
      refine E.W.skip (by kernel_rfl) (by kernel_rfl) ?_
      refine E.W.skip (by kernel_rfl) (by kernel_rfl) ?_
      refine E.W.skip (by kernel_rfl) (by kernel_rfl) ?_
      refine E.W.skip (by kernel_rfl) (by kernel_rfl) ?_
      refine E.W.skip (by kernel_rfl) (by kernel_rfl) ?_
      refine E.W.skip (by kernel_rfl) (by kernel_rfl) ?_
      refine E.W.skip (by kernel_rfl) (by kernel_rfl) ?_
      refine E.W.skip (by kernel_rfl) (by kernel_rfl) ?_
      refine E.W.skip (by kernel_rfl) (by kernel_rfl) ?_
      refine E.W.op (.bool true) (fun w => by kernel_rfl) (by kernel_rfl) ?_
      exact E.W.end_cut ⟨by kernel_rfl, by kernel_rfl⟩
  refine E.W.op (.bool ((p == q) || (M.eqv (a.C p) (b.C q) (List.range 256)))) (fun w => by kernel_rfl) (by kernel_rfl) ?_
  refine E.W.done (E.To.code ?_)
  refine E.C.ret (E.To.body (fn := Try.f42) [.bool ((p == q) || (M.eqv (a.C p) (b.C q) (List.range 256)))] ?_ ?_)
  · exact ⟨⟨by kernel_rfl, by kernel_rfl⟩, trivial⟩
  · intro w h
    exact ⟨rfl, h.ch.bel (fun _ h => h.elim)⟩
def M.sm (a b : M.Obj) (p q : Nat) : Bool := (p == q) || (M.eqv (a.C p) (b.C q) (List.range 256))
/-- Whether two pages differ. -/
def M.nep (a b : M.Obj) (k : Nat) : Bool := (((a.at k).r != (b.at k).r) || (!(M.sm a b (a.at k).d (b.at k).d))) || (!(M.sm a b (M.img (a.at k)) (M.img (b.at k))))
def M.eqs (a b : M.Obj) : Nat → Bool
  | 0 => true
  | k + 1 => M.eqs a b k && !(M.nep a b k)
def M.eql (a b : M.Obj) : Bool := (a.sl.length == b.sl.length) && M.eqs a b a.sl.length
theorem M.eqs_no {a b : M.Obj} {k : Nat} (h : M.nep a b k = true) : ∀ n, k < n → M.eqs a b n = false
  | 0, hk => by omega
  | n + 1, hk => by
    show (M.eqs a b n && !(M.nep a b n)) = false
    by_cases e : k = n
    · subst e; rw [h]; simp
    · rw [M.eqs_no h n (by omega)]; rfl
theorem M.eql_len {a b : M.Obj} (h : (((a.sl.length : Nat) : Int) != ((b.sl.length : Nat) : Int)) = true) : M.eql a b = false := by
  unfold M.eql
  have : (a.sl.length == b.sl.length) = false := by
    simp at h ⊢; intro e; exact h (by rw [e])
  rw [this]; rfl
theorem M.eql_go {a b : M.Obj} (h : (((a.sl.length : Nat) : Int) != ((b.sl.length : Nat) : Int)) = false) : a.sl.length = b.sl.length := by
  have h' : ((a.sl.length : Nat) : Int) = ((b.sl.length : Nat) : Int) := by simpa using h
  omega
theorem Equal_any (a b : M.Obj) (w : World) (ha : M.St a w) (hb : M.St b w) : Calls Try.prog 30 #[.pointer (some ⟨a.m, 0, none⟩), .pointer (some ⟨b.m, 0, none⟩)] w fun e w' => e = .returned (.bool (M.eql a b)) ∧ Bel w w' := by
  refine E.enter (n := 60) (S := fun _ => False) Try.func30 rfl rfl (by kernel_rfl) (ha.two hb) ?_
  refine E.C.seq ?_
  refine E.C.region ?_
  refine E.G.op (.bool false) (fun w => by kernel_rfl) (by kernel_rfl) ?_
  refine E.To.code ?_
  refine E.C.seq ?_
  refine E.C.seq ?_
  refine E.C.region ?_
  refine E.G.op (.pointer (some ⟨a.m, 0, none⟩)) (fun w => by kernel_rfl) (by kernel_rfl) ?_
  refine E.G.call (.int .i64 ((a.sl.length : Nat) : Int)) (fun w h => Pages_any a w h.x.1.at_) (fun w _ => by kernel_rfl) (by kernel_rfl) ?_
  refine E.G.op (.pointer (some ⟨b.m, 0, none⟩)) (fun w => by kernel_rfl) (by kernel_rfl) ?_
  refine E.G.call (.int .i64 ((b.sl.length : Nat) : Int)) (fun w h => Pages_any b w h.x.2.at_) (fun w _ => by kernel_rfl) (by kernel_rfl) ?_
  refine E.G.op (.bool (((a.sl.length : Nat) : Int) != ((b.sl.length : Nat) : Int))) (fun w => by kernel_rfl) (by kernel_rfl) ?_
  refine E.To.code ?_
  refine E.C.cond (((a.sl.length : Nat) : Int) != ((b.sl.length : Nat) : Int)) (by kernel_rfl) (by kernel_rfl) (fun hc1 => ?_) (fun hc1 => ?_)
  · skip
    refine E.C.seq ?_
    refine E.C.region ?_
    refine E.G.op (.bool false) (fun w => by kernel_rfl) (by kernel_rfl) ?_
    refine E.To.code ?_
    refine E.C.ret (E.P.rt (E.To.body (fn := Try.f30) [.bool false] ?_ ?_))
    · exact ⟨⟨by kernel_rfl, by kernel_rfl⟩, trivial⟩
    · intro w h
      exact ⟨by rw [M.eql_len hc1]; rfl, h.ch.bel (fun _ h => h.elim)⟩
  · skip
    refine E.C.skip (E.To.code ?_)
    refine E.C.seq ?_
    refine E.C.seq ?_
    refine E.C.region ?_
    refine E.G.op (.pointer (some ⟨a.m, 0, none⟩)) (fun w => by kernel_rfl) (by kernel_rfl) ?_
    refine E.G.call (.int .i64 ((a.sl.length : Nat) : Int)) (fun w h => Pages_any a w h.x.1.at_) (fun w _ => by kernel_rfl) (by kernel_rfl) ?_
    refine E.G.op (.int .i64 0) (fun w => by kernel_rfl) (by kernel_rfl) ?_
    refine E.To.code ?_
    refine E.C.block ?_
    refine E.C.loop (I := Nat) (fun k => a.sl.length - k) (fun k => k ≤ a.sl.length ∧ M.eqs a b k = true) (fun k => [(0, .pointer (some ⟨a.m, 0, none⟩)), (1, .pointer (some ⟨b.m, 0, none⟩)), (4, .bool false), (14, .int .i64 ((a.sl.length : Nat) : Int)), (15, .int .i64 ((k : Nat) : Int))]) (fun k => fun w => M.St a w ∧ M.St b w) (fun k => []) 0 (⟨Nat.zero_le _, rfl⟩) ⟨by kernel_rfl, by kernel_rfl⟩ (List.Sublist.refl _) (fun _ h => h) (fun k hk1 => ?_)
    refine E.C.seq ?_
    refine E.C.region ?_
    refine E.G.op (.bool (decide (((k : Nat) : Int) < ((a.sl.length : Nat) : Int)))) (fun w => by kernel_rfl) (by kernel_rfl) ?_
    refine E.To.code ?_
    refine E.C.seq ?_
    refine E.C.cond (decide (((k : Nat) : Int) < ((a.sl.length : Nat) : Int))) (by kernel_rfl) (by kernel_rfl) (fun hc2 => ?_) (fun hc2 => ?_)
    · skip
      refine E.C.skip (E.To.code ?_)
      refine E.C.seq ?_
      refine E.C.block ?_
      refine E.C.seq ?_
      have hl : k < a.sl.length := by (first | assumption | ((try simp only [Bool.or_eq_false_iff, Bool.or_eq_true, Bool.and_eq_true, Bool.and_eq_false_iff, decide_eq_true_eq, decide_eq_false_iff_not, ge_iff_le, gt_iff_lt] at *); omega))
      have hl2 : k < b.sl.length := by rw [← M.eql_go hc1]; exact hl
      refine E.C.region ?_
      refine E.G.op (.int .i64 ((k : Nat) : Int)) (fun w => by kernel_rfl) (by kernel_rfl) ?_
      refine E.G.op (.int .i64 ((k : Nat) : Int)) (fun w => by kernel_rfl) (by kernel_rfl) ?_
      refine E.To.code ?_
      refine E.C.seq ?_
      refine E.C.quiet (by kernel_rfl) (by kernel_rfl) ?_
      refine E.W.op (.pointer (some ⟨a.m, 0, none⟩)) (fun w => by kernel_rfl) (by kernel_rfl) ?_
      refine E.W.op (.pointer (some ⟨a.m, 0, none⟩)) (fun w => by kernel_rfl) (by kernel_rfl) ?_
      refine E.W.op (.pointer (some ⟨a.m, 0, none⟩)) (fun w => by kernel_rfl) (by kernel_rfl) ?_
      refine E.W.val (.slice a.ao a.sl.length a.cap) (by kernel_rfl) (fun w h => M.load1 (by kernel_rfl) (M.one Try.underlying64 rfl) h.x.1.at_.c0) ?_
      refine E.W.op (.int .i64 ((k : Nat) : Int)) (fun w => by kernel_rfl) (by kernel_rfl) ?_
      refine E.W.val (.pointer (some ⟨a.b, k * 7, none⟩)) (by kernel_rfl) (fun w h => M.idxO (e := 74) (i := k) (k := .i64) (ao := a.ao) (b := a.b) (len := a.sl.length) (cap := a.cap) (esz := 7) (by kernel_rfl) (by kernel_rfl) (by kernel_rfl) (by kernel_rfl) (by omega) h.x.1.at_.ha w) ?_
      refine E.W.op (.pointer (some ⟨b.m, 0, none⟩)) (fun w => by kernel_rfl) (by kernel_rfl) ?_
      refine E.W.op (.pointer (some ⟨b.m, 0, none⟩)) (fun w => by kernel_rfl) (by kernel_rfl) ?_
      refine E.W.op (.pointer (some ⟨b.m, 0, none⟩)) (fun w => by kernel_rfl) (by kernel_rfl) ?_
      refine E.W.val (.slice b.ao b.sl.length b.cap) (by kernel_rfl) (fun w h => M.load1 (by kernel_rfl) (M.one Try.underlying64 rfl) h.x.2.at_.c0) ?_
      refine E.W.op (.int .i64 ((k : Nat) : Int)) (fun w => by kernel_rfl) (by kernel_rfl) ?_
      refine E.W.val (.pointer (some ⟨b.b, k * 7, none⟩)) (by kernel_rfl) (fun w h => M.idxO (e := 74) (i := k) (k := .i64) (ao := b.ao) (b := b.b) (len := b.sl.length) (cap := b.cap) (esz := 7) (by kernel_rfl) (by kernel_rfl) (by kernel_rfl) (by kernel_rfl) (by omega) h.x.2.at_.ha w) ?_
      refine E.W.op (.pointer (some ⟨a.b, k * 7, none⟩)) (fun w => by kernel_rfl) (by kernel_rfl) ?_
      refine E.W.op (.pointer (some ⟨b.b, k * 7, none⟩)) (fun w => by kernel_rfl) (by kernel_rfl) ?_
      refine E.W.done (E.To.code ?_)
      refine E.C.seq ?_
      refine E.C.quiet (by kernel_rfl) (by kernel_rfl) ?_
      refine E.W.op (.pointer (some ⟨a.b, k * 7, none⟩)) (fun w => by kernel_rfl) (by kernel_rfl) ?_
      refine E.W.op (.pointer (some ⟨a.b, k * 7, none⟩)) (fun w => by kernel_rfl) (by kernel_rfl) ?_
      refine E.W.op (.pointer (some ⟨a.b, (k * 7) + 6, none⟩)) (fun w => by kernel_rfl) (by kernel_rfl) ?_
      refine E.W.val (.int .i64 ((a.at k).r)) (by kernel_rfl) (fun w h => M.load1 (by kernel_rfl) (M.one Try.underlying3 rfl) (h.x.1.at_.fld (i := k) (k := 6) (by (first | assumption | ((try simp only [Bool.or_eq_false_iff, Bool.or_eq_true, Bool.and_eq_true, Bool.and_eq_false_iff, decide_eq_true_eq, decide_eq_false_iff_not, ge_iff_le, gt_iff_lt] at *); omega))) rfl (by decide) _ rfl)) ?_
      refine E.W.op (.pointer (some ⟨b.b, k * 7, none⟩)) (fun w => by kernel_rfl) (by kernel_rfl) ?_
      refine E.W.op (.pointer (some ⟨b.b, k * 7, none⟩)) (fun w => by kernel_rfl) (by kernel_rfl) ?_
      refine E.W.op (.pointer (some ⟨b.b, (k * 7) + 6, none⟩)) (fun w => by kernel_rfl) (by kernel_rfl) ?_
      refine E.W.val (.int .i64 ((b.at k).r)) (by kernel_rfl) (fun w h => M.load1 (by kernel_rfl) (M.one Try.underlying3 rfl) (h.x.2.at_.fld (i := k) (k := 6) (by (first | assumption | ((try simp only [Bool.or_eq_false_iff, Bool.or_eq_true, Bool.and_eq_true, Bool.and_eq_false_iff, decide_eq_true_eq, decide_eq_false_iff_not, ge_iff_le, gt_iff_lt] at *); omega))) rfl (by decide) _ rfl)) ?_
      refine E.W.op (.bool (((a.at k).r) != ((b.at k).r))) (fun w => by kernel_rfl) (by kernel_rfl) ?_
      refine E.W.op (.bool (((a.at k).r) != ((b.at k).r))) (fun w => by kernel_rfl) (by kernel_rfl) ?_
      refine E.W.cut 11 [(0, .pointer (some ⟨a.m, 0, none⟩)), (1, .pointer (some ⟨b.m, 0, none⟩)), (4, .bool false), (5, .int .i64 ((k : Nat) : Int)), (6, .pointer (some ⟨a.b, k * 7, none⟩)), (7, .pointer (some ⟨b.b, k * 7, none⟩)), (14, .int .i64 ((a.sl.length : Nat) : Int)), (15, .int .i64 ((k : Nat) : Int)), (16, .bool (decide (((k : Nat) : Int) < ((a.sl.length : Nat) : Int)))), (17, .int .i64 ((k : Nat) : Int)), (18, .pointer (some ⟨a.m, 0, none⟩)), (19, .pointer (some ⟨a.m, 0, none⟩)), (20, .pointer (some ⟨a.m, 0, none⟩)), (21, .slice a.ao a.sl.length a.cap), (22, .int .i64 ((k : Nat) : Int)), (23, .pointer (some ⟨a.b, k * 7, none⟩)), (24, .pointer (some ⟨b.m, 0, none⟩)), (25, .pointer (some ⟨b.m, 0, none⟩)), (26, .pointer (some ⟨b.m, 0, none⟩)), (27, .slice b.ao b.sl.length b.cap), (28, .int .i64 ((k : Nat) : Int)), (29, .pointer (some ⟨b.b, k * 7, none⟩)), (30, .pointer (some ⟨a.b, k * 7, none⟩)), (31, .pointer (some ⟨a.b, k * 7, none⟩)), (32, .pointer (some ⟨a.b, (k * 7) + 6, none⟩)), (33, .int .i64 ((a.at k).r)), (34, .pointer (some ⟨b.b, k * 7, none⟩)), (35, .pointer (some ⟨b.b, k * 7, none⟩)), (36, .pointer (some ⟨b.b, (k * 7) + 6, none⟩)), (37, .int .i64 ((b.at k).r)), (38, .bool (((a.at k).r) != ((b.at k).r))), (39, .bool (((a.at k).r) != ((b.at k).r))), (50, .bool ((((a.at k).r) != ((b.at k).r)) || (!(M.sm a b (a.at k).d (b.at k).d))))] ?_ ?_
      · generalize hc3 : (((a.at k).r) != ((b.at k).r)) = b4
        cases b4
        · skip
          refine E.W.op (.pointer (some ⟨a.b, k * 7, none⟩)) (fun w => by kernel_rfl) (by kernel_rfl) ?_
          refine E.W.op (.pointer (some ⟨a.b, k * 7, none⟩)) (fun w => by kernel_rfl) (by kernel_rfl) ?_
          refine E.W.op (.pointer (some ⟨a.b, k * 7, none⟩)) (fun w => by kernel_rfl) (by kernel_rfl) ?_
          refine E.W.val (.pointer (some ⟨(a.at k).d, 0, none⟩)) (by kernel_rfl) (fun w h => M.load1 (by kernel_rfl) (M.one Try.underlying70 rfl) (h.x.1.at_.fld (i := k) (k := 0) (by (first | assumption | ((try simp only [Bool.or_eq_false_iff, Bool.or_eq_true, Bool.and_eq_true, Bool.and_eq_false_iff, decide_eq_true_eq, decide_eq_false_iff_not, ge_iff_le, gt_iff_lt] at *); omega))) rfl (by decide) _ rfl)) ?_
          refine E.W.op (.pointer (some ⟨b.b, k * 7, none⟩)) (fun w => by kernel_rfl) (by kernel_rfl) ?_
          refine E.W.op (.pointer (some ⟨b.b, k * 7, none⟩)) (fun w => by kernel_rfl) (by kernel_rfl) ?_
          refine E.W.op (.pointer (some ⟨b.b, k * 7, none⟩)) (fun w => by kernel_rfl) (by kernel_rfl) ?_
          refine E.W.val (.pointer (some ⟨(b.at k).d, 0, none⟩)) (by kernel_rfl) (fun w h => M.load1 (by kernel_rfl) (M.one Try.underlying70 rfl) (h.x.2.at_.fld (i := k) (k := 0) (by (first | assumption | ((try simp only [Bool.or_eq_false_iff, Bool.or_eq_true, Bool.and_eq_true, Bool.and_eq_false_iff, decide_eq_true_eq, decide_eq_false_iff_not, ge_iff_le, gt_iff_lt] at *); omega))) rfl (by decide) _ rfl)) ?_
          refine E.W.call (.bool (M.sm a b (a.at k).d (b.at k).d)) (fun w h => same_two a b (a.at k).d (b.at k).d (M.pg_d (by omega)) (M.pg_d (by omega)) w h.x.1 h.x.2) (fun w _ => by kernel_rfl) (by kernel_rfl) ?_
          refine E.W.op (.bool (!(M.sm a b (a.at k).d (b.at k).d))) (fun w => by kernel_rfl) (by kernel_rfl) ?_
          refine E.W.op (.bool (!(M.sm a b (a.at k).d (b.at k).d))) (fun w => by kernel_rfl) (by kernel_rfl) ?_
          exact E.W.end_cut ⟨by kernel_rfl, by kernel_rfl⟩
        · skip
          refine E.W.skip (by kernel_rfl) (by kernel_rfl) ?_
          refine E.W.skip (by kernel_rfl) (by kernel_rfl) ?_
          refine E.W.skip (by kernel_rfl) (by kernel_rfl) ?_
          refine E.W.skip (by kernel_rfl) (by kernel_rfl) ?_
          refine E.W.skip (by kernel_rfl) (by kernel_rfl) ?_
          refine E.W.skip (by kernel_rfl) (by kernel_rfl) ?_
          refine E.W.skip (by kernel_rfl) (by kernel_rfl) ?_
          refine E.W.skip (by kernel_rfl) (by kernel_rfl) ?_
          refine E.W.skip (by kernel_rfl) (by kernel_rfl) ?_
          refine E.W.skip (by kernel_rfl) (by kernel_rfl) ?_
          refine E.W.op (.bool true) (fun w => by kernel_rfl) (by kernel_rfl) ?_
          exact E.W.end_cut ⟨by kernel_rfl, by kernel_rfl⟩
      refine E.W.op (.bool ((((a.at k).r) != ((b.at k).r)) || (!(M.sm a b (a.at k).d (b.at k).d)))) (fun w => by kernel_rfl) (by kernel_rfl) ?_
      refine E.W.cut 7 [(0, .pointer (some ⟨a.m, 0, none⟩)), (1, .pointer (some ⟨b.m, 0, none⟩)), (4, .bool false), (5, .int .i64 ((k : Nat) : Int)), (6, .pointer (some ⟨a.b, k * 7, none⟩)), (7, .pointer (some ⟨b.b, k * 7, none⟩)), (14, .int .i64 ((a.sl.length : Nat) : Int)), (15, .int .i64 ((k : Nat) : Int)), (16, .bool (decide (((k : Nat) : Int) < ((a.sl.length : Nat) : Int)))), (17, .int .i64 ((k : Nat) : Int)), (18, .pointer (some ⟨a.m, 0, none⟩)), (19, .pointer (some ⟨a.m, 0, none⟩)), (20, .pointer (some ⟨a.m, 0, none⟩)), (21, .slice a.ao a.sl.length a.cap), (22, .int .i64 ((k : Nat) : Int)), (23, .pointer (some ⟨a.b, k * 7, none⟩)), (24, .pointer (some ⟨b.m, 0, none⟩)), (25, .pointer (some ⟨b.m, 0, none⟩)), (26, .pointer (some ⟨b.m, 0, none⟩)), (27, .slice b.ao b.sl.length b.cap), (28, .int .i64 ((k : Nat) : Int)), (29, .pointer (some ⟨b.b, k * 7, none⟩)), (30, .pointer (some ⟨a.b, k * 7, none⟩)), (31, .pointer (some ⟨a.b, k * 7, none⟩)), (32, .pointer (some ⟨a.b, (k * 7) + 6, none⟩)), (33, .int .i64 ((a.at k).r)), (34, .pointer (some ⟨b.b, k * 7, none⟩)), (35, .pointer (some ⟨b.b, k * 7, none⟩)), (36, .pointer (some ⟨b.b, (k * 7) + 6, none⟩)), (37, .int .i64 ((b.at k).r)), (38, .bool (((a.at k).r) != ((b.at k).r))), (39, .bool (((a.at k).r) != ((b.at k).r))), (50, .bool ((((a.at k).r) != ((b.at k).r)) || (!(M.sm a b (a.at k).d (b.at k).d)))), (51, .bool ((((a.at k).r) != ((b.at k).r)) || (!(M.sm a b (a.at k).d (b.at k).d)))), (58, .bool (((((a.at k).r) != ((b.at k).r)) || (!(M.sm a b (a.at k).d (b.at k).d))) || (!(M.sm a b (M.img (a.at k)) (M.img (b.at k))))))] ?_ ?_
      · generalize hc5 : ((((a.at k).r) != ((b.at k).r)) || (!(M.sm a b (a.at k).d (b.at k).d))) = b6
        cases b6
        · skip
          refine E.W.op (.pointer (some ⟨a.b, k * 7, none⟩)) (fun w => by kernel_rfl) (by kernel_rfl) ?_
          refine E.W.call (.pointer (some ⟨(M.img (a.at k)), 0, none⟩)) (fun w h => image_any a k (by omega) w h.x.1.at_) (fun w _ => by kernel_rfl) (by kernel_rfl) ?_
          refine E.W.op (.pointer (some ⟨b.b, k * 7, none⟩)) (fun w => by kernel_rfl) (by kernel_rfl) ?_
          refine E.W.call (.pointer (some ⟨(M.img (b.at k)), 0, none⟩)) (fun w h => image_any b k (by omega) w h.x.2.at_) (fun w _ => by kernel_rfl) (by kernel_rfl) ?_
          refine E.W.call (.bool (M.sm a b (M.img (a.at k)) (M.img (b.at k)))) (fun w h => same_two a b (M.img (a.at k)) (M.img (b.at k)) (M.pg_img (by omega)) (M.pg_img (by omega)) w h.x.1 h.x.2) (fun w _ => by kernel_rfl) (by kernel_rfl) ?_
          refine E.W.op (.bool (!(M.sm a b (M.img (a.at k)) (M.img (b.at k))))) (fun w => by kernel_rfl) (by kernel_rfl) ?_
          refine E.W.op (.bool (!(M.sm a b (M.img (a.at k)) (M.img (b.at k))))) (fun w => by kernel_rfl) (by kernel_rfl) ?_
          exact E.W.end_cut ⟨by kernel_rfl, by kernel_rfl⟩
        · skip
          refine E.W.skip (by kernel_rfl) (by kernel_rfl) ?_
          refine E.W.skip (by kernel_rfl) (by kernel_rfl) ?_
          refine E.W.skip (by kernel_rfl) (by kernel_rfl) ?_
          refine E.W.skip (by kernel_rfl) (by kernel_rfl) ?_
          refine E.W.skip (by kernel_rfl) (by kernel_rfl) ?_
          refine E.W.skip (by kernel_rfl) (by kernel_rfl) ?_
          refine E.W.op (.bool true) (fun w => by kernel_rfl) (by kernel_rfl) ?_
          exact E.W.end_cut ⟨by kernel_rfl, by kernel_rfl⟩
      refine E.W.done (E.To.code ?_)
      refine E.C.cond (((((a.at k).r) != ((b.at k).r)) || (!(M.sm a b (a.at k).d (b.at k).d))) || (!(M.sm a b (M.img (a.at k)) (M.img (b.at k))))) (by kernel_rfl) (by kernel_rfl) (fun hc7 => ?_) (fun hc7 => ?_)
      · skip
        refine E.C.seq ?_
        refine E.C.region ?_
        refine E.G.op (.bool false) (fun w => by kernel_rfl) (by kernel_rfl) ?_
        refine E.To.code ?_
        refine E.C.ret (E.P.rb (E.P.rt (E.P.rt (E.P.rb (E.P.rt (E.To.body (fn := Try.f30) [.bool false] ?_ ?_))))))
        · exact ⟨⟨by kernel_rfl, by kernel_rfl⟩, trivial⟩
        · intro w h
          exact ⟨by unfold M.eql; rw [M.eqs_no (k := k) hc7 _ hl, Bool.and_false]; rfl, h.ch.bel (fun _ h => h.elim)⟩
      · skip
        refine E.C.skip (E.P.nb (E.To.code ?_))
        refine E.C.region ?_
        refine E.G.val (.int .i64 ((k + 1 : Nat) : Int)) (by kernel_rfl) (fun w h => E.run_as (a := .int .i64 (IntKind.wrap .i64 (((k : Nat) : Int) + 1))) (by kernel_rfl) (congrArg (Value.int .i64) (M.inc64 (by have := ha.at_.lt; (first | assumption | ((try simp only [Bool.or_eq_false_iff, Bool.or_eq_true, Bool.and_eq_true, Bool.and_eq_false_iff, decide_eq_true_eq, decide_eq_false_iff_not, ge_iff_le, gt_iff_lt] at *); omega)))))) ?_
        refine E.G.op (.int .i64 ((k + 1 : Nat) : Int)) (fun w => by kernel_rfl) (by kernel_rfl) ?_
        exact E.To.round (k + 1) (by show a.sl.length - (k + 1) < a.sl.length - k; (first | assumption | ((try simp only [Bool.or_eq_false_iff, Bool.or_eq_true, Bool.and_eq_true, Bool.and_eq_false_iff, decide_eq_true_eq, decide_eq_false_iff_not, ge_iff_le, gt_iff_lt] at *); omega))) (⟨by show k + 1 ≤ a.sl.length; (first | assumption | ((try simp only [Bool.or_eq_false_iff, Bool.or_eq_true, Bool.and_eq_true, Bool.and_eq_false_iff, decide_eq_true_eq, decide_eq_false_iff_not, ge_iff_le, gt_iff_lt] at *); omega)), by show (M.eqs a b k && !(M.nep a b k)) = true; rw [hk1.2, show M.nep a b k = false from hc7]; rfl⟩) ⟨by kernel_rfl, by kernel_rfl⟩ (List.Sublist.refl _) (fun _ h => h)
    · skip
      refine E.C.exit (E.P.et (E.P.et (E.P.eh (E.To.code ?_))))
      refine E.C.seq ?_
      refine E.C.region ?_
      refine E.G.op (.bool true) (fun w => by kernel_rfl) (by kernel_rfl) ?_
      refine E.To.code ?_
      refine E.C.ret (E.To.body (fn := Try.f30) [.bool true] ?_ ?_)
      · exact ⟨⟨by kernel_rfl, by kernel_rfl⟩, trivial⟩
      · intro w h
        have e : k = a.sl.length := by (first | assumption | ((try simp only [Bool.or_eq_false_iff, Bool.or_eq_true, Bool.and_eq_true, Bool.and_eq_false_iff, decide_eq_true_eq, decide_eq_false_iff_not, ge_iff_le, gt_iff_lt] at *); omega))
        exact ⟨by unfold M.eql; rw [← M.eql_go hc1, beq_self_eq_true, ← e, hk1.2]; rfl, h.ch.bel (fun _ h => h.elim)⟩
end Go.Proofs.Ytdjjjikokfadiaa

/- Walks: bytes written into a page, printed by wip/eng. No condition but what is named. -/
namespace Go.Proofs.Ytdjjjikokfadiaa
set_option linter.unusedVariables false
set_option linter.unusedSimpArgs false
open Go.RowKit
/-- Bytes written into a page, one after another. -/
def M.byl (o : M.Obj) (p : Nat) : Nat → List Int → M.Obj
  | _, [] => o
  | i, v :: l => M.byl (M.byte o p i v) p (i + 1) l
theorem M.byl_same : ∀ (l : List Int) (o : M.Obj) (p i : Nat), (M.byl o p i l).m = o.m ∧ (M.byl o p i l).b = o.b ∧ (M.byl o p i l).sl = o.sl ∧ (M.byl o p i l).coh = o.coh
  | [], _, _, _ => ⟨rfl, rfl, rfl, rfl⟩
  | v :: l, o, p, i => M.byl_same l (M.byte o p i v) p (i + 1)
theorem M.byl_C : ∀ (l : List Int) (o : M.Obj) (p i q x : Nat), (M.byl o p i l).C q x = if q = p ∧ i ≤ x ∧ x < i + l.length then l.getD (x - i) 0 else o.C q x
  | [], o, p, i, q, x => by
    show o.C q x = _
    rw [if_neg (fun h => by have := h.2.2; simp at this; omega)]
  | v :: l, o, p, i, q, x => by
    show (M.byl (M.byte o p i v) p (i + 1) l).C q x = _
    rw [M.byl_C l]
    by_cases hq : q = p
    · subst hq
      by_cases h1 : i + 1 ≤ x ∧ x < i + 1 + l.length
      · rw [if_pos ⟨rfl, h1⟩, if_pos ⟨rfl, by omega, by rw [List.length_cons]; omega⟩, show x - i = (x - (i + 1)) + 1 by omega, List.getD_cons_succ]
      · rw [if_neg (fun h => h1 h.2)]
        show (if q = q ∧ x = i then v else o.C q x) = _
        by_cases h2 : x = i
        · subst h2; rw [if_pos ⟨rfl, rfl⟩, if_pos ⟨rfl, Nat.le_refl _, by rw [List.length_cons]; omega⟩, Nat.sub_self]; rfl
        · rw [if_neg (fun h => h2 h.2), if_neg (fun h => by have := h.2; rw [List.length_cons] at this; omega)]
    · rw [if_neg (fun h => hq h.1), if_neg (fun h => hq h.1)]
      show (if q = p ∧ x = i then v else o.C q x) = _
      rw [if_neg (fun h => hq h.1)]
theorem M.St.byl {p : Nat} : ∀ (l : List Int) {o : M.Obj} {w : World} (i : Nat), M.St o w → M.Pg o.sl p → i + l.length ≤ 256 → (∀ v ∈ l, 0 ≤ v ∧ v < 256) → M.St (M.byl o p i l) (w.setCells p i (l.map (Value.int .u8)))
  | [], _, _, _, h, _, _, _ => h
  | v :: l, o, w, i, h, hp, hl, hv => by
    rw [List.length_cons] at hl
    exact M.St.byl l (i + 1) (h.byte hp (by omega) (hv v (List.mem_cons_self ..)) i rfl) hp (by omega) (fun u hu => hv u (List.mem_cons_of_mem _ hu))
theorem M.ch_cells {S : Nat → Prop} {w0 : World} {b : Nat} (hS : b < w0.heap.size → S b) : ∀ (vs : List Value) (o : Nat) {w : World}, Ch S w0 w → Ch S w0 (w.setCells b o vs)
  | [], _, _, h => h
  | v :: vs, o, w, h => M.ch_cells hS vs (o + 1) (h.setCell (p := ⟨b, o, none⟩) hS v)
theorem M.Nxt.byl (w : World) (o : M.Obj) (p i : Nat) (l : List Int) : M.Nxt w o (M.byl o p i l) := by
  obtain ⟨h1, h2, h3, h4⟩ := M.byl_same l o p i
  refine ⟨h1, by rw [h3], h4, fun x _ h => ?_, fun x _ h => ?_⟩
  · unfold M.ow M.Obj.at at h ⊢; rw [h2, h3] at h; exact h
  · unfold M.all at h ⊢; rw [h1, h2, h3] at h; exact h
/-- The bytes of a string that go over. -/
def M.cpb (s : ByteArray) : List Int := (List.range (Nat.min s.size 256)).map fun i => W.byt s.data.toList i
theorem M.cpb_len (s : ByteArray) : (M.cpb s).length = Nat.min s.size 256 := by simp [M.cpb]
theorem M.run_cps {P : Program} (w : World) (s : ByteArray) (dT sT ty e : TypeId) (p c : Nat) (hu : P.underlying dT = some (.slice e)) (hz : (P.info? e).map (·.size) = some 1) (hc : ∀ j, j < 256 → (w.cell? ⟨p, j, none⟩).isSome = true) (hf : ∀ j, w.frozen? ⟨p, j, none⟩ = false) :
    (Builtin.copy_ #[dT, sT] ty #[.slice (some ⟨p, 0, none⟩) 256 c, .string s]).run P w = .ok (goInt (Nat.min s.size 256)) (w.setCells p 0 ((M.cpb s).map (Value.int .u8))) := by
  have hcs : (s.data.toList.map (fun x => Value.int .u8 (x.toNat : Int))).take (Nat.min s.size 256) = (M.cpb s).map (Value.int .u8) := by
    refine List.ext_getElem? fun i => ?_
    by_cases hi : i < Nat.min s.size 256
    · have h1 : i < s.size := Nat.lt_of_lt_of_le hi (Nat.min_le_left _ _)
      have h2 : (M.cpb s)[i]? = some (W.byt s.data.toList i) := by simp [M.cpb, hi]
      rw [List.getElem?_take, if_pos hi, List.getElem?_map, List.getElem?_map, h2, List.getElem?_eq_getElem (show i < s.data.toList.length from h1)]
      exact congrArg (fun v => some (Value.int .u8 v)) (W.byt_at s i h1)
    · rw [List.getElem?_take, if_neg hi, List.getElem?_eq_none (by rw [List.length_map, M.cpb_len]; omega)]
  have hl : ((M.cpb s).map (Value.int .u8)).length ≤ 256 := by rw [List.length_map, M.cpb_len]; exact Nat.min_le_right _ _
  have hst := run_storeCells_cells (P := P) p 0 ((M.cpb s).map (Value.int .u8)) 0 w (fun j hj => by rw [Nat.zero_add]; simpa using hc j (by omega)) (fun j hj => hf _) (by
    intro v hv
    obtain ⟨x, _, rfl⟩ := List.mem_map.1 hv
    rfl)
  cases hie : P.info? e with
  | none => rw [hie] at hz; cases hz
  | some ie =>
    have hsz : (Go.sizeOf e).run P w = .ok 1 w := by rw [hie] at hz; simp [sizeOf, typeInfo, hie]; simpa using hz
    simp [Builtin.copy_, run_underlying hu, Builtin.lenOf, Builtin.firstCells, hsz]
    rw [hcs, hst]; rfl
end Go.Proofs.Ytdjjjikokfadiaa

/- Walks: SetCode of mem, printed by wip/eng. No condition but what is named. -/
namespace Go.Proofs.Ytdjjjikokfadiaa
set_option linter.unusedVariables false
set_option linter.unusedSimpArgs false
open Go.RowKit
def M.V.setc (V : M.V) (n : Int) (s : ByteArray) : M.V := if 0 ≤ n ∧ n < ((V.n : Nat) : Int) ∧ V.coh = false then { V with i := fun j x => if j = n.toNat ∧ x < Nat.min s.size 256 then W.byt s.data.toList x else V.i j x } else V
theorem M.Sh.setc_no {o : M.Obj} {V : M.V} {n : Int} {s : ByteArray} (h : M.Sh o V) (hn : ¬ (0 ≤ n ∧ n < ((o.sl.length : Nat) : Int) ∧ o.coh = false)) : M.Sh o (V.setc n s) := by
  unfold M.V.setc
  rw [if_neg (by rw [← h.n, ← h.coh]; exact hn)]; exact h
theorem M.Sh.setc {o : M.Obj} {V : M.V} {n : Int} {s : ByteArray} {p : Nat} (h : M.Sh o V) (hi : M.Inv o) (h0 : 0 ≤ n) (hk : n.toNat < o.sl.length) (hcoh : o.coh = false) (hoc : (o.at n.toNat).oc = true) (hp : (o.at n.toNat).c = some p) : M.Sh (M.byl o p 0 (M.cpb s)) (V.setc n s) := by
  obtain ⟨e1, e2, e3, e4⟩ := M.byl_same (M.cpb s) o p 0
  have hat : ∀ j, (M.byl o p 0 (M.cpb s)).at j = o.at j := fun j => by unfold M.Obj.at; rw [e3]
  have hn : ∀ j, j < V.n → j < o.sl.length := fun j hj => h.n ▸ hj
  have hC : ∀ q, q ≠ p → ∀ x, (M.byl o p 0 (M.cpb s)).C q x = o.C q x := fun q hq x => by rw [M.byl_C, if_neg (fun k => hq k.1)]
  have hu := fun j (hj : j < V.n) => hi.oc n.toNat j p hk (hn j hj) hoc hp
  have hne : ∀ j, j < V.n → (o.at j).cc.getD (o.at j).cd ≠ p := fun j hj => by
    have := hu j hj
    cases hq : (o.at j).cc with
    | none => exact this.2.2.1
    | some q => exact fun e => this.2.2.2 (by rw [hq]; exact congrArg some e)
  unfold M.V.setc
  rw [if_pos ⟨h0, by rw [← h.n]; omega, by rw [← h.coh]; exact hcoh⟩]
  refine ⟨by rw [e3]; exact h.n, e4.trans h.coh, fun j hj x hx => ?_, fun j hj x hx => ?_, fun j hj x hx => ?_, fun j hj x hx => ?_, fun j hj => ?_⟩
  · rw [hat, hC _ (hu j hj).2.1]; exact h.d j hj x hx
  · rw [hat]
    show _ = (if j = n.toNat ∧ x < Nat.min s.size 256 then W.byt s.data.toList x else V.i j x)
    have hii := h.i j hj x hx
    unfold M.img at hii ⊢
    by_cases e : j = n.toNat
    · subst e
      rw [hp] at hii ⊢
      show (M.byl o p 0 (M.cpb s)).C p x = _
      rw [M.byl_C, M.cpb_len]
      by_cases hx2 : x < Nat.min s.size 256
      · rw [if_pos ⟨rfl, Nat.zero_le _, by omega⟩, if_pos ⟨rfl, hx2⟩]; simp [M.cpb, hx2]
      · rw [if_neg (fun k => hx2 (by have := k.2.2; omega)), if_neg (fun k => hx2 k.2)]; exact hii
    · rw [if_neg (fun k => e k.1)]
      have hco := (hi.co j (hn j hj)).1.trans hcoh
      cases hq : (o.at j).c with
      | none => rw [hq] at hco; cases hco
      | some q =>
        rw [hq] at hii
        show (M.byl o p 0 (M.cpb s)).C q x = V.i j x
        rw [hC q (fun e2 => e ((hu j hj).1 (by rw [hq, e2])))]; exact hii
  · rw [hat, hC _ (hu j hj).2.2.1]; exact h.cd j hj x hx
  · rw [hat, hC _ (hne j hj)]; exact h.ci j hj x hx
  · rw [hat]; exact h.r j hj
theorem M.Sh.code_own {o : M.Obj} {V : M.V} {k g p : Nat} (h : M.Sh o V) (hk : k < o.sl.length) (hp : (o.at k).c = some p) (hpg : ∀ p, M.Pg o.sl p → p ≠ g) : M.Sh (M.code2 o k g p) V := by
  have hC : ∀ q, M.Pg o.sl q → (M.code2 o k g p).C q = o.C q := fun q hq => if_neg (hpg q hq)
  have hg : (M.code2 o k g p).C g = o.C p := if_pos rfl
  have hn : ∀ j, j < V.n → j < o.sl.length := fun j hj => h.n ▸ hj
  have hc := M.code2_cod (g := g) (src := p) hk
  refine ⟨hc.n.trans h.n, h.coh, fun j hj x hx => ?_, fun j hj x hx => ?_, fun j hj x hx => ?_, fun j hj x hx => ?_, fun j hj => ?_⟩
  · rw [hc.d, hC _ (M.pg_d (hn j hj))]; exact h.d j hj x hx
  · have hi := h.i j hj x hx
    unfold M.img at hi ⊢
    by_cases e : j = k
    · subst e
      rw [hc.ck]; rw [hp] at hi
      show (M.code2 o j g p).C g x = _
      rw [hg]; exact hi
    · rw [(hc.c j e).1, hc.d]
      cases hq : (o.at j).c with
      | none => rw [hq] at hi; show (M.code2 o k g p).C (o.at j).d x = _; rw [hC _ (M.pg_d (hn j hj))]; exact hi
      | some q => rw [hq] at hi; show (M.code2 o k g p).C q x = _; rw [hC _ (M.pg_c (hn j hj) hq)]; exact hi
  · rw [hc.cd, hC _ (M.pg_cd (hn j hj))]; exact h.cd j hj x hx
  · rw [hc.cc, hc.cd, hC _ (M.pg_ci (hn j hj))]; exact h.ci j hj x hx
  · rw [hc.r]; exact h.r j hj
theorem M.cps_run {o : M.Obj} {w : World} {fr : E.Fr} {d : Option Nat} {T : TypeId} {pos : String} {af : Array Edge} {gd : Option (Nat × Bool)} {x y : Operand} {p : Nat} {s : ByteArray} (h : M.St o w) (hp : M.Pg o.sl p) (hx : E.ev fr x = .slice (some ⟨p, 0, none⟩) 256 256) (hy : E.ev fr y = .string s) :
    (execOp (E.ev fr) ⟨d, .call { callee := .builtin .copy, args := #[x, y], argTypes := #[47, 9] }, T, pos, af, gd⟩).run Try.prog w = .ok (.value (goInt (Nat.min s.size 256))) (w.setCells p 0 ((M.cpb s).map (Value.int .u8))) := by
  have hop : (execOp (E.ev fr) ⟨d, .call { callee := .builtin .copy, args := #[x, y], argTypes := #[47, 9] }, T, pos, af, gd⟩).run Try.prog w = ((Builtin.copy_ #[47, 9] T #[E.ev fr x, E.ev fr y]).run Try.prog w).andThen fun v w' => .ok (.value v) w' := by
    simp [execOp, resolve, invoke, builtin]
  rw [hop, hx, hy, M.run_cps w s _ _ T 5 p 256 Try.underlying47 (by kernel_rfl) (fun j hj => by rw [h.at_.pg p hp j hj]; rfl) (fun j => h.fz p (.inr (.inr hp)) j)]
  rfl
theorem M.cpb_bd (s : ByteArray) : ∀ v ∈ M.cpb s, 0 ≤ v ∧ v < 256 := fun v hv => by
  obtain ⟨i, _, rfl⟩ := List.mem_map.1 hv
  exact W.byt_bd _ _
theorem M.sc_go {o : M.Obj} {n : Int} (h : (((decide (n < 0)) || (decide (n ≥ ((o.sl.length : Nat) : Int)))) || o.coh) = false) : 0 ≤ n ∧ n < ((o.sl.length : Nat) : Int) ∧ o.coh = false := by
  simp only [Bool.or_eq_false_iff, decide_eq_false_iff_not] at h
  exact ⟨by omega, by omega, h.2⟩
theorem M.sc_no {o : M.Obj} {n : Int} (h : (((decide (n < 0)) || (decide (n ≥ ((o.sl.length : Nat) : Int)))) || o.coh) = true) : ¬ (0 ≤ n ∧ n < ((o.sl.length : Nat) : Int) ∧ o.coh = false) := by
  rintro ⟨h1, h2, h3⟩
  rw [h3] at h
  simp only [Bool.or_eq_true, decide_eq_true_eq, Bool.false_eq_true, or_false] at h
  omega
theorem M.isn {p : Option Nat} (h : p.isNone = false) : ∃ b, p = some b := by
  cases p with
  | none => cases h
  | some b => exact ⟨b, rfl⟩
theorem SetCode_any (o : M.Obj) (n : Int) (s : ByteArray) (w : World) (hst : M.St o w) : Calls Try.prog 36 #[.pointer (some ⟨o.m, 0, none⟩), .int .i64 n, .string s] w fun e w' => e = .returned (.tuple #[]) ∧ ∃ o', M.St o' w' ∧ Ch (fun x => M.ow o x) w w' ∧ M.Nxt w o o' ∧ ∀ V, M.Sh o V → M.Sh o' (V.setc n s) := by
  refine E.enter (n := 58) (S := fun x => M.ow o x) Try.func36 rfl rfl (by kernel_rfl) (hst.hp (Ch.refl _ _)) ?_
  refine E.C.seq ?_
  refine E.C.seq ?_
  refine E.C.region ?_
  refine E.G.op (.int .i64 n) (fun w => by kernel_rfl) (by kernel_rfl) ?_
  refine E.G.op (.bool (decide (n < 0))) (fun w => by kernel_rfl) (by kernel_rfl) ?_
  refine E.G.op (.bool (decide (n < 0))) (fun w => by kernel_rfl) (by kernel_rfl) ?_
  refine E.G.cut 5 [(0, .pointer (some ⟨o.m, 0, none⟩)), (1, .int .i64 n), (2, .string s), (15, .bool ((decide (n < 0)) || (decide (n ≥ ((o.sl.length : Nat) : Int)))))] (fun w => M.St o w) [] ?_ ?_
  · generalize hc1 : (decide (n < 0)) = b2
    cases b2
    · skip
      refine E.G.op (.int .i64 n) (fun w => by kernel_rfl) (by kernel_rfl) ?_
      refine E.G.op (.pointer (some ⟨o.m, 0, none⟩)) (fun w => by kernel_rfl) (by kernel_rfl) ?_
      refine E.G.call (.int .i64 ((o.sl.length : Nat) : Int)) (fun w h => Pages_any o w h.x.at_) (fun w _ => by kernel_rfl) (by kernel_rfl) ?_
      refine E.G.op (.bool (decide (n ≥ ((o.sl.length : Nat) : Int)))) (fun w => by kernel_rfl) (by kernel_rfl) ?_
      refine E.G.op (.bool (decide (n ≥ ((o.sl.length : Nat) : Int)))) (fun w => by kernel_rfl) (by kernel_rfl) ?_
      exact E.G.end_pst ⟨by kernel_rfl, by kernel_rfl⟩ (List.Sublist.refl _) (fun _ h => h)
    · skip
      refine E.G.skip (by kernel_rfl) (by kernel_rfl) ?_
      refine E.G.skip (by kernel_rfl) (by kernel_rfl) ?_
      refine E.G.skip (by kernel_rfl) (by kernel_rfl) ?_
      refine E.G.skip (by kernel_rfl) (by kernel_rfl) ?_
      refine E.G.op (.bool true) (fun w => by kernel_rfl) (by kernel_rfl) ?_
      exact E.G.end_pst ⟨by kernel_rfl, by kernel_rfl⟩ (List.Sublist.refl _) (fun _ h => h)
  refine E.G.op (.bool ((decide (n < 0)) || (decide (n ≥ ((o.sl.length : Nat) : Int))))) (fun w => by kernel_rfl) (by kernel_rfl) ?_
  refine E.G.cut 5 [(0, .pointer (some ⟨o.m, 0, none⟩)), (1, .int .i64 n), (2, .string s), (21, .bool (((decide (n < 0)) || (decide (n ≥ ((o.sl.length : Nat) : Int)))) || o.coh))] (fun w => M.St o w) [] ?_ ?_
  · generalize hc3 : ((decide (n < 0)) || (decide (n ≥ ((o.sl.length : Nat) : Int)))) = b4
    cases b4
    · skip
      refine E.G.op (.pointer (some ⟨o.m, 0, none⟩)) (fun w => by kernel_rfl) (by kernel_rfl) ?_
      refine E.G.op (.pointer (some ⟨o.m, 0, none⟩)) (fun w => by kernel_rfl) (by kernel_rfl) ?_
      refine E.G.op (.pointer (some ⟨o.m, 1, none⟩)) (fun w => by kernel_rfl) (by kernel_rfl) ?_
      refine E.G.val (.bool o.coh) (by kernel_rfl) (fun w h => M.load1 (by kernel_rfl) (M.one Try.underlying4 rfl) h.x.at_.c1) ?_
      refine E.G.op (.bool o.coh) (fun w => by kernel_rfl) (by kernel_rfl) ?_
      exact E.G.end_pst ⟨by kernel_rfl, by kernel_rfl⟩ (List.Sublist.refl _) (fun _ h => h)
    · skip
      refine E.G.skip (by kernel_rfl) (by kernel_rfl) ?_
      refine E.G.skip (by kernel_rfl) (by kernel_rfl) ?_
      refine E.G.skip (by kernel_rfl) (by kernel_rfl) ?_
      refine E.G.skip (by kernel_rfl) (by kernel_rfl) ?_
      refine E.G.op (.bool true) (fun w => by kernel_rfl) (by kernel_rfl) ?_
      exact E.G.end_pst ⟨by kernel_rfl, by kernel_rfl⟩ (List.Sublist.refl _) (fun _ h => h)
  refine E.To.code ?_
  refine E.C.cond (((decide (n < 0)) || (decide (n ≥ ((o.sl.length : Nat) : Int)))) || o.coh) (by kernel_rfl) (by kernel_rfl) (fun hc5 => ?_) (fun hc5 => ?_)
  · skip
    refine E.C.ret (E.P.rt (E.To.body (fn := Try.f36) [] ?_ ?_))
    · exact trivial
    · intro w h
      exact ⟨rfl, o, h.x, h.ch, M.Nxt.refl _ _, fun V hV => hV.setc_no (M.sc_no hc5)⟩
  · skip
    refine E.C.skip (E.To.code ?_)
    refine E.C.seq ?_
    obtain ⟨h0, h1, h2⟩ := M.sc_go hc5
    have hk : n.toNat < o.sl.length := by omega
    refine E.C.region ?_
    refine E.G.op (.pointer (some ⟨o.m, 0, none⟩)) (fun w => by kernel_rfl) (by kernel_rfl) ?_
    refine E.G.op (.pointer (some ⟨o.m, 0, none⟩)) (fun w => by kernel_rfl) (by kernel_rfl) ?_
    refine E.G.op (.pointer (some ⟨o.m, 0, none⟩)) (fun w => by kernel_rfl) (by kernel_rfl) ?_
    refine E.G.val (.slice o.ao o.sl.length o.cap) (by kernel_rfl) (fun w h => M.load1 (by kernel_rfl) (M.one Try.underlying64 rfl) h.x.at_.c0) ?_
    refine E.G.op (.int .i64 n) (fun w => by kernel_rfl) (by kernel_rfl) ?_
    refine E.G.val (.pointer (some ⟨o.b, n.toNat * 7, none⟩)) (by kernel_rfl) (fun w h => M.idxI (e := 74) (i := n) (k := .i64) (ao := o.ao) (b := o.b) (len := o.sl.length) (cap := o.cap) (esz := 7) (by kernel_rfl) (by kernel_rfl) (by kernel_rfl) (by kernel_rfl) (by (first | assumption | ((try simp only [Bool.or_eq_false_iff, Bool.or_eq_true, Bool.and_eq_true, Bool.and_eq_false_iff, decide_eq_true_eq, decide_eq_false_iff_not, ge_iff_le, gt_iff_lt] at *); omega))) (by (first | assumption | ((try simp only [Bool.or_eq_false_iff, Bool.or_eq_true, Bool.and_eq_true, Bool.and_eq_false_iff, decide_eq_true_eq, decide_eq_false_iff_not, ge_iff_le, gt_iff_lt] at *); omega))) h.x.at_.ha w) ?_
    refine E.G.op (.pointer (some ⟨o.b, n.toNat * 7, none⟩)) (fun w => by kernel_rfl) (by kernel_rfl) ?_
    refine E.To.code ?_
    refine E.C.weak [(2, .string s), (6, .pointer (some ⟨o.b, n.toNat * 7, none⟩))] [] ⟨by kernel_rfl, by kernel_rfl⟩ (List.Sublist.refl _) ?_
    refine E.C.seq ?_
    refine E.C.seq ?_
    refine E.C.region ?_
    refine E.G.op (.pointer (some ⟨o.b, n.toNat * 7, none⟩)) (fun w => by kernel_rfl) (by kernel_rfl) ?_
    refine E.G.op (.pointer (some ⟨o.b, n.toNat * 7, none⟩)) (fun w => by kernel_rfl) (by kernel_rfl) ?_
    refine E.G.op (.pointer (some ⟨o.b, (n.toNat * 7) + 1, none⟩)) (fun w => by kernel_rfl) (by kernel_rfl) ?_
    refine E.G.val (M.ptr (o.at n.toNat).c) (by kernel_rfl) (fun w h => M.load1 (by kernel_rfl) (M.one Try.underlying70 rfl) (h.x.at_.fld (i := n.toNat) (k := 1) (by (first | assumption | ((try simp only [Bool.or_eq_false_iff, Bool.or_eq_true, Bool.and_eq_true, Bool.and_eq_false_iff, decide_eq_true_eq, decide_eq_false_iff_not, ge_iff_le, gt_iff_lt] at *); omega))) rfl (by decide) _ rfl)) ?_
    refine E.G.val (.bool (((o.at n.toNat).c).isNone)) (by kernel_rfl) (fun w h => M.ptr_nil (by kernel_rfl) (by kernel_rfl)) ?_
    refine E.To.code ?_
    refine E.C.cond (((o.at n.toNat).c).isNone) (by kernel_rfl) (by kernel_rfl) (fun hc6 => ?_) (fun hc6 => ?_)
    · skip
      refine E.C.ret (E.P.rt (E.To.body (fn := Try.f36) [] ?_ ?_))
      · exact trivial
      · intro w h
        exact absurd ((h.x.inv.co _ hk).1.symm.trans hc6) (by rw [h2]; decide)
    · skip
      refine E.C.skip (E.To.code ?_)
      refine E.C.seq ?_
      refine E.C.seq ?_
      obtain ⟨p, hp⟩ := M.isn hc6
      refine E.C.region ?_
      refine E.G.op (.pointer (some ⟨o.b, n.toNat * 7, none⟩)) (fun w => by kernel_rfl) (by kernel_rfl) ?_
      refine E.G.op (.pointer (some ⟨o.b, n.toNat * 7, none⟩)) (fun w => by kernel_rfl) (by kernel_rfl) ?_
      refine E.G.op (.pointer (some ⟨o.b, (n.toNat * 7) + 3, none⟩)) (fun w => by kernel_rfl) (by kernel_rfl) ?_
      refine E.G.val (.bool ((o.at n.toNat).oc)) (by kernel_rfl) (fun w h => M.load1 (by kernel_rfl) (M.one Try.underlying4 rfl) (h.x.at_.fld (i := n.toNat) (k := 3) (by (first | assumption | ((try simp only [Bool.or_eq_false_iff, Bool.or_eq_true, Bool.and_eq_true, Bool.and_eq_false_iff, decide_eq_true_eq, decide_eq_false_iff_not, ge_iff_le, gt_iff_lt] at *); omega))) rfl (by decide) _ rfl)) ?_
      refine E.G.op (.bool (!((o.at n.toNat).oc))) (fun w => by kernel_rfl) (by kernel_rfl) ?_
      refine E.To.code ?_
      refine E.C.weak [(2, .string s), (6, .pointer (some ⟨o.b, n.toNat * 7, none⟩)), (37, .bool (!((o.at n.toNat).oc)))] [] ⟨by kernel_rfl, by kernel_rfl⟩ (List.Sublist.refl _) ?_
      refine E.C.cond (!((o.at n.toNat).oc)) (by kernel_rfl) (by kernel_rfl) (fun hc7 => ?_) (fun hc7 => ?_)
      · skip
        refine E.C.seq ?_
        refine E.C.region ?_
        refine E.G.op (.pointer (some ⟨o.b, n.toNat * 7, none⟩)) (fun w => by kernel_rfl) (by kernel_rfl) ?_
        refine E.G.op (.pointer (some ⟨o.b, n.toNat * 7, none⟩)) (fun w => by kernel_rfl) (by kernel_rfl) ?_
        refine E.G.op (.pointer (some ⟨o.b, (n.toNat * 7) + 1, none⟩)) (fun w => by kernel_rfl) (by kernel_rfl) ?_
        refine E.G.val (.pointer (some ⟨p, 0, none⟩)) (by kernel_rfl) (fun w h => E.run_as (a := M.ptr (o.at n.toNat).c) (M.load1 (by kernel_rfl) (M.one Try.underlying70 rfl) (h.x.at_.fld (i := n.toNat) (k := 1) (by (first | assumption | ((try simp only [Bool.or_eq_false_iff, Bool.or_eq_true, Bool.and_eq_true, Bool.and_eq_false_iff, decide_eq_true_eq, decide_eq_false_iff_not, ge_iff_le, gt_iff_lt] at *); omega))) rfl (by decide) _ rfl)) (by rw [hp]; rfl)) ?_
        refine E.G.op (.pointer (some ⟨p, 0, none⟩)) (fun w => by kernel_rfl) (by kernel_rfl) ?_
        refine E.G.val (.agg (M.pgv (o.C p)).toArray) (by kernel_rfl) (fun w h => M.loadPage h.x.at_ (M.pg_c hk hp) (by kernel_rfl)) ?_
        refine E.G.new (fun g => .pointer (some ⟨g, 0, none⟩)) (List.replicate 256 (.int .u8 0)) 72 (fun w => by kernel_rfl) (by kernel_rfl) (fun g8 => ?_)
        refine E.G.store 0 (M.pgv (o.C p)) rfl rfl (by kernel_rfl) (by kernel_rfl) ?_
        refine E.To.code ?_
        refine E.C.region ?_
        refine E.G.op (.pointer (some ⟨o.b, n.toNat * 7, none⟩)) (fun w => by kernel_rfl) (by kernel_rfl) ?_
        refine E.G.op (.pointer (some ⟨o.b, n.toNat * 7, none⟩)) (fun w => by kernel_rfl) (by kernel_rfl) ?_
        refine E.G.op (.pointer (some ⟨o.b, n.toNat * 7, none⟩)) (fun w => by kernel_rfl) (by kernel_rfl) ?_
        refine E.G.op (.pointer (some ⟨o.b, (n.toNat * 7) + 1, none⟩)) (fun w => by kernel_rfl) (by kernel_rfl) ?_
        refine M.G.sto (.pointer (some ⟨g8, 0, none⟩)) (fun u => M.St (M.code1 o n.toNat g8 p) u ∧ (M.Inv o ∧ (∀ p, M.Pg o.sl p → p ≠ g8) ∧ (g8 ≠ o.m ∧ g8 ≠ o.b) ∧ (g8 < w.heap.size → M.ow o g8) ∧ o.coh = false)) [] (by kernel_rfl) (by kernel_rfl) rfl rfl (by kernel_rfl) (fun u h => ⟨h.x.fz _ (M.all_b (by omega)) _, ⟨_, h.x.at_.fld (i := n.toNat) (k := 1) (by assumption) rfl (by decide) _ rfl⟩, (M.St.code1 h (fun _ h => h) (by assumption) h2 (M.pg_c hk hp) (i := 0) rfl _ rfl).hp2 ⟨h.x.inv, fun p hp => M.apart h (fun _ h => h) (k := 0) rfl (.inr (.inr hp)), ⟨Ne.symm (M.apart h (fun _ h => h) (k := 0) rfl (.inl rfl)), Ne.symm (M.apart h (fun _ h => h) (k := 0) rfl (M.all_b (by omega)))⟩, h.own _ (List.mem_cons_self ..), h2⟩ (h.ch.setCell (fun _ => M.ow_b (by omega)) _)⟩) (by kernel_rfl) ?_
        refine E.G.op (.pointer (some ⟨o.b, n.toNat * 7, none⟩)) (fun w => by kernel_rfl) (by kernel_rfl) ?_
        refine E.G.op (.pointer (some ⟨o.b, (n.toNat * 7) + 3, none⟩)) (fun w => by kernel_rfl) (by kernel_rfl) ?_
        refine M.G.sto (.bool true) (fun u => M.St (M.code2 o n.toNat g8 p) u ∧ (M.Inv o ∧ (∀ p, M.Pg o.sl p → p ≠ g8) ∧ (g8 ≠ o.m ∧ g8 ≠ o.b) ∧ (g8 < w.heap.size → M.ow o g8) ∧ o.coh = false)) [] (by kernel_rfl) (by kernel_rfl) rfl rfl (by kernel_rfl) (fun u h => ⟨h.x.1.fz _ (M.all_b (by rw [M.code1_len]; omega)) _, ⟨_, h.x.1.at_.fld (i := n.toNat) (k := 3) (by rw [M.code1_len]; assumption) rfl (by decide) _ rfl⟩, (M.St.code2 h.x.1 h.x.2.1 h.x.2.2.1 h.x.2.2.2.1 (by assumption) h.x.2.2.2.2.2 _ rfl).hp2 h.x.2 (h.ch.setCell (fun _ => M.ow_b (by omega)) _)⟩) (by kernel_rfl) ?_
        refine E.To.code ?_
        refine E.C.weak [(2, .string s), (6, .pointer (some ⟨o.b, n.toNat * 7, none⟩))] [] ⟨by kernel_rfl, by kernel_rfl⟩ (List.Sublist.refl _) ?_
        refine E.C.region ?_
        refine E.G.op (.pointer (some ⟨o.b, n.toNat * 7, none⟩)) (fun w => by kernel_rfl) (by kernel_rfl) ?_
        refine E.G.op (.pointer (some ⟨o.b, n.toNat * 7, none⟩)) (fun w => by kernel_rfl) (by kernel_rfl) ?_
        refine E.G.op (.pointer (some ⟨o.b, (n.toNat * 7) + 1, none⟩)) (fun w => by kernel_rfl) (by kernel_rfl) ?_
        refine E.G.val (.pointer (some ⟨g8, 0, none⟩)) (by kernel_rfl) (fun u h => M.load1 (by kernel_rfl) (M.one Try.underlying70 rfl) (h.x.1.at_.fld (i := n.toNat) (k := 1) (by rw [M.code2_len]; exact hk) (by rw [M.code2_at hk, if_pos rfl]; rfl) (by decide) _ rfl)) ?_
        refine E.G.op (.pointer (some ⟨g8, 0, none⟩)) (fun w => by kernel_rfl) (by kernel_rfl) ?_
        refine E.G.op (.slice (some ⟨g8, 0, none⟩) 256 256) (fun w => by kernel_rfl) (by kernel_rfl) ?_
        refine E.G.op (.string s) (fun w => by kernel_rfl) (by kernel_rfl) ?_
        refine E.G.any (I := Unit) (fun _ => True) (fun _ => goInt (Nat.min s.size 256)) (fun _ => fun u => M.St (M.byl (M.code2 o n.toNat g8 p) g8 0 (M.cpb s)) u ∧ M.Inv (M.code2 o n.toNat g8 p) ∧ (M.Inv o ∧ (∀ p, M.Pg o.sl p → p ≠ g8) ∧ (g8 ≠ o.m ∧ g8 ≠ o.b) ∧ (g8 < w.heap.size → M.ow o g8) ∧ o.coh = false)) (fun _ => []) (fun u h => ⟨(), _, trivial, M.cps_run h.x.1 (M.pg_c (o := M.code2 o n.toNat g8 p) (i := n.toNat) (p := g8) (by rw [M.code2_len]; exact hk) (by rw [M.code2_at hk, if_pos rfl])) (by kernel_rfl) (by kernel_rfl), (M.St.byl (M.cpb s) 0 h.x.1 (M.pg_c (o := M.code2 o n.toNat g8 p) (i := n.toNat) (p := g8) (by rw [M.code2_len]; exact hk) (by rw [M.code2_at hk, if_pos rfl])) (by rw [M.cpb_len, Nat.zero_add]; exact Nat.min_le_right _ _) (M.cpb_bd s)).hp2 ⟨h.x.1.inv, h.x.2⟩ (M.ch_cells h.x.2.2.2.2.1 _ _ h.ch)⟩) (by kernel_rfl) (fun _ _ => ?_)
        refine E.To.bodyN (fn := Try.f36) [] ?_ ?_
        · exact trivial
        · intro w h
          exact ⟨rfl, _, h.x.1, h.ch, (M.Nxt.code2 hk h.x.2.2.2.2.2.1).trans (M.Nxt.byl _ _ _ _ _) (Nat.le_refl _), fun V hV => (hV.code_own hk hp h.x.2.2.2.1).setc h.x.2.1 h0 (by rw [M.code2_len]; exact hk) h2 (by rw [M.code2_at hk, if_pos rfl]) (by rw [M.code2_at hk, if_pos rfl])⟩
      · skip
        refine E.C.skip (E.To.code ?_)
        refine E.C.region ?_
        refine E.G.op (.pointer (some ⟨o.b, n.toNat * 7, none⟩)) (fun w => by kernel_rfl) (by kernel_rfl) ?_
        refine E.G.op (.pointer (some ⟨o.b, n.toNat * 7, none⟩)) (fun w => by kernel_rfl) (by kernel_rfl) ?_
        refine E.G.op (.pointer (some ⟨o.b, (n.toNat * 7) + 1, none⟩)) (fun w => by kernel_rfl) (by kernel_rfl) ?_
        refine E.G.val (.pointer (some ⟨p, 0, none⟩)) (by kernel_rfl) (fun w h => E.run_as (a := M.ptr (o.at n.toNat).c) (M.load1 (by kernel_rfl) (M.one Try.underlying70 rfl) (h.x.at_.fld (i := n.toNat) (k := 1) (by (first | assumption | ((try simp only [Bool.or_eq_false_iff, Bool.or_eq_true, Bool.and_eq_true, Bool.and_eq_false_iff, decide_eq_true_eq, decide_eq_false_iff_not, ge_iff_le, gt_iff_lt] at *); omega))) rfl (by decide) _ rfl)) (by rw [hp]; rfl)) ?_
        refine E.G.op (.pointer (some ⟨p, 0, none⟩)) (fun w => by kernel_rfl) (by kernel_rfl) ?_
        refine E.G.op (.slice (some ⟨p, 0, none⟩) 256 256) (fun w => by kernel_rfl) (by kernel_rfl) ?_
        refine E.G.op (.string s) (fun w => by kernel_rfl) (by kernel_rfl) ?_
        refine E.G.any (I := Unit) (fun _ => True) (fun _ => goInt (Nat.min s.size 256)) (fun _ => fun u => M.St (M.byl o p 0 (M.cpb s)) u ∧ M.Inv o) (fun _ => []) (fun u h => ⟨(), _, trivial, M.cps_run h.x (M.pg_c hk hp) (by kernel_rfl) (by kernel_rfl), (M.St.byl (M.cpb s) 0 h.x (M.pg_c hk hp) (by rw [M.cpb_len, Nat.zero_add]; exact Nat.min_le_right _ _) (M.cpb_bd s)).hp2 h.x.inv (M.ch_cells (fun _ => .inr (.inr ⟨_, hk, M.b1 hc7, hp⟩)) _ _ h.ch)⟩) (by kernel_rfl) (fun _ _ => ?_)
        refine E.To.bodyN (fn := Try.f36) [] ?_ ?_
        · exact trivial
        · intro w h
          exact ⟨rfl, _, h.x.1, h.ch, M.Nxt.byl _ _ _ _ _, fun V hV => hV.setc h.x.2 h0 hk h2 (M.b1 hc7) hp⟩
end Go.Proofs.Ytdjjjikokfadiaa

/- Walks: sizes that are none, printed by wip/eng. No condition but what is named. -/
namespace Go.Proofs.Ytdjjjikokfadiaa
set_option linter.unusedVariables false
set_option linter.unusedSimpArgs false
open Go.RowKit
theorem check_bad (o : M.Obj) (a : Nat) (n : Int) (r : Int) (hb : n < 1 ∨ 4 < n) (w : World) (hat : M.At o w) : Calls Try.prog 38 #[.pointer (some ⟨o.m, 0, none⟩), .int .u32 ((a : Nat) : Int), .int .i64 n, .int .i64 r] w fun e w' => e = .returned (.tuple #[.int .u32 ((a : Nat) : Int), .bool false]) ∧ Bel w w' := by
  refine E.enter (n := 44) (S := fun _ => False) Try.func38 rfl rfl (by kernel_rfl) (hat.hp) ?_
  refine E.C.seq ?_
  refine E.C.region ?_
  refine E.G.op (.int .u32 0) (fun w => by kernel_rfl) (by kernel_rfl) ?_
  refine E.G.op (.bool false) (fun w => by kernel_rfl) (by kernel_rfl) ?_
  refine E.To.code ?_
  refine E.C.seq ?_
  refine E.C.seq ?_
  refine E.C.region ?_
  refine E.G.op (.int .i64 n) (fun w => by kernel_rfl) (by kernel_rfl) ?_
  refine E.G.op (.bool (decide (n < 1))) (fun w => by kernel_rfl) (by kernel_rfl) ?_
  refine E.G.op (.bool (decide (n < 1))) (fun w => by kernel_rfl) (by kernel_rfl) ?_
  refine E.G.cut 3 [(0, .pointer (some ⟨o.m, 0, none⟩)), (1, .int .u32 ((a : Nat) : Int)), (2, .int .i64 n), (3, .int .i64 r), (8, .int .u32 0), (9, .bool false), (17, .bool ((decide (n < 1)) || (decide (n > 4))))] (fun w => M.At o w) [] ?_ ?_
  · generalize hc1 : (decide (n < 1)) = b2
    cases b2
    · skip
      refine E.G.op (.int .i64 n) (fun w => by kernel_rfl) (by kernel_rfl) ?_
      refine E.G.op (.bool (decide (n > 4))) (fun w => by kernel_rfl) (by kernel_rfl) ?_
      refine E.G.op (.bool (decide (n > 4))) (fun w => by kernel_rfl) (by kernel_rfl) ?_
      exact E.G.end_pst ⟨by kernel_rfl, by kernel_rfl⟩ (List.Sublist.refl _) (fun _ h => h)
    · skip
      refine E.G.skip (by kernel_rfl) (by kernel_rfl) ?_
      refine E.G.skip (by kernel_rfl) (by kernel_rfl) ?_
      refine E.G.op (.bool true) (fun w => by kernel_rfl) (by kernel_rfl) ?_
      exact E.G.end_pst ⟨by kernel_rfl, by kernel_rfl⟩ (List.Sublist.refl _) (fun _ h => h)
  refine E.To.code ?_
  refine E.C.cond ((decide (n < 1)) || (decide (n > 4))) (by kernel_rfl) (by kernel_rfl) (fun hc3 => ?_) (fun hc3 => ?_)
  · skip
    refine E.C.seq ?_
    refine E.C.region ?_
    refine E.G.op (.int .u32 ((a : Nat) : Int)) (fun w => by kernel_rfl) (by kernel_rfl) ?_
    refine E.G.op (.int .u32 ((a : Nat) : Int)) (fun w => by kernel_rfl) (by kernel_rfl) ?_
    refine E.G.op (.bool false) (fun w => by kernel_rfl) (by kernel_rfl) ?_
    refine E.To.code ?_
    refine E.C.ret (E.P.rt (E.To.body (fn := Try.f38) [.int .u32 ((a : Nat) : Int), .bool false] ?_ ?_))
    · exact ⟨⟨by kernel_rfl, by kernel_rfl⟩, ⟨by kernel_rfl, by kernel_rfl⟩, trivial⟩
    · intro w h
      exact ⟨rfl, h.ch.bel (fun _ h => h.elim)⟩
  · skip
    exfalso
    (first | assumption | ((try simp only [Bool.or_eq_false_iff, Bool.or_eq_true, Bool.and_eq_true, Bool.and_eq_false_iff, decide_eq_true_eq, decide_eq_false_iff_not, ge_iff_le, gt_iff_lt] at *); omega))
theorem Load_bad (o : M.Obj) (a : Nat) (n : Int) (hb : n < 1 ∨ 4 < n) (w : World) (hat : M.At o w) : Calls Try.prog 17 #[.pointer (some ⟨o.m, 0, none⟩), .int .u32 ((a : Nat) : Int), .int .i64 n] w fun e w' => e = .returned (.tuple #[.int .u32 0, .int .u32 ((a : Nat) : Int), .bool false]) ∧ Bel w w' := by
  refine E.enter (n := 37) (S := fun _ => False) Try.func17 rfl rfl (by kernel_rfl) (hat.hp) ?_
  refine E.C.seq ?_
  refine E.C.region ?_
  refine E.G.op (.int .u32 0) (fun w => by kernel_rfl) (by kernel_rfl) ?_
  refine E.G.op (.int .u32 0) (fun w => by kernel_rfl) (by kernel_rfl) ?_
  refine E.G.op (.bool false) (fun w => by kernel_rfl) (by kernel_rfl) ?_
  refine E.To.code ?_
  refine E.C.seq ?_
  refine E.C.seq ?_
  refine E.C.region ?_
  refine E.G.op (.pointer (some ⟨o.m, 0, none⟩)) (fun w => by kernel_rfl) (by kernel_rfl) ?_
  refine E.G.op (.int .u32 ((a : Nat) : Int)) (fun w => by kernel_rfl) (by kernel_rfl) ?_
  refine E.G.op (.int .i64 n) (fun w => by kernel_rfl) (by kernel_rfl) ?_
  refine E.G.call (.tuple #[.int .u32 ((a : Nat) : Int), .bool false]) (fun w h => check_bad o a n 1 hb w h.x) (fun w _ => by kernel_rfl) (by kernel_rfl) ?_
  refine E.G.op (.tuple #[.int .u32 ((a : Nat) : Int), .bool false]) (fun w => by kernel_rfl) (by kernel_rfl) ?_
  refine E.G.op (.int .u32 ((a : Nat) : Int)) (fun w => by kernel_rfl) (by kernel_rfl) ?_
  refine E.G.op (.bool false) (fun w => by kernel_rfl) (by kernel_rfl) ?_
  refine E.G.op (.int .u32 ((a : Nat) : Int)) (fun w => by kernel_rfl) (by kernel_rfl) ?_
  refine E.G.op (.bool false) (fun w => by kernel_rfl) (by kernel_rfl) ?_
  refine E.To.code ?_
  refine E.C.seq ?_
  refine E.C.region ?_
  refine E.G.op (.bool false) (fun w => by kernel_rfl) (by kernel_rfl) ?_
  refine E.G.op (.bool true) (fun w => by kernel_rfl) (by kernel_rfl) ?_
  refine E.To.code ?_
  refine E.C.weak [(0, .pointer (some ⟨o.m, 0, none⟩)), (1, .int .u32 ((a : Nat) : Int)), (2, .int .i64 n), (6, .int .u32 0), (7, .int .u32 ((a : Nat) : Int)), (8, .bool false), (18, .bool true)] [] ⟨by kernel_rfl, by kernel_rfl⟩ (List.Sublist.refl _) ?_
  refine E.C.condT (by kernel_rfl) (by kernel_rfl) ?_
  refine E.C.seq ?_
  refine E.C.region ?_
  refine E.G.op (.int .u32 ((a : Nat) : Int)) (fun w => by kernel_rfl) (by kernel_rfl) ?_
  refine E.G.op (.int .u32 0) (fun w => by kernel_rfl) (by kernel_rfl) ?_
  refine E.G.op (.int .u32 ((a : Nat) : Int)) (fun w => by kernel_rfl) (by kernel_rfl) ?_
  refine E.G.op (.bool false) (fun w => by kernel_rfl) (by kernel_rfl) ?_
  refine E.To.code ?_
  refine E.C.ret (E.P.rt (E.To.body (fn := Try.f17) [.int .u32 0, .int .u32 ((a : Nat) : Int), .bool false] ?_ ?_))
  · exact ⟨⟨by kernel_rfl, by kernel_rfl⟩, ⟨by kernel_rfl, by kernel_rfl⟩, ⟨by kernel_rfl, by kernel_rfl⟩, trivial⟩
  · intro w h
    exact ⟨rfl, h.ch.bel (fun _ h => h.elim)⟩
theorem Store_bad (o : M.Obj) (a : Nat) (n : Int) (v : Int) (hb : n < 1 ∨ 4 < n) (w : World) (hat : M.At o w) : Calls Try.prog 18 #[.pointer (some ⟨o.m, 0, none⟩), .int .u32 ((a : Nat) : Int), .int .i64 n, .int .u32 v] w fun e w' => e = .returned (.tuple #[.int .u32 ((a : Nat) : Int), .bool false]) ∧ Bel w w' := by
  refine E.enter (n := 37) (S := fun _ => False) Try.func18 rfl rfl (by kernel_rfl) (hat.hp) ?_
  refine E.C.seq ?_
  refine E.C.region ?_
  refine E.G.op (.int .u32 0) (fun w => by kernel_rfl) (by kernel_rfl) ?_
  refine E.G.op (.bool false) (fun w => by kernel_rfl) (by kernel_rfl) ?_
  refine E.To.code ?_
  refine E.C.seq ?_
  refine E.C.seq ?_
  refine E.C.region ?_
  refine E.G.op (.pointer (some ⟨o.m, 0, none⟩)) (fun w => by kernel_rfl) (by kernel_rfl) ?_
  refine E.G.op (.int .u32 ((a : Nat) : Int)) (fun w => by kernel_rfl) (by kernel_rfl) ?_
  refine E.G.op (.int .i64 n) (fun w => by kernel_rfl) (by kernel_rfl) ?_
  refine E.G.call (.tuple #[.int .u32 ((a : Nat) : Int), .bool false]) (fun w h => check_bad o a n 2 hb w h.x) (fun w _ => by kernel_rfl) (by kernel_rfl) ?_
  refine E.G.op (.tuple #[.int .u32 ((a : Nat) : Int), .bool false]) (fun w => by kernel_rfl) (by kernel_rfl) ?_
  refine E.G.op (.int .u32 ((a : Nat) : Int)) (fun w => by kernel_rfl) (by kernel_rfl) ?_
  refine E.G.op (.bool false) (fun w => by kernel_rfl) (by kernel_rfl) ?_
  refine E.G.op (.int .u32 ((a : Nat) : Int)) (fun w => by kernel_rfl) (by kernel_rfl) ?_
  refine E.G.op (.bool false) (fun w => by kernel_rfl) (by kernel_rfl) ?_
  refine E.To.code ?_
  refine E.C.seq ?_
  refine E.C.region ?_
  refine E.G.op (.bool false) (fun w => by kernel_rfl) (by kernel_rfl) ?_
  refine E.G.op (.bool true) (fun w => by kernel_rfl) (by kernel_rfl) ?_
  refine E.To.code ?_
  refine E.C.weak [(0, .pointer (some ⟨o.m, 0, none⟩)), (1, .int .u32 ((a : Nat) : Int)), (2, .int .i64 n), (3, .int .u32 v), (8, .int .u32 ((a : Nat) : Int)), (9, .bool false), (19, .bool true)] [] ⟨by kernel_rfl, by kernel_rfl⟩ (List.Sublist.refl _) ?_
  refine E.C.condT (by kernel_rfl) (by kernel_rfl) ?_
  refine E.C.seq ?_
  refine E.C.region ?_
  refine E.G.op (.int .u32 ((a : Nat) : Int)) (fun w => by kernel_rfl) (by kernel_rfl) ?_
  refine E.G.op (.int .u32 ((a : Nat) : Int)) (fun w => by kernel_rfl) (by kernel_rfl) ?_
  refine E.G.op (.bool false) (fun w => by kernel_rfl) (by kernel_rfl) ?_
  refine E.To.code ?_
  refine E.C.ret (E.P.rt (E.To.body (fn := Try.f18) [.int .u32 ((a : Nat) : Int), .bool false] ?_ ?_))
  · exact ⟨⟨by kernel_rfl, by kernel_rfl⟩, ⟨by kernel_rfl, by kernel_rfl⟩, trivial⟩
  · intro w h
    exact ⟨rfl, h.ch.bel (fun _ h => h.elim)⟩
end Go.Proofs.Ytdjjjikokfadiaa

/- mem: what each operation answers and does, told by what the memory shows. No condition. -/
namespace Go.Proofs.Ytdjjjikokfadiaa
set_option linter.unusedVariables false
set_option linter.unusedSimpArgs false
open Go.RowKit
/-! What is answered. -/
def M.V.peek (V : M.V) (a : Nat) : Int := if a / 256 < V.n then V.d (a / 256) (a % 256) else 0
def M.V.code (V : M.V) (a : Nat) : Int := if a / 256 < V.n then V.i (a / 256) (a % 256) else 0
def M.V.rt (V : M.V) (n : Int) : Int := if 0 ≤ n ∧ n < ((V.n : Nat) : Int) then V.r n.toNat else 0
def M.V.ok (V : M.V) (a : Nat) (r : Int) : Bool := decide (a / 256 < V.n) && !(bits .and .i64 (V.r (a / 256)) r == 0)
def M.V.chkN (V : M.V) (a : Nat) (r : Int) : Nat → Nat → Int × Bool
  | _, 0 => (0, true)
  | i, c + 1 => bif V.ok ((a + i) % 4294967296) r then M.V.chkN V a r (i + 1) c else ((((a + i) % 4294967296 : Nat) : Int), false)
def M.V.chk (V : M.V) (a : Nat) (r n : Int) : Int × Bool := if 1 ≤ n ∧ n ≤ 4 then V.chkN a r 0 n.toNat else (((a : Nat) : Int), false)
def M.V.ldv (V : M.V) (a n : Nat) : Nat → Int
  | 0 => 0
  | c + 1 => bits .or .u32 (IntKind.wrap .u32 (M.V.ldv V a n c * 2 ^ 8)) (IntKind.wrap .u32 (V.peek ((a + (n - 1 - c)) % 4294967296)))
def M.V.load (V : M.V) (a : Nat) (n : Int) : Int × Int × Bool := if (V.chk a 1 n).2 then (V.ldv a n.toNat n.toNat, 0, true) else (0, (V.chk a 1 n).1, false)
def M.V.sto (V : M.V) (a : Nat) (n v : Int) : M.V := if (V.chk a 2 n).2 then V.put a v n.toNat else V
def M.V.fetch (V : M.V) (a : Nat) : Int × Bool := if V.ok a 4 then (V.code a, true) else (0, false)
def M.V.page (V : M.V) (n : Int) : ByteArray := if 0 ≤ n ∧ n < ((V.n : Nat) : Int) then strOfNums ((List.range 256).map (V.d n.toNat)) else ⟨#[]⟩
def M.V.prot (V : M.V) (n r : Int) : M.V := if 0 ≤ n ∧ n < ((V.n : Nat) : Int) then { V with r := fun j => if j = n.toNat then bits .and .i64 r 7 else V.r j } else V
def M.V.dty (V : M.V) (k : Nat) : Bool := !(M.eqv (V.d k) (V.cd k) (List.range 256)) || !(M.eqv (V.i k) (V.ci k) (List.range 256))
def M.V.dl (V : M.V) : Nat → List Int
  | 0 => []
  | k + 1 => bif V.dty k then M.V.dl V k ++ [((k : Nat) : Int)] else M.V.dl V k
def M.V.dirty (V : M.V) : List Int := V.dl V.n
def M.V.pgs (V W : M.V) (k : Nat) : Bool := (V.r k == W.r k) && (M.eqv (V.d k) (W.d k) (List.range 256) && M.eqv (V.i k) (W.i k) (List.range 256))
def M.V.eqs (V W : M.V) : Nat → Bool
  | 0 => true
  | k + 1 => M.V.eqs V W k && V.pgs W k
def M.V.eq (V W : M.V) : Bool := (V.n == W.n) && V.eqs W V.n
/-! From the object to what it shows. -/
theorem M.out_iff {o : M.Obj} {V : M.V} (h : M.Sh o V) (k : Nat) : o.out k = !(decide (k < V.n)) := by
  unfold M.Obj.out
  rw [h.n]
  by_cases e : k < V.n
  · rw [decide_eq_true e, decide_eq_false (by omega)]; rfl
  · rw [decide_eq_false e, decide_eq_true (by omega)]; rfl
theorem M.Sh.peek {o : M.Obj} {V : M.V} (h : M.Sh o V) (a : Nat) : M.peek o a = V.peek a := by
  unfold M.peek M.V.peek
  rw [M.out_iff h]
  by_cases e : a / 256 < V.n
  · rw [decide_eq_true e, if_pos e]; exact h.d _ e _ (Nat.mod_lt _ (by decide))
  · rw [decide_eq_false e, if_neg e]; rfl
theorem M.Sh.code {o : M.Obj} {V : M.V} (h : M.Sh o V) (a : Nat) : M.code o a = V.code a := by
  unfold M.code M.V.code
  rw [M.out_iff h]
  by_cases e : a / 256 < V.n
  · rw [decide_eq_true e, if_pos e]; exact h.i _ e _ (Nat.mod_lt _ (by decide))
  · rw [decide_eq_false e, if_neg e]; rfl
theorem M.rng {n m : Int} : ((decide (n < 0)) || (decide (n ≥ m))) = !(decide (0 ≤ n ∧ n < m)) := by
  by_cases h : 0 ≤ n ∧ n < m
  · rw [decide_eq_true h, decide_eq_false (by omega), decide_eq_false (by omega)]; rfl
  · rw [decide_eq_false h]
    by_cases h0 : n < 0
    · rw [decide_eq_true h0]; rfl
    · rw [decide_eq_true (show n ≥ m by omega), Bool.or_true]; rfl
theorem M.Sh.rights {o : M.Obj} {V : M.V} (h : M.Sh o V) (n : Int) : M.rights o n = V.rt n := by
  unfold M.rights M.V.rt
  rw [M.rng, h.n]
  by_cases e : 0 ≤ n ∧ n < ((V.n : Nat) : Int)
  · rw [decide_eq_true e, if_pos e]; exact h.r _ (by omega)
  · rw [decide_eq_false e, if_neg e]; rfl
theorem M.Sh.ok {o : M.Obj} {V : M.V} (h : M.Sh o V) (a : Nat) (r : Int) : M.ok o a r = V.ok a r := by
  unfold M.ok M.V.ok
  rw [M.out_iff h, Bool.not_not]
  by_cases e : a / 256 < V.n
  · rw [h.r _ e]
  · rw [decide_eq_false e, Bool.false_and, Bool.false_and]
theorem M.chk_s (o : M.Obj) (a : Nat) (r : Int) (i c : Nat) : M.chk o a r i (c + 1) = bif M.ok o ((a + i) % 4294967296) r then M.chk o a r (i + 1) c else ((((a + i) % 4294967296 : Nat) : Int), false) := by rw [M.chk]
theorem M.chkN_s (V : M.V) (a : Nat) (r : Int) (i c : Nat) : V.chkN a r i (c + 1) = bif V.ok ((a + i) % 4294967296) r then V.chkN a r (i + 1) c else ((((a + i) % 4294967296 : Nat) : Int), false) := by rw [M.V.chkN]
theorem M.Sh.chk {o : M.Obj} {V : M.V} (h : M.Sh o V) (a : Nat) (r : Int) (c : Nat) : ∀ i, M.chk o a r i c = V.chkN a r i c := by
  induction c with
  | zero => intro i; rw [M.chk, M.V.chkN]
  | succ c ih => intro i; rw [M.chk_s, M.chkN_s, h.ok, ih]
theorem M.Sh.ldv {o : M.Obj} {V : M.V} (h : M.Sh o V) (a n : Nat) : ∀ c, M.ldv o a n c = V.ldv a n c
  | 0 => rfl
  | c + 1 => by
    show bits .or .u32 (IntKind.wrap .u32 (M.ldv o a n c * 2 ^ 8)) (IntKind.wrap .u32 (M.peek o _)) = bits .or .u32 (IntKind.wrap .u32 (V.ldv a n c * 2 ^ 8)) (IntKind.wrap .u32 (V.peek _))
    rw [h.peek, h.ldv a n c]
theorem M.Sh.fetch {o : M.Obj} {V : M.V} (h : M.Sh o V) (a : Nat) : M.fetch o a = V.fetch a := by
  unfold M.fetch M.V.fetch M.V.ok M.V.code
  rw [M.out_iff h]
  by_cases e : a / 256 < V.n
  · rw [decide_eq_true e, h.r _ e, if_pos e]
    show (bif _ then _ else _) = _
    cases hb : (bits .and .i64 (V.r (a / 256)) 4 == 0) with
    | true => rfl
    | false => show (_, true) = (_, true); rw [h.i _ e _ (Nat.mod_lt _ (by decide))]
  · rw [decide_eq_false e]; rfl
theorem M.map_congr {f g : Nat → Int} (h : ∀ x, x < 256 → f x = g x) : (List.range 256).map f = (List.range 256).map g :=
  List.map_congr_left fun x hx => h x (List.mem_range.1 hx)
theorem M.Sh.page {o : M.Obj} {V : M.V} (h : M.Sh o V) (n : Int) : M.pageS o n = V.page n := by
  unfold M.pageS M.V.page
  rw [M.rng, h.n]
  by_cases e : 0 ≤ n ∧ n < ((V.n : Nat) : Int)
  · rw [decide_eq_true e, if_pos e]
    show strOfNums _ = _
    rw [M.map_congr (h.d n.toNat (by omega))]
  · rw [decide_eq_false e, if_neg e]; rfl
theorem M.eqv_congr {f g f' g' : Nat → Int} (h : ∀ x, x < 256 → f x = f' x) (k : ∀ x, x < 256 → g x = g' x) : M.eqv f g (List.range 256) = M.eqv f' g' (List.range 256) := by
  unfold M.eqv
  have : ∀ l : List Nat, (∀ x ∈ l, x < 256) → (l.all fun i => f i == g i) = l.all fun i => f' i == g' i := by
    intro l
    induction l with
    | nil => exact fun _ => rfl
    | cons a l ih =>
      intro hl
      rw [List.all_cons, List.all_cons, ih fun x hx => hl x (List.mem_cons_of_mem _ hx), h a (hl a (List.mem_cons_self ..)), k a (hl a (List.mem_cons_self ..))]
  exact this _ fun x hx => List.mem_range.1 hx
theorem M.eqv_refl (f : Nat → Int) : M.eqv f f (List.range 256) = true := by
  unfold M.eqv; exact List.all_eq_true.2 fun x _ => beq_self_eq_true _
/-- Two pages of one content, whether or not they are one block. -/
theorem M.sm_eqv {o : M.Obj} {p q : Nat} : ((p == q) || M.eqv (o.C p) (o.C q) (List.range 256)) = M.eqv (o.C p) (o.C q) (List.range 256) := by
  cases h : (p == q) with
  | false => rfl
  | true =>
    have : p = q := by simpa using h
    subst this
    rw [M.eqv_refl]; rfl
theorem M.Sh.dty {o : M.Obj} {V : M.V} (h : M.Sh o V) (hi : M.Inv o) {k : Nat} (hk : k < V.n) : M.dty o k = V.dty k := by
  unfold M.dty M.V.dty
  have h1 : M.eqv (o.C (o.at k).d) (o.C (o.at k).cd) (List.range 256) = M.eqv (V.d k) (V.cd k) (List.range 256) := M.eqv_congr (h.d k hk) (h.cd k hk)
  rw [M.sm_eqv, h1]
  have hko : k < o.sl.length := h.n ▸ hk
  have hco := hi.co k hko
  have hi' := h.i k hk
  have hci' := h.ci k hk
  unfold M.img at hi'
  cases hc : (o.at k).c with
  | none =>
    cases hcc : (o.at k).cc with
    | none =>
      rw [hc] at hi'; rw [hcc] at hci'
      have h2 : M.eqv (V.i k) (V.ci k) (List.range 256) = M.eqv (V.d k) (V.cd k) (List.range 256) := M.eqv_congr (fun x hx => by rw [← hi' x hx, ← h.d k hk x hx]; rfl) (fun x hx => by rw [← hci' x hx, ← h.cd k hk x hx]; rfl)
      rw [h2]
      show (_ || !true) = _
      cases M.eqv (V.d k) (V.cd k) (List.range 256) <;> rfl
    | some q => rw [hc, hcc] at hco; have := hco.1.trans hco.2.symm; cases this
  | some p =>
    cases hcc : (o.at k).cc with
    | none => rw [hc, hcc] at hco; have := hco.1.trans hco.2.symm; cases this
    | some q =>
      rw [hc] at hi'; rw [hcc] at hci'
      show (_ || !((p == q) || M.eqv (o.C p) (o.C q) (List.range 256))) = _
      rw [M.sm_eqv, show M.eqv (o.C p) (o.C q) (List.range 256) = M.eqv (V.i k) (V.ci k) (List.range 256) from M.eqv_congr hi' hci']
theorem M.Sh.dl {o : M.Obj} {V : M.V} (h : M.Sh o V) (hi : M.Inv o) : ∀ k, k ≤ V.n → M.dl o k = V.dl k
  | 0, _ => rfl
  | k + 1, hk => by
    show (bif M.dty o k then M.dl o k ++ [((k : Nat) : Int)] else M.dl o k) = (bif V.dty k then V.dl k ++ [((k : Nat) : Int)] else V.dl k)
    rw [h.dty hi (by omega), h.dl hi k (by omega)]
theorem M.sm_two {a b : M.Obj} {w : World} {p q : Nat} (ha : M.At a w) (hb : M.At b w) (hp : M.Pg a.sl p) (hq : M.Pg b.sl q) : M.sm a b p q = M.eqv (a.C p) (b.C q) (List.range 256) := by
  unfold M.sm
  cases h : (p == q) with
  | false => rfl
  | true =>
    have : p = q := by simpa using h
    subst this
    have : ∀ x, x < 256 → a.C p x = b.C p x := fun x hx => by
      have h1 := ha.pg p hp x hx
      rw [hb.pg p hq x hx] at h1
      simp only [Option.some.injEq, Value.int.injEq] at h1
      exact h1.2.symm
    rw [M.eqv_congr this (fun _ _ => rfl), M.eqv_refl]; rfl
theorem M.nep_eq {a b : M.Obj} {V W : M.V} {w : World} (ha : M.At a w) (hb : M.At b w) (h : M.Sh a V) (k : M.Sh b W) {i : Nat} (hi : i < V.n) (hj : i < W.n) : M.nep a b i = !(V.pgs W i) := by
  unfold M.nep M.V.pgs
  have ia : i < a.sl.length := h.n ▸ hi
  have ib : i < b.sl.length := k.n ▸ hj
  rw [M.sm_two ha hb (M.pg_d ia) (M.pg_d ib), M.sm_two ha hb (M.pg_img ia) (M.pg_img ib), M.eqv_congr (h.d i hi) (k.d i hj), M.eqv_congr (h.i i hi) (k.i i hj), h.r i hi, k.r i hj]
  cases h1 : (V.r i == W.r i) <;> cases M.eqv (V.d i) (W.d i) (List.range 256) <;> cases M.eqv (V.i i) (W.i i) (List.range 256) <;> simp [bne, h1]
theorem M.eqs_eq {a b : M.Obj} {V W : M.V} {w : World} (ha : M.At a w) (hb : M.At b w) (h : M.Sh a V) (k : M.Sh b W) : ∀ i, i ≤ V.n → i ≤ W.n → M.eqs a b i = V.eqs W i
  | 0, _, _ => rfl
  | i + 1, h1, h2 => by
    show (M.eqs a b i && !(M.nep a b i)) = (V.eqs W i && V.pgs W i)
    rw [M.eqs_eq ha hb h k i (by omega) (by omega), M.nep_eq ha hb h k (by omega) (by omega), Bool.not_not]
theorem M.eql_eq {a b : M.Obj} {V W : M.V} {w : World} (ha : M.At a w) (hb : M.At b w) (h : M.Sh a V) (k : M.Sh b W) : M.eql a b = V.eq W := by
  unfold M.eql M.V.eq
  rw [h.n, k.n]
  cases e : (V.n == W.n) with
  | false => rfl
  | true =>
    have : V.n = W.n := by simpa using e
    rw [M.eqs_eq ha hb h k V.n (Nat.le_refl _) (by omega)]
theorem M.Sh.prot {o : M.Obj} {V : M.V} (h : M.Sh o V) (n r : Int) : M.Sh (M.prot o n r) (V.prot n r) := by
  unfold M.prot M.V.prot
  have hn := h.n
  rw [h.n]
  by_cases e : 0 ≤ n ∧ n < ((V.n : Nat) : Int)
  · rw [if_pos e, decide_eq_true (show n ≥ 0 from e.1), decide_eq_true e.2]
    have hk : n.toNat < o.sl.length := by omega
    have hl := M.setr_at (o := o) (i := n.toNat) (r := bits .and .i64 r 7) hk
    refine ⟨M.upd_len.trans h.n, h.coh, fun j hj x hx => ?_, fun j hj x hx => ?_, fun j hj x hx => ?_, fun j hj x hx => ?_, fun j hj => ?_⟩
    · show o.C ((o.upd n.toNat _).at j).d x = _; rw [(hl j).1]; exact h.d j hj x hx
    · show o.C (M.img ((o.upd n.toNat _).at j)) x = _; unfold M.img; rw [(hl j).1, (hl j).2.1]; exact h.i j hj x hx
    · show o.C ((o.upd n.toNat _).at j).cd x = _; rw [(hl j).2.2.2.2.1]; exact h.cd j hj x hx
    · show o.C (((o.upd n.toNat _).at j).cc.getD ((o.upd n.toNat _).at j).cd) x = _; rw [(hl j).2.2.2.2.1, (hl j).2.2.2.2.2]; exact h.ci j hj x hx
    · show ((o.upd n.toNat _).at j).r = (if j = n.toNat then bits .and .i64 r 7 else V.r j)
      rw [M.upd_at hk]
      by_cases e2 : j = n.toNat
      · rw [if_pos e2, if_pos e2]
      · rw [if_neg e2, if_neg e2]; exact h.r j hj
  · rw [if_neg e]
    have : ((decide (n ≥ 0)) && (decide (n < ((V.n : Nat) : Int)))) = false := by
      by_cases h0 : n ≥ 0
      · rw [decide_eq_true h0, decide_eq_false (fun h1 => e ⟨h0, h1⟩)]; rfl
      · rw [decide_eq_false h0]; rfl
    rw [this]; exact h
theorem M.Nxt.prot (w : World) (o : M.Obj) (n r : Int) : M.Nxt w o (M.prot o n r) := by
  unfold M.prot
  cases hc : ((decide (n ≥ 0)) && (decide (n < ((o.sl.length : Nat) : Int)))) with
  | false => exact M.Nxt.refl _ _
  | true =>
    simp only [Bool.and_eq_true, decide_eq_true_eq] at hc
    have hk : n.toNat < o.sl.length := by omega
    have hl : M.Like o (o.upd n.toNat { o.at n.toNat with r := bits .and .i64 r 7 }) := ⟨rfl, rfl, M.upd_len, rfl, M.setr_at hk⟩
    exact ⟨rfl, M.upd_len, rfl, fun x _ hx => hl.ow hx, fun x _ hx => hl.all hx⟩
/-! The calls, over items. -/
section
variable {m : Nat} {V : M.V} {xs : List Value}
theorem A_Pages : A.Rd Try.prog 20 #[.pointer (some ⟨m, 0, none⟩)] [M.It m V xs] (.int .i64 ((V.n : Nat) : Int)) :=
  M.rd fun b w hm hs hV => by subst hm; rw [← hV.n]; exact Pages_any b w hs.at_
theorem A_Peek (a : Nat) (ha : a < 4294967296) : A.Rd Try.prog 21 #[.pointer (some ⟨m, 0, none⟩), .int .u32 ((a : Nat) : Int)] [M.It m V xs] (.int .u8 (V.peek a)) :=
  M.rd fun b w hm hs hV => by subst hm; rw [← hV.peek]; exact Peek_any b a ha w hs.at_
theorem A_Code (a : Nat) (ha : a < 4294967296) : A.Rd Try.prog 22 #[.pointer (some ⟨m, 0, none⟩), .int .u32 ((a : Nat) : Int)] [M.It m V xs] (.int .u8 (V.code a)) :=
  M.rd fun b w hm hs hV => by subst hm; rw [← hV.code]; exact Code_any b a ha w hs.at_
theorem A_Rights (n : Int) : A.Rd Try.prog 24 #[.pointer (some ⟨m, 0, none⟩), .int .i64 n] [M.It m V xs] (.int .i64 (V.rt n)) :=
  M.rd fun b w hm hs hV => by subst hm; rw [← hV.rights]; exact Rights_any b n w hs.at_
theorem A_Fetch (a : Nat) (ha : a < 4294967296) : A.Rd Try.prog 19 #[.pointer (some ⟨m, 0, none⟩), .int .u32 ((a : Nat) : Int)] [M.It m V xs] (.tuple #[.int .u8 (V.fetch a).1, .bool (V.fetch a).2]) :=
  M.rd fun b w hm hs hV => by subst hm; rw [← hV.fetch]; exact Fetch_any b a ha w hs.at_
theorem A_Page (n : Int) : A.Rd Try.prog 27 #[.pointer (some ⟨m, 0, none⟩), .int .i64 n] [M.It m V xs] (.string (V.page n)) :=
  M.rd fun b w hm hs hV => by subst hm; rw [← hV.page]; exact Page_any b n w hs.at_
theorem A_Load (a : Nat) (n : Int) (ha : a < 4294967296) : A.Rd Try.prog 17 #[.pointer (some ⟨m, 0, none⟩), .int .u32 ((a : Nat) : Int), .int .i64 n] [M.It m V xs] (.tuple #[.int .u32 (V.load a n).1, .int .u32 (V.load a n).2.1, .bool (V.load a n).2.2]) :=
  M.rd fun b w hm hs hV => by
    subst hm
    by_cases hn : 1 ≤ n ∧ n ≤ 4
    · have e : V.load a n = M.load b a n.toNat := by
        unfold M.V.load M.load M.V.chk
        rw [if_pos hn, ← hV.chk, ← hV.ldv]
        cases (M.chk b a 1 0 n.toNat).2 <;> rfl
      have := Load_any b a n.toNat ha ⟨by omega, by omega⟩ w hs.at_
      rw [e]
      rw [show ((n.toNat : Nat) : Int) = n by omega] at this
      exact this
    · have e : V.load a n = (0, ((a : Nat) : Int), false) := by
        unfold M.V.load M.V.chk
        rw [if_neg hn]; rfl
      rw [e]
      exact Load_bad b a n (by omega) w hs.at_
theorem A_Store (a : Nat) (n v : Int) (ha : a < 4294967296) : A.Tr Try.prog 18 #[.pointer (some ⟨m, 0, none⟩), .int .u32 ((a : Nat) : Int), .int .i64 n, .int .u32 v] [M.It m V xs] (I := Unit) (fun _ => True) (fun _ => .tuple #[.int .u32 (V.chk a 2 n).1, .bool (V.chk a 2 n).2]) (fun _ => [M.It m (V.sto a n v) xs]) :=
  M.wr fun b w hm hs hV => by
    subst hm
    by_cases hn : 1 ≤ n ∧ n ≤ 4
    · have e : V.chk a 2 n = M.chk b a 2 0 n.toNat := by unfold M.V.chk; rw [if_pos hn, ← hV.chk]
      have e0 : ∀ c : Nat, (M.chk b a 2 0 c).2 = true → (M.chk b a 2 0 c).1 = 0 := fun c => by
        have : ∀ (c i : Nat), (M.chk b a 2 i c).2 = true → (M.chk b a 2 i c).1 = 0 := fun c => by
          induction c with
          | zero => exact fun _ _ => rfl
          | succ c ih =>
            intro i
            show (bif M.ok b _ 2 then M.chk b a 2 (i + 1) c else _).2 = true → (bif M.ok b _ 2 then M.chk b a 2 (i + 1) c else _).1 = 0
            cases M.ok b ((a + i) % 4294967296) 2 with
            | true => exact ih (i + 1)
            | false => intro h; cases h
        exact this c 0
      have key : ∀ k : Nat, n.toNat = k → (∀ w, M.St b w → Calls Try.prog 18 #[.pointer (some ⟨b.m, 0, none⟩), .int .u32 ((a : Nat) : Int), .int .i64 ((k : Nat) : Int), .int .u32 v] w fun e w' => e = .returned (bif (M.chk b a 2 0 k).2 then .tuple #[.int .u32 0, .bool true] else .tuple #[.int .u32 (M.chk b a 2 0 k).1, .bool false]) ∧ ∃ o', M.St o' w' ∧ Ch (fun x => M.ow b x) w w' ∧ M.Nxt w b o' ∧ ∀ V, M.Sh b V → M.Sh o' (bif (M.chk b a 2 0 k).2 then V.put a v k else V)) →
          Calls Try.prog 18 #[.pointer (some ⟨b.m, 0, none⟩), .int .u32 ((a : Nat) : Int), .int .i64 n, .int .u32 v] w fun e w' => e = .returned (.tuple #[.int .u32 (V.chk a 2 n).1, .bool (V.chk a 2 n).2]) ∧ ∃ b', M.St b' w' ∧ Ch (fun x => M.ow b x) w w' ∧ M.Nxt w b b' ∧ M.Sh b' (V.sto a n v) := fun k hk hc => by
        have := hc w hs
        rw [show ((k : Nat) : Int) = n by omega] at this
        refine this.mono fun e w' ⟨he, o', h1, h2, h3, h4⟩ => ⟨?_, o', h1, h2, h3, ?_⟩
        · rw [he, ‹V.chk a 2 n = _›, hk]
          cases hq : (M.chk b a 2 0 k).2 with
          | true => rw [e0 k hq]; rfl
          | false => rfl
        · have h5 := h4 V hV
          unfold M.V.sto
          rw [‹V.chk a 2 n = _›, hk]
          cases hq : (M.chk b a 2 0 k).2 with
          | true => rw [hq] at h5; exact h5
          | false => rw [hq] at h5; exact h5
      have h4 : n.toNat = 1 ∨ n.toNat = 2 ∨ n.toNat = 3 ∨ n.toNat = 4 := by omega
      rcases h4 with h | h | h | h
      · exact key 1 h fun w hs => Store_1 b a v ha w hs
      · exact key 2 h fun w hs => Store_2 b a v ha w hs
      · exact key 3 h fun w hs => Store_3 b a v ha w hs
      · exact key 4 h fun w hs => Store_4 b a v ha w hs
    · have e : V.chk a 2 n = (((a : Nat) : Int), false) := by unfold M.V.chk; rw [if_neg hn]
      have e2 : V.sto a n v = V := by unfold M.V.sto; rw [e]; rfl
      rw [e, e2]
      exact (Store_bad b a n v (by omega) w hs.at_).mono fun e w' ⟨he, hb⟩ => ⟨he, b, hs.keep fun x hx => hb.heap x hx, hb.ch _, M.Nxt.refl _ _, hV⟩
theorem A_Sync (a : Nat) (ha : a < 4294967296) : A.Tr Try.prog 33 #[.pointer (some ⟨m, 0, none⟩), .int .u32 ((a : Nat) : Int)] [M.It m V xs] (I := Unit) (fun _ => True) (fun _ => .bool (decide (a / 256 < V.n))) (fun _ => [M.It m (V.sync (a / 256)) xs]) :=
  M.wr fun b w hm hs hV => by
    subst hm
    refine (Sync_any b a ha w hs).mono fun e w' ⟨he, o', h1, h2, h3, h4⟩ => ⟨?_, o', h1, h2, h3, h4 V hV⟩
    rw [he, M.out_iff hV, Bool.not_not]
theorem A_Poke (a : Nat) (s : ByteArray) (ha : a < 4294967296) (hs : s.size < 4294967296) : A.Tr Try.prog 28 #[.pointer (some ⟨m, 0, none⟩), .int .u32 ((a : Nat) : Int), .string s] [M.It m V xs] (I := Unit) (fun _ => True) (fun _ => .tuple #[]) (fun _ => [M.It m (V.poke a s s.size) xs]) :=
  M.wr fun b w hm hst hV => by
    subst hm
    exact (Poke_any b a s hs w hst).mono fun e w' ⟨he, o', h1, h2, h3, h4⟩ => ⟨he, o', h1, h2, h3, h4 V hV⟩
theorem A_SetCode (n : Int) (s : ByteArray) : A.Tr Try.prog 36 #[.pointer (some ⟨m, 0, none⟩), .int .i64 n, .string s] [M.It m V xs] (I := Unit) (fun _ => True) (fun _ => .tuple #[]) (fun _ => [M.It m (V.setc n s) xs]) :=
  M.wr fun b w hm hst hV => by
    subst hm
    exact (SetCode_any b n s w hst).mono fun e w' ⟨he, o', h1, h2, h3, h4⟩ => ⟨he, o', h1, h2, h3, h4 V hV⟩
theorem A_Protect (n r : Int) : A.Tr Try.prog 16 #[.pointer (some ⟨m, 0, none⟩), .int .i64 n, .int .i64 r] [M.It m V xs] (I := Unit) (fun _ => True) (fun _ => .tuple #[]) (fun _ => [M.It m (V.prot n r) xs]) :=
  M.wr fun b w hm hst hV => by
    subst hm
    exact (Protect_any b n r w hst).mono fun e w' ⟨he, h1, h2⟩ => ⟨he, M.prot b n r, h1, h2, M.Nxt.prot _ _ _ _, hV.prot n r⟩
theorem A_Clean : A.Tr Try.prog 34 #[.pointer (some ⟨m, 0, none⟩)] [M.It m V xs] (I := Unit) (fun _ => True) (fun _ => .tuple #[]) (fun _ => [M.It m V.clean xs]) :=
  M.wr fun b w hm hst hV => by
    subst hm
    exact (Clean_any b w hst).mono fun e w' ⟨he, o', h1, h2, h3, h4⟩ => ⟨he, o', h1, h2, h3, h4 V hV⟩
theorem A_Dirty : A.Tr Try.prog 23 #[.pointer (some ⟨m, 0, none⟩)] [M.It m V xs] (I := Option Addr × Nat) (fun _ => True) (fun i => .slice i.1 V.dirty.length i.2) (fun i => [M.It m V xs, A.vec .i64 i.1 i.2 V.dirty]) := by
  intro w o a hh
  obtain ⟨o1, a1, h1, ho, ha⟩ := A.Has.one' hh
  obtain ⟨b, hm, hV, hb⟩ := M.It.ob h1
  subst hm
  have hd : M.dl b b.sl.length = V.dirty := by unfold M.V.dirty; rw [← hV.n]; exact hV.dl hb.1.inv _ (Nat.le_of_eq hV.n)
  have := Dirty_ob b xs w o a ((A.Has.one hb).iff (fun x => (ho x).symm) (fun x => (ha x).symm))
  rw [hd] at this
  refine this.mono fun e w' ⟨i, hi, he, o', a', ⟨p1, q1, p2, q2, h1, h2⟩, hc, hg⟩ => ⟨i, hi, he, o', a', ⟨p1, q1, p2, q2, M.Ob.it h1 hV, h2⟩, hc, hg⟩
theorem A_New (n : Int) (coh : Bool) : A.Tr Try.prog 15 #[.int .i64 n, .bool coh] [] (I := Nat) (fun _ => True) (fun g => .pointer (some ⟨g, 0, none⟩)) (fun g => [M.It g (M.V.new (M.np n) coh) []]) := by
  intro w o a hh
  refine (New_any n coh w).mono fun e w' ⟨b, he, h1, h2, h3, h4⟩ => ⟨b.m, trivial, he, fun x => x = b.m ∨ M.ow b x, fun x => M.all b x, A.Has.one ⟨b, rfl, h1, h2, fun i v hv => by simp at hv, fun _ => Iff.rfl, fun _ => Iff.rfl⟩, h3.ch _, fun x hx hk => ?_, fun x hx hk => ?_⟩
  · rcases hk with rfl | hk
    · have := h4 _ (.inl rfl); omega
    · have := h4 x (M.ow_all hk); omega
  · have := h4 x hk; omega
theorem A_Snapshot : A.Tr Try.prog 29 #[.pointer (some ⟨m, 0, none⟩)] [M.It m V xs] (I := Nat) (fun _ => True) (fun g => .pointer (some ⟨g, 0, none⟩)) (fun g => [M.It m V xs, M.It g V []]) := by
  intro w o a hh
  obtain ⟨b, hm, hs, hV, hx, ho, ha⟩ := M.It.open1 hh
  subst hm
  refine (Snapshot_any b w hs).mono fun e w' ⟨g, o', o2, he, h1, h2, hc, hn, hsh, hy⟩ => ?_
  have hno : ¬ M.ow b b.m := fun hw => by
    rcases hw with ⟨hn0, e⟩ | ⟨i, hi, _, e⟩ | ⟨i, hi, _, e⟩
    · exact hs.inv.mb hn0 e
    · exact (hs.inv.pm _ (M.pg_d hi)).1 e.symm
    · exact (hs.inv.pm _ (M.pg_c hi e)).1 rfl
  have hg := hy.m
  subst hg
  have hom : M.all o' o'.m := .inl rfl
  refine ⟨o2.m, trivial, he, fun x => (x = b.m ∨ M.ow o' x) ∨ (x = o2.m ∨ M.ow o2 x), fun x => M.all o' x ∨ M.all o2 x, ⟨fun x => x = b.m ∨ M.ow o' x, fun x => M.all o' x, fun x => x = o2.m ∨ M.ow o2 x, fun x => M.all o2 x, ⟨o', hn.m, h1, hsh V hV, fun i v hv => (hc.cell b.m _ (hs.at_.alive (.inl rfl)) hno).trans (hx i v hv), fun _ => Iff.rfl, fun _ => Iff.rfl⟩, A.Has.one ⟨o2, rfl, h2, hy.sh V hV, fun i v hv => by simp at hv, fun _ => Iff.rfl, fun _ => Iff.rfl⟩, fun x hx hk => ?_, fun x hx hk => ?_, fun _ => Iff.rfl, fun _ => Iff.rfl⟩, hc.mono fun x _ hx => (ho x).2 (.inr hx), fun x hx hk => ?_, fun x hx hk => ?_⟩
  · rcases hx with rfl | hx
    · rw [← hn.m] at hk; exact hy.dm hk
    · exact hy.d1 x hx hk
  · exact hy.d2 x hx hk
  · rcases hk with (rfl | hk) | (rfl | hk)
    · exact (ho _).2 (.inl rfl)
    · exact (ho x).2 (.inr (hn.ow x hx hk))
    · have := hy.new; omega
    · have := hy.ow x hk; omega
  · rcases hk with hk | hk
    · exact (ha x).2 (hn.al x hx hk)
    · rcases hy.al x hk with h | h
      · omega
      · exact (ha x).2 (hn.al x hx h)
end
theorem A_Equal {m n : Nat} {V W : M.V} {xs ys : List Value} : A.Rd Try.prog 30 #[.pointer (some ⟨m, 0, none⟩), .pointer (some ⟨n, 0, none⟩)] [M.It m V xs, M.It n W ys] (.bool (V.eq W)) := by
  intro w o a ⟨p1, q1, p2, q2, ⟨b, hm, hs, hV, _⟩, ⟨p3, q3, p4, q4, ⟨c, hm2, hs2, hV2, _⟩, _⟩, _⟩
  subst hm; subst hm2
  rw [← M.eql_eq hs.at_ hs2.at_ hV hV2]
  exact Equal_any b c w hs hs2
theorem A_EqualSelf {m : Nat} {V : M.V} {xs : List Value} : A.Rd Try.prog 30 #[.pointer (some ⟨m, 0, none⟩), .pointer (some ⟨m, 0, none⟩)] [M.It m V xs] (.bool (V.eq V)) :=
  M.rd fun b w hm hs hV => by subst hm; rw [← M.eql_eq hs.at_ hs.at_ hV hV]; exact Equal_any b b w hs hs
end Go.Proofs.Ytdjjjikokfadiaa

/- The reference memory as items: its header and five slices, told by what a memory shows. No condition. -/
namespace Go.Proofs.Ytdjjjikokfadiaa
set_option linter.unusedVariables false
set_option linter.unusedSimpArgs false
open Go.RowKit
section
variable {P : Program} {n : Nat} {ops : Array Oper} {Q : Exit → Act → World → Prop} {w0 : World} {o0 a0 : Nat → Prop} {its : List A.It} {L : List (Nat × List Value)} {l : List Oper} {fr : E.Fr}
theorem A.G.eq (its' : List A.It) (h : its = its') (k : E.G P n ops Q l fr o0 w0 (A.X w0 o0 a0 its') L) : E.G P n ops Q l fr o0 w0 (A.X w0 o0 a0 its) L := by subst h; exact k
theorem A.C.eq {c : Code} (its' : List A.It) (h : its = its') (k : E.C P n Q c fr o0 w0 (A.X w0 o0 a0 its') L) : E.C P n Q c fr o0 w0 (A.X w0 o0 a0 its) L := by subst h; exact k
end
/-- The addresses and capacities of the five slices. -/
structure R.Sl where
  a0 : Option Addr
  a1 : Option Addr
  a2 : Option Addr
  a3 : Option Addr
  a4 : Option Addr
  c0 : Nat
  c1 : Nat
  c2 : Nat
  c3 : Nat
  c4 : Nat
def R.flat (f : Nat → Nat → Int) (n : Nat) : List Int := (List.range (256 * n)).map fun y => f (y / 256) (y % 256)
def R.rts (f : Nat → Int) (n : Nat) : List Int := (List.range n).map f
def R.len (V : M.V) : Nat := if V.coh then 0 else V.n
theorem R.flat_len (f : Nat → Nat → Int) (n : Nat) : (R.flat f n).length = 256 * n := by simp [R.flat]
theorem R.rts_len (f : Nat → Int) (n : Nat) : (R.rts f n).length = n := by simp [R.rts]
theorem R.flat_get {f : Nat → Nat → Int} {n y : Nat} (h : y < 256 * n) : (R.flat f n).getD y 0 = f (y / 256) (y % 256) := by
  simp [R.flat, List.getD, h]
theorem R.rts_get {f : Nat → Int} {n y : Nat} (h : y < n) : (R.rts f n).getD y 0 = f y := by
  simp [R.rts, List.getD, h]
theorem R.flat_set {f : Nat → Nat → Int} {n y : Nat} (v : Int) (h : y < 256 * n) : (R.flat f n).set y v = R.flat (M.up f (y / 256) (y % 256) v) n := by
  refine List.ext_getElem? fun i => ?_
  rw [List.getElem?_set, R.flat_len]
  by_cases e : y = i
  · subst e
    rw [if_pos rfl, if_pos h]
    simp [R.flat, h, M.up]
  · rw [if_neg e]
    by_cases hi : i < 256 * n
    · simp only [R.flat, List.getElem?_map, List.getElem?_range hi, Option.map_some, M.up]
      rw [if_neg (fun k => e (by omega))]
    · rw [List.getElem?_eq_none (by rw [R.flat_len]; omega), List.getElem?_eq_none (by rw [R.flat_len]; omega)]
theorem R.flat_congr {f g : Nat → Nat → Int} {n : Nat} (h : ∀ j, j < n → ∀ x, x < 256 → f j x = g j x) : R.flat f n = R.flat g n :=
  List.map_congr_left fun y hy => h _ (by have := List.mem_range.1 hy; omega) _ (Nat.mod_lt _ (by decide))
theorem R.rts_congr {f g : Nat → Int} {n : Nat} (h : ∀ j, j < n → f j = g j) : R.rts f n = R.rts g n :=
  List.map_congr_left fun y hy => h _ (List.mem_range.1 hy)
theorem R.rts_set {f : Nat → Int} {n y : Nat} (v : Int) (h : y < n) : (R.rts f n).set y v = R.rts (fun j => if j = y then v else f j) n := by
  refine List.ext_getElem? fun i => ?_
  rw [List.getElem?_set, R.rts_len]
  by_cases e : y = i
  · subst e
    rw [if_pos rfl, if_pos h]
    simp [R.rts, h]
  · rw [if_neg e]
    by_cases hi : i < n
    · simp only [R.rts, List.getElem?_map, List.getElem?_range hi, Option.map_some]
      rw [if_neg (fun k => e k.symm)]
    · rw [List.getElem?_eq_none (by rw [R.rts_len]; omega), List.getElem?_eq_none (by rw [R.rts_len]; omega)]
theorem R.flat_zero (n : Nat) : R.flat (fun _ _ => 0) n = List.replicate (256 * n) 0 := by
  refine List.ext_getElem? fun i => ?_
  by_cases hi : i < 256 * n
  · simp only [R.flat, List.getElem?_map, List.getElem?_range hi, Option.map_some]
    rw [List.getElem?_replicate, if_pos hi]
  · rw [List.getElem?_eq_none (by rw [R.flat_len]; omega), List.getElem?_eq_none (by rw [List.length_replicate]; omega)]
theorem R.rts_zero (n : Nat) : R.rts (fun _ => 0) n = List.replicate n 0 := by
  refine List.ext_getElem? fun i => ?_
  by_cases hi : i < n
  · simp only [R.rts, List.getElem?_map, List.getElem?_range hi, Option.map_some]
    rw [List.getElem?_replicate, if_pos hi]
  · rw [List.getElem?_eq_none (by rw [R.rts_len]; omega), List.getElem?_eq_none (by rw [List.length_replicate]; omega)]
def R.cells (s : R.Sl) (V : M.V) : List Value := [.slice s.a0 (256 * V.n) s.c0, .slice s.a1 (256 * R.len V) s.c1, .slice s.a2 (256 * V.n) s.c2, .slice s.a3 (256 * R.len V) s.c3, .slice s.a4 V.n s.c4, .bool V.coh]
def R.vs (s : R.Sl) (V : M.V) : List A.It := [A.vec .u8 s.a0 s.c0 (R.flat V.d V.n), A.vec .u8 s.a1 s.c1 (R.flat V.i (R.len V)), A.vec .u8 s.a2 s.c2 (R.flat V.cd V.n), A.vec .u8 s.a3 s.c3 (R.flat V.ci (R.len V)), A.vec .i64 s.a4 s.c4 (R.rts V.r V.n)]
def R.its (r : Nat) (s : R.Sl) (V : M.V) : List A.It := A.blk r (R.cells s V) :: R.vs s V
/-- What a memory shows is a memory's. -/
structure R.Wf (V : M.V) : Prop where
  n : V.n ≤ 4096
  d : ∀ j, j < V.n → ∀ x, x < 256 → 0 ≤ V.d j x ∧ V.d j x < 256
  i : ∀ j, j < V.n → ∀ x, x < 256 → 0 ≤ V.i j x ∧ V.i j x < 256
  r : ∀ j, j < V.n → 0 ≤ V.r j ∧ V.r j < 8
  co : V.coh = true → ∀ j, j < V.n → ∀ x, x < 256 → V.i j x = V.d j x ∧ V.ci j x = V.cd j x
theorem R.Wf.set {V : M.V} (h : R.Wf V) (a : Nat) {v : Int} (hv : 0 ≤ v ∧ v < 256) : R.Wf (V.set a v) := by
  unfold M.V.set
  by_cases e : a / 256 < V.n
  · rw [if_pos e]
    have up : ∀ (f : Nat → Nat → Int), (∀ j, j < V.n → ∀ x, x < 256 → 0 ≤ f j x ∧ f j x < 256) → ∀ j, j < V.n → ∀ x, x < 256 → 0 ≤ M.up f (a / 256) (a % 256) v j x ∧ M.up f (a / 256) (a % 256) v j x < 256 := fun f hf j hj x hx => by
      unfold M.up; split
      · exact hv
      · exact hf j hj x hx
    refine ⟨h.n, up _ h.d, ?_, h.r, fun hc j hj x hx => ?_⟩
    · show ∀ j, j < V.n → ∀ x, x < 256 → 0 ≤ (if V.coh then M.up V.i (a / 256) (a % 256) v else V.i) j x ∧ (if V.coh then M.up V.i (a / 256) (a % 256) v else V.i) j x < 256
      split
      · exact up _ h.i
      · exact h.i
    · have hc : V.coh = true := hc
      show (if V.coh then M.up V.i (a / 256) (a % 256) v else V.i) j x = M.up V.d (a / 256) (a % 256) v j x ∧ V.ci j x = V.cd j x
      rw [if_pos hc]
      refine ⟨?_, (h.co hc j hj x hx).2⟩
      unfold M.up; split
      · rfl
      · exact (h.co hc j hj x hx).1
  · rw [if_neg e]; exact h
theorem R.Wf.poke {V : M.V} (h : R.Wf V) (a : Nat) (s : ByteArray) : ∀ c, R.Wf (V.poke a s c)
  | 0 => h
  | c + 1 => (R.Wf.poke h a s c).set _ (W.byt_bd _ _)
theorem R.Wf.put {V : M.V} (h : R.Wf V) (a : Nat) (v : Int) : ∀ c, R.Wf (V.put a v c)
  | 0 => h
  | c + 1 => (R.Wf.put h a v c).set _ (M.byte_bd _)
theorem R.Wf.sync {V : M.V} (h : R.Wf V) (k : Nat) : R.Wf (V.sync k) := by
  unfold M.V.sync; split
  · rename_i hc
    refine ⟨h.n, h.d, fun j hj x hx => ?_, h.r, fun hc2 => ?_⟩
    · show 0 ≤ (if j = k then V.d j x else V.i j x) ∧ (if j = k then V.d j x else V.i j x) < 256
      split
      · exact h.d j hj x hx
      · exact h.i j hj x hx
    · have hc2 : V.coh = true := hc2
      rw [hc.2] at hc2; cases hc2
  · exact h
theorem R.Wf.setc {V : M.V} (h : R.Wf V) (n : Int) (s : ByteArray) : R.Wf (V.setc n s) := by
  unfold M.V.setc; split
  · rename_i hc
    refine ⟨h.n, h.d, fun j hj x hx => ?_, h.r, fun hc2 => ?_⟩
    · show 0 ≤ (if j = n.toNat ∧ x < Nat.min s.size 256 then W.byt s.data.toList x else V.i j x) ∧ (if j = n.toNat ∧ x < Nat.min s.size 256 then W.byt s.data.toList x else V.i j x) < 256
      split
      · exact W.byt_bd _ _
      · exact h.i j hj x hx
    · have hc2 : V.coh = true := hc2
      rw [hc.2.2] at hc2; cases hc2
  · exact h
theorem R.Wf.prot {V : M.V} (h : R.Wf V) (n r : Int) : R.Wf (V.prot n r) := by
  unfold M.V.prot; split
  · refine ⟨h.n, h.d, h.i, fun j hj => ?_, h.co⟩
    show 0 ≤ (if j = n.toNat then bits .and .i64 r 7 else V.r j) ∧ (if j = n.toNat then bits .and .i64 r 7 else V.r j) < 8
    split
    · exact M.and7 r
    · exact h.r j hj
  · exact h
theorem R.Wf.clean {V : M.V} (h : R.Wf V) : R.Wf V.clean :=
  ⟨h.n, h.d, h.i, h.r, fun hc j hj x hx => ⟨(h.co hc j hj x hx).1, by
    show (if j < V.n then V.i j else V.ci j) x = (if j < V.n then V.d j else V.cd j) x
    have hj : j < V.n := hj
    rw [if_pos hj, if_pos hj]; exact (h.co hc j hj x hx).1⟩⟩
theorem R.Wf.new {n : Nat} (hn : n ≤ 4096) (coh : Bool) : R.Wf (M.V.new n coh) :=
  ⟨hn, fun _ _ _ _ => ⟨Int.le_refl _, by show (0 : Int) < 256; decide⟩, fun _ _ _ _ => ⟨Int.le_refl _, by show (0 : Int) < 256; decide⟩, fun _ _ => ⟨Int.le_refl _, by show (0 : Int) < 8; decide⟩, fun _ _ _ _ _ => ⟨rfl, rfl⟩⟩
theorem R.set_n (V : M.V) (a : Nat) (v : Int) : (V.set a v).n = V.n := by unfold M.V.set; split <;> rfl
theorem R.set_coh (V : M.V) (a : Nat) (v : Int) : (V.set a v).coh = V.coh := by unfold M.V.set; split <;> rfl
theorem R.len_eq {V W : M.V} (hn : V.n = W.n) (hc : V.coh = W.coh) : R.len V = R.len W := by unfold R.len; rw [hn, hc]
theorem R.cells_eq {s : R.Sl} {V W : M.V} (hn : V.n = W.n) (hc : V.coh = W.coh) : R.cells s V = R.cells s W := by unfold R.cells; rw [hn, hc, R.len_eq hn hc]
theorem R.vs_eq {s : R.Sl} {V W : M.V} (hn : V.n = W.n) (hc : V.coh = W.coh) (hd : R.flat V.d V.n = R.flat W.d V.n) (hi : R.flat V.i (R.len V) = R.flat W.i (R.len V)) (hcd : R.flat V.cd V.n = R.flat W.cd V.n) (hci : R.flat V.ci (R.len V) = R.flat W.ci (R.len V)) (hr : R.rts V.r V.n = R.rts W.r V.n) : R.vs s V = R.vs s W := by
  unfold R.vs; rw [hd, hi, hcd, hci, hr, R.len_eq hn hc, hn]
/-- A byte of the content is set. -/
theorem R.vs_set {s : R.Sl} {V : M.V} {a : Nat} {v : Int} (h : a / 256 < V.n) : [A.vec .u8 s.a0 s.c0 ((R.flat V.d V.n).set a v), A.vec .u8 s.a1 s.c1 (R.flat V.i (R.len V)), A.vec .u8 s.a2 s.c2 (R.flat V.cd V.n), A.vec .u8 s.a3 s.c3 (R.flat V.ci (R.len V)), A.vec .i64 s.a4 s.c4 (R.rts V.r V.n)] = R.vs s (V.set a v) := by
  have e : V.set a v = { V with d := M.up V.d (a / 256) (a % 256) v, i := if V.coh then M.up V.i (a / 256) (a % 256) v else V.i } := by unfold M.V.set; rw [if_pos h]
  rw [e, R.flat_set v (by omega)]
  unfold R.vs
  congr 2
  show A.vec .u8 s.a1 s.c1 (R.flat V.i (R.len V)) = A.vec .u8 s.a1 s.c1 (R.flat (if V.coh then M.up V.i (a / 256) (a % 256) v else V.i) (R.len V))
  cases hc : V.coh with
  | true =>
    have : R.len V = 0 := by unfold R.len; rw [hc]; rfl
    rw [this]; rfl
  | false => rfl
/-- The reference memory at the block r that shows V. -/
def R.It (r : Nat) (V : M.V) : A.It where
  t w o a := R.Wf V ∧ ∃ s, A.Has (R.its r s V) w o a
  sub := fun ⟨_, s, h⟩ => h.sub
  lt := fun ⟨_, s, h⟩ => h.lt
  keep := fun ⟨hw, s, h⟩ hk => ⟨hw, s, h.keep hk⟩
  apart := fun {w w2 o a o2 a2 x} ⟨_, s, h⟩ ⟨_, s2, h2⟩ hw hz hx => by
    obtain ⟨p1, q1, p2, q2, ⟨hb, hf, hlt, ho, ha, _⟩, hv, _, _, _, hax⟩ := h
    obtain ⟨p3, q3, p4, q4, ⟨hb2, hf2, hlt2, ho2, ha2, _⟩, hv2, _, _, _, hax2⟩ := h2
    by_cases e : x = r
    · subst e
      have := hb2 0 _ rfl
      rw [hz] at this; cases this
    · have hc : ∀ i, w2.cell? ⟨r, i, none⟩ = w.cell? ⟨r, i, none⟩ := fun i => by rw [World.cell?, World.cell?, hw _ (Ne.symm e)]
      have k : ∀ (i : Nat) (u v : Value), (R.cells s V)[i]? = some u → (R.cells s2 V)[i]? = some v → u = v := fun i u v hu hv => by
        have h1 := hb i u hu
        have h2 := hb2 i v hv
        rw [hc, h1] at h2; exact Option.some.inj h2
      have k0 := k 0 _ _ rfl rfl
      have k1 := k 1 _ _ rfl rfl
      have k2 := k 2 _ _ rfl rfl
      have k3 := k 3 _ _ rfl rfl
      have k4 := k 4 _ _ rfl rfl
      simp only [Value.slice.injEq] at k0 k1 k2 k3 k4
      have hs : s2 = s := by
        obtain ⟨b0, b1, b2, b3, b4, d0, d1, d2, d3, d4⟩ := s
        obtain ⟨e0, e1, e2, e3, e4, f0, f1, f2, f3, f4⟩ := s2
        simp only at k0 k1 k2 k3 k4
        obtain ⟨rfl, _, rfl⟩ := k0
        obtain ⟨rfl, _, rfl⟩ := k1
        obtain ⟨rfl, _, rfl⟩ := k2
        obtain ⟨rfl, _, rfl⟩ := k3
        obtain ⟨rfl, _, rfl⟩ := k4
        rfl
      subst hs
      rcases (hax x).1 hx with hx | hx
      · exact e ((ha x).1 hx)
      · exact hv.apart hv2 hw hz hx
theorem R.rd {P : Program} {f : FuncId} {args : Array Value} {r : Nat} {V : M.V} {v : Value} (h : R.Wf V → ∀ s, A.Rd P f args (R.its r s V) v) : A.Rd P f args [R.It r V] v := by
  intro w o a hh
  obtain ⟨o1, a1, ⟨hw, s, hs⟩, _⟩ := A.Has.one' hh
  exact h hw s w o1 a1 hs
theorem R.wr {P : Program} {f : FuncId} {args : Array Value} {r : Nat} {V V' : M.V} {v : Value} (h : R.Wf V → ∀ s, A.Tr P f args (R.its r s V) (I := Unit) (fun _ => True) (fun _ => v) (fun _ => R.its r s V')) (hw' : R.Wf V → R.Wf V') : A.Tr P f args [R.It r V] (I := Unit) (fun _ => True) (fun _ => v) (fun _ => [R.It r V']) := by
  intro w o a hh
  obtain ⟨o1, a1, ⟨hw, s, hs⟩, ho, ha⟩ := A.Has.one' hh
  refine (h hw s w o1 a1 hs).mono fun e w' ⟨_, _, he, o', a', hq, hc, hg⟩ => ⟨(), trivial, he, o', a', A.Has.one ⟨hw' hw, s, hq⟩, hc.mono fun x _ hx => (ho x).1 hx, fun x hx hk => (ho x).1 (hg.1 x hx hk), fun x hx hk => (ha x).1 (hg.2 x hx hk)⟩
end Go.Proofs.Ytdjjjikokfadiaa

/- Items that are read only: a state without an account of what is owned. No condition. -/
namespace Go.Proofs.Ytdjjjikokfadiaa
set_option linter.unusedVariables false
set_option linter.unusedSimpArgs false
open Go.RowKit
def A.Y (l : List A.It) (w : World) : Prop := ∃ o a, A.Has l w o a
theorem A.X.y {w0 w : World} {o0 a0 : Nat → Prop} {l : List A.It} (h : A.X w0 o0 a0 l w) : A.Y l w := by
  obtain ⟨_, o, a, h, _⟩ := h; exact ⟨o, a, h⟩
theorem A.startY {w : World} {o a : Nat → Prop} {l : List A.It} (h : A.Has l w o a) : E.Hp (fun _ => False) w (A.Y l) [] w :=
  ⟨Ch.refl _ _, by simp, by simp, by simp, by simp, by simp, fun w' _ hw => ⟨o, a, h.keep fun x hx => hw x (h.lt x hx) (by simp)⟩⟩
theorem A.Y.get {w : World} {its : List A.It} {it : A.It} {k : Nat} (h : A.Y its w) (hk : its[k]? = some it) : ∃ o1 a1, it.t w o1 a1 := by
  obtain ⟨o, a, hh⟩ := h; exact hh.get hk
theorem A.Y.rd {P : Program} {f : FuncId} {args : Array Value} {v : Value} {p its : List A.It} {w : World} (fm : List A.It) (hc : A.Rd P f args p v) (h : A.Y its w) (h1 : its.Perm (p ++ fm)) : Calls P f args w fun e w' => e = .returned v ∧ Bel w w' := by
  obtain ⟨o, a, hh⟩ := h
  exact hc.frame fm w o a (hh.perm h1)
section rules
variable {P : Program} {n : Nat} {ops : Array Oper} {w : World} {its : List A.It} {fr : E.Fr} {d : Option Nat} {T : TypeId} {pos : String} {af : Array Edge} {gd : Option (Nat × Bool)} {x ix : Operand}
theorem A.Y.idx {t e : TypeId} {kd ik : IntKind} {ao : Option Addr} {len cap c2 : Nat} {l : List Int} {i : Nat} {k : Nat} (h : A.Y its w) (hk : its[k]? = some (A.vec kd ao cap l)) (hu : P.underlying t = some (.slice e)) (hs : (P.info? e).map (·.size) = some 1) (hx : E.ev fr x = .slice ao len c2) (hi : E.ev fr ix = .int ik ((i : Nat) : Int)) (h1 : i < len) (h2 : i < l.length) :
    (execOp (E.ev fr) ⟨d, .indexAddr t x ix, T, pos, af, gd⟩).run P w = .ok (.value (.pointer (some ⟨A.bk ao, i, none⟩))) w := by
  obtain ⟨o1, a1, hv⟩ := h.get hk
  have hao := A.vec_ao hv (by have := hv.1; omega)
  have hx2 : E.ev fr x = .slice (some ⟨A.bk ao, 0, none⟩) len c2 := hao ▸ hx
  have := E.idxS (e := e) (d := d) (T := T) (pos := pos) (af := af) (gd := gd) (A.bk ao) 0 len c2 1 ik ((i : Nat) : Int) hu hs hx2 hi (by omega) (by omega) w
  rw [this, Int.toNat_natCast]
  congr 5; omega
theorem A.Y.vld {t : TypeId} {kd : IntKind} {ao : Option Addr} {cap : Nat} {l : List Int} {i : Nat} {k : Nat} (h : A.Y its w) (hk : its[k]? = some (A.vec kd ao cap l)) (hu : P.underlying t = some (.int kd)) (hx : E.ev fr x = .pointer (some ⟨A.bk ao, i, none⟩)) (h2 : i < l.length) :
    (execOp (E.ev fr) ⟨d, .load t x, T, pos, af, gd⟩).run P w = .ok (.value (.int kd (l.getD i 0))) w := by
  obtain ⟨o1, a1, hv⟩ := h.get hk
  exact A.load hx hu rfl (A.vec_at hv h2)
/-- A value is read out of a block that is an item. -/
theorem A.Y.bld {t : TypeId} {g j : Nat} {cs : List Value} {v : Value} {k : Nat} (h : A.Y its w) (hk : its[k]? = some (A.blk g cs)) (hx : E.ev fr x = .pointer (some ⟨g, j, none⟩)) (hv : E.ld P t cs j = some v) :
    (execOp (E.ev fr) ⟨d, .load t x, T, pos, af, gd⟩).run P w = .ok (.value v) w := by
  obtain ⟨o1, a1, hb⟩ := h.get hk
  have := E.ld_run (P := P) (w := w) (t := t) hb.1 hv
  show (do let r ← Instr.loadAt t (E.ev fr x); pure (Next.value r)).run P w = _
  rw [hx]; simp [this]
/-- A part of a slice of bytes, as a string. -/
theorem A.Y.str {a b e : TypeId} {ao : Option Addr} {cap c2 : Nat} {l : List Int} {j len : Nat} {k : Nat} (h : A.Y its w) (hk : its[k]? = some (A.vec .u8 ao cap l)) (hs : P.underlying a = some (.slice e)) (he : P.underlying e = some (.int .u8)) (hb : P.underlying b = some .string)
    (hx : E.ev fr x = .slice (some ⟨A.bk ao, j, none⟩) len c2) (hl : j + len ≤ l.length) :
    (execOp (E.ev fr) ⟨d, .convert a b x, T, pos, af, gd⟩).run P w = .ok (.value (.string (strOfNums ((l.drop j).take len)))) w := by
  obtain ⟨o1, a1, hv⟩ := h.get hk
  show (do let r ← convert a b (E.ev fr x); pure (Next.value r) : Sem Next).run P w = _
  rw [hx]
  have hlen : ((l.drop j).take len).length = len := by rw [List.length_take, List.length_drop]; omega
  have := run_convert_bytes_arg (P := P) w a e hs he (A.bk ao) j len c2 ((l.drop j).take len) hlen (fun i hi => by
    rw [A.vec_at hv (show j + i < l.length by omega)]
    simp [List.getD, hi]) b hb
  simp only [Sem.run_bind, this, Result.andThen_ok]; rfl
/-- A whole slice of bytes, as a string, which may be empty. -/
theorem A.Y.strAll {a b e : TypeId} {ao : Option Addr} {cap c2 : Nat} {l : List Int} {k : Nat} (h : A.Y its w) (hk : its[k]? = some (A.vec .u8 ao cap l)) (hs : P.underlying a = some (.slice e)) (he : P.underlying e = some (.int .u8)) (hb : P.underlying b = some .string)
    (hx : E.ev fr x = .slice ao l.length c2) (hl : 0 < l.length) :
    (execOp (E.ev fr) ⟨d, .convert a b x, T, pos, af, gd⟩).run P w = .ok (.value (.string (strOfNums l))) w := by
  obtain ⟨o1, a1, hv⟩ := h.get hk
  have hao := A.vec_ao hv (by have := hv.1; omega)
  have := A.Y.str (P := P) (d := d) (T := T) (pos := pos) (af := af) (gd := gd) (j := 0) (len := l.length) (c2 := c2) h hk hs he hb (hao ▸ hx) (by omega)
  simpa using this
end rules
theorem E.C.know {P : Program} {n : Nat} {Q : Exit → Act → World → Prop} {S : Nat → Prop} {w0 : World} {X : World → Prop} {L : List (Nat × List Value)} {fr : E.Fr} {c : Code} {p : Prop} (h : ∀ w, E.Hp S w0 X L w → p) (k : p → E.C P n Q c fr S w0 X L) : E.C P n Q c fr S w0 X L := fun a w h1 h2 => k (h w h2) a w h1 h2
theorem E.G.know {P : Program} {n : Nat} {ops : Array Oper} {Q : Exit → Act → World → Prop} {S : Nat → Prop} {w0 : World} {X : World → Prop} {L : List (Nat × List Value)} {fr : E.Fr} {l : List Oper} {p : Prop} (h : ∀ w, E.Hp S w0 X L w → p) (k : p → E.G P n ops Q l fr S w0 X L) : E.G P n ops Q l fr S w0 X L := fun a w h1 h2 => k (h w h2) a w h1 h2
theorem A.Y.ao {w : World} {its : List A.It} {kd : IntKind} {ao : Option Addr} {cap : Nat} {l : List Int} {k : Nat} (h : A.Y its w) (hk : its[k]? = some (A.vec kd ao cap l)) (hl : 0 < l.length) : ao = some ⟨A.bk ao, 0, none⟩ := by
  obtain ⟨o1, a1, hv⟩ := h.get hk
  exact A.vec_ao hv (by have := hv.1; omega)
theorem A.Y.part {w : World} {its p r : List A.It} (h : A.Y its w) (h1 : its.Perm (p ++ r)) : A.Y p w := by
  obtain ⟨o, a, hh⟩ := h
  obtain ⟨o1, a1, o2, a2, k1, _⟩ := (hh.perm h1).append
  exact ⟨o1, a1, k1⟩
theorem A.idxP {P : Program} {fr : E.Fr} {d : Option Nat} {T : TypeId} {pos : String} {af : Array Edge} {gd : Option (Nat × Bool)} {x ix : Operand} {t e : TypeId} {ik : IntKind} {ao : Option Addr} {len c2 : Nat} {i : Nat} (hao : ao = some ⟨A.bk ao, 0, none⟩) (hu : P.underlying t = some (.slice e)) (hs : (P.info? e).map (·.size) = some 1) (hx : E.ev fr x = .slice ao len c2) (hi : E.ev fr ix = .int ik ((i : Nat) : Int)) (h1 : i < len) (w : World) :
    (execOp (E.ev fr) ⟨d, .indexAddr t x ix, T, pos, af, gd⟩).run P w = .ok (.value (.pointer (some ⟨A.bk ao, i, none⟩))) w := by
  have hx2 : E.ev fr x = .slice (some ⟨A.bk ao, 0, none⟩) len c2 := hao ▸ hx
  have := E.idxS (e := e) (d := d) (T := T) (pos := pos) (af := af) (gd := gd) (A.bk ao) 0 len c2 1 ik ((i : Nat) : Int) hu hs hx2 hi (by omega) (by omega) w
  rw [this, Int.toNat_natCast]
  congr 5; omega
/-! Integers in their plain spelling. -/
theorem Nz.add64 {x y : Nat} (h : x + y < 9223372036854775808) : IntKind.wrap .i64 (((x : Nat) : Int) + ((y : Nat) : Int)) = ((x + y : Nat) : Int) := by
  rw [IntKind.wrap_i64]; omega
theorem Nz.mul64 {x y : Nat} (h : x * y < 9223372036854775808) : IntKind.wrap .i64 (((x : Nat) : Int) * ((y : Nat) : Int)) = ((x * y : Nat) : Int) := by
  rw [← Int.natCast_mul, IntKind.wrap_i64]; omega
theorem Nz.sub64 {x y : Nat} (h : y ≤ x) (h2 : x < 9223372036854775808) : IntKind.wrap .i64 (((x : Nat) : Int) - ((y : Nat) : Int)) = ((x - y : Nat) : Int) := by
  rw [IntKind.wrap_i64]; omega
theorem Nz.add32 (x y : Nat) : IntKind.wrap .u32 (((x : Nat) : Int) + ((y : Nat) : Int)) = (((x + y) % 4294967296 : Nat) : Int) := by
  show ((x : Int) + y) % 4294967296 = _
  omega
theorem Nz.mul32 (x y : Nat) : IntKind.wrap .u32 (((x : Nat) : Int) * ((y : Nat) : Int)) = (((x * y) % 4294967296 : Nat) : Int) := by
  rw [← Int.natCast_mul]
  show ((x * y : Nat) : Int) % 4294967296 = _
  omega
theorem Nz.quo32 {x : Nat} (y : Nat) (h : x < 4294967296) : IntKind.wrap .u32 (Int.tdiv ((x : Nat) : Int) ((y : Nat) : Int)) = ((x / y : Nat) : Int) := by
  rw [Int.tdiv_eq_ediv_of_nonneg (by omega), ← Int.natCast_ediv]
  show ((x / y : Nat) : Int) % 4294967296 = _
  have : x / y ≤ x := Nat.div_le_self _ _
  generalize x / y = q at this ⊢
  omega
theorem Nz.quo64 {x : Nat} (y : Nat) (h : x < 9223372036854775808) : IntKind.wrap .i64 (Int.tdiv ((x : Nat) : Int) ((y : Nat) : Int)) = ((x / y : Nat) : Int) := by
  rw [Int.tdiv_eq_ediv_of_nonneg (by omega), ← Int.natCast_ediv, IntKind.wrap_i64]
  have : x / y ≤ x := Nat.div_le_self _ _
  generalize x / y = q at this ⊢
  omega
theorem Nz.rem (x y : Nat) : Int.tmod ((x : Nat) : Int) ((y : Nat) : Int) = ((x % y : Nat) : Int) := by
  rw [Int.tmod_eq_emod_of_nonneg (by omega)]; rfl
theorem Nz.w64 {x : Nat} (h : x < 9223372036854775808) : IntKind.wrap .i64 ((x : Nat) : Int) = ((x : Nat) : Int) := by rw [IntKind.wrap_i64]; omega
theorem Nz.w32 {x : Nat} (h : x < 4294967296) : IntKind.wrap .u32 ((x : Nat) : Int) = ((x : Nat) : Int) := by
  show (x : Int) % 4294967296 = _
  omega
theorem Nz.w8 (x : Nat) : IntKind.wrap .u8 ((x : Nat) : Int) = ((x % 256 : Nat) : Int) := by
  show (x : Int) % 256 = _
  omega
end Go.Proofs.Ytdjjjikokfadiaa

/- Walks: the reference memory, first readers, printed by wip/eng. No condition but what is named. -/
namespace Go.Proofs.Ytdjjjikokfadiaa
set_option linter.unusedVariables false
set_option linter.unusedSimpArgs false
open Go.RowKit
theorem Nz.lt (x y : Nat) : decide (((x : Nat) : Int) < ((y : Nat) : Int)) = decide (x < y) := decide_eq_decide.2 (by omega)
theorem R.in_iff (V : M.V) (a : Nat) : decide (a < 256 * V.n) = decide (a / 256 < V.n) := decide_eq_decide.2 (by omega)
theorem R.right1 (x : Int) (h : 0 ≤ x ∧ x < 8) : (Int.tmod (IntKind.wrap .i64 (Int.tdiv x 1)) 2 == 1) = !(bits .and .i64 x 1 == 0) := by
  have : x = 0 ∨ x = 1 ∨ x = 2 ∨ x = 3 ∨ x = 4 ∨ x = 5 ∨ x = 6 ∨ x = 7 := by omega
  rcases this with rfl | rfl | rfl | rfl | rfl | rfl | rfl | rfl <;> rfl
theorem R.right2 (x : Int) (h : 0 ≤ x ∧ x < 8) : (Int.tmod (IntKind.wrap .i64 (Int.tdiv x 2)) 2 == 1) = !(bits .and .i64 x 2 == 0) := by
  have : x = 0 ∨ x = 1 ∨ x = 2 ∨ x = 3 ∨ x = 4 ∨ x = 5 ∨ x = 6 ∨ x = 7 := by omega
  rcases this with rfl | rfl | rfl | rfl | rfl | rfl | rfl | rfl <;> rfl
theorem R.right4 (x : Int) (h : 0 ≤ x ∧ x < 8) : (Int.tmod (IntKind.wrap .i64 (Int.tdiv x 4)) 2 == 1) = !(bits .and .i64 x 4 == 0) := by
  have : x = 0 ∨ x = 1 ∨ x = 2 ∨ x = 3 ∨ x = 4 ∨ x = 5 ∨ x = 6 ∨ x = 7 := by omega
  rcases this with rfl | rfl | rfl | rfl | rfl | rfl | rfl | rfl <;> rfl
theorem R.ok_eq {V : M.V} (hw : R.Wf V) (a : Nat) {r : Int} (hr : ∀ x, 0 ≤ x ∧ x < 8 → (Int.tmod (IntKind.wrap .i64 (Int.tdiv x r)) 2 == 1) = !(bits .and .i64 x r == 0)) : ((decide (a / 256 < V.n)) && (Int.tmod (IntKind.wrap .i64 (Int.tdiv (V.r (a / 256)) r)) 2 == 1)) = V.ok a r := by
  unfold M.V.ok
  by_cases e : a / 256 < V.n
  · rw [hr _ (hw.r _ e)]
  · rw [decide_eq_false e, Bool.false_and, Bool.false_and]
theorem R_Pages {r : Nat} {s : R.Sl} {V : M.V}  : A.Rd Try.prog 45 #[.pointer (some ⟨r, 0, none⟩)] (R.its r s V) (.int .i64 ((V.n : Nat) : Int)) := by
  intro w oo aa hh
  refine E.enter (n := 8) (S := fun _ => False) Try.func45 rfl rfl (by kernel_rfl) (A.startY hh) ?_
  refine E.C.seq ?_
  refine E.C.region ?_
  refine E.G.op (.int .i64 0) (fun w => by kernel_rfl) (by kernel_rfl) ?_
  refine E.To.code ?_
  refine E.C.seq ?_
  refine E.C.region ?_
  refine E.G.op (.pointer (some ⟨r, 0, none⟩)) (fun w => by kernel_rfl) (by kernel_rfl) ?_
  refine E.G.op (.pointer (some ⟨r, 0, none⟩)) (fun w => by kernel_rfl) (by kernel_rfl) ?_
  refine E.G.op (.pointer (some ⟨r, 4, none⟩)) (fun w => by kernel_rfl) (by kernel_rfl) ?_
  refine E.G.val (.slice s.a4 V.n s.c4) (by kernel_rfl) (fun w h => A.Y.bld h.x (k := 0) (j := 4) rfl (by kernel_rfl) (by kernel_rfl)) ?_
  refine E.G.op (.int .i64 ((V.n : Nat) : Int)) (fun w => by kernel_rfl) (by kernel_rfl) ?_
  refine E.G.op (.int .i64 ((V.n : Nat) : Int)) (fun w => by kernel_rfl) (by kernel_rfl) ?_
  refine E.To.code ?_
  refine E.C.ret (E.To.body (fn := Try.f45) [.int .i64 ((V.n : Nat) : Int)] ?_ ?_)
  · exact ⟨⟨by kernel_rfl, by kernel_rfl⟩, trivial⟩
  · intro w h
    exact ⟨rfl, h.ch.bel (fun _ h => h.elim)⟩
theorem R_In {r : Nat} {s : R.Sl} {V : M.V} (a : Nat) (ha : a < 4294967296) : A.Rd Try.prog 62 #[.pointer (some ⟨r, 0, none⟩), .int .u32 ((a : Nat) : Int)] (R.its r s V) (.bool (decide (a / 256 < V.n))) := by
  intro w oo aa hh
  refine E.enter (n := 13) (S := fun _ => False) Try.func62 rfl rfl (by kernel_rfl) (A.startY hh) ?_
  refine E.C.seq ?_
  refine E.C.region ?_
  refine E.G.op (.bool false) (fun w => by kernel_rfl) (by kernel_rfl) ?_
  refine E.To.code ?_
  refine E.C.seq ?_
  refine E.C.region ?_
  refine E.G.op (.int .u32 ((a : Nat) : Int)) (fun w => by kernel_rfl) (by kernel_rfl) ?_
  refine E.G.val (.int .i64 ((a : Nat) : Int)) (by kernel_rfl) (fun w h => E.run_as (a := .int .i64 (IntKind.wrap .i64 ((a : Nat) : Int))) (by kernel_rfl) (congrArg (Value.int .i64) (by exact Nz.w64 (x := a) (by (first | assumption | ((try simp only [Bool.or_eq_false_iff, Bool.or_eq_true, Bool.and_eq_true, Bool.and_eq_false_iff, decide_eq_true_eq, decide_eq_false_iff_not, ge_iff_le, gt_iff_lt] at *); omega)))))) ?_
  refine E.G.op (.pointer (some ⟨r, 0, none⟩)) (fun w => by kernel_rfl) (by kernel_rfl) ?_
  refine E.G.op (.pointer (some ⟨r, 0, none⟩)) (fun w => by kernel_rfl) (by kernel_rfl) ?_
  refine E.G.op (.pointer (some ⟨r, 0, none⟩)) (fun w => by kernel_rfl) (by kernel_rfl) ?_
  refine E.G.val (.slice s.a0 (256 * V.n) s.c0) (by kernel_rfl) (fun w h => A.Y.bld h.x (k := 0) (j := 0) rfl (by kernel_rfl) (by kernel_rfl)) ?_
  refine E.G.op (.int .i64 (((256 * V.n) : Nat) : Int)) (fun w => by kernel_rfl) (by kernel_rfl) ?_
  refine E.G.val (.bool (decide (a / 256 < V.n))) (by kernel_rfl) (fun w h => E.run_as (a := .bool (decide (((a : Nat) : Int) < (((256 * V.n) : Nat) : Int)))) (by kernel_rfl) (congrArg Value.bool ((Nz.lt _ _).trans (R.in_iff V a)))) ?_
  refine E.G.op (.bool (decide (a / 256 < V.n))) (fun w => by kernel_rfl) (by kernel_rfl) ?_
  refine E.To.code ?_
  refine E.C.weak [(4, .bool (decide (a / 256 < V.n)))] [] ⟨by kernel_rfl, by kernel_rfl⟩ (List.Sublist.refl _) ?_
  refine E.C.ret (E.To.body (fn := Try.f62) [.bool (decide (a / 256 < V.n))] ?_ ?_)
  · exact ⟨⟨by kernel_rfl, by kernel_rfl⟩, trivial⟩
  · intro w h
    exact ⟨rfl, h.ch.bel (fun _ h => h.elim)⟩
theorem R_right1 {r : Nat} {s : R.Sl} {V : M.V} (hw : R.Wf V) (a : Nat) (ha : a < 4294967296) : A.Rd Try.prog 64 #[.pointer (some ⟨r, 0, none⟩), .int .u32 ((a : Nat) : Int), .int .i64 1] (R.its r s V) (.bool (V.ok a 1)) := by
  intro w oo aa hh
  refine E.enter (n := 26) (S := fun _ => False) Try.func64 rfl rfl (by kernel_rfl) (A.startY hh) ?_
  refine E.C.seq ?_
  refine E.C.region ?_
  refine E.G.op (.bool false) (fun w => by kernel_rfl) (by kernel_rfl) ?_
  refine E.To.code ?_
  refine E.C.seq ?_
  refine E.C.region ?_
  refine E.G.op (.pointer (some ⟨r, 0, none⟩)) (fun w => by kernel_rfl) (by kernel_rfl) ?_
  refine E.G.op (.int .u32 ((a : Nat) : Int)) (fun w => by kernel_rfl) (by kernel_rfl) ?_
  refine E.G.call (.bool (decide (a / 256 < V.n))) (fun w h => A.Y.rd [] (R_In a (by (first | assumption | ((try simp only [Bool.or_eq_false_iff, Bool.or_eq_true, Bool.and_eq_true, Bool.and_eq_false_iff, decide_eq_true_eq, decide_eq_false_iff_not, ge_iff_le, gt_iff_lt] at *); omega))) (r := r) (s := s) (V := V)) h.x (A.pm [0, 1, 2, 3, 4, 5] (by kernel_rfl) (by kernel_rfl))) (fun w _ => by kernel_rfl) (by kernel_rfl) ?_
  refine E.G.op (.bool (decide (a / 256 < V.n))) (fun w => by kernel_rfl) (by kernel_rfl) ?_
  refine E.To.code ?_
  refine E.C.seq ?_
  refine E.C.region ?_
  refine E.G.op (.bool (decide (a / 256 < V.n))) (fun w => by kernel_rfl) (by kernel_rfl) ?_
  refine E.G.op (.bool (decide (a / 256 < V.n))) (fun w => by kernel_rfl) (by kernel_rfl) ?_
  refine E.G.cut 13 [(6, .bool false), (25, .bool ((decide (a / 256 < V.n)) && ((Int.tmod (IntKind.wrap .i64 (Int.tdiv (V.r (a / 256)) 1)) 2) == 1)))] (A.Y [A.blk r [.slice s.a0 (256 * V.n) s.c0, .slice s.a1 (256 * R.len V) s.c1, .slice s.a2 (256 * V.n) s.c2, .slice s.a3 (256 * R.len V) s.c3, .slice s.a4 V.n s.c4, .bool V.coh], A.vec .u8 s.a0 s.c0 (R.flat V.d V.n), A.vec .u8 s.a1 s.c1 (R.flat V.i (R.len V)), A.vec .u8 s.a2 s.c2 (R.flat V.cd V.n), A.vec .u8 s.a3 s.c3 (R.flat V.ci (R.len V)), A.vec .i64 s.a4 s.c4 (R.rts V.r V.n)]) [] ?_ ?_
  · generalize hc1 : (decide (a / 256 < V.n)) = b2
    cases b2
    · skip
      refine E.G.skip (by kernel_rfl) (by kernel_rfl) ?_
      refine E.G.skip (by kernel_rfl) (by kernel_rfl) ?_
      refine E.G.skip (by kernel_rfl) (by kernel_rfl) ?_
      refine E.G.skip (by kernel_rfl) (by kernel_rfl) ?_
      refine E.G.skip (by kernel_rfl) (by kernel_rfl) ?_
      refine E.G.skip (by kernel_rfl) (by kernel_rfl) ?_
      refine E.G.skip (by kernel_rfl) (by kernel_rfl) ?_
      refine E.G.skip (by kernel_rfl) (by kernel_rfl) ?_
      refine E.G.skip (by kernel_rfl) (by kernel_rfl) ?_
      refine E.G.skip (by kernel_rfl) (by kernel_rfl) ?_
      refine E.G.skip (by kernel_rfl) (by kernel_rfl) ?_
      refine E.G.skip (by kernel_rfl) (by kernel_rfl) ?_
      refine E.G.op (.bool false) (fun w => by kernel_rfl) (by kernel_rfl) ?_
      exact E.G.end_pst ⟨by kernel_rfl, by kernel_rfl⟩ (List.Sublist.refl _) (fun _ h => h)
    · skip
      refine E.G.op (.pointer (some ⟨r, 0, none⟩)) (fun w => by kernel_rfl) (by kernel_rfl) ?_
      refine E.G.op (.pointer (some ⟨r, 0, none⟩)) (fun w => by kernel_rfl) (by kernel_rfl) ?_
      refine E.G.op (.pointer (some ⟨r, 4, none⟩)) (fun w => by kernel_rfl) (by kernel_rfl) ?_
      refine E.G.val (.slice s.a4 V.n s.c4) (by kernel_rfl) (fun w h => A.Y.bld h.x (k := 0) (j := 4) rfl (by kernel_rfl) (by kernel_rfl)) ?_
      refine E.G.op (.int .u32 ((a : Nat) : Int)) (fun w => by kernel_rfl) (by kernel_rfl) ?_
      refine E.G.val (.int .u32 ((a / 256 : Nat) : Int)) (by kernel_rfl) (fun w h => E.run_as (a := .int .u32 (IntKind.wrap .u32 (Int.tdiv ((a : Nat) : Int) 256))) (by kernel_rfl) (congrArg (Value.int .u32) (by exact Nz.quo32 (x := a) 256 (by (first | assumption | ((try simp only [Bool.or_eq_false_iff, Bool.or_eq_true, Bool.and_eq_true, Bool.and_eq_false_iff, decide_eq_true_eq, decide_eq_false_iff_not, ge_iff_le, gt_iff_lt] at *); omega)))))) ?_
      refine E.G.val (.pointer (some ⟨(A.bk s.a4), (a / 256), none⟩)) (by kernel_rfl) (fun w h => A.Y.idx (e := 3) (ik := .u32) (i := (a / 256)) (len := V.n) (c2 := s.c4) h.x (k := 5) rfl (by kernel_rfl) (by kernel_rfl) (by kernel_rfl) (by kernel_rfl) (by (first | assumption | ((try simp only [Bool.or_eq_false_iff, Bool.or_eq_true, Bool.and_eq_true, Bool.and_eq_false_iff, decide_eq_true_eq, decide_eq_false_iff_not, ge_iff_le, gt_iff_lt] at *); omega))) (by simp only [R.rts_len]; (first | assumption | ((try simp only [Bool.or_eq_false_iff, Bool.or_eq_true, Bool.and_eq_true, Bool.and_eq_false_iff, decide_eq_true_eq, decide_eq_false_iff_not, ge_iff_le, gt_iff_lt] at *); omega)))) ?_
      refine E.G.val (.int .i64 (V.r (a / 256))) (by kernel_rfl) (fun w h => E.run_as (a := .int .i64 ((R.rts V.r V.n).getD (a / 256) 0)) (A.Y.vld h.x (k := 5) (i := (a / 256)) rfl (by kernel_rfl) (by kernel_rfl) (by simp only [R.rts_len]; (first | assumption | ((try simp only [Bool.or_eq_false_iff, Bool.or_eq_true, Bool.and_eq_true, Bool.and_eq_false_iff, decide_eq_true_eq, decide_eq_false_iff_not, ge_iff_le, gt_iff_lt] at *); omega)))) (congrArg (Value.int .i64) (R.rts_get (by (first | assumption | ((try simp only [Bool.or_eq_false_iff, Bool.or_eq_true, Bool.and_eq_true, Bool.and_eq_false_iff, decide_eq_true_eq, decide_eq_false_iff_not, ge_iff_le, gt_iff_lt] at *); omega)))))) ?_
      refine E.G.op (.int .i64 1) (fun w => by kernel_rfl) (by kernel_rfl) ?_
      refine E.G.op (.int .i64 (IntKind.wrap .i64 (Int.tdiv (V.r (a / 256)) 1))) (fun w => by kernel_rfl) (by kernel_rfl) ?_
      refine E.G.op (.int .i64 (Int.tmod (IntKind.wrap .i64 (Int.tdiv (V.r (a / 256)) 1)) 2)) (fun w => by kernel_rfl) (by kernel_rfl) ?_
      refine E.G.op (.bool ((Int.tmod (IntKind.wrap .i64 (Int.tdiv (V.r (a / 256)) 1)) 2) == 1)) (fun w => by kernel_rfl) (by kernel_rfl) ?_
      refine E.G.op (.bool ((Int.tmod (IntKind.wrap .i64 (Int.tdiv (V.r (a / 256)) 1)) 2) == 1)) (fun w => by kernel_rfl) (by kernel_rfl) ?_
      exact E.G.end_pst ⟨by kernel_rfl, by kernel_rfl⟩ (List.Sublist.refl _) (fun _ h => h)
  refine E.G.op (.bool ((decide (a / 256 < V.n)) && ((Int.tmod (IntKind.wrap .i64 (Int.tdiv (V.r (a / 256)) 1)) 2) == 1))) (fun w => by kernel_rfl) (by kernel_rfl) ?_
  refine E.To.code ?_
  refine E.C.ret (E.To.body (fn := Try.f64) [.bool ((decide (a / 256 < V.n)) && ((Int.tmod (IntKind.wrap .i64 (Int.tdiv (V.r (a / 256)) 1)) 2) == 1))] ?_ ?_)
  · exact ⟨⟨by kernel_rfl, by kernel_rfl⟩, trivial⟩
  · intro w h
    exact ⟨by show Ending.returned (.bool ((decide (a / 256 < V.n)) && ((Int.tmod (IntKind.wrap .i64 (Int.tdiv (V.r (a / 256)) 1)) 2) == 1))) = _; rw [R.ok_eq hw a R.right1], h.ch.bel (fun _ h => h.elim)⟩
theorem R_right2 {r : Nat} {s : R.Sl} {V : M.V} (hw : R.Wf V) (a : Nat) (ha : a < 4294967296) : A.Rd Try.prog 64 #[.pointer (some ⟨r, 0, none⟩), .int .u32 ((a : Nat) : Int), .int .i64 2] (R.its r s V) (.bool (V.ok a 2)) := by
  intro w oo aa hh
  refine E.enter (n := 26) (S := fun _ => False) Try.func64 rfl rfl (by kernel_rfl) (A.startY hh) ?_
  refine E.C.seq ?_
  refine E.C.region ?_
  refine E.G.op (.bool false) (fun w => by kernel_rfl) (by kernel_rfl) ?_
  refine E.To.code ?_
  refine E.C.seq ?_
  refine E.C.region ?_
  refine E.G.op (.pointer (some ⟨r, 0, none⟩)) (fun w => by kernel_rfl) (by kernel_rfl) ?_
  refine E.G.op (.int .u32 ((a : Nat) : Int)) (fun w => by kernel_rfl) (by kernel_rfl) ?_
  refine E.G.call (.bool (decide (a / 256 < V.n))) (fun w h => A.Y.rd [] (R_In a (by (first | assumption | ((try simp only [Bool.or_eq_false_iff, Bool.or_eq_true, Bool.and_eq_true, Bool.and_eq_false_iff, decide_eq_true_eq, decide_eq_false_iff_not, ge_iff_le, gt_iff_lt] at *); omega))) (r := r) (s := s) (V := V)) h.x (A.pm [0, 1, 2, 3, 4, 5] (by kernel_rfl) (by kernel_rfl))) (fun w _ => by kernel_rfl) (by kernel_rfl) ?_
  refine E.G.op (.bool (decide (a / 256 < V.n))) (fun w => by kernel_rfl) (by kernel_rfl) ?_
  refine E.To.code ?_
  refine E.C.seq ?_
  refine E.C.region ?_
  refine E.G.op (.bool (decide (a / 256 < V.n))) (fun w => by kernel_rfl) (by kernel_rfl) ?_
  refine E.G.op (.bool (decide (a / 256 < V.n))) (fun w => by kernel_rfl) (by kernel_rfl) ?_
  refine E.G.cut 13 [(6, .bool false), (25, .bool ((decide (a / 256 < V.n)) && ((Int.tmod (IntKind.wrap .i64 (Int.tdiv (V.r (a / 256)) 2)) 2) == 1)))] (A.Y [A.blk r [.slice s.a0 (256 * V.n) s.c0, .slice s.a1 (256 * R.len V) s.c1, .slice s.a2 (256 * V.n) s.c2, .slice s.a3 (256 * R.len V) s.c3, .slice s.a4 V.n s.c4, .bool V.coh], A.vec .u8 s.a0 s.c0 (R.flat V.d V.n), A.vec .u8 s.a1 s.c1 (R.flat V.i (R.len V)), A.vec .u8 s.a2 s.c2 (R.flat V.cd V.n), A.vec .u8 s.a3 s.c3 (R.flat V.ci (R.len V)), A.vec .i64 s.a4 s.c4 (R.rts V.r V.n)]) [] ?_ ?_
  · generalize hc1 : (decide (a / 256 < V.n)) = b2
    cases b2
    · skip
      refine E.G.skip (by kernel_rfl) (by kernel_rfl) ?_
      refine E.G.skip (by kernel_rfl) (by kernel_rfl) ?_
      refine E.G.skip (by kernel_rfl) (by kernel_rfl) ?_
      refine E.G.skip (by kernel_rfl) (by kernel_rfl) ?_
      refine E.G.skip (by kernel_rfl) (by kernel_rfl) ?_
      refine E.G.skip (by kernel_rfl) (by kernel_rfl) ?_
      refine E.G.skip (by kernel_rfl) (by kernel_rfl) ?_
      refine E.G.skip (by kernel_rfl) (by kernel_rfl) ?_
      refine E.G.skip (by kernel_rfl) (by kernel_rfl) ?_
      refine E.G.skip (by kernel_rfl) (by kernel_rfl) ?_
      refine E.G.skip (by kernel_rfl) (by kernel_rfl) ?_
      refine E.G.skip (by kernel_rfl) (by kernel_rfl) ?_
      refine E.G.op (.bool false) (fun w => by kernel_rfl) (by kernel_rfl) ?_
      exact E.G.end_pst ⟨by kernel_rfl, by kernel_rfl⟩ (List.Sublist.refl _) (fun _ h => h)
    · skip
      refine E.G.op (.pointer (some ⟨r, 0, none⟩)) (fun w => by kernel_rfl) (by kernel_rfl) ?_
      refine E.G.op (.pointer (some ⟨r, 0, none⟩)) (fun w => by kernel_rfl) (by kernel_rfl) ?_
      refine E.G.op (.pointer (some ⟨r, 4, none⟩)) (fun w => by kernel_rfl) (by kernel_rfl) ?_
      refine E.G.val (.slice s.a4 V.n s.c4) (by kernel_rfl) (fun w h => A.Y.bld h.x (k := 0) (j := 4) rfl (by kernel_rfl) (by kernel_rfl)) ?_
      refine E.G.op (.int .u32 ((a : Nat) : Int)) (fun w => by kernel_rfl) (by kernel_rfl) ?_
      refine E.G.val (.int .u32 ((a / 256 : Nat) : Int)) (by kernel_rfl) (fun w h => E.run_as (a := .int .u32 (IntKind.wrap .u32 (Int.tdiv ((a : Nat) : Int) 256))) (by kernel_rfl) (congrArg (Value.int .u32) (by exact Nz.quo32 (x := a) 256 (by (first | assumption | ((try simp only [Bool.or_eq_false_iff, Bool.or_eq_true, Bool.and_eq_true, Bool.and_eq_false_iff, decide_eq_true_eq, decide_eq_false_iff_not, ge_iff_le, gt_iff_lt] at *); omega)))))) ?_
      refine E.G.val (.pointer (some ⟨(A.bk s.a4), (a / 256), none⟩)) (by kernel_rfl) (fun w h => A.Y.idx (e := 3) (ik := .u32) (i := (a / 256)) (len := V.n) (c2 := s.c4) h.x (k := 5) rfl (by kernel_rfl) (by kernel_rfl) (by kernel_rfl) (by kernel_rfl) (by (first | assumption | ((try simp only [Bool.or_eq_false_iff, Bool.or_eq_true, Bool.and_eq_true, Bool.and_eq_false_iff, decide_eq_true_eq, decide_eq_false_iff_not, ge_iff_le, gt_iff_lt] at *); omega))) (by simp only [R.rts_len]; (first | assumption | ((try simp only [Bool.or_eq_false_iff, Bool.or_eq_true, Bool.and_eq_true, Bool.and_eq_false_iff, decide_eq_true_eq, decide_eq_false_iff_not, ge_iff_le, gt_iff_lt] at *); omega)))) ?_
      refine E.G.val (.int .i64 (V.r (a / 256))) (by kernel_rfl) (fun w h => E.run_as (a := .int .i64 ((R.rts V.r V.n).getD (a / 256) 0)) (A.Y.vld h.x (k := 5) (i := (a / 256)) rfl (by kernel_rfl) (by kernel_rfl) (by simp only [R.rts_len]; (first | assumption | ((try simp only [Bool.or_eq_false_iff, Bool.or_eq_true, Bool.and_eq_true, Bool.and_eq_false_iff, decide_eq_true_eq, decide_eq_false_iff_not, ge_iff_le, gt_iff_lt] at *); omega)))) (congrArg (Value.int .i64) (R.rts_get (by (first | assumption | ((try simp only [Bool.or_eq_false_iff, Bool.or_eq_true, Bool.and_eq_true, Bool.and_eq_false_iff, decide_eq_true_eq, decide_eq_false_iff_not, ge_iff_le, gt_iff_lt] at *); omega)))))) ?_
      refine E.G.op (.int .i64 2) (fun w => by kernel_rfl) (by kernel_rfl) ?_
      refine E.G.op (.int .i64 (IntKind.wrap .i64 (Int.tdiv (V.r (a / 256)) 2))) (fun w => by kernel_rfl) (by kernel_rfl) ?_
      refine E.G.op (.int .i64 (Int.tmod (IntKind.wrap .i64 (Int.tdiv (V.r (a / 256)) 2)) 2)) (fun w => by kernel_rfl) (by kernel_rfl) ?_
      refine E.G.op (.bool ((Int.tmod (IntKind.wrap .i64 (Int.tdiv (V.r (a / 256)) 2)) 2) == 1)) (fun w => by kernel_rfl) (by kernel_rfl) ?_
      refine E.G.op (.bool ((Int.tmod (IntKind.wrap .i64 (Int.tdiv (V.r (a / 256)) 2)) 2) == 1)) (fun w => by kernel_rfl) (by kernel_rfl) ?_
      exact E.G.end_pst ⟨by kernel_rfl, by kernel_rfl⟩ (List.Sublist.refl _) (fun _ h => h)
  refine E.G.op (.bool ((decide (a / 256 < V.n)) && ((Int.tmod (IntKind.wrap .i64 (Int.tdiv (V.r (a / 256)) 2)) 2) == 1))) (fun w => by kernel_rfl) (by kernel_rfl) ?_
  refine E.To.code ?_
  refine E.C.ret (E.To.body (fn := Try.f64) [.bool ((decide (a / 256 < V.n)) && ((Int.tmod (IntKind.wrap .i64 (Int.tdiv (V.r (a / 256)) 2)) 2) == 1))] ?_ ?_)
  · exact ⟨⟨by kernel_rfl, by kernel_rfl⟩, trivial⟩
  · intro w h
    exact ⟨by show Ending.returned (.bool ((decide (a / 256 < V.n)) && ((Int.tmod (IntKind.wrap .i64 (Int.tdiv (V.r (a / 256)) 2)) 2) == 1))) = _; rw [R.ok_eq hw a R.right2], h.ch.bel (fun _ h => h.elim)⟩
theorem R_right4 {r : Nat} {s : R.Sl} {V : M.V} (hw : R.Wf V) (a : Nat) (ha : a < 4294967296) : A.Rd Try.prog 64 #[.pointer (some ⟨r, 0, none⟩), .int .u32 ((a : Nat) : Int), .int .i64 4] (R.its r s V) (.bool (V.ok a 4)) := by
  intro w oo aa hh
  refine E.enter (n := 26) (S := fun _ => False) Try.func64 rfl rfl (by kernel_rfl) (A.startY hh) ?_
  refine E.C.seq ?_
  refine E.C.region ?_
  refine E.G.op (.bool false) (fun w => by kernel_rfl) (by kernel_rfl) ?_
  refine E.To.code ?_
  refine E.C.seq ?_
  refine E.C.region ?_
  refine E.G.op (.pointer (some ⟨r, 0, none⟩)) (fun w => by kernel_rfl) (by kernel_rfl) ?_
  refine E.G.op (.int .u32 ((a : Nat) : Int)) (fun w => by kernel_rfl) (by kernel_rfl) ?_
  refine E.G.call (.bool (decide (a / 256 < V.n))) (fun w h => A.Y.rd [] (R_In a (by (first | assumption | ((try simp only [Bool.or_eq_false_iff, Bool.or_eq_true, Bool.and_eq_true, Bool.and_eq_false_iff, decide_eq_true_eq, decide_eq_false_iff_not, ge_iff_le, gt_iff_lt] at *); omega))) (r := r) (s := s) (V := V)) h.x (A.pm [0, 1, 2, 3, 4, 5] (by kernel_rfl) (by kernel_rfl))) (fun w _ => by kernel_rfl) (by kernel_rfl) ?_
  refine E.G.op (.bool (decide (a / 256 < V.n))) (fun w => by kernel_rfl) (by kernel_rfl) ?_
  refine E.To.code ?_
  refine E.C.seq ?_
  refine E.C.region ?_
  refine E.G.op (.bool (decide (a / 256 < V.n))) (fun w => by kernel_rfl) (by kernel_rfl) ?_
  refine E.G.op (.bool (decide (a / 256 < V.n))) (fun w => by kernel_rfl) (by kernel_rfl) ?_
  refine E.G.cut 13 [(6, .bool false), (25, .bool ((decide (a / 256 < V.n)) && ((Int.tmod (IntKind.wrap .i64 (Int.tdiv (V.r (a / 256)) 4)) 2) == 1)))] (A.Y [A.blk r [.slice s.a0 (256 * V.n) s.c0, .slice s.a1 (256 * R.len V) s.c1, .slice s.a2 (256 * V.n) s.c2, .slice s.a3 (256 * R.len V) s.c3, .slice s.a4 V.n s.c4, .bool V.coh], A.vec .u8 s.a0 s.c0 (R.flat V.d V.n), A.vec .u8 s.a1 s.c1 (R.flat V.i (R.len V)), A.vec .u8 s.a2 s.c2 (R.flat V.cd V.n), A.vec .u8 s.a3 s.c3 (R.flat V.ci (R.len V)), A.vec .i64 s.a4 s.c4 (R.rts V.r V.n)]) [] ?_ ?_
  · generalize hc1 : (decide (a / 256 < V.n)) = b2
    cases b2
    · skip
      refine E.G.skip (by kernel_rfl) (by kernel_rfl) ?_
      refine E.G.skip (by kernel_rfl) (by kernel_rfl) ?_
      refine E.G.skip (by kernel_rfl) (by kernel_rfl) ?_
      refine E.G.skip (by kernel_rfl) (by kernel_rfl) ?_
      refine E.G.skip (by kernel_rfl) (by kernel_rfl) ?_
      refine E.G.skip (by kernel_rfl) (by kernel_rfl) ?_
      refine E.G.skip (by kernel_rfl) (by kernel_rfl) ?_
      refine E.G.skip (by kernel_rfl) (by kernel_rfl) ?_
      refine E.G.skip (by kernel_rfl) (by kernel_rfl) ?_
      refine E.G.skip (by kernel_rfl) (by kernel_rfl) ?_
      refine E.G.skip (by kernel_rfl) (by kernel_rfl) ?_
      refine E.G.skip (by kernel_rfl) (by kernel_rfl) ?_
      refine E.G.op (.bool false) (fun w => by kernel_rfl) (by kernel_rfl) ?_
      exact E.G.end_pst ⟨by kernel_rfl, by kernel_rfl⟩ (List.Sublist.refl _) (fun _ h => h)
    · skip
      refine E.G.op (.pointer (some ⟨r, 0, none⟩)) (fun w => by kernel_rfl) (by kernel_rfl) ?_
      refine E.G.op (.pointer (some ⟨r, 0, none⟩)) (fun w => by kernel_rfl) (by kernel_rfl) ?_
      refine E.G.op (.pointer (some ⟨r, 4, none⟩)) (fun w => by kernel_rfl) (by kernel_rfl) ?_
      refine E.G.val (.slice s.a4 V.n s.c4) (by kernel_rfl) (fun w h => A.Y.bld h.x (k := 0) (j := 4) rfl (by kernel_rfl) (by kernel_rfl)) ?_
      refine E.G.op (.int .u32 ((a : Nat) : Int)) (fun w => by kernel_rfl) (by kernel_rfl) ?_
      refine E.G.val (.int .u32 ((a / 256 : Nat) : Int)) (by kernel_rfl) (fun w h => E.run_as (a := .int .u32 (IntKind.wrap .u32 (Int.tdiv ((a : Nat) : Int) 256))) (by kernel_rfl) (congrArg (Value.int .u32) (by exact Nz.quo32 (x := a) 256 (by (first | assumption | ((try simp only [Bool.or_eq_false_iff, Bool.or_eq_true, Bool.and_eq_true, Bool.and_eq_false_iff, decide_eq_true_eq, decide_eq_false_iff_not, ge_iff_le, gt_iff_lt] at *); omega)))))) ?_
      refine E.G.val (.pointer (some ⟨(A.bk s.a4), (a / 256), none⟩)) (by kernel_rfl) (fun w h => A.Y.idx (e := 3) (ik := .u32) (i := (a / 256)) (len := V.n) (c2 := s.c4) h.x (k := 5) rfl (by kernel_rfl) (by kernel_rfl) (by kernel_rfl) (by kernel_rfl) (by (first | assumption | ((try simp only [Bool.or_eq_false_iff, Bool.or_eq_true, Bool.and_eq_true, Bool.and_eq_false_iff, decide_eq_true_eq, decide_eq_false_iff_not, ge_iff_le, gt_iff_lt] at *); omega))) (by simp only [R.rts_len]; (first | assumption | ((try simp only [Bool.or_eq_false_iff, Bool.or_eq_true, Bool.and_eq_true, Bool.and_eq_false_iff, decide_eq_true_eq, decide_eq_false_iff_not, ge_iff_le, gt_iff_lt] at *); omega)))) ?_
      refine E.G.val (.int .i64 (V.r (a / 256))) (by kernel_rfl) (fun w h => E.run_as (a := .int .i64 ((R.rts V.r V.n).getD (a / 256) 0)) (A.Y.vld h.x (k := 5) (i := (a / 256)) rfl (by kernel_rfl) (by kernel_rfl) (by simp only [R.rts_len]; (first | assumption | ((try simp only [Bool.or_eq_false_iff, Bool.or_eq_true, Bool.and_eq_true, Bool.and_eq_false_iff, decide_eq_true_eq, decide_eq_false_iff_not, ge_iff_le, gt_iff_lt] at *); omega)))) (congrArg (Value.int .i64) (R.rts_get (by (first | assumption | ((try simp only [Bool.or_eq_false_iff, Bool.or_eq_true, Bool.and_eq_true, Bool.and_eq_false_iff, decide_eq_true_eq, decide_eq_false_iff_not, ge_iff_le, gt_iff_lt] at *); omega)))))) ?_
      refine E.G.op (.int .i64 4) (fun w => by kernel_rfl) (by kernel_rfl) ?_
      refine E.G.op (.int .i64 (IntKind.wrap .i64 (Int.tdiv (V.r (a / 256)) 4))) (fun w => by kernel_rfl) (by kernel_rfl) ?_
      refine E.G.op (.int .i64 (Int.tmod (IntKind.wrap .i64 (Int.tdiv (V.r (a / 256)) 4)) 2)) (fun w => by kernel_rfl) (by kernel_rfl) ?_
      refine E.G.op (.bool ((Int.tmod (IntKind.wrap .i64 (Int.tdiv (V.r (a / 256)) 4)) 2) == 1)) (fun w => by kernel_rfl) (by kernel_rfl) ?_
      refine E.G.op (.bool ((Int.tmod (IntKind.wrap .i64 (Int.tdiv (V.r (a / 256)) 4)) 2) == 1)) (fun w => by kernel_rfl) (by kernel_rfl) ?_
      exact E.G.end_pst ⟨by kernel_rfl, by kernel_rfl⟩ (List.Sublist.refl _) (fun _ h => h)
  refine E.G.op (.bool ((decide (a / 256 < V.n)) && ((Int.tmod (IntKind.wrap .i64 (Int.tdiv (V.r (a / 256)) 4)) 2) == 1))) (fun w => by kernel_rfl) (by kernel_rfl) ?_
  refine E.To.code ?_
  refine E.C.ret (E.To.body (fn := Try.f64) [.bool ((decide (a / 256 < V.n)) && ((Int.tmod (IntKind.wrap .i64 (Int.tdiv (V.r (a / 256)) 4)) 2) == 1))] ?_ ?_)
  · exact ⟨⟨by kernel_rfl, by kernel_rfl⟩, trivial⟩
  · intro w h
    exact ⟨by show Ending.returned (.bool ((decide (a / 256 < V.n)) && ((Int.tmod (IntKind.wrap .i64 (Int.tdiv (V.r (a / 256)) 4)) 2) == 1))) = _; rw [R.ok_eq hw a R.right4], h.ch.bel (fun _ h => h.elim)⟩
end Go.Proofs.Ytdjjjikokfadiaa

/- Walks: the reference memory, check, printed by wip/eng. No condition but what is named. -/
namespace Go.Proofs.Ytdjjjikokfadiaa
set_option linter.unusedVariables false
set_option linter.unusedSimpArgs false
open Go.RowKit
theorem R.chk_in {V : M.V} {a : Nat} {r n : Int} (h : 1 ≤ n ∧ n ≤ 4) : V.chk a r n = V.chkN a r 0 n.toNat := if_pos h
theorem R.chk_bad {V : M.V} {a : Nat} {r n : Int} (h : ((decide (n < 1)) || (decide (n > 4))) = true) : V.chk a r n = (((a : Nat) : Int), false) := if_neg (by
  simp only [Bool.or_eq_true, decide_eq_true_eq] at h
  omega)
theorem R.chk_go {n : Int} (h : ((decide (n < 1)) || (decide (n > 4))) = false) : 1 ≤ n ∧ n ≤ 4 := by
  simp only [Bool.or_eq_false_iff, decide_eq_false_iff_not] at h
  omega
theorem R.chk_t {V : M.V} {a m i : Nat} {r : Int} (h : i < m) (h1 : V.ok ((a + i) % 4294967296) r = true) : V.chkN a r i (m - i) = V.chkN a r (i + 1) (m - (i + 1)) := by
  rw [show m - i = (m - (i + 1)) + 1 by omega, M.chkN_s, h1]; rfl
theorem R.chk_f {V : M.V} {a m i : Nat} {r : Int} (h : i < m) (h1 : V.ok ((a + i) % 4294967296) r = false) : V.chkN a r i (m - i) = ((((a + i) % 4294967296 : Nat) : Int), false) := by
  rw [show m - i = (m - (i + 1)) + 1 by omega, M.chkN_s, h1]; rfl
theorem R.not_t {b : Bool} (h : (!b) = true) : b = false := by simpa using h
theorem R.not_f {b : Bool} (h : (!b) = false) : b = true := by simpa using h
theorem R.chk_z {V : M.V} {a m i : Nat} {r : Int} (h : m ≤ i) : V.chkN a r i (m - i) = (0, true) := by
  rw [show m - i = 0 by omega]; rfl
theorem R.ok_n {V : M.V} {a : Nat} {r : Int} (h : V.ok a r = true) : a / 256 < V.n := by
  unfold M.V.ok at h
  rw [Bool.and_eq_true] at h
  exact of_decide_eq_true h.1
theorem R.chk_ok {V : M.V} {a : Nat} {r : Int} (m : Nat) : ∀ i, (V.chkN a r i m).2 = true → ∀ j, i ≤ j → j < i + m → (a + j) % 4294967296 / 256 < V.n := by
  induction m with
  | zero => intro i _ j h1 h2; omega
  | succ m ih =>
    intro i h j h1 h2
    rw [M.chkN_s] at h
    cases hb : V.ok ((a + i) % 4294967296) r with
    | false => rw [hb] at h; cases h
    | true =>
      rw [hb] at h
      by_cases e : j = i
      · subst e; exact R.ok_n hb
      · exact ih (i + 1) h j (by omega) (by omega)
theorem R_check1 {r : Nat} {s : R.Sl} {V : M.V} (hw : R.Wf V) (a : Nat) (ha : a < 4294967296) (n : Int) : A.Rd Try.prog 63 #[.pointer (some ⟨r, 0, none⟩), .int .u32 ((a : Nat) : Int), .int .i64 n, .int .i64 1] (R.its r s V) (.agg #[.int .u32 0, .int .u32 (V.chk a 1 n).1, .bool (V.chk a 1 n).2]) := by
  intro w oo aa hh
  refine E.enter (n := 39) (S := fun _ => False) Try.func63 rfl rfl (by kernel_rfl) (A.startY hh) ?_
  refine E.C.seq ?_
  refine E.C.region ?_
  refine E.G.new (fun g => .pointer (some ⟨g, 0, none⟩)) [.int .u32 0, .int .u32 0, .bool false] 93 (fun w => by kernel_rfl) (by kernel_rfl) (fun g1 => ?_)
  refine E.To.code ?_
  refine E.C.seq ?_
  refine E.C.seq ?_
  refine E.C.region ?_
  refine E.G.op (.int .i64 n) (fun w => by kernel_rfl) (by kernel_rfl) ?_
  refine E.G.op (.bool (decide (n < 1))) (fun w => by kernel_rfl) (by kernel_rfl) ?_
  refine E.G.op (.bool (decide (n < 1))) (fun w => by kernel_rfl) (by kernel_rfl) ?_
  refine E.G.cut 3 [(0, .pointer (some ⟨r, 0, none⟩)), (1, .int .u32 ((a : Nat) : Int)), (2, .int .i64 n), (3, .int .i64 1), (8, .pointer (some ⟨g1, 0, none⟩)), (16, .bool ((decide (n < 1)) || (decide (n > 4))))] (A.Y [A.blk r [.slice s.a0 (256 * V.n) s.c0, .slice s.a1 (256 * R.len V) s.c1, .slice s.a2 (256 * V.n) s.c2, .slice s.a3 (256 * R.len V) s.c3, .slice s.a4 V.n s.c4, .bool V.coh], A.vec .u8 s.a0 s.c0 (R.flat V.d V.n), A.vec .u8 s.a1 s.c1 (R.flat V.i (R.len V)), A.vec .u8 s.a2 s.c2 (R.flat V.cd V.n), A.vec .u8 s.a3 s.c3 (R.flat V.ci (R.len V)), A.vec .i64 s.a4 s.c4 (R.rts V.r V.n)]) [(g1, [.int .u32 0, .int .u32 0, .bool false])] ?_ ?_
  · generalize hc2 : (decide (n < 1)) = b3
    cases b3
    · skip
      refine E.G.op (.int .i64 n) (fun w => by kernel_rfl) (by kernel_rfl) ?_
      refine E.G.op (.bool (decide (n > 4))) (fun w => by kernel_rfl) (by kernel_rfl) ?_
      refine E.G.op (.bool (decide (n > 4))) (fun w => by kernel_rfl) (by kernel_rfl) ?_
      exact E.G.end_pst ⟨by kernel_rfl, by kernel_rfl⟩ (List.Sublist.refl _) (fun _ h => h)
    · skip
      refine E.G.skip (by kernel_rfl) (by kernel_rfl) ?_
      refine E.G.skip (by kernel_rfl) (by kernel_rfl) ?_
      refine E.G.op (.bool true) (fun w => by kernel_rfl) (by kernel_rfl) ?_
      exact E.G.end_pst ⟨by kernel_rfl, by kernel_rfl⟩ (List.Sublist.refl _) (fun _ h => h)
  refine E.To.code ?_
  refine E.C.cond ((decide (n < 1)) || (decide (n > 4))) (by kernel_rfl) (by kernel_rfl) (fun hc4 => ?_) (fun hc4 => ?_)
  · skip
    refine E.C.seq ?_
    refine E.C.region ?_
    refine E.G.op (.int .u32 ((a : Nat) : Int)) (fun w => by kernel_rfl) (by kernel_rfl) ?_
    refine E.G.val (.agg #[.int .u32 0, .int .u32 ((a : Nat) : Int), .bool false]) (by kernel_rfl) (fun w h => E.run_build #[.int .u32 0, .int .u32 ((a : Nat) : Int), .bool false] (by kernel_rfl) w) ?_
    refine E.G.store 0 [.int .u32 0, .int .u32 ((a : Nat) : Int), .bool false] rfl rfl (by kernel_rfl) (by kernel_rfl) ?_
    refine E.To.code ?_
    refine E.C.ret (E.P.rt (E.To.body (fn := Try.f63) [.agg #[.int .u32 0, .int .u32 ((a : Nat) : Int), .bool false]] ?_ ?_))
    · exact ⟨⟨by kernel_rfl, _, _, 0, _, rfl, rfl, by kernel_rfl⟩, trivial⟩
    · intro w h
      exact ⟨by rw [R.chk_bad hc4]; rfl, h.ch.bel (fun _ h => h.elim)⟩
  · skip
    refine E.C.skip (E.To.code ?_)
    refine E.C.seq ?_
    refine E.C.seq ?_
    have hgo := R.chk_go hc4
    refine E.C.region ?_
    refine E.G.op (.int .i64 0) (fun w => by kernel_rfl) (by kernel_rfl) ?_
    refine E.To.code ?_
    refine E.C.block ?_
    refine E.C.loop (I := Nat) (fun i => n.toNat - i) (fun i => i ≤ n.toNat ∧ V.chkN a 1 0 n.toNat = V.chkN a 1 i (n.toNat - i)) (fun i => [(0, .pointer (some ⟨r, 0, none⟩)), (1, .int .u32 ((a : Nat) : Int)), (2, .int .i64 n), (3, .int .i64 1), (8, .pointer (some ⟨g1, 0, none⟩)), (9, .int .i64 ((i : Nat) : Int))]) (fun i => A.Y [A.blk r [.slice s.a0 (256 * V.n) s.c0, .slice s.a1 (256 * R.len V) s.c1, .slice s.a2 (256 * V.n) s.c2, .slice s.a3 (256 * R.len V) s.c3, .slice s.a4 V.n s.c4, .bool V.coh], A.vec .u8 s.a0 s.c0 (R.flat V.d V.n), A.vec .u8 s.a1 s.c1 (R.flat V.i (R.len V)), A.vec .u8 s.a2 s.c2 (R.flat V.cd V.n), A.vec .u8 s.a3 s.c3 (R.flat V.ci (R.len V)), A.vec .i64 s.a4 s.c4 (R.rts V.r V.n)]) (fun i => [(g1, [.int .u32 0, .int .u32 0, .bool false])]) 0 (⟨Nat.zero_le _, rfl⟩) ⟨by kernel_rfl, by kernel_rfl⟩ (List.Sublist.refl _) (fun _ h => h) (fun i hk1 => ?_)
    refine E.C.seq ?_
    refine E.C.seq ?_
    refine E.C.region ?_
    refine E.G.op (.int .i64 ((i : Nat) : Int)) (fun w => by kernel_rfl) (by kernel_rfl) ?_
    refine E.G.op (.int .i64 n) (fun w => by kernel_rfl) (by kernel_rfl) ?_
    refine E.G.op (.bool (decide (((i : Nat) : Int) < n))) (fun w => by kernel_rfl) (by kernel_rfl) ?_
    refine E.To.code ?_
    refine E.C.cond (decide (((i : Nat) : Int) < n)) (by kernel_rfl) (by kernel_rfl) (fun hc5 => ?_) (fun hc5 => ?_)
    · skip
      refine E.C.skip (E.To.code ?_)
      refine E.C.seq ?_
      refine E.C.block ?_
      refine E.C.seq ?_
      refine E.C.region ?_
      refine E.G.op (.pointer (some ⟨r, 0, none⟩)) (fun w => by kernel_rfl) (by kernel_rfl) ?_
      refine E.G.op (.int .u32 ((a : Nat) : Int)) (fun w => by kernel_rfl) (by kernel_rfl) ?_
      refine E.G.op (.int .i64 ((i : Nat) : Int)) (fun w => by kernel_rfl) (by kernel_rfl) ?_
      refine E.G.val (.int .u32 ((i : Nat) : Int)) (by kernel_rfl) (fun w h => E.run_as (a := .int .u32 (IntKind.wrap .u32 ((i : Nat) : Int))) (by kernel_rfl) (congrArg (Value.int .u32) (by exact Nz.w32 (x := i) (by (first | assumption | ((try simp only [Bool.or_eq_false_iff, Bool.or_eq_true, Bool.and_eq_true, Bool.and_eq_false_iff, Bool.not_eq_eq_eq_not, Bool.not_true, Bool.not_false, decide_eq_true_eq, decide_eq_false_iff_not, ge_iff_le, gt_iff_lt] at *); omega)))))) ?_
      refine E.G.val (.int .u32 (((a + i) % 4294967296 : Nat) : Int)) (by kernel_rfl) (fun w h => E.run_as (a := .int .u32 (IntKind.wrap .u32 (((a : Nat) : Int) + ((i : Nat) : Int)))) (by kernel_rfl) (congrArg (Value.int .u32) (by exact Nz.add32 a i))) ?_
      refine E.G.op (.int .i64 1) (fun w => by kernel_rfl) (by kernel_rfl) ?_
      refine E.G.call (.bool (V.ok ((a + i) % 4294967296) 1)) (fun w h => A.Y.rd [] (R_right1 hw ((a + i) % 4294967296) (by (first | assumption | ((try simp only [Bool.or_eq_false_iff, Bool.or_eq_true, Bool.and_eq_true, Bool.and_eq_false_iff, Bool.not_eq_eq_eq_not, Bool.not_true, Bool.not_false, decide_eq_true_eq, decide_eq_false_iff_not, ge_iff_le, gt_iff_lt] at *); omega))) (r := r) (s := s) (V := V)) h.x (A.pm [0, 1, 2, 3, 4, 5] (by kernel_rfl) (by kernel_rfl))) (fun w _ => by kernel_rfl) (by kernel_rfl) ?_
      refine E.G.op (.bool (V.ok ((a + i) % 4294967296) 1)) (fun w => by kernel_rfl) (by kernel_rfl) ?_
      refine E.To.code ?_
      refine E.C.seq ?_
      refine E.C.region ?_
      refine E.G.op (.bool (V.ok ((a + i) % 4294967296) 1)) (fun w => by kernel_rfl) (by kernel_rfl) ?_
      refine E.G.op (.bool (!(V.ok ((a + i) % 4294967296) 1))) (fun w => by kernel_rfl) (by kernel_rfl) ?_
      refine E.To.code ?_
      refine E.C.cond (!(V.ok ((a + i) % 4294967296) 1)) (by kernel_rfl) (by kernel_rfl) (fun hc6 => ?_) (fun hc6 => ?_)
      · skip
        refine E.C.seq ?_
        refine E.C.region ?_
        refine E.G.op (.int .u32 ((a : Nat) : Int)) (fun w => by kernel_rfl) (by kernel_rfl) ?_
        refine E.G.op (.int .i64 ((i : Nat) : Int)) (fun w => by kernel_rfl) (by kernel_rfl) ?_
        refine E.G.val (.int .u32 ((i : Nat) : Int)) (by kernel_rfl) (fun w h => E.run_as (a := .int .u32 (IntKind.wrap .u32 ((i : Nat) : Int))) (by kernel_rfl) (congrArg (Value.int .u32) (by exact Nz.w32 (x := i) (by (first | assumption | ((try simp only [Bool.or_eq_false_iff, Bool.or_eq_true, Bool.and_eq_true, Bool.and_eq_false_iff, Bool.not_eq_eq_eq_not, Bool.not_true, Bool.not_false, decide_eq_true_eq, decide_eq_false_iff_not, ge_iff_le, gt_iff_lt] at *); omega)))))) ?_
        refine E.G.val (.int .u32 (((a + i) % 4294967296 : Nat) : Int)) (by kernel_rfl) (fun w h => E.run_as (a := .int .u32 (IntKind.wrap .u32 (((a : Nat) : Int) + ((i : Nat) : Int)))) (by kernel_rfl) (congrArg (Value.int .u32) (by exact Nz.add32 a i))) ?_
        refine E.G.val (.agg #[.int .u32 0, .int .u32 (((a + i) % 4294967296 : Nat) : Int), .bool false]) (by kernel_rfl) (fun w h => E.run_build #[.int .u32 0, .int .u32 (((a + i) % 4294967296 : Nat) : Int), .bool false] (by kernel_rfl) w) ?_
        refine E.G.store 0 [.int .u32 0, .int .u32 (((a + i) % 4294967296 : Nat) : Int), .bool false] rfl rfl (by kernel_rfl) (by kernel_rfl) ?_
        refine E.To.code ?_
        refine E.C.ret (E.P.rb (E.P.rt (E.P.rt (E.P.rb (E.P.rt (E.To.body (fn := Try.f63) [.agg #[.int .u32 0, .int .u32 (((a + i) % 4294967296 : Nat) : Int), .bool false]] ?_ ?_))))))
        · exact ⟨⟨by kernel_rfl, _, _, 0, _, rfl, rfl, by kernel_rfl⟩, trivial⟩
        · intro w h
          exact ⟨by rw [R.chk_in (R.chk_go hc4), hk1.2, R.chk_f (by (first | assumption | ((try simp only [Bool.or_eq_false_iff, Bool.or_eq_true, Bool.and_eq_true, Bool.and_eq_false_iff, Bool.not_eq_eq_eq_not, Bool.not_true, Bool.not_false, decide_eq_true_eq, decide_eq_false_iff_not, ge_iff_le, gt_iff_lt] at *); omega))) (R.not_t hc6)]; rfl, h.ch.bel (fun _ h => h.elim)⟩
      · skip
        refine E.C.skip (E.P.nb (E.To.code ?_))
        refine E.C.region ?_
        refine E.G.op (.int .i64 ((i : Nat) : Int)) (fun w => by kernel_rfl) (by kernel_rfl) ?_
        refine E.G.val (.int .i64 ((i + 1 : Nat) : Int)) (by kernel_rfl) (fun w h => E.run_as (a := .int .i64 (IntKind.wrap .i64 (((i : Nat) : Int) + 1))) (by kernel_rfl) (congrArg (Value.int .i64) (by exact Nz.add64 (x := i) (y := 1) (by (first | assumption | ((try simp only [Bool.or_eq_false_iff, Bool.or_eq_true, Bool.and_eq_true, Bool.and_eq_false_iff, Bool.not_eq_eq_eq_not, Bool.not_true, Bool.not_false, decide_eq_true_eq, decide_eq_false_iff_not, ge_iff_le, gt_iff_lt] at *); omega)))))) ?_
        refine E.G.op (.int .i64 ((i + 1 : Nat) : Int)) (fun w => by kernel_rfl) (by kernel_rfl) ?_
        exact E.To.round (i + 1) (by (first | assumption | ((try simp only [Bool.or_eq_false_iff, Bool.or_eq_true, Bool.and_eq_true, Bool.and_eq_false_iff, Bool.not_eq_eq_eq_not, Bool.not_true, Bool.not_false, decide_eq_true_eq, decide_eq_false_iff_not, ge_iff_le, gt_iff_lt] at *); omega))) (⟨by (first | assumption | ((try simp only [Bool.or_eq_false_iff, Bool.or_eq_true, Bool.and_eq_true, Bool.and_eq_false_iff, Bool.not_eq_eq_eq_not, Bool.not_true, Bool.not_false, decide_eq_true_eq, decide_eq_false_iff_not, ge_iff_le, gt_iff_lt] at *); omega)), by rw [hk1.2]; exact R.chk_t (by (first | assumption | ((try simp only [Bool.or_eq_false_iff, Bool.or_eq_true, Bool.and_eq_true, Bool.and_eq_false_iff, Bool.not_eq_eq_eq_not, Bool.not_true, Bool.not_false, decide_eq_true_eq, decide_eq_false_iff_not, ge_iff_le, gt_iff_lt] at *); omega))) (R.not_f hc6)⟩) ⟨by kernel_rfl, by kernel_rfl⟩ (List.Sublist.refl _) (fun _ h => h)
    · skip
      refine E.C.exit (E.P.et (E.P.et (E.P.eh (E.To.code ?_))))
      refine E.C.weak [(8, .pointer (some ⟨g1, 0, none⟩))] [(g1, [.int .u32 0, .int .u32 0, .bool false])] ⟨by kernel_rfl, by kernel_rfl⟩ (List.Sublist.refl _) ?_
      refine E.C.seq ?_
      refine E.C.region ?_
      refine E.G.val (.agg #[.int .u32 0, .int .u32 0, .bool true]) (by kernel_rfl) (fun w h => E.run_build #[.int .u32 0, .int .u32 0, .bool true] (by kernel_rfl) w) ?_
      refine E.G.store 0 [.int .u32 0, .int .u32 0, .bool true] rfl rfl (by kernel_rfl) (by kernel_rfl) ?_
      refine E.To.code ?_
      refine E.C.ret (E.To.body (fn := Try.f63) [.agg #[.int .u32 0, .int .u32 0, .bool true]] ?_ ?_)
      · exact ⟨⟨by kernel_rfl, _, _, 0, _, rfl, rfl, by kernel_rfl⟩, trivial⟩
      · intro w h
        exact ⟨by rw [R.chk_in (R.chk_go hc4), hk1.2, R.chk_z (by have := R.chk_go hc4; (first | assumption | ((try simp only [Bool.or_eq_false_iff, Bool.or_eq_true, Bool.and_eq_true, Bool.and_eq_false_iff, Bool.not_eq_eq_eq_not, Bool.not_true, Bool.not_false, decide_eq_true_eq, decide_eq_false_iff_not, ge_iff_le, gt_iff_lt] at *); omega)))]; rfl, h.ch.bel (fun _ h => h.elim)⟩
theorem R_check2 {r : Nat} {s : R.Sl} {V : M.V} (hw : R.Wf V) (a : Nat) (ha : a < 4294967296) (n : Int) : A.Rd Try.prog 63 #[.pointer (some ⟨r, 0, none⟩), .int .u32 ((a : Nat) : Int), .int .i64 n, .int .i64 2] (R.its r s V) (.agg #[.int .u32 0, .int .u32 (V.chk a 2 n).1, .bool (V.chk a 2 n).2]) := by
  intro w oo aa hh
  refine E.enter (n := 39) (S := fun _ => False) Try.func63 rfl rfl (by kernel_rfl) (A.startY hh) ?_
  refine E.C.seq ?_
  refine E.C.region ?_
  refine E.G.new (fun g => .pointer (some ⟨g, 0, none⟩)) [.int .u32 0, .int .u32 0, .bool false] 93 (fun w => by kernel_rfl) (by kernel_rfl) (fun g1 => ?_)
  refine E.To.code ?_
  refine E.C.seq ?_
  refine E.C.seq ?_
  refine E.C.region ?_
  refine E.G.op (.int .i64 n) (fun w => by kernel_rfl) (by kernel_rfl) ?_
  refine E.G.op (.bool (decide (n < 1))) (fun w => by kernel_rfl) (by kernel_rfl) ?_
  refine E.G.op (.bool (decide (n < 1))) (fun w => by kernel_rfl) (by kernel_rfl) ?_
  refine E.G.cut 3 [(0, .pointer (some ⟨r, 0, none⟩)), (1, .int .u32 ((a : Nat) : Int)), (2, .int .i64 n), (3, .int .i64 2), (8, .pointer (some ⟨g1, 0, none⟩)), (16, .bool ((decide (n < 1)) || (decide (n > 4))))] (A.Y [A.blk r [.slice s.a0 (256 * V.n) s.c0, .slice s.a1 (256 * R.len V) s.c1, .slice s.a2 (256 * V.n) s.c2, .slice s.a3 (256 * R.len V) s.c3, .slice s.a4 V.n s.c4, .bool V.coh], A.vec .u8 s.a0 s.c0 (R.flat V.d V.n), A.vec .u8 s.a1 s.c1 (R.flat V.i (R.len V)), A.vec .u8 s.a2 s.c2 (R.flat V.cd V.n), A.vec .u8 s.a3 s.c3 (R.flat V.ci (R.len V)), A.vec .i64 s.a4 s.c4 (R.rts V.r V.n)]) [(g1, [.int .u32 0, .int .u32 0, .bool false])] ?_ ?_
  · generalize hc2 : (decide (n < 1)) = b3
    cases b3
    · skip
      refine E.G.op (.int .i64 n) (fun w => by kernel_rfl) (by kernel_rfl) ?_
      refine E.G.op (.bool (decide (n > 4))) (fun w => by kernel_rfl) (by kernel_rfl) ?_
      refine E.G.op (.bool (decide (n > 4))) (fun w => by kernel_rfl) (by kernel_rfl) ?_
      exact E.G.end_pst ⟨by kernel_rfl, by kernel_rfl⟩ (List.Sublist.refl _) (fun _ h => h)
    · skip
      refine E.G.skip (by kernel_rfl) (by kernel_rfl) ?_
      refine E.G.skip (by kernel_rfl) (by kernel_rfl) ?_
      refine E.G.op (.bool true) (fun w => by kernel_rfl) (by kernel_rfl) ?_
      exact E.G.end_pst ⟨by kernel_rfl, by kernel_rfl⟩ (List.Sublist.refl _) (fun _ h => h)
  refine E.To.code ?_
  refine E.C.cond ((decide (n < 1)) || (decide (n > 4))) (by kernel_rfl) (by kernel_rfl) (fun hc4 => ?_) (fun hc4 => ?_)
  · skip
    refine E.C.seq ?_
    refine E.C.region ?_
    refine E.G.op (.int .u32 ((a : Nat) : Int)) (fun w => by kernel_rfl) (by kernel_rfl) ?_
    refine E.G.val (.agg #[.int .u32 0, .int .u32 ((a : Nat) : Int), .bool false]) (by kernel_rfl) (fun w h => E.run_build #[.int .u32 0, .int .u32 ((a : Nat) : Int), .bool false] (by kernel_rfl) w) ?_
    refine E.G.store 0 [.int .u32 0, .int .u32 ((a : Nat) : Int), .bool false] rfl rfl (by kernel_rfl) (by kernel_rfl) ?_
    refine E.To.code ?_
    refine E.C.ret (E.P.rt (E.To.body (fn := Try.f63) [.agg #[.int .u32 0, .int .u32 ((a : Nat) : Int), .bool false]] ?_ ?_))
    · exact ⟨⟨by kernel_rfl, _, _, 0, _, rfl, rfl, by kernel_rfl⟩, trivial⟩
    · intro w h
      exact ⟨by rw [R.chk_bad hc4]; rfl, h.ch.bel (fun _ h => h.elim)⟩
  · skip
    refine E.C.skip (E.To.code ?_)
    refine E.C.seq ?_
    refine E.C.seq ?_
    have hgo := R.chk_go hc4
    refine E.C.region ?_
    refine E.G.op (.int .i64 0) (fun w => by kernel_rfl) (by kernel_rfl) ?_
    refine E.To.code ?_
    refine E.C.block ?_
    refine E.C.loop (I := Nat) (fun i => n.toNat - i) (fun i => i ≤ n.toNat ∧ V.chkN a 2 0 n.toNat = V.chkN a 2 i (n.toNat - i)) (fun i => [(0, .pointer (some ⟨r, 0, none⟩)), (1, .int .u32 ((a : Nat) : Int)), (2, .int .i64 n), (3, .int .i64 2), (8, .pointer (some ⟨g1, 0, none⟩)), (9, .int .i64 ((i : Nat) : Int))]) (fun i => A.Y [A.blk r [.slice s.a0 (256 * V.n) s.c0, .slice s.a1 (256 * R.len V) s.c1, .slice s.a2 (256 * V.n) s.c2, .slice s.a3 (256 * R.len V) s.c3, .slice s.a4 V.n s.c4, .bool V.coh], A.vec .u8 s.a0 s.c0 (R.flat V.d V.n), A.vec .u8 s.a1 s.c1 (R.flat V.i (R.len V)), A.vec .u8 s.a2 s.c2 (R.flat V.cd V.n), A.vec .u8 s.a3 s.c3 (R.flat V.ci (R.len V)), A.vec .i64 s.a4 s.c4 (R.rts V.r V.n)]) (fun i => [(g1, [.int .u32 0, .int .u32 0, .bool false])]) 0 (⟨Nat.zero_le _, rfl⟩) ⟨by kernel_rfl, by kernel_rfl⟩ (List.Sublist.refl _) (fun _ h => h) (fun i hk1 => ?_)
    refine E.C.seq ?_
    refine E.C.seq ?_
    refine E.C.region ?_
    refine E.G.op (.int .i64 ((i : Nat) : Int)) (fun w => by kernel_rfl) (by kernel_rfl) ?_
    refine E.G.op (.int .i64 n) (fun w => by kernel_rfl) (by kernel_rfl) ?_
    refine E.G.op (.bool (decide (((i : Nat) : Int) < n))) (fun w => by kernel_rfl) (by kernel_rfl) ?_
    refine E.To.code ?_
    refine E.C.cond (decide (((i : Nat) : Int) < n)) (by kernel_rfl) (by kernel_rfl) (fun hc5 => ?_) (fun hc5 => ?_)
    · skip
      refine E.C.skip (E.To.code ?_)
      refine E.C.seq ?_
      refine E.C.block ?_
      refine E.C.seq ?_
      refine E.C.region ?_
      refine E.G.op (.pointer (some ⟨r, 0, none⟩)) (fun w => by kernel_rfl) (by kernel_rfl) ?_
      refine E.G.op (.int .u32 ((a : Nat) : Int)) (fun w => by kernel_rfl) (by kernel_rfl) ?_
      refine E.G.op (.int .i64 ((i : Nat) : Int)) (fun w => by kernel_rfl) (by kernel_rfl) ?_
      refine E.G.val (.int .u32 ((i : Nat) : Int)) (by kernel_rfl) (fun w h => E.run_as (a := .int .u32 (IntKind.wrap .u32 ((i : Nat) : Int))) (by kernel_rfl) (congrArg (Value.int .u32) (by exact Nz.w32 (x := i) (by (first | assumption | ((try simp only [Bool.or_eq_false_iff, Bool.or_eq_true, Bool.and_eq_true, Bool.and_eq_false_iff, Bool.not_eq_eq_eq_not, Bool.not_true, Bool.not_false, decide_eq_true_eq, decide_eq_false_iff_not, ge_iff_le, gt_iff_lt] at *); omega)))))) ?_
      refine E.G.val (.int .u32 (((a + i) % 4294967296 : Nat) : Int)) (by kernel_rfl) (fun w h => E.run_as (a := .int .u32 (IntKind.wrap .u32 (((a : Nat) : Int) + ((i : Nat) : Int)))) (by kernel_rfl) (congrArg (Value.int .u32) (by exact Nz.add32 a i))) ?_
      refine E.G.op (.int .i64 2) (fun w => by kernel_rfl) (by kernel_rfl) ?_
      refine E.G.call (.bool (V.ok ((a + i) % 4294967296) 2)) (fun w h => A.Y.rd [] (R_right2 hw ((a + i) % 4294967296) (by (first | assumption | ((try simp only [Bool.or_eq_false_iff, Bool.or_eq_true, Bool.and_eq_true, Bool.and_eq_false_iff, Bool.not_eq_eq_eq_not, Bool.not_true, Bool.not_false, decide_eq_true_eq, decide_eq_false_iff_not, ge_iff_le, gt_iff_lt] at *); omega))) (r := r) (s := s) (V := V)) h.x (A.pm [0, 1, 2, 3, 4, 5] (by kernel_rfl) (by kernel_rfl))) (fun w _ => by kernel_rfl) (by kernel_rfl) ?_
      refine E.G.op (.bool (V.ok ((a + i) % 4294967296) 2)) (fun w => by kernel_rfl) (by kernel_rfl) ?_
      refine E.To.code ?_
      refine E.C.seq ?_
      refine E.C.region ?_
      refine E.G.op (.bool (V.ok ((a + i) % 4294967296) 2)) (fun w => by kernel_rfl) (by kernel_rfl) ?_
      refine E.G.op (.bool (!(V.ok ((a + i) % 4294967296) 2))) (fun w => by kernel_rfl) (by kernel_rfl) ?_
      refine E.To.code ?_
      refine E.C.cond (!(V.ok ((a + i) % 4294967296) 2)) (by kernel_rfl) (by kernel_rfl) (fun hc6 => ?_) (fun hc6 => ?_)
      · skip
        refine E.C.seq ?_
        refine E.C.region ?_
        refine E.G.op (.int .u32 ((a : Nat) : Int)) (fun w => by kernel_rfl) (by kernel_rfl) ?_
        refine E.G.op (.int .i64 ((i : Nat) : Int)) (fun w => by kernel_rfl) (by kernel_rfl) ?_
        refine E.G.val (.int .u32 ((i : Nat) : Int)) (by kernel_rfl) (fun w h => E.run_as (a := .int .u32 (IntKind.wrap .u32 ((i : Nat) : Int))) (by kernel_rfl) (congrArg (Value.int .u32) (by exact Nz.w32 (x := i) (by (first | assumption | ((try simp only [Bool.or_eq_false_iff, Bool.or_eq_true, Bool.and_eq_true, Bool.and_eq_false_iff, Bool.not_eq_eq_eq_not, Bool.not_true, Bool.not_false, decide_eq_true_eq, decide_eq_false_iff_not, ge_iff_le, gt_iff_lt] at *); omega)))))) ?_
        refine E.G.val (.int .u32 (((a + i) % 4294967296 : Nat) : Int)) (by kernel_rfl) (fun w h => E.run_as (a := .int .u32 (IntKind.wrap .u32 (((a : Nat) : Int) + ((i : Nat) : Int)))) (by kernel_rfl) (congrArg (Value.int .u32) (by exact Nz.add32 a i))) ?_
        refine E.G.val (.agg #[.int .u32 0, .int .u32 (((a + i) % 4294967296 : Nat) : Int), .bool false]) (by kernel_rfl) (fun w h => E.run_build #[.int .u32 0, .int .u32 (((a + i) % 4294967296 : Nat) : Int), .bool false] (by kernel_rfl) w) ?_
        refine E.G.store 0 [.int .u32 0, .int .u32 (((a + i) % 4294967296 : Nat) : Int), .bool false] rfl rfl (by kernel_rfl) (by kernel_rfl) ?_
        refine E.To.code ?_
        refine E.C.ret (E.P.rb (E.P.rt (E.P.rt (E.P.rb (E.P.rt (E.To.body (fn := Try.f63) [.agg #[.int .u32 0, .int .u32 (((a + i) % 4294967296 : Nat) : Int), .bool false]] ?_ ?_))))))
        · exact ⟨⟨by kernel_rfl, _, _, 0, _, rfl, rfl, by kernel_rfl⟩, trivial⟩
        · intro w h
          exact ⟨by rw [R.chk_in (R.chk_go hc4), hk1.2, R.chk_f (by (first | assumption | ((try simp only [Bool.or_eq_false_iff, Bool.or_eq_true, Bool.and_eq_true, Bool.and_eq_false_iff, Bool.not_eq_eq_eq_not, Bool.not_true, Bool.not_false, decide_eq_true_eq, decide_eq_false_iff_not, ge_iff_le, gt_iff_lt] at *); omega))) (R.not_t hc6)]; rfl, h.ch.bel (fun _ h => h.elim)⟩
      · skip
        refine E.C.skip (E.P.nb (E.To.code ?_))
        refine E.C.region ?_
        refine E.G.op (.int .i64 ((i : Nat) : Int)) (fun w => by kernel_rfl) (by kernel_rfl) ?_
        refine E.G.val (.int .i64 ((i + 1 : Nat) : Int)) (by kernel_rfl) (fun w h => E.run_as (a := .int .i64 (IntKind.wrap .i64 (((i : Nat) : Int) + 1))) (by kernel_rfl) (congrArg (Value.int .i64) (by exact Nz.add64 (x := i) (y := 1) (by (first | assumption | ((try simp only [Bool.or_eq_false_iff, Bool.or_eq_true, Bool.and_eq_true, Bool.and_eq_false_iff, Bool.not_eq_eq_eq_not, Bool.not_true, Bool.not_false, decide_eq_true_eq, decide_eq_false_iff_not, ge_iff_le, gt_iff_lt] at *); omega)))))) ?_
        refine E.G.op (.int .i64 ((i + 1 : Nat) : Int)) (fun w => by kernel_rfl) (by kernel_rfl) ?_
        exact E.To.round (i + 1) (by (first | assumption | ((try simp only [Bool.or_eq_false_iff, Bool.or_eq_true, Bool.and_eq_true, Bool.and_eq_false_iff, Bool.not_eq_eq_eq_not, Bool.not_true, Bool.not_false, decide_eq_true_eq, decide_eq_false_iff_not, ge_iff_le, gt_iff_lt] at *); omega))) (⟨by (first | assumption | ((try simp only [Bool.or_eq_false_iff, Bool.or_eq_true, Bool.and_eq_true, Bool.and_eq_false_iff, Bool.not_eq_eq_eq_not, Bool.not_true, Bool.not_false, decide_eq_true_eq, decide_eq_false_iff_not, ge_iff_le, gt_iff_lt] at *); omega)), by rw [hk1.2]; exact R.chk_t (by (first | assumption | ((try simp only [Bool.or_eq_false_iff, Bool.or_eq_true, Bool.and_eq_true, Bool.and_eq_false_iff, Bool.not_eq_eq_eq_not, Bool.not_true, Bool.not_false, decide_eq_true_eq, decide_eq_false_iff_not, ge_iff_le, gt_iff_lt] at *); omega))) (R.not_f hc6)⟩) ⟨by kernel_rfl, by kernel_rfl⟩ (List.Sublist.refl _) (fun _ h => h)
    · skip
      refine E.C.exit (E.P.et (E.P.et (E.P.eh (E.To.code ?_))))
      refine E.C.weak [(8, .pointer (some ⟨g1, 0, none⟩))] [(g1, [.int .u32 0, .int .u32 0, .bool false])] ⟨by kernel_rfl, by kernel_rfl⟩ (List.Sublist.refl _) ?_
      refine E.C.seq ?_
      refine E.C.region ?_
      refine E.G.val (.agg #[.int .u32 0, .int .u32 0, .bool true]) (by kernel_rfl) (fun w h => E.run_build #[.int .u32 0, .int .u32 0, .bool true] (by kernel_rfl) w) ?_
      refine E.G.store 0 [.int .u32 0, .int .u32 0, .bool true] rfl rfl (by kernel_rfl) (by kernel_rfl) ?_
      refine E.To.code ?_
      refine E.C.ret (E.To.body (fn := Try.f63) [.agg #[.int .u32 0, .int .u32 0, .bool true]] ?_ ?_)
      · exact ⟨⟨by kernel_rfl, _, _, 0, _, rfl, rfl, by kernel_rfl⟩, trivial⟩
      · intro w h
        exact ⟨by rw [R.chk_in (R.chk_go hc4), hk1.2, R.chk_z (by have := R.chk_go hc4; (first | assumption | ((try simp only [Bool.or_eq_false_iff, Bool.or_eq_true, Bool.and_eq_true, Bool.and_eq_false_iff, Bool.not_eq_eq_eq_not, Bool.not_true, Bool.not_false, decide_eq_true_eq, decide_eq_false_iff_not, ge_iff_le, gt_iff_lt] at *); omega)))]; rfl, h.ch.bel (fun _ h => h.elim)⟩
end Go.Proofs.Ytdjjjikokfadiaa

/- Walks: the reference memory, readers, printed by wip/eng. No condition but what is named. -/
namespace Go.Proofs.Ytdjjjikokfadiaa
set_option linter.unusedVariables false
set_option linter.unusedSimpArgs false
open Go.RowKit
theorem R.peek_t {V : M.V} {a : Nat} (h : (!(decide (a / 256 < V.n))) = true) : V.peek a = 0 := if_neg (by simpa using h)
theorem R.peek_f {V : M.V} {a : Nat} (h : (!(decide (a / 256 < V.n))) = false) : V.peek a = V.d (a / 256) (a % 256) := if_pos (by simpa using h)
theorem R.code_t {V : M.V} {a : Nat} (h : (!(decide (a / 256 < V.n))) = true) : V.code a = 0 := if_neg (by simpa using h)
theorem R.code_f {V : M.V} {a : Nat} (h : (!(decide (a / 256 < V.n))) = false) : V.code a = V.i (a / 256) (a % 256) := if_pos (by simpa using h)
theorem R.code_c {V : M.V} (hw : R.Wf V) {a : Nat} (h : (!(decide (a / 256 < V.n))) = false) (hc : V.coh = true) : V.code a = V.d (a / 256) (a % 256) := by
  rw [R.code_f h]; exact (hw.co hc _ (by simpa using h) _ (Nat.mod_lt _ (by decide))).1
theorem R.len_f {V : M.V} (h : V.coh = false) : R.len V = V.n := by unfold R.len; rw [h]; rfl
theorem R.rt_t {V : M.V} {n : Int} (h : ((decide (n < 0)) || (decide (n ≥ ((V.n : Nat) : Int)))) = true) : V.rt n = 0 := if_neg (by
  simp only [Bool.or_eq_true, decide_eq_true_eq] at h
  omega)
theorem R.rng {V : M.V} {n : Int} (h : ((decide (n < 0)) || (decide (n ≥ ((V.n : Nat) : Int)))) = false) : ∃ m : Nat, n = ((m : Nat) : Int) ∧ m < V.n := by
  simp only [Bool.or_eq_false_iff, decide_eq_false_iff_not] at h
  obtain ⟨m, rfl⟩ := Int.eq_ofNat_of_zero_le (show 0 ≤ n by omega)
  exact ⟨m, rfl, by omega⟩
theorem R.rt_f {V : M.V} {m : Nat} (h : m < V.n) : V.rt ((m : Nat) : Int) = V.r m := by unfold M.V.rt; rw [if_pos (by omega)]; rfl
theorem R.page_t {V : M.V} {n : Int} (h : ((decide (n < 0)) || (decide (n ≥ ((V.n : Nat) : Int)))) = true) : V.page n = ⟨#[]⟩ := if_neg (by
  simp only [Bool.or_eq_true, decide_eq_true_eq] at h
  omega)
theorem R.page_f {V : M.V} {m : Nat} (h : m < V.n) : V.page ((m : Nat) : Int) = strOfNums (((R.flat V.d V.n).drop (256 * m)).take 256) := by
  unfold M.V.page; rw [if_pos (by omega)]
  congr 1
  refine List.ext_getElem? fun i => ?_
  by_cases hi : i < 256
  · rw [List.getElem?_take, if_pos hi, List.getElem?_drop]
    simp only [R.flat, List.getElem?_map, List.getElem?_range hi, List.getElem?_range (show 256 * m + i < 256 * V.n by omega), Option.map_some, Int.toNat_natCast]
    rw [show (256 * m + i) / 256 = m by omega, show (256 * m + i) % 256 = i by omega]
  · rw [List.getElem?_eq_none (by simp; omega), List.getElem?_eq_none (by rw [List.length_take]; omega)]
theorem R.fetch_t {V : M.V} {a : Nat} (h : (!(V.ok a 4)) = true) : V.fetch a = (0, false) := if_neg (by rw [R.not_t h]; decide)
theorem R.fetch_f {V : M.V} {a : Nat} (h : (!(V.ok a 4)) = false) : V.fetch a = (V.code a, true) := if_pos (R.not_f h)
theorem R.u8_32 {x : Int} (h : 0 ≤ x ∧ x < 256) : IntKind.wrap .u32 x = x := by
  show x % 4294967296 = x
  omega
theorem R.code_bd {V : M.V} (hw : R.Wf V) (a : Nat) : 0 ≤ V.code a ∧ V.code a < 256 := by
  unfold M.V.code
  split
  · rename_i h; exact hw.i _ h _ (Nat.mod_lt _ (by decide))
  · exact ⟨Int.le_refl _, by decide⟩
theorem R.peek_bd {V : M.V} (hw : R.Wf V) (a : Nat) : 0 ≤ V.peek a ∧ V.peek a < 256 := by
  unfold M.V.peek
  split
  · rename_i h; exact hw.d _ h _ (Nat.mod_lt _ (by decide))
  · exact ⟨Int.le_refl _, by decide⟩
theorem A.Y.sl {P : Program} {w : World} {its : List A.It} {fr : E.Fr} {d : Option Nat} {T : TypeId} {pos : String} {af : Array Edge} {gd : Option (Nat × Bool)} {x y z : Operand} {t e : TypeId} {kd ik jk : IntKind} {ao : Option Addr} {cap len : Nat} {l : List Int} {lo hi : Nat} {k : Nat} (h : A.Y its w) (hk : its[k]? = some (A.vec kd ao cap l)) (hu : P.underlying t = some (.slice e)) (hs : (P.info? e).map (·.size) = some 1) (hx : E.ev fr x = .slice ao len cap) (hy : E.ev fr y = .int ik ((lo : Nat) : Int)) (hz : E.ev fr z = .int jk ((hi : Nat) : Int)) (h1 : lo < hi) (h2 : hi ≤ l.length) {ln : Nat} (hln : ln = hi - lo) :
    (execOp (E.ev fr) ⟨d, .slice t x (some y) (some z) none, T, pos, af, gd⟩).run P w =   .ok (.value (.slice (some ⟨A.bk ao, lo, none⟩) ln (cap - lo))) w := by
  subst hln
  obtain ⟨o1, a1, hv⟩ := h.get hk
  have hc := hv.1
  have hao := A.vec_ao hv (by omega)
  show (do let r ← Instr.sliceAt t (E.ev fr x) (some (E.ev fr y)) (some (E.ev fr z)) none; pure (Next.value r) : Sem Next).run P w = _
  rw [hx, hy, hz]
  cases hie : P.info? e with
  | none => rw [hie] at hs; cases hs
  | some ie =>
    rw [hie] at hs
    have hs : ie.size = 1 := by simpa using hs
    generalize hb : A.bk ao = b at *
    subst hao
    have q1 : lo ≤ hi := by omega
    have q2 : hi ≤ cap := by omega
    have q3 : ¬ cap = lo := by omega
    simp [Instr.sliceAt, Instr.slice, Instr.sliceBounds, Instr.sliceBound, asIntOf, underlying, hu, sizeOf, typeInfo, hie, hs, q1, q2, q3, E.add_off]
theorem R_Peek {r : Nat} {s : R.Sl} {V : M.V} (a : Nat) (ha : a < 4294967296) : A.Rd Try.prog 50 #[.pointer (some ⟨r, 0, none⟩), .int .u32 ((a : Nat) : Int)] (R.its r s V) (.int .u8 (V.peek a)) := by
  intro w oo aa hh
  refine E.enter (n := 18) (S := fun _ => False) Try.func50 rfl rfl (by kernel_rfl) (A.startY hh) ?_
  refine E.C.seq ?_
  refine E.C.region ?_
  refine E.G.op (.int .u8 0) (fun w => by kernel_rfl) (by kernel_rfl) ?_
  refine E.To.code ?_
  refine E.C.seq ?_
  refine E.C.region ?_
  refine E.G.op (.pointer (some ⟨r, 0, none⟩)) (fun w => by kernel_rfl) (by kernel_rfl) ?_
  refine E.G.op (.int .u32 ((a : Nat) : Int)) (fun w => by kernel_rfl) (by kernel_rfl) ?_
  refine E.G.call (.bool (decide (a / 256 < V.n))) (fun w h => A.Y.rd [] (R_In a (by (first | assumption | ((try simp only [Bool.or_eq_false_iff, Bool.or_eq_true, Bool.and_eq_true, Bool.and_eq_false_iff, Bool.not_eq_eq_eq_not, Bool.not_true, Bool.not_false, decide_eq_true_eq, decide_eq_false_iff_not, ge_iff_le, gt_iff_lt] at *); omega))) (r := r) (s := s) (V := V)) h.x (A.pm [0, 1, 2, 3, 4, 5] (by kernel_rfl) (by kernel_rfl))) (fun w _ => by kernel_rfl) (by kernel_rfl) ?_
  refine E.G.op (.bool (decide (a / 256 < V.n))) (fun w => by kernel_rfl) (by kernel_rfl) ?_
  refine E.To.code ?_
  refine E.C.seq ?_
  refine E.C.seq ?_
  refine E.C.region ?_
  refine E.G.op (.bool (decide (a / 256 < V.n))) (fun w => by kernel_rfl) (by kernel_rfl) ?_
  refine E.G.op (.bool (!(decide (a / 256 < V.n)))) (fun w => by kernel_rfl) (by kernel_rfl) ?_
  refine E.To.code ?_
  refine E.C.cond (!(decide (a / 256 < V.n))) (by kernel_rfl) (by kernel_rfl) (fun hc1 => ?_) (fun hc1 => ?_)
  · skip
    refine E.C.seq ?_
    refine E.C.region ?_
    refine E.G.op (.int .u8 0) (fun w => by kernel_rfl) (by kernel_rfl) ?_
    refine E.To.code ?_
    refine E.C.ret (E.P.rt (E.To.body (fn := Try.f50) [.int .u8 0] ?_ ?_))
    · exact ⟨⟨by kernel_rfl, by kernel_rfl⟩, trivial⟩
    · intro w h
      exact ⟨by rw [R.peek_t hc1]; rfl, h.ch.bel (fun _ h => h.elim)⟩
  · skip
    refine E.C.skip (E.To.code ?_)
    refine E.C.seq ?_
    refine E.C.region ?_
    refine E.G.op (.pointer (some ⟨r, 0, none⟩)) (fun w => by kernel_rfl) (by kernel_rfl) ?_
    refine E.G.op (.pointer (some ⟨r, 0, none⟩)) (fun w => by kernel_rfl) (by kernel_rfl) ?_
    refine E.G.op (.pointer (some ⟨r, 0, none⟩)) (fun w => by kernel_rfl) (by kernel_rfl) ?_
    refine E.G.val (.slice s.a0 (256 * V.n) s.c0) (by kernel_rfl) (fun w h => A.Y.bld h.x (k := 0) (j := 0) rfl (by kernel_rfl) (by kernel_rfl)) ?_
    refine E.G.op (.int .u32 ((a : Nat) : Int)) (fun w => by kernel_rfl) (by kernel_rfl) ?_
    refine E.G.val (.pointer (some ⟨(A.bk s.a0), a, none⟩)) (by kernel_rfl) (fun w h => A.Y.idx (e := 5) (ik := .u32) (i := a) (len := (256 * V.n)) (c2 := s.c0) h.x (k := 1) rfl (by kernel_rfl) (by kernel_rfl) (by kernel_rfl) (by kernel_rfl) (by (first | assumption | ((try simp only [Bool.or_eq_false_iff, Bool.or_eq_true, Bool.and_eq_true, Bool.and_eq_false_iff, Bool.not_eq_eq_eq_not, Bool.not_true, Bool.not_false, decide_eq_true_eq, decide_eq_false_iff_not, ge_iff_le, gt_iff_lt] at *); omega))) (by simp only [R.flat_len]; (first | assumption | ((try simp only [Bool.or_eq_false_iff, Bool.or_eq_true, Bool.and_eq_true, Bool.and_eq_false_iff, Bool.not_eq_eq_eq_not, Bool.not_true, Bool.not_false, decide_eq_true_eq, decide_eq_false_iff_not, ge_iff_le, gt_iff_lt] at *); omega)))) ?_
    refine E.G.val (.int .u8 (V.d (a / 256) (a % 256))) (by kernel_rfl) (fun w h => E.run_as (a := .int .u8 ((R.flat V.d V.n).getD a 0)) (A.Y.vld h.x (k := 1) (i := a) rfl (by kernel_rfl) (by kernel_rfl) (by simp only [R.flat_len]; (first | assumption | ((try simp only [Bool.or_eq_false_iff, Bool.or_eq_true, Bool.and_eq_true, Bool.and_eq_false_iff, Bool.not_eq_eq_eq_not, Bool.not_true, Bool.not_false, decide_eq_true_eq, decide_eq_false_iff_not, ge_iff_le, gt_iff_lt] at *); omega)))) (congrArg (Value.int .u8) (R.flat_get (by (first | assumption | ((try simp only [Bool.or_eq_false_iff, Bool.or_eq_true, Bool.and_eq_true, Bool.and_eq_false_iff, Bool.not_eq_eq_eq_not, Bool.not_true, Bool.not_false, decide_eq_true_eq, decide_eq_false_iff_not, ge_iff_le, gt_iff_lt] at *); omega)))))) ?_
    refine E.G.op (.int .u8 (V.d (a / 256) (a % 256))) (fun w => by kernel_rfl) (by kernel_rfl) ?_
    refine E.To.code ?_
    refine E.C.weak [(4, .int .u8 (V.d (a / 256) (a % 256)))] [] ⟨by kernel_rfl, by kernel_rfl⟩ (List.Sublist.refl _) ?_
    refine E.C.ret (E.To.body (fn := Try.f50) [.int .u8 (V.d (a / 256) (a % 256))] ?_ ?_)
    · exact ⟨⟨by kernel_rfl, by kernel_rfl⟩, trivial⟩
    · intro w h
      exact ⟨by rw [R.peek_f hc1]; rfl, h.ch.bel (fun _ h => h.elim)⟩
theorem R_Code {r : Nat} {s : R.Sl} {V : M.V} (hw : R.Wf V) (a : Nat) (ha : a < 4294967296) : A.Rd Try.prog 49 #[.pointer (some ⟨r, 0, none⟩), .int .u32 ((a : Nat) : Int)] (R.its r s V) (.int .u8 (V.code a)) := by
  intro w oo aa hh
  refine E.enter (n := 29) (S := fun _ => False) Try.func49 rfl rfl (by kernel_rfl) (A.startY hh) ?_
  refine E.C.seq ?_
  refine E.C.region ?_
  refine E.G.op (.int .u8 0) (fun w => by kernel_rfl) (by kernel_rfl) ?_
  refine E.To.code ?_
  refine E.C.seq ?_
  refine E.C.region ?_
  refine E.G.op (.pointer (some ⟨r, 0, none⟩)) (fun w => by kernel_rfl) (by kernel_rfl) ?_
  refine E.G.op (.int .u32 ((a : Nat) : Int)) (fun w => by kernel_rfl) (by kernel_rfl) ?_
  refine E.G.call (.bool (decide (a / 256 < V.n))) (fun w h => A.Y.rd [] (R_In a (by (first | assumption | ((try simp only [Bool.or_eq_false_iff, Bool.or_eq_true, Bool.and_eq_true, Bool.and_eq_false_iff, Bool.not_eq_eq_eq_not, Bool.not_true, Bool.not_false, decide_eq_true_eq, decide_eq_false_iff_not, ge_iff_le, gt_iff_lt] at *); omega))) (r := r) (s := s) (V := V)) h.x (A.pm [0, 1, 2, 3, 4, 5] (by kernel_rfl) (by kernel_rfl))) (fun w _ => by kernel_rfl) (by kernel_rfl) ?_
  refine E.G.op (.bool (decide (a / 256 < V.n))) (fun w => by kernel_rfl) (by kernel_rfl) ?_
  refine E.To.code ?_
  refine E.C.seq ?_
  refine E.C.seq ?_
  refine E.C.region ?_
  refine E.G.op (.bool (decide (a / 256 < V.n))) (fun w => by kernel_rfl) (by kernel_rfl) ?_
  refine E.G.op (.bool (!(decide (a / 256 < V.n)))) (fun w => by kernel_rfl) (by kernel_rfl) ?_
  refine E.To.code ?_
  refine E.C.cond (!(decide (a / 256 < V.n))) (by kernel_rfl) (by kernel_rfl) (fun hc1 => ?_) (fun hc1 => ?_)
  · skip
    refine E.C.seq ?_
    refine E.C.region ?_
    refine E.G.op (.int .u8 0) (fun w => by kernel_rfl) (by kernel_rfl) ?_
    refine E.To.code ?_
    refine E.C.ret (E.P.rt (E.To.body (fn := Try.f49) [.int .u8 0] ?_ ?_))
    · exact ⟨⟨by kernel_rfl, by kernel_rfl⟩, trivial⟩
    · intro w h
      exact ⟨by rw [R.code_t hc1]; rfl, h.ch.bel (fun _ h => h.elim)⟩
  · skip
    refine E.C.skip (E.To.code ?_)
    refine E.C.seq ?_
    refine E.C.seq ?_
    refine E.C.region ?_
    refine E.G.op (.pointer (some ⟨r, 0, none⟩)) (fun w => by kernel_rfl) (by kernel_rfl) ?_
    refine E.G.op (.pointer (some ⟨r, 0, none⟩)) (fun w => by kernel_rfl) (by kernel_rfl) ?_
    refine E.G.op (.pointer (some ⟨r, 5, none⟩)) (fun w => by kernel_rfl) (by kernel_rfl) ?_
    refine E.G.val (.bool V.coh) (by kernel_rfl) (fun w h => A.Y.bld h.x (k := 0) (j := 5) rfl (by kernel_rfl) (by kernel_rfl)) ?_
    refine E.To.code ?_
    refine E.C.weak [(0, .pointer (some ⟨r, 0, none⟩)), (1, .int .u32 ((a : Nat) : Int)), (4, .int .u8 0), (14, .bool V.coh)] [] ⟨by kernel_rfl, by kernel_rfl⟩ (List.Sublist.refl _) ?_
    refine E.C.cond V.coh (by kernel_rfl) (by kernel_rfl) (fun hc2 => ?_) (fun hc2 => ?_)
    · skip
      refine E.C.seq ?_
      refine E.C.region ?_
      refine E.G.op (.pointer (some ⟨r, 0, none⟩)) (fun w => by kernel_rfl) (by kernel_rfl) ?_
      refine E.G.op (.pointer (some ⟨r, 0, none⟩)) (fun w => by kernel_rfl) (by kernel_rfl) ?_
      refine E.G.op (.pointer (some ⟨r, 0, none⟩)) (fun w => by kernel_rfl) (by kernel_rfl) ?_
      refine E.G.val (.slice s.a0 (256 * V.n) s.c0) (by kernel_rfl) (fun w h => A.Y.bld h.x (k := 0) (j := 0) rfl (by kernel_rfl) (by kernel_rfl)) ?_
      refine E.G.op (.int .u32 ((a : Nat) : Int)) (fun w => by kernel_rfl) (by kernel_rfl) ?_
      refine E.G.val (.pointer (some ⟨(A.bk s.a0), a, none⟩)) (by kernel_rfl) (fun w h => A.Y.idx (e := 5) (ik := .u32) (i := a) (len := (256 * V.n)) (c2 := s.c0) h.x (k := 1) rfl (by kernel_rfl) (by kernel_rfl) (by kernel_rfl) (by kernel_rfl) (by (first | assumption | ((try simp only [Bool.or_eq_false_iff, Bool.or_eq_true, Bool.and_eq_true, Bool.and_eq_false_iff, Bool.not_eq_eq_eq_not, Bool.not_true, Bool.not_false, decide_eq_true_eq, decide_eq_false_iff_not, ge_iff_le, gt_iff_lt] at *); omega))) (by simp only [R.flat_len]; (first | assumption | ((try simp only [Bool.or_eq_false_iff, Bool.or_eq_true, Bool.and_eq_true, Bool.and_eq_false_iff, Bool.not_eq_eq_eq_not, Bool.not_true, Bool.not_false, decide_eq_true_eq, decide_eq_false_iff_not, ge_iff_le, gt_iff_lt] at *); omega)))) ?_
      refine E.G.val (.int .u8 (V.d (a / 256) (a % 256))) (by kernel_rfl) (fun w h => E.run_as (a := .int .u8 ((R.flat V.d V.n).getD a 0)) (A.Y.vld h.x (k := 1) (i := a) rfl (by kernel_rfl) (by kernel_rfl) (by simp only [R.flat_len]; (first | assumption | ((try simp only [Bool.or_eq_false_iff, Bool.or_eq_true, Bool.and_eq_true, Bool.and_eq_false_iff, Bool.not_eq_eq_eq_not, Bool.not_true, Bool.not_false, decide_eq_true_eq, decide_eq_false_iff_not, ge_iff_le, gt_iff_lt] at *); omega)))) (congrArg (Value.int .u8) (R.flat_get (by (first | assumption | ((try simp only [Bool.or_eq_false_iff, Bool.or_eq_true, Bool.and_eq_true, Bool.and_eq_false_iff, Bool.not_eq_eq_eq_not, Bool.not_true, Bool.not_false, decide_eq_true_eq, decide_eq_false_iff_not, ge_iff_le, gt_iff_lt] at *); omega)))))) ?_
      refine E.G.op (.int .u8 (V.d (a / 256) (a % 256))) (fun w => by kernel_rfl) (by kernel_rfl) ?_
      refine E.To.code ?_
      refine E.C.weak [(0, .pointer (some ⟨r, 0, none⟩)), (1, .int .u32 ((a : Nat) : Int)), (4, .int .u8 (V.d (a / 256) (a % 256)))] [] ⟨by kernel_rfl, by kernel_rfl⟩ (List.Sublist.refl _) ?_
      refine E.C.ret (E.P.rt (E.To.body (fn := Try.f49) [.int .u8 (V.d (a / 256) (a % 256))] ?_ ?_))
      · exact ⟨⟨by kernel_rfl, by kernel_rfl⟩, trivial⟩
      · intro w h
        exact ⟨by rw [R.code_c hw hc1 hc2]; rfl, h.ch.bel (fun _ h => h.elim)⟩
    · skip
      refine E.C.skip (E.To.code ?_)
      refine E.C.seq ?_
      have hlen := R.len_f (V := V) hc2
      refine E.C.region ?_
      refine E.G.op (.pointer (some ⟨r, 0, none⟩)) (fun w => by kernel_rfl) (by kernel_rfl) ?_
      refine E.G.op (.pointer (some ⟨r, 0, none⟩)) (fun w => by kernel_rfl) (by kernel_rfl) ?_
      refine E.G.op (.pointer (some ⟨r, 1, none⟩)) (fun w => by kernel_rfl) (by kernel_rfl) ?_
      refine E.G.val (.slice s.a1 (256 * R.len V) s.c1) (by kernel_rfl) (fun w h => A.Y.bld h.x (k := 0) (j := 1) rfl (by kernel_rfl) (by kernel_rfl)) ?_
      refine E.G.op (.int .u32 ((a : Nat) : Int)) (fun w => by kernel_rfl) (by kernel_rfl) ?_
      refine E.G.val (.pointer (some ⟨(A.bk s.a1), a, none⟩)) (by kernel_rfl) (fun w h => A.Y.idx (e := 5) (ik := .u32) (i := a) (len := (256 * R.len V)) (c2 := s.c1) h.x (k := 2) rfl (by kernel_rfl) (by kernel_rfl) (by kernel_rfl) (by kernel_rfl) (by (first | assumption | ((try simp only [Bool.or_eq_false_iff, Bool.or_eq_true, Bool.and_eq_true, Bool.and_eq_false_iff, Bool.not_eq_eq_eq_not, Bool.not_true, Bool.not_false, decide_eq_true_eq, decide_eq_false_iff_not, ge_iff_le, gt_iff_lt] at *); omega))) (by simp only [R.flat_len]; (first | assumption | ((try simp only [Bool.or_eq_false_iff, Bool.or_eq_true, Bool.and_eq_true, Bool.and_eq_false_iff, Bool.not_eq_eq_eq_not, Bool.not_true, Bool.not_false, decide_eq_true_eq, decide_eq_false_iff_not, ge_iff_le, gt_iff_lt] at *); omega)))) ?_
      refine E.G.val (.int .u8 (V.i (a / 256) (a % 256))) (by kernel_rfl) (fun w h => E.run_as (a := .int .u8 ((R.flat V.i (R.len V)).getD a 0)) (A.Y.vld h.x (k := 2) (i := a) rfl (by kernel_rfl) (by kernel_rfl) (by simp only [R.flat_len]; (first | assumption | ((try simp only [Bool.or_eq_false_iff, Bool.or_eq_true, Bool.and_eq_true, Bool.and_eq_false_iff, Bool.not_eq_eq_eq_not, Bool.not_true, Bool.not_false, decide_eq_true_eq, decide_eq_false_iff_not, ge_iff_le, gt_iff_lt] at *); omega)))) (congrArg (Value.int .u8) (R.flat_get (by (first | assumption | ((try simp only [Bool.or_eq_false_iff, Bool.or_eq_true, Bool.and_eq_true, Bool.and_eq_false_iff, Bool.not_eq_eq_eq_not, Bool.not_true, Bool.not_false, decide_eq_true_eq, decide_eq_false_iff_not, ge_iff_le, gt_iff_lt] at *); omega)))))) ?_
      refine E.G.op (.int .u8 (V.i (a / 256) (a % 256))) (fun w => by kernel_rfl) (by kernel_rfl) ?_
      refine E.To.code ?_
      refine E.C.weak [(4, .int .u8 (V.i (a / 256) (a % 256)))] [] ⟨by kernel_rfl, by kernel_rfl⟩ (List.Sublist.refl _) ?_
      refine E.C.ret (E.To.body (fn := Try.f49) [.int .u8 (V.i (a / 256) (a % 256))] ?_ ?_)
      · exact ⟨⟨by kernel_rfl, by kernel_rfl⟩, trivial⟩
      · intro w h
        exact ⟨by rw [R.code_f hc1]; rfl, h.ch.bel (fun _ h => h.elim)⟩
theorem R_RightsOf {r : Nat} {s : R.Sl} {V : M.V} (n : Int) : A.Rd Try.prog 52 #[.pointer (some ⟨r, 0, none⟩), .int .i64 n] (R.its r s V) (.int .i64 (V.rt n)) := by
  intro w oo aa hh
  refine E.enter (n := 23) (S := fun _ => False) Try.func52 rfl rfl (by kernel_rfl) (A.startY hh) ?_
  refine E.C.seq ?_
  refine E.C.region ?_
  refine E.G.op (.int .i64 0) (fun w => by kernel_rfl) (by kernel_rfl) ?_
  refine E.To.code ?_
  refine E.C.seq ?_
  refine E.C.seq ?_
  refine E.C.region ?_
  refine E.G.op (.int .i64 n) (fun w => by kernel_rfl) (by kernel_rfl) ?_
  refine E.G.op (.bool (decide (n < 0))) (fun w => by kernel_rfl) (by kernel_rfl) ?_
  refine E.G.op (.bool (decide (n < 0))) (fun w => by kernel_rfl) (by kernel_rfl) ?_
  refine E.G.cut 8 [(0, .pointer (some ⟨r, 0, none⟩)), (1, .int .i64 n), (4, .int .i64 0), (15, .bool ((decide (n < 0)) || (decide (n ≥ ((V.n : Nat) : Int)))))] (A.Y [A.blk r [.slice s.a0 (256 * V.n) s.c0, .slice s.a1 (256 * R.len V) s.c1, .slice s.a2 (256 * V.n) s.c2, .slice s.a3 (256 * R.len V) s.c3, .slice s.a4 V.n s.c4, .bool V.coh], A.vec .u8 s.a0 s.c0 (R.flat V.d V.n), A.vec .u8 s.a1 s.c1 (R.flat V.i (R.len V)), A.vec .u8 s.a2 s.c2 (R.flat V.cd V.n), A.vec .u8 s.a3 s.c3 (R.flat V.ci (R.len V)), A.vec .i64 s.a4 s.c4 (R.rts V.r V.n)]) [] ?_ ?_
  · generalize hc1 : (decide (n < 0)) = b2
    cases b2
    · skip
      refine E.G.op (.int .i64 n) (fun w => by kernel_rfl) (by kernel_rfl) ?_
      refine E.G.op (.pointer (some ⟨r, 0, none⟩)) (fun w => by kernel_rfl) (by kernel_rfl) ?_
      refine E.G.op (.pointer (some ⟨r, 0, none⟩)) (fun w => by kernel_rfl) (by kernel_rfl) ?_
      refine E.G.op (.pointer (some ⟨r, 4, none⟩)) (fun w => by kernel_rfl) (by kernel_rfl) ?_
      refine E.G.val (.slice s.a4 V.n s.c4) (by kernel_rfl) (fun w h => A.Y.bld h.x (k := 0) (j := 4) rfl (by kernel_rfl) (by kernel_rfl)) ?_
      refine E.G.op (.int .i64 ((V.n : Nat) : Int)) (fun w => by kernel_rfl) (by kernel_rfl) ?_
      refine E.G.op (.bool (decide (n ≥ ((V.n : Nat) : Int)))) (fun w => by kernel_rfl) (by kernel_rfl) ?_
      refine E.G.op (.bool (decide (n ≥ ((V.n : Nat) : Int)))) (fun w => by kernel_rfl) (by kernel_rfl) ?_
      exact E.G.end_pst ⟨by kernel_rfl, by kernel_rfl⟩ (List.Sublist.refl _) (fun _ h => h)
    · skip
      refine E.G.skip (by kernel_rfl) (by kernel_rfl) ?_
      refine E.G.skip (by kernel_rfl) (by kernel_rfl) ?_
      refine E.G.skip (by kernel_rfl) (by kernel_rfl) ?_
      refine E.G.skip (by kernel_rfl) (by kernel_rfl) ?_
      refine E.G.skip (by kernel_rfl) (by kernel_rfl) ?_
      refine E.G.skip (by kernel_rfl) (by kernel_rfl) ?_
      refine E.G.skip (by kernel_rfl) (by kernel_rfl) ?_
      refine E.G.op (.bool true) (fun w => by kernel_rfl) (by kernel_rfl) ?_
      exact E.G.end_pst ⟨by kernel_rfl, by kernel_rfl⟩ (List.Sublist.refl _) (fun _ h => h)
  refine E.To.code ?_
  refine E.C.cond ((decide (n < 0)) || (decide (n ≥ ((V.n : Nat) : Int)))) (by kernel_rfl) (by kernel_rfl) (fun hc3 => ?_) (fun hc3 => ?_)
  · skip
    refine E.C.seq ?_
    refine E.C.region ?_
    refine E.G.op (.int .i64 0) (fun w => by kernel_rfl) (by kernel_rfl) ?_
    refine E.To.code ?_
    refine E.C.ret (E.P.rt (E.To.body (fn := Try.f52) [.int .i64 0] ?_ ?_))
    · exact ⟨⟨by kernel_rfl, by kernel_rfl⟩, trivial⟩
    · intro w h
      exact ⟨by rw [R.rt_t hc3]; rfl, h.ch.bel (fun _ h => h.elim)⟩
  · skip
    refine E.C.skip (E.To.code ?_)
    refine E.C.seq ?_
    obtain ⟨m, rfl, hm⟩ := R.rng hc3
    refine E.C.region ?_
    refine E.G.op (.pointer (some ⟨r, 0, none⟩)) (fun w => by kernel_rfl) (by kernel_rfl) ?_
    refine E.G.op (.pointer (some ⟨r, 0, none⟩)) (fun w => by kernel_rfl) (by kernel_rfl) ?_
    refine E.G.op (.pointer (some ⟨r, 4, none⟩)) (fun w => by kernel_rfl) (by kernel_rfl) ?_
    refine E.G.val (.slice s.a4 V.n s.c4) (by kernel_rfl) (fun w h => A.Y.bld h.x (k := 0) (j := 4) rfl (by kernel_rfl) (by kernel_rfl)) ?_
    refine E.G.op (.int .i64 ((m : Nat) : Int)) (fun w => by kernel_rfl) (by kernel_rfl) ?_
    refine E.G.val (.pointer (some ⟨(A.bk s.a4), m, none⟩)) (by kernel_rfl) (fun w h => A.Y.idx (e := 3) (ik := .i64) (i := m) (len := V.n) (c2 := s.c4) h.x (k := 5) rfl (by kernel_rfl) (by kernel_rfl) (by kernel_rfl) (by kernel_rfl) (by (first | assumption | ((try simp only [Bool.or_eq_false_iff, Bool.or_eq_true, Bool.and_eq_true, Bool.and_eq_false_iff, Bool.not_eq_eq_eq_not, Bool.not_true, Bool.not_false, decide_eq_true_eq, decide_eq_false_iff_not, ge_iff_le, gt_iff_lt] at *); omega))) (by simp only [R.rts_len]; (first | assumption | ((try simp only [Bool.or_eq_false_iff, Bool.or_eq_true, Bool.and_eq_true, Bool.and_eq_false_iff, Bool.not_eq_eq_eq_not, Bool.not_true, Bool.not_false, decide_eq_true_eq, decide_eq_false_iff_not, ge_iff_le, gt_iff_lt] at *); omega)))) ?_
    refine E.G.val (.int .i64 (V.r m)) (by kernel_rfl) (fun w h => E.run_as (a := .int .i64 ((R.rts V.r V.n).getD m 0)) (A.Y.vld h.x (k := 5) (i := m) rfl (by kernel_rfl) (by kernel_rfl) (by simp only [R.rts_len]; (first | assumption | ((try simp only [Bool.or_eq_false_iff, Bool.or_eq_true, Bool.and_eq_true, Bool.and_eq_false_iff, Bool.not_eq_eq_eq_not, Bool.not_true, Bool.not_false, decide_eq_true_eq, decide_eq_false_iff_not, ge_iff_le, gt_iff_lt] at *); omega)))) (congrArg (Value.int .i64) (R.rts_get (by (first | assumption | ((try simp only [Bool.or_eq_false_iff, Bool.or_eq_true, Bool.and_eq_true, Bool.and_eq_false_iff, Bool.not_eq_eq_eq_not, Bool.not_true, Bool.not_false, decide_eq_true_eq, decide_eq_false_iff_not, ge_iff_le, gt_iff_lt] at *); omega)))))) ?_
    refine E.G.op (.int .i64 (V.r m)) (fun w => by kernel_rfl) (by kernel_rfl) ?_
    refine E.To.code ?_
    refine E.C.weak [(4, .int .i64 (V.r m))] [] ⟨by kernel_rfl, by kernel_rfl⟩ (List.Sublist.refl _) ?_
    refine E.C.ret (E.To.body (fn := Try.f52) [.int .i64 (V.r m)] ?_ ?_)
    · exact ⟨⟨by kernel_rfl, by kernel_rfl⟩, trivial⟩
    · intro w h
      exact ⟨by rw [R.rt_f hm]; rfl, h.ch.bel (fun _ h => h.elim)⟩
theorem R_Page {r : Nat} {s : R.Sl} {V : M.V} (hw : R.Wf V) (n : Int) : A.Rd Try.prog 53 #[.pointer (some ⟨r, 0, none⟩), .int .i64 n] (R.its r s V) (.string (V.page n)) := by
  intro w oo aa hh
  refine E.enter (n := 27) (S := fun _ => False) Try.func53 rfl rfl (by kernel_rfl) (A.startY hh) ?_
  refine E.C.seq ?_
  refine E.C.region ?_
  refine E.G.op (.string (⟨#[]⟩ : ByteArray)) (fun w => by kernel_rfl) (by kernel_rfl) ?_
  refine E.To.code ?_
  refine E.C.seq ?_
  refine E.C.seq ?_
  refine E.C.region ?_
  refine E.G.op (.int .i64 n) (fun w => by kernel_rfl) (by kernel_rfl) ?_
  refine E.G.op (.bool (decide (n < 0))) (fun w => by kernel_rfl) (by kernel_rfl) ?_
  refine E.G.op (.bool (decide (n < 0))) (fun w => by kernel_rfl) (by kernel_rfl) ?_
  refine E.G.cut 8 [(0, .pointer (some ⟨r, 0, none⟩)), (1, .int .i64 n), (4, .string (⟨#[]⟩ : ByteArray)), (15, .bool ((decide (n < 0)) || (decide (n ≥ ((V.n : Nat) : Int)))))] (A.Y [A.blk r [.slice s.a0 (256 * V.n) s.c0, .slice s.a1 (256 * R.len V) s.c1, .slice s.a2 (256 * V.n) s.c2, .slice s.a3 (256 * R.len V) s.c3, .slice s.a4 V.n s.c4, .bool V.coh], A.vec .u8 s.a0 s.c0 (R.flat V.d V.n), A.vec .u8 s.a1 s.c1 (R.flat V.i (R.len V)), A.vec .u8 s.a2 s.c2 (R.flat V.cd V.n), A.vec .u8 s.a3 s.c3 (R.flat V.ci (R.len V)), A.vec .i64 s.a4 s.c4 (R.rts V.r V.n)]) [] ?_ ?_
  · generalize hc1 : (decide (n < 0)) = b2
    cases b2
    · skip
      refine E.G.op (.int .i64 n) (fun w => by kernel_rfl) (by kernel_rfl) ?_
      refine E.G.op (.pointer (some ⟨r, 0, none⟩)) (fun w => by kernel_rfl) (by kernel_rfl) ?_
      refine E.G.op (.pointer (some ⟨r, 0, none⟩)) (fun w => by kernel_rfl) (by kernel_rfl) ?_
      refine E.G.op (.pointer (some ⟨r, 4, none⟩)) (fun w => by kernel_rfl) (by kernel_rfl) ?_
      refine E.G.val (.slice s.a4 V.n s.c4) (by kernel_rfl) (fun w h => A.Y.bld h.x (k := 0) (j := 4) rfl (by kernel_rfl) (by kernel_rfl)) ?_
      refine E.G.op (.int .i64 ((V.n : Nat) : Int)) (fun w => by kernel_rfl) (by kernel_rfl) ?_
      refine E.G.op (.bool (decide (n ≥ ((V.n : Nat) : Int)))) (fun w => by kernel_rfl) (by kernel_rfl) ?_
      refine E.G.op (.bool (decide (n ≥ ((V.n : Nat) : Int)))) (fun w => by kernel_rfl) (by kernel_rfl) ?_
      exact E.G.end_pst ⟨by kernel_rfl, by kernel_rfl⟩ (List.Sublist.refl _) (fun _ h => h)
    · skip
      refine E.G.skip (by kernel_rfl) (by kernel_rfl) ?_
      refine E.G.skip (by kernel_rfl) (by kernel_rfl) ?_
      refine E.G.skip (by kernel_rfl) (by kernel_rfl) ?_
      refine E.G.skip (by kernel_rfl) (by kernel_rfl) ?_
      refine E.G.skip (by kernel_rfl) (by kernel_rfl) ?_
      refine E.G.skip (by kernel_rfl) (by kernel_rfl) ?_
      refine E.G.skip (by kernel_rfl) (by kernel_rfl) ?_
      refine E.G.op (.bool true) (fun w => by kernel_rfl) (by kernel_rfl) ?_
      exact E.G.end_pst ⟨by kernel_rfl, by kernel_rfl⟩ (List.Sublist.refl _) (fun _ h => h)
  refine E.To.code ?_
  refine E.C.cond ((decide (n < 0)) || (decide (n ≥ ((V.n : Nat) : Int)))) (by kernel_rfl) (by kernel_rfl) (fun hc3 => ?_) (fun hc3 => ?_)
  · skip
    refine E.C.seq ?_
    refine E.C.region ?_
    refine E.G.op (.string (⟨#[]⟩ : ByteArray)) (fun w => by kernel_rfl) (by kernel_rfl) ?_
    refine E.To.code ?_
    refine E.C.ret (E.P.rt (E.To.body (fn := Try.f53) [.string (⟨#[]⟩ : ByteArray)] ?_ ?_))
    · exact ⟨⟨by kernel_rfl, by kernel_rfl⟩, trivial⟩
    · intro w h
      exact ⟨by rw [R.page_t hc3]; rfl, h.ch.bel (fun _ h => h.elim)⟩
  · skip
    refine E.C.skip (E.To.code ?_)
    refine E.C.seq ?_
    obtain ⟨m, rfl, hm⟩ := R.rng hc3
    refine E.C.region ?_
    refine E.G.op (.pointer (some ⟨r, 0, none⟩)) (fun w => by kernel_rfl) (by kernel_rfl) ?_
    refine E.G.op (.pointer (some ⟨r, 0, none⟩)) (fun w => by kernel_rfl) (by kernel_rfl) ?_
    refine E.G.op (.pointer (some ⟨r, 0, none⟩)) (fun w => by kernel_rfl) (by kernel_rfl) ?_
    refine E.G.val (.slice s.a0 (256 * V.n) s.c0) (by kernel_rfl) (fun w h => A.Y.bld h.x (k := 0) (j := 0) rfl (by kernel_rfl) (by kernel_rfl)) ?_
    refine E.G.op (.int .i64 ((m : Nat) : Int)) (fun w => by kernel_rfl) (by kernel_rfl) ?_
    refine E.G.val (.int .i64 ((256 * m : Nat) : Int)) (by kernel_rfl) (fun w h => E.run_as (a := .int .i64 (IntKind.wrap .i64 (256 * ((m : Nat) : Int)))) (by kernel_rfl) (congrArg (Value.int .i64) (by exact Nz.mul64 (x := 256) (y := m) (by have := hw.n; omega)))) ?_
    refine E.G.op (.int .i64 ((m : Nat) : Int)) (fun w => by kernel_rfl) (by kernel_rfl) ?_
    refine E.G.val (.int .i64 ((256 * m : Nat) : Int)) (by kernel_rfl) (fun w h => E.run_as (a := .int .i64 (IntKind.wrap .i64 (256 * ((m : Nat) : Int)))) (by kernel_rfl) (congrArg (Value.int .i64) (by exact Nz.mul64 (x := 256) (y := m) (by have := hw.n; omega)))) ?_
    refine E.G.val (.int .i64 (((256 * m) + 256 : Nat) : Int)) (by kernel_rfl) (fun w h => E.run_as (a := .int .i64 (IntKind.wrap .i64 (((256 * m : Nat) : Int) + 256))) (by kernel_rfl) (congrArg (Value.int .i64) (by exact Nz.add64 (x := (256 * m)) (y := 256) (by have := hw.n; omega)))) ?_
    refine E.G.val (.slice (some ⟨(A.bk s.a0), (256 * m), none⟩) 256 (s.c0 - (256 * m))) (by kernel_rfl) (fun w h => A.Y.sl (e := 5) (ik := .i64) (jk := .i64) (len := 256 * V.n) (lo := (256 * m)) (hi := ((256 * m) + 256)) h.x (k := 1) rfl (by kernel_rfl) (by kernel_rfl) (by kernel_rfl) (by kernel_rfl) (by kernel_rfl) (by omega) (by rw [R.flat_len]; omega) (by omega)) ?_
    refine E.G.val (.string (strOfNums (((R.flat V.d V.n).drop (256 * m)).take 256))) (by kernel_rfl) (fun w h => A.Y.str (e := 5) (j := (256 * m)) (len := 256) (c2 := s.c0 - (256 * m)) h.x (k := 1) rfl (by kernel_rfl) (by kernel_rfl) (by kernel_rfl) (by kernel_rfl) (by rw [R.flat_len]; omega)) ?_
    refine E.G.op (.string (strOfNums (((R.flat V.d V.n).drop (256 * m)).take 256))) (fun w => by kernel_rfl) (by kernel_rfl) ?_
    refine E.To.code ?_
    refine E.C.weak [(4, .string (strOfNums (((R.flat V.d V.n).drop (256 * m)).take 256)))] [] ⟨by kernel_rfl, by kernel_rfl⟩ (List.Sublist.refl _) ?_
    refine E.C.ret (E.To.body (fn := Try.f53) [.string (strOfNums (((R.flat V.d V.n).drop (256 * m)).take 256))] ?_ ?_)
    · exact ⟨⟨by kernel_rfl, by kernel_rfl⟩, trivial⟩
    · intro w h
      exact ⟨by rw [R.page_f hm]; rfl, h.ch.bel (fun _ h => h.elim)⟩
theorem R_Fetch {r : Nat} {s : R.Sl} {V : M.V} (hw : R.Wf V) (a : Nat) (ha : a < 4294967296) : A.Rd Try.prog 58 #[.pointer (some ⟨r, 0, none⟩), .int .u32 ((a : Nat) : Int)] (R.its r s V) (.agg #[.int .u32 (V.fetch a).1, .int .u32 (if (V.fetch a).2 then 0 else ((a : Nat) : Int)), .bool (V.fetch a).2]) := by
  intro w oo aa hh
  refine E.enter (n := 18) (S := fun _ => False) Try.func58 rfl rfl (by kernel_rfl) (A.startY hh) ?_
  refine E.C.seq ?_
  refine E.C.region ?_
  refine E.G.new (fun g => .pointer (some ⟨g, 0, none⟩)) [.int .u32 0, .int .u32 0, .bool false] 93 (fun w => by kernel_rfl) (by kernel_rfl) (fun g1 => ?_)
  refine E.To.code ?_
  refine E.C.seq ?_
  refine E.C.region ?_
  refine E.G.op (.pointer (some ⟨r, 0, none⟩)) (fun w => by kernel_rfl) (by kernel_rfl) ?_
  refine E.G.op (.int .u32 ((a : Nat) : Int)) (fun w => by kernel_rfl) (by kernel_rfl) ?_
  refine E.G.call (.bool (V.ok a 4)) (fun w h => A.Y.rd [] (R_right4 hw a (by (first | assumption | ((try simp only [Bool.or_eq_false_iff, Bool.or_eq_true, Bool.and_eq_true, Bool.and_eq_false_iff, Bool.not_eq_eq_eq_not, Bool.not_true, Bool.not_false, decide_eq_true_eq, decide_eq_false_iff_not, ge_iff_le, gt_iff_lt] at *); omega))) (r := r) (s := s) (V := V)) h.x (A.pm [0, 1, 2, 3, 4, 5] (by kernel_rfl) (by kernel_rfl))) (fun w _ => by kernel_rfl) (by kernel_rfl) ?_
  refine E.G.op (.bool (V.ok a 4)) (fun w => by kernel_rfl) (by kernel_rfl) ?_
  refine E.To.code ?_
  refine E.C.seq ?_
  refine E.C.seq ?_
  refine E.C.region ?_
  refine E.G.op (.bool (V.ok a 4)) (fun w => by kernel_rfl) (by kernel_rfl) ?_
  refine E.G.op (.bool (!(V.ok a 4))) (fun w => by kernel_rfl) (by kernel_rfl) ?_
  refine E.To.code ?_
  refine E.C.cond (!(V.ok a 4)) (by kernel_rfl) (by kernel_rfl) (fun hc2 => ?_) (fun hc2 => ?_)
  · skip
    refine E.C.seq ?_
    refine E.C.region ?_
    refine E.G.op (.int .u32 ((a : Nat) : Int)) (fun w => by kernel_rfl) (by kernel_rfl) ?_
    refine E.G.val (.agg #[.int .u32 0, .int .u32 ((a : Nat) : Int), .bool false]) (by kernel_rfl) (fun w h => E.run_build #[.int .u32 0, .int .u32 ((a : Nat) : Int), .bool false] (by kernel_rfl) w) ?_
    refine E.G.store 0 [.int .u32 0, .int .u32 ((a : Nat) : Int), .bool false] rfl rfl (by kernel_rfl) (by kernel_rfl) ?_
    refine E.To.code ?_
    refine E.C.weak [(0, .pointer (some ⟨r, 0, none⟩)), (1, .int .u32 ((a : Nat) : Int)), (4, .pointer (some ⟨g1, 0, none⟩))] [(g1, [.int .u32 0, .int .u32 ((a : Nat) : Int), .bool false])] ⟨by kernel_rfl, by kernel_rfl⟩ (List.Sublist.refl _) ?_
    refine E.C.ret (E.P.rt (E.To.body (fn := Try.f58) [.agg #[.int .u32 0, .int .u32 ((a : Nat) : Int), .bool false]] ?_ ?_))
    · exact ⟨⟨by kernel_rfl, _, _, 0, _, rfl, rfl, by kernel_rfl⟩, trivial⟩
    · intro w h
      exact ⟨by rw [R.fetch_t hc2]; rfl, h.ch.bel (fun _ h => h.elim)⟩
  · skip
    refine E.C.skip (E.To.code ?_)
    refine E.C.seq ?_
    refine E.C.region ?_
    refine E.G.op (.pointer (some ⟨r, 0, none⟩)) (fun w => by kernel_rfl) (by kernel_rfl) ?_
    refine E.G.op (.int .u32 ((a : Nat) : Int)) (fun w => by kernel_rfl) (by kernel_rfl) ?_
    refine E.G.call (.int .u8 (V.code a)) (fun w h => A.Y.rd [] (R_Code hw a (by (first | assumption | ((try simp only [Bool.or_eq_false_iff, Bool.or_eq_true, Bool.and_eq_true, Bool.and_eq_false_iff, Bool.not_eq_eq_eq_not, Bool.not_true, Bool.not_false, decide_eq_true_eq, decide_eq_false_iff_not, ge_iff_le, gt_iff_lt] at *); omega))) (r := r) (s := s) (V := V)) h.x (A.pm [0, 1, 2, 3, 4, 5] (by kernel_rfl) (by kernel_rfl))) (fun w _ => by kernel_rfl) (by kernel_rfl) ?_
    refine E.G.val (.int .u32 (V.code a)) (by kernel_rfl) (fun w h => E.run_as (a := .int .u32 (IntKind.wrap .u32 (V.code a))) (by kernel_rfl) (congrArg (Value.int .u32) (R.u8_32 (R.code_bd hw a)))) ?_
    refine E.G.val (.agg #[.int .u32 (V.code a), .int .u32 0, .bool true]) (by kernel_rfl) (fun w h => E.run_build #[.int .u32 (V.code a), .int .u32 0, .bool true] (by kernel_rfl) w) ?_
    refine E.G.store 0 [.int .u32 (V.code a), .int .u32 0, .bool true] rfl rfl (by kernel_rfl) (by kernel_rfl) ?_
    refine E.To.code ?_
    refine E.C.weak [(4, .pointer (some ⟨g1, 0, none⟩))] [(g1, [.int .u32 (V.code a), .int .u32 0, .bool true])] ⟨by kernel_rfl, by kernel_rfl⟩ (List.Sublist.refl _) ?_
    refine E.C.ret (E.To.body (fn := Try.f58) [.agg #[.int .u32 (V.code a), .int .u32 0, .bool true]] ?_ ?_)
    · exact ⟨⟨by kernel_rfl, _, _, 0, _, rfl, rfl, by kernel_rfl⟩, trivial⟩
    · intro w h
      exact ⟨by rw [R.fetch_f hc2]; rfl, h.ch.bel (fun _ h => h.elim)⟩
end Go.Proofs.Ytdjjjikokfadiaa

/- Walks: the reference memory, Load, printed by wip/eng. No condition but what is named. -/
namespace Go.Proofs.Ytdjjjikokfadiaa
set_option linter.unusedVariables false
set_option linter.unusedSimpArgs false
open Go.RowKit
theorem R.or_low (x b : Int) (h0 : 0 ≤ x) (h1 : x < 4294967296) (h2 : 0 ≤ b) (h3 : b < 256) : bits .or .u32 (x * 2 ^ 8 % 4294967296) b = (x * 256 + b) % 4294967296 := by
  obtain ⟨X, rfl⟩ := Int.eq_ofNat_of_zero_le h0
  obtain ⟨B, rfl⟩ := Int.eq_ofNat_of_zero_le h2
  have e : ((X : Int) * 2 ^ 8 % 4294967296) = ((X % 16777216 * 2 ^ 8 : Nat) : Int) := by
    show ((X : Int) * 256 % 4294967296) = ((X % 16777216 * 256 : Nat) : Int)
    omega
  rw [e, u32_or_nat _ _ (by omega) (by omega)]
  have e2 : X % 16777216 * 2 ^ 8 ||| B = X % 16777216 * 2 ^ 8 + B := by
    rw [Nat.mul_comm, ← Nat.two_pow_add_eq_or_of_lt (by omega)]
  rw [e2]
  show ((X % 16777216 * 256 + B : Nat) : Int) = _
  omega
theorem R.ldv_bd {V : M.V} (hw : R.Wf V) (a n : Nat) : ∀ c, 0 ≤ V.ldv a n c ∧ V.ldv a n c < 4294967296
  | 0 => ⟨Int.le_refl _, by show (0 : Int) < 4294967296; decide⟩
  | c + 1 => by
    have ih := R.ldv_bd hw a n c
    have hb := R.peek_bd hw ((a + (n - 1 - c)) % 4294967296)
    have e : IntKind.wrap .u32 (V.peek ((a + (n - 1 - c)) % 4294967296)) = V.peek ((a + (n - 1 - c)) % 4294967296) := R.u8_32 hb
    show 0 ≤ bits .or .u32 (IntKind.wrap .u32 (V.ldv a n c * 2 ^ 8)) (IntKind.wrap .u32 (V.peek _)) ∧ bits .or .u32 (IntKind.wrap .u32 (V.ldv a n c * 2 ^ 8)) (IntKind.wrap .u32 (V.peek _)) < 4294967296
    rw [e]
    show 0 ≤ bits .or .u32 (V.ldv a n c * 2 ^ 8 % 4294967296) _ ∧ bits .or .u32 (V.ldv a n c * 2 ^ 8 % 4294967296) _ < 4294967296
    rw [R.or_low _ _ ih.1 ih.2 hb.1 hb.2]
    omega
theorem R.ldv_step {V : M.V} (hw : R.Wf V) (a n c : Nat) (h : (a + (n - 1 - c)) % 4294967296 / 256 < V.n) :
    IntKind.wrap .u32 (IntKind.wrap .u32 (V.ldv a n c * 256) + IntKind.wrap .u32 (V.d ((a + (n - 1 - c)) % 4294967296 / 256) ((a + (n - 1 - c)) % 4294967296 % 256))) = V.ldv a n (c + 1) := by
  have ih := R.ldv_bd hw a n c
  have hb := R.peek_bd hw ((a + (n - 1 - c)) % 4294967296)
  have hp : V.peek ((a + (n - 1 - c)) % 4294967296) = V.d ((a + (n - 1 - c)) % 4294967296 / 256) ((a + (n - 1 - c)) % 4294967296 % 256) := if_pos h
  rw [← hp]
  show _ = bits .or .u32 (IntKind.wrap .u32 (V.ldv a n c * 2 ^ 8)) (IntKind.wrap .u32 (V.peek _))
  rw [show IntKind.wrap .u32 (V.peek ((a + (n - 1 - c)) % 4294967296)) = V.peek ((a + (n - 1 - c)) % 4294967296) from R.u8_32 hb]
  show _ = bits .or .u32 (V.ldv a n c * 2 ^ 8 % 4294967296) _
  rw [R.or_low _ _ ih.1 ih.2 hb.1 hb.2]
  show (V.ldv a n c * 256 % 4294967296 + V.peek ((a + (n - 1 - c)) % 4294967296)) % 4294967296 = _
  omega
theorem R.load_t {V : M.V} {a m : Nat} (h : (V.chk a 1 ((m : Nat) : Int)).2 = true) : V.load a ((m : Nat) : Int) = (V.ldv a m m, 0, true) := by
  unfold M.V.load; rw [if_pos h]; rfl
theorem R.load_f {V : M.V} {a : Nat} {n : Int} (h : (V.chk a 1 n).2 = false) : V.load a n = (0, (V.chk a 1 n).1, false) := by
  unfold M.V.load; rw [if_neg (by rw [h]; decide)]
theorem R.chk_0 {V : M.V} {a : Nat} {r n : Int} (h : (V.chk a r n).2 = true) : (V.chk a r n).1 = 0 := by
  unfold M.V.chk at h ⊢
  split
  · rename_i hn
    rw [if_pos hn] at h
    have : ∀ (c i : Nat), (V.chkN a r i c).2 = true → (V.chkN a r i c).1 = 0 := fun c => by
      induction c with
      | zero => exact fun _ _ => rfl
      | succ c ih =>
        intro i h
        rw [M.chkN_s] at h ⊢
        cases hb : V.ok ((a + i) % 4294967296) r with
        | true => rw [hb] at h; exact ih (i + 1) h
        | false => rw [hb] at h; cases h
    exact this _ 0 h
  · rename_i hn; rw [if_neg hn] at h; cases h
theorem R.chk_n {V : M.V} {a : Nat} {r n : Int} (h : (V.chk a r n).2 = true) : 1 ≤ n ∧ n ≤ 4 := by
  unfold M.V.chk at h
  split at h
  · assumption
  · cases h
theorem R.chk_in2 {V : M.V} {a m : Nat} {r : Int} (h : (V.chk a r ((m : Nat) : Int)).2 = true) : ∀ j, j < m → (a + j) % 4294967296 / 256 < V.n := fun j hj => by
  have hn := R.chk_n h
  rw [R.chk_in hn, Int.toNat_natCast] at h
  exact R.chk_ok m 0 h j (Nat.zero_le _) (by omega)
theorem M.V.load_eq (V : M.V) (a : Nat) (n : Int) : V.load a n = V.load a n := rfl
theorem R_Load_m {r : Nat} {s : R.Sl} {V : M.V} (hw : R.Wf V) (a : Nat) (ha : a < 4294967296) (m : Nat) : A.Rd Try.prog 56 #[.pointer (some ⟨r, 0, none⟩), .int .u32 ((a : Nat) : Int), .int .i64 ((m : Nat) : Int)] (R.its r s V) (.agg #[.int .u32 (V.load a ((m : Nat) : Int)).1, .int .u32 (V.load a ((m : Nat) : Int)).2.1, .bool (V.load a ((m : Nat) : Int)).2.2]) := by
  intro w oo aa hh
  refine E.enter (n := 38) (S := fun _ => False) Try.func56 rfl rfl (by kernel_rfl) (A.startY hh) ?_
  refine E.C.seq ?_
  refine E.C.region ?_
  refine E.G.new (fun g => .pointer (some ⟨g, 0, none⟩)) [.int .u32 0, .int .u32 0, .bool false] 93 (fun w => by kernel_rfl) (by kernel_rfl) (fun g1 => ?_)
  refine E.To.code ?_
  refine E.C.seq ?_
  refine E.C.region ?_
  refine E.G.op (.pointer (some ⟨r, 0, none⟩)) (fun w => by kernel_rfl) (by kernel_rfl) ?_
  refine E.G.op (.int .u32 ((a : Nat) : Int)) (fun w => by kernel_rfl) (by kernel_rfl) ?_
  refine E.G.op (.int .i64 ((m : Nat) : Int)) (fun w => by kernel_rfl) (by kernel_rfl) ?_
  refine E.G.call (.agg #[.int .u32 0, .int .u32 ((V.chk a 1 ((m : Nat) : Int)).1), .bool ((V.chk a 1 ((m : Nat) : Int)).2)]) (fun w h => A.Y.rd [] (R_check1 hw a (by (first | assumption | ((try simp only [Bool.or_eq_false_iff, Bool.or_eq_true, Bool.and_eq_true, Bool.and_eq_false_iff, Bool.not_eq_eq_eq_not, Bool.not_true, Bool.not_false, decide_eq_true_eq, decide_eq_false_iff_not, ge_iff_le, gt_iff_lt] at *); omega))) ((m : Nat) : Int) (r := r) (s := s) (V := V)) h.x (A.pm [0, 1, 2, 3, 4, 5] (by kernel_rfl) (by kernel_rfl))) (fun w _ => by kernel_rfl) (by kernel_rfl) ?_
  refine E.G.new (fun g => .pointer (some ⟨g, 0, none⟩)) [.int .u32 0, .int .u32 0, .bool false] 93 (fun w => by kernel_rfl) (by kernel_rfl) (fun g2 => ?_)
  refine E.G.store 0 [.int .u32 0, .int .u32 ((V.chk a 1 ((m : Nat) : Int)).1), .bool ((V.chk a 1 ((m : Nat) : Int)).2)] rfl rfl (by kernel_rfl) (by kernel_rfl) ?_
  refine E.To.code ?_
  refine E.C.seq ?_
  refine E.C.seq ?_
  refine E.C.region ?_
  refine E.G.op (.pointer (some ⟨g2, 2, none⟩)) (fun w => by kernel_rfl) (by kernel_rfl) ?_
  refine E.G.val (.bool ((V.chk a 1 ((m : Nat) : Int)).2)) (by kernel_rfl) (fun w h => E.run_load h 0 rfl rfl (by kernel_rfl)) ?_
  refine E.To.code ?_
  refine E.C.cond ((V.chk a 1 ((m : Nat) : Int)).2) (by kernel_rfl) (by kernel_rfl) (fun hc3 => ?_) (fun hc3 => ?_)
  · skip
    refine E.C.seq ?_
    have hok : (V.chk a 1 ((m : Nat) : Int)).2 = true := hc3
    have hn4 := R.chk_n hok
    have hin := R.chk_in2 hok
    have h0 := R.chk_0 hok
    refine E.C.region ?_
    refine E.G.op (.int .i64 ((m : Nat) : Int)) (fun w => by kernel_rfl) (by kernel_rfl) ?_
    refine E.G.val (.int .i64 (((m : Nat) : Int) - 1 - ((0 : Nat) : Int))) (by kernel_rfl) (fun w h => E.run_as (a := .int .i64 (IntKind.wrap .i64 (((m : Nat) : Int) - 1))) (by kernel_rfl) (congrArg (Value.int .i64) (M.dec0 (by omega)))) ?_
    refine E.G.op (.int .i64 (((m : Nat) : Int) - 1 - ((0 : Nat) : Int))) (fun w => by kernel_rfl) (by kernel_rfl) ?_
    refine E.To.code ?_
    refine E.C.weak [(0, .pointer (some ⟨r, 0, none⟩)), (1, .int .u32 ((a : Nat) : Int)), (6, .pointer (some ⟨g1, 0, none⟩)), (7, .pointer (some ⟨g2, 0, none⟩)), (8, .int .i64 (((m : Nat) : Int) - 1 - ((0 : Nat) : Int)))] [(g2, [.int .u32 0, .int .u32 ((V.chk a 1 ((m : Nat) : Int)).1), .bool ((V.chk a 1 ((m : Nat) : Int)).2)]), (g1, [.int .u32 0, .int .u32 0, .bool false])] ⟨by kernel_rfl, by kernel_rfl⟩ (List.Sublist.refl _) ?_
    refine E.C.block ?_
    refine E.C.relist [(g2, [.int .u32 (V.ldv a m 0), .int .u32 ((V.chk a 1 ((m : Nat) : Int)).1), .bool ((V.chk a 1 ((m : Nat) : Int)).2)]), (g1, [.int .u32 0, .int .u32 0, .bool false])] rfl ?_
    refine E.C.loop (I := Nat) (fun c => m - c) (fun c => c ≤ m) (fun c => [(0, .pointer (some ⟨r, 0, none⟩)), (1, .int .u32 ((a : Nat) : Int)), (6, .pointer (some ⟨g1, 0, none⟩)), (7, .pointer (some ⟨g2, 0, none⟩)), (8, .int .i64 (((m : Nat) : Int) - 1 - ((c : Nat) : Int)))]) (fun c => A.Y [A.blk r [.slice s.a0 (256 * V.n) s.c0, .slice s.a1 (256 * R.len V) s.c1, .slice s.a2 (256 * V.n) s.c2, .slice s.a3 (256 * R.len V) s.c3, .slice s.a4 V.n s.c4, .bool V.coh], A.vec .u8 s.a0 s.c0 (R.flat V.d V.n), A.vec .u8 s.a1 s.c1 (R.flat V.i (R.len V)), A.vec .u8 s.a2 s.c2 (R.flat V.cd V.n), A.vec .u8 s.a3 s.c3 (R.flat V.ci (R.len V)), A.vec .i64 s.a4 s.c4 (R.rts V.r V.n)]) (fun c => [(g2, [.int .u32 (V.ldv a m c), .int .u32 ((V.chk a 1 ((m : Nat) : Int)).1), .bool ((V.chk a 1 ((m : Nat) : Int)).2)]), (g1, [.int .u32 0, .int .u32 0, .bool false])]) 0 (Nat.zero_le _) ⟨by kernel_rfl, by kernel_rfl⟩ (List.Sublist.refl _) (fun _ h => h) (fun c hk1 => ?_)
    refine E.C.seq ?_
    refine E.C.seq ?_
    refine E.C.region ?_
    refine E.G.op (.int .i64 (((m : Nat) : Int) - 1 - ((c : Nat) : Int))) (fun w => by kernel_rfl) (by kernel_rfl) ?_
    refine E.G.op (.bool (decide ((((m : Nat) : Int) - 1 - ((c : Nat) : Int)) ≥ 0))) (fun w => by kernel_rfl) (by kernel_rfl) ?_
    refine E.To.code ?_
    refine E.C.cond (decide ((((m : Nat) : Int) - 1 - ((c : Nat) : Int)) ≥ 0)) (by kernel_rfl) (by kernel_rfl) (fun hc4 => ?_) (fun hc4 => ?_)
    · skip
      refine E.C.skip (E.To.code ?_)
      refine E.C.seq ?_
      refine E.C.block ?_
      have hb := hin (m - 1 - c) (by (first | assumption | ((try simp only [Bool.or_eq_false_iff, Bool.or_eq_true, Bool.and_eq_true, Bool.and_eq_false_iff, Bool.not_eq_eq_eq_not, Bool.not_true, Bool.not_false, decide_eq_true_eq, decide_eq_false_iff_not, ge_iff_le, gt_iff_lt] at *); omega)))
      refine E.C.held (E.Hp (fun _ => False) w (A.Y [A.blk r [.slice s.a0 (256 * V.n) s.c0, .slice s.a1 (256 * R.len V) s.c1, .slice s.a2 (256 * V.n) s.c2, .slice s.a3 (256 * R.len V) s.c3, .slice s.a4 V.n s.c4, .bool V.coh], A.vec .u8 s.a0 s.c0 (R.flat V.d V.n), A.vec .u8 s.a1 s.c1 (R.flat V.i (R.len V)), A.vec .u8 s.a2 s.c2 (R.flat V.cd V.n), A.vec .u8 s.a3 s.c3 (R.flat V.ci (R.len V)), A.vec .i64 s.a4 s.c4 (R.rts V.r V.n)]) [(g1, [.int .u32 0, .int .u32 0, .bool false])]) (by kernel_rfl) ?_
      refine E.H.take 0 (.pointer (some ⟨g2, 0, none⟩)) rfl (by kernel_rfl) (by kernel_rfl) (by kernel_rfl) (fun _ _ _ h => h) (fun w h => h.less (List.Sublist.cons _ (List.Sublist.refl _))) (.inl ⟨by kernel_rfl, by kernel_rfl, fun w h => by kernel_rfl⟩) (by kernel_rfl) ?_
      refine E.H.take 3 (.pointer (some ⟨r, 0, none⟩)) rfl (by kernel_rfl) (by kernel_rfl) (by kernel_rfl) (fun _ _ _ h => h) (fun w h => h.less (List.Sublist.cons _ (List.Sublist.refl _))) (.inl ⟨by kernel_rfl, by kernel_rfl, fun w h => by kernel_rfl⟩) (by kernel_rfl) ?_
      refine E.H.take 4 (.pointer (some ⟨r, 0, none⟩)) rfl (by kernel_rfl) (by kernel_rfl) (by kernel_rfl) (fun _ _ _ h => h) (fun w h => h.less (List.Sublist.cons _ (List.Sublist.refl _))) (.inl ⟨by kernel_rfl, by kernel_rfl, fun w h => by kernel_rfl⟩) (by kernel_rfl) ?_
      refine E.H.take 5 (.pointer (some ⟨r, 0, none⟩)) rfl (by kernel_rfl) (by kernel_rfl) (by kernel_rfl) (fun _ _ _ h => h) (fun w h => h.less (List.Sublist.cons _ (List.Sublist.refl _))) (.inl ⟨by kernel_rfl, by kernel_rfl, fun w h => by kernel_rfl⟩) (by kernel_rfl) ?_
      refine E.H.take 6 (.slice s.a0 (256 * V.n) s.c0) rfl (by kernel_rfl) (by kernel_rfl) (by kernel_rfl) (fun _ _ _ h => h) (fun w h => h.less (List.Sublist.cons _ (List.Sublist.refl _))) (.inl ⟨by kernel_rfl, by kernel_rfl, fun w h => A.Y.bld h.x (k := 0) (j := 0) rfl (by kernel_rfl) (by kernel_rfl)⟩) (by kernel_rfl) ?_
      refine E.H.take 7 (.int .u32 ((a : Nat) : Int)) rfl (by kernel_rfl) (by kernel_rfl) (by kernel_rfl) (fun _ _ _ h => h) (fun w h => h.less (List.Sublist.cons _ (List.Sublist.refl _))) (.inl ⟨by kernel_rfl, by kernel_rfl, fun w h => by kernel_rfl⟩) (by kernel_rfl) ?_
      refine E.H.take 8 (.int .i64 (((m : Nat) : Int) - 1 - ((c : Nat) : Int))) rfl (by kernel_rfl) (by kernel_rfl) (by kernel_rfl) (fun _ _ _ h => h) (fun w h => h.less (List.Sublist.cons _ (List.Sublist.refl _))) (.inl ⟨by kernel_rfl, by kernel_rfl, fun w h => by kernel_rfl⟩) (by kernel_rfl) ?_
      refine E.H.take 9 (.int .u32 (IntKind.wrap .u32 (((m : Nat) : Int) - 1 - ((c : Nat) : Int)))) rfl (by kernel_rfl) (by kernel_rfl) (by kernel_rfl) (fun _ _ _ h => h) (fun w h => h.less (List.Sublist.cons _ (List.Sublist.refl _))) (.inl ⟨by kernel_rfl, by kernel_rfl, fun w h => by kernel_rfl⟩) (by kernel_rfl) ?_
      refine E.H.take 10 (.int .u32 (((a + (m - 1 - c)) % 4294967296 : Nat) : Int)) rfl (by kernel_rfl) (by kernel_rfl) (by kernel_rfl) (fun _ _ _ h => h) (fun w h => h.less (List.Sublist.cons _ (List.Sublist.refl _))) (.inl ⟨by kernel_rfl, by kernel_rfl, fun w h => E.run_as (a := .int .u32 (IntKind.wrap .u32 (((a : Nat) : Int) + (IntKind.wrap .u32 (((m : Nat) : Int) - 1 - ((c : Nat) : Int)))))) (by kernel_rfl) (congrArg (Value.int .u32) (M.add32n (by (first | assumption | ((try simp only [Bool.or_eq_false_iff, Bool.or_eq_true, Bool.and_eq_true, Bool.and_eq_false_iff, Bool.not_eq_eq_eq_not, Bool.not_true, Bool.not_false, decide_eq_true_eq, decide_eq_false_iff_not, ge_iff_le, gt_iff_lt] at *); omega))) (by omega)))⟩) (by kernel_rfl) ?_
      refine E.H.take 11 (.pointer (some ⟨(A.bk s.a0), ((a + (m - 1 - c)) % 4294967296), none⟩)) rfl (by kernel_rfl) (by kernel_rfl) (by kernel_rfl) (fun _ _ _ h => h) (fun w h => h.less (List.Sublist.cons _ (List.Sublist.refl _))) (.inl ⟨by kernel_rfl, by kernel_rfl, fun w h => A.Y.idx (e := 5) (ik := .u32) (i := ((a + (m - 1 - c)) % 4294967296)) (len := (256 * V.n)) (c2 := s.c0) h.x (k := 1) rfl (by kernel_rfl) (by kernel_rfl) (by kernel_rfl) (by kernel_rfl) (by (first | assumption | ((try simp only [Bool.or_eq_false_iff, Bool.or_eq_true, Bool.and_eq_true, Bool.and_eq_false_iff, Bool.not_eq_eq_eq_not, Bool.not_true, Bool.not_false, decide_eq_true_eq, decide_eq_false_iff_not, ge_iff_le, gt_iff_lt] at *); omega))) (by simp only [R.flat_len]; (first | assumption | ((try simp only [Bool.or_eq_false_iff, Bool.or_eq_true, Bool.and_eq_true, Bool.and_eq_false_iff, Bool.not_eq_eq_eq_not, Bool.not_true, Bool.not_false, decide_eq_true_eq, decide_eq_false_iff_not, ge_iff_le, gt_iff_lt] at *); omega)))⟩) (by kernel_rfl) ?_
      refine E.H.take 12 (.int .u8 (V.d (((a + (m - 1 - c)) % 4294967296) / 256) (((a + (m - 1 - c)) % 4294967296) % 256))) rfl (by kernel_rfl) (by kernel_rfl) (by kernel_rfl) (fun _ _ _ h => h) (fun w h => h.less (List.Sublist.cons _ (List.Sublist.refl _))) (.inl ⟨by kernel_rfl, by kernel_rfl, fun w h => E.run_as (a := .int .u8 ((R.flat V.d V.n).getD ((a + (m - 1 - c)) % 4294967296) 0)) (A.Y.vld h.x (k := 1) (i := ((a + (m - 1 - c)) % 4294967296)) rfl (by kernel_rfl) (by kernel_rfl) (by simp only [R.flat_len]; (first | assumption | ((try simp only [Bool.or_eq_false_iff, Bool.or_eq_true, Bool.and_eq_true, Bool.and_eq_false_iff, Bool.not_eq_eq_eq_not, Bool.not_true, Bool.not_false, decide_eq_true_eq, decide_eq_false_iff_not, ge_iff_le, gt_iff_lt] at *); omega)))) (congrArg (Value.int .u8) (R.flat_get (by (first | assumption | ((try simp only [Bool.or_eq_false_iff, Bool.or_eq_true, Bool.and_eq_true, Bool.and_eq_false_iff, Bool.not_eq_eq_eq_not, Bool.not_true, Bool.not_false, decide_eq_true_eq, decide_eq_false_iff_not, ge_iff_le, gt_iff_lt] at *); omega)))))⟩) (by kernel_rfl) ?_
      refine E.H.take 13 (.int .u32 (IntKind.wrap .u32 (V.d (((a + (m - 1 - c)) % 4294967296) / 256) (((a + (m - 1 - c)) % 4294967296) % 256)))) rfl (by kernel_rfl) (by kernel_rfl) (by kernel_rfl) (fun _ _ _ h => h) (fun w h => h.less (List.Sublist.cons _ (List.Sublist.refl _))) (.inl ⟨by kernel_rfl, by kernel_rfl, fun w h => by kernel_rfl⟩) (by kernel_rfl) ?_
      refine E.H.all [1] (by kernel_rfl) (by simp) (List.forall_mem_cons.2 ⟨⟨_, rfl, ?_⟩, fun _ h => (List.not_mem_nil h).elim⟩)
      · skip
        refine E.G.val (.int .u32 (V.ldv a m c)) (by kernel_rfl) (fun w h => E.run_load h 0 rfl rfl (by kernel_rfl)) ?_
        refine E.H.back (fun w h => h.less (List.Sublist.cons _ (List.Sublist.refl _))) ?_
        refine E.H.take 2 (.int .u32 (IntKind.wrap .u32 ((V.ldv a m c) * 256))) rfl (by kernel_rfl) (by kernel_rfl) (by kernel_rfl) (fun _ _ _ h => h) (fun w h => h.less (List.Sublist.cons _ (List.Sublist.refl _))) (.inl ⟨by kernel_rfl, by kernel_rfl, fun w h => by kernel_rfl⟩) (by kernel_rfl) ?_
        refine E.H.take 14 (.int .u32 (V.ldv a m (c + 1))) rfl (by kernel_rfl) (by kernel_rfl) (by kernel_rfl) (fun _ _ _ h => h) (fun w h => h.less (List.Sublist.cons _ (List.Sublist.refl _))) (.inl ⟨by kernel_rfl, by kernel_rfl, fun w h => E.run_as (a := .int .u32 (IntKind.wrap .u32 ((IntKind.wrap .u32 ((V.ldv a m c) * 256)) + (IntKind.wrap .u32 (V.d (((a + (m - 1 - c)) % 4294967296) / 256) (((a + (m - 1 - c)) % 4294967296) % 256)))))) (by kernel_rfl) (congrArg (Value.int .u32) (R.ldv_step hw a m c (by omega)))⟩) (by kernel_rfl) ?_
        refine E.H.take 15 (.pointer (some ⟨g2, 0, none⟩)) rfl (by kernel_rfl) (by kernel_rfl) (by kernel_rfl) (fun _ _ _ h => h) (fun w h => h.less (List.Sublist.cons _ (List.Sublist.refl _))) (.inl ⟨by kernel_rfl, by kernel_rfl, fun w h => by kernel_rfl⟩) (by kernel_rfl) ?_
        refine E.H.all [16] (by kernel_rfl) (by simp) (List.forall_mem_cons.2 ⟨⟨_, rfl, ?_⟩, fun _ h => (List.not_mem_nil h).elim⟩)
        · skip
          refine E.G.store 0 [.int .u32 (V.ldv a m (c + 1)), .int .u32 ((V.chk a 1 ((m : Nat) : Int)).1), .bool ((V.chk a 1 ((m : Nat) : Int)).2)] rfl rfl (by kernel_rfl) (by kernel_rfl) ?_
          refine E.H.back (fun w h => h.less (List.Sublist.cons _ (List.Sublist.refl _))) ?_
          refine E.H.done (by kernel_rfl) ?_
          refine E.P.nb (E.To.code ?_)
          refine E.C.region ?_
          refine E.G.op (.int .i64 (((m : Nat) : Int) - 1 - ((c : Nat) : Int))) (fun w => by kernel_rfl) (by kernel_rfl) ?_
          refine E.G.val (.int .i64 (((m : Nat) : Int) - 1 - ((c + 1 : Nat) : Int))) (by kernel_rfl) (fun w h => E.run_as (a := .int .i64 (IntKind.wrap .i64 ((((m : Nat) : Int) - 1 - ((c : Nat) : Int)) - 1))) (by kernel_rfl) (congrArg (Value.int .i64) (M.dec1 (by omega) (by omega)))) ?_
          refine E.G.op (.int .i64 (((m : Nat) : Int) - 1 - ((c + 1 : Nat) : Int))) (fun w => by kernel_rfl) (by kernel_rfl) ?_
          exact E.To.round (c + 1) (by (first | assumption | ((try simp only [Bool.or_eq_false_iff, Bool.or_eq_true, Bool.and_eq_true, Bool.and_eq_false_iff, Bool.not_eq_eq_eq_not, Bool.not_true, Bool.not_false, decide_eq_true_eq, decide_eq_false_iff_not, ge_iff_le, gt_iff_lt] at *); omega))) (by (first | assumption | ((try simp only [Bool.or_eq_false_iff, Bool.or_eq_true, Bool.and_eq_true, Bool.and_eq_false_iff, Bool.not_eq_eq_eq_not, Bool.not_true, Bool.not_false, decide_eq_true_eq, decide_eq_false_iff_not, ge_iff_le, gt_iff_lt] at *); omega))) ⟨by kernel_rfl, by kernel_rfl⟩ (List.Sublist.refl _) (fun _ h => h)
    · skip
      refine E.C.exit (E.P.et (E.P.et (E.P.eh (E.To.code ?_))))
      refine E.C.seq ?_
      refine E.C.region ?_
      refine E.G.val (.agg #[.int .u32 (V.ldv a m c), .int .u32 ((V.chk a 1 ((m : Nat) : Int)).1), .bool ((V.chk a 1 ((m : Nat) : Int)).2)]) (by kernel_rfl) (fun w h => E.run_load h 0 rfl rfl (by kernel_rfl)) ?_
      refine E.G.store 1 [.int .u32 (V.ldv a m c), .int .u32 ((V.chk a 1 ((m : Nat) : Int)).1), .bool ((V.chk a 1 ((m : Nat) : Int)).2)] rfl rfl (by kernel_rfl) (by kernel_rfl) ?_
      refine E.To.code ?_
      refine E.C.ret (E.To.body (fn := Try.f56) [.agg #[.int .u32 (V.ldv a m c), .int .u32 ((V.chk a 1 ((m : Nat) : Int)).1), .bool ((V.chk a 1 ((m : Nat) : Int)).2)]] ?_ ?_)
      · exact ⟨⟨by kernel_rfl, _, _, 1, _, rfl, rfl, by kernel_rfl⟩, trivial⟩
      · intro w h
        obtain rfl : c = m := by (first | assumption | ((try simp only [Bool.or_eq_false_iff, Bool.or_eq_true, Bool.and_eq_true, Bool.and_eq_false_iff, Bool.not_eq_eq_eq_not, Bool.not_true, Bool.not_false, decide_eq_true_eq, decide_eq_false_iff_not, ge_iff_le, gt_iff_lt] at *); omega))
        exact ⟨by rw [R.load_t hok, h0, hok]; rfl, h.ch.bel (fun _ h => h.elim)⟩
  · skip
    refine E.C.skip (E.To.code ?_)
    refine E.C.weak [(6, .pointer (some ⟨g1, 0, none⟩)), (7, .pointer (some ⟨g2, 0, none⟩))] [(g2, [.int .u32 0, .int .u32 ((V.chk a 1 ((m : Nat) : Int)).1), .bool ((V.chk a 1 ((m : Nat) : Int)).2)]), (g1, [.int .u32 0, .int .u32 0, .bool false])] ⟨by kernel_rfl, by kernel_rfl⟩ (List.Sublist.refl _) ?_
    refine E.C.seq ?_
    refine E.C.region ?_
    refine E.G.val (.agg #[.int .u32 0, .int .u32 ((V.chk a 1 ((m : Nat) : Int)).1), .bool ((V.chk a 1 ((m : Nat) : Int)).2)]) (by kernel_rfl) (fun w h => E.run_load h 0 rfl rfl (by kernel_rfl)) ?_
    refine E.G.store 1 [.int .u32 0, .int .u32 ((V.chk a 1 ((m : Nat) : Int)).1), .bool ((V.chk a 1 ((m : Nat) : Int)).2)] rfl rfl (by kernel_rfl) (by kernel_rfl) ?_
    refine E.To.code ?_
    refine E.C.ret (E.To.body (fn := Try.f56) [.agg #[.int .u32 0, .int .u32 ((V.chk a 1 ((m : Nat) : Int)).1), .bool ((V.chk a 1 ((m : Nat) : Int)).2)]] ?_ ?_)
    · exact ⟨⟨by kernel_rfl, _, _, 1, _, rfl, rfl, by kernel_rfl⟩, trivial⟩
    · intro w h
      exact ⟨by rw [R.load_f hc3, hc3]; rfl, h.ch.bel (fun _ h => h.elim)⟩
end Go.Proofs.Ytdjjjikokfadiaa

/- Walks: the reference memory, Poke, printed by wip/eng. No condition but what is named. -/
namespace Go.Proofs.Ytdjjjikokfadiaa
set_option linter.unusedVariables false
set_option linter.unusedSimpArgs false
open Go.RowKit
theorem M.V.set_out {V : M.V} {a : Nat} {v : Int} (h : ¬ a / 256 < V.n) : V.set a v = V := if_neg h
theorem R.its_set {r : Nat} {s : R.Sl} {V : M.V} {a : Nat} {v : Int} (h : a / 256 < V.n) : [A.blk r (R.cells s V), A.vec .u8 s.a0 s.c0 ((R.flat V.d V.n).set a v), A.vec .u8 s.a1 s.c1 (R.flat V.i (R.len V)), A.vec .u8 s.a2 s.c2 (R.flat V.cd V.n), A.vec .u8 s.a3 s.c3 (R.flat V.ci (R.len V)), A.vec .i64 s.a4 s.c4 (R.rts V.r V.n)] = R.its r s (V.set a v) := by
  unfold R.its
  rw [← R.vs_set h, R.cells_eq (V := V.set a v) (W := V) (R.set_n _ _ _) (R.set_coh _ _ _)]
theorem R_Poke {r : Nat} {s : R.Sl} {V : M.V} (a : Nat) (ha : a < 4294967296) (b : ByteArray) (hb : b.size < 4294967296) : A.Tr Try.prog 60 #[.pointer (some ⟨r, 0, none⟩), .int .u32 ((a : Nat) : Int), .string b] (R.its r s V) (I := Unit) (fun _ => True) (fun _ => .tuple #[]) (fun _ => R.its r s (V.poke a b b.size)) := by
  intro w oo aa hh
  refine E.enter (n := 33) (S := oo) Try.func60 rfl rfl (by kernel_rfl) (A.start (L := []) hh) ?_
  refine E.C.seq ?_
  refine E.C.region ?_
  refine E.G.op (.int .i64 0) (fun w => by kernel_rfl) (by kernel_rfl) ?_
  refine E.To.code ?_
  refine E.C.block ?_
  refine E.C.loop (I := Nat) (fun i => b.size - i) (fun i => i ≤ b.size) (fun i => [(0, .pointer (some ⟨r, 0, none⟩)), (1, .int .u32 ((a : Nat) : Int)), (2, .string b), (6, .int .i64 ((i : Nat) : Int))]) (fun i => A.X w oo aa [A.blk r [.slice s.a0 (256 * (V.poke a b i).n) s.c0, .slice s.a1 (256 * R.len (V.poke a b i)) s.c1, .slice s.a2 (256 * (V.poke a b i).n) s.c2, .slice s.a3 (256 * R.len (V.poke a b i)) s.c3, .slice s.a4 ((V.poke a b i).n) s.c4, .bool ((V.poke a b i).coh)], A.vec .u8 s.a0 s.c0 (R.flat (V.poke a b i).d (V.poke a b i).n), A.vec .u8 s.a1 s.c1 (R.flat (V.poke a b i).i (R.len (V.poke a b i))), A.vec .u8 s.a2 s.c2 (R.flat (V.poke a b i).cd (V.poke a b i).n), A.vec .u8 s.a3 s.c3 (R.flat (V.poke a b i).ci (R.len (V.poke a b i))), A.vec .i64 s.a4 s.c4 (R.rts (V.poke a b i).r (V.poke a b i).n)]) (fun i => []) 0 (Nat.zero_le _) ⟨by kernel_rfl, by kernel_rfl⟩ (List.Sublist.refl _) (fun _ h => h) (fun i hk1 => ?_)
  refine E.C.seq ?_
  refine E.C.seq ?_
  refine E.C.region ?_
  refine E.G.op (.int .i64 ((i : Nat) : Int)) (fun w => by kernel_rfl) (by kernel_rfl) ?_
  refine E.G.op (.string b) (fun w => by kernel_rfl) (by kernel_rfl) ?_
  refine E.G.op (.int .i64 ((b.size : Nat) : Int)) (fun w => by kernel_rfl) (by kernel_rfl) ?_
  refine E.G.op (.bool (decide (((i : Nat) : Int) < ((b.size : Nat) : Int)))) (fun w => by kernel_rfl) (by kernel_rfl) ?_
  refine E.To.code ?_
  refine E.C.cond (decide (((i : Nat) : Int) < ((b.size : Nat) : Int))) (by kernel_rfl) (by kernel_rfl) (fun hc1 => ?_) (fun hc1 => ?_)
  · skip
    refine E.C.skip (E.To.code ?_)
    refine E.C.seq ?_
    refine E.C.block ?_
    refine E.C.seq ?_
    refine E.C.region ?_
    refine E.G.op (.pointer (some ⟨r, 0, none⟩)) (fun w => by kernel_rfl) (by kernel_rfl) ?_
    refine E.G.op (.int .u32 ((a : Nat) : Int)) (fun w => by kernel_rfl) (by kernel_rfl) ?_
    refine E.G.op (.int .i64 ((i : Nat) : Int)) (fun w => by kernel_rfl) (by kernel_rfl) ?_
    refine E.G.val (.int .u32 ((i : Nat) : Int)) (by kernel_rfl) (fun w h => E.run_as (a := .int .u32 (IntKind.wrap .u32 ((i : Nat) : Int))) (by kernel_rfl) (congrArg (Value.int .u32) (by exact Nz.w32 (x := i) (by (first | assumption | ((try simp only [Bool.or_eq_false_iff, Bool.or_eq_true, Bool.and_eq_true, Bool.and_eq_false_iff, Bool.not_eq_eq_eq_not, Bool.not_true, Bool.not_false, decide_eq_true_eq, decide_eq_false_iff_not, ge_iff_le, gt_iff_lt] at *); omega)))))) ?_
    refine E.G.val (.int .u32 (((a + i) % 4294967296 : Nat) : Int)) (by kernel_rfl) (fun w h => E.run_as (a := .int .u32 (IntKind.wrap .u32 (((a : Nat) : Int) + ((i : Nat) : Int)))) (by kernel_rfl) (congrArg (Value.int .u32) (by exact Nz.add32 a i))) ?_
    refine E.G.call (.bool (decide (((a + i) % 4294967296) / 256 < (V.poke a b i).n))) (fun w h => A.call_rd [] (R_In ((a + i) % 4294967296) (by (first | assumption | ((try simp only [Bool.or_eq_false_iff, Bool.or_eq_true, Bool.and_eq_true, Bool.and_eq_false_iff, Bool.not_eq_eq_eq_not, Bool.not_true, Bool.not_false, decide_eq_true_eq, decide_eq_false_iff_not, ge_iff_le, gt_iff_lt] at *); omega))) (r := r) (s := s) (V := (V.poke a b i))) h (by kernel_rfl) (A.pm [0, 1, 2, 3, 4, 5] (by kernel_rfl) (by kernel_rfl))) (fun w _ => by kernel_rfl) (by kernel_rfl) ?_
    refine E.G.op (.bool (decide (((a + i) % 4294967296) / 256 < (V.poke a b i).n))) (fun w => by kernel_rfl) (by kernel_rfl) ?_
    refine E.To.code ?_
    refine E.C.seq ?_
    refine E.C.region ?_
    refine E.G.op (.bool (decide (((a + i) % 4294967296) / 256 < (V.poke a b i).n))) (fun w => by kernel_rfl) (by kernel_rfl) ?_
    refine E.To.code ?_
    refine E.C.cond (decide (((a + i) % 4294967296) / 256 < (V.poke a b i).n)) (by kernel_rfl) (by kernel_rfl) (fun hc2 => ?_) (fun hc2 => ?_)
    · skip
      refine E.C.know (p := s.a0 = some ⟨A.bk s.a0, 0, none⟩) (fun w h => A.Y.ao (A.X.y h.x) (k := 1) rfl (by simp only [R.flat_len]; (first | assumption | ((try simp only [Bool.or_eq_false_iff, Bool.or_eq_true, Bool.and_eq_true, Bool.and_eq_false_iff, Bool.not_eq_eq_eq_not, Bool.not_true, Bool.not_false, decide_eq_true_eq, decide_eq_false_iff_not, ge_iff_le, gt_iff_lt] at *); omega)))) (fun hao3 => ?_)
      refine E.C.held (A.Y [A.blk r [.slice s.a0 (256 * (V.poke a b i).n) s.c0, .slice s.a1 (256 * R.len (V.poke a b i)) s.c1, .slice s.a2 (256 * (V.poke a b i).n) s.c2, .slice s.a3 (256 * R.len (V.poke a b i)) s.c3, .slice s.a4 ((V.poke a b i).n) s.c4, .bool ((V.poke a b i).coh)], A.vec .u8 s.a1 s.c1 (R.flat (V.poke a b i).i (R.len (V.poke a b i))), A.vec .u8 s.a2 s.c2 (R.flat (V.poke a b i).cd (V.poke a b i).n), A.vec .u8 s.a3 s.c3 (R.flat (V.poke a b i).ci (R.len (V.poke a b i))), A.vec .i64 s.a4 s.c4 (R.rts (V.poke a b i).r (V.poke a b i).n)]) (by kernel_rfl) ?_
      refine E.H.take 0 (.pointer (some ⟨r, 0, none⟩)) rfl (by kernel_rfl) (by kernel_rfl) (by kernel_rfl) (fun _ _ _ h => h) (fun w h => A.Y.part (p := [A.blk r [.slice s.a0 (256 * (V.poke a b i).n) s.c0, .slice s.a1 (256 * R.len (V.poke a b i)) s.c1, .slice s.a2 (256 * (V.poke a b i).n) s.c2, .slice s.a3 (256 * R.len (V.poke a b i)) s.c3, .slice s.a4 ((V.poke a b i).n) s.c4, .bool ((V.poke a b i).coh)], A.vec .u8 s.a1 s.c1 (R.flat (V.poke a b i).i (R.len (V.poke a b i))), A.vec .u8 s.a2 s.c2 (R.flat (V.poke a b i).cd (V.poke a b i).n), A.vec .u8 s.a3 s.c3 (R.flat (V.poke a b i).ci (R.len (V.poke a b i))), A.vec .i64 s.a4 s.c4 (R.rts (V.poke a b i).r (V.poke a b i).n)]) (r := [A.vec .u8 s.a0 s.c0 (R.flat (V.poke a b i).d (V.poke a b i).n)]) (A.X.y h.x) (A.pm [0, 2, 3, 4, 5, 1] (by kernel_rfl) (by kernel_rfl))) (.inl ⟨by kernel_rfl, by kernel_rfl, fun w h => by kernel_rfl⟩) (by kernel_rfl) ?_
      refine E.H.take 1 (.pointer (some ⟨r, 0, none⟩)) rfl (by kernel_rfl) (by kernel_rfl) (by kernel_rfl) (fun _ _ _ h => h) (fun w h => A.Y.part (p := [A.blk r [.slice s.a0 (256 * (V.poke a b i).n) s.c0, .slice s.a1 (256 * R.len (V.poke a b i)) s.c1, .slice s.a2 (256 * (V.poke a b i).n) s.c2, .slice s.a3 (256 * R.len (V.poke a b i)) s.c3, .slice s.a4 ((V.poke a b i).n) s.c4, .bool ((V.poke a b i).coh)], A.vec .u8 s.a1 s.c1 (R.flat (V.poke a b i).i (R.len (V.poke a b i))), A.vec .u8 s.a2 s.c2 (R.flat (V.poke a b i).cd (V.poke a b i).n), A.vec .u8 s.a3 s.c3 (R.flat (V.poke a b i).ci (R.len (V.poke a b i))), A.vec .i64 s.a4 s.c4 (R.rts (V.poke a b i).r (V.poke a b i).n)]) (r := [A.vec .u8 s.a0 s.c0 (R.flat (V.poke a b i).d (V.poke a b i).n)]) (A.X.y h.x) (A.pm [0, 2, 3, 4, 5, 1] (by kernel_rfl) (by kernel_rfl))) (.inl ⟨by kernel_rfl, by kernel_rfl, fun w h => by kernel_rfl⟩) (by kernel_rfl) ?_
      refine E.H.take 2 (.pointer (some ⟨r, 0, none⟩)) rfl (by kernel_rfl) (by kernel_rfl) (by kernel_rfl) (fun _ _ _ h => h) (fun w h => A.Y.part (p := [A.blk r [.slice s.a0 (256 * (V.poke a b i).n) s.c0, .slice s.a1 (256 * R.len (V.poke a b i)) s.c1, .slice s.a2 (256 * (V.poke a b i).n) s.c2, .slice s.a3 (256 * R.len (V.poke a b i)) s.c3, .slice s.a4 ((V.poke a b i).n) s.c4, .bool ((V.poke a b i).coh)], A.vec .u8 s.a1 s.c1 (R.flat (V.poke a b i).i (R.len (V.poke a b i))), A.vec .u8 s.a2 s.c2 (R.flat (V.poke a b i).cd (V.poke a b i).n), A.vec .u8 s.a3 s.c3 (R.flat (V.poke a b i).ci (R.len (V.poke a b i))), A.vec .i64 s.a4 s.c4 (R.rts (V.poke a b i).r (V.poke a b i).n)]) (r := [A.vec .u8 s.a0 s.c0 (R.flat (V.poke a b i).d (V.poke a b i).n)]) (A.X.y h.x) (A.pm [0, 2, 3, 4, 5, 1] (by kernel_rfl) (by kernel_rfl))) (.inl ⟨by kernel_rfl, by kernel_rfl, fun w h => by kernel_rfl⟩) (by kernel_rfl) ?_
      refine E.H.take 3 (.slice s.a0 (256 * (V.poke a b i).n) s.c0) rfl (by kernel_rfl) (by kernel_rfl) (by kernel_rfl) (fun _ _ _ h => h) (fun w h => A.Y.part (p := [A.blk r [.slice s.a0 (256 * (V.poke a b i).n) s.c0, .slice s.a1 (256 * R.len (V.poke a b i)) s.c1, .slice s.a2 (256 * (V.poke a b i).n) s.c2, .slice s.a3 (256 * R.len (V.poke a b i)) s.c3, .slice s.a4 ((V.poke a b i).n) s.c4, .bool ((V.poke a b i).coh)], A.vec .u8 s.a1 s.c1 (R.flat (V.poke a b i).i (R.len (V.poke a b i))), A.vec .u8 s.a2 s.c2 (R.flat (V.poke a b i).cd (V.poke a b i).n), A.vec .u8 s.a3 s.c3 (R.flat (V.poke a b i).ci (R.len (V.poke a b i))), A.vec .i64 s.a4 s.c4 (R.rts (V.poke a b i).r (V.poke a b i).n)]) (r := [A.vec .u8 s.a0 s.c0 (R.flat (V.poke a b i).d (V.poke a b i).n)]) (A.X.y h.x) (A.pm [0, 2, 3, 4, 5, 1] (by kernel_rfl) (by kernel_rfl))) (.inl ⟨by kernel_rfl, by kernel_rfl, fun w h => A.Y.bld h (k := 0) (j := 0) rfl (by kernel_rfl) (by kernel_rfl)⟩) (by kernel_rfl) ?_
      refine E.H.take 4 (.int .u32 ((a : Nat) : Int)) rfl (by kernel_rfl) (by kernel_rfl) (by kernel_rfl) (fun _ _ _ h => h) (fun w h => A.Y.part (p := [A.blk r [.slice s.a0 (256 * (V.poke a b i).n) s.c0, .slice s.a1 (256 * R.len (V.poke a b i)) s.c1, .slice s.a2 (256 * (V.poke a b i).n) s.c2, .slice s.a3 (256 * R.len (V.poke a b i)) s.c3, .slice s.a4 ((V.poke a b i).n) s.c4, .bool ((V.poke a b i).coh)], A.vec .u8 s.a1 s.c1 (R.flat (V.poke a b i).i (R.len (V.poke a b i))), A.vec .u8 s.a2 s.c2 (R.flat (V.poke a b i).cd (V.poke a b i).n), A.vec .u8 s.a3 s.c3 (R.flat (V.poke a b i).ci (R.len (V.poke a b i))), A.vec .i64 s.a4 s.c4 (R.rts (V.poke a b i).r (V.poke a b i).n)]) (r := [A.vec .u8 s.a0 s.c0 (R.flat (V.poke a b i).d (V.poke a b i).n)]) (A.X.y h.x) (A.pm [0, 2, 3, 4, 5, 1] (by kernel_rfl) (by kernel_rfl))) (.inl ⟨by kernel_rfl, by kernel_rfl, fun w h => by kernel_rfl⟩) (by kernel_rfl) ?_
      refine E.H.take 5 (.int .i64 ((i : Nat) : Int)) rfl (by kernel_rfl) (by kernel_rfl) (by kernel_rfl) (fun _ _ _ h => h) (fun w h => A.Y.part (p := [A.blk r [.slice s.a0 (256 * (V.poke a b i).n) s.c0, .slice s.a1 (256 * R.len (V.poke a b i)) s.c1, .slice s.a2 (256 * (V.poke a b i).n) s.c2, .slice s.a3 (256 * R.len (V.poke a b i)) s.c3, .slice s.a4 ((V.poke a b i).n) s.c4, .bool ((V.poke a b i).coh)], A.vec .u8 s.a1 s.c1 (R.flat (V.poke a b i).i (R.len (V.poke a b i))), A.vec .u8 s.a2 s.c2 (R.flat (V.poke a b i).cd (V.poke a b i).n), A.vec .u8 s.a3 s.c3 (R.flat (V.poke a b i).ci (R.len (V.poke a b i))), A.vec .i64 s.a4 s.c4 (R.rts (V.poke a b i).r (V.poke a b i).n)]) (r := [A.vec .u8 s.a0 s.c0 (R.flat (V.poke a b i).d (V.poke a b i).n)]) (A.X.y h.x) (A.pm [0, 2, 3, 4, 5, 1] (by kernel_rfl) (by kernel_rfl))) (.inl ⟨by kernel_rfl, by kernel_rfl, fun w h => by kernel_rfl⟩) (by kernel_rfl) ?_
      refine E.H.take 6 (.int .u32 ((i : Nat) : Int)) rfl (by kernel_rfl) (by kernel_rfl) (by kernel_rfl) (fun _ _ _ h => h) (fun w h => A.Y.part (p := [A.blk r [.slice s.a0 (256 * (V.poke a b i).n) s.c0, .slice s.a1 (256 * R.len (V.poke a b i)) s.c1, .slice s.a2 (256 * (V.poke a b i).n) s.c2, .slice s.a3 (256 * R.len (V.poke a b i)) s.c3, .slice s.a4 ((V.poke a b i).n) s.c4, .bool ((V.poke a b i).coh)], A.vec .u8 s.a1 s.c1 (R.flat (V.poke a b i).i (R.len (V.poke a b i))), A.vec .u8 s.a2 s.c2 (R.flat (V.poke a b i).cd (V.poke a b i).n), A.vec .u8 s.a3 s.c3 (R.flat (V.poke a b i).ci (R.len (V.poke a b i))), A.vec .i64 s.a4 s.c4 (R.rts (V.poke a b i).r (V.poke a b i).n)]) (r := [A.vec .u8 s.a0 s.c0 (R.flat (V.poke a b i).d (V.poke a b i).n)]) (A.X.y h.x) (A.pm [0, 2, 3, 4, 5, 1] (by kernel_rfl) (by kernel_rfl))) (.inl ⟨by kernel_rfl, by kernel_rfl, fun w h => E.run_as (a := .int .u32 (IntKind.wrap .u32 ((i : Nat) : Int))) (by kernel_rfl) (congrArg (Value.int .u32) (by exact Nz.w32 (x := i) (by (first | assumption | ((try simp only [Bool.or_eq_false_iff, Bool.or_eq_true, Bool.and_eq_true, Bool.and_eq_false_iff, Bool.not_eq_eq_eq_not, Bool.not_true, Bool.not_false, decide_eq_true_eq, decide_eq_false_iff_not, ge_iff_le, gt_iff_lt] at *); omega)))))⟩) (by kernel_rfl) ?_
      refine E.H.take 7 (.int .u32 (((a + i) % 4294967296 : Nat) : Int)) rfl (by kernel_rfl) (by kernel_rfl) (by kernel_rfl) (fun _ _ _ h => h) (fun w h => A.Y.part (p := [A.blk r [.slice s.a0 (256 * (V.poke a b i).n) s.c0, .slice s.a1 (256 * R.len (V.poke a b i)) s.c1, .slice s.a2 (256 * (V.poke a b i).n) s.c2, .slice s.a3 (256 * R.len (V.poke a b i)) s.c3, .slice s.a4 ((V.poke a b i).n) s.c4, .bool ((V.poke a b i).coh)], A.vec .u8 s.a1 s.c1 (R.flat (V.poke a b i).i (R.len (V.poke a b i))), A.vec .u8 s.a2 s.c2 (R.flat (V.poke a b i).cd (V.poke a b i).n), A.vec .u8 s.a3 s.c3 (R.flat (V.poke a b i).ci (R.len (V.poke a b i))), A.vec .i64 s.a4 s.c4 (R.rts (V.poke a b i).r (V.poke a b i).n)]) (r := [A.vec .u8 s.a0 s.c0 (R.flat (V.poke a b i).d (V.poke a b i).n)]) (A.X.y h.x) (A.pm [0, 2, 3, 4, 5, 1] (by kernel_rfl) (by kernel_rfl))) (.inl ⟨by kernel_rfl, by kernel_rfl, fun w h => E.run_as (a := .int .u32 (IntKind.wrap .u32 (((a : Nat) : Int) + ((i : Nat) : Int)))) (by kernel_rfl) (congrArg (Value.int .u32) (by exact Nz.add32 a i))⟩) (by kernel_rfl) ?_
      refine E.H.take 8 (.string b) rfl (by kernel_rfl) (by kernel_rfl) (by kernel_rfl) (fun _ _ _ h => h) (fun w h => A.Y.part (p := [A.blk r [.slice s.a0 (256 * (V.poke a b i).n) s.c0, .slice s.a1 (256 * R.len (V.poke a b i)) s.c1, .slice s.a2 (256 * (V.poke a b i).n) s.c2, .slice s.a3 (256 * R.len (V.poke a b i)) s.c3, .slice s.a4 ((V.poke a b i).n) s.c4, .bool ((V.poke a b i).coh)], A.vec .u8 s.a1 s.c1 (R.flat (V.poke a b i).i (R.len (V.poke a b i))), A.vec .u8 s.a2 s.c2 (R.flat (V.poke a b i).cd (V.poke a b i).n), A.vec .u8 s.a3 s.c3 (R.flat (V.poke a b i).ci (R.len (V.poke a b i))), A.vec .i64 s.a4 s.c4 (R.rts (V.poke a b i).r (V.poke a b i).n)]) (r := [A.vec .u8 s.a0 s.c0 (R.flat (V.poke a b i).d (V.poke a b i).n)]) (A.X.y h.x) (A.pm [0, 2, 3, 4, 5, 1] (by kernel_rfl) (by kernel_rfl))) (.inl ⟨by kernel_rfl, by kernel_rfl, fun w h => by kernel_rfl⟩) (by kernel_rfl) ?_
      refine E.H.take 9 (.int .i64 ((i : Nat) : Int)) rfl (by kernel_rfl) (by kernel_rfl) (by kernel_rfl) (fun _ _ _ h => h) (fun w h => A.Y.part (p := [A.blk r [.slice s.a0 (256 * (V.poke a b i).n) s.c0, .slice s.a1 (256 * R.len (V.poke a b i)) s.c1, .slice s.a2 (256 * (V.poke a b i).n) s.c2, .slice s.a3 (256 * R.len (V.poke a b i)) s.c3, .slice s.a4 ((V.poke a b i).n) s.c4, .bool ((V.poke a b i).coh)], A.vec .u8 s.a1 s.c1 (R.flat (V.poke a b i).i (R.len (V.poke a b i))), A.vec .u8 s.a2 s.c2 (R.flat (V.poke a b i).cd (V.poke a b i).n), A.vec .u8 s.a3 s.c3 (R.flat (V.poke a b i).ci (R.len (V.poke a b i))), A.vec .i64 s.a4 s.c4 (R.rts (V.poke a b i).r (V.poke a b i).n)]) (r := [A.vec .u8 s.a0 s.c0 (R.flat (V.poke a b i).d (V.poke a b i).n)]) (A.X.y h.x) (A.pm [0, 2, 3, 4, 5, 1] (by kernel_rfl) (by kernel_rfl))) (.inl ⟨by kernel_rfl, by kernel_rfl, fun w h => by kernel_rfl⟩) (by kernel_rfl) ?_
      refine E.H.take 10 (.int .u8 (W.byt b.data.toList i)) rfl (by kernel_rfl) (by kernel_rfl) (by kernel_rfl) (fun _ _ _ h => h) (fun w h => A.Y.part (p := [A.blk r [.slice s.a0 (256 * (V.poke a b i).n) s.c0, .slice s.a1 (256 * R.len (V.poke a b i)) s.c1, .slice s.a2 (256 * (V.poke a b i).n) s.c2, .slice s.a3 (256 * R.len (V.poke a b i)) s.c3, .slice s.a4 ((V.poke a b i).n) s.c4, .bool ((V.poke a b i).coh)], A.vec .u8 s.a1 s.c1 (R.flat (V.poke a b i).i (R.len (V.poke a b i))), A.vec .u8 s.a2 s.c2 (R.flat (V.poke a b i).cd (V.poke a b i).n), A.vec .u8 s.a3 s.c3 (R.flat (V.poke a b i).ci (R.len (V.poke a b i))), A.vec .i64 s.a4 s.c4 (R.rts (V.poke a b i).r (V.poke a b i).n)]) (r := [A.vec .u8 s.a0 s.c0 (R.flat (V.poke a b i).d (V.poke a b i).n)]) (A.X.y h.x) (A.pm [0, 2, 3, 4, 5, 1] (by kernel_rfl) (by kernel_rfl))) (.inl ⟨by kernel_rfl, by kernel_rfl, fun w h => E.run_as (a := .int .u8 (W.byt b.data.toList (((i : Nat) : Int)).toNat)) (E.sidx b .i64 ((i : Nat) : Int) (by kernel_rfl) (by kernel_rfl) (by kernel_rfl) (by (first | assumption | ((try simp only [Bool.or_eq_false_iff, Bool.or_eq_true, Bool.and_eq_true, Bool.and_eq_false_iff, Bool.not_eq_eq_eq_not, Bool.not_true, Bool.not_false, decide_eq_true_eq, decide_eq_false_iff_not, ge_iff_le, gt_iff_lt] at *); omega))) (by (first | assumption | ((try simp only [Bool.or_eq_false_iff, Bool.or_eq_true, Bool.and_eq_true, Bool.and_eq_false_iff, Bool.not_eq_eq_eq_not, Bool.not_true, Bool.not_false, decide_eq_true_eq, decide_eq_false_iff_not, ge_iff_le, gt_iff_lt] at *); omega))) w) (rfl)⟩) (by kernel_rfl) ?_
      refine E.H.take 11 (.pointer (some ⟨(A.bk s.a0), ((a + i) % 4294967296), none⟩)) rfl (by kernel_rfl) (by kernel_rfl) (by kernel_rfl) (fun _ _ _ h => h) (fun w h => A.Y.part (p := [A.blk r [.slice s.a0 (256 * (V.poke a b i).n) s.c0, .slice s.a1 (256 * R.len (V.poke a b i)) s.c1, .slice s.a2 (256 * (V.poke a b i).n) s.c2, .slice s.a3 (256 * R.len (V.poke a b i)) s.c3, .slice s.a4 ((V.poke a b i).n) s.c4, .bool ((V.poke a b i).coh)], A.vec .u8 s.a1 s.c1 (R.flat (V.poke a b i).i (R.len (V.poke a b i))), A.vec .u8 s.a2 s.c2 (R.flat (V.poke a b i).cd (V.poke a b i).n), A.vec .u8 s.a3 s.c3 (R.flat (V.poke a b i).ci (R.len (V.poke a b i))), A.vec .i64 s.a4 s.c4 (R.rts (V.poke a b i).r (V.poke a b i).n)]) (r := [A.vec .u8 s.a0 s.c0 (R.flat (V.poke a b i).d (V.poke a b i).n)]) (A.X.y h.x) (A.pm [0, 2, 3, 4, 5, 1] (by kernel_rfl) (by kernel_rfl))) (.inl ⟨by kernel_rfl, by kernel_rfl, fun w h => A.idxP (e := 5) (ik := .u32) (i := ((a + i) % 4294967296)) (len := (256 * (V.poke a b i).n)) (c2 := s.c0) hao3 (by kernel_rfl) (by kernel_rfl) (by kernel_rfl) (by kernel_rfl) (by (first | assumption | ((try simp only [Bool.or_eq_false_iff, Bool.or_eq_true, Bool.and_eq_true, Bool.and_eq_false_iff, Bool.not_eq_eq_eq_not, Bool.not_true, Bool.not_false, decide_eq_true_eq, decide_eq_false_iff_not, ge_iff_le, gt_iff_lt] at *); omega))) w⟩) (by kernel_rfl) ?_
      refine E.H.all [12] (by kernel_rfl) (by simp) (List.forall_mem_cons.2 ⟨⟨_, rfl, ?_⟩, fun _ h => (List.not_mem_nil h).elim⟩)
      · skip
        refine A.G.vst (kd := .u8) (ao := s.a0) (cap := s.c0) (i := ((a + i) % 4294967296)) (xs := (R.flat (V.poke a b i).d (V.poke a b i).n)) (v := (W.byt b.data.toList i)) 1 rfl (by kernel_rfl) (by kernel_rfl) (by kernel_rfl) (by simp only [R.flat_len]; (first | assumption | ((try simp only [Bool.or_eq_false_iff, Bool.or_eq_true, Bool.and_eq_true, Bool.and_eq_false_iff, Bool.not_eq_eq_eq_not, Bool.not_true, Bool.not_false, decide_eq_true_eq, decide_eq_false_iff_not, ge_iff_le, gt_iff_lt] at *); omega))) (by kernel_rfl) (by kernel_rfl) ?_
        refine E.H.back (fun w h => A.Y.part (p := [A.blk r [.slice s.a0 (256 * (V.poke a b i).n) s.c0, .slice s.a1 (256 * R.len (V.poke a b i)) s.c1, .slice s.a2 (256 * (V.poke a b i).n) s.c2, .slice s.a3 (256 * R.len (V.poke a b i)) s.c3, .slice s.a4 ((V.poke a b i).n) s.c4, .bool ((V.poke a b i).coh)], A.vec .u8 s.a1 s.c1 (R.flat (V.poke a b i).i (R.len (V.poke a b i))), A.vec .u8 s.a2 s.c2 (R.flat (V.poke a b i).cd (V.poke a b i).n), A.vec .u8 s.a3 s.c3 (R.flat (V.poke a b i).ci (R.len (V.poke a b i))), A.vec .i64 s.a4 s.c4 (R.rts (V.poke a b i).r (V.poke a b i).n)]) (r := [A.vec .u8 s.a0 s.c0 ((R.flat (V.poke a b i).d (V.poke a b i).n).set ((a + i) % 4294967296) (W.byt b.data.toList i))]) (A.X.y h.x) (A.pm [0, 2, 3, 4, 5, 1] (by kernel_rfl) (by kernel_rfl))) ?_
        refine E.H.done (by kernel_rfl) ?_
        refine E.P.nb (E.To.code ?_)
        refine A.C.eq ([A.blk r [.slice s.a0 (256 * (V.poke a b (i + 1)).n) s.c0, .slice s.a1 (256 * R.len (V.poke a b (i + 1))) s.c1, .slice s.a2 (256 * (V.poke a b (i + 1)).n) s.c2, .slice s.a3 (256 * R.len (V.poke a b (i + 1))) s.c3, .slice s.a4 ((V.poke a b (i + 1)).n) s.c4, .bool ((V.poke a b (i + 1)).coh)], A.vec .u8 s.a0 s.c0 (R.flat (V.poke a b (i + 1)).d (V.poke a b (i + 1)).n), A.vec .u8 s.a1 s.c1 (R.flat (V.poke a b (i + 1)).i (R.len (V.poke a b (i + 1)))), A.vec .u8 s.a2 s.c2 (R.flat (V.poke a b (i + 1)).cd (V.poke a b (i + 1)).n), A.vec .u8 s.a3 s.c3 (R.flat (V.poke a b (i + 1)).ci (R.len (V.poke a b (i + 1)))), A.vec .i64 s.a4 s.c4 (R.rts (V.poke a b (i + 1)).r (V.poke a b (i + 1)).n)]) (R.its_set (by (first | assumption | ((try simp only [Bool.or_eq_false_iff, Bool.or_eq_true, Bool.and_eq_true, Bool.and_eq_false_iff, Bool.not_eq_eq_eq_not, Bool.not_true, Bool.not_false, decide_eq_true_eq, decide_eq_false_iff_not, ge_iff_le, gt_iff_lt] at *); omega)))) ?_
        refine E.C.region ?_
        refine E.G.op (.int .i64 ((i : Nat) : Int)) (fun w => by kernel_rfl) (by kernel_rfl) ?_
        refine E.G.val (.int .i64 ((i + 1 : Nat) : Int)) (by kernel_rfl) (fun w h => E.run_as (a := .int .i64 (IntKind.wrap .i64 (((i : Nat) : Int) + 1))) (by kernel_rfl) (congrArg (Value.int .i64) (by exact Nz.add64 (x := i) (y := 1) (by (first | assumption | ((try simp only [Bool.or_eq_false_iff, Bool.or_eq_true, Bool.and_eq_true, Bool.and_eq_false_iff, Bool.not_eq_eq_eq_not, Bool.not_true, Bool.not_false, decide_eq_true_eq, decide_eq_false_iff_not, ge_iff_le, gt_iff_lt] at *); omega)))))) ?_
        refine E.G.op (.int .i64 ((i + 1 : Nat) : Int)) (fun w => by kernel_rfl) (by kernel_rfl) ?_
        exact E.To.round (i + 1) (by (first | assumption | ((try simp only [Bool.or_eq_false_iff, Bool.or_eq_true, Bool.and_eq_true, Bool.and_eq_false_iff, Bool.not_eq_eq_eq_not, Bool.not_true, Bool.not_false, decide_eq_true_eq, decide_eq_false_iff_not, ge_iff_le, gt_iff_lt] at *); omega))) (by (first | assumption | ((try simp only [Bool.or_eq_false_iff, Bool.or_eq_true, Bool.and_eq_true, Bool.and_eq_false_iff, Bool.not_eq_eq_eq_not, Bool.not_true, Bool.not_false, decide_eq_true_eq, decide_eq_false_iff_not, ge_iff_le, gt_iff_lt] at *); omega))) ⟨by kernel_rfl, by kernel_rfl⟩ (List.Sublist.refl _) (fun _ h => h)
    · skip
      refine E.C.skip (E.P.nb (E.To.code ?_))
      refine A.C.eq ([A.blk r [.slice s.a0 (256 * (V.poke a b (i + 1)).n) s.c0, .slice s.a1 (256 * R.len (V.poke a b (i + 1))) s.c1, .slice s.a2 (256 * (V.poke a b (i + 1)).n) s.c2, .slice s.a3 (256 * R.len (V.poke a b (i + 1))) s.c3, .slice s.a4 ((V.poke a b (i + 1)).n) s.c4, .bool ((V.poke a b (i + 1)).coh)], A.vec .u8 s.a0 s.c0 (R.flat (V.poke a b (i + 1)).d (V.poke a b (i + 1)).n), A.vec .u8 s.a1 s.c1 (R.flat (V.poke a b (i + 1)).i (R.len (V.poke a b (i + 1)))), A.vec .u8 s.a2 s.c2 (R.flat (V.poke a b (i + 1)).cd (V.poke a b (i + 1)).n), A.vec .u8 s.a3 s.c3 (R.flat (V.poke a b (i + 1)).ci (R.len (V.poke a b (i + 1)))), A.vec .i64 s.a4 s.c4 (R.rts (V.poke a b (i + 1)).r (V.poke a b (i + 1)).n)]) (congrArg (R.its r s) (M.V.set_out (by (first | assumption | ((try simp only [Bool.or_eq_false_iff, Bool.or_eq_true, Bool.and_eq_true, Bool.and_eq_false_iff, Bool.not_eq_eq_eq_not, Bool.not_true, Bool.not_false, decide_eq_true_eq, decide_eq_false_iff_not, ge_iff_le, gt_iff_lt] at *); omega)))).symm) ?_
      refine E.C.region ?_
      refine E.G.op (.int .i64 ((i : Nat) : Int)) (fun w => by kernel_rfl) (by kernel_rfl) ?_
      refine E.G.val (.int .i64 ((i + 1 : Nat) : Int)) (by kernel_rfl) (fun w h => E.run_as (a := .int .i64 (IntKind.wrap .i64 (((i : Nat) : Int) + 1))) (by kernel_rfl) (congrArg (Value.int .i64) (by exact Nz.add64 (x := i) (y := 1) (by (first | assumption | ((try simp only [Bool.or_eq_false_iff, Bool.or_eq_true, Bool.and_eq_true, Bool.and_eq_false_iff, Bool.not_eq_eq_eq_not, Bool.not_true, Bool.not_false, decide_eq_true_eq, decide_eq_false_iff_not, ge_iff_le, gt_iff_lt] at *); omega)))))) ?_
      refine E.G.op (.int .i64 ((i + 1 : Nat) : Int)) (fun w => by kernel_rfl) (by kernel_rfl) ?_
      exact E.To.round (i + 1) (by (first | assumption | ((try simp only [Bool.or_eq_false_iff, Bool.or_eq_true, Bool.and_eq_true, Bool.and_eq_false_iff, Bool.not_eq_eq_eq_not, Bool.not_true, Bool.not_false, decide_eq_true_eq, decide_eq_false_iff_not, ge_iff_le, gt_iff_lt] at *); omega))) (by (first | assumption | ((try simp only [Bool.or_eq_false_iff, Bool.or_eq_true, Bool.and_eq_true, Bool.and_eq_false_iff, Bool.not_eq_eq_eq_not, Bool.not_true, Bool.not_false, decide_eq_true_eq, decide_eq_false_iff_not, ge_iff_le, gt_iff_lt] at *); omega))) ⟨by kernel_rfl, by kernel_rfl⟩ (List.Sublist.refl _) (fun _ h => h)
  · skip
    refine E.C.exit (E.P.et (E.P.et (E.P.eh (E.To.bodyN (fn := Try.f60) [] ?_ ?_))))
    · exact trivial
    · intro w h
      obtain rfl : i = b.size := by (first | assumption | ((try simp only [Bool.or_eq_false_iff, Bool.or_eq_true, Bool.and_eq_true, Bool.and_eq_false_iff, Bool.not_eq_eq_eq_not, Bool.not_true, Bool.not_false, decide_eq_true_eq, decide_eq_false_iff_not, ge_iff_le, gt_iff_lt] at *); omega))
      exact ⟨(), trivial, rfl, A.done (q := [A.blk r [.slice s.a0 (256 * (V.poke a b b.size).n) s.c0, .slice s.a1 (256 * R.len (V.poke a b b.size)) s.c1, .slice s.a2 (256 * (V.poke a b b.size).n) s.c2, .slice s.a3 (256 * R.len (V.poke a b b.size)) s.c3, .slice s.a4 ((V.poke a b b.size).n) s.c4, .bool ((V.poke a b b.size).coh)], A.vec .u8 s.a0 s.c0 (R.flat (V.poke a b b.size).d (V.poke a b b.size).n), A.vec .u8 s.a1 s.c1 (R.flat (V.poke a b b.size).i (R.len (V.poke a b b.size))), A.vec .u8 s.a2 s.c2 (R.flat (V.poke a b b.size).cd (V.poke a b b.size).n), A.vec .u8 s.a3 s.c3 (R.flat (V.poke a b b.size).ci (R.len (V.poke a b b.size))), A.vec .i64 s.a4 s.c4 (R.rts (V.poke a b b.size).r (V.poke a b b.size).n)]) (r := []) h (by kernel_rfl) (A.pm [0, 1, 2, 3, 4, 5] (by kernel_rfl) (by kernel_rfl))⟩
end Go.Proofs.Ytdjjjikokfadiaa
