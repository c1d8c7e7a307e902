/- Walks: Dirty of mem, printed by wip/eng. No condition but what is named. -/
import Derived.Test.YtdjjjikokfadiaaProg
import Derived.Test.YtdjjjikokfadiaaMz
import Derived.Test.YtdjjjikokfadiaaAw
namespace Go.Proofs.Ytdjjjikokfadiaa
set_option linter.unusedVariables false
set_option linter.unusedSimpArgs false
open Go.RowKit
/-- A memory object as an item. -/
def M.Ob (b : M.Obj) (xs : List Value) : A.It where
  t w o a := M.St b w ∧ (∀ i v, xs[i]? = some v → w.cell? ⟨b.m, 2 + i, none⟩ = some v) ∧ (∀ x, o x ↔ x = b.m ∨ M.ow b x) ∧ ∀ x, a x ↔ M.all b x
  sub := fun {w o a} h x hx => (M.It b.m ⟨b.sl.length, b.coh, fun j => b.C (b.at j).d, fun j => b.C (M.img (b.at j)), fun j => b.C (b.at j).cd, fun j => b.C ((b.at j).cc.getD (b.at j).cd), fun j => (b.at j).r⟩ xs).sub (w := w) ⟨b, rfl, h.1, ⟨rfl, rfl, fun _ _ _ _ => rfl, fun _ _ _ _ => rfl, fun _ _ _ _ => rfl, fun _ _ _ _ => rfl, fun _ _ => rfl⟩, h.2⟩ x hx
  lt := fun h x hx => h.1.at_.alive ((h.2.2.2 x).1 hx)
  keep := fun {w w' o a} ⟨hs, hx, ho, ha⟩ hk => by
    have key : ∀ {p : Addr} {v : Value}, a p.block → w.cell? p = some v → w'.cell? p = some v := fun {p v} hp hv => by
      rw [World.cell?] at hv ⊢; rw [hk _ hp]; exact hv
    have hmm : a b.m := (ha _).2 (.inl rfl)
    refine ⟨⟨⟨key hmm hs.at_.c0, key hmm hs.at_.c1, hs.at_.ha, fun i v hv => key ((ha _).2 (M.all_b ?_)) (hs.at_.cs i v hv), fun p hp i hi => key ((ha _).2 (.inr (.inr hp))) (hs.at_.pg p hp i hi), hs.at_.lt⟩, hs.inv, fun x hx i => ?_⟩, fun i v hv => key hmm (hx i v hv), ho, ha⟩
    · cases hsl : b.sl with
      | nil => rw [hsl] at hv; simp [M.cells] at hv
      | cons => simp
    · have := hs.fz x hx i
      rw [World.frozen?] at this ⊢; rw [hk x ((ha x).2 hx)]; exact this
  apart := fun ⟨hs, _, _, ha⟩ ⟨hs2, _, _, _⟩ hw hz hx => M.apart_pg hs.at_ hs2.at_ rfl hw hz ((ha _).1 hx)
theorem M.Ob.st {w0 w : World} {o0 a0 : Nat → Prop} {its : List A.It} {L : List (Nat × List Value)} {k : Nat} {b : M.Obj} {xs : List Value} (h : E.Hp o0 w0 (A.X w0 o0 a0 its) L w) (hk : its[k]? = some (M.Ob b xs)) : M.St b w := by
  obtain ⟨o1, a1, hv⟩ := A.X.get h hk
  exact hv.1
theorem M.It.ob {m : Nat} {V : M.V} {xs : List Value} {w : World} {o a : Nat → Prop} (h : (M.It m V xs).t w o a) : ∃ b : M.Obj, b.m = m ∧ M.Sh b V ∧ (M.Ob b xs).t w o a := by
  obtain ⟨b, hm, hs, hV, hx, ho, ha⟩ := h
  exact ⟨b, hm, hV, hs, by rw [hm]; exact hx, by rw [hm]; exact ho, ha⟩
theorem M.Ob.it {b : M.Obj} {V : M.V} {xs : List Value} {w : World} {o a : Nat → Prop} (h : (M.Ob b xs).t w o a) (hV : M.Sh b V) : (M.It b.m V xs).t w o a := ⟨b, rfl, h.1, hV, h.2.1, h.2.2.1, h.2.2.2⟩
theorem A.Has.one' {it : A.It} {w : World} {o a : Nat → Prop} (h : A.Has [it] w o a) : ∃ o' a', it.t w o' a' ∧ (∀ x, o' x ↔ o x) ∧ ∀ x, a' x ↔ a x := by
  obtain ⟨o1, a1, o2, a2, h1, h2, _, _, ho, ha⟩ := h
  exact ⟨o1, a1, h1, fun x => by rw [ho]; exact ⟨.inl, fun h => h.elim id fun h => (h2.1 x h).elim⟩, fun x => by rw [ha]; exact ⟨.inl, fun h => h.elim id fun h => (h2.2 x h).elim⟩⟩
/-- A slice without room speaks of nothing. -/
theorem A.vec0 (k : IntKind) (ao : Option Addr) {l : List A.It} {w : World} {o a : Nat → Prop} (h : A.Has l w o a) : A.Has (A.vec k ao 0 [] :: l) w o a :=
  ⟨fun _ => False, fun _ => False, o, a, ⟨Nat.le_refl _, .inl ⟨rfl, fun _ h => h, fun _ h => h⟩⟩, h, fun _ h => h.elim, fun _ _ h => h, fun x => by simp, fun x => by simp⟩
/-- Whether two images, which are there or not, are the same. -/
def M.opt (o : M.Obj) (p q : Option Nat) : Bool := match p, q with | some p, some q => ((p == q) || (M.eqv (o.C p) (o.C q) (List.range 256))) | _, _ => true
/-- Whether a page has changed. -/
def M.dty (o : M.Obj) (k : Nat) : Bool := (!(((o.at k).d == (o.at k).cd) || (M.eqv (o.C (o.at k).d) (o.C (o.at k).cd) (List.range 256)))) || (!(M.opt o (o.at k).c (o.at k).cc))
def M.dl (o : M.Obj) : Nat → List Int
  | 0 => []
  | k + 1 => bif M.dty o k then M.dl o k ++ [((k : Nat) : Int)] else M.dl o k
theorem M.dl_len (o : M.Obj) : ∀ k, (M.dl o k).length ≤ k
  | 0 => Nat.le_refl _
  | k + 1 => by
    have := M.dl_len o k
    show (bif M.dty o k then M.dl o k ++ [((k : Nat) : Int)] else M.dl o k).length ≤ k + 1
    cases M.dty o k with
    | false => show (M.dl o k).length ≤ k + 1; omega
    | true => show (M.dl o k ++ [_]).length ≤ k + 1; rw [List.length_append]; show _ + 1 ≤ _; omega
theorem same_opt2 (o : M.Obj) (p q : Option Nat) (hn : p.isNone = q.isNone) (hp : ∀ x, p = some x → M.Pg o.sl x) (hq : ∀ x, q = some x → M.Pg o.sl x) (w : World) (hst : M.St o w) : Calls Try.prog 42 #[M.ptr p, M.ptr q] w fun e w' => e = .returned (.bool (M.opt o p q)) ∧ Bel w w' := by
  cases p with
  | none =>
    cases q with
    | none => exact same_nil w
    | some q => cases hn
  | some p =>
    cases q with
    | none => cases hn
    | some q => exact same_some o p q (hp p rfl) (hq q rfl) w hst
theorem M.dl_t {o : M.Obj} {k : Nat} (h : M.dty o k = true) : M.dl o (k + 1) = M.dl o k ++ [((k : Nat) : Int)] := by show (bif M.dty o k then _ else _) = _; rw [h]; rfl
theorem M.dl_f {o : M.Obj} {k : Nat} (h : M.dty o k = false) : M.dl o (k + 1) = M.dl o k := by show (bif M.dty o k then _ else _) = _; rw [h]; rfl
theorem Dirty_ob (o : M.Obj) (xs : List Value) : A.Tr Try.prog 23 #[.pointer (some ⟨o.m, 0, none⟩)] [M.Ob o xs] (I := Option Addr × Nat) (fun i => True) (fun i => .slice i.1 (M.dl o o.sl.length).length i.2) (fun i => [M.Ob o xs, A.vec .i64 i.1 i.2 (M.dl o o.sl.length)]) := by
  intro w oo aa hh
  have hlt : o.sl.length ≤ 4096 := by obtain ⟨o1, a1, hv, _⟩ := A.Has.one' hh; exact hv.1.at_.lt
  replace hh := A.vec0 .i64 none hh
  refine E.enter (n := 45) (S := oo) Try.func23 rfl rfl (by kernel_rfl) (A.start (L := []) hh) ?_
  refine E.C.seq ?_
  refine E.C.region ?_
  refine E.G.op (.slice none 0 0) (fun w => by kernel_rfl) (by kernel_rfl) ?_
  refine E.To.code ?_
  refine E.C.seq ?_
  refine E.C.region ?_
  refine E.G.op (.slice none 0 0) (fun w => by kernel_rfl) (by kernel_rfl) ?_
  refine E.To.code ?_
  refine E.C.seq ?_
  refine E.C.seq ?_
  refine E.C.region ?_
  refine E.G.op (.pointer (some ⟨o.m, 0, none⟩)) (fun w => by kernel_rfl) (by kernel_rfl) ?_
  refine E.G.call (.int .i64 ((o.sl.length : Nat) : Int)) (fun w h => Pages_any o w (M.Ob.st h (k := 1) rfl).at_) (fun w _ => by kernel_rfl) (by kernel_rfl) ?_
  refine E.G.op (.int .i64 0) (fun w => by kernel_rfl) (by kernel_rfl) ?_
  refine E.To.code ?_
  refine E.C.block ?_
  refine E.C.loop (I := Nat × Option Addr × Nat) (fun i => o.sl.length - i.1) (fun i => i.1 ≤ o.sl.length) (fun i => [(0, .pointer (some ⟨o.m, 0, none⟩)), (3, .slice i.2.1 ((M.dl o i.1).length) i.2.2), (7, .int .i64 ((o.sl.length : Nat) : Int)), (8, .int .i64 ((i.1 : Nat) : Int))]) (fun i => A.X w oo aa [A.vec .i64 i.2.1 i.2.2 (M.dl o i.1), M.Ob o xs]) (fun _ => []) (0, none, 0) (Nat.zero_le _) ⟨by kernel_rfl, by kernel_rfl⟩ (List.Sublist.refl _) (fun _ h => h) (fun i hk1 => ?_)
  obtain ⟨k, ao, cp⟩ := i
  have hk1 : k ≤ o.sl.length := hk1
  refine E.C.seq ?_
  refine E.C.region ?_
  refine E.G.op (.bool (decide (((k : Nat) : Int) < ((o.sl.length : Nat) : Int)))) (fun w => by kernel_rfl) (by kernel_rfl) ?_
  refine E.To.code ?_
  refine E.C.seq ?_
  refine E.C.cond (decide (((k : Nat) : Int) < ((o.sl.length : Nat) : Int))) (by kernel_rfl) (by kernel_rfl) (fun hc1 => ?_) (fun hc1 => ?_)
  · skip
    refine E.C.skip (E.To.code ?_)
    refine E.C.seq ?_
    refine E.C.block ?_
    refine E.C.seq ?_
    have hl : k < o.sl.length := by (first | assumption | ((try simp only [Bool.or_eq_false_iff, Bool.or_eq_true, Bool.and_eq_true, Bool.and_eq_false_iff, decide_eq_true_eq, decide_eq_false_iff_not, ge_iff_le, gt_iff_lt] at *); omega))
    refine E.C.region ?_
    refine E.G.op (.int .i64 ((k : Nat) : Int)) (fun w => by kernel_rfl) (by kernel_rfl) ?_
    refine E.G.op (.int .i64 ((k : Nat) : Int)) (fun w => by kernel_rfl) (by kernel_rfl) ?_
    refine E.To.code ?_
    refine E.C.seq ?_
    refine E.C.region ?_
    refine E.G.op (.pointer (some ⟨o.m, 0, none⟩)) (fun w => by kernel_rfl) (by kernel_rfl) ?_
    refine E.G.op (.pointer (some ⟨o.m, 0, none⟩)) (fun w => by kernel_rfl) (by kernel_rfl) ?_
    refine E.G.op (.pointer (some ⟨o.m, 0, none⟩)) (fun w => by kernel_rfl) (by kernel_rfl) ?_
    refine E.G.val (.slice o.ao o.sl.length o.cap) (by kernel_rfl) (fun w h => M.load1 (by kernel_rfl) (M.one Try.underlying64 rfl) (M.Ob.st h (k := 1) rfl).at_.c0) ?_
    refine E.G.op (.int .i64 ((k : Nat) : Int)) (fun w => by kernel_rfl) (by kernel_rfl) ?_
    refine E.G.val (.pointer (some ⟨o.b, k * 7, none⟩)) (by kernel_rfl) (fun w h => M.idxO (e := 74) (i := k) (k := .i64) (ao := o.ao) (b := o.b) (len := o.sl.length) (cap := o.cap) (esz := 7) (by kernel_rfl) (by kernel_rfl) (by kernel_rfl) (by kernel_rfl) (by (first | assumption | ((try simp only [Bool.or_eq_false_iff, Bool.or_eq_true, Bool.and_eq_true, Bool.and_eq_false_iff, decide_eq_true_eq, decide_eq_false_iff_not, ge_iff_le, gt_iff_lt] at *); omega))) (M.Ob.st h (k := 1) rfl).at_.ha w) ?_
    refine E.G.op (.pointer (some ⟨o.b, k * 7, none⟩)) (fun w => by kernel_rfl) (by kernel_rfl) ?_
    refine E.To.code ?_
    refine E.C.weak [(0, .pointer (some ⟨o.m, 0, none⟩)), (3, .slice ao ((M.dl o k).length) cp), (4, .int .i64 ((k : Nat) : Int)), (5, .pointer (some ⟨o.b, k * 7, none⟩)), (7, .int .i64 ((o.sl.length : Nat) : Int)), (8, .int .i64 ((k : Nat) : Int))] [] ⟨by kernel_rfl, by kernel_rfl⟩ (List.Sublist.refl _) ?_
    refine E.C.seq ?_
    refine E.C.quiet (by kernel_rfl) (by kernel_rfl) ?_
    refine E.W.op (.pointer (some ⟨o.b, k * 7, none⟩)) (fun w => by kernel_rfl) (by kernel_rfl) ?_
    refine E.W.op (.pointer (some ⟨o.b, k * 7, none⟩)) (fun w => by kernel_rfl) (by kernel_rfl) ?_
    refine E.W.op (.pointer (some ⟨o.b, k * 7, none⟩)) (fun w => by kernel_rfl) (by kernel_rfl) ?_
    refine E.W.val (.pointer (some ⟨(o.at k).d, 0, none⟩)) (by kernel_rfl) (fun w h => M.load1 (by kernel_rfl) (M.one Try.underlying70 rfl) ((M.Ob.st h (k := 1) rfl).at_.fld (i := k) (k := 0) (by (first | assumption | ((try simp only [Bool.or_eq_false_iff, Bool.or_eq_true, Bool.and_eq_true, Bool.and_eq_false_iff, decide_eq_true_eq, decide_eq_false_iff_not, ge_iff_le, gt_iff_lt] at *); omega))) rfl (by decide) _ rfl)) ?_
    refine E.W.op (.pointer (some ⟨o.b, k * 7, none⟩)) (fun w => by kernel_rfl) (by kernel_rfl) ?_
    refine E.W.op (.pointer (some ⟨o.b, k * 7, none⟩)) (fun w => by kernel_rfl) (by kernel_rfl) ?_
    refine E.W.op (.pointer (some ⟨o.b, (k * 7) + 4, none⟩)) (fun w => by kernel_rfl) (by kernel_rfl) ?_
    refine E.W.val (.pointer (some ⟨(o.at k).cd, 0, none⟩)) (by kernel_rfl) (fun w h => M.load1 (by kernel_rfl) (M.one Try.underlying70 rfl) ((M.Ob.st h (k := 1) rfl).at_.fld (i := k) (k := 4) (by (first | assumption | ((try simp only [Bool.or_eq_false_iff, Bool.or_eq_true, Bool.and_eq_true, Bool.and_eq_false_iff, decide_eq_true_eq, decide_eq_false_iff_not, ge_iff_le, gt_iff_lt] at *); omega))) rfl (by decide) _ rfl)) ?_
    refine E.W.call (.bool (((o.at k).d == (o.at k).cd) || (M.eqv (o.C (o.at k).d) (o.C (o.at k).cd) (List.range 256)))) (fun w h => same_some o (o.at k).d (o.at k).cd (M.pg_d hl) (M.pg_cd hl) w (M.Ob.st h (k := 1) rfl)) (fun w _ => by kernel_rfl) (by kernel_rfl) ?_
    refine E.W.op (.bool (!(((o.at k).d == (o.at k).cd) || (M.eqv (o.C (o.at k).d) (o.C (o.at k).cd) (List.range 256))))) (fun w => by kernel_rfl) (by kernel_rfl) ?_
    refine E.W.op (.bool (!(((o.at k).d == (o.at k).cd) || (M.eqv (o.C (o.at k).d) (o.C (o.at k).cd) (List.range 256))))) (fun w => by kernel_rfl) (by kernel_rfl) ?_
    refine E.W.cut 11 [(0, .pointer (some ⟨o.m, 0, none⟩)), (3, .slice ao ((M.dl o k).length) cp), (4, .int .i64 ((k : Nat) : Int)), (7, .int .i64 ((o.sl.length : Nat) : Int)), (8, .int .i64 ((k : Nat) : Int)), (38, .bool ((!(((o.at k).d == (o.at k).cd) || (M.eqv (o.C (o.at k).d) (o.C (o.at k).cd) (List.range 256)))) || (!(M.opt o (o.at k).c (o.at k).cc))))] ?_ ?_
    · generalize hc2 : (!(((o.at k).d == (o.at k).cd) || (M.eqv (o.C (o.at k).d) (o.C (o.at k).cd) (List.range 256)))) = b3
      cases b3
      · skip
        refine E.W.op (.pointer (some ⟨o.b, k * 7, none⟩)) (fun w => by kernel_rfl) (by kernel_rfl) ?_
        refine E.W.op (.pointer (some ⟨o.b, k * 7, none⟩)) (fun w => by kernel_rfl) (by kernel_rfl) ?_
        refine E.W.op (.pointer (some ⟨o.b, (k * 7) + 1, none⟩)) (fun w => by kernel_rfl) (by kernel_rfl) ?_
        refine E.W.val (M.ptr (o.at k).c) (by kernel_rfl) (fun w h => M.load1 (by kernel_rfl) (M.one Try.underlying70 rfl) ((M.Ob.st h (k := 1) rfl).at_.fld (i := k) (k := 1) (by (first | assumption | ((try simp only [Bool.or_eq_false_iff, Bool.or_eq_true, Bool.and_eq_true, Bool.and_eq_false_iff, decide_eq_true_eq, decide_eq_false_iff_not, ge_iff_le, gt_iff_lt] at *); omega))) rfl (by decide) _ rfl)) ?_
        refine E.W.op (.pointer (some ⟨o.b, k * 7, none⟩)) (fun w => by kernel_rfl) (by kernel_rfl) ?_
        refine E.W.op (.pointer (some ⟨o.b, k * 7, none⟩)) (fun w => by kernel_rfl) (by kernel_rfl) ?_
        refine E.W.op (.pointer (some ⟨o.b, (k * 7) + 5, none⟩)) (fun w => by kernel_rfl) (by kernel_rfl) ?_
        refine E.W.val (M.ptr (o.at k).cc) (by kernel_rfl) (fun w h => M.load1 (by kernel_rfl) (M.one Try.underlying70 rfl) ((M.Ob.st h (k := 1) rfl).at_.fld (i := k) (k := 5) (by (first | assumption | ((try simp only [Bool.or_eq_false_iff, Bool.or_eq_true, Bool.and_eq_true, Bool.and_eq_false_iff, decide_eq_true_eq, decide_eq_false_iff_not, ge_iff_le, gt_iff_lt] at *); omega))) rfl (by decide) _ rfl)) ?_
        refine E.W.call (.bool (M.opt o (o.at k).c (o.at k).cc)) (fun w h => same_opt2 o (o.at k).c (o.at k).cc (by have := (M.Ob.st h (k := 1) rfl).inv.co k hl; rw [this.1, this.2]) (fun x hx => M.pg_c hl hx) (fun x hx => M.pg_cc hl hx) w (M.Ob.st h (k := 1) rfl)) (fun w _ => by kernel_rfl) (by kernel_rfl) ?_
        refine E.W.op (.bool (!(M.opt o (o.at k).c (o.at k).cc))) (fun w => by kernel_rfl) (by kernel_rfl) ?_
        refine E.W.op (.bool (!(M.opt o (o.at k).c (o.at k).cc))) (fun w => by kernel_rfl) (by kernel_rfl) ?_
        exact E.W.end_cut ⟨by kernel_rfl, by kernel_rfl⟩
      · skip
        refine E.W.skip (by kernel_rfl) (by kernel_rfl) ?_
        refine E.W.skip (by kernel_rfl) (by kernel_rfl) ?_
        refine E.W.skip (by kernel_rfl) (by kernel_rfl) ?_
        refine E.W.skip (by kernel_rfl) (by kernel_rfl) ?_
        refine E.W.skip (by kernel_rfl) (by kernel_rfl) ?_
        refine E.W.skip (by kernel_rfl) (by kernel_rfl) ?_
        refine E.W.skip (by kernel_rfl) (by kernel_rfl) ?_
        refine E.W.skip (by kernel_rfl) (by kernel_rfl) ?_
        refine E.W.skip (by kernel_rfl) (by kernel_rfl) ?_
        refine E.W.skip (by kernel_rfl) (by kernel_rfl) ?_
        refine E.W.op (.bool true) (fun w => by kernel_rfl) (by kernel_rfl) ?_
        exact E.W.end_cut ⟨by kernel_rfl, by kernel_rfl⟩
    refine E.W.done (E.To.code ?_)
    refine E.C.cond ((!(((o.at k).d == (o.at k).cd) || (M.eqv (o.C (o.at k).d) (o.C (o.at k).cd) (List.range 256)))) || (!(M.opt o (o.at k).c (o.at k).cc))) (by kernel_rfl) (by kernel_rfl) (fun hc4 => ?_) (fun hc4 => ?_)
    · skip
      refine E.C.region ?_
      refine E.G.op (.slice ao ((M.dl o k).length) cp) (fun w => by kernel_rfl) (by kernel_rfl) ?_
      refine E.G.op (.int .i64 ((k : Nat) : Int)) (fun w => by kernel_rfl) (by kernel_rfl) ?_
      refine E.G.buildSlice [.int .i64 ((k : Nat) : Int)] (by kernel_rfl) (by kernel_rfl) (fun g5 => ?_)
      refine A.G.append1 (e := 3) (kd := .i64) (ao := ao) (cap := cp) 0 0 g5 0 1 8 (M.dl o k) ((k : Nat) : Int) _ rfl (by kernel_rfl) (by kernel_rfl) (by kernel_rfl) (by kernel_rfl) (by kernel_rfl) rfl (by kernel_rfl) (by have := M.dl_len o k; have := (show o.sl.length ≤ 4096 from hlt); omega) (by have := M.dl_len o k; have := (show o.sl.length ≤ 4096 from hlt); omega) (by decide) (by kernel_rfl) (fun ao6 cp7 => ?_)
      refine E.G.op (.slice ao6 (((M.dl o k) ++ [((k : Nat) : Int)]).length) cp7) (fun w => by kernel_rfl) (by kernel_rfl) ?_
      refine E.P.nb (E.To.code ?_)
      have hdl := M.dl_t (o := o) (k := k) hc4
      refine E.C.weak [(0, .pointer (some ⟨o.m, 0, none⟩)), (3, .slice ao6 (((M.dl o k) ++ [((k : Nat) : Int)]).length) cp7), (7, .int .i64 ((o.sl.length : Nat) : Int)), (8, .int .i64 ((k : Nat) : Int))] [] ⟨by kernel_rfl, by kernel_rfl⟩ (List.nil_sublist _) ?_
      rw [← hdl]
      refine E.C.region ?_
      refine E.G.val (.int .i64 ((k + 1 : Nat) : Int)) (by kernel_rfl) (fun w h => E.run_as (a := .int .i64 (IntKind.wrap .i64 (((k : Nat) : Int) + 1))) (by kernel_rfl) (congrArg (Value.int .i64) (M.inc64 (by have := (M.Ob.st h (k := 1) rfl).at_.lt; (first | assumption | ((try simp only [Bool.or_eq_false_iff, Bool.or_eq_true, Bool.and_eq_true, Bool.and_eq_false_iff, decide_eq_true_eq, decide_eq_false_iff_not, ge_iff_le, gt_iff_lt] at *); omega)))))) ?_
      refine E.G.op (.int .i64 ((k + 1 : Nat) : Int)) (fun w => by kernel_rfl) (by kernel_rfl) ?_
      exact E.To.round (k + 1, ao6, cp7) (by show o.sl.length - (k + 1) < o.sl.length - k; (first | assumption | ((try simp only [Bool.or_eq_false_iff, Bool.or_eq_true, Bool.and_eq_true, Bool.and_eq_false_iff, decide_eq_true_eq, decide_eq_false_iff_not, ge_iff_le, gt_iff_lt] at *); omega))) (by show k + 1 ≤ o.sl.length; (first | assumption | ((try simp only [Bool.or_eq_false_iff, Bool.or_eq_true, Bool.and_eq_true, Bool.and_eq_false_iff, decide_eq_true_eq, decide_eq_false_iff_not, ge_iff_le, gt_iff_lt] at *); omega))) ⟨by kernel_rfl, by kernel_rfl⟩ (List.nil_sublist _) (fun _ h => h)
    · skip
      refine E.C.skip (E.P.nb (E.To.code ?_))
      have hdl := M.dl_f (o := o) (k := k) hc4
      refine E.C.weak [(0, .pointer (some ⟨o.m, 0, none⟩)), (3, .slice ao ((M.dl o k).length) cp), (7, .int .i64 ((o.sl.length : Nat) : Int)), (8, .int .i64 ((k : Nat) : Int))] [] ⟨by kernel_rfl, by kernel_rfl⟩ (List.nil_sublist _) ?_
      rw [← hdl]
      refine E.C.region ?_
      refine E.G.val (.int .i64 ((k + 1 : Nat) : Int)) (by kernel_rfl) (fun w h => E.run_as (a := .int .i64 (IntKind.wrap .i64 (((k : Nat) : Int) + 1))) (by kernel_rfl) (congrArg (Value.int .i64) (M.inc64 (by have := (M.Ob.st h (k := 1) rfl).at_.lt; (first | assumption | ((try simp only [Bool.or_eq_false_iff, Bool.or_eq_true, Bool.and_eq_true, Bool.and_eq_false_iff, decide_eq_true_eq, decide_eq_false_iff_not, ge_iff_le, gt_iff_lt] at *); omega)))))) ?_
      refine E.G.op (.int .i64 ((k + 1 : Nat) : Int)) (fun w => by kernel_rfl) (by kernel_rfl) ?_
      exact E.To.round (k + 1, ao, cp) (by show o.sl.length - (k + 1) < o.sl.length - k; (first | assumption | ((try simp only [Bool.or_eq_false_iff, Bool.or_eq_true, Bool.and_eq_true, Bool.and_eq_false_iff, decide_eq_true_eq, decide_eq_false_iff_not, ge_iff_le, gt_iff_lt] at *); omega))) (by show k + 1 ≤ o.sl.length; (first | assumption | ((try simp only [Bool.or_eq_false_iff, Bool.or_eq_true, Bool.and_eq_true, Bool.and_eq_false_iff, decide_eq_true_eq, decide_eq_false_iff_not, ge_iff_le, gt_iff_lt] at *); omega))) ⟨by kernel_rfl, by kernel_rfl⟩ (List.nil_sublist _) (fun _ h => h)
  · skip
    refine E.C.exit (E.P.et (E.P.et (E.P.eh (E.To.code ?_))))
    refine E.C.seq ?_
    refine E.C.region ?_
    refine E.G.op (.slice ao ((M.dl o k).length) cp) (fun w => by kernel_rfl) (by kernel_rfl) ?_
    refine E.G.op (.slice ao ((M.dl o k).length) cp) (fun w => by kernel_rfl) (by kernel_rfl) ?_
    refine E.To.code ?_
    refine E.C.ret (E.To.body (fn := Try.f23) [.slice ao ((M.dl o k).length) cp] ?_ ?_)
    · exact ⟨⟨by kernel_rfl, by kernel_rfl⟩, trivial⟩
    · intro w h
      have e : k = o.sl.length := by (first | assumption | ((try simp only [Bool.or_eq_false_iff, Bool.or_eq_true, Bool.and_eq_true, Bool.and_eq_false_iff, decide_eq_true_eq, decide_eq_false_iff_not, ge_iff_le, gt_iff_lt] at *); omega))
      rw [← e]
      exact ⟨(ao, cp), trivial, rfl, A.done (q := [M.Ob o xs, A.vec .i64 ao cp (M.dl o k)]) (r := []) h (by kernel_rfl) (A.pm [1, 0] (by kernel_rfl) (by kernel_rfl))⟩
end Go.Proofs.Ytdjjjikokfadiaa
