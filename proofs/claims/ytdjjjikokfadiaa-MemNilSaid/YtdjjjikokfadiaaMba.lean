/- mem: what each operation answers and does, told by what the memory shows. No condition. -/
import Derived.Test.YtdjjjikokfadiaaMaa
import Derived.Test.YtdjjjikokfadiaaMab
import Derived.Test.YtdjjjikokfadiaaMad
import Derived.Test.YtdjjjikokfadiaaMae
namespace Go.Proofs.Ytdjjjikokfadiaa
set_option linter.unusedVariables false
set_option linter.unusedSimpArgs false
open Go.RowKit
/-! What is answered. -/
def M.V.peek (V : M.V) (a : Nat) : Int := if a / 256 < V.n then V.d (a / 256) (a % 256) else 0
def M.V.code (V : M.V) (a : Nat) : Int := if a / 256 < V.n then V.i (a / 256) (a % 256) else 0
def M.V.rt (V : M.V) (n : Int) : Int := if 0 ≤ n ∧ n < ((V.n : Nat) : Int) then V.r n.toNat else 0
def M.V.ok (V : M.V) (a : Nat) (r : Int) : Bool := decide (a / 256 < V.n) && !(bits .and .i64 (V.r (a / 256)) r == 0)
def M.V.chkN (V : M.V) (a : Nat) (r : Int) : Nat → Nat → Int × Bool
  | _, 0 => (0, true)
  | i, c + 1 => bif V.ok ((a + i) % 4294967296) r then M.V.chkN V a r (i + 1) c else ((((a + i) % 4294967296 : Nat) : Int), false)
def M.V.chk (V : M.V) (a : Nat) (r n : Int) : Int × Bool := if 1 ≤ n ∧ n ≤ 4 then V.chkN a r 0 n.toNat else (((a : Nat) : Int), false)
def M.V.ldv (V : M.V) (a n : Nat) : Nat → Int
  | 0 => 0
  | c + 1 => bits .or .u32 (IntKind.wrap .u32 (M.V.ldv V a n c * 2 ^ 8)) (IntKind.wrap .u32 (V.peek ((a + (n - 1 - c)) % 4294967296)))
def M.V.load (V : M.V) (a : Nat) (n : Int) : Int × Int × Bool := if (V.chk a 1 n).2 then (V.ldv a n.toNat n.toNat, 0, true) else (0, (V.chk a 1 n).1, false)
def M.V.sto (V : M.V) (a : Nat) (n v : Int) : M.V := if (V.chk a 2 n).2 then V.put a v n.toNat else V
def M.V.fetch (V : M.V) (a : Nat) : Int × Bool := if V.ok a 4 then (V.code a, true) else (0, false)
def M.V.page (V : M.V) (n : Int) : ByteArray := if 0 ≤ n ∧ n < ((V.n : Nat) : Int) then strOfNums ((List.range 256).map (V.d n.toNat)) else ⟨#[]⟩
def M.V.prot (V : M.V) (n r : Int) : M.V := if 0 ≤ n ∧ n < ((V.n : Nat) : Int) then { V with r := fun j => if j = n.toNat then bits .and .i64 r 7 else V.r j } else V
def M.V.dty (V : M.V) (k : Nat) : Bool := !(M.eqv (V.d k) (V.cd k) (List.range 256)) || !(M.eqv (V.i k) (V.ci k) (List.range 256))
def M.V.dl (V : M.V) : Nat → List Int
  | 0 => []
  | k + 1 => bif V.dty k then M.V.dl V k ++ [((k : Nat) : Int)] else M.V.dl V k
def M.V.dirty (V : M.V) : List Int := V.dl V.n
def M.V.pgs (V W : M.V) (k : Nat) : Bool := (V.r k == W.r k) && (M.eqv (V.d k) (W.d k) (List.range 256) && M.eqv (V.i k) (W.i k) (List.range 256))
def M.V.eqs (V W : M.V) : Nat → Bool
  | 0 => true
  | k + 1 => M.V.eqs V W k && V.pgs W k
def M.V.eq (V W : M.V) : Bool := (V.n == W.n) && V.eqs W V.n
/-! From the object to what it shows. -/
theorem M.out_iff {o : M.Obj} {V : M.V} (h : M.Sh o V) (k : Nat) : o.out k = !(decide (k < V.n)) := by
  unfold M.Obj.out
  rw [h.n]
  by_cases e : k < V.n
  · rw [decide_eq_true e, decide_eq_false (by omega)]; rfl
  · rw [decide_eq_false e, decide_eq_true (by omega)]; rfl
theorem M.Sh.peek {o : M.Obj} {V : M.V} (h : M.Sh o V) (a : Nat) : M.peek o a = V.peek a := by
  unfold M.peek M.V.peek
  rw [M.out_iff h]
  by_cases e : a / 256 < V.n
  · rw [decide_eq_true e, if_pos e]; exact h.d _ e _ (Nat.mod_lt _ (by decide))
  · rw [decide_eq_false e, if_neg e]; rfl
theorem M.Sh.code {o : M.Obj} {V : M.V} (h : M.Sh o V) (a : Nat) : M.code o a = V.code a := by
  unfold M.code M.V.code
  rw [M.out_iff h]
  by_cases e : a / 256 < V.n
  · rw [decide_eq_true e, if_pos e]; exact h.i _ e _ (Nat.mod_lt _ (by decide))
  · rw [decide_eq_false e, if_neg e]; rfl
theorem M.rng {n m : Int} : ((decide (n < 0)) || (decide (n ≥ m))) = !(decide (0 ≤ n ∧ n < m)) := by
  by_cases h : 0 ≤ n ∧ n < m
  · rw [decide_eq_true h, decide_eq_false (by omega), decide_eq_false (by omega)]; rfl
  · rw [decide_eq_false h]
    by_cases h0 : n < 0
    · rw [decide_eq_true h0]; rfl
    · rw [decide_eq_true (show n ≥ m by omega), Bool.or_true]; rfl
theorem M.Sh.rights {o : M.Obj} {V : M.V} (h : M.Sh o V) (n : Int) : M.rights o n = V.rt n := by
  unfold M.rights M.V.rt
  rw [M.rng, h.n]
  by_cases e : 0 ≤ n ∧ n < ((V.n : Nat) : Int)
  · rw [decide_eq_true e, if_pos e]; exact h.r _ (by omega)
  · rw [decide_eq_false e, if_neg e]; rfl
theorem M.Sh.ok {o : M.Obj} {V : M.V} (h : M.Sh o V) (a : Nat) (r : Int) : M.ok o a r = V.ok a r := by
  unfold M.ok M.V.ok
  rw [M.out_iff h, Bool.not_not]
  by_cases e : a / 256 < V.n
  · rw [h.r _ e]
  · rw [decide_eq_false e, Bool.false_and, Bool.false_and]
theorem M.chk_s (o : M.Obj) (a : Nat) (r : Int) (i c : Nat) : M.chk o a r i (c + 1) = bif M.ok o ((a + i) % 4294967296) r then M.chk o a r (i + 1) c else ((((a + i) % 4294967296 : Nat) : Int), false) := by rw [M.chk]
theorem M.chkN_s (V : M.V) (a : Nat) (r : Int) (i c : Nat) : V.chkN a r i (c + 1) = bif V.ok ((a + i) % 4294967296) r then V.chkN a r (i + 1) c else ((((a + i) % 4294967296 : Nat) : Int), false) := by rw [M.V.chkN]
theorem M.Sh.chk {o : M.Obj} {V : M.V} (h : M.Sh o V) (a : Nat) (r : Int) (c : Nat) : ∀ i, M.chk o a r i c = V.chkN a r i c := by
  induction c with
  | zero => intro i; rw [M.chk, M.V.chkN]
  | succ c ih => intro i; rw [M.chk_s, M.chkN_s, h.ok, ih]
theorem M.Sh.ldv {o : M.Obj} {V : M.V} (h : M.Sh o V) (a n : Nat) : ∀ c, M.ldv o a n c = V.ldv a n c
  | 0 => rfl
  | c + 1 => by
    show bits .or .u32 (IntKind.wrap .u32 (M.ldv o a n c * 2 ^ 8)) (IntKind.wrap .u32 (M.peek o _)) = bits .or .u32 (IntKind.wrap .u32 (V.ldv a n c * 2 ^ 8)) (IntKind.wrap .u32 (V.peek _))
    rw [h.peek, h.ldv a n c]
theorem M.Sh.fetch {o : M.Obj} {V : M.V} (h : M.Sh o V) (a : Nat) : M.fetch o a = V.fetch a := by
  unfold M.fetch M.V.fetch M.V.ok M.V.code
  rw [M.out_iff h]
  by_cases e : a / 256 < V.n
  · rw [decide_eq_true e, h.r _ e, if_pos e]
    show (bif _ then _ else _) = _
    cases hb : (bits .and .i64 (V.r (a / 256)) 4 == 0) with
    | true => rfl
    | false => show (_, true) = (_, true); rw [h.i _ e _ (Nat.mod_lt _ (by decide))]
  · rw [decide_eq_false e]; rfl
theorem M.map_congr {f g : Nat → Int} (h : ∀ x, x < 256 → f x = g x) : (List.range 256).map f = (List.range 256).map g :=
  List.map_congr_left fun x hx => h x (List.mem_range.1 hx)
theorem M.Sh.page {o : M.Obj} {V : M.V} (h : M.Sh o V) (n : Int) : M.pageS o n = V.page n := by
  unfold M.pageS M.V.page
  rw [M.rng, h.n]
  by_cases e : 0 ≤ n ∧ n < ((V.n : Nat) : Int)
  · rw [decide_eq_true e, if_pos e]
    show strOfNums _ = _
    rw [M.map_congr (h.d n.toNat (by omega))]
  · rw [decide_eq_false e, if_neg e]; rfl
theorem M.eqv_congr {f g f' g' : Nat → Int} (h : ∀ x, x < 256 → f x = f' x) (k : ∀ x, x < 256 → g x = g' x) : M.eqv f g (List.range 256) = M.eqv f' g' (List.range 256) := by
  unfold M.eqv
  have : ∀ l : List Nat, (∀ x ∈ l, x < 256) → (l.all fun i => f i == g i) = l.all fun i => f' i == g' i := by
    intro l
    induction l with
    | nil => exact fun _ => rfl
    | cons a l ih =>
      intro hl
      rw [List.all_cons, List.all_cons, ih fun x hx => hl x (List.mem_cons_of_mem _ hx), h a (hl a (List.mem_cons_self ..)), k a (hl a (List.mem_cons_self ..))]
  exact this _ fun x hx => List.mem_range.1 hx
theorem M.eqv_refl (f : Nat → Int) : M.eqv f f (List.range 256) = true := by
  unfold M.eqv; exact List.all_eq_true.2 fun x _ => beq_self_eq_true _
/-- Two pages of one content, whether or not they are one block. -/
theorem M.sm_eqv {o : M.Obj} {p q : Nat} : ((p == q) || M.eqv (o.C p) (o.C q) (List.range 256)) = M.eqv (o.C p) (o.C q) (List.range 256) := by
  cases h : (p == q) with
  | false => rfl
  | true =>
    have : p = q := by simpa using h
    subst this
    rw [M.eqv_refl]; rfl
theorem M.Sh.dty {o : M.Obj} {V : M.V} (h : M.Sh o V) (hi : M.Inv o) {k : Nat} (hk : k < V.n) : M.dty o k = V.dty k := by
  unfold M.dty M.V.dty
  have h1 : M.eqv (o.C (o.at k).d) (o.C (o.at k).cd) (List.range 256) = M.eqv (V.d k) (V.cd k) (List.range 256) := M.eqv_congr (h.d k hk) (h.cd k hk)
  rw [M.sm_eqv, h1]
  have hko : k < o.sl.length := h.n ▸ hk
  have hco := hi.co k hko
  have hi' := h.i k hk
  have hci' := h.ci k hk
  unfold M.img at hi'
  cases hc : (o.at k).c with
  | none =>
    cases hcc : (o.at k).cc with
    | none =>
      rw [hc] at hi'; rw [hcc] at hci'
      have h2 : M.eqv (V.i k) (V.ci k) (List.range 256) = M.eqv (V.d k) (V.cd k) (List.range 256) := M.eqv_congr (fun x hx => by rw [← hi' x hx, ← h.d k hk x hx]; rfl) (fun x hx => by rw [← hci' x hx, ← h.cd k hk x hx]; rfl)
      rw [h2]
      show (_ || !true) = _
      cases M.eqv (V.d k) (V.cd k) (List.range 256) <;> rfl
    | some q => rw [hc, hcc] at hco; have := hco.1.trans hco.2.symm; cases this
  | some p =>
    cases hcc : (o.at k).cc with
    | none => rw [hc, hcc] at hco; have := hco.1.trans hco.2.symm; cases this
    | some q =>
      rw [hc] at hi'; rw [hcc] at hci'
      show (_ || !((p == q) || M.eqv (o.C p) (o.C q) (List.range 256))) = _
      rw [M.sm_eqv, show M.eqv (o.C p) (o.C q) (List.range 256) = M.eqv (V.i k) (V.ci k) (List.range 256) from M.eqv_congr hi' hci']
theorem M.Sh.dl {o : M.Obj} {V : M.V} (h : M.Sh o V) (hi : M.Inv o) : ∀ k, k ≤ V.n → M.dl o k = V.dl k
  | 0, _ => rfl
  | k + 1, hk => by
    show (bif M.dty o k then M.dl o k ++ [((k : Nat) : Int)] else M.dl o k) = (bif V.dty k then V.dl k ++ [((k : Nat) : Int)] else V.dl k)
    rw [h.dty hi (by omega), h.dl hi k (by omega)]
theorem M.sm_two {a b : M.Obj} {w : World} {p q : Nat} (ha : M.At a w) (hb : M.At b w) (hp : M.Pg a.sl p) (hq : M.Pg b.sl q) : M.sm a b p q = M.eqv (a.C p) (b.C q) (List.range 256) := by
  unfold M.sm
  cases h : (p == q) with
  | false => rfl
  | true =>
    have : p = q := by simpa using h
    subst this
    have : ∀ x, x < 256 → a.C p x = b.C p x := fun x hx => by
      have h1 := ha.pg p hp x hx
      rw [hb.pg p hq x hx] at h1
      simp only [Option.some.injEq, Value.int.injEq] at h1
      exact h1.2.symm
    rw [M.eqv_congr this (fun _ _ => rfl), M.eqv_refl]; rfl
theorem M.nep_eq {a b : M.Obj} {V W : M.V} {w : World} (ha : M.At a w) (hb : M.At b w) (h : M.Sh a V) (k : M.Sh b W) {i : Nat} (hi : i < V.n) (hj : i < W.n) : M.nep a b i = !(V.pgs W i) := by
  unfold M.nep M.V.pgs
  have ia : i < a.sl.length := h.n ▸ hi
  have ib : i < b.sl.length := k.n ▸ hj
  rw [M.sm_two ha hb (M.pg_d ia) (M.pg_d ib), M.sm_two ha hb (M.pg_img ia) (M.pg_img ib), M.eqv_congr (h.d i hi) (k.d i hj), M.eqv_congr (h.i i hi) (k.i i hj), h.r i hi, k.r i hj]
  cases h1 : (V.r i == W.r i) <;> cases M.eqv (V.d i) (W.d i) (List.range 256) <;> cases M.eqv (V.i i) (W.i i) (List.range 256) <;> simp [bne, h1]
theorem M.eqs_eq {a b : M.Obj} {V W : M.V} {w : World} (ha : M.At a w) (hb : M.At b w) (h : M.Sh a V) (k : M.Sh b W) : ∀ i, i ≤ V.n → i ≤ W.n → M.eqs a b i = V.eqs W i
  | 0, _, _ => rfl
  | i + 1, h1, h2 => by
    show (M.eqs a b i && !(M.nep a b i)) = (V.eqs W i && V.pgs W i)
    rw [M.eqs_eq ha hb h k i (by omega) (by omega), M.nep_eq ha hb h k (by omega) (by omega), Bool.not_not]
theorem M.eql_eq {a b : M.Obj} {V W : M.V} {w : World} (ha : M.At a w) (hb : M.At b w) (h : M.Sh a V) (k : M.Sh b W) : M.eql a b = V.eq W := by
  unfold M.eql M.V.eq
  rw [h.n, k.n]
  cases e : (V.n == W.n) with
  | false => rfl
  | true =>
    have : V.n = W.n := by simpa using e
    rw [M.eqs_eq ha hb h k V.n (Nat.le_refl _) (by omega)]
theorem M.Sh.prot {o : M.Obj} {V : M.V} (h : M.Sh o V) (n r : Int) : M.Sh (M.prot o n r) (V.prot n r) := by
  unfold M.prot M.V.prot
  have hn := h.n
  rw [h.n]
  by_cases e : 0 ≤ n ∧ n < ((V.n : Nat) : Int)
  · rw [if_pos e, decide_eq_true (show n ≥ 0 from e.1), decide_eq_true e.2]
    have hk : n.toNat < o.sl.length := by omega
    have hl := M.setr_at (o := o) (i := n.toNat) (r := bits .and .i64 r 7) hk
    refine ⟨M.upd_len.trans h.n, h.coh, fun j hj x hx => ?_, fun j hj x hx => ?_, fun j hj x hx => ?_, fun j hj x hx => ?_, fun j hj => ?_⟩
    · show o.C ((o.upd n.toNat _).at j).d x = _; rw [(hl j).1]; exact h.d j hj x hx
    · show o.C (M.img ((o.upd n.toNat _).at j)) x = _; unfold M.img; rw [(hl j).1, (hl j).2.1]; exact h.i j hj x hx
    · show o.C ((o.upd n.toNat _).at j).cd x = _; rw [(hl j).2.2.2.2.1]; exact h.cd j hj x hx
    · show o.C (((o.upd n.toNat _).at j).cc.getD ((o.upd n.toNat _).at j).cd) x = _; rw [(hl j).2.2.2.2.1, (hl j).2.2.2.2.2]; exact h.ci j hj x hx
    · show ((o.upd n.toNat _).at j).r = (if j = n.toNat then bits .and .i64 r 7 else V.r j)
      rw [M.upd_at hk]
      by_cases e2 : j = n.toNat
      · rw [if_pos e2, if_pos e2]
      · rw [if_neg e2, if_neg e2]; exact h.r j hj
  · rw [if_neg e]
    have : ((decide (n ≥ 0)) && (decide (n < ((V.n : Nat) : Int)))) = false := by
      by_cases h0 : n ≥ 0
      · rw [decide_eq_true h0, decide_eq_false (fun h1 => e ⟨h0, h1⟩)]; rfl
      · rw [decide_eq_false h0]; rfl
    rw [this]; exact h
theorem M.Nxt.prot (w : World) (o : M.Obj) (n r : Int) : M.Nxt w o (M.prot o n r) := by
  unfold M.prot
  cases hc : ((decide (n ≥ 0)) && (decide (n < ((o.sl.length : Nat) : Int)))) with
  | false => exact M.Nxt.refl _ _
  | true =>
    simp only [Bool.and_eq_true, decide_eq_true_eq] at hc
    have hk : n.toNat < o.sl.length := by omega
    have hl : M.Like o (o.upd n.toNat { o.at n.toNat with r := bits .and .i64 r 7 }) := ⟨rfl, rfl, M.upd_len, rfl, M.setr_at hk⟩
    exact ⟨rfl, M.upd_len, rfl, fun x _ hx => hl.ow hx, fun x _ hx => hl.all hx⟩
/-! The calls, over items. -/
section
variable {m : Nat} {V : M.V} {xs : List Value}
theorem A_Pages : A.Rd Try.prog 20 #[.pointer (some ⟨m, 0, none⟩)] [M.It m V xs] (.int .i64 ((V.n : Nat) : Int)) :=
  M.rd fun b w hm hs hV => by subst hm; rw [← hV.n]; exact Pages_any b w hs.at_
theorem A_Peek (a : Nat) (ha : a < 4294967296) : A.Rd Try.prog 21 #[.pointer (some ⟨m, 0, none⟩), .int .u32 ((a : Nat) : Int)] [M.It m V xs] (.int .u8 (V.peek a)) :=
  M.rd fun b w hm hs hV => by subst hm; rw [← hV.peek]; exact Peek_any b a ha w hs.at_
theorem A_Code (a : Nat) (ha : a < 4294967296) : A.Rd Try.prog 22 #[.pointer (some ⟨m, 0, none⟩), .int .u32 ((a : Nat) : Int)] [M.It m V xs] (.int .u8 (V.code a)) :=
  M.rd fun b w hm hs hV => by subst hm; rw [← hV.code]; exact Code_any b a ha w hs.at_
theorem A_Rights (n : Int) : A.Rd Try.prog 24 #[.pointer (some ⟨m, 0, none⟩), .int .i64 n] [M.It m V xs] (.int .i64 (V.rt n)) :=
  M.rd fun b w hm hs hV => by subst hm; rw [← hV.rights]; exact Rights_any b n w hs.at_
theorem A_Fetch (a : Nat) (ha : a < 4294967296) : A.Rd Try.prog 19 #[.pointer (some ⟨m, 0, none⟩), .int .u32 ((a : Nat) : Int)] [M.It m V xs] (.tuple #[.int .u8 (V.fetch a).1, .bool (V.fetch a).2]) :=
  M.rd fun b w hm hs hV => by subst hm; rw [← hV.fetch]; exact Fetch_any b a ha w hs.at_
theorem A_Page (n : Int) : A.Rd Try.prog 27 #[.pointer (some ⟨m, 0, none⟩), .int .i64 n] [M.It m V xs] (.string (V.page n)) :=
  M.rd fun b w hm hs hV => by subst hm; rw [← hV.page]; exact Page_any b n w hs.at_
theorem A_Load (a : Nat) (n : Int) (ha : a < 4294967296) : A.Rd Try.prog 17 #[.pointer (some ⟨m, 0, none⟩), .int .u32 ((a : Nat) : Int), .int .i64 n] [M.It m V xs] (.tuple #[.int .u32 (V.load a n).1, .int .u32 (V.load a n).2.1, .bool (V.load a n).2.2]) :=
  M.rd fun b w hm hs hV => by
    subst hm
    by_cases hn : 1 ≤ n ∧ n ≤ 4
    · have e : V.load a n = M.load b a n.toNat := by
        unfold M.V.load M.load M.V.chk
        rw [if_pos hn, ← hV.chk, ← hV.ldv]
        cases (M.chk b a 1 0 n.toNat).2 <;> rfl
      have := Load_any b a n.toNat ha ⟨by omega, by omega⟩ w hs.at_
      rw [e]
      rw [show ((n.toNat : Nat) : Int) = n by omega] at this
      exact this
    · have e : V.load a n = (0, ((a : Nat) : Int), false) := by
        unfold M.V.load M.V.chk
        rw [if_neg hn]; rfl
      rw [e]
      exact Load_bad b a n (by omega) w hs.at_
theorem A_Store (a : Nat) (n v : Int) (ha : a < 4294967296) : A.Tr Try.prog 18 #[.pointer (some ⟨m, 0, none⟩), .int .u32 ((a : Nat) : Int), .int .i64 n, .int .u32 v] [M.It m V xs] (I := Unit) (fun _ => True) (fun _ => .tuple #[.int .u32 (V.chk a 2 n).1, .bool (V.chk a 2 n).2]) (fun _ => [M.It m (V.sto a n v) xs]) :=
  M.wr fun b w hm hs hV => by
    subst hm
    by_cases hn : 1 ≤ n ∧ n ≤ 4
    · have e : V.chk a 2 n = M.chk b a 2 0 n.toNat := by unfold M.V.chk; rw [if_pos hn, ← hV.chk]
      have e0 : ∀ c : Nat, (M.chk b a 2 0 c).2 = true → (M.chk b a 2 0 c).1 = 0 := fun c => by
        have : ∀ (c i : Nat), (M.chk b a 2 i c).2 = true → (M.chk b a 2 i c).1 = 0 := fun c => by
          induction c with
          | zero => exact fun _ _ => rfl
          | succ c ih =>
            intro i
            show (bif M.ok b _ 2 then M.chk b a 2 (i + 1) c else _).2 = true → (bif M.ok b _ 2 then M.chk b a 2 (i + 1) c else _).1 = 0
            cases M.ok b ((a + i) % 4294967296) 2 with
            | true => exact ih (i + 1)
            | false => intro h; cases h
        exact this c 0
      have key : ∀ k : Nat, n.toNat = k → (∀ w, M.St b w → Calls Try.prog 18 #[.pointer (some ⟨b.m, 0, none⟩), .int .u32 ((a : Nat) : Int), .int .i64 ((k : Nat) : Int), .int .u32 v] w fun e w' => e = .returned (bif (M.chk b a 2 0 k).2 then .tuple #[.int .u32 0, .bool true] else .tuple #[.int .u32 (M.chk b a 2 0 k).1, .bool false]) ∧ ∃ o', M.St o' w' ∧ Ch (fun x => M.ow b x) w w' ∧ M.Nxt w b o' ∧ ∀ V, M.Sh b V → M.Sh o' (bif (M.chk b a 2 0 k).2 then V.put a v k else V)) →
          Calls Try.prog 18 #[.pointer (some ⟨b.m, 0, none⟩), .int .u32 ((a : Nat) : Int), .int .i64 n, .int .u32 v] w fun e w' => e = .returned (.tuple #[.int .u32 (V.chk a 2 n).1, .bool (V.chk a 2 n).2]) ∧ ∃ b', M.St b' w' ∧ Ch (fun x => M.ow b x) w w' ∧ M.Nxt w b b' ∧ M.Sh b' (V.sto a n v) := fun k hk hc => by
        have := hc w hs
        rw [show ((k : Nat) : Int) = n by omega] at this
        refine this.mono fun e w' ⟨he, o', h1, h2, h3, h4⟩ => ⟨?_, o', h1, h2, h3, ?_⟩
        · rw [he, ‹V.chk a 2 n = _›, hk]
          cases hq : (M.chk b a 2 0 k).2 with
          | true => rw [e0 k hq]; rfl
          | false => rfl
        · have h5 := h4 V hV
          unfold M.V.sto
          rw [‹V.chk a 2 n = _›, hk]
          cases hq : (M.chk b a 2 0 k).2 with
          | true => rw [hq] at h5; exact h5
          | false => rw [hq] at h5; exact h5
      have h4 : n.toNat = 1 ∨ n.toNat = 2 ∨ n.toNat = 3 ∨ n.toNat = 4 := by omega
      rcases h4 with h | h | h | h
      · exact key 1 h fun w hs => Store_1 b a v ha w hs
      · exact key 2 h fun w hs => Store_2 b a v ha w hs
      · exact key 3 h fun w hs => Store_3 b a v ha w hs
      · exact key 4 h fun w hs => Store_4 b a v ha w hs
    · have e : V.chk a 2 n = (((a : Nat) : Int), false) := by unfold M.V.chk; rw [if_neg hn]
      have e2 : V.sto a n v = V := by unfold M.V.sto; rw [e]; rfl
      rw [e, e2]
      exact (Store_bad b a n v (by omega) w hs.at_).mono fun e w' ⟨he, hb⟩ => ⟨he, b, hs.keep fun x hx => hb.heap x hx, hb.ch _, M.Nxt.refl _ _, hV⟩
theorem A_Sync (a : Nat) (ha : a < 4294967296) : A.Tr Try.prog 33 #[.pointer (some ⟨m, 0, none⟩), .int .u32 ((a : Nat) : Int)] [M.It m V xs] (I := Unit) (fun _ => True) (fun _ => .bool (decide (a / 256 < V.n))) (fun _ => [M.It m (V.sync (a / 256)) xs]) :=
  M.wr fun b w hm hs hV => by
    subst hm
    refine (Sync_any b a ha w hs).mono fun e w' ⟨he, o', h1, h2, h3, h4⟩ => ⟨?_, o', h1, h2, h3, h4 V hV⟩
    rw [he, M.out_iff hV, Bool.not_not]
theorem A_Poke (a : Nat) (s : ByteArray) (ha : a < 4294967296) (hs : s.size < 4294967296) : A.Tr Try.prog 28 #[.pointer (some ⟨m, 0, none⟩), .int .u32 ((a : Nat) : Int), .string s] [M.It m V xs] (I := Unit) (fun _ => True) (fun _ => .tuple #[]) (fun _ => [M.It m (V.poke a s s.size) xs]) :=
  M.wr fun b w hm hst hV => by
    subst hm
    exact (Poke_any b a s hs w hst).mono fun e w' ⟨he, o', h1, h2, h3, h4⟩ => ⟨he, o', h1, h2, h3, h4 V hV⟩
theorem A_SetCode (n : Int) (s : ByteArray) : A.Tr Try.prog 36 #[.pointer (some ⟨m, 0, none⟩), .int .i64 n, .string s] [M.It m V xs] (I := Unit) (fun _ => True) (fun _ => .tuple #[]) (fun _ => [M.It m (V.setc n s) xs]) :=
  M.wr fun b w hm hst hV => by
    subst hm
    exact (SetCode_any b n s w hst).mono fun e w' ⟨he, o', h1, h2, h3, h4⟩ => ⟨he, o', h1, h2, h3, h4 V hV⟩
theorem A_Protect (n r : Int) : A.Tr Try.prog 16 #[.pointer (some ⟨m, 0, none⟩), .int .i64 n, .int .i64 r] [M.It m V xs] (I := Unit) (fun _ => True) (fun _ => .tuple #[]) (fun _ => [M.It m (V.prot n r) xs]) :=
  M.wr fun b w hm hst hV => by
    subst hm
    exact (Protect_any b n r w hst).mono fun e w' ⟨he, h1, h2⟩ => ⟨he, M.prot b n r, h1, h2, M.Nxt.prot _ _ _ _, hV.prot n r⟩
theorem A_Clean : A.Tr Try.prog 34 #[.pointer (some ⟨m, 0, none⟩)] [M.It m V xs] (I := Unit) (fun _ => True) (fun _ => .tuple #[]) (fun _ => [M.It m V.clean xs]) :=
  M.wr fun b w hm hst hV => by
    subst hm
    exact (Clean_any b w hst).mono fun e w' ⟨he, o', h1, h2, h3, h4⟩ => ⟨he, o', h1, h2, h3, h4 V hV⟩
theorem A_Dirty : A.Tr Try.prog 23 #[.pointer (some ⟨m, 0, none⟩)] [M.It m V xs] (I := Option Addr × Nat) (fun _ => True) (fun i => .slice i.1 V.dirty.length i.2) (fun i => [M.It m V xs, A.vec .i64 i.1 i.2 V.dirty]) := by
  intro w o a hh
  obtain ⟨o1, a1, h1, ho, ha⟩ := A.Has.one' hh
  obtain ⟨b, hm, hV, hb⟩ := M.It.ob h1
  subst hm
  have hd : M.dl b b.sl.length = V.dirty := by unfold M.V.dirty; rw [← hV.n]; exact hV.dl hb.1.inv _ (Nat.le_of_eq hV.n)
  have := Dirty_ob b xs w o a ((A.Has.one hb).iff (fun x => (ho x).symm) (fun x => (ha x).symm))
  rw [hd] at this
  refine this.mono fun e w' ⟨i, hi, he, o', a', ⟨p1, q1, p2, q2, h1, h2⟩, hc, hg⟩ => ⟨i, hi, he, o', a', ⟨p1, q1, p2, q2, M.Ob.it h1 hV, h2⟩, hc, hg⟩
theorem A_New (n : Int) (coh : Bool) : A.Tr Try.prog 15 #[.int .i64 n, .bool coh] [] (I := Nat) (fun _ => True) (fun g => .pointer (some ⟨g, 0, none⟩)) (fun g => [M.It g (M.V.new (M.np n) coh) []]) := by
  intro w o a hh
  refine (New_any n coh w).mono fun e w' ⟨b, he, h1, h2, h3, h4⟩ => ⟨b.m, trivial, he, fun x => x = b.m ∨ M.ow b x, fun x => M.all b x, A.Has.one ⟨b, rfl, h1, h2, fun i v hv => by simp at hv, fun _ => Iff.rfl, fun _ => Iff.rfl⟩, h3.ch _, fun x hx hk => ?_, fun x hx hk => ?_⟩
  · rcases hk with rfl | hk
    · have := h4 _ (.inl rfl); omega
    · have := h4 x (M.ow_all hk); omega
  · have := h4 x hk; omega
theorem A_Snapshot : A.Tr Try.prog 29 #[.pointer (some ⟨m, 0, none⟩)] [M.It m V xs] (I := Nat) (fun _ => True) (fun g => .pointer (some ⟨g, 0, none⟩)) (fun g => [M.It m V xs, M.It g V []]) := by
  intro w o a hh
  obtain ⟨b, hm, hs, hV, hx, ho, ha⟩ := M.It.open1 hh
  subst hm
  refine (Snapshot_any b w hs).mono fun e w' ⟨g, o', o2, he, h1, h2, hc, hn, hsh, hy⟩ => ?_
  have hno : ¬ M.ow b b.m := fun hw => by
    rcases hw with ⟨hn0, e⟩ | ⟨i, hi, _, e⟩ | ⟨i, hi, _, e⟩
    · exact hs.inv.mb hn0 e
    · exact (hs.inv.pm _ (M.pg_d hi)).1 e.symm
    · exact (hs.inv.pm _ (M.pg_c hi e)).1 rfl
  have hg := hy.m
  subst hg
  have hom : M.all o' o'.m := .inl rfl
  refine ⟨o2.m, trivial, he, fun x => (x = b.m ∨ M.ow o' x) ∨ (x = o2.m ∨ M.ow o2 x), fun x => M.all o' x ∨ M.all o2 x, ⟨fun x => x = b.m ∨ M.ow o' x, fun x => M.all o' x, fun x => x = o2.m ∨ M.ow o2 x, fun x => M.all o2 x, ⟨o', hn.m, h1, hsh V hV, fun i v hv => (hc.cell b.m _ (hs.at_.alive (.inl rfl)) hno).trans (hx i v hv), fun _ => Iff.rfl, fun _ => Iff.rfl⟩, A.Has.one ⟨o2, rfl, h2, hy.sh V hV, fun i v hv => by simp at hv, fun _ => Iff.rfl, fun _ => Iff.rfl⟩, fun x hx hk => ?_, fun x hx hk => ?_, fun _ => Iff.rfl, fun _ => Iff.rfl⟩, hc.mono fun x _ hx => (ho x).2 (.inr hx), fun x hx hk => ?_, fun x hx hk => ?_⟩
  · rcases hx with rfl | hx
    · rw [← hn.m] at hk; exact hy.dm hk
    · exact hy.d1 x hx hk
  · exact hy.d2 x hx hk
  · rcases hk with (rfl | hk) | (rfl | hk)
    · exact (ho _).2 (.inl rfl)
    · exact (ho x).2 (.inr (hn.ow x hx hk))
    · have := hy.new; omega
    · have := hy.ow x hk; omega
  · rcases hk with hk | hk
    · exact (ha x).2 (hn.al x hx hk)
    · rcases hy.al x hk with h | h
      · omega
      · exact (ha x).2 (hn.al x hx h)
end
theorem A_Equal {m n : Nat} {V W : M.V} {xs ys : List Value} : A.Rd Try.prog 30 #[.pointer (some ⟨m, 0, none⟩), .pointer (some ⟨n, 0, none⟩)] [M.It m V xs, M.It n W ys] (.bool (V.eq W)) := by
  intro w o a ⟨p1, q1, p2, q2, ⟨b, hm, hs, hV, _⟩, ⟨p3, q3, p4, q4, ⟨c, hm2, hs2, hV2, _⟩, _⟩, _⟩
  subst hm; subst hm2
  rw [← M.eql_eq hs.at_ hs2.at_ hV hV2]
  exact Equal_any b c w hs hs2
theorem A_EqualSelf {m : Nat} {V : M.V} {xs : List Value} : A.Rd Try.prog 30 #[.pointer (some ⟨m, 0, none⟩), .pointer (some ⟨m, 0, none⟩)] [M.It m V xs] (.bool (V.eq V)) :=
  M.rd fun b w hm hs hV => by subst hm; rw [← M.eql_eq hs.at_ hs.at_ hV hV]; exact Equal_any b b w hs hs
end Go.Proofs.Ytdjjjikokfadiaa
