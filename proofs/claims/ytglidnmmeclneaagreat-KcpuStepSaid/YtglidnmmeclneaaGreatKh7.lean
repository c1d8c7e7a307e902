/- Texts of the walk, merged (7): see the remark ahead of each. -/
import Derived.Test.YtglidnmmeclneaaGreatKh6
namespace Go.Proofs.YtglidnmmeclneaaGreat
set_option linter.unusedVariables false
set_option linter.unusedSimpArgs false
open Go.RowKit
/-- A memory of four pages that was never cleaned: nothing beyond its pages. -/
structure K.Ext (V : M.V) : Prop where
  n : V.n = 4
  co : V.coh = true
  i : V.i = V.d
  cd : V.cd = fun _ _ => 0
  ci : V.ci = fun _ _ => 0
  d : ∀ j x, ¬ (j < 4 ∧ x < 256) → V.d j x = 0
theorem K.Ext.new : K.Ext (M.V.new (M.np 4) true) := ⟨by kernel_rfl, rfl, rfl, rfl, rfl, fun _ _ _ => rfl⟩
theorem K.Ext.set {V : M.V} (h : K.Ext V) (a : Nat) (v : Int) : K.Ext (V.set a v) := by
  unfold M.V.set
  by_cases e : a / 256 < V.n
  · rw [if_pos e]
    have e4 : a / 256 < 4 := by rw [← h.n]; exact e
    refine ⟨h.n, h.co, ?_, h.cd, h.ci, fun j x hj => ?_⟩
    · show (if V.coh then M.up V.i (a / 256) (a % 256) v else V.i) = M.up V.d (a / 256) (a % 256) v
      rw [if_pos h.co, h.i]
    · show (if j = a / 256 ∧ x = a % 256 then v else V.d j x) = 0
      rw [if_neg (fun ⟨e1, e2⟩ => hj ⟨by omega, by omega⟩)]
      exact h.d j x hj
  · rw [if_neg e]; exact h
theorem K.Ext.poke {V : M.V} (h : K.Ext V) (a : Nat) (s : ByteArray) : ∀ c, K.Ext (V.poke a s c)
  | 0 => h
  | c + 1 => (K.Ext.poke h a s c).set _ _
theorem K.Ext.put {V : M.V} (h : K.Ext V) (a : Nat) (v : Int) : ∀ c, K.Ext (V.put a v c)
  | 0 => h
  | c + 1 => (K.Ext.put h a v c).set _ _
theorem K.Ext.prot {V : M.V} (h : K.Ext V) (n r : Int) : K.Ext (V.prot n r) := by
  unfold M.V.prot; split
  · exact ⟨h.n, h.co, h.i, h.cd, h.ci, h.d⟩
  · exact h
theorem K.Ext.sto {V : M.V} (h : K.Ext V) (a : Nat) (n v : Int) : K.Ext (V.sto a n v) := by
  unfold M.V.sto; split
  · exact h.put _ _ _
  · exact h
theorem K.Ext.eq {V W : M.V} (h : K.Ext V) (k : K.Ext W) (e : ∀ y, y < 1024 → V.d (y / 256) (y % 256) = W.d (y / 256) (y % 256)) (r : V.r = W.r) : V = W := by
  have ed : V.d = W.d := funext fun j => funext fun x => by
    by_cases hj : j < 4 ∧ x < 256
    · have := e (256 * j + x) (by omega)
      rw [show (256 * j + x) / 256 = j by omega, show (256 * j + x) % 256 = x by omega] at this
      exact this
    · rw [h.d j x hj, k.d j x hj]
  obtain ⟨n1, c1, d1, i1, a1, b1, r1⟩ := V
  obtain ⟨n2, c2, d2, i2, a2, b2, r2⟩ := W
  obtain ⟨h1, h2, h3, h4, h5, -⟩ := h
  obtain ⟨k1, k2, k3, k4, k5, -⟩ := k
  obtain rfl : n1 = n2 := (show n1 = 4 from h1).trans (show n2 = 4 from k1).symm
  obtain rfl : c1 = c2 := (show c1 = true from h2).trans (show c2 = true from k2).symm
  obtain rfl : d1 = d2 := ed
  obtain rfl : i1 = i2 := (show i1 = d1 from h3).trans (show i2 = d1 from k3).symm
  obtain rfl : a1 = a2 := (show a1 = _ from h4).trans (show a2 = _ from k4).symm
  obtain rfl : b1 = b2 := (show b1 = _ from h5).trans (show b2 = _ from k5).symm
  obtain rfl : r1 = r2 := r
  rfl
theorem K.set_r (V : M.V) (a : Nat) (v : Int) : (V.set a v).r = V.r := by unfold M.V.set; split <;> rfl
theorem K.poke_r (V : M.V) (a : Nat) (s : ByteArray) : ∀ c, (V.poke a s c).r = V.r
  | 0 => rfl
  | c + 1 => (K.set_r _ _ _).trans (K.poke_r V a s c)
theorem K.prot_d (V : M.V) (n r : Int) : (V.prot n r).d = V.d ∧ (V.prot n r).n = V.n := by unfold M.V.prot; split <;> exact ⟨rfl, rfl⟩
/-- A new memory into which another one's content is poked. -/
theorem K.copy {V : M.V} (h : K.Ext V) (hw : R.Wf V) (hr : V.r = fun _ => 0) : (M.V.new (M.np 4) true).poke (0 : Int).toNat (strOfNums (R.flat V.d V.n)) (strOfNums (R.flat V.d V.n)).size = V := by
  have hz : (strOfNums (R.flat V.d V.n)).size = 1024 := by rw [strOfNums_size, R.flat_len, h.n]
  have h0 : K.Mem (M.V.new (M.np 4) true) (fun _ => 0) (fun _ => 0) := ⟨by kernel_rfl, rfl, fun _ _ => rfl, fun _ _ => rfl, fun _ _ => rfl⟩
  refine K.Ext.eq (K.Ext.new.poke _ _ _) h (fun y hy => ?_) ((K.poke_r _ _ _ _).trans hr.symm)
  refine ((h0.poke (0 : Int).toNat (strOfNums (R.flat V.d V.n)) _ (by rw [hz]; decide)).d y hy).trans ?_
  show (if 0 ≤ y ∧ y < 0 + (strOfNums (R.flat V.d V.n)).size then W.byt (strOfNums (R.flat V.d V.n)).data.toList (y - 0) else 0) = _
  rw [hz, if_pos (by omega), Nat.sub_zero, W.byt_nums _ y (fun x hx => ?_), R.flat_get (by rw [h.n]; omega)]
  unfold R.flat at hx
  obtain ⟨q, hq, rfl⟩ := List.mem_map.1 hx
  have hq := List.mem_range.1 hq
  exact hw.d _ (by omega) _ (by omega)
theorem K.bW_ext (z a : Int) (s : ByteArray) : K.Ext (K.bW z a s) := (K.Ext.new.poke _ _ _).poke _ _ _
theorem K.bV_ext (x0 x1 x2 x3 z a : Int) (s : ByteArray) : K.Ext (K.bV x0 x1 x2 x3 z a s) := ((((K.bW_ext z a s).prot _ _).prot _ _).prot _ _).prot _ _
theorem K.bV_d (x0 x1 x2 x3 z a : Int) (s : ByteArray) : (K.bV x0 x1 x2 x3 z a s).d = (K.bW z a s).d ∧ (K.bV x0 x1 x2 x3 z a s).n = (K.bW z a s).n := by
  unfold K.bV
  rw [(K.prot_d _ _ _).1, (K.prot_d _ _ _).1, (K.prot_d _ _ _).1, (K.prot_d _ _ _).1, (K.prot_d _ _ _).2, (K.prot_d _ _ _).2, (K.prot_d _ _ _).2, (K.prot_d _ _ _).2]
  exact ⟨rfl, rfl⟩
theorem K.bV_copy (x0 x1 x2 x3 z a : Int) (s : ByteArray) : (((((M.V.new (M.np 4) true).poke (0 : Int).toNat (strOfNums (R.flat (K.bV x0 x1 x2 x3 z a s).d (K.bV x0 x1 x2 x3 z a s).n)) (strOfNums (R.flat (K.bV x0 x1 x2 x3 z a s).d (K.bV x0 x1 x2 x3 z a s).n)).size).prot 0 x0).prot 1 x1).prot 2 x2).prot 3 x3 = K.bV x0 x1 x2 x3 z a s := by
  rw [(K.bV_d x0 x1 x2 x3 z a s).1, (K.bV_d x0 x1 x2 x3 z a s).2, K.copy (K.bW_ext z a s) (K.bW_wf z a s) ((K.poke_r _ _ _ _).trans (K.poke_r _ _ _ _))]
  rfl
/-- What stores keep, a step keeps. -/
theorem K.stepI_mem {P : M.V → Prop} {i : K.Ins} {k t : Int} {s : Q.S} {V : M.V} (h : P V) (hs : ∀ a n v, P (V.sto a n v)) : P (K.stepI i k t s V).2.2.2 := by
  let p : Q.S × Int × Int × M.V → Prop := fun x => P x.2.2.2
  let q : K.W × M.V → Prop := fun y => P y.2
  show p (K.stepI i k t s V)
  have hp : ∀ x a n v, q (K.put x V a n v) := fun x a n v => Q.bifP (p := q) (fun _ => hs _ _ _) fun _ => hs _ _ _
  have hu : ∀ x v, q (K.push x V v) := fun x v => hp _ _ _ _
  have b2 : ∀ {c : Bool} {y : K.W × M.V}, q y → p (bif c then (s, y.1.k, y.1.t, y.2) else (y.1.s, y.1.k, y.1.t, y.2)) := fun h => Q.bifP (p := p) (fun _ => h) fun _ => h
  have hM : ∀ o, q (K.access (K.w0 s i) V o) := fun o => by
    unfold K.access
    refine Q.bifP (p := q) (fun _ => Q.bifP (p := q) (fun _ => h) fun _ => h) fun _ => ?_
    refine Q.bifP (p := q) (fun _ => Q.bifP (p := q) (fun _ => h) fun _ => h) fun _ => ?_
    refine Q.bifP (p := q) (fun _ => hp _ _ _ _) fun _ => ?_
    refine Q.bifP (p := q) (fun _ => hp _ _ _ _) fun _ => ?_
    refine Q.bifP (p := q) (fun _ => h) fun _ => ?_
    refine Q.bifP (p := q) (fun _ => Q.bifP (p := q) (fun _ => h) fun _ => h) fun _ => ?_
    exact Q.bifP (p := q) (fun _ => Q.bifP (p := q) (fun _ => h) fun _ => hp _ _ _ _) fun _ => h
  have hS : q (K.single (K.w0 s i) V) := by
    unfold K.single
    refine Q.bifP (p := q) (fun _ => hu _ _) fun _ => ?_
    refine Q.bifP (p := q) (fun _ => Q.bifP (p := q) (fun _ => h) fun _ => h) fun _ => ?_
    refine Q.bifP (p := q) (fun _ => h) fun _ => ?_
    refine Q.bifP (p := q) (fun _ => h) fun _ => ?_
    refine Q.bifP (p := q) (fun _ => (hu _ _ : _)) fun _ => ?_
    exact Q.bifP (p := q) (fun _ => h) fun _ => h
  have hC : q (K.control (K.w0 s i) V) := by
    unfold K.control
    refine Q.bifP (p := q) (fun _ => Q.bifP (p := q) (fun _ => h) fun _ => h) fun _ => ?_
    refine Q.bifP (p := q) (fun _ => h) fun _ => ?_
    refine Q.bifP (p := q) (fun _ => h) fun _ => ?_
    refine Q.bifP (p := q) (fun _ => h) fun _ => ?_
    refine Q.bifP (p := q) (fun _ => (hu _ _ : _)) fun _ => ?_
    refine Q.bifP (p := q) (fun _ => h) fun _ => ?_
    refine Q.bifP (p := q) (fun _ => h) fun _ => ?_
    refine Q.bifP (p := q) (fun _ => h) fun _ => ?_
    refine Q.bifP (p := q) (fun _ => ?_) fun _ => h
    refine Q.bifP (p := q) (fun _ => h) fun _ => ?_
    refine Q.bifP (p := q) (fun _ => h) fun _ => ?_
    refine Q.bifP (p := q) (fun _ => ?_) fun _ => h
    exact Q.bifP (p := q) (fun _ => h) fun _ => h
  unfold K.stepI
  have h2 : ∀ {c : Bool} {x y : Q.S × Int × Int}, p (bif c then (x.1, x.2.1, x.2.2, V) else (y.1, y.2.1, y.2.2, V)) := fun {c x y} => Q.bifP (p := p) (fun _ => h) fun _ => h
  refine Q.bifP (p := p) (fun _ => h) fun hk => ?_
  refine Q.bifP (p := p) (fun _ => Q.bifP (p := p) (fun _ => h) fun _ => h) fun _ => ?_
  refine Q.bifP (p := p) (fun _ => Q.bifP (p := p) (fun _ => h) fun _ => h) fun _ => ?_
  refine Q.bifP (p := p) (fun _ => Q.bifP (p := p) (fun _ => h) fun _ => h) fun _ => ?_
  refine Q.bifP (p := p) (fun _ => b2 (hM _)) fun _ => ?_
  refine Q.bifP (p := p) (fun _ => b2 (hM _)) fun _ => ?_
  refine Q.bifP (p := p) (fun _ => b2 hS) fun _ => ?_
  refine Q.bifP (p := p) (fun _ => ?_) fun _ => b2 hC
  exact Q.bifP (p := p) (fun _ => Q.bifP (p := p) (fun _ => h) fun _ => h) fun _ => Q.bifP (p := p) (fun _ => h) fun _ => h
theorem K.step_ext {s : Q.S} {V : M.V} (h : K.Ext V) : K.Ext (K.step s V).2.2.2 := K.stepI_mem h fun a n v => h.sto a n v
theorem KcpuStep_law (s : Q.S) (x0 x1 x2 x3 z a : Int) (code : ByteArray) (hs0 : K.sok s) (hx0 : 0 ≤ x0 ∧ x0 < 256) (hx1 : 0 ≤ x1 ∧ x1 < 256) (hx2 : 0 ≤ x2 ∧ x2 < 256) (hx3 : 0 ≤ x3 ∧ x3 < 256) (hz : 0 ≤ z ∧ z < 4294967296) (ha : 0 ≤ a ∧ a < 4294967296) (hcode : code.size ≤ maxLen) (w : World) : Calls Tryz.prog 3 #[.agg (Q.S.cells s ++ [Value.int .u8 x0, Value.int .u8 x1, Value.int .u8 x2, Value.int .u8 x3, Value.int .u32 z, Value.int .u32 a, Value.string code]).toArray] w fun e w' => e = .returned (.bool true) ∧ Bel w w' := by
  have hV := K.bV_wf x0 x1 x2 x3 z a code
  have hE := K.bV_ext x0 x1 x2 x3 z a code
  have h2 := K.bV_copy x0 x1 x2 x3 z a code
  have hw := K.step_wf hs0.wf hV
  have hx := K.step_ext (s := s) hE
  obtain ⟨V, hVe⟩ : ∃ V, K.bV x0 x1 x2 x3 z a code = V := ⟨_, rfl⟩
  rw [hVe] at hV hE h2 hw hx
  obtain ⟨T, kx, tx, W, hst⟩ : ∃ T kx tx W, K.step s V = (T, kx, tx, W) := ⟨_, _, _, _, rfl⟩
  rw [hst] at hw hx
  refine KcpuStep_rd s x0 x1 x2 x3 z a code ha hx0 hx1 hx2 hx3 V hVe hV hE.n _ rfl ?_ h2 hs0.wf hs0.f T kx tx W hst hw.2 hx.n w _ _ ⟨fun _ h => h, fun _ h => h⟩
  rw [strOfNums_size, R.flat_len, hE.n]
end Go.Proofs.YtglidnmmeclneaaGreat
