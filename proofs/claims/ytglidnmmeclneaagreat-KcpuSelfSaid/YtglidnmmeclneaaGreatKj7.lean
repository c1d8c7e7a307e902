/- Texts of the walk, merged (7): see the remark ahead of each. -/
import Derived.Test.YtglidnmmeclneaaGreatKj6
import Derived.Test.YtglidnmmeclneaaGreatProg
namespace Go.Proofs.YtglidnmmeclneaaGreat
set_option linter.unusedVariables false
set_option linter.unusedSimpArgs false
open Go.RowKit
theorem K.fetch_at {V : M.V} {p : Int} {i : K.Ins} (h : K.Good i) (hp : 0 ≤ p ∧ p < 4294967288) (hA : ∀ j : Nat, j < (K.bytes i).size → V.fetch (p.toNat + j) = (W.byt (K.bytes i).data.toList j, true)) : K.fetch V p = (i, 0, 0) := by
  obtain ⟨k, he⟩ := K.good_enc h
  obtain ⟨z1, z2, z3⟩ := K.good_size h
  have h0 : K.b0 V p = W.byt (K.bytes i).data.toList 0 := by
    unfold K.b0; have := hA 0 (by omega); rw [Nat.add_zero] at this; rw [this]
  have h1 : K.o0 V p = true := by
    unfold K.o0; have := hA 0 (by omega); rw [Nat.add_zero] at this; rw [this]
  have hb : ∀ j : Nat, j < 8 → j < (K.bytes i).size → K.b V p ((j : Nat) : Int) = W.byt (K.bytes i).data.toList j ∧ K.o V p ((j : Nat) : Int) = true := fun j h8 hj => by
    have e : (IntKind.wrap .u32 (p + ((j : Nat) : Int))).toNat = p.toNat + j := by
      show ((p + ((j : Nat) : Int)) % 4294967296).toNat = _
      omega
    unfold K.b K.o; rw [e, hA j hj]; exact ⟨rfl, rfl⟩
  have hop : W.byt (K.bytes i).data.toList 0 = i.op := K.byt_0 he
  have hz : K.size (K.b0 V p) = i.sz := by
    have hbd := W.byt_bd (K.bytes i).data.toList 0
    rw [h0]
    unfold K.size
    rw [hop] at hbd ⊢
    rw [IntWalk.i64_in _ (by omega), he.fmt]
    exact he.sz.symm
  have hl : (K.ser k i).length = (K.bytes i).size := by
    have := K.ser_len k he.lt i
    have := K.bytes_size he
    omega
  have hd : ∀ n : Nat, (K.bytes i).size = n → K.dc V p n = (i, 0) := fun n hn => by
    have e : K.bl V p n = K.ser k i := by
      show List.take n [K.b0 V p, K.b V p 1, K.b V p 2, K.b V p 3, K.b V p 4, K.b V p 5, K.b V p 6] = _
      apply List.ext_getElem
      · rw [List.length_take, hl, hn]; show min n 7 = n; omega
      · intro j j1 j2
        have hj : j < (K.bytes i).size := by omega
        have e2 : (K.ser k i)[j] = W.byt (K.bytes i).data.toList j := by rw [K.byt_bytes he j, List.getD_eq_getElem?_getD, List.getElem?_eq_getElem j2]; rfl
        rw [e2, List.getElem_take]
        rcases (by omega : j = 0 ∨ j = 1 ∨ j = 2 ∨ j = 3 ∨ j = 4 ∨ j = 5 ∨ j = 6) with rfl | rfl | rfl | rfl | rfl | rfl | rfl
        · exact h0
        · exact (hb 1 (by decide) hj).1
        · exact (hb 2 (by decide) hj).1
        · exact (hb 3 (by decide) hj).1
        · exact (hb 4 (by decide) hj).1
        · exact (hb 5 (by decide) hj).1
        · exact (hb 6 (by decide) hj).1
    unfold K.dc
    rw [e, ← K.bytes_eq he, K.decode_eq _ (by have : (8 : Nat) ≤ maxLen := by decide
                                              omega), K.dec_bytes h]
  have o1 : 1 < (K.bytes i).size → K.o V p 1 = true := fun h => (hb 1 (by decide) h).2
  have o2 : 2 < (K.bytes i).size → K.o V p 2 = true := fun h => (hb 2 (by decide) h).2
  have o3 : 3 < (K.bytes i).size → K.o V p 3 = true := fun h => (hb 3 (by decide) h).2
  have o4 : 4 < (K.bytes i).size → K.o V p 4 = true := fun h => (hb 4 (by decide) h).2
  have o5 : 5 < (K.bytes i).size → K.o V p 5 = true := fun h => (hb 5 (by decide) h).2
  have o6 : 6 < (K.bytes i).size → K.o V p 6 = true := fun h => (hb 6 (by decide) h).2
  unfold K.fetch
  rw [h1, hz]
  rcases (by omega : i.sz = 1 ∨ i.sz = 2 ∨ i.sz = 3 ∨ i.sz = 4 ∨ i.sz = 5 ∨ i.sz = 6 ∨ i.sz = 7) with e | e | e | e | e | e | e
  · rw [e, hd 1 (by omega)]; rfl
  · rw [e, o1 (by omega), hd 2 (by omega)]; rfl
  · rw [e, o1 (by omega), o2 (by omega), hd 3 (by omega)]; rfl
  · rw [e, o1 (by omega), o2 (by omega), o3 (by omega), hd 4 (by omega)]; rfl
  · rw [e, o1 (by omega), o2 (by omega), o3 (by omega), o4 (by omega), hd 5 (by omega)]; rfl
  · rw [e, o1 (by omega), o2 (by omega), o3 (by omega), o4 (by omega), o5 (by omega), hd 6 (by omega)]; rfl
  · rw [e, o1 (by omega), o2 (by omega), o3 (by omega), o4 (by omega), o5 (by omega), o6 (by omega), hd 7 (by omega)]; rfl
theorem K.step_at {s : Q.S} {V : M.V} {i : K.Ins} (h : K.fetch V s.pc = (i, 0, 0)) : K.step s V = K.stepI i 0 0 s V := by unfold K.step; rw [h]
/-- No timer is due. -/
abbrev K.nd (s : Q.S) : Prop := (decide (s.du > 0) && decide (s.st ≥ s.du)) = false
theorem K.nd0 {s : Q.S} (h : s.du ≤ 0) : K.nd s := by unfold K.nd; rw [decide_eq_false (by omega : ¬ s.du > 0)]; rfl
theorem K.nd1 {s : Q.S} (h : s.st < s.du) : K.nd s := by unfold K.nd; rw [decide_eq_false (by omega : ¬ s.st ≥ s.du), Bool.and_false]
theorem K.runs_s (k : Nat) {s s' : Q.S} {V V' : M.V} {t : Int} (h : K.nd s) (hs : K.step s V = (s', 0, t, V')) : K.runs (((k + 1 : Nat)) : Int) s V = K.runs ((k : Nat) : Int) s' V' := by
  show K.run (((k + 1 : Nat)) : Int) ((((k + 1 : Nat)) : Int).toNat + 1) 0 s V = K.run ((k : Nat) : Int) (((k : Nat) : Int).toNat + 1) 0 s' V'
  rw [show (((k + 1 : Nat)) : Int).toNat + 1 = (k + 1) + 1 by omega, show ((k : Nat) : Int).toNat + 1 = k + 1 by omega, K.run, h, cond_false, decide_eq_false (by omega : ¬ (((0 : Nat) : Int) ≥ (((k + 1 : Nat)) : Int))), cond_false, hs]
  show K.run (((k + 1 : Nat)) : Int) (k + 1) (0 + 1) s' V' = _
  exact K.run_shift _ _ _ (by omega)
/-- A memory of four pages that shows the bytes f and the rights r. -/
structure K.Mem (V : M.V) (f : Nat → Int) (r : Nat → Int) : Prop where
  n : V.n = 4
  co : V.coh = true
  d : ∀ x, x < 1024 → V.d (x / 256) (x % 256) = f x
  i : ∀ x, x < 1024 → V.i (x / 256) (x % 256) = f x
  r : ∀ j, j < 4 → V.r j = r j
theorem K.Mem.eq {V : M.V} {f g r : Nat → Int} (h : K.Mem V f r) (e : ∀ x, x < 1024 → f x = g x) : K.Mem V g r := ⟨h.n, h.co, fun x hx => (h.d x hx).trans (e x hx), fun x hx => (h.i x hx).trans (e x hx), h.r⟩
theorem K.Mem.set {V : M.V} {f r : Nat → Int} (h : K.Mem V f r) (a : Nat) (v : Int) : K.Mem (V.set a v) (fun x => if x = a then v else f x) r := by
  unfold M.V.set
  by_cases ha : a / 256 < V.n
  · rw [if_pos ha]
    refine ⟨h.n, h.co, fun x hx => ?_, fun x hx => ?_, h.r⟩
    · show M.up V.d (a / 256) (a % 256) v (x / 256) (x % 256) = _
      unfold M.up
      by_cases e : x = a
      · subst e; rw [if_pos ⟨rfl, rfl⟩, if_pos rfl]
      · rw [if_neg (by omega), if_neg e]; exact h.d x hx
    · show (if V.coh = true then M.up V.i (a / 256) (a % 256) v else V.i) (x / 256) (x % 256) = _
      rw [if_pos h.co]
      unfold M.up
      by_cases e : x = a
      · subst e; rw [if_pos ⟨rfl, rfl⟩, if_pos rfl]
      · rw [if_neg (by omega), if_neg e]; exact h.i x hx
  · rw [if_neg ha]
    have := h.n
    exact h.eq fun x hx => by rw [if_neg (by omega)]
theorem K.Mem.poke {V : M.V} {f r : Nat → Int} (h : K.Mem V f r) (a : Nat) (s : ByteArray) : ∀ c, a + c ≤ 4294967296 → K.Mem (V.poke a s c) (fun x => if a ≤ x ∧ x < a + c then W.byt s.data.toList (x - a) else f x) r
  | 0, _ => h.eq fun x hx => by rw [if_neg (by omega)]
  | c + 1, hc => by
    have ih := K.Mem.poke h a s c (by omega)
    have h2 := ih.set ((a + c) % 4294967296) (W.byt s.data.toList c)
    rw [Nat.mod_eq_of_lt (by omega : a + c < 4294967296)] at h2
    show K.Mem ((V.poke a s c).set ((a + c) % 4294967296) (W.byt s.data.toList c)) _ _
    rw [Nat.mod_eq_of_lt (by omega : a + c < 4294967296)]
    refine h2.eq fun x hx => ?_
    by_cases e : x = a + c
    · rw [if_pos e, if_pos (by omega), show x - a = c by omega]
    · rw [if_neg e]
      by_cases e2 : a ≤ x ∧ x < a + c
      · rw [if_pos e2, if_pos (by omega)]
      · rw [if_neg e2, if_neg (by omega)]
theorem K.Mem.put {V : M.V} {f r : Nat → Int} (h : K.Mem V f r) (a : Nat) (v : Int) : ∀ c, a + c ≤ 4294967296 → K.Mem (V.put a v c) (fun x => if a ≤ x ∧ x < a + c then IntKind.wrap .u8 (Int.fdiv v (2 ^ (8 * (x - a)))) else f x) r
  | 0, _ => h.eq fun x hx => by rw [if_neg (by omega)]
  | c + 1, hc => by
    have ih := K.Mem.put h a v c (by omega)
    have h2 := ih.set ((a + c) % 4294967296) (IntKind.wrap .u8 (Int.fdiv v (2 ^ (8 * c))))
    rw [Nat.mod_eq_of_lt (by omega : a + c < 4294967296)] at h2
    show K.Mem ((V.put a v c).set ((a + c) % 4294967296) (IntKind.wrap .u8 (Int.fdiv v (2 ^ (8 * c))))) _ _
    rw [Nat.mod_eq_of_lt (by omega : a + c < 4294967296)]
    refine h2.eq fun x hx => ?_
    by_cases e : x = a + c
    · rw [if_pos e, if_pos (by omega), show x - a = c by omega]
    · rw [if_neg e]
      by_cases e2 : a ≤ x ∧ x < a + c
      · rw [if_pos e2, if_pos (by omega)]
      · rw [if_neg e2, if_neg (by omega)]
theorem K.Mem.prot {V : M.V} {f r : Nat → Int} (h : K.Mem V f r) (k : Int) (p : Int) (hk : 0 ≤ k ∧ k < 4) : K.Mem (V.prot k p) f (fun j => if j = k.toNat then bits .and .i64 p 7 else r j) := by
  unfold M.V.prot
  have := h.n
  rw [if_pos (by omega)]
  refine ⟨h.n, h.co, h.d, h.i, fun j hj => ?_⟩
  show (if j = k.toNat then bits .and .i64 p 7 else V.r j) = _
  by_cases e : j = k.toNat
  · rw [if_pos e, if_pos e]
  · rw [if_neg e, if_neg e]; exact h.r j hj
theorem K.Mem.ok {V : M.V} {f r : Nat → Int} (h : K.Mem V f r) (a : Nat) (q : Int) (ha : a < 1024) : V.ok a q = !(bits .and .i64 (r (a / 256)) q == 0) := by
  have e2 : a / 256 < V.n := by rw [h.n]; omega
  have e3 : V.r (a / 256) = r (a / 256) := h.r _ (by omega)
  unfold M.V.ok
  rw [decide_eq_true e2, Bool.true_and, e3]
theorem K.Mem.peek {V : M.V} {f r : Nat → Int} (h : K.Mem V f r) {a : Nat} (ha : a < 1024) : V.peek a = f a := by
  unfold M.V.peek; rw [if_pos (by rw [h.n]; omega)]; exact h.d a ha
theorem K.Mem.fetch {V : M.V} {f r : Nat → Int} (h : K.Mem V f r) {a : Nat} (ha : a < 1024) (hr : (bits .and .i64 (r (a / 256)) 4 == 0) = false) : V.fetch a = (f a, true) := by
  unfold M.V.fetch M.V.code
  rw [h.ok a 4 ha, hr, if_pos (by rfl : (!false) = true), if_pos (by rw [h.n]; omega), h.i a ha]
theorem K.byt_mid (a b : ByteArray) (j : Nat) (h : a.size ≤ j) : W.byt (a ++ b).data.toList j = W.byt b.data.toList (j - a.size) := by
  unfold W.byt
  have e : (a ++ b).data.toList = a.data.toList ++ b.data.toList := by rw [ByteArray.data_append, Array.toList_append]
  rw [e, List.getD_eq_getElem?_getD, List.getD_eq_getElem?_getD, List.getElem?_append_right (by show a.data.toList.length ≤ j; rw [Array.length_toList]; exact h), Array.length_toList]
  rfl
/-- The memory of both, as bytes and rights. -/
def K.bf (z a : Int) (s : ByteArray) (x : Nat) : Int := if a.toNat ≤ x ∧ x < a.toNat + (K.cut s).size then W.byt (K.cut s).data.toList (x - a.toNat) else W.byt (K.fill z).data.toList x
def K.br (x0 x1 x2 x3 : Int) (j : Nat) : Int := bits .and .i64 (if j = 3 then x3 else if j = 2 then x2 else if j = 1 then x1 else x0) 7
theorem K.bV_mem (x0 x1 x2 x3 z a : Int) (s : ByteArray) (ha : 0 ≤ a ∧ a < 4294966000) : K.Mem (K.bV x0 x1 x2 x3 z a s) (K.bf z a s) (K.br x0 x1 x2 x3) := by
  have hs := K.cut_size s
  have h0 : K.Mem (M.V.new (M.np 4) true) (fun _ => 0) (fun _ => 0) := ⟨by kernel_rfl, rfl, fun _ _ => rfl, fun _ _ => rfl, fun _ _ => rfl⟩
  have h1 := h0.poke (0 : Int).toNat (K.fill z) (K.fill z).size (by rw [K.fill_size]; decide)
  have h2 := h1.poke a.toNat (K.cut s) (K.cut s).size (by omega)
  have h3 := (((h2.prot 0 x0 (by decide)).prot 1 x1 (by decide)).prot 2 x2 (by decide)).prot 3 x3 (by decide)
  have h4 : K.Mem (K.bV x0 x1 x2 x3 z a s) _ _ := h3
  refine ⟨h4.n, h4.co, fun x hx => ?_, fun x hx => ?_, fun j hj => ?_⟩
  · rw [h4.d x hx]
    unfold K.bf
    by_cases e : a.toNat ≤ x ∧ x < a.toNat + (K.cut s).size
    · rw [if_pos e, if_pos e]
    · rw [if_neg e, if_neg e, K.fill_size, if_pos (by show 0 ≤ x ∧ x < 0 + 1024; omega)]; rfl
  · rw [h4.i x hx]
    unfold K.bf
    by_cases e : a.toNat ≤ x ∧ x < a.toNat + (K.cut s).size
    · rw [if_pos e, if_pos e]
    · rw [if_neg e, if_neg e, K.fill_size, if_pos (by show 0 ≤ x ∧ x < 0 + 1024; omega)]; rfl
  · rw [h4.r j hj]
    unfold K.br
    rcases (by omega : j = 0 ∨ j = 1 ∨ j = 2 ∨ j = 3) with rfl | rfl | rfl | rfl <;> rfl
theorem K.cut_all {s : ByteArray} (h : s.size ≤ 400) : K.cut s = s := by
  unfold K.cut
  rw [if_neg (by omega)]
  apply K.str_inj
  rw [ByteArray.data_extract, Array.toList_extract]
  show ((s.data.toList.drop 0).take (s.size - 0)) = _
  rw [List.drop_zero, Nat.sub_zero]
  exact List.take_of_length_le (by rw [Array.length_toList]; exact Nat.le_refl _)
/-- An instruction that lies in the code, behind more bytes. -/
theorem K.code_fetch {V : M.V} {r : Nat → Int} {z a p : Int} {s : ByteArray} {i : K.Ins} (h : K.Good i) (hm : K.Mem V (K.bf z a s) r) (hs : s.size ≤ 400) (o : Nat) (ha : 0 ≤ a) (hp : p = a + ((o : Nat) : Int)) (hlt : p + 7 ≤ 1024)
    (hr : ∀ j : Nat, (bits .and .i64 (r ((p.toNat + j) / 256)) 4 == 0) = false ∨ 7 ≤ j) (hin : o + (K.bytes i).size ≤ s.size) (hb : ∀ j : Nat, j < (K.bytes i).size → W.byt s.data.toList (o + j) = W.byt (K.bytes i).data.toList j) : K.fetch V p = (i, 0, 0) := by
  obtain ⟨z1, z2, z3⟩ := K.good_size h
  refine K.fetch_at h (by omega) fun j hj => ?_
  rw [hm.fetch (by omega) ((hr j).resolve_right (by omega))]
  unfold K.bf
  rw [K.cut_all hs, if_pos (by omega), show p.toNat + j - a.toNat = o + j by omega, hb j hj]
theorem K.norm_id {s : Q.S} (hr : ∀ k, 8 ≤ k → k < 16 → s.r k = 0) (hf : 0 ≤ s.f ∧ s.f < 16) (h1 : 0 ≤ s.st) (h2 : 0 ≤ s.du) : K.norm s = s := by
  obtain ⟨pc, r, f, c, st, du⟩ := s
  have hr : ∀ k, 8 ≤ k → k < 16 → r k = 0 := hr
  have hf : 0 ≤ f ∧ f < 16 := hf
  have h1 : 0 ≤ st := h1
  have h2 : 0 ≤ du := h2
  have er : (Q.up (Q.up (Q.up (Q.up (Q.up (Q.up (Q.up (Q.up r 8 0) 9 0) 10 0) 11 0) 12 0) 13 0) 14 0) 15 0) = r := funext fun k => by
    unfold Q.up
    by_cases h : 8 ≤ k ∧ k < 16
    · rw [hr k h.1 h.2]; simp
    · simp only [if_neg (by omega : ¬ k = 8), if_neg (by omega : ¬ k = 9), if_neg (by omega : ¬ k = 10), if_neg (by omega : ¬ k = 11), if_neg (by omega : ¬ k = 12), if_neg (by omega : ¬ k = 13), if_neg (by omega : ¬ k = 14), if_neg (by omega : ¬ k = 15)]
  have ef : bits .and .u32 f 15 = f := by rw [show bits .and .u32 f 15 = f % 16 from W.and15 f hf.1 (by omega)]; omega
  show (⟨pc, (Q.up (Q.up (Q.up (Q.up (Q.up (Q.up (Q.up (Q.up r 8 0) 9 0) 10 0) 11 0) 12 0) 13 0) 14 0) 15 0), (bits .and .u32 f 15), c, (if 0 > st then 0 else st), (if 0 > du then 0 else du)⟩ : Q.S) = _
  rw [er, ef, if_neg (by omega), if_neg (by omega)]
/-- Registers 8 to 15 of a list of sixteen that ends so. -/
theorem K.tail8 {a b c d e f g h : Int} (k : Nat) (h1 : 8 ≤ k) (h2 : k < 16) : ([a, b, c, d, e, f, g, h, 0, 0, 0, 0, 0, 0, 0, 0] : List Int).getD k 0 = 0 := by
  rcases (by omega : k = 8 ∨ k = 9 ∨ k = 10 ∨ k = 11 ∨ k = 12 ∨ k = 13 ∨ k = 14 ∨ k = 15) with rfl | rfl | rfl | rfl | rfl | rfl | rfl | rfl <;> rfl
theorem K.row_bd {a b c d e f g h : Int} (ha : 0 ≤ a ∧ a < 4294967296) (hb : 0 ≤ b ∧ b < 4294967296) (hc : 0 ≤ c ∧ c < 4294967296) (hd : 0 ≤ d ∧ d < 4294967296) (he : 0 ≤ e ∧ e < 4294967296) (hf : 0 ≤ f ∧ f < 4294967296) (hg : 0 ≤ g ∧ g < 4294967296) (hh : 0 ≤ h ∧ h < 4294967296) (k : Nat) : 0 ≤ ([a, b, c, d, e, f, g, h, 0, 0, 0, 0, 0, 0, 0, 0] : List Int).getD k 0 ∧ ([a, b, c, d, e, f, g, h, 0, 0, 0, 0, 0, 0, 0, 0] : List Int).getD k 0 < 4294967296 := by
  refine K.lst_bd _ (fun x hx => ?_) k
  simp only [List.mem_cons, List.not_mem_nil, or_false] at hx
  rcases hx with rfl | rfl | rfl | rfl | rfl | rfl | rfl | rfl | rfl | rfl | rfl | rfl | rfl | rfl | rfl | rfl <;> first | assumption | decide
theorem K.z32 : (0 : Int) ≤ 0 ∧ (0 : Int) < 4294967296 := by decide
theorem K.cat_cat (a b c : ByteArray) : (a ++ b) ++ c = a ++ (b ++ c) := K.str_inj (by simp [ByteArray.data_append])
theorem K.nil_cat (a : ByteArray) : (⟨#[]⟩ : ByteArray) ++ a = a := K.str_inj (by simp [ByteArray.data_append])
/-- An instruction that lies between other code. -/
theorem K.fetch_cat {i : K.Ins} {x0 x1 x2 x3 z a p : Int} {code pre post : ByteArray} (h : K.Good i) (hc : code = (pre ++ (R2.Encode i).1) ++ post) (hs : code.size ≤ 400) (ha : 0 ≤ a ∧ p + 7 ≤ 1024) (hp : p = a + ((pre.size : Nat) : Int)) (hx : ∀ j, (j = p.toNat / 256 ∨ j = (p.toNat + 6) / 256) → (bits .and .i64 (K.br x0 x1 x2 x3 j) 4 == 0) = false) : K.fetch (K.bV x0 x1 x2 x3 z a code) p = (i, 0, 0) := by
  obtain ⟨z1, z2, z3⟩ := K.good_size h
  have hz : code.size = pre.size + (K.bytes i).size + post.size := by subst hc; rw [ByteArray.size_append, ByteArray.size_append]; rfl
  refine K.code_fetch h (K.bV_mem x0 x1 x2 x3 z a code (by omega)) hs pre.size ha.1 hp ha.2 (fun j => ?_) (by omega) (fun j hj => ?_)
  · by_cases hj : j < 7
    · refine .inl (hx _ ?_)
      omega
    · exact .inr (by omega)
  · subst hc
    rw [K.byt_app _ _ _ (by rw [ByteArray.size_append]; show pre.size + j < pre.size + (K.bytes i).size; omega), K.byt_mid _ _ _ (by omega), show pre.size + j - pre.size = j by omega]; rfl
theorem K.drop {P : Program} {n : Nat} {Q : Exit → Act → World → Prop} {w0 : World} {o0 a0 : Nat → Prop} {its : List A.It} {L : List (Nat × List Value)} {fr : E.Fr} {c : Code} (l r : List A.It) (hp : its.Perm (l ++ r)) (k : E.C P n Q c fr o0 w0 (A.X w0 o0 a0 l) L) : E.C P n Q c fr o0 w0 (A.X w0 o0 a0 its) L :=
  fun a w h1 h2 => k a w h1 (h2.monoX fun w ⟨hs, o, a, hh, hg⟩ => by
    obtain ⟨o1, a1, o2, a2, k1, k2, _, _, ho, ha⟩ := (hh.perm hp).append
    exact ⟨hs, o1, a1, k1, fun x hx hk => hg.1 x hx ((ho x).2 (.inl hk)), fun x hx hk => hg.2 x hx ((ha x).2 (.inl hk))⟩)
/-- A memory of four pages that was never cleaned: nothing beyond its pages. -/
structure K.Ext (V : M.V) : Prop where
  n : V.n = 4
  co : V.coh = true
  i : V.i = V.d
  cd : V.cd = fun _ _ => 0
  ci : V.ci = fun _ _ => 0
  d : ∀ j x, ¬ (j < 4 ∧ x < 256) → V.d j x = 0
theorem K.Ext.new : K.Ext (M.V.new (M.np 4) true) := ⟨by kernel_rfl, rfl, rfl, rfl, rfl, fun _ _ _ => rfl⟩
theorem K.Ext.set {V : M.V} (h : K.Ext V) (a : Nat) (v : Int) : K.Ext (V.set a v) := by
  unfold M.V.set
  by_cases e : a / 256 < V.n
  · rw [if_pos e]
    have e4 : a / 256 < 4 := by rw [← h.n]; exact e
    refine ⟨h.n, h.co, ?_, h.cd, h.ci, fun j x hj => ?_⟩
    · show (if V.coh then M.up V.i (a / 256) (a % 256) v else V.i) = M.up V.d (a / 256) (a % 256) v
      rw [if_pos h.co, h.i]
    · show (if j = a / 256 ∧ x = a % 256 then v else V.d j x) = 0
      rw [if_neg (fun ⟨e1, e2⟩ => hj ⟨by omega, by omega⟩)]
      exact h.d j x hj
  · rw [if_neg e]; exact h
theorem K.Ext.poke {V : M.V} (h : K.Ext V) (a : Nat) (s : ByteArray) : ∀ c, K.Ext (V.poke a s c)
  | 0 => h
  | c + 1 => (K.Ext.poke h a s c).set _ _
theorem K.Ext.put {V : M.V} (h : K.Ext V) (a : Nat) (v : Int) : ∀ c, K.Ext (V.put a v c)
  | 0 => h
  | c + 1 => (K.Ext.put h a v c).set _ _
theorem K.Ext.prot {V : M.V} (h : K.Ext V) (n r : Int) : K.Ext (V.prot n r) := by
  unfold M.V.prot; split
  · exact ⟨h.n, h.co, h.i, h.cd, h.ci, h.d⟩
  · exact h
theorem K.Ext.eq {V W : M.V} (h : K.Ext V) (k : K.Ext W) (e : ∀ y, y < 1024 → V.d (y / 256) (y % 256) = W.d (y / 256) (y % 256)) (r : V.r = W.r) : V = W := by
  have ed : V.d = W.d := funext fun j => funext fun x => by
    by_cases hj : j < 4 ∧ x < 256
    · have := e (256 * j + x) (by omega)
      rw [show (256 * j + x) / 256 = j by omega, show (256 * j + x) % 256 = x by omega] at this
      exact this
    · rw [h.d j x hj, k.d j x hj]
  obtain ⟨n1, c1, d1, i1, a1, b1, r1⟩ := V
  obtain ⟨n2, c2, d2, i2, a2, b2, r2⟩ := W
  obtain ⟨h1, h2, h3, h4, h5, -⟩ := h
  obtain ⟨k1, k2, k3, k4, k5, -⟩ := k
  obtain rfl : n1 = n2 := (show n1 = 4 from h1).trans (show n2 = 4 from k1).symm
  obtain rfl : c1 = c2 := (show c1 = true from h2).trans (show c2 = true from k2).symm
  obtain rfl : d1 = d2 := ed
  obtain rfl : i1 = i2 := (show i1 = d1 from h3).trans (show i2 = d1 from k3).symm
  obtain rfl : a1 = a2 := (show a1 = _ from h4).trans (show a2 = _ from k4).symm
  obtain rfl : b1 = b2 := (show b1 = _ from h5).trans (show b2 = _ from k5).symm
  obtain rfl : r1 = r2 := r
  rfl
theorem K.set_r (V : M.V) (a : Nat) (v : Int) : (V.set a v).r = V.r := by unfold M.V.set; split <;> rfl
theorem K.poke_r (V : M.V) (a : Nat) (s : ByteArray) : ∀ c, (V.poke a s c).r = V.r
  | 0 => rfl
  | c + 1 => (K.set_r _ _ _).trans (K.poke_r V a s c)
/-- A new memory into which another one's content is poked. -/
theorem K.copy {V : M.V} (h : K.Ext V) (hw : R.Wf V) (hr : V.r = fun _ => 0) : (M.V.new (M.np 4) true).poke (0 : Int).toNat (strOfNums (R.flat V.d V.n)) (strOfNums (R.flat V.d V.n)).size = V := by
  have hz : (strOfNums (R.flat V.d V.n)).size = 1024 := by rw [strOfNums_size, R.flat_len, h.n]
  have h0 : K.Mem (M.V.new (M.np 4) true) (fun _ => 0) (fun _ => 0) := ⟨by kernel_rfl, rfl, fun _ _ => rfl, fun _ _ => rfl, fun _ _ => rfl⟩
  refine K.Ext.eq (K.Ext.new.poke _ _ _) h (fun y hy => ?_) ((K.poke_r _ _ _ _).trans hr.symm)
  refine ((h0.poke (0 : Int).toNat (strOfNums (R.flat V.d V.n)) _ (by rw [hz]; decide)).d y hy).trans ?_
  show (if 0 ≤ y ∧ y < 0 + (strOfNums (R.flat V.d V.n)).size then W.byt (strOfNums (R.flat V.d V.n)).data.toList (y - 0) else 0) = _
  rw [hz, if_pos (by omega), Nat.sub_zero, W.byt_nums _ y (fun x hx => ?_), R.flat_get (by rw [h.n]; omega)]
  unfold R.flat at hx
  obtain ⟨q, hq, rfl⟩ := List.mem_map.1 hx
  have hq := List.mem_range.1 hq
  exact hw.d _ (by omega) _ (by omega)
theorem K.bW_ext (z a : Int) (s : ByteArray) : K.Ext (K.bW z a s) := (K.Ext.new.poke _ _ _).poke _ _ _
theorem K.bV_ext (x0 x1 x2 x3 z a : Int) (s : ByteArray) : K.Ext (K.bV x0 x1 x2 x3 z a s) := ((((K.bW_ext z a s).prot _ _).prot _ _).prot _ _).prot _ _
abbrev Z8v7b (sa : ByteArray) (g4 : ByteArray) (f4 : ByteArray) : List Value := [Value.int .u8 7, Value.int .u8 7, Value.int .u8 7, Value.int .u8 7, Value.int .u32 0, Value.int .u32 0, Value.string ((sa ++ g4) ++ f4)]
abbrev Z8v7c : Array Value := #[.int .u8 7, .int .u8 7, .int .u8 7, .int .u8 7]
abbrev Z8v7d (F : ByteArray) := IntKind.wrap .u32 ((IntKind.wrap .u32 (W.byt F.data.toList 0)) + (IntKind.wrap .u32 ((IntKind.wrap .u32 (W.byt F.data.toList 1)) * 2 ^ 8)))
abbrev Z8v7e (F : ByteArray) := IntKind.wrap .u32 ((IntKind.wrap .u32 (W.byt F.data.toList 2)) * 2 ^ 16)
abbrev Z8v7a (F : ByteArray) := IntKind.wrap .u32 ((IntKind.wrap .u32 ((Z8v7d F) + (Z8v7e F))) + (IntKind.wrap .u32 ((IntKind.wrap .u32 (W.byt F.data.toList 3)) * 2 ^ 24)))
abbrev Z8v7f := (⟨81, 1, 2, -1, 0, 0, 3⟩ : K.Ins)
abbrev Z8v7g (w_ : Int) : Array Value := #[E.u 0, E.u w_, E.u 3, E.u 0, E.u 0, E.u 0, E.u 0, E.u 600, E.u 0, E.u 0, E.u 0, E.u 0, E.u 0, E.u 0, E.u 0, E.u 0]
abbrev Z8v7h (c2 : ByteArray) : List Value := [Value.int .u8 7, Value.int .u8 7, Value.int .u8 7, Value.int .u8 7, Value.int .u32 0, Value.int .u32 0, Value.string c2]
set_option maxHeartbeats 4000000 in
theorem KcpuSelf_rd (q0 q1 q2 q3 q4 o0 o1 o2 o3 o4 : Int) (w_ : Int) (sa e1 e2 F G g4 f4 c2 : ByteArray) (hsa : (R2.Encode (⟨81, 1, 2, -1, 0, 0, 3⟩ : K.Ins)).1 = sa) (he1 : (R2.Encode (R2.Made q0 q1 q2 q3 q4)).1 = e1) (he2 : (R2.Encode (R2.Made o0 o1 o2 o3 o4)).1 = e2) (hq1 : e1.size + (⟨#[0, 0, 0, 0]⟩ : ByteArray).size ≤ 9223372036854775807) (hq2 : e2.size + (⟨#[0, 0, 0, 0, 0, 0, 0]⟩ : ByteArray).size ≤ 9223372036854775807) (hzs : sa.size ≤ 7) (hz1 : e1.size ≤ 7) (hz2 : e2.size ≤ 7) (hF : e1 ++ (⟨#[0, 0, 0, 0]⟩ : ByteArray) = F) (hG : e2 ++ (⟨#[0, 0, 0, 0, 0, 0, 0]⟩ : ByteArray) = G) (hzF : 4 ≤ F.size ∧ F.size ≤ 11) (hzG : 4 ≤ G.size ∧ G.size ≤ 14) (hg4 : G.extract 0 (4 : Int).toNat = g4) (hf4 : F.extract (4 : Int).toNat F.size = f4) (hzg : g4.size ≤ 4) (hzf : f4.size ≤ 11) (hc2 : sa ++ F = c2) (hword : (IntKind.wrap .u32 ((IntKind.wrap .u32 ((IntKind.wrap .u32 ((IntKind.wrap .u32 (W.byt F.data.toList 0)) + (IntKind.wrap .u32 ((IntKind.wrap .u32 (W.byt F.data.toList 1)) * 2 ^ 8)))) + (IntKind.wrap .u32 ((IntKind.wrap .u32 (W.byt F.data.toList 2)) * 2 ^ 16)))) + (IntKind.wrap .u32 ((IntKind.wrap .u32 (W.byt F.data.toList 3)) * 2 ^ 24)))) = w_) (hw0 : 0 ≤ w_ ∧ w_ < 4294967296) (S : Q.S) (V1 V2 : M.V) (Z : Q.S × Int × Int × M.V) (hS : K.norm (⟨0, (fun k => [0, w_, 3, 0, 0, 0, 0, 600, 0, 0, 0, 0, 0, 0, 0, 0].getD k 0), 0, (fun _ => 0), 0, 0⟩ : Q.S) = S) (hwS : Q.wf S) (hV1 : K.bV 7 7 7 7 0 0 ((sa ++ g4) ++ f4) = V1) (hV2 : K.bV 7 7 7 7 0 0 c2 = V2) (hwV1 : R.Wf V1) (hwV2 : R.Wf V2) (hr1 : K.runs 2 S V1 = Z) (hr2 : K.runs 2 S V2 = Z) (hwR : Q.wf Z.1 ∧ R.Wf Z.2.2.2) : A.Rd Tryz.prog 13 #[.agg #[.int .i64 q0, .int .i64 q1, .int .i64 q2, .int .i64 q3, .int .i64 q4], .agg #[.int .i64 o0, .int .i64 o1, .int .i64 o2, .int .i64 o3, .int .i64 o4]] [] (.bool true) := by
 intro w oo aa hh
 refine E.enter (n := 100) (S := oo) Tryz.func13 rfl rfl Nz.k (A.start (L := []) hh) (E.sr (E.nw [E.i q0, E.i q1, E.i q2, E.i q3, E.i q4] 86 (fun g1 => E.nw [E.i o0, E.i o1, E.i o2, E.i o3, E.i o4] 86 (fun g2 => E.op (.bool false) (E.tr (E.ca (.bool true) (fun w h => A.cq [] [0, 1] (San5) h) (E.op (.bool true) (E.tr (E.vl (.agg #[E.i 81, E.i 1, E.i 2, E.i (-1), E.i 0, E.u 0, E.i 3]) (fun w h => E.run_build #[E.i 81, E.i 1, E.i 2, E.i (-1), E.i 0, E.u 0, E.i 3] Nz.k w) (E.ca (.agg #[.string ((R2.Encode Z8v7f).1), E.i ((R2.Encode Z8v7f).2)]) (fun w h => R2_Encode Z8v7f w) (E.vl (.string sa) (fun w h => E.run_as (a := .string ((R2.Encode Z8v7f).1)) Nz.k (congrArg Value.string hsa)) ?_)))))))))))
 refine E.op (.string sa) (E.tr (E.li (.agg #[E.i q0, E.i q1, E.i q2, E.i q3, E.i q4]) 1 rfl rfl (E.ca (.agg #[E.i ((R2.Made q0 q1 q2 q3 q4).op), E.i ((R2.Made q0 q1 q2 q3 q4).d), E.i ((R2.Made q0 q1 q2 q3 q4).s), E.i ((R2.Made q0 q1 q2 q3 q4).ix), E.i ((R2.Made q0 q1 q2 q3 q4).sc), E.u ((R2.Made q0 q1 q2 q3 q4).imm), E.i ((R2.Made q0 q1 q2 q3 q4).sz)]) (fun w h => R2_Made q0 q1 q2 q3 q4 w) (E.ca (.agg #[.string ((R2.Encode (R2.Made q0 q1 q2 q3 q4)).1), E.i ((R2.Encode (R2.Made q0 q1 q2 q3 q4)).2)]) (fun w h => R2_Encode (R2.Made q0 q1 q2 q3 q4) w) (E.vl (.string e1) (fun w h => E.run_as (a := .string ((R2.Encode (R2.Made q0 q1 q2 q3 q4)).1)) Nz.k (congrArg Value.string he1)) (E.vl (.string F) (fun w h => E.run_as (a := .string (e1 ++ (⟨#[0, 0, 0, 0]⟩ : ByteArray))) (E.cat e1 (⟨#[0, 0, 0, 0]⟩ : ByteArray) Nz.k Nz.k (by first | omega | assumption | (rw [ByteArray.size_append]; omega)) w) (congrArg Value.string hF)) (E.op (.string F) (E.To.code (E.wk [(3, E.pt g2), (4, .bool false), (5, .bool true), (6, .string sa), (7, .string F)] [(g2, [E.i o0, E.i o1, E.i o2, E.i o3, E.i o4])] Nz.sub (E.sr (E.li (.agg #[E.i o0, E.i o1, E.i o2, E.i o3, E.i o4]) 0 rfl rfl ?_)))))))))))
 refine E.ca (.agg #[E.i ((R2.Made o0 o1 o2 o3 o4).op), E.i ((R2.Made o0 o1 o2 o3 o4).d), E.i ((R2.Made o0 o1 o2 o3 o4).s), E.i ((R2.Made o0 o1 o2 o3 o4).ix), E.i ((R2.Made o0 o1 o2 o3 o4).sc), E.u ((R2.Made o0 o1 o2 o3 o4).imm), E.i ((R2.Made o0 o1 o2 o3 o4).sz)]) (fun w h => R2_Made o0 o1 o2 o3 o4 w) (E.ca (.agg #[.string ((R2.Encode (R2.Made o0 o1 o2 o3 o4)).1), E.i ((R2.Encode (R2.Made o0 o1 o2 o3 o4)).2)]) (fun w h => R2_Encode (R2.Made o0 o1 o2 o3 o4) w) (E.vl (.string e2) (fun w h => E.run_as (a := .string ((R2.Encode (R2.Made o0 o1 o2 o3 o4)).1)) Nz.k (congrArg Value.string he2)) (E.vl (.string G) (fun w h => E.run_as (a := .string (e2 ++ (⟨#[0, 0, 0, 0, 0, 0, 0]⟩ : ByteArray))) (E.cat e2 (⟨#[0, 0, 0, 0, 0, 0, 0]⟩ : ByteArray) Nz.k Nz.k (by first | omega | assumption | (rw [ByteArray.size_append]; omega)) w) (congrArg Value.string hG)) (E.op (.string G) (E.To.code (E.C.seq (E.C.quiet Nz.k Nz.k (E.wo (.string F) (E.wv (.int .u8 (W.byt F.data.toList 0)) (fun w h => E.sidx F .i64 0 Nz.k Nz.k Nz.k (by omega) (by omega) w) (E.wo (E.u (IntKind.wrap .u32 (W.byt F.data.toList 0))) (E.wo (.string F) ?_)))))))))))
 refine E.wv (.int .u8 (W.byt F.data.toList 1)) (fun w h => E.sidx F .i64 1 Nz.k Nz.k Nz.k (by omega) (by omega) w) (E.wo (E.u (IntKind.wrap .u32 (W.byt F.data.toList 1))) (E.wo (E.u (IntKind.wrap .u32 ((IntKind.wrap .u32 (W.byt F.data.toList 1)) * 2 ^ 8))) (E.wo (E.u (Z8v7d F)) (E.wo (.string F) (E.wv (.int .u8 (W.byt F.data.toList 2)) (fun w h => E.sidx F .i64 2 Nz.k Nz.k Nz.k (by omega) (by omega) w) (E.wo (E.u (IntKind.wrap .u32 (W.byt F.data.toList 2))) (E.wo (E.u (Z8v7e F)) (E.wo (E.u (IntKind.wrap .u32 ((Z8v7d F) + (Z8v7e F)))) (E.wo (.string F) (E.wv (.int .u8 (W.byt F.data.toList 3)) (fun w h => E.sidx F .i64 3 Nz.k Nz.k Nz.k (by omega) (by omega) w) (E.wo (E.u (IntKind.wrap .u32 (W.byt F.data.toList 3))) ?_)))))))))))
 refine E.wo (E.u (IntKind.wrap .u32 ((IntKind.wrap .u32 (W.byt F.data.toList 3)) * 2 ^ 24))) (E.wo (E.u (Z8v7a F)) (E.wo (E.u (Z8v7a F)) (E.W.done (E.To.code (E.wk [(4, .bool false), (5, .bool true), (6, .string sa), (7, .string F), (8, .string G), (9, E.u (Z8v7a F))] [] Nz.sub (E.sr (E.vl (E.u w_) (fun w h => E.run_as (a := E.u (Z8v7a F)) Nz.k (congrArg (Value.int .u32) hword)) (E.vl (.agg (Z8v7g w_)) (fun w h => E.run_build (Z8v7g w_) Nz.k w) (E.vl (Q.S.val (⟨0, (fun k => [0, w_, 3, 0, 0, 0, 0, 600, 0, 0, 0, 0, 0, 0, 0, 0].getD k 0), 0, (fun _ => 0), 0, 0⟩)) (fun w h => E.run_build (Q.S.cells ⟨0, (fun k => [0, w_, 3, 0, 0, 0, 0, 600, 0, 0, 0, 0, 0, 0, 0, 0].getD k 0), 0, (fun _ => 0), 0, 0⟩).toArray Nz.k w) (E.nw (Q.S.cells Q.z0) 26 (fun g3 => E.st 0 (Q.S.cells (⟨0, (fun k => [0, w_, 3, 0, 0, 0, 0, 600, 0, 0, 0, 0, 0, 0, 0, 0].getD k 0), 0, (fun _ => 0), 0, 0⟩)) rfl rfl (E.To.code ?_))))))))))))
 refine E.C.seq (E.C.held (A.Y [A.blk g3 (Q.S.cells (⟨0, (fun k => [0, w_, 3, 0, 0, 0, 0, 600, 0, 0, 0, 0, 0, 0, 0, 0].getD k 0), 0, (fun _ => 0), 0, 0⟩))]) Nz.k (E.H.gen (fun H up dn => ?_)))
 have nd2 : ∀ (α : (Nat × Nat) × (Nat × Nat)), H 5 (E.bits 16 2047) [(4, .bool false), (5, .bool true), (6, .string sa), (7, .string F), (10, E.pt g3), (63, .tuple #[E.pt α.1.1, E.pt α.2.1])] (A.X w oo aa [M.It α.1.2 V1 ([])]) [(α.1.1, (E.pt α.1.2 :: Q.S.cells S)), (g3, (Q.S.cells (⟨0, (fun k => [0, w_, 3, 0, 0, 0, 0, 600, 0, 0, 0, 0, 0, 0, 0, 0].getD k 0), 0, (fun _ => 0), 0, 0⟩)))] := by
  intro α
  refine up _ _ _ _ _ (E.tk 11 (.tuple #[E.pt α.1.1, E.pt α.2.1]) rfl (fun w h => A.hq [1] [0, 2] h) (E.tk 12 (E.pt α.1.1) rfl (fun w h => A.hq [1] [0, 2] h) (E.tk 13 (E.pt α.2.1) rfl (fun w h => A.hq [1] [0, 2] h) (E.tk 14 (E.pt α.1.1) rfl (fun w h => A.hq [1] [0, 2] h) (E.tk 15 (E.pt α.2.1) rfl (fun w h => A.hq [1] [0, 2] h) (E.H.done Nz.k (E.tr (E.li (Q.S.val (⟨0, (fun k => [0, w_, 3, 0, 0, 0, 0, 600, 0, 0, 0, 0, 0, 0, 0, 0].getD k 0), 0, (fun _ => 0), 0, 0⟩)) 1 rfl rfl (E.vl (.agg Z8v7c) (fun w h => E.run_build Z8v7c Nz.k w) (E.op (.string sa) (E.op (.string F) ?_)))))))))))
  refine E.vl (.string c2) (fun w h => E.run_as (a := .string (sa ++ F)) (E.cat sa F Nz.k Nz.k (by first | omega | assumption | (rw [ByteArray.size_append]; omega)) w) (congrArg Value.string hc2)) (E.vl (.agg (Q.S.cells (⟨0, (fun k => [0, w_, 3, 0, 0, 0, 0, 600, 0, 0, 0, 0, 0, 0, 0, 0].getD k 0), 0, (fun _ => 0), 0, 0⟩ : Q.S) ++ (Z8v7h c2)).toArray) (fun w h => E.run_build (Q.S.cells (⟨0, (fun k => [0, w_, 3, 0, 0, 0, 0, 600, 0, 0, 0, 0, 0, 0, 0, 0].getD k 0), 0, (fun _ => 0), 0, 0⟩ : Q.S) ++ (Z8v7h c2)).toArray Nz.k w) (A.gc (I := (Nat × Nat) × (Nat × Nat)) (q := fun i4 => [A.blk i4.1.1 (E.pt i4.1.2 :: Q.S.cells S), M.It i4.1.2 V2 ([])]) (fun i4 => .tuple #[E.pt i4.1.1, E.pt i4.2.1]) (Both1 (⟨0, (fun k => [0, w_, 3, 0, 0, 0, 0, 600, 0, 0, 0, 0, 0, 0, 0, 0].getD k 0), 0, (fun _ => 0), 0, 0⟩ : Q.S) 7 7 7 7 0 0 c2 (by decide) (by decide) (by decide) (by decide) (by decide) hS hV2) [] [0, 1, 2] [0, 2, 3, 1, 4] (fun i4 => [(i4.1.1, (E.pt i4.1.2 :: Q.S.cells S)), (α.1.1, (E.pt α.1.2 :: Q.S.cells S)), (g3, (Q.S.cells (⟨0, (fun k => [0, w_, 3, 0, 0, 0, 0, 600, 0, 0, 0, 0, 0, 0, 0, 0].getD k 0), 0, (fun _ => 0), 0, 0⟩)))]) (fun i4 => [M.It i4.1.2 V2 ([]), M.It α.1.2 V1 ([])]) (fun i4 hd5 => E.op (.tuple #[E.pt i4.1.1, E.pt i4.2.1]) (E.op (E.pt i4.1.1) (E.op (E.pt i4.2.1) (E.op (E.pt i4.1.1) (E.op (E.pt i4.2.1) (E.To.code (E.wk [(4, .bool false), (5, .bool true), (11, E.pt α.1.1), (13, E.pt i4.1.1)] [(i4.1.1, (E.pt i4.1.2 :: Q.S.cells S)), (α.1.1, (E.pt α.1.2 :: Q.S.cells S))] Nz.sub (E.sr (E.op (E.pt α.1.1) ?_)))))))))))
  refine A.gc (q := fun _ => [A.blk α.1.1 (E.pt α.1.2 :: Q.S.cells Z.1), M.It α.1.2 Z.2.2.2 ([])]) (fun _ => .agg #[E.i Z.2.1, E.u Z.2.2.1]) (A.trAs (CRun (c := α.1.1) (m := α.1.2) 2 S V1 (by decide) hwS hwV1) (by rw [hr1] <;> rfl) (by rw [hr1] <;> rfl)) [1, 3] [0, 2] [0, 2, 3, 1] (fun _ => [(α.1.1, (E.pt α.1.2 :: Q.S.cells Z.1)), (i4.1.1, (E.pt i4.1.2 :: Q.S.cells S))]) (fun _ => [M.It i4.1.2 V2 ([]), M.It α.1.2 Z.2.2.2 ([])]) (fun _ hd6 => E.nw [E.i 0, E.u 0] 47 (fun g7 => E.st 0 [E.i Z.2.1, E.u Z.2.2.1] rfl rfl (E.tr (E.op (E.pt i4.1.1) (A.gc (q := fun _ => [A.blk i4.1.1 (E.pt i4.1.2 :: Q.S.cells Z.1), M.It i4.1.2 Z.2.2.2 ([])]) (fun _ => .agg #[E.i Z.2.1, E.u Z.2.2.1]) (A.trAs (CRun (c := i4.1.1) (m := i4.1.2) 2 S V2 (by decide) hwS hwV2) (by rw [hr2] <;> rfl) (by rw [hr2] <;> rfl)) [2, 3] [0, 1, 4] [0, 2, 3, 1, 4] (fun _ => [(i4.1.1, (E.pt i4.1.2 :: Q.S.cells Z.1)), (g7, [E.i Z.2.1, E.u Z.2.2.1]), (α.1.1, (E.pt α.1.2 :: Q.S.cells Z.1))]) (fun _ => [M.It i4.1.2 Z.2.2.2 ([]), M.It α.1.2 Z.2.2.2 ([])]) (fun _ hd8 => E.nw [E.i 0, E.u 0] 47 (fun g9 => E.st 0 [E.i Z.2.1, E.u Z.2.2.1] rfl rfl (E.tr (E.op (.bool true) (E.op (.bool true) (E.li (.agg #[E.i Z.2.1, E.u Z.2.2.1]) 2 rfl rfl ?_)))))))))))
  refine E.li (.agg #[E.i Z.2.1, E.u Z.2.2.1]) 0 rfl rfl (E.vl (.bool true) (fun w h => E.run_as (a := .bool ((Z.2.1 == Z.2.1) && (Z.2.2.1 == Z.2.2.1))) (E.api_Trap_eql Nz.k Nz.k) (congrArg Value.bool (K.trap_self _ _))) (E.op (.bool true) (E.op (.bool true) (E.op (E.pt α.1.1) (E.ca (Q.S.val Z.1) (fun w h => A.cq [3] [0, 1, 2, 4, 5] (CState (c := α.1.1) (m := α.1.2) Z.1) h) (E.op (E.pt i4.1.1) (E.ca (Q.S.val Z.1) (fun w h => A.cq [1] [0, 2, 3, 4, 5] (CState (c := i4.1.1) (m := i4.1.2) Z.1) h) (E.vl (.bool true) (fun w h => E.run_as (a := .bool true) (E.api_State_self Z.1 Nz.k Nz.k) (rfl)) (E.op (.bool true) (E.op (.bool true) (E.op (E.pt α.1.1) ?_)))))))))))
  exact A.gc (fun _ => .string (K.cs Z.2.2.2)) (Content (c := α.1.1) (m := α.1.2) (s := Z.1) (V := Z.2.2.2)) [3, 5] [0, 1, 2, 4] [0, 2, 3, 4, 5, 1] (fun _ => [(α.1.1, (E.pt α.1.2 :: Q.S.cells Z.1)), (g9, [E.i Z.2.1, E.u Z.2.2.1]), (i4.1.1, (E.pt i4.1.2 :: Q.S.cells Z.1)), (g7, [E.i Z.2.1, E.u Z.2.2.1])]) (fun _ => [M.It i4.1.2 Z.2.2.2 ([]), M.It α.1.2 Z.2.2.2 ([])]) (fun _ hd10 => E.op (E.pt i4.1.1) (A.gc (fun _ => .string (K.cs Z.2.2.2)) (Content (c := i4.1.1) (m := i4.1.2) (s := Z.1) (V := Z.2.2.2)) [2, 4] [0, 1, 3, 5] [0, 2, 3, 4, 1, 5] (fun _ => [(i4.1.1, (E.pt i4.1.2 :: Q.S.cells Z.1)), (α.1.1, (E.pt α.1.2 :: Q.S.cells Z.1)), (g9, [E.i Z.2.1, E.u Z.2.2.1]), (g7, [E.i Z.2.1, E.u Z.2.2.1])]) (fun _ => [M.It i4.1.2 Z.2.2.2 ([]), M.It α.1.2 Z.2.2.2 ([])]) (fun _ hd11 => E.vl (.bool true) (fun w h => E.run_as (a := .bool ((K.cs Z.2.2.2).toList == (K.cs Z.2.2.2).toList)) Nz.k (congrArg Value.bool (beq_self_eq_true _))) (E.op (.bool true) (E.op (.bool true) (E.To.code (E.wk [(4, .bool true)] [] Nz.sub (E.C.ret (E.bd Tryz.f13 [.bool true] (fun w h => ⟨rfl, h.ch.bel (fun x hx => (hh.1 x hx).elim)⟩))))))))))
 have nd1 : H 8 (E.bits 16 255) [(4, .bool false), (5, .bool true), (6, .string sa), (7, .string F), (10, E.pt g3), (53, Q.S.val (⟨0, (fun k => [0, w_, 3, 0, 0, 0, 0, 600, 0, 0, 0, 0, 0, 0, 0, 0].getD k 0), 0, (fun _ => 0), 0, 0⟩)), (54, .agg Z8v7c), (58, .string (sa ++ g4)), (60, .string f4)] (A.X w oo aa []) [(g3, (Q.S.cells (⟨0, (fun k => [0, w_, 3, 0, 0, 0, 0, 600, 0, 0, 0, 0, 0, 0, 0, 0].getD k 0), 0, (fun _ => 0), 0, 0⟩)))] := by
  exact up _ _ _ _ _ (E.tj 8 (.string ((sa ++ g4) ++ f4)) rfl (fun w h => A.hpY0 h Nz.k) (fun w h => E.cat (sa ++ g4) f4 Nz.k Nz.k (by first | omega | assumption | (rw [ByteArray.size_append]; omega)) w) (E.tj 9 (.agg (Q.S.cells (⟨0, (fun k => [0, w_, 3, 0, 0, 0, 0, 600, 0, 0, 0, 0, 0, 0, 0, 0].getD k 0), 0, (fun _ => 0), 0, 0⟩ : Q.S) ++ (Z8v7b sa g4 f4)).toArray) rfl (fun w h => A.hpY0 h Nz.k) (fun w h => E.run_build (Q.S.cells (⟨0, (fun k => [0, w_, 3, 0, 0, 0, 0, 600, 0, 0, 0, 0, 0, 0, 0, 0].getD k 0), 0, (fun _ => 0), 0, 0⟩ : Q.S) ++ (Z8v7b sa g4 f4)).toArray Nz.k w) (E.al 10 rfl (A.gc (I := (Nat × Nat) × (Nat × Nat)) (q := fun α => [A.blk α.1.1 (E.pt α.1.2 :: Q.S.cells S), M.It α.1.2 V1 ([])]) (fun α => .tuple #[E.pt α.1.1, E.pt α.2.1]) (Both1 (⟨0, (fun k => [0, w_, 3, 0, 0, 0, 0, 600, 0, 0, 0, 0, 0, 0, 0, 0].getD k 0), 0, (fun _ => 0), 0, 0⟩ : Q.S) 7 7 7 7 0 0 ((sa ++ g4) ++ f4) (by decide) (by decide) (by decide) (by decide) (by decide) hS hV1) [] [0] [0, 2, 1] (fun α => [(α.1.1, (E.pt α.1.2 :: Q.S.cells S)), (g3, (Q.S.cells (⟨0, (fun k => [0, w_, 3, 0, 0, 0, 0, 600, 0, 0, 0, 0, 0, 0, 0, 0].getD k 0), 0, (fun _ => 0), 0, 0⟩)))]) (fun α => [M.It α.1.2 V1 ([])]) (fun α β => E.H.back (fun w h => A.hq [1] [0, 2] h) (E.ho (dn _ _ _ _ _ (nd2 α))))))))
 have nd0 : H 10 (E.bits 16 95) [(4, .bool false), (5, .bool true), (6, .string sa), (7, .string F), (10, E.pt g3), (53, Q.S.val (⟨0, (fun k => [0, w_, 3, 0, 0, 0, 0, 600, 0, 0, 0, 0, 0, 0, 0, 0].getD k 0), 0, (fun _ => 0), 0, 0⟩)), (54, .agg Z8v7c), (55, .string sa), (57, .string g4), (59, .string F)] (A.X w oo aa []) [(g3, (Q.S.cells (⟨0, (fun k => [0, w_, 3, 0, 0, 0, 0, 600, 0, 0, 0, 0, 0, 0, 0, 0].getD k 0), 0, (fun _ => 0), 0, 0⟩)))] := by
  exact up _ _ _ _ _ (E.tj 5 (.string (sa ++ g4)) rfl (fun w h => A.hpY0 h Nz.k) (fun w h => E.cat sa g4 Nz.k Nz.k (by first | omega | assumption | (rw [ByteArray.size_append]; omega)) w) (E.al 7 rfl (E.vl (.string f4) (fun w h => E.run_as (a := .string (F.extract (4 : Int).toNat F.size)) (E.slFrom F .i64 4 Nz.k Nz.k Nz.k (by omega) (by omega) w) (congrArg Value.string hf4)) (E.hb (dn _ _ _ _ _ (nd1))))))
 have nd4 : H 9 (E.bits 16 223) [(4, .bool false), (5, .bool true), (6, .string sa), (7, .string F), (10, E.pt g3), (53, Q.S.val (⟨0, (fun k => [0, w_, 3, 0, 0, 0, 0, 600, 0, 0, 0, 0, 0, 0, 0, 0].getD k 0), 0, (fun _ => 0), 0, 0⟩)), (54, .agg Z8v7c), (55, .string sa), (57, .string g4), (60, .string f4)] (A.X w oo aa []) [(g3, (Q.S.cells (⟨0, (fun k => [0, w_, 3, 0, 0, 0, 0, 600, 0, 0, 0, 0, 0, 0, 0, 0].getD k 0), 0, (fun _ => 0), 0, 0⟩)))] := by
  exact up _ _ _ _ _ (E.tj 5 (.string (sa ++ g4)) rfl (fun w h => A.hpY0 h Nz.k) (fun w h => E.cat sa g4 Nz.k Nz.k (by first | omega | assumption | (rw [ByteArray.size_append]; omega)) w) (E.tj 8 (.string ((sa ++ g4) ++ f4)) rfl (fun w h => A.hpY0 h Nz.k) (fun w h => E.cat (sa ++ g4) f4 Nz.k Nz.k (by first | omega | assumption | (rw [ByteArray.size_append]; omega)) w) (E.tj 9 (.agg (Q.S.cells (⟨0, (fun k => [0, w_, 3, 0, 0, 0, 0, 600, 0, 0, 0, 0, 0, 0, 0, 0].getD k 0), 0, (fun _ => 0), 0, 0⟩ : Q.S) ++ (Z8v7b sa g4 f4)).toArray) rfl (fun w h => A.hpY0 h Nz.k) (fun w h => E.run_build (Q.S.cells (⟨0, (fun k => [0, w_, 3, 0, 0, 0, 0, 600, 0, 0, 0, 0, 0, 0, 0, 0].getD k 0), 0, (fun _ => 0), 0, 0⟩ : Q.S) ++ (Z8v7b sa g4 f4)).toArray Nz.k w) (E.al 10 rfl (A.gc (I := (Nat × Nat) × (Nat × Nat)) (q := fun α => [A.blk α.1.1 (E.pt α.1.2 :: Q.S.cells S), M.It α.1.2 V1 ([])]) (fun α => .tuple #[E.pt α.1.1, E.pt α.2.1]) (Both1 (⟨0, (fun k => [0, w_, 3, 0, 0, 0, 0, 600, 0, 0, 0, 0, 0, 0, 0, 0].getD k 0), 0, (fun _ => 0), 0, 0⟩ : Q.S) 7 7 7 7 0 0 ((sa ++ g4) ++ f4) (by decide) (by decide) (by decide) (by decide) (by decide) hS hV1) [] [0] [0, 2, 1] (fun α => [(α.1.1, (E.pt α.1.2 :: Q.S.cells S)), (g3, (Q.S.cells (⟨0, (fun k => [0, w_, 3, 0, 0, 0, 0, 600, 0, 0, 0, 0, 0, 0, 0, 0].getD k 0), 0, (fun _ => 0), 0, 0⟩)))]) (fun α => [M.It α.1.2 V1 ([])]) (fun α β => E.H.back (fun w h => A.hq [1] [0, 2] h) (E.ho (dn _ _ _ _ _ (nd2 α)))))))))
 have nd3 : H 10 (E.bits 16 207) [(4, .bool false), (5, .bool true), (6, .string sa), (7, .string F), (10, E.pt g3), (53, Q.S.val (⟨0, (fun k => [0, w_, 3, 0, 0, 0, 0, 600, 0, 0, 0, 0, 0, 0, 0, 0].getD k 0), 0, (fun _ => 0), 0, 0⟩)), (54, .agg Z8v7c), (55, .string sa), (56, .string G), (60, .string f4)] (A.X w oo aa []) [(g3, (Q.S.cells (⟨0, (fun k => [0, w_, 3, 0, 0, 0, 0, 600, 0, 0, 0, 0, 0, 0, 0, 0].getD k 0), 0, (fun _ => 0), 0, 0⟩)))] := by
  exact up _ _ _ _ _ (E.al 4 rfl (E.vl (.string g4) (fun w h => E.run_as (a := .string (G.extract 0 (4 : Int).toNat)) (E.slTo G .i64 4 Nz.k Nz.k Nz.k (by omega) (by omega) w) (congrArg Value.string hg4)) (E.hb (dn _ _ _ _ _ (nd4)))))
 refine up _ _ _ _ _ (E.tj 0 (Q.S.val (⟨0, (fun k => [0, w_, 3, 0, 0, 0, 0, 600, 0, 0, 0, 0, 0, 0, 0, 0].getD k 0), 0, (fun _ => 0), 0, 0⟩)) rfl (fun w h => A.hpY0 h Nz.k) (fun w h => A.Y.bld h (k := 0) (j := 0) rfl Nz.k Nz.k) (E.tj 1 (.agg Z8v7c) rfl (fun w h => A.hpY0 h Nz.k) (fun w h => E.run_build Z8v7c Nz.k w) (E.tk 2 (.string sa) rfl (fun w h => A.hpY0 h Nz.k) (E.tk 3 (.string G) rfl (fun w h => A.hpY0 h Nz.k) (E.tk 6 (.string F) rfl (fun w h => A.hpY0 h Nz.k) (E.al2 4 7 rfl rfl ?_ ?_))))))
 ·
  exact E.vl (.string g4) (fun w h => E.run_as (a := .string (G.extract 0 (4 : Int).toNat)) (E.slTo G .i64 4 Nz.k Nz.k Nz.k (by omega) (by omega) w) (congrArg Value.string hg4)) (E.hb (dn _ _ _ _ _ (nd0)))
 exact E.vl (.string f4) (fun w h => E.run_as (a := .string (F.extract (4 : Int).toNat F.size)) (E.slFrom F .i64 4 Nz.k Nz.k Nz.k (by omega) (by omega) w) (congrArg Value.string hf4)) (E.hb (dn _ _ _ _ _ (nd3)))
theorem K.Mem.chkN_ok {V : M.V} {f r : Nat → Int} (h : K.Mem V f r) {q : Int} (a : Nat) : ∀ c i : Nat, a + i + c ≤ 1024 → (∀ x, a + i ≤ x → x < a + i + c → (bits .and .i64 (r (x / 256)) q == 0) = false) → V.chkN a q i c = (0, true)
  | 0, i, _, _ => rfl
  | c + 1, i, hc, hr => by
    show (bif V.ok ((a + i) % 4294967296) q then V.chkN a q (i + 1) c else _) = _
    rw [Nat.mod_eq_of_lt (by omega : a + i < 4294967296), h.ok (a + i) q (by omega), hr (a + i) (Nat.le_refl _) (by omega), K.Mem.chkN_ok h a c (i + 1) (by omega) (fun x h1 h2 => hr x (by omega) (by omega))]
    rfl
theorem K.Mem.chk_ok {V : M.V} {f r : Nat → Int} (h : K.Mem V f r) {q : Int} {a m : Nat} (hm : 1 ≤ m ∧ m ≤ 4) (ha : a + m ≤ 1024) (hr : ∀ x, a ≤ x → x < a + m → (bits .and .i64 (r (x / 256)) q == 0) = false) : V.chk a q ((m : Nat) : Int) = (0, true) := by
  unfold M.V.chk
  rw [if_pos (by omega), Int.toNat_natCast]
  exact h.chkN_ok a m 0 (by omega) (fun x h1 h2 => hr x (by omega) (by omega))
/-- The bytes of v stand at a. -/
structure K.at4 (f : Nat → Int) (a : Nat) (v : Int) : Prop where
  b0 : f a = v % 256
  b1 : f (a + 1) = v / 256 % 256
  b2 : f (a + 2) = v / 65536 % 256
  b3 : f (a + 3) = v / 16777216 % 256
/-- Four bytes written. -/
def K.w4 (f : Nat → Int) (a : Nat) (v : Int) (x : Nat) : Int := if x = a then v % 256 else if x = a + 1 then v / 256 % 256 else if x = a + 2 then v / 65536 % 256 else if x = a + 3 then v / 16777216 % 256 else f x
/-- What is left of a step in progress. -/
abbrev K.fin (s : Q.S) (y : K.W × M.V) : Q.S × Int × Int × M.V := bif (y.1.k != 0) then (s, y.1.k, y.1.t, y.2) else (y.1.s, y.1.k, y.1.t, y.2)
theorem K.enc_size (i : K.Ins) : (R2.Encode i).1.size ≤ 7 := by
  unfold R2.Encode
  repeat' (first
    | refine Q.bifP (p := fun x : ByteArray × Int => x.1.size ≤ 7) (fun _ => ?_) (fun _ => ?_)
    | (show (strOfNums _).size ≤ 7; rw [strOfNums_size]; exact Nat.le_of_ble_eq_true rfl)
    | (show (⟨#[]⟩ : ByteArray).size ≤ 7; decide))
theorem K.put_r (V : M.V) (a : Nat) (v : Int) : ∀ c, (V.put a v c).r = V.r
  | 0 => rfl
  | c + 1 => (K.set_r _ _ _).trans (K.put_r V a v c)
theorem K.prot_r {V : M.V} (h : V.n = 4) (k p : Int) (hk : 0 ≤ k ∧ k < 4) : (V.prot k p).r = fun j => if j = k.toNat then bits .and .i64 p 7 else V.r j := by
  unfold M.V.prot; rw [if_pos (by rw [h]; omega)]
theorem K.bV_r (x0 x1 x2 x3 z a : Int) (s : ByteArray) (j : Nat) : (K.bV x0 x1 x2 x3 z a s).r j = if j = (3 : Int).toNat then bits .and .i64 x3 7 else if j = (2 : Int).toNat then bits .and .i64 x2 7 else if j = (1 : Int).toNat then bits .and .i64 x1 7 else if j = (0 : Int).toNat then bits .and .i64 x0 7 else 0 := by
  have e := K.bW_ext z a s
  unfold K.bV
  rw [K.prot_r (((e.prot _ _).prot _ _).prot _ _).n 3 x3 (by decide), K.prot_r ((e.prot _ _).prot _ _).n 2 x2 (by decide), K.prot_r (e.prot _ _).n 1 x1 (by decide), K.prot_r e.n 0 x0 (by decide), (show (K.bW z a s).r = fun _ => 0 from (K.poke_r _ _ _ _).trans (K.poke_r _ _ _ _))]
/-- A store over the bytes in which two codes differ makes the memories one. -/
theorem K.self_put {x0 x1 x2 x3 z : Int} {c1 c2 : ByteArray} (hz1 : c1.size ≤ 400) (hz : c1.size = c2.size) {o : Nat} {v : Int} (h : ∀ j, ¬ (o ≤ j ∧ j < o + 4) → W.byt c1.data.toList j = W.byt c2.data.toList j) (ho : o + 4 ≤ 1024) : (K.bV x0 x1 x2 x3 z 0 c1).put o v 4 = (K.bV x0 x1 x2 x3 z 0 c2).put o v 4 := by
  refine K.Ext.eq ((K.bV_ext _ _ _ _ _ _ _).put _ _ _) ((K.bV_ext _ _ _ _ _ _ _).put _ _ _) (fun y hy => ?_) ?_
  · rw [((K.bV_mem x0 x1 x2 x3 z 0 c1 (by decide)).put o v 4 (by omega)).d y hy, ((K.bV_mem x0 x1 x2 x3 z 0 c2 (by decide)).put o v 4 (by omega)).d y hy]
    by_cases e : o ≤ y ∧ y < o + 4
    · rw [if_pos e, if_pos e]
    · rw [if_neg e, if_neg e]
      unfold K.bf
      rw [K.cut_all hz1, K.cut_all (by omega), hz]
      show (if 0 ≤ y ∧ y < 0 + c2.size then W.byt c1.data.toList (y - 0) else _) = (if 0 ≤ y ∧ y < 0 + c2.size then W.byt c2.data.toList (y - 0) else _)
      rw [Nat.sub_zero, h y e]
  · rw [K.put_r, K.put_r]
    exact funext fun j => (K.bV_r _ _ _ _ _ _ _ j).trans (K.bV_r _ _ _ _ _ _ _ j).symm
theorem K.step_81 (s : Q.S) (V : M.V) : K.stepI ⟨81, 1, 2, -1, 0, 0, 3⟩ 0 0 s V = K.fin s (K.put ⟨s, ⟨IntKind.wrap .u32 (s.pc + 3), s.r, s.f, s.c, IntKind.wrap .i64 (s.st + 1), s.du⟩, ⟨81, 1, 2, -1, 0, 0, 3⟩, 0, 0⟩ V (IntKind.wrap .u32 (s.r 2 + 0)) 4 (s.r 1)) := by kernel_rfl
theorem K.step_81_ok {s : Q.S} {V : M.V} (h2 : s.r 2 = 3) (h : V.chk 3 2 4 = (0, true)) : K.stepI ⟨81, 1, 2, -1, 0, 0, 3⟩ 0 0 s V = (⟨IntKind.wrap .u32 (s.pc + 3), s.r, s.f, s.c, IntKind.wrap .i64 (s.st + 1), s.du⟩, 0, 0, V.put 3 (s.r 1) 4) := by
  have e : (IntKind.wrap .u32 (s.r 2 + 0)).toNat = 3 := by rw [h2]; rfl
  rw [K.step_81]
  unfold K.put
  rw [e, h, show V.sto 3 4 (s.r 1) = V.put 3 (s.r 1) 4 by unfold M.V.sto; rw [h]; rfl]
  rfl
/-- The first step of both runs. -/
theorem K.self_step {s : Q.S} {V : M.V} {sa c : ByteArray} {post : ByteArray} (hV : K.bV 7 7 7 7 0 0 c = V) (hsa : (R2.Encode (⟨81, 1, 2, -1, 0, 0, 3⟩ : K.Ins)).1 = sa) (hc : c = sa ++ post) (hz : c.size ≤ 400) (h0 : s.pc = 0) (h2 : s.r 2 = 3) : K.step s V = (⟨IntKind.wrap .u32 (s.pc + 3), s.r, s.f, s.c, IntKind.wrap .i64 (s.st + 1), s.du⟩, 0, 0, V.put 3 (s.r 1) 4) := by
  have hg : K.Good ⟨81, 1, 2, -1, 0, 0, 3⟩ := ⟨by kernel_rfl, by decide, by decide⟩
  have hx : ∀ j, (j = (0 : Int).toNat / 256 ∨ j = ((0 : Int).toNat + 6) / 256) → (bits .and .i64 (K.br 7 7 7 7 j) 4 == 0) = false := fun j hj => by
    have : j = 0 := by rcases hj with rfl | rfl <;> rfl
    subst this; rfl
  have hf : K.fetch (K.bV 7 7 7 7 0 0 c) 0 = (⟨81, 1, 2, -1, 0, 0, 3⟩, 0, 0) := K.fetch_cat (pre := ⟨#[]⟩) (post := post) hg (by rw [K.nil_cat, hsa]; exact hc) hz (by decide) (by decide) hx
  subst hV
  rw [K.step_at (by rw [h0]; exact hf)]
  refine K.step_81_ok h2 ((K.bV_mem 7 7 7 7 0 0 c (by decide)).chk_ok (m := 4) (by decide) (by decide) fun x h1 h2 => ?_)
  have : x / 256 = 0 := by omega
  rw [this]; rfl
theorem KcpuSelf_law (q0 q1 q2 q3 q4 o0 o1 o2 o3 o4 : Int) (w : World) : Calls Tryz.prog 13 #[.agg #[.int .i64 q0, .int .i64 q1, .int .i64 q2, .int .i64 q3, .int .i64 q4], .agg #[.int .i64 o0, .int .i64 o1, .int .i64 o2, .int .i64 o3, .int .i64 o4]] w fun e w' => e = .returned (.bool true) ∧ Bel w w' := by
  obtain ⟨sa, hsa⟩ : ∃ x, (R2.Encode (⟨81, 1, 2, -1, 0, 0, 3⟩ : K.Ins)).1 = x := ⟨_, rfl⟩
  obtain ⟨e1, he1⟩ : ∃ x, (R2.Encode (R2.Made q0 q1 q2 q3 q4)).1 = x := ⟨_, rfl⟩
  obtain ⟨e2, he2⟩ : ∃ x, (R2.Encode (R2.Made o0 o1 o2 o3 o4)).1 = x := ⟨_, rfl⟩
  have hz1 : e1.size ≤ 7 := he1 ▸ K.enc_size _
  have hz2 : e2.size ≤ 7 := he2 ▸ K.enc_size _
  have hzs : sa.size = 3 := by
    have h := (K.good_size (i := ⟨81, 1, 2, -1, 0, 0, 3⟩) ⟨by kernel_rfl, by decide, by decide⟩).1
    have h : ((sa.size : Nat) : Int) = 3 := by rw [← hsa]; exact h
    omega
  obtain ⟨F, hF⟩ : ∃ x, e1 ++ (⟨#[0, 0, 0, 0]⟩ : ByteArray) = x := ⟨_, rfl⟩
  obtain ⟨G, hG⟩ : ∃ x, e2 ++ (⟨#[0, 0, 0, 0, 0, 0, 0]⟩ : ByteArray) = x := ⟨_, rfl⟩
  have hzF : F.size = e1.size + 4 := by rw [← hF, ByteArray.size_append]; rfl
  have hzG : G.size = e2.size + 7 := by rw [← hG, ByteArray.size_append]; rfl
  obtain ⟨g4, hg4⟩ : ∃ x, G.extract 0 (4 : Int).toNat = x := ⟨_, rfl⟩
  obtain ⟨f4, hf4⟩ : ∃ x, F.extract (4 : Int).toNat F.size = x := ⟨_, rfl⟩
  have hzg : g4.size = 4 := by rw [← hg4, ByteArray.size_extract]; show min 4 G.size - 0 = 4; omega
  have hzf : f4.size = F.size - 4 := by rw [← hf4, ByteArray.size_extract]; show min F.size F.size - 4 = F.size - 4; omega
  obtain ⟨c2, hc2⟩ : ∃ x, sa ++ F = x := ⟨_, rfl⟩
  obtain ⟨v, hv⟩ : ∃ x, IntKind.wrap .u32 ((IntKind.wrap .u32 ((IntKind.wrap .u32 ((IntKind.wrap .u32 (W.byt F.data.toList 0)) + (IntKind.wrap .u32 ((IntKind.wrap .u32 (W.byt F.data.toList 1)) * 2 ^ 8)))) + (IntKind.wrap .u32 ((IntKind.wrap .u32 (W.byt F.data.toList 2)) * 2 ^ 16)))) + (IntKind.wrap .u32 ((IntKind.wrap .u32 (W.byt F.data.toList 3)) * 2 ^ 24))) = x := ⟨_, rfl⟩
  have hv0 : 0 ≤ v ∧ v < 4294967296 := hv ▸ Q.wrap_bd _
  obtain ⟨S, hS0⟩ : ∃ S : Q.S, (⟨0, (fun k => [0, v, 3, 0, 0, 0, 0, 600, 0, 0, 0, 0, 0, 0, 0, 0].getD k 0), 0, (fun _ => 0), 0, 0⟩ : Q.S) = S := ⟨_, rfl⟩
  have hrow : ∀ k, 0 ≤ ([0, v, 3, 0, 0, 0, 0, 600, 0, 0, 0, 0, 0, 0, 0, 0] : List Int).getD k 0 ∧ ([0, v, 3, 0, 0, 0, 0, 600, 0, 0, 0, 0, 0, 0, 0, 0] : List Int).getD k 0 < 4294967296 := K.row_bd (by decide) hv0 (by decide) K.z32 K.z32 K.z32 K.z32 (by decide)
  have hS : K.norm S = S := by
    subst hS0
    exact K.norm_id (fun k h1 h2 => K.tail8 k h1 h2) (by show (0 : Int) ≤ 0 ∧ (0 : Int) < 16; decide) (Int.le_refl 0) (Int.le_refl 0)
  have hwS : Q.wf S := by subst hS0; exact ⟨by show (0 : Int) ≤ 0 ∧ (0 : Int) < 4294967296; decide, hrow, K.zero_bd⟩
  have n0 : K.nd S := K.nd0 (by subst hS0; exact Int.le_refl 0)
  have s0 : S.pc = 0 := by subst hS0; rfl
  have s2 : S.r 2 = 3 := by subst hS0; rfl
  have hz3 : ((sa ++ g4) ++ f4).size = c2.size := by rw [← hc2, ByteArray.size_append, ByteArray.size_append, ByteArray.size_append]; omega
  have hz4 : c2.size ≤ 400 := by rw [← hc2, ByteArray.size_append]; omega
  have hwV1 := K.bV_wf 7 7 7 7 0 0 ((sa ++ g4) ++ f4)
  have hwV2 := K.bV_wf 7 7 7 7 0 0 c2
  have hp : (K.bV 7 7 7 7 0 0 ((sa ++ g4) ++ f4)).put 3 (S.r 1) 4 = (K.bV 7 7 7 7 0 0 c2).put 3 (S.r 1) 4 := K.self_put (by omega) hz3 (fun j hj => by
    by_cases h3 : j < 3
    · rw [← hc2, K.byt_app _ _ _ (by rw [ByteArray.size_append]; omega), K.byt_app _ _ _ (by omega), K.byt_app _ _ _ (by omega)]
    · rw [← hc2, K.byt_mid _ _ _ (by rw [ByteArray.size_append]; omega), K.byt_mid _ _ _ (by omega), ByteArray.size_append, ← hf4]
      unfold W.byt
      rw [ByteArray.data_extract, Array.toList_extract]
      rw [List.getD_eq_getElem?_getD, List.getD_eq_getElem?_getD]
      congr 2
      show ((((F.data.toList.drop 4).take (F.size - 4)))[j - (sa.size + g4.size)]?).getD 0 = (F.data.toList[j - sa.size]?).getD 0
      congr 1
      have hl : F.data.toList.length = F.size := Array.length_toList
      by_cases h4 : j - sa.size < F.size
      · rw [List.getElem?_take_of_lt (by omega), List.getElem?_drop, show 4 + (j - (sa.size + g4.size)) = j - sa.size by omega]
      · rw [List.getElem?_eq_none (by omega : F.data.toList.length ≤ j - sa.size), List.getElem?_eq_none (by rw [List.length_take, List.length_drop]; omega)]) (by decide)
  obtain ⟨V1, hV1⟩ : ∃ V, K.bV 7 7 7 7 0 0 ((sa ++ g4) ++ f4) = V := ⟨_, rfl⟩
  obtain ⟨V2, hV2⟩ : ∃ V, K.bV 7 7 7 7 0 0 c2 = V := ⟨_, rfl⟩
  have t1 := K.self_step (s := S) hV1 hsa (K.cat_cat sa g4 f4) (by omega) s0 s2
  have t2 := K.self_step (s := S) hV2 hsa hc2.symm hz4 s0 s2
  rw [hV1] at hwV1 hp
  rw [hV2] at hwV2 hp
  have r1 := K.runs_s 1 n0 t1
  have r2 := K.runs_s 1 n0 t2
  rw [hp] at r1
  have e : K.runs 2 S V1 = K.runs 2 S V2 := r1.trans r2.symm
  refine KcpuSelf_rd q0 q1 q2 q3 q4 o0 o1 o2 o3 o4 v sa e1 e2 F G g4 f4 c2 hsa he1 he2 ?_ ?_ (by omega) hz1 hz2 hF hG (by omega) (by omega) hg4 hf4 (by omega) (by omega) hc2 hv hv0 S V1 V2 (K.runs 2 S V2) (by rw [hS0]; exact hS) hwS hV1 hV2 hwV1 hwV2 e rfl (K.runs_wf hwS hwV2) w _ _ ⟨fun _ h => h, fun _ h => h⟩
  · show e1.size + 4 ≤ 9223372036854775807; omega
  · show e2.size + 7 ≤ 9223372036854775807; omega
end Go.Proofs.YtglidnmmeclneaaGreat
