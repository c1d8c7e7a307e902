/- Plain laws of kcpu: memories of four pages that are read and written, code in them. No program in sight. -/
import Derived.Test.YtglidnmmeclneaaGreatKcSKcpuAddress
import Derived.Test.YtglidnmmeclneaaGreatKcIj
namespace Go.Proofs.YtglidnmmeclneaaGreat
set_option linter.unusedVariables false
set_option linter.unusedSimpArgs false
open Go.RowKit
theorem K.Mem.chkN_ok {V : M.V} {f r : Nat → Int} (h : K.Mem V f r) {q : Int} (a : Nat) : ∀ c i : Nat, a + i + c ≤ 1024 → (∀ x, a + i ≤ x → x < a + i + c → (bits .and .i64 (r (x / 256)) q == 0) = false) → V.chkN a q i c = (0, true)
  | 0, i, _, _ => rfl
  | c + 1, i, hc, hr => by
    show (bif V.ok ((a + i) % 4294967296) q then V.chkN a q (i + 1) c else _) = _
    rw [Nat.mod_eq_of_lt (by omega : a + i < 4294967296), h.ok (a + i) q (by omega), hr (a + i) (Nat.le_refl _) (by omega), K.Mem.chkN_ok h a c (i + 1) (by omega) (fun x h1 h2 => hr x (by omega) (by omega))]
    rfl
theorem K.Mem.chk_ok {V : M.V} {f r : Nat → Int} (h : K.Mem V f r) {q : Int} {a m : Nat} (hm : 1 ≤ m ∧ m ≤ 4) (ha : a + m ≤ 1024) (hr : ∀ x, a ≤ x → x < a + m → (bits .and .i64 (r (x / 256)) q == 0) = false) : V.chk a q ((m : Nat) : Int) = (0, true) := by
  unfold M.V.chk
  rw [if_pos (by omega), Int.toNat_natCast]
  exact h.chkN_ok a m 0 (by omega) (fun x h1 h2 => hr x (by omega) (by omega))
theorem K.Mem.ldv_s {V : M.V} {f r : Nat → Int} (h : K.Mem V f r) (hw : R.Wf V) (hf : ∀ x, 0 ≤ f x ∧ f x < 256) {a n : Nat} (c : Nat) (hc : c < n) (ha : a + n ≤ 1024) : V.ldv a n (c + 1) = (V.ldv a n c * 256 + f (a + (n - 1 - c))) % 4294967296 := by
  have hb := R.ldv_bd hw a n c
  have hx := hf (a + (n - 1 - c))
  show bits .or .u32 (IntKind.wrap .u32 (V.ldv a n c * 2 ^ 8)) (IntKind.wrap .u32 (V.peek ((a + (n - 1 - c)) % 4294967296))) = _
  rw [Nat.mod_eq_of_lt (by omega : a + (n - 1 - c) < 4294967296), h.peek (by omega), K.w32 (by omega : 0 ≤ f (a + (n - 1 - c)) ∧ f (a + (n - 1 - c)) < 4294967296)]
  exact R.or_low _ _ hb.1 hb.2 hx.1 hx.2
/-- The bytes of v stand at a. -/
structure K.at4 (f : Nat → Int) (a : Nat) (v : Int) : Prop where
  b0 : f a = v % 256
  b1 : f (a + 1) = v / 256 % 256
  b2 : f (a + 2) = v / 65536 % 256
  b3 : f (a + 3) = v / 16777216 % 256
theorem K.Mem.load4 {V : M.V} {f r : Nat → Int} (h : K.Mem V f r) (hw : R.Wf V) (hf : ∀ x, 0 ≤ f x ∧ f x < 256) {a : Nat} (ha : a + 4 ≤ 1024) {v : Int} (hv : 0 ≤ v ∧ v < 4294967296) (hb : K.at4 f a v) (hr : ∀ x, a ≤ x → x < a + 4 → (bits .and .i64 (r (x / 256)) 1 == 0) = false) : V.load a 4 = (v, 0, true) := by
  have hc := h.chk_ok (q := 1) (a := a) (m := 4) (by decide) ha hr
  have hl := R.load_t (V := V) (a := a) (m := 4) (by rw [hc])
  refine hl.trans ?_
  have e0 : V.ldv a 4 0 = 0 := rfl
  have e1 : V.ldv a 4 1 = (V.ldv a 4 0 * 256 + f (a + 3)) % 4294967296 := h.ldv_s hw hf (a := a) (n := 4) 0 (by decide) ha
  have e2 : V.ldv a 4 2 = (V.ldv a 4 1 * 256 + f (a + 2)) % 4294967296 := h.ldv_s hw hf (a := a) (n := 4) 1 (by decide) ha
  have e3 : V.ldv a 4 3 = (V.ldv a 4 2 * 256 + f (a + 1)) % 4294967296 := h.ldv_s hw hf (a := a) (n := 4) 2 (by decide) ha
  have e4 : V.ldv a 4 4 = (V.ldv a 4 3 * 256 + f (a + 0)) % 4294967296 := h.ldv_s hw hf (a := a) (n := 4) 3 (by decide) ha
  rw [hb.b3, e0] at e1
  rw [hb.b2] at e2
  rw [hb.b1] at e3
  rw [Nat.add_zero, hb.b0] at e4
  have : V.ldv a 4 4 = v := by omega
  rw [this]
theorem K.Mem.load1 {V : M.V} {f r : Nat → Int} (h : K.Mem V f r) (hw : R.Wf V) (hf : ∀ x, 0 ≤ f x ∧ f x < 256) {a : Nat} (ha : a + 1 ≤ 1024) (hr : ∀ x, a ≤ x → x < a + 1 → (bits .and .i64 (r (x / 256)) 1 == 0) = false) : V.load a 1 = (f a, 0, true) := by
  have hc := h.chk_ok (q := 1) (a := a) (m := 1) (by decide) ha hr
  have hl := R.load_t (V := V) (a := a) (m := 1) (by rw [hc])
  refine hl.trans ?_
  have e0 : V.ldv a 1 0 = 0 := rfl
  have e1 := h.ldv_s hw hf (a := a) (n := 1) 0 (by decide) ha
  rw [show a + (1 - 1 - 0) = a by omega, e0, show (0 + 1 : Nat) = 1 by omega] at e1
  have := hf a
  have : V.ldv a 1 1 = f a := by omega
  rw [this]
/-- Four bytes written. -/
def K.w4 (f : Nat → Int) (a : Nat) (v : Int) (x : Nat) : Int := if x = a then v % 256 else if x = a + 1 then v / 256 % 256 else if x = a + 2 then v / 65536 % 256 else if x = a + 3 then v / 16777216 % 256 else f x
theorem K.w4_at (f : Nat → Int) (a : Nat) (v : Int) : K.at4 (K.w4 f a v) a v := by
  refine ⟨?_, ?_, ?_, ?_⟩ <;> unfold K.w4
  · rw [if_pos rfl]
  · rw [if_neg (by omega), if_pos rfl]
  · rw [if_neg (by omega), if_neg (by omega), if_pos rfl]
  · rw [if_neg (by omega), if_neg (by omega), if_neg (by omega), if_pos rfl]
theorem K.w4_out (f : Nat → Int) (a : Nat) (v : Int) {x : Nat} (h : x < a ∨ a + 4 ≤ x) : K.w4 f a v x = f x := by
  unfold K.w4
  rw [if_neg (by omega), if_neg (by omega), if_neg (by omega), if_neg (by omega)]
theorem K.w4_bd {f : Nat → Int} (hf : ∀ x, 0 ≤ f x ∧ f x < 256) (a : Nat) (v : Int) (x : Nat) : 0 ≤ K.w4 f a v x ∧ K.w4 f a v x < 256 := by
  unfold K.w4
  have := hf x
  repeat' split
  all_goals omega
theorem K.Mem.sto4 {V : M.V} {f r : Nat → Int} (h : K.Mem V f r) {a : Nat} (ha : a + 4 ≤ 1024) {v : Int} (hv : 0 ≤ v) (hr : ∀ x, a ≤ x → x < a + 4 → (bits .and .i64 (r (x / 256)) 2 == 0) = false) : K.Mem (V.sto a 4 v) (K.w4 f a v) r := by
  have hc : V.chk a 2 4 = (0, true) := h.chk_ok (q := 2) (a := a) (m := 4) (by decide) ha hr
  have e : V.sto a 4 v = V.put a v 4 := by unfold M.V.sto; rw [hc]; rfl
  rw [e]
  refine (h.put a v 4 (by omega)).eq fun x hx => ?_
  unfold K.w4
  have fd : ∀ m : Int, 0 < m → IntKind.wrap .u8 (Int.fdiv v m) = v / m % 256 := fun m hm => by rw [Int.fdiv_eq_ediv_of_nonneg _ (by omega)]; rfl
  by_cases e0 : x = a
  · subst e0; rw [if_pos (by omega), if_pos rfl, Nat.sub_self, fd _ (by decide)]; show v / 1 % 256 = _; rw [Int.ediv_one]
  by_cases e1 : x = a + 1
  · subst e1; rw [if_pos (by omega), if_neg (by omega), if_pos rfl, show a + 1 - a = 1 by omega, fd _ (by decide)]; rfl
  by_cases e2 : x = a + 2
  · subst e2; rw [if_pos (by omega), if_neg (by omega), if_neg (by omega), if_pos rfl, show a + 2 - a = 2 by omega, fd _ (by decide)]; rfl
  by_cases e3 : x = a + 3
  · subst e3; rw [if_pos (by omega), if_neg (by omega), if_neg (by omega), if_neg (by omega), if_pos rfl, show a + 3 - a = 3 by omega, fd _ (by decide)]; rfl
  · rw [if_neg (by omega), if_neg e0, if_neg e1, if_neg e2, if_neg e3]
/-- An instruction that stands in a memory. -/
theorem K.fetch_mem {V : M.V} {f r : Nat → Int} {i : K.Ins} {p : Int} (h : K.Good i) (hm : K.Mem V f r) (hp : 0 ≤ p ∧ p + 7 ≤ 1024) (hr : ∀ x, p.toNat ≤ x → x < p.toNat + 7 → (bits .and .i64 (r (x / 256)) 4 == 0) = false) (hb : ∀ j : Nat, j < (R2.Encode i).1.size → f (p.toNat + j) = W.byt (R2.Encode i).1.data.toList j) : K.fetch V p = (i, 0, 0) := by
  obtain ⟨z1, z2, z3⟩ := K.good_size h
  refine K.fetch_at h (by omega) fun j hj => ?_
  rw [hm.fetch (by omega) (hr _ (by omega) (by omega)), hb j hj]; rfl
theorem K.bf_bd (z a : Int) (s : ByteArray) (x : Nat) : 0 ≤ K.bf z a s x ∧ K.bf z a s x < 256 := by
  unfold K.bf
  split
  · have := W.byt_bd (K.cut s).data.toList (x - a.toNat); omega
  · have := W.byt_bd (K.fill z).data.toList x; omega
/-- Code between other code, at address 0. -/
theorem K.bf_cat {i : K.Ins} {z : Int} {code pre post : ByteArray} (hc : code = (pre ++ (R2.Encode i).1) ++ post) (hs : code.size ≤ 400) (j : Nat) (hj : j < (R2.Encode i).1.size) : K.bf z 0 code (pre.size + j) = W.byt (R2.Encode i).1.data.toList j := by
  have hz : code.size = pre.size + (R2.Encode i).1.size + post.size := by subst hc; rw [ByteArray.size_append, ByteArray.size_append]
  unfold K.bf
  rw [K.cut_all hs, show (0 : Int).toNat = 0 from rfl, if_pos (by omega), Nat.sub_zero]
  subst hc
  rw [K.byt_app _ _ _ (by rw [ByteArray.size_append]; omega), K.byt_mid _ _ _ (by omega), show pre.size + j - pre.size = j by omega]
theorem K.r7777 (x : Nat) (h : x < 1024) (q : Int) (hq : q = 1 ∨ q = 2 ∨ q = 4) : (bits .and .i64 (K.br 7 7 7 7 (x / 256)) q == 0) = false := by
  rcases (by omega : x / 256 = 0 ∨ x / 256 = 1 ∨ x / 256 = 2 ∨ x / 256 = 3) with e | e | e | e <;> rw [e] <;> rcases hq with rfl | rfl | rfl <;> rfl
/-- What is left of a step in progress. -/
abbrev K.fin (s : Q.S) (y : K.W × M.V) : Q.S × Int × Int × M.V := bif (y.1.k != 0) then (s, y.1.k, y.1.t, y.2) else (y.1.s, y.1.k, y.1.t, y.2)
theorem K.step_push (r : Int) (s : Q.S) (V : M.V) (h : V.chk (IntKind.wrap .u32 (s.r 7 - 4)).toNat 2 4 = (0, true)) : K.stepI ⟨16, r, 0, -1, 0, 0, 2⟩ 0 0 s V = (⟨IntKind.wrap .u32 (s.pc + 2), Q.up s.r 7 (IntKind.wrap .u32 (s.r 7 - 4)), s.f, s.c, IntKind.wrap .i64 (s.st + 1), s.du⟩, 0, 0, V.sto (IntKind.wrap .u32 (s.r 7 - 4)).toNat 4 (s.r r.toNat)) := by
  obtain ⟨X, hX⟩ : ∃ X : K.W, (⟨s, ⟨IntKind.wrap .u32 (s.pc + 2), Q.up s.r 7 (IntKind.wrap .u32 (s.r 7 - 4)), s.f, s.c, IntKind.wrap .i64 (s.st + 1), s.du⟩, ⟨16, r, 0, -1, 0, 0, 2⟩, 0, 0⟩ : K.W) = X := ⟨_, rfl⟩
  have e : K.stepI ⟨16, r, 0, -1, 0, 0, 2⟩ 0 0 s V = K.fin s (K.put X V (IntKind.wrap .u32 (s.r 7 - 4)) 4 (s.r r.toNat)) := by subst hX; kernel_rfl
  rw [e]; unfold K.put; rw [h]; subst hX; rfl
theorem K.step_pop (j : Int) (s : Q.S) (V : M.V) {v : Int} (h : V.load (s.r 7).toNat 4 = (v, 0, true)) : K.stepI ⟨17, j, 0, -1, 0, 0, 2⟩ 0 0 s V = (⟨IntKind.wrap .u32 (s.pc + 2), Q.up (Q.up s.r 7 (IntKind.wrap .u32 (s.r 7 + 4))) j.toNat v, s.f, s.c, IntKind.wrap .i64 (s.st + 1), s.du⟩, 0, 0, V) := by
  obtain ⟨X, hX⟩ : ∃ X : K.W, (⟨s, ⟨IntKind.wrap .u32 (s.pc + 2), Q.up s.r 7 (IntKind.wrap .u32 (s.r 7 + 4)), s.f, s.c, IntKind.wrap .i64 (s.st + 1), s.du⟩, ⟨17, j, 0, -1, 0, 0, 2⟩, 0, 0⟩ : K.W) = X := ⟨_, rfl⟩
  have e : K.stepI ⟨17, j, 0, -1, 0, 0, 2⟩ 0 0 s V = K.fin s (K.gs1 X V (s.r 7) 4 j) := by subst hX; kernel_rfl
  rw [e]; unfold K.gs1; rw [h]; subst hX; rfl
theorem K.step_call (m : Int) (s : Q.S) (V : M.V) (h : V.chk (IntKind.wrap .u32 (s.r 7 - 4)).toNat 2 4 = (0, true)) : K.stepI ⟨113, 0, 0, -1, 0, m, 5⟩ 0 0 s V = (⟨IntKind.wrap .u32 (IntKind.wrap .u32 (s.pc + 5) + m), Q.up s.r 7 (IntKind.wrap .u32 (s.r 7 - 4)), s.f, s.c, IntKind.wrap .i64 (s.st + 1), s.du⟩, 0, 0, V.sto (IntKind.wrap .u32 (s.r 7 - 4)).toNat 4 (IntKind.wrap .u32 (s.pc + 5))) := by
  obtain ⟨X, hX⟩ : ∃ X : K.W, (⟨s, ⟨IntKind.wrap .u32 (s.pc + 5), Q.up s.r 7 (IntKind.wrap .u32 (s.r 7 - 4)), s.f, s.c, IntKind.wrap .i64 (s.st + 1), s.du⟩, ⟨113, 0, 0, -1, 0, m, 5⟩, 0, 0⟩ : K.W) = X := ⟨_, rfl⟩
  have e : K.stepI ⟨113, 0, 0, -1, 0, m, 5⟩ 0 0 s V = K.fin s ((fun y : K.W × M.V => ((⟨y.1.u, ⟨IntKind.wrap .u32 (y.1.s.pc + m), y.1.s.r, y.1.s.f, y.1.s.c, y.1.s.st, y.1.s.du⟩, y.1.i, y.1.k, y.1.t⟩ : K.W), y.2)) (K.put X V (IntKind.wrap .u32 (s.r 7 - 4)) 4 (IntKind.wrap .u32 (s.pc + 5)))) := by subst hX; kernel_rfl
  rw [e]; unfold K.put; rw [h]; subst hX; rfl
theorem K.step_ret (s : Q.S) (V : M.V) {v : Int} (h : V.load (s.r 7).toNat 4 = (v, 0, true)) : K.stepI ⟨1, 0, 0, -1, 0, 0, 1⟩ 0 0 s V = (⟨v, Q.up s.r 7 (IntKind.wrap .u32 (s.r 7 + 4)), s.f, s.c, IntKind.wrap .i64 (s.st + 1), s.du⟩, 0, 0, V) := by
  obtain ⟨X, hX⟩ : ∃ X : K.W, (⟨s, ⟨IntKind.wrap .u32 (s.pc + 1), Q.up s.r 7 (IntKind.wrap .u32 (s.r 7 + 4)), s.f, s.c, IntKind.wrap .i64 (s.st + 1), s.du⟩, ⟨1, 0, 0, -1, 0, 0, 1⟩, 0, 0⟩ : K.W) = X := ⟨_, rfl⟩
  have e : K.stepI ⟨1, 0, 0, -1, 0, 0, 1⟩ 0 0 s V = K.fin s (K.gc1 X V (s.r 7) 4) := by subst hX; kernel_rfl
  rw [e]; unfold K.gc1; rw [h]; subst hX; rfl
end Go.Proofs.YtglidnmmeclneaaGreat
