/- Walks: stores and loads of the laws of mem, printed by wip/eng. No condition but what is named. -/
import Derived.Test.YtdjjjikokfadiaaProg
import Derived.Test.YtdjjjikokfadiaaZNm
namespace Go.Proofs.Ytdjjjikokfadiaa
set_option linter.unusedVariables false
set_option linter.unusedSimpArgs false
open Go.RowKit
section rules
variable {P : Program} {fr : E.Fr}
variable {T : TypeId} {d : Option Nat} {pos : String} {af : Array Edge} {gd : Option (Nat × Bool)}
/-- A shift to the right by a number that is a letter. -/
theorem E.shr {t u : TypeId} {x y : Operand} {k k2 : IntKind} (a : Int) (c b : Nat) (hb : k.bits = b) (hx : E.ev fr x = .int k a) (hy : E.ev fr y = .int k2 ((c : Nat) : Int)) (w : World) :
    (execOp (E.ev fr) ⟨d, .binOp .shr t x y u, T, pos, af, gd⟩).run P w = .ok (.value (.int k (Int.fdiv a (2 ^ (min c b))))) w := by
  subst hb
  show (do let r ← (do eqGuard .shr t x y (E.ev fr x) (E.ev fr y); binOp .shr t (E.ev fr x) (E.ev fr y)); pure (Next.value r) : Sem Next).run P w = _
  rw [hx, hy]
  have h : ¬ ((c : Nat) : Int) < 0 := by omega
  simp [eqGuard, binOp, Op.shift, h]
end rules
theorem M.chkN_t {V : M.V} {a : Nat} {r : Int} : ∀ c i, (V.chkN a r i c).2 = true → ∀ j, i ≤ j → j < i + c → V.ok ((a + j) % 4294967296) r = true
  | 0, i, _, j, h1, h2 => by omega
  | c + 1, i, h, j, h1, h2 => by
    rw [M.chkN_s] at h
    cases hb : V.ok ((a + i) % 4294967296) r with
    | false => rw [hb] at h; cases h
    | true =>
      rw [hb] at h
      by_cases e : j = i
      · rw [e]; exact hb
      · exact M.chkN_t c (i + 1) h j (by omega) (by omega)
theorem M.chkN_f {V : M.V} {a : Nat} {r : Int} : ∀ c i, (V.chkN a r i c).2 = false → ∃ j, i ≤ j ∧ j < i + c ∧ V.ok ((a + j) % 4294967296) r = false ∧ (V.chkN a r i c).1 = (((a + j) % 4294967296 : Nat) : Int) ∧ ∀ l, i ≤ l → l < j → V.ok ((a + l) % 4294967296) r = true
  | 0, i, h => by cases h
  | c + 1, i, h => by
    rw [M.chkN_s] at h ⊢
    cases hb : V.ok ((a + i) % 4294967296) r with
    | false => exact ⟨i, Nat.le_refl _, by omega, hb, rfl, fun l h1 h2 => by omega⟩
    | true =>
      rw [hb] at h
      obtain ⟨j, h1, h2, h3, h4, h5⟩ := M.chkN_f c (i + 1) h
      refine ⟨j, by omega, by omega, h3, h4, fun l k1 k2 => ?_⟩
      by_cases e : l = i
      · rw [e]; exact hb
      · exact h5 l (by omega) k2
theorem M.chk_t {V : M.V} {a m : Nat} {r : Int} (hm : 1 ≤ m ∧ m ≤ 4) (h : (V.chk a r ((m : Nat) : Int)).2 = true) (j : Nat) (hj : j < m) : V.ok ((a + j) % 4294967296) r = true := by
  unfold M.V.chk at h
  rw [if_pos (by omega)] at h
  exact M.chkN_t m 0 h j (Nat.zero_le _) (by omega)
theorem M.chk_f {V : M.V} {a m : Nat} {r : Int} (hm : 1 ≤ m ∧ m ≤ 4) (h : (V.chk a r ((m : Nat) : Int)).2 = false) : ∃ j, j < m ∧ V.ok ((a + j) % 4294967296) r = false ∧ (V.chk a r ((m : Nat) : Int)).1 = (((a + j) % 4294967296 : Nat) : Int) ∧ ∀ l, l < j → V.ok ((a + l) % 4294967296) r = true := by
  unfold M.V.chk at h ⊢
  rw [if_pos (by omega)] at h ⊢
  obtain ⟨j, _, h2, h3, h4, h5⟩ := M.chkN_f m 0 h
  exact ⟨j, by omega, h3, h4, fun l hl => h5 l (Nat.zero_le _) hl⟩
theorem M.ok_in {V : M.V} {a : Nat} {r : Int} (h : V.ok a r = true) : a / 256 < V.n := by
  unfold M.V.ok at h
  rw [Bool.and_eq_true] at h
  exact of_decide_eq_true h.1
/-- The difference of two words. -/
def M.sb (k a : Nat) : Nat := (k + 4294967296 - a) % 4294967296
theorem M.sb_eq {k a : Nat} (hk : k < 4294967296) (ha : a < 4294967296) : IntKind.wrap .u32 (((k : Nat) : Int) - ((a : Nat) : Int)) = ((M.sb k a : Nat) : Int) := by
  unfold M.sb
  show (((k : Nat) : Int) - ((a : Nat) : Int)) % 4294967296 = _
  omega
/-- Byte j of a word. -/
def M.bt (v : Int) (j : Nat) : Int := IntKind.wrap .u8 (Int.fdiv v (2 ^ (8 * j)))
theorem M.peek_set (V : M.V) (b : Nat) (u : Int) (k : Nat) : (V.set b u).peek k = if k = b ∧ k / 256 < V.n then u else V.peek k := by
  unfold M.V.peek M.V.set
  by_cases hb : b / 256 < V.n
  · rw [if_pos hb]
    show (if k / 256 < V.n then M.up V.d (b / 256) (b % 256) u (k / 256) (k % 256) else 0) = _
    unfold M.up
    by_cases hk : k / 256 < V.n
    · by_cases e : k = b
      · subst e; rw [if_pos hk, if_pos ⟨rfl, rfl⟩, if_pos ⟨rfl, hk⟩]
      · rw [if_pos hk, if_neg (by omega), if_neg (by omega), if_pos hk]
    · rw [if_neg hk, if_neg (by omega), if_neg hk]
  · rw [if_neg hb]
    by_cases hk : k / 256 < V.n
    · rw [if_pos hk, if_neg (by intro h; rw [h.1] at hk; exact hb hk)]
    · rw [if_neg hk, if_neg (by omega)]
theorem M.peek_put {V : M.V} {a : Nat} {v : Int} {k : Nat} (ha : a < 4294967296) (hk : k < 4294967296) : ∀ c, (∀ j, j < c → (a + j) % 4294967296 / 256 < V.n) → c ≤ 4294967296 → (V.put a v c).peek k = if M.sb k a < c then M.bt v (M.sb k a) else V.peek k
  | 0, _, _ => by rw [if_neg (Nat.not_lt_zero _)]; rfl
  | c + 1, h, hc => by
    have ih := M.peek_put (V := V) (v := v) ha hk c (fun j hj => h j (by omega)) (by omega)
    rw [M.V.put, M.peek_set, M.put_n, ih]
    unfold M.sb at *
    have hj := h c (by omega)
    by_cases e : k = (a + c) % 4294967296
    · rw [if_pos ⟨e, by rw [e]; exact hj⟩, if_pos (by omega)]
      have e2 : (k + 4294967296 - a) % 4294967296 = c := by omega
      rw [e2]; rfl
    · rw [if_neg (fun h => e h.1)]
      by_cases e2 : (k + 4294967296 - a) % 4294967296 < c
      · rw [if_pos e2, if_pos (by omega)]
      · rw [if_neg e2, if_neg (by omega)]
theorem M.Is.put {V : M.V} {n : Nat} {c : Bool} (h : M.Is V n c) (a : Nat) (v : Int) (k : Nat) : M.Is (V.put a v k) n c := ⟨(M.put_n ..).trans h.1, (M.put_coh ..).trans h.2.1, h.2.2.put _ _ _⟩
theorem M.sto_t {V : M.V} {a m : Nat} {v : Int} (h : (V.chk a 2 ((m : Nat) : Int)).2 = true) : V.sto a ((m : Nat) : Int) v = V.put a v m := by
  unfold M.V.sto; rw [if_pos h]; rfl
theorem M.sto_f {V : M.V} {a : Nat} {n v : Int} (h : (V.chk a 2 n).2 = false) : V.sto a n v = V := by
  unfold M.V.sto; rw [if_neg (by rw [h]; decide)]
theorem M.stv_t {V : M.V} {a : Nat} {n : Int} (h : (V.chk a 2 n).2 = true) : Value.tuple #[.int .u32 (V.chk a 2 n).1, .bool (V.chk a 2 n).2] = .tuple #[.int .u32 0, .bool true] := by rw [R.chk_0 h, h]
theorem M.stv_f {V : M.V} {a : Nat} {n : Int} (h : (V.chk a 2 n).2 = false) : Value.tuple #[.int .u32 (V.chk a 2 n).1, .bool (V.chk a 2 n).2] = .tuple #[.int .u32 (V.chk a 2 n).1, .bool false] := by rw [h]
/-- The address that fails is near. -/
theorem M.at_near {V : M.V} {a m : Nat} {r : Int} (ha : a < 4294967296) (hm : 1 ≤ m ∧ m ≤ 4) (h : (V.chk a r ((m : Nat) : Int)).2 = false) : decide ((IntKind.wrap .u32 ((V.chk a r ((m : Nat) : Int)).1 - ((a : Nat) : Int))) < ((m : Nat) : Int)) = true := by
  obtain ⟨j, hj, _, e, _⟩ := M.chk_f hm h
  rw [e]
  refine decide_eq_true ?_
  show ((((a + j) % 4294967296 : Nat) : Int) - ((a : Nat) : Int)) % 4294967296 < _
  omega
theorem M.and2 {a : Nat} (h : a < 4294967296) : bits .and .u32 ((a : Nat) : Int) 3 = ((a % 4 : Nat) : Int) := by
  have e : bits .and .u32 ((a : Nat) : Int) 3 = ((a : Nat) : Int) % 4 := W.and_mask 2 (by decide) _ (by omega) (by omega)
  rw [e]; omega
def M.sub50 (a : Nat) : Nat := (4294967246 + a % 1024) % 4294967296
theorem M.sub50_lt (a : Nat) : M.sub50 a < 4294967296 := by unfold M.sub50; omega
theorem M.sub50_eq (a : Nat) : IntKind.wrap .u32 (((a % 1024 : Nat) : Int) - 50) = ((M.sub50 a : Nat) : Int) := by
  unfold M.sub50
  show (((a % 1024 : Nat) : Int) - 50) % 4294967296 = _
  omega
theorem M.bt_eq (v : Int) {s : Nat} (h : s < 4) : IntKind.wrap .u8 (Int.fdiv v (2 ^ (min (8 * s % 4294967296) 32))) = M.bt v s := by
  have e : min (8 * s % 4294967296) 32 = 8 * s := by omega
  rw [e]; rfl
theorem M.bt_mod {v : Int} (j : Nat) : M.bt v j = v / (2 ^ (8 * j)) % 256 := by
  unfold M.bt
  rw [Int.fdiv_eq_ediv_of_nonneg _ (Int.pow_nonneg (by decide))]
  rfl
theorem M.pkT {W : M.V} {c : Bool} (hW : M.Is W 3 c) {a m k : Nat} {v : Int} {b : Bool} (ha : a < 4294967296) (hm : 1 ≤ m ∧ m ≤ 4) (hk : k < 4294967296) (hd : (W.chk a 2 ((m : Nat) : Int)).2 = true) (h : ((decide (((M.sb k a : Nat) : Int) < ((m : Nat) : Int))) && b) = true) : (W.put a v m).peek k = IntKind.wrap .u8 (Int.fdiv v (2 ^ (min (8 * M.sb k a % 4294967296) 32))) := by
  rw [Bool.and_eq_true] at h
  have h1 := of_decide_eq_true h.1
  rw [M.peek_put ha hk m (fun j hj => M.ok_in (M.chk_t hm hd j hj)) (by omega), if_pos (by omega), M.bt_eq v (by omega)]
theorem M.pkF {W : M.V} {c : Bool} (hW : M.Is W 3 c) {a m k : Nat} {v : Int} (ha : a < 4294967296) (hm : 1 ≤ m ∧ m ≤ 4) (hk : k < 4294967296) (hd : (W.chk a 2 ((m : Nat) : Int)).2 = true) (h : ((decide (((M.sb k a : Nat) : Int) < ((m : Nat) : Int))) && true) = false) : (W.put a v m).peek k = W.peek k := by
  rw [Bool.and_true] at h
  have h1 := of_decide_eq_false h
  rw [M.peek_put ha hk m (fun j hj => M.ok_in (M.chk_t hm hd j hj)) (by omega), if_neg (by omega)]
theorem M.ldv_s {V : M.V} (hw : R.Wf V) (a n c : Nat) : V.ldv a n (c + 1) = (V.ldv a n c * 256 + V.peek ((a + (n - 1 - c)) % 4294967296)) % 4294967296 := by
  have ih := R.ldv_bd hw a n c
  have hb := R.peek_bd hw ((a + (n - 1 - c)) % 4294967296)
  show bits .or .u32 (IntKind.wrap .u32 (V.ldv a n c * 2 ^ 8)) (IntKind.wrap .u32 (V.peek _)) = _
  rw [show IntKind.wrap .u32 (V.peek ((a + (n - 1 - c)) % 4294967296)) = V.peek ((a + (n - 1 - c)) % 4294967296) from R.u8_32 hb]
  exact R.or_low _ _ ih.1 ih.2 hb.1 hb.2
theorem M.ldp {U : M.V} {c : Bool} (hW : M.Is U 3 c) {a m : Nat} {v : Int} (ha : a < 4294967296) (hm : 1 ≤ m ∧ m ≤ 4) (hv : 0 ≤ v ∧ v < 4294967296) (hd : (U.chk a 2 ((m : Nat) : Int)).2 = true) : (U.put a v m).ldv a m m = bits .and .u32 v (Int.fdiv 4294967295 (2 ^ (min (32 - 8 * m) 32))) := by
  have hp : ∀ j, j < m → (U.put a v m).peek ((a + j) % 4294967296) = v / (2 ^ (8 * j)) % 256 := fun j hj => by
    rw [M.peek_put ha (Nat.mod_lt _ (by decide)) m (fun j hj => M.ok_in (M.chk_t hm hd j hj)) (by omega)]
    have e : M.sb ((a + j) % 4294967296) a = j := by unfold M.sb; omega
    rw [e, if_pos hj, M.bt_mod]
  have hw := (hW.put a v m).2.2
  generalize U.put a v m = V at *
  rcases (by omega : m = 1 ∨ m = 2 ∨ m = 3 ∨ m = 4) with rfl | rfl | rfl | rfl
  · have e : bits .and .u32 v (Int.fdiv 4294967295 (2 ^ (min (32 - 8 * 1) 32))) = v % 256 := W.and_mask 8 (by decide) _ hv.1 hv.2
    have p0 := hp 0 (by decide)
    rw [e, M.ldv_s hw, show V.ldv a 1 0 = 0 from rfl]
    rw [show 1 - 1 - 0 = 0 from rfl, p0]
    show (0 * 256 + v / 1 % 256) % 4294967296 = _
    omega
  · have e : bits .and .u32 v (Int.fdiv 4294967295 (2 ^ (min (32 - 8 * 2) 32))) = v % 65536 := W.and_mask 16 (by decide) _ hv.1 hv.2
    have p0 := hp 0 (by decide); have p1 := hp 1 (by decide)
    rw [e, M.ldv_s hw, M.ldv_s hw, show V.ldv a 2 0 = 0 from rfl]
    rw [show 2 - 1 - 0 = 1 from rfl, show 2 - 1 - 1 = 0 from rfl, p0, p1]
    show ((0 * 256 + v / 256 % 256) % 4294967296 * 256 + v / 1 % 256) % 4294967296 = _
    omega
  · have e : bits .and .u32 v (Int.fdiv 4294967295 (2 ^ (min (32 - 8 * 3) 32))) = v % 16777216 := W.and_mask 24 (by decide) _ hv.1 hv.2
    have p0 := hp 0 (by decide); have p1 := hp 1 (by decide); have p2 := hp 2 (by decide)
    rw [e, M.ldv_s hw, M.ldv_s hw, M.ldv_s hw, show V.ldv a 3 0 = 0 from rfl]
    rw [show 3 - 1 - 0 = 2 from rfl, show 3 - 1 - 1 = 1 from rfl, show 3 - 1 - 2 = 0 from rfl, p0, p1, p2]
    show (((0 * 256 + v / 65536 % 256) % 4294967296 * 256 + v / 256 % 256) % 4294967296 * 256 + v / 1 % 256) % 4294967296 = _
    omega
  · have e : bits .and .u32 v (Int.fdiv 4294967295 (2 ^ (min (32 - 8 * 4) 32))) = v % 4294967296 := by
      obtain ⟨y, rfl⟩ := Int.eq_ofNat_of_zero_le hv.1
      show bits .and .u32 ((y : Nat) : Int) ((4294967295 : Nat) : Int) = _
      rw [u32_and_nat _ _ (by omega) (by decide), show (4294967295 : Nat) = 2 ^ 32 - 1 from rfl, Nat.and_two_pow_sub_one_eq_mod]
      show ((y % 4294967296 : Nat) : Int) = _
      omega
    have p0 := hp 0 (by decide); have p1 := hp 1 (by decide); have p2 := hp 2 (by decide); have p3 := hp 3 (by decide)
    rw [e, M.ldv_s hw, M.ldv_s hw, M.ldv_s hw, M.ldv_s hw, show V.ldv a 4 0 = 0 from rfl]
    rw [show 4 - 1 - 0 = 3 from rfl, show 4 - 1 - 1 = 2 from rfl, show 4 - 1 - 2 = 1 from rfl, show 4 - 1 - 3 = 0 from rfl, p0, p1, p2, p3]
    show ((((0 * 256 + v / 16777216 % 256) % 4294967296 * 256 + v / 65536 % 256) % 4294967296 * 256 + v / 256 % 256) % 4294967296 * 256 + v / 1 % 256) % 4294967296 = _
    omega
theorem M.ldt {W : M.V} {c : Bool} (hW : M.Is W 3 c) {a m : Nat} {v : Int} (ha : a < 4294967296) (hm : 1 ≤ m ∧ m ≤ 4) (hv : 0 ≤ v ∧ v < 4294967296) (hd : (W.chk a 2 ((m : Nat) : Int)).2 = true) (hl : ((W.put a v m).chk a 1 ((m : Nat) : Int)).2 = true) : Value.tuple #[.int .u32 ((W.put a v m).load a ((m : Nat) : Int)).1, .int .u32 ((W.put a v m).load a ((m : Nat) : Int)).2.1, .bool ((W.put a v m).load a ((m : Nat) : Int)).2.2] = .tuple #[.int .u32 (bits .and .u32 v (Int.fdiv 4294967295 (2 ^ (min (32 - 8 * m) 32)))), .int .u32 0, .bool true] := by
  rw [R.load_t hl, M.ldp hW ha hm hv hd]
theorem M.ldf {V : M.V} {a : Nat} {n : Int} (hl : (V.chk a 1 n).2 = false) : Value.tuple #[.int .u32 (V.load a n).1, .int .u32 (V.load a n).2.1, .bool (V.load a n).2.2] = .tuple #[.int .u32 0, .int .u32 (V.chk a 1 n).1, .bool false] := by
  rw [R.load_f hl]
theorem M.sub32 {m : Nat} (hm : 1 ≤ m ∧ m ≤ 4) : IntKind.wrap .u32 (32 - ((8 * m % 4294967296 : Nat) : Int)) = ((32 - 8 * m : Nat) : Int) := by
  show (32 - ((8 * m % 4294967296 : Nat) : Int)) % 4294967296 = _
  omega
theorem M.trF {P : Program} {f : FuncId} {args : Array Value} {p : List A.It} {v u : Value} {m : Nat} {V W : M.V} {xs : List Value} (h : A.Tr P f args p (I := Unit) (fun _ => True) (fun _ => v) (fun _ => [M.It m V xs])) (e : V = W) (k : v = u) : A.Tr P f args p (I := Unit) (fun _ => True) (fun _ => u) (fun _ => [M.It m W xs]) := k ▸ e ▸ h
end Go.Proofs.Ytdjjjikokfadiaa
