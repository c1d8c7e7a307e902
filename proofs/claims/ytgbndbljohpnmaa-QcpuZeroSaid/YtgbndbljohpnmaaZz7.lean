/- Texts of the walk, merged (7): see the remark ahead of each. -/
import Derived.Test.YtgbndbljohpnmaaZz6
import Derived.Test.YtgbndbljohpnmaaProg
import Derived.ChangeKeysEq
/- XQv -/
namespace Go.Proofs.Ytgbndbljohpnmaa
set_option linter.unusedVariables false
set_option linter.unusedSimpArgs false
open Go.RowKit
theorem Q.or_hi (x y : Int) (m : Nat) (h0 : 0 ≤ x ∧ x < 4294967296) (hx : x % ((2 ^ m : Nat) : Int) = 0) (hy : 0 ≤ y ∧ y < ((2 ^ m : Nat) : Int)) (hy2 : y < 4294967296) : bits .or .u32 x y = x + y := by
  obtain ⟨X, rfl⟩ := Int.eq_ofNat_of_zero_le h0.1
  obtain ⟨Y, rfl⟩ := Int.eq_ofNat_of_zero_le hy.1
  rw [u32_or_nat _ _ (by omega) (by omega)]
  have hX : X % 2 ^ m = 0 := by have := hx; rw [← Int.natCast_emod] at this; omega
  have hY : Y < 2 ^ m := by have := hy.2; omega
  obtain ⟨q, rfl⟩ := Nat.dvd_of_mod_eq_zero hX
  rw [← Nat.two_pow_add_eq_or_of_lt hY]; simp
theorem Q3.op_rng {x : Int} (h : (Q3.of x).is = true) : 0 ≤ x ∧ x < 64 := by
  rcases Classical.em (0 ≤ x ∧ x < 64) with k | k
  · exact k
  · have : Q3.of x = ⟨false, false, false, false, false, 0, 0⟩ := by
      unfold Q3.of
      have e1 : (decide (x ≥ 1) && decide (x ≤ 12)) = false := by simp; omega
      have e2 : (x == 17 || x == 18 || x == 19) = false := by simp; omega
      have e3 : ((decide (x ≥ 16) && decide (x ≤ 27)) || (decide (x ≥ 32) && decide (x ≤ 37))) = false := by simp; omega
      have f : ∀ n : Int, 0 ≤ n → n < 64 → (x == n) = false := fun n h1 h2 => by simp; omega
      rw [e1, e2, e3, f 40 (by decide) (by decide), f 41 (by decide) (by decide), f 48 (by decide) (by decide), f 49 (by decide) (by decide), f 50 (by decide) (by decide), f 51 (by decide) (by decide), f 52 (by decide) (by decide), f 53 (by decide) (by decide), f 54 (by decide) (by decide)]; rfl
    rw [this] at h; cases h
def Q3.kd (F : Q3.Fm) : Int := if F.bits = 0 then 0 else if F.sg then 1 else 2
theorem Q3.of_tab : ∀ k : Fin 64, (Q3.of ((k.val : Nat) : Int)).is = true → (Q.shf k.val).kn = true ∧ (Q.shf k.val).d = (Q3.of ((k.val : Nat) : Int)).d ∧ (Q.shf k.val).a = (Q3.of ((k.val : Nat) : Int)).a ∧ (Q.shf k.val).b = (Q3.of ((k.val : Nat) : Int)).b ∧ (Q.shf k.val).bits = (Q3.of ((k.val : Nat) : Int)).bits ∧ (Q.shf k.val).kind = Q3.kd (Q3.of ((k.val : Nat) : Int)) ∧ (Q.shf k.val).most = (Q3.of ((k.val : Nat) : Int)).most ∧
    ((Q3.of ((k.val : Nat) : Int)).bits = 22 ∧ (Q3.of ((k.val : Nat) : Int)).a = false ∧ (Q3.of ((k.val : Nat) : Int)).b = false ∨ (Q3.of ((k.val : Nat) : Int)).bits = 18 ∧ (Q3.of ((k.val : Nat) : Int)).b = false ∨ (Q3.of ((k.val : Nat) : Int)).bits = 0) := by decide +kernel
/-- The format of an operation that there is, in both. -/
theorem Q3.of_same {x : Int} (h : (Q3.of x).is = true) : (Q.of x).kn = true ∧ (Q.of x).d = (Q3.of x).d ∧ (Q.of x).a = (Q3.of x).a ∧ (Q.of x).b = (Q3.of x).b ∧ (Q.of x).bits = (Q3.of x).bits ∧ (Q.of x).kind = Q3.kd (Q3.of x) ∧ (Q.of x).most = (Q3.of x).most ∧
    ((Q3.of x).bits = 22 ∧ (Q3.of x).a = false ∧ (Q3.of x).b = false ∨ (Q3.of x).bits = 18 ∧ (Q3.of x).b = false ∨ (Q3.of x).bits = 0) := by
  have hr := Q3.op_rng h
  obtain ⟨n, rfl⟩ := Int.eq_ofNat_of_zero_le hr.1
  rw [Q.of_lt hr]
  exact Q3.of_tab ⟨n, by omega⟩ h
theorem Q.wr (z : Int) : IntKind.wrap .u32 z = z % 4294967296 := rfl
/-- The word of five fields. -/
theorem Q.word {op d a b m y : Int} {bt : Nat} (ho : 0 ≤ op ∧ op < 64) (hd : 0 ≤ d ∧ d < 16) (ha : 0 ≤ a ∧ a < 16) (hb : 0 ≤ b ∧ b < 16) (hy : 0 ≤ y ∧ y < 4294967296) (hm : m = y % ((2 ^ bt : Nat) : Int))
    (hc : bt = 22 ∧ a = 0 ∧ b = 0 ∨ bt = 18 ∧ b = 0 ∨ bt = 0) :
    bits .or .u32 (bits .or .u32 (bits .or .u32 (bits .or .u32 (IntKind.wrap .u32 ((IntKind.wrap .u32 op) * 2 ^ 26)) (IntKind.wrap .u32 ((IntKind.wrap .u32 d) * 2 ^ 22))) (IntKind.wrap .u32 ((IntKind.wrap .u32 a) * 2 ^ 18))) (IntKind.wrap .u32 ((IntKind.wrap .u32 b) * 2 ^ 14))) (bits .and .u32 y (IntKind.wrap .u32 ((IntKind.wrap .u32 (1 * 2 ^ (min bt 32))) - 1)))
      = op * 67108864 + d * 4194304 + a * 262144 + b * 16384 + m := by
  have e1 : IntKind.wrap .u32 ((IntKind.wrap .u32 op) * 2 ^ 26) = op * 67108864 := by rw [Q.wr, Q.wr]; omega
  have e2 : IntKind.wrap .u32 ((IntKind.wrap .u32 d) * 2 ^ 22) = d * 4194304 := by rw [Q.wr, Q.wr]; omega
  have e3 : IntKind.wrap .u32 ((IntKind.wrap .u32 a) * 2 ^ 18) = a * 262144 := by rw [Q.wr, Q.wr]; omega
  have e4 : IntKind.wrap .u32 ((IntKind.wrap .u32 b) * 2 ^ 14) = b * 16384 := by rw [Q.wr, Q.wr]; omega
  have e5 : bits .and .u32 y (IntKind.wrap .u32 ((IntKind.wrap .u32 (1 * 2 ^ (min bt 32))) - 1)) = y % ((2 ^ bt : Nat) : Int) := by
    rcases hc with ⟨rfl, _⟩ | ⟨rfl, _⟩ | rfl
    · exact W.and_mask 22 (by decide) y hy.1 hy.2
    · exact W.and_mask 18 (by decide) y hy.1 hy.2
    · exact W.and_mask 0 (by decide) y hy.1 hy.2
  have o1 : bits .or .u32 (op * 67108864) (d * 4194304) = op * 67108864 + d * 4194304 := Q.or_hi _ _ 26 (by omega) (by simp) (by simp; omega) (by omega)
  have o2 : bits .or .u32 (op * 67108864 + d * 4194304) (a * 262144) = op * 67108864 + d * 4194304 + a * 262144 := Q.or_hi _ _ 22 (by omega) (by first | omega | simp | (simp; omega)) (by simp; omega) (by omega)
  have o3 : bits .or .u32 (op * 67108864 + d * 4194304 + a * 262144) (b * 16384) = op * 67108864 + d * 4194304 + a * 262144 + b * 16384 := Q.or_hi _ _ 18 (by omega) (by first | omega | simp | (simp; omega)) (by simp; omega) (by omega)
  rw [e1, e2, e3, e4, e5, ← hm, o1, o2, o3]
  rcases hc with ⟨rfl, rfl, rfl⟩ | ⟨rfl, rfl⟩ | rfl
  · have : m = y % 4194304 := hm
    exact Q.or_hi _ _ 22 (by omega) (by first | omega | simp | (simp; omega)) (by simp; omega) (by omega)
  · have : m = y % 262144 := hm
    exact Q.or_hi _ _ 18 (by omega) (by first | omega | simp | (simp; omega)) (by simp; omega) (by omega)
  · have : m = y % 1 := hm
    exact Q.or_hi _ _ 0 (by omega) (by first | omega | simp | (simp; omega)) (by simp; omega) (by omega)
/-- The fields of a word. -/
theorem Q.fld {op d a b m : Int} (ho : 0 ≤ op ∧ op < 64) (hd : 0 ≤ d ∧ d < 16) (ha : 0 ≤ a ∧ a < 16) (hb : 0 ≤ b ∧ b < 16) {bt : Nat} (hm : 0 ≤ m ∧ m < ((2 ^ bt : Nat) : Int)) (hc : bt = 22 ∧ a = 0 ∧ b = 0 ∨ bt = 18 ∧ b = 0 ∨ bt = 0) {w : Int} (hw : w = op * 67108864 + d * 4194304 + a * 262144 + b * 16384 + m) :
    (0 ≤ w ∧ w < 4294967296) ∧ Q.dop w = op ∧ Q.field w true 22 = d ∧ (bt = 22 ∨ Q.field w true 18 = a) ∧ (bt ≠ 0 ∨ Q.field w true 14 = b) ∧ w % ((2 ^ bt : Nat) : Int) = m := by
  have f0 : Q.dop w = IntKind.wrap .i64 (w / 67108864) := by
    show IntKind.wrap .i64 (Int.fdiv w 67108864) = _
    rw [Int.fdiv_eq_ediv_of_nonneg _ (by decide)]
  have f1 : Q.field w true 22 = IntKind.wrap .i64 (w / 4194304 % 16) := by
    show IntKind.wrap .i64 (Int.tmod (Int.fdiv w 4194304) 16) = _
    rw [Int.fdiv_eq_ediv_of_nonneg _ (by decide), Int.tmod_eq_emod_of_nonneg (by rcases hc with ⟨rfl, _⟩ | ⟨rfl, _⟩ | rfl <;> simp at hm <;> omega)]
  have f2 : Q.field w true 18 = IntKind.wrap .i64 (w / 262144 % 16) := by
    show IntKind.wrap .i64 (Int.tmod (Int.fdiv w 262144) 16) = _
    rw [Int.fdiv_eq_ediv_of_nonneg _ (by decide), Int.tmod_eq_emod_of_nonneg (by rcases hc with ⟨rfl, _⟩ | ⟨rfl, _⟩ | rfl <;> simp at hm <;> omega)]
  have f3 : Q.field w true 14 = IntKind.wrap .i64 (w / 16384 % 16) := by
    show IntKind.wrap .i64 (Int.tmod (Int.fdiv w 16384) 16) = _
    rw [Int.fdiv_eq_ediv_of_nonneg _ (by decide), Int.tmod_eq_emod_of_nonneg (by rcases hc with ⟨rfl, _⟩ | ⟨rfl, _⟩ | rfl <;> simp at hm <;> omega)]
  have hm' : 0 ≤ m ∧ m < 4194304 := by rcases hc with ⟨rfl, _⟩ | ⟨rfl, _⟩ | rfl <;> simp at hm <;> omega
  have hs : a * 262144 + b * 16384 + m < 4194304 := by rcases hc with ⟨rfl, rfl, rfl⟩ | ⟨rfl, rfl⟩ | rfl <;> simp at hm <;> omega
  rw [f0, f1, f2, f3, IntWalk.i64_in _ (by omega), IntWalk.i64_in _ (by omega), IntWalk.i64_in _ (by omega), IntWalk.i64_in _ (by omega)]
  refine ⟨by omega, by omega, by omega, ?_, ?_, ?_⟩
  · rcases hc with ⟨rfl, _⟩ | ⟨rfl, rfl⟩ | rfl
    · exact Or.inl rfl
    · exact Or.inr (by simp at hm; omega)
    · exact Or.inr (by simp at hm; omega)
  · rcases hc with ⟨rfl, _⟩ | ⟨rfl, rfl⟩ | rfl
    · exact Or.inl (by decide)
    · exact Or.inl (by decide)
    · exact Or.inr (by simp at hm; omega)
  · rcases hc with ⟨rfl, rfl, rfl⟩ | ⟨rfl, rfl⟩ | rfl <;> simp at hm ⊢ <;> omega
theorem Q3.reg_bd {n : Int} {u : Bool} (h : Q3.reg n u = true) : (0 ≤ n ∧ n < 16) ∧ (u = false → n = 0) := by
  unfold Q3.reg at h
  cases u
  · have : (n == 0) = true := by simpa using h
    have : n = 0 := by simpa using this
    exact ⟨by omega, fun _ => this⟩
  · simp at h
    exact ⟨by omega, fun e => nomatch e⟩
def Q3.iimm (F : Q3.Fm) (n : Int) : Bool := (bif ((((F).bits : Nat) : Int) == 0) then (n == 0) else (bif (F).sg then (W.sign n (((F).bits : Nat) : Int) == n) else (bif (decide (((F).most) > 0)) then (decide (n ≤ ((F).most))) else (decide (n < (IntKind.wrap .u32 (1 * 2 ^ (min ((F).bits) 32))))))))
theorem Q3.valid_parts {i : Q.I} (h : Q3.valid i = true) : (Q3.of i.op).is = true ∧ Q3.reg i.d (Q3.of i.op).d = true ∧ Q3.reg i.a (Q3.of i.op).a = true ∧ Q3.reg i.b (Q3.of i.op).b = true ∧ Q3.iimm (Q3.of i.op) i.imm = true := by
  have h : (bif (!((Q3.of i.op).is)) then false else (bif (((!(Q3.reg i.d ((Q3.of i.op).d))) || (!(Q3.reg i.a ((Q3.of i.op).a)))) || (!(Q3.reg i.b ((Q3.of i.op).b)))) then false else Q3.iimm (Q3.of i.op) i.imm)) = true := h
  revert h
  cases (Q3.of i.op).is <;> cases Q3.reg i.d ((Q3.of i.op).d) <;> cases Q3.reg i.a ((Q3.of i.op).a) <;> cases Q3.reg i.b ((Q3.of i.op).b) <;> simp
theorem Q.imm_same {F : Q3.Fm} {s : Q.Sh} (hb : s.bits = F.bits) (hk : s.kind = Q3.kd F) (hm : s.most = F.most) (hc : F.bits = 22 ∨ F.bits = 18 ∨ F.bits = 0) {n : Int} (hn : 0 ≤ n ∧ n < 4294967296) (h : Q3.iimm F n = true) : Q.immediate s n = true := by
  obtain ⟨is, d, a, b, sg, bits, most⟩ := F
  obtain ⟨kn, d2, a2, b2, kind, bits2, most2⟩ := s
  simp only at hb hk hm hc
  subst hb hm
  unfold Q3.iimm at h
  unfold Q.immediate
  rcases hc with rfl | rfl | rfl <;> cases sg <;> simp [Q3.kd] at hk <;> subst hk <;> simp at h ⊢
  all_goals first
    | exact h
    | (split at h
       · rename_i hp; rw [if_pos hp]; exact h
       · rename_i hp
         rw [if_neg hp, Int.fdiv_eq_ediv_of_nonneg _ (by decide)]
         rw [Q.wr] at h; omega)
theorem Q.sign_again {n : Int} {k : Nat} (hk : k = 22 ∨ k = 18) (hn : 0 ≤ n ∧ n < 4294967296) : W.sign (n % ((2 ^ k : Nat) : Int)) ((k : Nat) : Int) = W.sign n ((k : Nat) : Int) := by
  rcases hk with rfl | rfl
  · show W.sign (n % 4194304) 22 = W.sign n 22
    simp only [W.sign, Int.reduceSub, Int.reduceToNat, Int.reducePow, Int.reduceLT, Int.reduceLE, ↓reduceIte, Int.emod_emod]
  · show W.sign (n % 262144) 18 = W.sign n 18
    simp only [W.sign, Int.reduceSub, Int.reduceToNat, Int.reducePow, Int.reduceLT, Int.reduceLE, ↓reduceIte, Int.emod_emod]
theorem Q.mod_low {n : Int} {b : Nat} (h : b ≤ 22) : Int.tmod n (IntKind.wrap .u32 (1 * 2 ^ (min b 32))) = Int.tmod n ((2 ^ b : Nat) : Int) := by
  have e : ∀ b : Fin 23, IntKind.wrap .u32 (1 * 2 ^ (min b.val 32)) = ((2 ^ b.val : Nat) : Int) := by decide +kernel
  rw [e ⟨b, by omega⟩]
/-- A valid instruction's word is the same in both, and is decoded to the instruction. -/
theorem Q3.valid_enc {i : Q.I} (hn : 0 ≤ i.imm ∧ i.imm < 4294967296) (h : Q3.valid i = true) : (Q3.encode i).2 = 0 ∧ Q.encode i = Q3.encode i ∧ Q.decode (Q3.encode i).1 = (i, 0) := by
  obtain ⟨his, hd, ha, hb, hi⟩ := Q3.valid_parts h
  have hr := Q3.op_rng his
  obtain ⟨tk, td, ta, tb, tbits, tkind, tmost, tc⟩ := Q3.of_same his
  have bd := Q3.reg_bd hd
  have ba := Q3.reg_bd ha
  have bb := Q3.reg_bd hb
  have hc : (Q3.of i.op).bits = 22 ∧ i.a = 0 ∧ i.b = 0 ∨ (Q3.of i.op).bits = 18 ∧ i.b = 0 ∨ (Q3.of i.op).bits = 0 := by
    rcases tc with ⟨e, e1, e2⟩ | ⟨e, e1⟩ | e
    · exact Or.inl ⟨e, ba.2 e1, bb.2 e2⟩
    · exact Or.inr (Or.inl ⟨e, bb.2 e1⟩)
    · exact Or.inr (Or.inr e)
  have hv : Q.valid i = true := by
    unfold Q.valid
    rw [tk, td, ta, tb, Q.imm_same tbits tkind tmost (by rcases tc with ⟨e, _⟩ | ⟨e, _⟩ | e <;> simp [e]) hn hi]
    have f : ∀ n u, Q.fits n u = Q3.reg n u := fun _ _ => rfl
    rw [f, f, f, hd, ha, hb]; rfl
  have hm : 0 ≤ i.imm % ((2 ^ (Q3.of i.op).bits : Nat) : Int) ∧ i.imm % ((2 ^ (Q3.of i.op).bits : Nat) : Int) < ((2 ^ (Q3.of i.op).bits : Nat) : Int) := by
    have : (0 : Int) < ((2 ^ (Q3.of i.op).bits : Nat) : Int) := by have := Nat.two_pow_pos (Q3.of i.op).bits; omega
    exact ⟨Int.emod_nonneg _ (by omega), Int.emod_lt_of_pos _ this⟩
  have hm22 : i.imm % ((2 ^ (Q3.of i.op).bits : Nat) : Int) < 4194304 := by
    rcases hc with ⟨e, _⟩ | ⟨e, _⟩ | e <;> rw [e] at hm ⊢ <;> simp at hm ⊢ <;> omega
  have hlow : i.a * 262144 + i.b * 16384 + i.imm % ((2 ^ (Q3.of i.op).bits : Nat) : Int) < 4194304 := by
    rcases hc with ⟨e, e1, e2⟩ | ⟨e, e1⟩ | e <;> rw [e] at hm ⊢ <;> simp at hm ⊢ <;> omega
  have e3 : Q3.encode i = (i.op * 67108864 + i.d * 4194304 + i.a * 262144 + i.b * 16384 + i.imm % ((2 ^ (Q3.of i.op).bits : Nat) : Int), 0) := by
    unfold Q3.encode
    rw [h]
    show (bif ((((Q3.of i.op).bits : Nat) : Int) == 0) then _ else _) = _
    cases hz : ((((Q3.of i.op).bits : Nat) : Int) == 0) with
    | true =>
      have : (Q3.of i.op).bits = 0 := by simpa using hz
      rw [cond_true, this]
      refine congrArg (·, (0 : Int)) ?_
      simp only [Q.wr]; simp; omega
    | false =>
      rw [cond_false, Q.mod_low (Q3.of_bits _), Int.tmod_eq_emod_of_nonneg hn.1]
      refine congrArg (·, (0 : Int)) ?_
      generalize i.imm % ((2 ^ (Q3.of i.op).bits : Nat) : Int) = m at *
      simp only [Q.wr]; omega
  have eq : Q.encode i = Q3.encode i := by
    rw [e3]
    unfold Q.encode
    rw [hv, tbits]
    exact congrArg (·, (0 : Int)) (Q.word hr bd.1 ba.1 bb.1 hn rfl hc)
  refine ⟨by rw [e3], eq, ?_⟩
  have hw : (Q3.encode i).1 = i.op * 67108864 + i.d * 4194304 + i.a * 262144 + i.b * 16384 + i.imm % ((2 ^ (Q3.of i.op).bits : Nat) : Int) := by rw [e3]
  have e2 : (Q.encode i).2 = 0 := by rw [eq, e3]
  obtain ⟨hw0, f0, f1, f2, f3, f4⟩ := Q.fld hr bd.1 ba.1 bb.1 hm hc hw
  have g1 : Q.field (Q3.encode i).1 (Q.of i.op).d 22 = i.d := by
    cases hu : (Q3.of i.op).d with
    | true => rw [td, hu]; exact f1
    | false => rw [td, hu]; exact (bd.2 hu).symm
  have g2 : Q.field (Q3.encode i).1 (Q.of i.op).a 18 = i.a := by
    cases hu : (Q3.of i.op).a with
    | false => rw [ta, hu]; exact (ba.2 hu).symm
    | true =>
      rw [ta, hu]
      rcases tc with ⟨e, e1, _⟩ | ⟨e, _⟩ | e
      · rw [e1] at hu; cases hu
      · exact f2.resolve_left (by rw [e]; decide)
      · exact f2.resolve_left (by rw [e]; decide)
  have g3 : Q.field (Q3.encode i).1 (Q.of i.op).b 14 = i.b := by
    cases hu : (Q3.of i.op).b with
    | false => rw [tb, hu]; exact (bb.2 hu).symm
    | true =>
      rw [tb, hu]
      rcases tc with ⟨e, _, e1⟩ | ⟨e, e1⟩ | e
      · rw [e1] at hu; cases hu
      · rw [e1] at hu; cases hu
      · exact f3.resolve_left (by rw [e]; decide)
  have g4 : Q.dimm (Q3.encode i).1 = i.imm % ((2 ^ (Q3.of i.op).bits : Nat) : Int) := by
    rw [← f4]
    unfold Q.dimm
    rw [f0, tbits]
    rcases hc with ⟨e, _⟩ | ⟨e, _⟩ | e <;> rw [e]
    · exact W.and_mask 22 (by decide) _ hw0.1 hw0.2
    · exact W.and_mask 18 (by decide) _ hw0.1 hw0.2
    · exact W.and_mask 0 (by decide) _ hw0.1 hw0.2
  have key : ∀ c : Q.I, c = i → (bif ((((Q.encode c).2) != 0) || (((Q.encode c).1) != (Q3.encode i).1)) then ((⟨0, 0, 0, 0, 0⟩ : Q.I), (12 : Int)) else (c, 0)) = (i, 0) := fun c hc => by
    subst hc
    rw [e2, eq]; simp
  unfold Q.decode
  rw [f0, tkind]
  cases hk : (Q3.kd (Q3.of i.op) == 1) with
  | true =>
    refine key _ ?_
    unfold Q.c1 Q.dsg
    rw [g4, f0, g1, g2, g3, tbits]
    have hk1 : (Q3.of i.op).bits ≠ 0 ∧ (Q3.of i.op).sg = true := by
      unfold Q3.kd at hk
      by_cases z : (Q3.of i.op).bits = 0
      · rw [if_pos z] at hk; cases hk
      · rw [if_neg z] at hk
        cases hs : (Q3.of i.op).sg with
        | true => exact ⟨z, rfl⟩
        | false => rw [hs] at hk; cases hk
    rw [Q.sign_again (by rcases tc with ⟨e, _⟩ | ⟨e, _⟩ | e <;> omega) hn]
    have : W.sign i.imm (((Q3.of i.op).bits : Nat) : Int) = i.imm := by
      unfold Q3.iimm at hi
      rw [hk1.2, show ((((Q3.of i.op).bits : Nat) : Int) == 0) = false by simp; exact hk1.1] at hi
      simpa using hi
    rw [this]
  | false =>
    refine key _ ?_
    unfold Q.c0
    rw [g4, f0, g1, g2, g3]
    have : i.imm % ((2 ^ (Q3.of i.op).bits : Nat) : Int) = i.imm := by
      have hmo := Q3.of_most i.op
      unfold Q3.iimm at hi
      rcases tc with ⟨e, _⟩ | ⟨e, _⟩ | e
      · have hs : (Q3.of i.op).sg = false := by
          cases hs : (Q3.of i.op).sg with
          | false => rfl
          | true => unfold Q3.kd at hk; rw [hs, e] at hk; cases hk
        rw [hs, e] at hi; rw [e]
        simp only [Q.wr] at hi; simp at hi ⊢
        split at hi <;> omega
      · have hs : (Q3.of i.op).sg = false := by
          cases hs : (Q3.of i.op).sg with
          | false => rfl
          | true => unfold Q3.kd at hk; rw [hs, e] at hk; cases hk
        rw [hs, e] at hi; rw [e]
        simp only [Q.wr] at hi; simp at hi ⊢
        split at hi <;> omega
      · rw [e] at hi; rw [e]
        simp at hi ⊢
        omega
    rw [this]
end Go.Proofs.Ytgbndbljohpnmaa

/- XQt -/
namespace Go.Proofs.Ytgbndbljohpnmaa
set_option linter.unusedVariables false
set_option linter.unusedSimpArgs false
open Go.RowKit
def Q3.made (a b c x y : Int) : Q.I := (bif (decide (((Q3.of (Q3.opAt (a % 39))).most) > 0)) then ⟨(Q3.opAt (a % 39)), (bif (Q3.of (Q3.opAt (a % 39))).d then (b % 16) else 0), (bif (Q3.of (Q3.opAt (a % 39))).a then (c % 16) else 0), (bif (Q3.of (Q3.opAt (a % 39))).b then (x % 16) else 0), (bif (Q3.of (Q3.opAt (a % 39))).sg then (W.sign (IntKind.wrap .u32 (y % ((Q3.of (Q3.opAt (a % 39))).most + 1))) (((Q3.of (Q3.opAt (a % 39))).bits : Nat) : Int)) else (IntKind.wrap .u32 (y % ((Q3.of (Q3.opAt (a % 39))).most + 1))))⟩ else (bif (decide ((((Q3.of (Q3.opAt (a % 39))).bits : Nat) : Int) > 0)) then ⟨(Q3.opAt (a % 39)), (bif (Q3.of (Q3.opAt (a % 39))).d then (b % 16) else 0), (bif (Q3.of (Q3.opAt (a % 39))).a then (c % 16) else 0), (bif (Q3.of (Q3.opAt (a % 39))).b then (x % 16) else 0), (bif (Q3.of (Q3.opAt (a % 39))).sg then (W.sign (IntKind.wrap .u32 (y % (Q3.two (Q3.of (Q3.opAt (a % 39))).bits))) (((Q3.of (Q3.opAt (a % 39))).bits : Nat) : Int)) else (IntKind.wrap .u32 (y % (Q3.two (Q3.of (Q3.opAt (a % 39))).bits))))⟩ else ⟨(Q3.opAt (a % 39)), (bif (Q3.of (Q3.opAt (a % 39))).d then (b % 16) else 0), (bif (Q3.of (Q3.opAt (a % 39))).a then (c % 16) else 0), (bif (Q3.of (Q3.opAt (a % 39))).b then (x % 16) else 0), (bif (Q3.of (Q3.opAt (a % 39))).sg then (W.sign 0 (((Q3.of (Q3.opAt (a % 39))).bits : Nat) : Int)) else 0)⟩))
theorem Made3_any (a b c x y : Int) (ha : -9223372036854775808 ≤ a ∧ a < 9223372036854775808) (hb : -9223372036854775808 ≤ b ∧ b < 9223372036854775808) (hc : -9223372036854775808 ≤ c ∧ c < 9223372036854775808) (hx : -9223372036854775808 ≤ x ∧ x < 9223372036854775808) (hy : -9223372036854775808 ≤ y ∧ y < 9223372036854775808) (w : World) : Calls Try.prog 18 #[.agg #[.int .i64 a, .int .i64 b, .int .i64 c, .int .i64 x, .int .i64 y]] w fun e w' => e = .returned (.agg #[.int .i64 ((Q3.made a b c x y).op), .int .i64 ((Q3.made a b c x y).d), .int .i64 ((Q3.made a b c x y).a), .int .i64 ((Q3.made a b c x y).b), .int .u32 ((Q3.made a b c x y).imm)]) ∧ Bel w w' := by
  have hm : 0 ≤ a % 39 ∧ a % 39 < 39 := ⟨Int.emod_nonneg _ (by decide), Int.emod_lt_of_pos _ (by decide)⟩
  have hbt := Q3.of_bits (Q3.opAt (a % 39))
  refine E.enter (n := 72) (S := fun _ => False) Try.func18 rfl rfl (by kernel_rfl) (E.Hp.start w) ?_
  refine E.sr ?_
  refine E.G.new (fun g => .pointer (some ⟨g, 0, none⟩)) [.int .i64 a, .int .i64 b, .int .i64 c, .int .i64 x, .int .i64 y] 44 (fun w => by kernel_rfl) (by kernel_rfl) (fun g1 => ?_)
  refine E.G.new (fun g => .pointer (some ⟨g, 0, none⟩)) [.int .i64 0, .int .i64 0, .int .i64 0, .int .i64 0, .int .u32 0] 47 (fun w => by kernel_rfl) (by kernel_rfl) (fun g2 => ?_)
  refine E.tr ?_
  refine E.G.callX (I := Nat × Nat × List Value) (fun _ => True) (fun zz => .slice (some ⟨zz.1, 0, none⟩) 39 zz.2.1) (fun _ => fun _ => True) (fun zz => (zz.1, (Q3.o39 ++ zz.2.2)) :: [(g2, [.int .i64 0, .int .i64 0, .int .i64 0, .int .i64 0, .int .u32 0]), (g1, [.int .i64 a, .int .i64 b, .int .i64 c, .int .i64 x, .int .i64 y])]) (fun w h => (Ops3_new w h).mono fun e w1 ⟨g, he, hh⟩ => ⟨g, trivial, he, hh⟩) (fun w _ => by kernel_rfl) (by kernel_rfl) (fun ol3 _ => ?_)
  refine E.op (.slice (some ⟨ol3.1, 0, none⟩) 39 ol3.2.1) ?_
  refine E.tr ?_
  refine E.op (.slice (some ⟨ol3.1, 0, none⟩) 39 ol3.2.1) ?_
  refine E.op (.pointer (some ⟨g1, 0, none⟩)) ?_
  refine E.li (.int .i64 a) 2 rfl rfl ?_
  refine E.op (.slice (some ⟨ol3.1, 0, none⟩) 39 ol3.2.1) ?_
  refine E.op (.int .i64 39) ?_
  refine E.G.call (.int .i64 (a % 39)) (fun w h => Mod_any a 39 ha (by decide) w) (fun w _ => by kernel_rfl) (by kernel_rfl) ?_
  refine E.G.val (.pointer (some ⟨ol3.1, 0 + ((a % 39)).toNat * 1, none⟩)) (by kernel_rfl) (fun w h => E.idxS (e := 3) ol3.1 0 39 ol3.2.1 1 .i64 ((a % 39)) (by kernel_rfl) (by kernel_rfl) (by kernel_rfl) (by kernel_rfl) (by omega) (by omega) w) ?_
  refine E.G.val (.int .i64 (Q3.opAt (a % 39))) (by kernel_rfl) (fun w h => E.run_load h 0 rfl rfl (E.ld_rowA (xs := Q3.ops) (by kernel_rfl) (by rw [Q3.ops_len]; omega))) ?_
  refine E.G.val (.agg #[.int .i64 (Q3.opAt (a % 39)), .int .i64 0, .int .i64 0, .int .i64 0, .int .u32 0]) (by kernel_rfl) (fun w h => E.run_build #[.int .i64 (Q3.opAt (a % 39)), .int .i64 0, .int .i64 0, .int .i64 0, .int .u32 0] (by kernel_rfl) w) ?_
  refine E.G.new (fun g => .pointer (some ⟨g, 0, none⟩)) [.int .i64 0, .int .i64 0, .int .i64 0, .int .i64 0, .int .u32 0] 47 (fun w => by kernel_rfl) (by kernel_rfl) (fun g4 => ?_)
  refine E.G.store 0 [.int .i64 (Q3.opAt (a % 39)), .int .i64 0, .int .i64 0, .int .i64 0, .int .u32 0] rfl rfl (by kernel_rfl) (by kernel_rfl) ?_
  refine E.To.code ?_
  refine E.C.weak [(1, .pointer (some ⟨g1, 0, none⟩)), (2, .pointer (some ⟨g2, 0, none⟩)), (4, .pointer (some ⟨g4, 0, none⟩))] [(g4, [.int .i64 (Q3.opAt (a % 39)), .int .i64 0, .int .i64 0, .int .i64 0, .int .u32 0]), (g2, [.int .i64 0, .int .i64 0, .int .i64 0, .int .i64 0, .int .u32 0]), (g1, [.int .i64 a, .int .i64 b, .int .i64 c, .int .i64 x, .int .i64 y])] ⟨by kernel_rfl, by kernel_rfl⟩ (List.Sublist.cons_cons _ (List.Sublist.cons _ (List.Sublist.refl _))) ?_
  refine E.sr ?_
  refine E.op (.pointer (some ⟨g4, 0, none⟩)) ?_
  refine E.li (.int .i64 (Q3.opAt (a % 39))) 0 rfl rfl ?_
  refine E.G.call (.agg #[.bool ((Q3.of (Q3.opAt (a % 39))).is), .bool ((Q3.of (Q3.opAt (a % 39))).d), .bool ((Q3.of (Q3.opAt (a % 39))).a), .bool ((Q3.of (Q3.opAt (a % 39))).b), .bool ((Q3.of (Q3.opAt (a % 39))).sg), .int .i64 (((Q3.of (Q3.opAt (a % 39))).bits : Nat) : Int), .int .u32 ((Q3.of (Q3.opAt (a % 39))).most)]) (fun w h => Of3_any (Q3.opAt (a % 39)) w) (fun w _ => by kernel_rfl) (by kernel_rfl) ?_
  refine E.G.new (fun g => .pointer (some ⟨g, 0, none⟩)) [.bool false, .bool false, .bool false, .bool false, .bool false, .int .i64 0, .int .u32 0] 88 (fun w => by kernel_rfl) (by kernel_rfl) (fun g5 => ?_)
  refine E.G.store 0 [.bool ((Q3.of (Q3.opAt (a % 39))).is), .bool ((Q3.of (Q3.opAt (a % 39))).d), .bool ((Q3.of (Q3.opAt (a % 39))).a), .bool ((Q3.of (Q3.opAt (a % 39))).b), .bool ((Q3.of (Q3.opAt (a % 39))).sg), .int .i64 (((Q3.of (Q3.opAt (a % 39))).bits : Nat) : Int), .int .u32 ((Q3.of (Q3.opAt (a % 39))).most)] rfl rfl (by kernel_rfl) (by kernel_rfl) ?_
  refine E.To.code ?_
  refine E.C.seq ?_
  refine E.sr ?_
  refine E.op (.pointer (some ⟨g5, 1, none⟩)) ?_
  refine E.li (.bool ((Q3.of (Q3.opAt (a % 39))).d)) 0 rfl rfl ?_
  refine E.To.code ?_
  refine E.C.thencut [(1, .pointer (some ⟨g1, 0, none⟩)), (2, .pointer (some ⟨g2, 0, none⟩)), (4, .pointer (some ⟨g4, 0, none⟩)), (5, .pointer (some ⟨g5, 0, none⟩))] (fun _ => True) [(g5, [.bool ((Q3.of (Q3.opAt (a % 39))).is), .bool ((Q3.of (Q3.opAt (a % 39))).d), .bool ((Q3.of (Q3.opAt (a % 39))).a), .bool ((Q3.of (Q3.opAt (a % 39))).b), .bool ((Q3.of (Q3.opAt (a % 39))).sg), .int .i64 (((Q3.of (Q3.opAt (a % 39))).bits : Nat) : Int), .int .u32 ((Q3.of (Q3.opAt (a % 39))).most)]), (g4, [.int .i64 (Q3.opAt (a % 39)), .int .i64 (bif (Q3.of (Q3.opAt (a % 39))).d then (b % 16) else 0), .int .i64 0, .int .i64 0, .int .u32 0]), (g2, [.int .i64 0, .int .i64 0, .int .i64 0, .int .i64 0, .int .u32 0]), (g1, [.int .i64 a, .int .i64 b, .int .i64 c, .int .i64 x, .int .i64 y])] ?_ ?_
  · skip
    generalize hc6 : (Q3.of (Q3.opAt (a % 39))).d = b7
    cases b7
    · skip
      refine E.C.condF (by kernel_rfl) (by kernel_rfl) ?_
      exact E.C.skip (E.To.pst ⟨by kernel_rfl, by kernel_rfl⟩ (List.Sublist.refl _) (fun _ h => h))
    · skip
      refine E.C.condT (by kernel_rfl) (by kernel_rfl) ?_
      refine E.C.region ?_
      refine E.op (.pointer (some ⟨g1, 1, none⟩)) ?_
      refine E.li (.int .i64 b) 3 rfl rfl ?_
      refine E.G.call (.int .i64 (b % 16)) (fun w h => Mod_any b 16 hb (by decide) w) (fun w _ => by kernel_rfl) (by kernel_rfl) ?_
      refine E.op (.pointer (some ⟨g4, 1, none⟩)) ?_
      refine E.G.store 1 [.int .i64 (Q3.opAt (a % 39)), .int .i64 (b % 16), .int .i64 0, .int .i64 0, .int .u32 0] rfl rfl (by kernel_rfl) (by kernel_rfl) ?_
      exact E.To.pst ⟨by kernel_rfl, by kernel_rfl⟩ (List.Sublist.refl _) (fun _ h => h)
  refine E.C.seq ?_
  refine E.sr ?_
  refine E.op (.pointer (some ⟨g5, 2, none⟩)) ?_
  refine E.li (.bool ((Q3.of (Q3.opAt (a % 39))).a)) 0 rfl rfl ?_
  refine E.To.code ?_
  refine E.C.thencut [(1, .pointer (some ⟨g1, 0, none⟩)), (2, .pointer (some ⟨g2, 0, none⟩)), (4, .pointer (some ⟨g4, 0, none⟩)), (5, .pointer (some ⟨g5, 0, none⟩))] (fun _ => True) [(g5, [.bool ((Q3.of (Q3.opAt (a % 39))).is), .bool ((Q3.of (Q3.opAt (a % 39))).d), .bool ((Q3.of (Q3.opAt (a % 39))).a), .bool ((Q3.of (Q3.opAt (a % 39))).b), .bool ((Q3.of (Q3.opAt (a % 39))).sg), .int .i64 (((Q3.of (Q3.opAt (a % 39))).bits : Nat) : Int), .int .u32 ((Q3.of (Q3.opAt (a % 39))).most)]), (g4, [.int .i64 (Q3.opAt (a % 39)), .int .i64 (bif (Q3.of (Q3.opAt (a % 39))).d then (b % 16) else 0), .int .i64 (bif (Q3.of (Q3.opAt (a % 39))).a then (c % 16) else 0), .int .i64 0, .int .u32 0]), (g2, [.int .i64 0, .int .i64 0, .int .i64 0, .int .i64 0, .int .u32 0]), (g1, [.int .i64 a, .int .i64 b, .int .i64 c, .int .i64 x, .int .i64 y])] ?_ ?_
  · skip
    generalize hc8 : (Q3.of (Q3.opAt (a % 39))).a = b9
    cases b9
    · skip
      refine E.C.condF (by kernel_rfl) (by kernel_rfl) ?_
      exact E.C.skip (E.To.pst ⟨by kernel_rfl, by kernel_rfl⟩ (List.Sublist.refl _) (fun _ h => h))
    · skip
      refine E.C.condT (by kernel_rfl) (by kernel_rfl) ?_
      refine E.C.region ?_
      refine E.op (.pointer (some ⟨g1, 2, none⟩)) ?_
      refine E.li (.int .i64 c) 3 rfl rfl ?_
      refine E.G.call (.int .i64 (c % 16)) (fun w h => Mod_any c 16 hc (by decide) w) (fun w _ => by kernel_rfl) (by kernel_rfl) ?_
      refine E.op (.pointer (some ⟨g4, 2, none⟩)) ?_
      refine E.G.store 1 [.int .i64 (Q3.opAt (a % 39)), .int .i64 (bif (Q3.of (Q3.opAt (a % 39))).d then (b % 16) else 0), .int .i64 (c % 16), .int .i64 0, .int .u32 0] rfl rfl (by kernel_rfl) (by kernel_rfl) ?_
      exact E.To.pst ⟨by kernel_rfl, by kernel_rfl⟩ (List.Sublist.refl _) (fun _ h => h)
  refine E.C.seq ?_
  refine E.sr ?_
  refine E.op (.pointer (some ⟨g5, 3, none⟩)) ?_
  refine E.li (.bool ((Q3.of (Q3.opAt (a % 39))).b)) 0 rfl rfl ?_
  refine E.To.code ?_
  refine E.C.thencut [(1, .pointer (some ⟨g1, 0, none⟩)), (2, .pointer (some ⟨g2, 0, none⟩)), (4, .pointer (some ⟨g4, 0, none⟩)), (5, .pointer (some ⟨g5, 0, none⟩))] (fun _ => True) [(g5, [.bool ((Q3.of (Q3.opAt (a % 39))).is), .bool ((Q3.of (Q3.opAt (a % 39))).d), .bool ((Q3.of (Q3.opAt (a % 39))).a), .bool ((Q3.of (Q3.opAt (a % 39))).b), .bool ((Q3.of (Q3.opAt (a % 39))).sg), .int .i64 (((Q3.of (Q3.opAt (a % 39))).bits : Nat) : Int), .int .u32 ((Q3.of (Q3.opAt (a % 39))).most)]), (g4, [.int .i64 (Q3.opAt (a % 39)), .int .i64 (bif (Q3.of (Q3.opAt (a % 39))).d then (b % 16) else 0), .int .i64 (bif (Q3.of (Q3.opAt (a % 39))).a then (c % 16) else 0), .int .i64 (bif (Q3.of (Q3.opAt (a % 39))).b then (x % 16) else 0), .int .u32 0]), (g2, [.int .i64 0, .int .i64 0, .int .i64 0, .int .i64 0, .int .u32 0]), (g1, [.int .i64 a, .int .i64 b, .int .i64 c, .int .i64 x, .int .i64 y])] ?_ ?_
  · skip
    generalize hc10 : (Q3.of (Q3.opAt (a % 39))).b = b11
    cases b11
    · skip
      refine E.C.condF (by kernel_rfl) (by kernel_rfl) ?_
      exact E.C.skip (E.To.pst ⟨by kernel_rfl, by kernel_rfl⟩ (List.Sublist.refl _) (fun _ h => h))
    · skip
      refine E.C.condT (by kernel_rfl) (by kernel_rfl) ?_
      refine E.C.region ?_
      refine E.op (.pointer (some ⟨g1, 3, none⟩)) ?_
      refine E.li (.int .i64 x) 3 rfl rfl ?_
      refine E.G.call (.int .i64 (x % 16)) (fun w h => Mod_any x 16 hx (by decide) w) (fun w _ => by kernel_rfl) (by kernel_rfl) ?_
      refine E.op (.pointer (some ⟨g4, 3, none⟩)) ?_
      refine E.G.store 1 [.int .i64 (Q3.opAt (a % 39)), .int .i64 (bif (Q3.of (Q3.opAt (a % 39))).d then (b % 16) else 0), .int .i64 (bif (Q3.of (Q3.opAt (a % 39))).a then (c % 16) else 0), .int .i64 (x % 16), .int .u32 0] rfl rfl (by kernel_rfl) (by kernel_rfl) ?_
      exact E.To.pst ⟨by kernel_rfl, by kernel_rfl⟩ (List.Sublist.refl _) (fun _ h => h)
  refine E.C.seq ?_
  refine E.C.block ?_
  refine E.sr ?_
  refine E.op (.pointer (some ⟨g5, 6, none⟩)) ?_
  refine E.li (.int .u32 ((Q3.of (Q3.opAt (a % 39))).most)) 0 rfl rfl ?_
  refine E.op (.bool (decide (((Q3.of (Q3.opAt (a % 39))).most) > 0))) ?_
  refine E.op (.bool (decide (((Q3.of (Q3.opAt (a % 39))).most) > 0))) ?_
  refine E.To.code ?_
  refine E.C.cond (decide (((Q3.of (Q3.opAt (a % 39))).most) > 0)) (by kernel_rfl) (by kernel_rfl) (fun hc12 => ?_) (fun hc12 => ?_)
  · skip
    refine E.C.region ?_
    refine E.op (.pointer (some ⟨g1, 4, none⟩)) ?_
    refine E.li (.int .i64 y) 3 rfl rfl ?_
    refine E.op (.pointer (some ⟨g5, 6, none⟩)) ?_
    refine E.li (.int .u32 ((Q3.of (Q3.opAt (a % 39))).most)) 0 rfl rfl ?_
    refine E.op (.int .i64 (IntKind.wrap .i64 ((Q3.of (Q3.opAt (a % 39))).most))) ?_
    refine E.G.val (.int .i64 ((Q3.of (Q3.opAt (a % 39))).most + 1)) (by kernel_rfl) (fun w h => E.run_as (a := .int .i64 (IntKind.wrap .i64 ((IntKind.wrap .i64 ((Q3.of (Q3.opAt (a % 39))).most)) + 1))) (by kernel_rfl) (congrArg (Value.int .i64) (Q3.most1 (Q3.of_most _)))) ?_
    refine E.G.call (.int .i64 (y % ((Q3.of (Q3.opAt (a % 39))).most + 1))) (fun w h => Mod_any y ((Q3.of (Q3.opAt (a % 39))).most + 1) hy (by have hm := Q3.of_most (Q3.opAt (a % 39)); omega) w) (fun w _ => by kernel_rfl) (by kernel_rfl) ?_
    refine E.op (.int .u32 (IntKind.wrap .u32 (y % ((Q3.of (Q3.opAt (a % 39))).most + 1)))) ?_
    refine E.op (.pointer (some ⟨g4, 4, none⟩)) ?_
    refine E.G.store 1 [.int .i64 (Q3.opAt (a % 39)), .int .i64 (bif (Q3.of (Q3.opAt (a % 39))).d then (b % 16) else 0), .int .i64 (bif (Q3.of (Q3.opAt (a % 39))).a then (c % 16) else 0), .int .i64 (bif (Q3.of (Q3.opAt (a % 39))).b then (x % 16) else 0), .int .u32 (IntKind.wrap .u32 (y % ((Q3.of (Q3.opAt (a % 39))).most + 1)))] rfl rfl (by kernel_rfl) (by kernel_rfl) ?_
    refine E.P.nb (E.To.code ?_)
    refine E.C.weak [(2, .pointer (some ⟨g2, 0, none⟩)), (4, .pointer (some ⟨g4, 0, none⟩)), (5, .pointer (some ⟨g5, 0, none⟩))] [(g5, [.bool ((Q3.of (Q3.opAt (a % 39))).is), .bool ((Q3.of (Q3.opAt (a % 39))).d), .bool ((Q3.of (Q3.opAt (a % 39))).a), .bool ((Q3.of (Q3.opAt (a % 39))).b), .bool ((Q3.of (Q3.opAt (a % 39))).sg), .int .i64 (((Q3.of (Q3.opAt (a % 39))).bits : Nat) : Int), .int .u32 ((Q3.of (Q3.opAt (a % 39))).most)]), (g4, [.int .i64 (Q3.opAt (a % 39)), .int .i64 (bif (Q3.of (Q3.opAt (a % 39))).d then (b % 16) else 0), .int .i64 (bif (Q3.of (Q3.opAt (a % 39))).a then (c % 16) else 0), .int .i64 (bif (Q3.of (Q3.opAt (a % 39))).b then (x % 16) else 0), .int .u32 (IntKind.wrap .u32 (y % ((Q3.of (Q3.opAt (a % 39))).most + 1)))]), (g2, [.int .i64 0, .int .i64 0, .int .i64 0, .int .i64 0, .int .u32 0])] ⟨by kernel_rfl, by kernel_rfl⟩ (List.Sublist.cons_cons _ (List.Sublist.cons_cons _ (List.Sublist.cons_cons _ (List.nil_sublist _)))) ?_
    refine E.C.seq ?_
    refine E.sr ?_
    refine E.op (.pointer (some ⟨g5, 4, none⟩)) ?_
    refine E.li (.bool ((Q3.of (Q3.opAt (a % 39))).sg)) 0 rfl rfl ?_
    refine E.To.code ?_
    refine E.C.thencut [(2, .pointer (some ⟨g2, 0, none⟩)), (4, .pointer (some ⟨g4, 0, none⟩))] (fun _ => True) [(g5, [.bool ((Q3.of (Q3.opAt (a % 39))).is), .bool ((Q3.of (Q3.opAt (a % 39))).d), .bool ((Q3.of (Q3.opAt (a % 39))).a), .bool ((Q3.of (Q3.opAt (a % 39))).b), .bool ((Q3.of (Q3.opAt (a % 39))).sg), .int .i64 (((Q3.of (Q3.opAt (a % 39))).bits : Nat) : Int), .int .u32 ((Q3.of (Q3.opAt (a % 39))).most)]), (g4, [.int .i64 (Q3.opAt (a % 39)), .int .i64 (bif (Q3.of (Q3.opAt (a % 39))).d then (b % 16) else 0), .int .i64 (bif (Q3.of (Q3.opAt (a % 39))).a then (c % 16) else 0), .int .i64 (bif (Q3.of (Q3.opAt (a % 39))).b then (x % 16) else 0), .int .u32 (bif (Q3.of (Q3.opAt (a % 39))).sg then (W.sign (IntKind.wrap .u32 (y % ((Q3.of (Q3.opAt (a % 39))).most + 1))) (((Q3.of (Q3.opAt (a % 39))).bits : Nat) : Int)) else (IntKind.wrap .u32 (y % ((Q3.of (Q3.opAt (a % 39))).most + 1))))]), (g2, [.int .i64 0, .int .i64 0, .int .i64 0, .int .i64 0, .int .u32 0])] ?_ ?_
    · skip
      generalize hc13 : (Q3.of (Q3.opAt (a % 39))).sg = b14
      cases b14
      · skip
        refine E.C.condF (by kernel_rfl) (by kernel_rfl) ?_
        exact E.C.skip (E.To.pst ⟨by kernel_rfl, by kernel_rfl⟩ (List.Sublist.refl _) (fun _ h => h))
      · skip
        refine E.C.condT (by kernel_rfl) (by kernel_rfl) ?_
        refine E.C.region ?_
        refine E.op (.pointer (some ⟨g4, 4, none⟩)) ?_
        refine E.li (.int .u32 (IntKind.wrap .u32 (y % ((Q3.of (Q3.opAt (a % 39))).most + 1)))) 1 rfl rfl ?_
        refine E.op (.pointer (some ⟨g5, 5, none⟩)) ?_
        refine E.li (.int .i64 (((Q3.of (Q3.opAt (a % 39))).bits : Nat) : Int)) 0 rfl rfl ?_
        refine E.G.call (.int .u32 (W.sign (IntKind.wrap .u32 (y % ((Q3.of (Q3.opAt (a % 39))).most + 1))) (((Q3.of (Q3.opAt (a % 39))).bits : Nat) : Int))) (fun w h => rSign_any (IntKind.wrap .u32 (y % ((Q3.of (Q3.opAt (a % 39))).most + 1))) (((Q3.of (Q3.opAt (a % 39))).bits : Nat) : Int) (Q.wrap_bd _).1 (Q.wrap_bd _).2 (by omega) (by omega) w) (fun w _ => by kernel_rfl) (by kernel_rfl) ?_
        refine E.op (.pointer (some ⟨g4, 4, none⟩)) ?_
        refine E.G.store 1 [.int .i64 (Q3.opAt (a % 39)), .int .i64 (bif (Q3.of (Q3.opAt (a % 39))).d then (b % 16) else 0), .int .i64 (bif (Q3.of (Q3.opAt (a % 39))).a then (c % 16) else 0), .int .i64 (bif (Q3.of (Q3.opAt (a % 39))).b then (x % 16) else 0), .int .u32 (W.sign (IntKind.wrap .u32 (y % ((Q3.of (Q3.opAt (a % 39))).most + 1))) (((Q3.of (Q3.opAt (a % 39))).bits : Nat) : Int))] rfl rfl (by kernel_rfl) (by kernel_rfl) ?_
        exact E.To.pst ⟨by kernel_rfl, by kernel_rfl⟩ (List.Sublist.refl _) (fun _ h => h)
    refine E.sr ?_
    refine E.li (.agg #[.int .i64 (Q3.opAt (a % 39)), .int .i64 (bif (Q3.of (Q3.opAt (a % 39))).d then (b % 16) else 0), .int .i64 (bif (Q3.of (Q3.opAt (a % 39))).a then (c % 16) else 0), .int .i64 (bif (Q3.of (Q3.opAt (a % 39))).b then (x % 16) else 0), .int .u32 (bif (Q3.of (Q3.opAt (a % 39))).sg then (W.sign (IntKind.wrap .u32 (y % ((Q3.of (Q3.opAt (a % 39))).most + 1))) (((Q3.of (Q3.opAt (a % 39))).bits : Nat) : Int)) else (IntKind.wrap .u32 (y % ((Q3.of (Q3.opAt (a % 39))).most + 1))))]) 1 rfl rfl ?_
    refine E.G.store 2 [.int .i64 (Q3.opAt (a % 39)), .int .i64 (bif (Q3.of (Q3.opAt (a % 39))).d then (b % 16) else 0), .int .i64 (bif (Q3.of (Q3.opAt (a % 39))).a then (c % 16) else 0), .int .i64 (bif (Q3.of (Q3.opAt (a % 39))).b then (x % 16) else 0), .int .u32 (bif (Q3.of (Q3.opAt (a % 39))).sg then (W.sign (IntKind.wrap .u32 (y % ((Q3.of (Q3.opAt (a % 39))).most + 1))) (((Q3.of (Q3.opAt (a % 39))).bits : Nat) : Int)) else (IntKind.wrap .u32 (y % ((Q3.of (Q3.opAt (a % 39))).most + 1))))] rfl rfl (by kernel_rfl) (by kernel_rfl) ?_
    refine E.To.code ?_
    refine E.C.ret (E.To.body (fn := Try.f18) [.agg #[.int .i64 (Q3.opAt (a % 39)), .int .i64 (bif (Q3.of (Q3.opAt (a % 39))).d then (b % 16) else 0), .int .i64 (bif (Q3.of (Q3.opAt (a % 39))).a then (c % 16) else 0), .int .i64 (bif (Q3.of (Q3.opAt (a % 39))).b then (x % 16) else 0), .int .u32 (bif (Q3.of (Q3.opAt (a % 39))).sg then (W.sign (IntKind.wrap .u32 (y % ((Q3.of (Q3.opAt (a % 39))).most + 1))) (((Q3.of (Q3.opAt (a % 39))).bits : Nat) : Int)) else (IntKind.wrap .u32 (y % ((Q3.of (Q3.opAt (a % 39))).most + 1))))]] ?_ ?_)
    · exact ⟨⟨by kernel_rfl, _, _, 2, _, rfl, rfl, by kernel_rfl⟩, trivial⟩
    · intro w h
      exact ⟨by show Ending.returned (.agg #[.int .i64 (Q3.opAt (a % 39)), .int .i64 (bif (Q3.of (Q3.opAt (a % 39))).d then (b % 16) else 0), .int .i64 (bif (Q3.of (Q3.opAt (a % 39))).a then (c % 16) else 0), .int .i64 (bif (Q3.of (Q3.opAt (a % 39))).b then (x % 16) else 0), .int .u32 (bif (Q3.of (Q3.opAt (a % 39))).sg then (W.sign (IntKind.wrap .u32 (y % ((Q3.of (Q3.opAt (a % 39))).most + 1))) (((Q3.of (Q3.opAt (a % 39))).bits : Nat) : Int)) else (IntKind.wrap .u32 (y % ((Q3.of (Q3.opAt (a % 39))).most + 1))))]) = _; unfold Q3.made; rw [hc12, cond_true] <;> rfl, h.ch.bel (fun _ h => h.elim)⟩
  · skip
    refine E.sr ?_
    refine E.op (.pointer (some ⟨g5, 5, none⟩)) ?_
    refine E.li (.int .i64 (((Q3.of (Q3.opAt (a % 39))).bits : Nat) : Int)) 0 rfl rfl ?_
    refine E.op (.bool (decide ((((Q3.of (Q3.opAt (a % 39))).bits : Nat) : Int) > 0))) ?_
    refine E.op (.bool (decide ((((Q3.of (Q3.opAt (a % 39))).bits : Nat) : Int) > 0))) ?_
    refine E.To.code ?_
    refine E.C.cond (decide ((((Q3.of (Q3.opAt (a % 39))).bits : Nat) : Int) > 0)) (by kernel_rfl) (by kernel_rfl) (fun hc15 => ?_) (fun hc15 => ?_)
    · skip
      refine E.C.region ?_
      refine E.op (.pointer (some ⟨g1, 4, none⟩)) ?_
      refine E.li (.int .i64 y) 3 rfl rfl ?_
      refine E.op (.pointer (some ⟨g5, 5, none⟩)) ?_
      refine E.li (.int .i64 (((Q3.of (Q3.opAt (a % 39))).bits : Nat) : Int)) 0 rfl rfl ?_
      refine E.G.val (.int .u64 (((Q3.of (Q3.opAt (a % 39))).bits : Nat) : Int)) (by kernel_rfl) (fun w h => E.run_as (a := .int .u64 (IntKind.wrap .u64 (((Q3.of (Q3.opAt (a % 39))).bits : Nat) : Int))) (by kernel_rfl) (congrArg (Value.int .u64) (Q.w64u (by omega)))) ?_
      refine E.G.val (.int .i64 (Q3.two (Q3.of (Q3.opAt (a % 39))).bits)) (by kernel_rfl) (fun w h => E.run_as (a := .int .i64 (IntKind.wrap .i64 (1 * 2 ^ (min ((Q3.of (Q3.opAt (a % 39))).bits) 64)))) (E.shlN (k2 := .u64) 1 ((Q3.of (Q3.opAt (a % 39))).bits) 64 (by rfl) (by kernel_rfl) (by kernel_rfl) w) (congrArg (Value.int .i64) (Q3.two_eq (Q3.of_bits _)))) ?_
      refine E.G.call (.int .i64 (y % (Q3.two (Q3.of (Q3.opAt (a % 39))).bits))) (fun w h => Mod_any y (Q3.two (Q3.of (Q3.opAt (a % 39))).bits) hy (Q3.two_bd (Q3.of_bits _)) w) (fun w _ => by kernel_rfl) (by kernel_rfl) ?_
      refine E.op (.int .u32 (IntKind.wrap .u32 (y % (Q3.two (Q3.of (Q3.opAt (a % 39))).bits)))) ?_
      refine E.op (.pointer (some ⟨g4, 4, none⟩)) ?_
      refine E.G.store 1 [.int .i64 (Q3.opAt (a % 39)), .int .i64 (bif (Q3.of (Q3.opAt (a % 39))).d then (b % 16) else 0), .int .i64 (bif (Q3.of (Q3.opAt (a % 39))).a then (c % 16) else 0), .int .i64 (bif (Q3.of (Q3.opAt (a % 39))).b then (x % 16) else 0), .int .u32 (IntKind.wrap .u32 (y % (Q3.two (Q3.of (Q3.opAt (a % 39))).bits)))] rfl rfl (by kernel_rfl) (by kernel_rfl) ?_
      refine E.P.nb (E.To.code ?_)
      refine E.C.weak [(2, .pointer (some ⟨g2, 0, none⟩)), (4, .pointer (some ⟨g4, 0, none⟩)), (5, .pointer (some ⟨g5, 0, none⟩))] [(g5, [.bool ((Q3.of (Q3.opAt (a % 39))).is), .bool ((Q3.of (Q3.opAt (a % 39))).d), .bool ((Q3.of (Q3.opAt (a % 39))).a), .bool ((Q3.of (Q3.opAt (a % 39))).b), .bool ((Q3.of (Q3.opAt (a % 39))).sg), .int .i64 (((Q3.of (Q3.opAt (a % 39))).bits : Nat) : Int), .int .u32 ((Q3.of (Q3.opAt (a % 39))).most)]), (g4, [.int .i64 (Q3.opAt (a % 39)), .int .i64 (bif (Q3.of (Q3.opAt (a % 39))).d then (b % 16) else 0), .int .i64 (bif (Q3.of (Q3.opAt (a % 39))).a then (c % 16) else 0), .int .i64 (bif (Q3.of (Q3.opAt (a % 39))).b then (x % 16) else 0), .int .u32 (IntKind.wrap .u32 (y % (Q3.two (Q3.of (Q3.opAt (a % 39))).bits)))]), (g2, [.int .i64 0, .int .i64 0, .int .i64 0, .int .i64 0, .int .u32 0])] ⟨by kernel_rfl, by kernel_rfl⟩ (List.Sublist.cons_cons _ (List.Sublist.cons_cons _ (List.Sublist.cons_cons _ (List.nil_sublist _)))) ?_
      refine E.C.seq ?_
      refine E.sr ?_
      refine E.op (.pointer (some ⟨g5, 4, none⟩)) ?_
      refine E.li (.bool ((Q3.of (Q3.opAt (a % 39))).sg)) 0 rfl rfl ?_
      refine E.To.code ?_
      refine E.C.thencut [(2, .pointer (some ⟨g2, 0, none⟩)), (4, .pointer (some ⟨g4, 0, none⟩))] (fun _ => True) [(g5, [.bool ((Q3.of (Q3.opAt (a % 39))).is), .bool ((Q3.of (Q3.opAt (a % 39))).d), .bool ((Q3.of (Q3.opAt (a % 39))).a), .bool ((Q3.of (Q3.opAt (a % 39))).b), .bool ((Q3.of (Q3.opAt (a % 39))).sg), .int .i64 (((Q3.of (Q3.opAt (a % 39))).bits : Nat) : Int), .int .u32 ((Q3.of (Q3.opAt (a % 39))).most)]), (g4, [.int .i64 (Q3.opAt (a % 39)), .int .i64 (bif (Q3.of (Q3.opAt (a % 39))).d then (b % 16) else 0), .int .i64 (bif (Q3.of (Q3.opAt (a % 39))).a then (c % 16) else 0), .int .i64 (bif (Q3.of (Q3.opAt (a % 39))).b then (x % 16) else 0), .int .u32 (bif (Q3.of (Q3.opAt (a % 39))).sg then (W.sign (IntKind.wrap .u32 (y % (Q3.two (Q3.of (Q3.opAt (a % 39))).bits))) (((Q3.of (Q3.opAt (a % 39))).bits : Nat) : Int)) else (IntKind.wrap .u32 (y % (Q3.two (Q3.of (Q3.opAt (a % 39))).bits))))]), (g2, [.int .i64 0, .int .i64 0, .int .i64 0, .int .i64 0, .int .u32 0])] ?_ ?_
      · skip
        generalize hc16 : (Q3.of (Q3.opAt (a % 39))).sg = b17
        cases b17
        · skip
          refine E.C.condF (by kernel_rfl) (by kernel_rfl) ?_
          exact E.C.skip (E.To.pst ⟨by kernel_rfl, by kernel_rfl⟩ (List.Sublist.refl _) (fun _ h => h))
        · skip
          refine E.C.condT (by kernel_rfl) (by kernel_rfl) ?_
          refine E.C.region ?_
          refine E.op (.pointer (some ⟨g4, 4, none⟩)) ?_
          refine E.li (.int .u32 (IntKind.wrap .u32 (y % (Q3.two (Q3.of (Q3.opAt (a % 39))).bits)))) 1 rfl rfl ?_
          refine E.op (.pointer (some ⟨g5, 5, none⟩)) ?_
          refine E.li (.int .i64 (((Q3.of (Q3.opAt (a % 39))).bits : Nat) : Int)) 0 rfl rfl ?_
          refine E.G.call (.int .u32 (W.sign (IntKind.wrap .u32 (y % (Q3.two (Q3.of (Q3.opAt (a % 39))).bits))) (((Q3.of (Q3.opAt (a % 39))).bits : Nat) : Int))) (fun w h => rSign_any (IntKind.wrap .u32 (y % (Q3.two (Q3.of (Q3.opAt (a % 39))).bits))) (((Q3.of (Q3.opAt (a % 39))).bits : Nat) : Int) (Q.wrap_bd _).1 (Q.wrap_bd _).2 (by omega) (by omega) w) (fun w _ => by kernel_rfl) (by kernel_rfl) ?_
          refine E.op (.pointer (some ⟨g4, 4, none⟩)) ?_
          refine E.G.store 1 [.int .i64 (Q3.opAt (a % 39)), .int .i64 (bif (Q3.of (Q3.opAt (a % 39))).d then (b % 16) else 0), .int .i64 (bif (Q3.of (Q3.opAt (a % 39))).a then (c % 16) else 0), .int .i64 (bif (Q3.of (Q3.opAt (a % 39))).b then (x % 16) else 0), .int .u32 (W.sign (IntKind.wrap .u32 (y % (Q3.two (Q3.of (Q3.opAt (a % 39))).bits))) (((Q3.of (Q3.opAt (a % 39))).bits : Nat) : Int))] rfl rfl (by kernel_rfl) (by kernel_rfl) ?_
          exact E.To.pst ⟨by kernel_rfl, by kernel_rfl⟩ (List.Sublist.refl _) (fun _ h => h)
      refine E.sr ?_
      refine E.li (.agg #[.int .i64 (Q3.opAt (a % 39)), .int .i64 (bif (Q3.of (Q3.opAt (a % 39))).d then (b % 16) else 0), .int .i64 (bif (Q3.of (Q3.opAt (a % 39))).a then (c % 16) else 0), .int .i64 (bif (Q3.of (Q3.opAt (a % 39))).b then (x % 16) else 0), .int .u32 (bif (Q3.of (Q3.opAt (a % 39))).sg then (W.sign (IntKind.wrap .u32 (y % (Q3.two (Q3.of (Q3.opAt (a % 39))).bits))) (((Q3.of (Q3.opAt (a % 39))).bits : Nat) : Int)) else (IntKind.wrap .u32 (y % (Q3.two (Q3.of (Q3.opAt (a % 39))).bits))))]) 1 rfl rfl ?_
      refine E.G.store 2 [.int .i64 (Q3.opAt (a % 39)), .int .i64 (bif (Q3.of (Q3.opAt (a % 39))).d then (b % 16) else 0), .int .i64 (bif (Q3.of (Q3.opAt (a % 39))).a then (c % 16) else 0), .int .i64 (bif (Q3.of (Q3.opAt (a % 39))).b then (x % 16) else 0), .int .u32 (bif (Q3.of (Q3.opAt (a % 39))).sg then (W.sign (IntKind.wrap .u32 (y % (Q3.two (Q3.of (Q3.opAt (a % 39))).bits))) (((Q3.of (Q3.opAt (a % 39))).bits : Nat) : Int)) else (IntKind.wrap .u32 (y % (Q3.two (Q3.of (Q3.opAt (a % 39))).bits))))] rfl rfl (by kernel_rfl) (by kernel_rfl) ?_
      refine E.To.code ?_
      refine E.C.ret (E.To.body (fn := Try.f18) [.agg #[.int .i64 (Q3.opAt (a % 39)), .int .i64 (bif (Q3.of (Q3.opAt (a % 39))).d then (b % 16) else 0), .int .i64 (bif (Q3.of (Q3.opAt (a % 39))).a then (c % 16) else 0), .int .i64 (bif (Q3.of (Q3.opAt (a % 39))).b then (x % 16) else 0), .int .u32 (bif (Q3.of (Q3.opAt (a % 39))).sg then (W.sign (IntKind.wrap .u32 (y % (Q3.two (Q3.of (Q3.opAt (a % 39))).bits))) (((Q3.of (Q3.opAt (a % 39))).bits : Nat) : Int)) else (IntKind.wrap .u32 (y % (Q3.two (Q3.of (Q3.opAt (a % 39))).bits))))]] ?_ ?_)
      · exact ⟨⟨by kernel_rfl, _, _, 2, _, rfl, rfl, by kernel_rfl⟩, trivial⟩
      · intro w h
        exact ⟨by show Ending.returned (.agg #[.int .i64 (Q3.opAt (a % 39)), .int .i64 (bif (Q3.of (Q3.opAt (a % 39))).d then (b % 16) else 0), .int .i64 (bif (Q3.of (Q3.opAt (a % 39))).a then (c % 16) else 0), .int .i64 (bif (Q3.of (Q3.opAt (a % 39))).b then (x % 16) else 0), .int .u32 (bif (Q3.of (Q3.opAt (a % 39))).sg then (W.sign (IntKind.wrap .u32 (y % (Q3.two (Q3.of (Q3.opAt (a % 39))).bits))) (((Q3.of (Q3.opAt (a % 39))).bits : Nat) : Int)) else (IntKind.wrap .u32 (y % (Q3.two (Q3.of (Q3.opAt (a % 39))).bits))))]) = _; unfold Q3.made; rw [hc12, cond_false, hc15, cond_true] <;> rfl, h.ch.bel (fun _ h => h.elim)⟩
    · skip
      refine E.C.skip (E.P.nb (E.To.code ?_))
      refine E.C.weak [(2, .pointer (some ⟨g2, 0, none⟩)), (4, .pointer (some ⟨g4, 0, none⟩)), (5, .pointer (some ⟨g5, 0, none⟩))] [(g5, [.bool ((Q3.of (Q3.opAt (a % 39))).is), .bool ((Q3.of (Q3.opAt (a % 39))).d), .bool ((Q3.of (Q3.opAt (a % 39))).a), .bool ((Q3.of (Q3.opAt (a % 39))).b), .bool ((Q3.of (Q3.opAt (a % 39))).sg), .int .i64 (((Q3.of (Q3.opAt (a % 39))).bits : Nat) : Int), .int .u32 ((Q3.of (Q3.opAt (a % 39))).most)]), (g4, [.int .i64 (Q3.opAt (a % 39)), .int .i64 (bif (Q3.of (Q3.opAt (a % 39))).d then (b % 16) else 0), .int .i64 (bif (Q3.of (Q3.opAt (a % 39))).a then (c % 16) else 0), .int .i64 (bif (Q3.of (Q3.opAt (a % 39))).b then (x % 16) else 0), .int .u32 0]), (g2, [.int .i64 0, .int .i64 0, .int .i64 0, .int .i64 0, .int .u32 0])] ⟨by kernel_rfl, by kernel_rfl⟩ (List.Sublist.cons_cons _ (List.Sublist.cons_cons _ (List.Sublist.cons_cons _ (List.nil_sublist _)))) ?_
      refine E.C.seq ?_
      refine E.sr ?_
      refine E.op (.pointer (some ⟨g5, 4, none⟩)) ?_
      refine E.li (.bool ((Q3.of (Q3.opAt (a % 39))).sg)) 0 rfl rfl ?_
      refine E.To.code ?_
      refine E.C.thencut [(2, .pointer (some ⟨g2, 0, none⟩)), (4, .pointer (some ⟨g4, 0, none⟩))] (fun _ => True) [(g5, [.bool ((Q3.of (Q3.opAt (a % 39))).is), .bool ((Q3.of (Q3.opAt (a % 39))).d), .bool ((Q3.of (Q3.opAt (a % 39))).a), .bool ((Q3.of (Q3.opAt (a % 39))).b), .bool ((Q3.of (Q3.opAt (a % 39))).sg), .int .i64 (((Q3.of (Q3.opAt (a % 39))).bits : Nat) : Int), .int .u32 ((Q3.of (Q3.opAt (a % 39))).most)]), (g4, [.int .i64 (Q3.opAt (a % 39)), .int .i64 (bif (Q3.of (Q3.opAt (a % 39))).d then (b % 16) else 0), .int .i64 (bif (Q3.of (Q3.opAt (a % 39))).a then (c % 16) else 0), .int .i64 (bif (Q3.of (Q3.opAt (a % 39))).b then (x % 16) else 0), .int .u32 (bif (Q3.of (Q3.opAt (a % 39))).sg then (W.sign 0 (((Q3.of (Q3.opAt (a % 39))).bits : Nat) : Int)) else 0)]), (g2, [.int .i64 0, .int .i64 0, .int .i64 0, .int .i64 0, .int .u32 0])] ?_ ?_
      · skip
        generalize hc18 : (Q3.of (Q3.opAt (a % 39))).sg = b19
        cases b19
        · skip
          refine E.C.condF (by kernel_rfl) (by kernel_rfl) ?_
          exact E.C.skip (E.To.pst ⟨by kernel_rfl, by kernel_rfl⟩ (List.Sublist.refl _) (fun _ h => h))
        · skip
          refine E.C.condT (by kernel_rfl) (by kernel_rfl) ?_
          refine E.C.region ?_
          refine E.op (.pointer (some ⟨g4, 4, none⟩)) ?_
          refine E.li (.int .u32 0) 1 rfl rfl ?_
          refine E.op (.pointer (some ⟨g5, 5, none⟩)) ?_
          refine E.li (.int .i64 (((Q3.of (Q3.opAt (a % 39))).bits : Nat) : Int)) 0 rfl rfl ?_
          refine E.G.call (.int .u32 (W.sign 0 (((Q3.of (Q3.opAt (a % 39))).bits : Nat) : Int))) (fun w h => rSign_any 0 (((Q3.of (Q3.opAt (a % 39))).bits : Nat) : Int) (show (0 : Int) ≤ 0 ∧ (0 : Int) < 4294967296 by decide).1 (show (0 : Int) ≤ 0 ∧ (0 : Int) < 4294967296 by decide).2 (by omega) (by omega) w) (fun w _ => by kernel_rfl) (by kernel_rfl) ?_
          refine E.op (.pointer (some ⟨g4, 4, none⟩)) ?_
          refine E.G.store 1 [.int .i64 (Q3.opAt (a % 39)), .int .i64 (bif (Q3.of (Q3.opAt (a % 39))).d then (b % 16) else 0), .int .i64 (bif (Q3.of (Q3.opAt (a % 39))).a then (c % 16) else 0), .int .i64 (bif (Q3.of (Q3.opAt (a % 39))).b then (x % 16) else 0), .int .u32 (W.sign 0 (((Q3.of (Q3.opAt (a % 39))).bits : Nat) : Int))] rfl rfl (by kernel_rfl) (by kernel_rfl) ?_
          exact E.To.pst ⟨by kernel_rfl, by kernel_rfl⟩ (List.Sublist.refl _) (fun _ h => h)
      refine E.sr ?_
      refine E.li (.agg #[.int .i64 (Q3.opAt (a % 39)), .int .i64 (bif (Q3.of (Q3.opAt (a % 39))).d then (b % 16) else 0), .int .i64 (bif (Q3.of (Q3.opAt (a % 39))).a then (c % 16) else 0), .int .i64 (bif (Q3.of (Q3.opAt (a % 39))).b then (x % 16) else 0), .int .u32 (bif (Q3.of (Q3.opAt (a % 39))).sg then (W.sign 0 (((Q3.of (Q3.opAt (a % 39))).bits : Nat) : Int)) else 0)]) 1 rfl rfl ?_
      refine E.G.store 2 [.int .i64 (Q3.opAt (a % 39)), .int .i64 (bif (Q3.of (Q3.opAt (a % 39))).d then (b % 16) else 0), .int .i64 (bif (Q3.of (Q3.opAt (a % 39))).a then (c % 16) else 0), .int .i64 (bif (Q3.of (Q3.opAt (a % 39))).b then (x % 16) else 0), .int .u32 (bif (Q3.of (Q3.opAt (a % 39))).sg then (W.sign 0 (((Q3.of (Q3.opAt (a % 39))).bits : Nat) : Int)) else 0)] rfl rfl (by kernel_rfl) (by kernel_rfl) ?_
      refine E.To.code ?_
      refine E.C.ret (E.To.body (fn := Try.f18) [.agg #[.int .i64 (Q3.opAt (a % 39)), .int .i64 (bif (Q3.of (Q3.opAt (a % 39))).d then (b % 16) else 0), .int .i64 (bif (Q3.of (Q3.opAt (a % 39))).a then (c % 16) else 0), .int .i64 (bif (Q3.of (Q3.opAt (a % 39))).b then (x % 16) else 0), .int .u32 (bif (Q3.of (Q3.opAt (a % 39))).sg then (W.sign 0 (((Q3.of (Q3.opAt (a % 39))).bits : Nat) : Int)) else 0)]] ?_ ?_)
      · exact ⟨⟨by kernel_rfl, _, _, 2, _, rfl, rfl, by kernel_rfl⟩, trivial⟩
      · intro w h
        exact ⟨by show Ending.returned (.agg #[.int .i64 (Q3.opAt (a % 39)), .int .i64 (bif (Q3.of (Q3.opAt (a % 39))).d then (b % 16) else 0), .int .i64 (bif (Q3.of (Q3.opAt (a % 39))).a then (c % 16) else 0), .int .i64 (bif (Q3.of (Q3.opAt (a % 39))).b then (x % 16) else 0), .int .u32 (bif (Q3.of (Q3.opAt (a % 39))).sg then (W.sign 0 (((Q3.of (Q3.opAt (a % 39))).bits : Nat) : Int)) else 0)]) = _; unfold Q3.made; rw [hc12, cond_false, hc15, cond_false] <;> rfl, h.ch.bel (fun _ h => h.elim)⟩
end Go.Proofs.Ytgbndbljohpnmaa

/- XQo -/
namespace Go.Proofs.Ytgbndbljohpnmaa
set_option linter.unusedVariables false
set_option linter.unusedSimpArgs false
open Go.RowKit
theorem E.api_Trap_eql {fr : E.Fr} {x y : Operand} {u T : TypeId} {d : Option Nat} {pos : String} {af : Array Edge} {gd : Option (Nat × Bool)} {a0 a1 b0 b1 : Int} {w : World}
    (hx : E.ev fr x = .agg #[.int .i64 a0, .int .u32 a1]) (hy : E.ev fr y = .agg #[.int .i64 b0, .int .u32 b1]) :
    (execOp (E.ev fr) ⟨d, .binOp .eql 51 x y u, T, pos, af, gd⟩).run Try.prog w = .ok (.value (.bool (a0 == b0 && a1 == b1))) w := by
  show (do let r ← (do eqGuard .eql 51 x y (E.ev fr x) (E.ev fr y); binOp .eql 51 (E.ev fr x) (E.ev fr y)); pure (Next.value r) : Sem Next).run Try.prog w = _
  rw [hx, hy]
  go_simp
  (repeat' split) <;> simp_all
end Go.Proofs.Ytgbndbljohpnmaa

/- XWm -/
namespace Go.Proofs.Ytgbndbljohpnmaa
set_option linter.unusedVariables false
set_option linter.unusedSimpArgs false
open Go.RowKit
theorem conv1 (w : World) (x : Int) : (convert 97 9 (.slice (some ⟨w.heap.size, 0, none⟩) 1 1)).run Try.prog (w.alloc (.cells #[.int .u8 x] 5)) = .ok (.string (strOfNums [x])) (w.alloc (.cells #[.int .u8 x] 5)) := by
  refine run_convert_bytes_arg _ _ _ Try.underlying97 Try.underlying5 _ 0 1 1 [x] rfl ?_ _ Try.underlying9
  intro i hi
  obtain rfl : i = 0 := by omega
  rw [Nat.zero_add, World.cell?_alloc_mark]; rfl
theorem put_step (n : Int) (k : Nat) (hk : k < 4) : W.put n k ++ strOfNums [n / 2 ^ (8 * k) % 256] = W.put n (k + 1 : Nat) := by
  unfold W.put
  rw [show (max 0 (min (k : Int) 4)).toNat = k by omega, show (max 0 (min ((k + 1 : Nat) : Int) 4)).toNat = k + 1 by omega]
  rcases (by omega : k = 0 ∨ k = 1 ∨ k = 2 ∨ k = 3) with rfl | rfl | rfl | rfl <;> simp [W.bytes4, strOfNums] <;> rfl
theorem rPut_any (n k : Int) (h0 : 0 ≤ n) (h1 : n < 4294967296) (k0 : -9223372036854775808 ≤ k) (k1 : k ≤ 9223372036854775807) (w : World) :
    Calls Try.prog 24 #[.int .u32 n, .int .i64 k] w fun e w' => e = .returned (.string (W.put n k)) ∧ Bel w w' := by
  have hcv := conv1
  go_enter Try.func24, Try.ntmps24
  go_wp2
  go_loopw [5, 6] (fun s i wr => ∃ m : Nat, m ≤ 4 ∧ (m = 0 ∨ m ≤ k) ∧ i = .int .i64 m ∧ s = .string (W.put n m) ∧ Bel w wr) (fun _ i _ => 4 - (intOf i).toNat)
  case atStart => exact ⟨0, by omega, by omega, rfl, rfl, (by repeat (first | assumption | exact Bel.refl _ | refine Bel.drew ?_ | refine Bel.drewN ?_ _ | refine Bel.alloc ?_ _ | (refine Bel.trans ?_ (by assumption)) | (refine Bel.then ?_ (by assumption) (by intro x hx; first | (subst hx; simp; done) | (simp at *; omega)))))⟩
  case round =>
    obtain ⟨m, hm, hm2, rfl, rfl, hb⟩ := hrel
    by_cases c1 : m < k
    · by_cases c2 : m < 4
      · have HS := hid (put_step n m c2)
        have z1 : (strOfNums [n / 2 ^ (8 * m) % 256]).size = 1 := by rw [strOfNums_size]; rfl
        have z2 : (W.put n m).size = m := by have := W.put_size n m (by omega) (by omega); omega
        go_wp2
        go_roundw
        case rel => exact ⟨m + 1, by omega, by omega, by go_num, by rw [← HS.out], (by repeat (first | assumption | exact Bel.refl _ | refine Bel.drew ?_ | refine Bel.drewN ?_ _ | refine Bel.alloc ?_ _ | (refine Bel.trans ?_ (by assumption)) | (refine Bel.then ?_ (by assumption) (by intro x hx; first | (subst hx; simp; done) | (simp at *; omega)))))⟩
        case measure => simp [intOf]; omega
      · have HS := hid (show W.put n m = W.put n k by unfold W.put; rw [show (max 0 (min (m : Int) 4)).toNat = (max 0 (min k 4)).toNat by omega])
        go_wp2
        go_ret
        exact ⟨by rw [← HS.out]; rfl, (by repeat (first | assumption | exact Bel.refl _ | refine Bel.drew ?_ | refine Bel.drewN ?_ _ | refine Bel.alloc ?_ _ | (refine Bel.trans ?_ (by assumption)) | (refine Bel.then ?_ (by assumption) (by intro x hx; first | (subst hx; simp; done) | (simp at *; omega)))))⟩
    · have HS := hid (show W.put n m = W.put n k by unfold W.put; rw [show (max 0 (min (m : Int) 4)).toNat = (max 0 (min k 4)).toNat by omega])
      go_wp2
      go_ret
      exact ⟨by rw [← HS.out]; rfl, (by repeat (first | assumption | exact Bel.refl _ | refine Bel.drew ?_ | refine Bel.drewN ?_ _ | refine Bel.alloc ?_ _ | (refine Bel.trans ?_ (by assumption)) | (refine Bel.then ?_ (by assumption) (by intro x hx; first | (subst hx; simp; done) | (simp at *; omega)))))⟩
end Go.Proofs.Ytgbndbljohpnmaa

/- XQp -/
namespace Go.Proofs.Ytgbndbljohpnmaa
set_option linter.unusedVariables false
set_option linter.unusedSimpArgs false
open Go.RowKit
theorem Q.z0_wf : Q.wf Q.z0 := ⟨by decide, fun _ => by show (0 : Int) ≤ 0 ∧ (0 : Int) < 4294967296; decide, fun _ => by show (0 : Int) ≤ 0 ∧ (0 : Int) < 4294967296; decide⟩
theorem Q.norm_wf {s : Q.S} (h : Q.wf s) : Q.wf (Q.norm s) := ⟨h.pc, Q.up_bd h.r (by decide), h.c⟩
theorem Q.run_wf {most : Int} : ∀ (f n : Nat) {s : Q.S} {V : M.V}, Q.wf s → R.Wf V → Q.wf (Q.run most f n s V).1 ∧ R.Wf (Q.run most f n s V).2.2.2
  | 0, _, _, _, hs, hV => ⟨hs, hV⟩
  | f + 1, n, s, V, hs, hV => by
    have h1 := Q.step_wf hs hV
    rw [Q.run]
    refine Q.bifP (p := fun x : Q.S × Int × Int × M.V => Q.wf x.1 ∧ R.Wf x.2.2.2) (fun _ => ⟨hs, hV⟩) fun _ => Q.bifP (p := fun x : Q.S × Int × Int × M.V => Q.wf x.1 ∧ R.Wf x.2.2.2) (fun _ => ⟨hs, hV⟩) fun _ => Q.bifP (p := fun x : Q.S × Int × Int × M.V => Q.wf x.1 ∧ R.Wf x.2.2.2) (fun _ => ⟨hs, h1.2⟩) fun _ => Q.run_wf f (n + 1) h1.1 h1.2
theorem Q.runs_wf {most : Int} {s : Q.S} {V : M.V} (hs : Q.wf s) (hV : R.Wf V) : Q.wf (Q.runs most s V).1 ∧ R.Wf (Q.runs most s V).2.2.2 := Q.run_wf _ _ hs hV
theorem Q3.enc_bd (i : Q.I) : 0 ≤ (Q3.encode i).1 ∧ (Q3.encode i).1 < 4294967296 := by
  unfold Q3.encode
  refine Q.bifP (p := fun x : Int × Int => 0 ≤ x.1 ∧ x.1 < 4294967296) (fun _ => by decide) fun _ => Q.bifP (p := fun x : Int × Int => 0 ≤ x.1 ∧ x.1 < 4294967296) (fun _ => Q.wrap_bd _) fun _ => Q.wrap_bd _
theorem Q.put_size (n : Int) : (W.put n 4).size = 4 := by
  unfold W.put; rw [strOfNums_size]; rfl
theorem rPut_all (n k : Int) (h : 0 ≤ n ∧ n < 4294967296) (hk : -9223372036854775808 ≤ k ∧ k ≤ 9223372036854775807) (w : World) : Calls Try.prog 24 #[.int .u32 n, .int .i64 k] w fun e w' => e = .returned (.string (W.put n k)) ∧ Bel w w' := rPut_any n k h.1 h.2 hk.1 hk.2 w
def Q.sanS : ByteArray := ((((⟨#[]⟩ : ByteArray) ++ (W.put (Q3.encode ⟨16, 1, 0, 0, 5⟩).1 4)) ++ (W.put (Q3.encode ⟨33, 1, 0, 0, 4294967295⟩).1 4)) ++ (W.put (Q3.encode ⟨50, 0, 0, 0, 0⟩).1 4))
def Q.sanV : M.V := ((M.V.new (M.np 1) false).setc 0 Q.sanS).prot 0 4
def Q.sn1 : Q.S × Int × Int × M.V := Q.runs 1 Q.z0 Q.sanV
def Q.sn2 : Q.S × Int × Int × M.V := Q.runs 2 Q.sn1.1 Q.sn1.2.2.2
def Q.sn3 : Q.S × Int × Int × M.V := Q.runs 1 Q.z0 (M.V.new (M.np 0) false)
def Q.sn4 : Q.S × Int × Int × M.V := Q.runs 0 Q.sn3.1 Q.sn3.2.2.2
theorem San6  : A.Rd Try.prog 10 #[] [] (.bool true) := by
  intro w oo aa hh
  refine E.enter (n := 105) (S := oo) Try.func10 rfl rfl (by kernel_rfl) (A.start (L := []) hh) ?_
  refine E.sr ?_
  refine E.op (.bool false) ?_
  refine E.tr ?_
  refine A.G.call (I := Nat) (D := fun m1 => True) (V := fun m1 => .pointer (some ⟨m1, 0, none⟩)) (q := fun m1 => [M.It m1 (M.V.new (M.np 1) false) (Q.S.cells Q.z0)]) [] (fun m1 => []) (fun m1 => [M.It m1 (M.V.new (M.np 1) false) (Q.S.cells Q.z0)]) (CNew 1) (by kernel_rfl) (A.pm [] (by kernel_rfl) (by kernel_rfl)) (fun m1 => A.pm [0] (by kernel_rfl) (by kernel_rfl)) (fun w _ => by kernel_rfl) (by kernel_rfl) (fun m1 hd2 => ?_)
  refine E.op (.pointer (some ⟨m1, 0, none⟩)) ?_
  refine E.tr ?_
  refine A.G.call (I := Nat) (D := fun m3 => True) (V := fun m3 => .pointer (some ⟨m3, 0, none⟩)) (q := fun m3 => [M.It m3 (M.V.new (M.np 0) false) (Q.S.cells Q.z0)]) [M.It m1 (M.V.new (M.np 1) false) (Q.S.cells Q.z0)] (fun m3 => []) (fun m3 => [M.It m3 (M.V.new (M.np 0) false) (Q.S.cells Q.z0), M.It m1 (M.V.new (M.np 1) false) (Q.S.cells Q.z0)]) (CNew 0) (by kernel_rfl) (A.pm [0] (by kernel_rfl) (by kernel_rfl)) (fun m3 => A.pm [0, 1] (by kernel_rfl) (by kernel_rfl)) (fun w _ => by kernel_rfl) (by kernel_rfl) (fun m3 hd4 => ?_)
  refine E.op (.pointer (some ⟨m3, 0, none⟩)) ?_
  refine E.To.code ?_
  refine E.C.seq ?_
  refine E.sr ?_
  refine E.op (.pointer (some ⟨m1, 0, none⟩)) ?_
  refine E.op (.bool false) ?_
  refine E.op (.bool false) ?_
  refine E.op (.pointer (some ⟨m3, 0, none⟩)) ?_
  refine E.op (.bool false) ?_
  refine E.op (.bool false) ?_
  refine E.To.code ?_
  refine E.C.condF (by kernel_rfl) (by kernel_rfl) ?_
  refine E.C.skip (E.To.code ?_)
  refine E.C.weak [(0, .bool false), (1, .pointer (some ⟨m1, 0, none⟩)), (2, .pointer (some ⟨m3, 0, none⟩))] [] ⟨by kernel_rfl, by kernel_rfl⟩ (List.Sublist.refl _) ?_
  refine E.sr ?_
  refine E.op (.string (⟨#[]⟩ : ByteArray)) ?_
  refine E.tr ?_
  refine E.G.val (.agg #[.int .i64 16, .int .i64 1, .int .i64 0, .int .i64 0, .int .u32 5]) (by kernel_rfl) (fun w h => E.run_build #[.int .i64 16, .int .i64 1, .int .i64 0, .int .i64 0, .int .u32 5] (by kernel_rfl) w) ?_
  refine E.G.val (.agg #[.int .i64 33, .int .i64 1, .int .i64 0, .int .i64 0, .int .u32 4294967295]) (by kernel_rfl) (fun w h => E.run_build #[.int .i64 33, .int .i64 1, .int .i64 0, .int .i64 0, .int .u32 4294967295] (by kernel_rfl) w) ?_
  refine E.G.val (.agg #[.int .i64 50, .int .i64 0, .int .i64 0, .int .i64 0, .int .u32 0]) (by kernel_rfl) (fun w h => E.run_build #[.int .i64 50, .int .i64 0, .int .i64 0, .int .i64 0, .int .u32 0] (by kernel_rfl) w) ?_
  refine E.G.buildSlice [.int .i64 16, .int .i64 1, .int .i64 0, .int .i64 0, .int .u32 5, .int .i64 33, .int .i64 1, .int .i64 0, .int .i64 0, .int .u32 4294967295, .int .i64 50, .int .i64 0, .int .i64 0, .int .i64 0, .int .u32 0] (by kernel_rfl) (by kernel_rfl) (fun g5 => ?_)
  refine E.op (.slice (some ⟨g5, 0, none⟩) 3 3) ?_
  refine E.To.code ?_
  refine E.C.seq ?_
  refine E.sr ?_
  refine E.op (.int .i64 0) ?_
  refine E.To.code ?_
  refine E.C.block ?_
  refine E.C.rounds 3 ?_
  refine E.C.seq ?_
  refine E.sr ?_
  refine E.op (.int .i64 0) ?_
  refine E.op (.slice (some ⟨g5, 0, none⟩) 3 3) ?_
  refine E.op (.int .i64 3) ?_
  refine E.op (.bool true) ?_
  refine E.To.code ?_
  refine E.C.condT (by kernel_rfl) (by kernel_rfl) ?_
  refine E.C.skip (E.To.code ?_)
  refine E.C.seq ?_
  refine E.C.block ?_
  refine E.sr ?_
  refine E.op (.slice (some ⟨g5, 0, none⟩) 3 3) ?_
  refine E.op (.int .i64 0) ?_
  refine E.op (.pointer (some ⟨g5, 0, none⟩)) ?_
  refine E.li (.agg #[.int .i64 16, .int .i64 1, .int .i64 0, .int .i64 0, .int .u32 5]) 0 rfl rfl ?_
  refine E.G.call (.tuple #[.int .u32 ((Q3.encode (⟨16, 1, 0, 0, 5⟩ : Q.I)).1), .int .i64 ((Q3.encode (⟨16, 1, 0, 0, 5⟩ : Q.I)).2)]) (fun w h => Encode3_any (⟨16, 1, 0, 0, 5⟩ : Q.I) (by decide) w) (fun w _ => by kernel_rfl) (by kernel_rfl) ?_
  refine E.op (.tuple #[.int .u32 ((Q3.encode (⟨16, 1, 0, 0, 5⟩ : Q.I)).1), .int .i64 ((Q3.encode (⟨16, 1, 0, 0, 5⟩ : Q.I)).2)]) ?_
  refine E.op (.int .u32 ((Q3.encode (⟨16, 1, 0, 0, 5⟩ : Q.I)).1)) ?_
  refine E.op (.int .i64 ((Q3.encode (⟨16, 1, 0, 0, 5⟩ : Q.I)).2)) ?_
  refine E.op (.int .u32 ((Q3.encode (⟨16, 1, 0, 0, 5⟩ : Q.I)).1)) ?_
  refine E.op (.int .i64 ((Q3.encode (⟨16, 1, 0, 0, 5⟩ : Q.I)).2)) ?_
  refine E.ur ?_
  refine E.op (.string (⟨#[]⟩ : ByteArray)) ?_
  refine E.op (.int .u32 ((Q3.encode (⟨16, 1, 0, 0, 5⟩ : Q.I)).1)) ?_
  refine E.G.call (.string (W.put ((Q3.encode (⟨16, 1, 0, 0, 5⟩ : Q.I)).1) 4)) (fun w h => rPut_all ((Q3.encode (⟨16, 1, 0, 0, 5⟩ : Q.I)).1) 4 (Q3.enc_bd _) (by omega) w) (fun w _ => by kernel_rfl) (by kernel_rfl) ?_
  refine E.G.val (.string ((⟨#[]⟩ : ByteArray) ++ (W.put ((Q3.encode (⟨16, 1, 0, 0, 5⟩ : Q.I)).1) 4))) (by kernel_rfl) (fun w h => E.cat (⟨#[]⟩ : ByteArray) (W.put ((Q3.encode (⟨16, 1, 0, 0, 5⟩ : Q.I)).1) 4) (by kernel_rfl) (by kernel_rfl) (by simp only [ByteArray.size_append, Q.put_size]; decide) w) ?_
  refine E.op (.string ((⟨#[]⟩ : ByteArray) ++ (W.put ((Q3.encode (⟨16, 1, 0, 0, 5⟩ : Q.I)).1) 4))) ?_
  refine E.P.nb (E.To.code ?_)
  refine E.C.region ?_
  refine E.op (.int .i64 0) ?_
  refine E.op (.int .i64 1) ?_
  refine E.op (.int .i64 1) ?_
  refine E.To.rounds 2 ?_
  refine E.C.weak [(0, .bool false), (1, .pointer (some ⟨m1, 0, none⟩)), (2, .pointer (some ⟨m3, 0, none⟩)), (3, .string ((⟨#[]⟩ : ByteArray) ++ (W.put ((Q3.encode (⟨16, 1, 0, 0, 5⟩ : Q.I)).1) 4))), (4, .slice (some ⟨g5, 0, none⟩) 3 3), (5, .int .i64 1), (6, .int .u32 ((Q3.encode (⟨16, 1, 0, 0, 5⟩ : Q.I)).1)), (24, .int .i64 0), (25, .slice (some ⟨g5, 0, none⟩) 3 3), (26, .int .i64 3), (27, .bool true), (28, .int .i64 0), (29, .int .i64 1), (30, .tuple #[.int .u32 ((Q3.encode (⟨16, 1, 0, 0, 5⟩ : Q.I)).1), .int .i64 ((Q3.encode (⟨16, 1, 0, 0, 5⟩ : Q.I)).2)]), (31, .slice (some ⟨g5, 0, none⟩) 3 3), (32, .int .i64 0), (33, .pointer (some ⟨g5, 0, none⟩)), (34, .agg #[.int .i64 16, .int .i64 1, .int .i64 0, .int .i64 0, .int .u32 5]), (35, .tuple #[.int .u32 ((Q3.encode (⟨16, 1, 0, 0, 5⟩ : Q.I)).1), .int .i64 ((Q3.encode (⟨16, 1, 0, 0, 5⟩ : Q.I)).2)]), (36, .int .u32 ((Q3.encode (⟨16, 1, 0, 0, 5⟩ : Q.I)).1)), (37, .int .i64 ((Q3.encode (⟨16, 1, 0, 0, 5⟩ : Q.I)).2)), (38, .string (⟨#[]⟩ : ByteArray)), (39, .int .u32 ((Q3.encode (⟨16, 1, 0, 0, 5⟩ : Q.I)).1)), (40, .string (W.put ((Q3.encode (⟨16, 1, 0, 0, 5⟩ : Q.I)).1) 4)), (41, .string ((⟨#[]⟩ : ByteArray) ++ (W.put ((Q3.encode (⟨16, 1, 0, 0, 5⟩ : Q.I)).1) 4)))] [(g5, [.int .i64 16, .int .i64 1, .int .i64 0, .int .i64 0, .int .u32 5, .int .i64 33, .int .i64 1, .int .i64 0, .int .i64 0, .int .u32 4294967295, .int .i64 50, .int .i64 0, .int .i64 0, .int .i64 0, .int .u32 0])] ⟨by kernel_rfl, by kernel_rfl⟩ (List.Sublist.refl _) ?_
  refine E.C.seq ?_
  refine E.sr ?_
  refine E.op (.int .i64 1) ?_
  refine E.op (.slice (some ⟨g5, 0, none⟩) 3 3) ?_
  refine E.op (.int .i64 3) ?_
  refine E.op (.bool true) ?_
  refine E.To.code ?_
  refine E.C.condT (by kernel_rfl) (by kernel_rfl) ?_
  refine E.C.skip (E.To.code ?_)
  refine E.C.seq ?_
  refine E.C.block ?_
  refine E.sr ?_
  refine E.op (.slice (some ⟨g5, 0, none⟩) 3 3) ?_
  refine E.op (.int .i64 1) ?_
  refine E.op (.pointer (some ⟨g5, 5, none⟩)) ?_
  refine E.li (.agg #[.int .i64 33, .int .i64 1, .int .i64 0, .int .i64 0, .int .u32 4294967295]) 0 rfl rfl ?_
  refine E.G.call (.tuple #[.int .u32 ((Q3.encode (⟨33, 1, 0, 0, 4294967295⟩ : Q.I)).1), .int .i64 ((Q3.encode (⟨33, 1, 0, 0, 4294967295⟩ : Q.I)).2)]) (fun w h => Encode3_any (⟨33, 1, 0, 0, 4294967295⟩ : Q.I) (by decide) w) (fun w _ => by kernel_rfl) (by kernel_rfl) ?_
  refine E.op (.tuple #[.int .u32 ((Q3.encode (⟨33, 1, 0, 0, 4294967295⟩ : Q.I)).1), .int .i64 ((Q3.encode (⟨33, 1, 0, 0, 4294967295⟩ : Q.I)).2)]) ?_
  refine E.op (.int .u32 ((Q3.encode (⟨33, 1, 0, 0, 4294967295⟩ : Q.I)).1)) ?_
  refine E.op (.int .i64 ((Q3.encode (⟨33, 1, 0, 0, 4294967295⟩ : Q.I)).2)) ?_
  refine E.op (.int .u32 ((Q3.encode (⟨33, 1, 0, 0, 4294967295⟩ : Q.I)).1)) ?_
  refine E.op (.int .i64 ((Q3.encode (⟨33, 1, 0, 0, 4294967295⟩ : Q.I)).2)) ?_
  refine E.ur ?_
  refine E.op (.string ((⟨#[]⟩ : ByteArray) ++ (W.put ((Q3.encode (⟨16, 1, 0, 0, 5⟩ : Q.I)).1) 4))) ?_
  refine E.op (.int .u32 ((Q3.encode (⟨33, 1, 0, 0, 4294967295⟩ : Q.I)).1)) ?_
  refine E.G.call (.string (W.put ((Q3.encode (⟨33, 1, 0, 0, 4294967295⟩ : Q.I)).1) 4)) (fun w h => rPut_all ((Q3.encode (⟨33, 1, 0, 0, 4294967295⟩ : Q.I)).1) 4 (Q3.enc_bd _) (by omega) w) (fun w _ => by kernel_rfl) (by kernel_rfl) ?_
  refine E.G.val (.string (((⟨#[]⟩ : ByteArray) ++ (W.put ((Q3.encode (⟨16, 1, 0, 0, 5⟩ : Q.I)).1) 4)) ++ (W.put ((Q3.encode (⟨33, 1, 0, 0, 4294967295⟩ : Q.I)).1) 4))) (by kernel_rfl) (fun w h => E.cat ((⟨#[]⟩ : ByteArray) ++ (W.put ((Q3.encode (⟨16, 1, 0, 0, 5⟩ : Q.I)).1) 4)) (W.put ((Q3.encode (⟨33, 1, 0, 0, 4294967295⟩ : Q.I)).1) 4) (by kernel_rfl) (by kernel_rfl) (by simp only [ByteArray.size_append, Q.put_size]; decide) w) ?_
  refine E.op (.string (((⟨#[]⟩ : ByteArray) ++ (W.put ((Q3.encode (⟨16, 1, 0, 0, 5⟩ : Q.I)).1) 4)) ++ (W.put ((Q3.encode (⟨33, 1, 0, 0, 4294967295⟩ : Q.I)).1) 4))) ?_
  refine E.P.nb (E.To.code ?_)
  refine E.C.region ?_
  refine E.op (.int .i64 1) ?_
  refine E.op (.int .i64 2) ?_
  refine E.op (.int .i64 2) ?_
  refine E.To.rounds 1 ?_
  refine E.C.weak [(0, .bool false), (1, .pointer (some ⟨m1, 0, none⟩)), (2, .pointer (some ⟨m3, 0, none⟩)), (3, .string (((⟨#[]⟩ : ByteArray) ++ (W.put ((Q3.encode (⟨16, 1, 0, 0, 5⟩ : Q.I)).1) 4)) ++ (W.put ((Q3.encode (⟨33, 1, 0, 0, 4294967295⟩ : Q.I)).1) 4))), (4, .slice (some ⟨g5, 0, none⟩) 3 3), (5, .int .i64 2), (6, .int .u32 ((Q3.encode (⟨33, 1, 0, 0, 4294967295⟩ : Q.I)).1)), (24, .int .i64 1), (25, .slice (some ⟨g5, 0, none⟩) 3 3), (26, .int .i64 3), (27, .bool true), (28, .int .i64 1), (29, .int .i64 2), (30, .tuple #[.int .u32 ((Q3.encode (⟨33, 1, 0, 0, 4294967295⟩ : Q.I)).1), .int .i64 ((Q3.encode (⟨33, 1, 0, 0, 4294967295⟩ : Q.I)).2)]), (31, .slice (some ⟨g5, 0, none⟩) 3 3), (32, .int .i64 1), (33, .pointer (some ⟨g5, 5, none⟩)), (34, .agg #[.int .i64 33, .int .i64 1, .int .i64 0, .int .i64 0, .int .u32 4294967295]), (35, .tuple #[.int .u32 ((Q3.encode (⟨33, 1, 0, 0, 4294967295⟩ : Q.I)).1), .int .i64 ((Q3.encode (⟨33, 1, 0, 0, 4294967295⟩ : Q.I)).2)]), (36, .int .u32 ((Q3.encode (⟨33, 1, 0, 0, 4294967295⟩ : Q.I)).1)), (37, .int .i64 ((Q3.encode (⟨33, 1, 0, 0, 4294967295⟩ : Q.I)).2)), (38, .string ((⟨#[]⟩ : ByteArray) ++ (W.put ((Q3.encode (⟨16, 1, 0, 0, 5⟩ : Q.I)).1) 4))), (39, .int .u32 ((Q3.encode (⟨33, 1, 0, 0, 4294967295⟩ : Q.I)).1)), (40, .string (W.put ((Q3.encode (⟨33, 1, 0, 0, 4294967295⟩ : Q.I)).1) 4)), (41, .string (((⟨#[]⟩ : ByteArray) ++ (W.put ((Q3.encode (⟨16, 1, 0, 0, 5⟩ : Q.I)).1) 4)) ++ (W.put ((Q3.encode (⟨33, 1, 0, 0, 4294967295⟩ : Q.I)).1) 4)))] [(g5, [.int .i64 16, .int .i64 1, .int .i64 0, .int .i64 0, .int .u32 5, .int .i64 33, .int .i64 1, .int .i64 0, .int .i64 0, .int .u32 4294967295, .int .i64 50, .int .i64 0, .int .i64 0, .int .i64 0, .int .u32 0])] ⟨by kernel_rfl, by kernel_rfl⟩ (List.Sublist.refl _) ?_
  refine E.C.seq ?_
  refine E.sr ?_
  refine E.op (.int .i64 2) ?_
  refine E.op (.slice (some ⟨g5, 0, none⟩) 3 3) ?_
  refine E.op (.int .i64 3) ?_
  refine E.op (.bool true) ?_
  refine E.To.code ?_
  refine E.C.condT (by kernel_rfl) (by kernel_rfl) ?_
  refine E.C.skip (E.To.code ?_)
  refine E.C.seq ?_
  refine E.C.block ?_
  refine E.sr ?_
  refine E.op (.slice (some ⟨g5, 0, none⟩) 3 3) ?_
  refine E.op (.int .i64 2) ?_
  refine E.op (.pointer (some ⟨g5, 10, none⟩)) ?_
  refine E.li (.agg #[.int .i64 50, .int .i64 0, .int .i64 0, .int .i64 0, .int .u32 0]) 0 rfl rfl ?_
  refine E.G.call (.tuple #[.int .u32 ((Q3.encode (⟨50, 0, 0, 0, 0⟩ : Q.I)).1), .int .i64 ((Q3.encode (⟨50, 0, 0, 0, 0⟩ : Q.I)).2)]) (fun w h => Encode3_any (⟨50, 0, 0, 0, 0⟩ : Q.I) (by decide) w) (fun w _ => by kernel_rfl) (by kernel_rfl) ?_
  refine E.op (.tuple #[.int .u32 ((Q3.encode (⟨50, 0, 0, 0, 0⟩ : Q.I)).1), .int .i64 ((Q3.encode (⟨50, 0, 0, 0, 0⟩ : Q.I)).2)]) ?_
  refine E.op (.int .u32 ((Q3.encode (⟨50, 0, 0, 0, 0⟩ : Q.I)).1)) ?_
  refine E.op (.int .i64 ((Q3.encode (⟨50, 0, 0, 0, 0⟩ : Q.I)).2)) ?_
  refine E.op (.int .u32 ((Q3.encode (⟨50, 0, 0, 0, 0⟩ : Q.I)).1)) ?_
  refine E.op (.int .i64 ((Q3.encode (⟨50, 0, 0, 0, 0⟩ : Q.I)).2)) ?_
  refine E.ur ?_
  refine E.op (.string (((⟨#[]⟩ : ByteArray) ++ (W.put ((Q3.encode (⟨16, 1, 0, 0, 5⟩ : Q.I)).1) 4)) ++ (W.put ((Q3.encode (⟨33, 1, 0, 0, 4294967295⟩ : Q.I)).1) 4))) ?_
  refine E.op (.int .u32 ((Q3.encode (⟨50, 0, 0, 0, 0⟩ : Q.I)).1)) ?_
  refine E.G.call (.string (W.put ((Q3.encode (⟨50, 0, 0, 0, 0⟩ : Q.I)).1) 4)) (fun w h => rPut_all ((Q3.encode (⟨50, 0, 0, 0, 0⟩ : Q.I)).1) 4 (Q3.enc_bd _) (by omega) w) (fun w _ => by kernel_rfl) (by kernel_rfl) ?_
  refine E.G.val (.string ((((⟨#[]⟩ : ByteArray) ++ (W.put ((Q3.encode (⟨16, 1, 0, 0, 5⟩ : Q.I)).1) 4)) ++ (W.put ((Q3.encode (⟨33, 1, 0, 0, 4294967295⟩ : Q.I)).1) 4)) ++ (W.put ((Q3.encode (⟨50, 0, 0, 0, 0⟩ : Q.I)).1) 4))) (by kernel_rfl) (fun w h => E.cat (((⟨#[]⟩ : ByteArray) ++ (W.put ((Q3.encode (⟨16, 1, 0, 0, 5⟩ : Q.I)).1) 4)) ++ (W.put ((Q3.encode (⟨33, 1, 0, 0, 4294967295⟩ : Q.I)).1) 4)) (W.put ((Q3.encode (⟨50, 0, 0, 0, 0⟩ : Q.I)).1) 4) (by kernel_rfl) (by kernel_rfl) (by simp only [ByteArray.size_append, Q.put_size]; decide) w) ?_
  refine E.op (.string ((((⟨#[]⟩ : ByteArray) ++ (W.put ((Q3.encode (⟨16, 1, 0, 0, 5⟩ : Q.I)).1) 4)) ++ (W.put ((Q3.encode (⟨33, 1, 0, 0, 4294967295⟩ : Q.I)).1) 4)) ++ (W.put ((Q3.encode (⟨50, 0, 0, 0, 0⟩ : Q.I)).1) 4))) ?_
  refine E.P.nb (E.To.code ?_)
  refine E.C.region ?_
  refine E.op (.int .i64 2) ?_
  refine E.op (.int .i64 3) ?_
  refine E.op (.int .i64 3) ?_
  refine E.To.rounds 0 ?_
  refine E.C.weak [(0, .bool false), (1, .pointer (some ⟨m1, 0, none⟩)), (2, .pointer (some ⟨m3, 0, none⟩)), (3, .string ((((⟨#[]⟩ : ByteArray) ++ (W.put ((Q3.encode (⟨16, 1, 0, 0, 5⟩ : Q.I)).1) 4)) ++ (W.put ((Q3.encode (⟨33, 1, 0, 0, 4294967295⟩ : Q.I)).1) 4)) ++ (W.put ((Q3.encode (⟨50, 0, 0, 0, 0⟩ : Q.I)).1) 4))), (4, .slice (some ⟨g5, 0, none⟩) 3 3), (5, .int .i64 3), (6, .int .u32 ((Q3.encode (⟨50, 0, 0, 0, 0⟩ : Q.I)).1)), (24, .int .i64 2), (25, .slice (some ⟨g5, 0, none⟩) 3 3), (26, .int .i64 3), (27, .bool true), (28, .int .i64 2), (29, .int .i64 3), (30, .tuple #[.int .u32 ((Q3.encode (⟨50, 0, 0, 0, 0⟩ : Q.I)).1), .int .i64 ((Q3.encode (⟨50, 0, 0, 0, 0⟩ : Q.I)).2)]), (31, .slice (some ⟨g5, 0, none⟩) 3 3), (32, .int .i64 2), (33, .pointer (some ⟨g5, 10, none⟩)), (34, .agg #[.int .i64 50, .int .i64 0, .int .i64 0, .int .i64 0, .int .u32 0]), (35, .tuple #[.int .u32 ((Q3.encode (⟨50, 0, 0, 0, 0⟩ : Q.I)).1), .int .i64 ((Q3.encode (⟨50, 0, 0, 0, 0⟩ : Q.I)).2)]), (36, .int .u32 ((Q3.encode (⟨50, 0, 0, 0, 0⟩ : Q.I)).1)), (37, .int .i64 ((Q3.encode (⟨50, 0, 0, 0, 0⟩ : Q.I)).2)), (38, .string (((⟨#[]⟩ : ByteArray) ++ (W.put ((Q3.encode (⟨16, 1, 0, 0, 5⟩ : Q.I)).1) 4)) ++ (W.put ((Q3.encode (⟨33, 1, 0, 0, 4294967295⟩ : Q.I)).1) 4))), (39, .int .u32 ((Q3.encode (⟨50, 0, 0, 0, 0⟩ : Q.I)).1)), (40, .string (W.put ((Q3.encode (⟨50, 0, 0, 0, 0⟩ : Q.I)).1) 4)), (41, .string ((((⟨#[]⟩ : ByteArray) ++ (W.put ((Q3.encode (⟨16, 1, 0, 0, 5⟩ : Q.I)).1) 4)) ++ (W.put ((Q3.encode (⟨33, 1, 0, 0, 4294967295⟩ : Q.I)).1) 4)) ++ (W.put ((Q3.encode (⟨50, 0, 0, 0, 0⟩ : Q.I)).1) 4)))] [(g5, [.int .i64 16, .int .i64 1, .int .i64 0, .int .i64 0, .int .u32 5, .int .i64 33, .int .i64 1, .int .i64 0, .int .i64 0, .int .u32 4294967295, .int .i64 50, .int .i64 0, .int .i64 0, .int .i64 0, .int .u32 0])] ⟨by kernel_rfl, by kernel_rfl⟩ (List.Sublist.refl _) ?_
  refine E.C.seq ?_
  refine E.sr ?_
  refine E.op (.int .i64 3) ?_
  refine E.op (.slice (some ⟨g5, 0, none⟩) 3 3) ?_
  refine E.op (.int .i64 3) ?_
  refine E.op (.bool false) ?_
  refine E.To.code ?_
  refine E.C.condF (by kernel_rfl) (by kernel_rfl) ?_
  refine E.C.exit (E.P.et (E.P.et (E.P.eh (E.To.code ?_))))
  refine E.C.weak [(0, .bool false), (1, .pointer (some ⟨m1, 0, none⟩)), (2, .pointer (some ⟨m3, 0, none⟩)), (3, .string ((((⟨#[]⟩ : ByteArray) ++ (W.put ((Q3.encode (⟨16, 1, 0, 0, 5⟩ : Q.I)).1) 4)) ++ (W.put ((Q3.encode (⟨33, 1, 0, 0, 4294967295⟩ : Q.I)).1) 4)) ++ (W.put ((Q3.encode (⟨50, 0, 0, 0, 0⟩ : Q.I)).1) 4)))] [] ⟨by kernel_rfl, by kernel_rfl⟩ (List.nil_sublist _) ?_
  refine E.sr ?_
  refine E.op (.pointer (some ⟨m1, 0, none⟩)) ?_
  refine E.op (.pointer (some ⟨m1, 0, none⟩)) ?_
  refine E.op (.pointer (some ⟨m1, 0, none⟩)) ?_
  refine E.op (.string Q.sanS) ?_
  refine A.G.call (I := Unit) (D := fun _ => True) (V := fun _ => .tuple #[]) (q := fun _ => [M.It m1 ((M.V.new (M.np 1) false).setc 0 Q.sanS) (Q.S.cells Q.z0)]) [M.It m3 (M.V.new (M.np 0) false) (Q.S.cells Q.z0)] (fun _ => []) (fun _ => [M.It m3 (M.V.new (M.np 0) false) (Q.S.cells Q.z0), M.It m1 ((M.V.new (M.np 1) false).setc 0 Q.sanS) (Q.S.cells Q.z0)]) (A_SetCode 0 Q.sanS (m := m1) (V := (M.V.new (M.np 1) false)) (xs := (Q.S.cells Q.z0))) (by kernel_rfl) (A.pm [1, 0] (by kernel_rfl) (by kernel_rfl)) (fun _ => A.pm [1, 0] (by kernel_rfl) (by kernel_rfl)) (fun w _ => by kernel_rfl) (by kernel_rfl) (fun _ hd6 => ?_)
  refine E.tr ?_
  refine E.op (.pointer (some ⟨m1, 0, none⟩)) ?_
  refine E.op (.pointer (some ⟨m1, 0, none⟩)) ?_
  refine E.op (.pointer (some ⟨m1, 0, none⟩)) ?_
  refine A.G.call (I := Unit) (D := fun _ => True) (V := fun _ => .tuple #[]) (q := fun _ => [M.It m1 Q.sanV (Q.S.cells Q.z0)]) [M.It m3 (M.V.new (M.np 0) false) (Q.S.cells Q.z0)] (fun _ => []) (fun _ => [M.It m3 (M.V.new (M.np 0) false) (Q.S.cells Q.z0), M.It m1 Q.sanV (Q.S.cells Q.z0)]) (A_Protect 0 4 (m := m1) (V := ((M.V.new (M.np 1) false).setc 0 Q.sanS)) (xs := (Q.S.cells Q.z0))) (by kernel_rfl) (A.pm [1, 0] (by kernel_rfl) (by kernel_rfl)) (fun _ => A.pm [1, 0] (by kernel_rfl) (by kernel_rfl)) (fun w _ => by kernel_rfl) (by kernel_rfl) (fun _ hd7 => ?_)
  refine E.To.code ?_
  refine E.C.weak [(0, .bool false), (1, .pointer (some ⟨m1, 0, none⟩)), (2, .pointer (some ⟨m3, 0, none⟩))] [] ⟨by kernel_rfl, by kernel_rfl⟩ (List.Sublist.refl _) ?_
  refine E.sr ?_
  refine E.op (.pointer (some ⟨m1, 0, none⟩)) ?_
  refine A.G.call (I := Unit) (D := fun _ => True) (V := fun _ => .agg #[.int .i64 Q.sn1.2.1, .int .u32 Q.sn1.2.2.1]) (q := fun _ => [M.It m1 Q.sn1.2.2.2 (Q.S.cells Q.sn1.1)]) [M.It m3 (M.V.new (M.np 0) false) (Q.S.cells Q.z0)] (fun _ => []) (fun _ => [M.It m3 (M.V.new (M.np 0) false) (Q.S.cells Q.z0), M.It m1 Q.sn1.2.2.2 (Q.S.cells Q.sn1.1)]) (CRun (c := m1) 1 Q.z0 Q.sanV (by omega) Q.z0_wf (R.Wf.prot (R.Wf.setc (R.Wf.new (M.np_le _) _) _ _) _ _)) (by kernel_rfl) (A.pm [1, 0] (by kernel_rfl) (by kernel_rfl)) (fun _ => A.pm [1, 0] (by kernel_rfl) (by kernel_rfl)) (fun w _ => by kernel_rfl) (by kernel_rfl) (fun _ hd8 => ?_)
  refine E.G.new (fun g => .pointer (some ⟨g, 0, none⟩)) [.int .i64 0, .int .u32 0] 51 (fun w => by kernel_rfl) (by kernel_rfl) (fun g9 => ?_)
  refine E.G.store 0 [.int .i64 Q.sn1.2.1, .int .u32 Q.sn1.2.2.1] rfl rfl (by kernel_rfl) (by kernel_rfl) ?_
  refine E.tr ?_
  refine E.op (.pointer (some ⟨m1, 0, none⟩)) ?_
  refine E.G.call (Q.S.val Q.sn1.1) (fun w h => A.call_rd [A.blk g9 ([.int .i64 Q.sn1.2.1, .int .u32 Q.sn1.2.2.1]), M.It m3 (M.V.new (M.np 0) false) (Q.S.cells Q.z0)] (CState (c := m1) (V := Q.sn1.2.2.2) Q.sn1.1) h (by kernel_rfl) (A.pm [2, 0, 1] (by kernel_rfl) (by kernel_rfl))) (fun w _ => by kernel_rfl) (by kernel_rfl) ?_
  refine E.G.new (fun g => .pointer (some ⟨g, 0, none⟩)) (Q.S.cells Q.z0) 27 (fun w => by kernel_rfl) (by kernel_rfl) (fun g10 => ?_)
  refine E.G.store 0 (Q.S.cells Q.sn1.1) rfl rfl (by kernel_rfl) (by kernel_rfl) ?_
  refine E.tr ?_
  refine E.op (.pointer (some ⟨m1, 0, none⟩)) ?_
  refine A.G.call (I := Unit) (D := fun _ => True) (V := fun _ => .agg #[.int .i64 Q.sn2.2.1, .int .u32 Q.sn2.2.2.1]) (q := fun _ => [M.It m1 Q.sn2.2.2.2 (Q.S.cells Q.sn2.1)]) [A.blk g10 (Q.S.cells Q.sn1.1), A.blk g9 ([.int .i64 Q.sn1.2.1, .int .u32 Q.sn1.2.2.1]), M.It m3 (M.V.new (M.np 0) false) (Q.S.cells Q.z0)] (fun _ => [(g10, (Q.S.cells Q.sn1.1)), (g9, [.int .i64 Q.sn1.2.1, .int .u32 Q.sn1.2.2.1])]) (fun _ => [M.It m3 (M.V.new (M.np 0) false) (Q.S.cells Q.z0), M.It m1 Q.sn2.2.2.2 (Q.S.cells Q.sn2.1)]) (CRun (c := m1) 2 Q.sn1.1 Q.sn1.2.2.2 (by omega) (Q.runs_wf Q.z0_wf (R.Wf.prot (R.Wf.setc (R.Wf.new (M.np_le _) _) _ _) _ _)).1 (Q.runs_wf Q.z0_wf (R.Wf.prot (R.Wf.setc (R.Wf.new (M.np_le _) _) _ _) _ _)).2) (by kernel_rfl) (A.pm [3, 0, 1, 2] (by kernel_rfl) (by kernel_rfl)) (fun _ => A.pm [1, 2, 3, 0] (by kernel_rfl) (by kernel_rfl)) (fun w _ => by kernel_rfl) (by kernel_rfl) (fun _ hd11 => ?_)
  refine E.G.new (fun g => .pointer (some ⟨g, 0, none⟩)) [.int .i64 0, .int .u32 0] 51 (fun w => by kernel_rfl) (by kernel_rfl) (fun g12 => ?_)
  refine E.G.store 0 [.int .i64 Q.sn2.2.1, .int .u32 Q.sn2.2.2.1] rfl rfl (by kernel_rfl) (by kernel_rfl) ?_
  refine E.tr ?_
  refine E.op (.pointer (some ⟨m1, 0, none⟩)) ?_
  refine E.G.call (Q.S.val Q.sn2.1) (fun w h => A.call_rd [A.blk g12 ([.int .i64 Q.sn2.2.1, .int .u32 Q.sn2.2.2.1]), A.blk g10 (Q.S.cells Q.sn1.1), A.blk g9 ([.int .i64 Q.sn1.2.1, .int .u32 Q.sn1.2.2.1]), M.It m3 (M.V.new (M.np 0) false) (Q.S.cells Q.z0)] (CState (c := m1) (V := Q.sn2.2.2.2) Q.sn2.1) h (by kernel_rfl) (A.pm [4, 0, 1, 2, 3] (by kernel_rfl) (by kernel_rfl))) (fun w _ => by kernel_rfl) (by kernel_rfl) ?_
  refine E.G.new (fun g => .pointer (some ⟨g, 0, none⟩)) (Q.S.cells Q.z0) 27 (fun w => by kernel_rfl) (by kernel_rfl) (fun g13 => ?_)
  refine E.G.store 0 (Q.S.cells Q.sn2.1) rfl rfl (by kernel_rfl) (by kernel_rfl) ?_
  refine E.To.code ?_
  refine E.C.weak [(0, .bool false), (2, .pointer (some ⟨m3, 0, none⟩)), (8, .pointer (some ⟨g9, 0, none⟩)), (9, .pointer (some ⟨g10, 0, none⟩)), (10, .pointer (some ⟨g12, 0, none⟩)), (11, .pointer (some ⟨g13, 0, none⟩))] [(g13, (Q.S.cells Q.sn2.1)), (g12, [.int .i64 Q.sn2.2.1, .int .u32 Q.sn2.2.2.1]), (g10, (Q.S.cells Q.sn1.1)), (g9, [.int .i64 Q.sn1.2.1, .int .u32 Q.sn1.2.2.1])] ⟨by kernel_rfl, by kernel_rfl⟩ (List.Sublist.refl _) ?_
  refine E.sr ?_
  refine E.op (.pointer (some ⟨g9, 0, none⟩)) ?_
  refine E.li (.int .i64 Q.sn1.2.1) 3 rfl rfl ?_
  refine E.G.val (.bool true) (by kernel_rfl) (fun w h => E.run_as (a := .bool (Q.sn1.2.1 == 1)) (by kernel_rfl) (congrArg Value.bool (by kernel_rfl))) ?_
  refine E.op (.bool true) ?_
  refine E.op (.pointer (some ⟨g10, 0, none⟩)) ?_
  refine E.li (.int .u32 Q.sn1.1.pc) 2 rfl rfl ?_
  refine E.G.val (.bool true) (by kernel_rfl) (fun w h => E.run_as (a := .bool (Q.sn1.1.pc == 4)) (by kernel_rfl) (congrArg Value.bool (by kernel_rfl))) ?_
  refine E.op (.bool true) ?_
  refine E.op (.bool true) ?_
  refine E.op (.pointer (some ⟨g10, 1, none⟩)) ?_
  refine E.op (.pointer (some ⟨g10, 2, none⟩)) ?_
  refine E.li (.int .u32 (Q.sn1.1.r 1)) 2 rfl rfl ?_
  refine E.G.val (.bool true) (by kernel_rfl) (fun w h => E.run_as (a := .bool ((Q.sn1.1.r 1) == 5)) (by kernel_rfl) (congrArg Value.bool (by kernel_rfl))) ?_
  refine E.op (.bool true) ?_
  refine E.op (.bool true) ?_
  refine E.op (.pointer (some ⟨g10, 22, none⟩)) ?_
  refine E.li (.int .i64 Q.sn1.1.st) 2 rfl rfl ?_
  refine E.G.val (.bool true) (by kernel_rfl) (fun w h => E.run_as (a := .bool (Q.sn1.1.st == 1)) (by kernel_rfl) (congrArg Value.bool (by kernel_rfl))) ?_
  refine E.op (.bool true) ?_
  refine E.op (.bool true) ?_
  refine E.op (.pointer (some ⟨g12, 0, none⟩)) ?_
  refine E.li (.int .i64 Q.sn2.2.1) 1 rfl rfl ?_
  refine E.G.val (.bool true) (by kernel_rfl) (fun w h => E.run_as (a := .bool (Q.sn2.2.1 == 1)) (by kernel_rfl) (congrArg Value.bool (by kernel_rfl))) ?_
  refine E.op (.bool true) ?_
  refine E.op (.bool true) ?_
  refine E.op (.pointer (some ⟨g13, 0, none⟩)) ?_
  refine E.li (.int .u32 Q.sn2.1.pc) 0 rfl rfl ?_
  refine E.G.val (.bool true) (by kernel_rfl) (fun w h => E.run_as (a := .bool (Q.sn2.1.pc == 4)) (by kernel_rfl) (congrArg Value.bool (by kernel_rfl))) ?_
  refine E.op (.bool true) ?_
  refine E.op (.bool true) ?_
  refine E.op (.pointer (some ⟨g13, 22, none⟩)) ?_
  refine E.li (.int .i64 Q.sn2.1.st) 0 rfl rfl ?_
  refine E.G.val (.bool true) (by kernel_rfl) (fun w h => E.run_as (a := .bool (Q.sn2.1.st == 3)) (by kernel_rfl) (congrArg Value.bool (by kernel_rfl))) ?_
  refine E.op (.bool true) ?_
  refine E.op (.bool true) ?_
  refine E.op (.pointer (some ⟨m3, 0, none⟩)) ?_
  refine A.G.call (I := Unit) (D := fun _ => True) (V := fun _ => .agg #[.int .i64 Q.sn3.2.1, .int .u32 Q.sn3.2.2.1]) (q := fun _ => [M.It m3 Q.sn3.2.2.2 (Q.S.cells Q.sn3.1)]) [A.blk g13 (Q.S.cells Q.sn2.1), A.blk g12 ([.int .i64 Q.sn2.2.1, .int .u32 Q.sn2.2.2.1]), A.blk g10 (Q.S.cells Q.sn1.1), A.blk g9 ([.int .i64 Q.sn1.2.1, .int .u32 Q.sn1.2.2.1]), M.It m1 Q.sn2.2.2.2 (Q.S.cells Q.sn2.1)] (fun _ => [(g13, (Q.S.cells Q.sn2.1)), (g12, [.int .i64 Q.sn2.2.1, .int .u32 Q.sn2.2.2.1]), (g10, (Q.S.cells Q.sn1.1)), (g9, [.int .i64 Q.sn1.2.1, .int .u32 Q.sn1.2.2.1])]) (fun _ => [M.It m3 Q.sn3.2.2.2 (Q.S.cells Q.sn3.1), M.It m1 Q.sn2.2.2.2 (Q.S.cells Q.sn2.1)]) (CRun (c := m3) 1 Q.z0 (M.V.new (M.np 0) false) (by omega) Q.z0_wf (R.Wf.new (M.np_le _) _)) (by kernel_rfl) (A.pm [4, 0, 1, 2, 3, 5] (by kernel_rfl) (by kernel_rfl)) (fun _ => A.pm [1, 2, 3, 4, 0, 5] (by kernel_rfl) (by kernel_rfl)) (fun w _ => by kernel_rfl) (by kernel_rfl) (fun _ hd14 => ?_)
  refine E.G.val (.agg #[.int .i64 5, .int .u32 0]) (by kernel_rfl) (fun w h => E.run_build #[.int .i64 5, .int .u32 0] (by kernel_rfl) w) ?_
  refine E.G.val (.bool true) (by kernel_rfl) (fun w h => E.run_as (a := .bool ((Q.sn3.2.1 == 5) && (Q.sn3.2.2.1 == 0))) (E.api_Trap_eql (by kernel_rfl) (by kernel_rfl)) (congrArg Value.bool (by kernel_rfl))) ?_
  refine E.op (.bool true) ?_
  refine E.op (.bool true) ?_
  refine E.op (.pointer (some ⟨m3, 0, none⟩)) ?_
  refine A.G.call (I := Unit) (D := fun _ => True) (V := fun _ => .agg #[.int .i64 Q.sn4.2.1, .int .u32 Q.sn4.2.2.1]) (q := fun _ => [M.It m3 Q.sn4.2.2.2 (Q.S.cells Q.sn4.1)]) [A.blk g13 (Q.S.cells Q.sn2.1), A.blk g12 ([.int .i64 Q.sn2.2.1, .int .u32 Q.sn2.2.2.1]), A.blk g10 (Q.S.cells Q.sn1.1), A.blk g9 ([.int .i64 Q.sn1.2.1, .int .u32 Q.sn1.2.2.1]), M.It m1 Q.sn2.2.2.2 (Q.S.cells Q.sn2.1)] (fun _ => [(g13, (Q.S.cells Q.sn2.1)), (g12, [.int .i64 Q.sn2.2.1, .int .u32 Q.sn2.2.2.1]), (g10, (Q.S.cells Q.sn1.1)), (g9, [.int .i64 Q.sn1.2.1, .int .u32 Q.sn1.2.2.1])]) (fun _ => [M.It m3 Q.sn4.2.2.2 (Q.S.cells Q.sn4.1), M.It m1 Q.sn2.2.2.2 (Q.S.cells Q.sn2.1)]) (CRun (c := m3) 0 Q.sn3.1 Q.sn3.2.2.2 (by omega) (Q.runs_wf Q.z0_wf (R.Wf.new (M.np_le _) _)).1 (Q.runs_wf Q.z0_wf (R.Wf.new (M.np_le _) _)).2) (by kernel_rfl) (A.pm [4, 0, 1, 2, 3, 5] (by kernel_rfl) (by kernel_rfl)) (fun _ => A.pm [1, 2, 3, 4, 0, 5] (by kernel_rfl) (by kernel_rfl)) (fun w _ => by kernel_rfl) (by kernel_rfl) (fun _ hd15 => ?_)
  refine E.G.val (.agg #[.int .i64 1, .int .u32 0]) (by kernel_rfl) (fun w h => E.run_build #[.int .i64 1, .int .u32 0] (by kernel_rfl) w) ?_
  refine E.G.val (.bool true) (by kernel_rfl) (fun w h => E.run_as (a := .bool ((Q.sn4.2.1 == 1) && (Q.sn4.2.2.1 == 0))) (E.api_Trap_eql (by kernel_rfl) (by kernel_rfl)) (congrArg Value.bool (by kernel_rfl))) ?_
  refine E.op (.bool true) ?_
  refine E.op (.bool true) ?_
  refine E.To.code ?_
  refine E.C.weak [(0, .bool true)] [] ⟨by kernel_rfl, by kernel_rfl⟩ (List.nil_sublist _) ?_
  refine E.C.ret (E.To.body (fn := Try.f10) [.bool true] ?_ ?_)
  · exact ⟨⟨by kernel_rfl, by kernel_rfl⟩, trivial⟩
  · intro w h
    exact ⟨rfl, h.ch.bel (fun x hx => (hh.1 x hx).elim)⟩
end Go.Proofs.Ytgbndbljohpnmaa

/- XQu -/
namespace Go.Proofs.Ytgbndbljohpnmaa
set_option linter.unusedVariables false
set_option linter.unusedSimpArgs false
open Go.RowKit
def Q.oneV (i : Q.I) : M.V := (((M.V.new (M.np 1) false).poke 0 (W.put (Q3.encode i).1 4) (W.put (Q3.encode i).1 4).size).sync (0 / 256)).prot 0 7
theorem Q.oneV_wf (i : Q.I) : R.Wf (Q.oneV i) := R.Wf.prot (R.Wf.sync (R.Wf.poke (R.Wf.new (M.np_le _) _) _ _ _) _) _ _
theorem COne (i : Q.I) (s : Q.S) (hm : 0 ≤ i.imm ∧ i.imm < 4294967296) : A.Tr Try.prog 19 #[.agg #[.int .i64 i.op, .int .i64 i.d, .int .i64 i.a, .int .i64 i.b, .int .u32 i.imm], Q.S.val s] [] (I := Nat) (fun _ => True) (fun c => .pointer (some ⟨c, 0, none⟩)) (fun c => [M.It c (Q.oneV i) (Q.S.cells (Q.norm s))]) := by
  intro w oo aa hh
  refine E.enter (n := 34) (S := oo) Try.func19 rfl rfl (by kernel_rfl) (A.start (L := []) hh) ?_
  refine E.sr ?_
  refine E.G.new (fun g => .pointer (some ⟨g, 0, none⟩)) [.int .i64 i.op, .int .i64 i.d, .int .i64 i.a, .int .i64 i.b, .int .u32 i.imm] 47 (fun w => by kernel_rfl) (by kernel_rfl) (fun g1 => ?_)
  refine E.G.new (fun g => .pointer (some ⟨g, 0, none⟩)) (Q.S.cells s) 27 (fun w => by kernel_rfl) (by kernel_rfl) (fun g2 => ?_)
  refine E.op (.pointer none) ?_
  refine E.tr ?_
  refine A.G.call (I := Nat) (D := fun m3 => True) (V := fun m3 => .pointer (some ⟨m3, 0, none⟩)) (q := fun m3 => [M.It m3 (M.V.new (M.np 1) false) (Q.S.cells Q.z0)]) [A.blk g2 (Q.S.cells s), A.blk g1 ([.int .i64 i.op, .int .i64 i.d, .int .i64 i.a, .int .i64 i.b, .int .u32 i.imm])] (fun m3 => [(g2, (Q.S.cells s)), (g1, [.int .i64 i.op, .int .i64 i.d, .int .i64 i.a, .int .i64 i.b, .int .u32 i.imm])]) (fun m3 => [M.It m3 (M.V.new (M.np 1) false) (Q.S.cells Q.z0)]) (CNew 1) (by kernel_rfl) (A.pm [0, 1] (by kernel_rfl) (by kernel_rfl)) (fun m3 => A.pm [1, 2, 0] (by kernel_rfl) (by kernel_rfl)) (fun w _ => by kernel_rfl) (by kernel_rfl) (fun m3 hd4 => ?_)
  refine E.op (.pointer (some ⟨m3, 0, none⟩)) ?_
  refine E.To.code ?_
  refine E.C.seq ?_
  refine E.sr ?_
  refine E.op (.pointer (some ⟨m3, 0, none⟩)) ?_
  refine E.op (.bool false) ?_
  refine E.To.code ?_
  refine E.C.condF (by kernel_rfl) (by kernel_rfl) ?_
  refine E.C.skip (E.To.code ?_)
  refine E.sr ?_
  refine E.li (.agg #[.int .i64 i.op, .int .i64 i.d, .int .i64 i.a, .int .i64 i.b, .int .u32 i.imm]) 1 rfl rfl ?_
  refine E.G.call (.tuple #[.int .u32 ((Q3.encode i).1), .int .i64 ((Q3.encode i).2)]) (fun w h => Encode3_any i hm w) (fun w _ => by kernel_rfl) (by kernel_rfl) ?_
  refine E.op (.tuple #[.int .u32 ((Q3.encode i).1), .int .i64 ((Q3.encode i).2)]) ?_
  refine E.op (.int .u32 ((Q3.encode i).1)) ?_
  refine E.op (.int .i64 ((Q3.encode i).2)) ?_
  refine E.op (.int .u32 ((Q3.encode i).1)) ?_
  refine E.op (.int .i64 ((Q3.encode i).2)) ?_
  refine E.To.code ?_
  refine E.C.weak [(3, .pointer (some ⟨g2, 0, none⟩)), (4, .pointer none), (5, .pointer (some ⟨m3, 0, none⟩)), (6, .int .u32 ((Q3.encode i).1))] [(g2, (Q.S.cells s))] ⟨by kernel_rfl, by kernel_rfl⟩ (List.Sublist.cons_cons _ (List.nil_sublist _)) ?_
  refine E.C.seq ?_
  refine E.C.held (A.Y [A.blk g2 (Q.S.cells s)]) (by kernel_rfl) ?_
  refine E.H.take 0 (.pointer (some ⟨m3, 0, none⟩)) rfl (by kernel_rfl) (by kernel_rfl) (by kernel_rfl) (fun _ _ _ h => h) (fun w h => A.hpY (p := [A.blk g2 (Q.S.cells s)]) (r := [M.It m3 (M.V.new (M.np 1) false) (Q.S.cells Q.z0)]) h (by kernel_rfl) (A.pm [0, 1] (by kernel_rfl) (by kernel_rfl))) (.inl ⟨by kernel_rfl, by kernel_rfl, fun w h => by kernel_rfl⟩) (by kernel_rfl) ?_
  refine E.H.take 1 (.pointer (some ⟨m3, 0, none⟩)) rfl (by kernel_rfl) (by kernel_rfl) (by kernel_rfl) (fun _ _ _ h => h) (fun w h => A.hpY (p := [A.blk g2 (Q.S.cells s)]) (r := [M.It m3 (M.V.new (M.np 1) false) (Q.S.cells Q.z0)]) h (by kernel_rfl) (A.pm [0, 1] (by kernel_rfl) (by kernel_rfl))) (.inl ⟨by kernel_rfl, by kernel_rfl, fun w h => by kernel_rfl⟩) (by kernel_rfl) ?_
  refine E.H.take 2 (.pointer (some ⟨m3, 0, none⟩)) rfl (by kernel_rfl) (by kernel_rfl) (by kernel_rfl) (fun _ _ _ h => h) (fun w h => A.hpY (p := [A.blk g2 (Q.S.cells s)]) (r := [M.It m3 (M.V.new (M.np 1) false) (Q.S.cells Q.z0)]) h (by kernel_rfl) (A.pm [0, 1] (by kernel_rfl) (by kernel_rfl))) (.inl ⟨by kernel_rfl, by kernel_rfl, fun w h => by kernel_rfl⟩) (by kernel_rfl) ?_
  refine E.H.take 3 (.int .u32 ((Q3.encode i).1)) rfl (by kernel_rfl) (by kernel_rfl) (by kernel_rfl) (fun _ _ _ h => h) (fun w h => A.hpY (p := [A.blk g2 (Q.S.cells s)]) (r := [M.It m3 (M.V.new (M.np 1) false) (Q.S.cells Q.z0)]) h (by kernel_rfl) (A.pm [0, 1] (by kernel_rfl) (by kernel_rfl))) (.inl ⟨by kernel_rfl, by kernel_rfl, fun w h => by kernel_rfl⟩) (by kernel_rfl) ?_
  refine E.H.all [4] (by kernel_rfl) (by simp) (List.forall_mem_cons.2 ⟨⟨_, rfl, ?_⟩, fun _ h => (List.not_mem_nil h).elim⟩)
  · skip
    refine E.G.call (.string (W.put ((Q3.encode i).1) 4)) (fun w h => rPut_all ((Q3.encode i).1) 4 (Q3.enc_bd _) (by omega) w) (fun w _ => by kernel_rfl) (by kernel_rfl) ?_
    refine E.H.back (fun w h => A.hpY (p := [A.blk g2 (Q.S.cells s)]) (r := [M.It m3 (M.V.new (M.np 1) false) (Q.S.cells Q.z0)]) h (by kernel_rfl) (A.pm [0, 1] (by kernel_rfl) (by kernel_rfl))) ?_
    refine E.H.all [5] (by kernel_rfl) (by simp) (List.forall_mem_cons.2 ⟨⟨_, rfl, ?_⟩, fun _ h => (List.not_mem_nil h).elim⟩)
    · skip
      refine A.G.call (I := Unit) (D := fun _ => True) (V := fun _ => .tuple #[]) (q := fun _ => [M.It m3 ((M.V.new (M.np 1) false).poke (0 : Int).toNat (W.put ((Q3.encode i).1) 4) (W.put ((Q3.encode i).1) 4).size) (Q.S.cells Q.z0)]) [A.blk g2 (Q.S.cells s)] (fun _ => [(g2, (Q.S.cells s))]) (fun _ => [M.It m3 ((M.V.new (M.np 1) false).poke (0 : Int).toNat (W.put ((Q3.encode i).1) 4) (W.put ((Q3.encode i).1) 4).size) (Q.S.cells Q.z0)]) (I_Poke 0 (W.put ((Q3.encode i).1) 4) (by decide) (by rw [Q.put_size]; decide) (m := m3) (V := (M.V.new (M.np 1) false)) (xs := (Q.S.cells Q.z0))) (by kernel_rfl) (A.pm [1, 0] (by kernel_rfl) (by kernel_rfl)) (fun _ => A.pm [1, 0] (by kernel_rfl) (by kernel_rfl)) (fun w _ => by kernel_rfl) (by kernel_rfl) (fun _ hd5 => ?_)
      refine E.H.back (fun w h => A.hpY (p := [A.blk g2 (Q.S.cells s)]) (r := [M.It m3 ((M.V.new (M.np 1) false).poke (0 : Int).toNat (W.put ((Q3.encode i).1) 4) (W.put ((Q3.encode i).1) 4).size) (Q.S.cells Q.z0)]) h (by kernel_rfl) (A.pm [0, 1] (by kernel_rfl) (by kernel_rfl))) ?_
      refine E.H.done (by kernel_rfl) ?_
      refine E.tr ?_
      refine E.op (.pointer (some ⟨m3, 0, none⟩)) ?_
      refine E.op (.pointer (some ⟨m3, 0, none⟩)) ?_
      refine E.op (.pointer (some ⟨m3, 0, none⟩)) ?_
      refine A.G.call (I := Unit) (D := fun _ => True) (V := fun _ => .bool (decide ((0 : Int).toNat / 256 < ((M.V.new (M.np 1) false).poke (0 : Int).toNat (W.put ((Q3.encode i).1) 4) (W.put ((Q3.encode i).1) 4).size).n))) (q := fun _ => [M.It m3 (((M.V.new (M.np 1) false).poke (0 : Int).toNat (W.put ((Q3.encode i).1) 4) (W.put ((Q3.encode i).1) 4).size).sync ((0 : Int).toNat / 256)) (Q.S.cells Q.z0)]) [A.blk g2 (Q.S.cells s)] (fun _ => [(g2, (Q.S.cells s))]) (fun _ => [M.It m3 (((M.V.new (M.np 1) false).poke (0 : Int).toNat (W.put ((Q3.encode i).1) 4) (W.put ((Q3.encode i).1) 4).size).sync ((0 : Int).toNat / 256)) (Q.S.cells Q.z0)]) (I_Sync 0 (by decide) (m := m3) (V := ((M.V.new (M.np 1) false).poke (0 : Int).toNat (W.put ((Q3.encode i).1) 4) (W.put ((Q3.encode i).1) 4).size)) (xs := (Q.S.cells Q.z0))) (by kernel_rfl) (A.pm [1, 0] (by kernel_rfl) (by kernel_rfl)) (fun _ => A.pm [1, 0] (by kernel_rfl) (by kernel_rfl)) (fun w _ => by kernel_rfl) (by kernel_rfl) (fun _ hd6 => ?_)
      refine E.To.code ?_
      refine E.C.weak [(3, .pointer (some ⟨g2, 0, none⟩)), (4, .pointer none), (5, .pointer (some ⟨m3, 0, none⟩))] [(g2, (Q.S.cells s))] ⟨by kernel_rfl, by kernel_rfl⟩ (List.Sublist.refl _) ?_
      refine E.sr ?_
      refine E.op (.pointer (some ⟨m3, 0, none⟩)) ?_
      refine E.op (.pointer (some ⟨m3, 0, none⟩)) ?_
      refine E.op (.pointer (some ⟨m3, 0, none⟩)) ?_
      refine A.G.call (I := Unit) (D := fun _ => True) (V := fun _ => .tuple #[]) (q := fun _ => [M.It m3 (Q.oneV i) (Q.S.cells Q.z0)]) [A.blk g2 (Q.S.cells s)] (fun _ => [(g2, (Q.S.cells s))]) (fun _ => [M.It m3 (Q.oneV i) (Q.S.cells Q.z0)]) (A_Protect 0 7 (m := m3) (V := (((M.V.new (M.np 1) false).poke (0 : Int).toNat (W.put ((Q3.encode i).1) 4) (W.put ((Q3.encode i).1) 4).size).sync ((0 : Int).toNat / 256))) (xs := (Q.S.cells Q.z0))) (by kernel_rfl) (A.pm [1, 0] (by kernel_rfl) (by kernel_rfl)) (fun _ => A.pm [1, 0] (by kernel_rfl) (by kernel_rfl)) (fun w _ => by kernel_rfl) (by kernel_rfl) (fun _ hd7 => ?_)
      refine E.tr ?_
      refine E.op (.pointer (some ⟨m3, 0, none⟩)) ?_
      refine E.li (Q.S.val s) 0 rfl rfl ?_
      refine A.G.call (I := Unit) (D := fun _ => True) (V := fun _ => .tuple #[]) (q := fun _ => [M.It m3 (Q.oneV i) (Q.S.cells (Q.norm s))]) [A.blk g2 (Q.S.cells s)] (fun _ => [(g2, (Q.S.cells s))]) (fun _ => [M.It m3 (Q.oneV i) (Q.S.cells (Q.norm s))]) (CSet (c := m3) (V := (Q.oneV i)) (s0 := Q.z0) s) (by kernel_rfl) (A.pm [1, 0] (by kernel_rfl) (by kernel_rfl)) (fun _ => A.pm [1, 0] (by kernel_rfl) (by kernel_rfl)) (fun w _ => by kernel_rfl) (by kernel_rfl) (fun _ hd8 => ?_)
      refine E.To.code ?_
      refine E.C.weak [(4, .pointer none), (5, .pointer (some ⟨m3, 0, none⟩))] [] ⟨by kernel_rfl, by kernel_rfl⟩ (List.nil_sublist _) ?_
      refine E.sr ?_
      refine E.op (.pointer (some ⟨m3, 0, none⟩)) ?_
      refine E.op (.pointer (some ⟨m3, 0, none⟩)) ?_
      refine E.To.code ?_
      refine E.C.ret (E.To.body (fn := Try.f19) [.pointer (some ⟨m3, 0, none⟩)] ?_ ?_)
      · exact ⟨⟨by kernel_rfl, by kernel_rfl⟩, trivial⟩
      · intro w h
        exact ⟨m3, trivial, rfl, A.done (q := [M.It m3 (Q.oneV i) (Q.S.cells (Q.norm s))]) (r := []) h (by kernel_rfl) (A.pm [0] (by kernel_rfl) (by kernel_rfl))⟩
end Go.Proofs.Ytgbndbljohpnmaa

/- XQw -/
namespace Go.Proofs.Ytgbndbljohpnmaa
set_option linter.unusedVariables false
set_option linter.unusedSimpArgs false
open Go.RowKit
theorem Q.put_bytes {w : Int} : strOfNums [W.byt (W.put w 4).data.toList 0, W.byt (W.put w 4).data.toList 1, W.byt (W.put w 4).data.toList 2, W.byt (W.put w 4).data.toList 3] = W.put w 4 := by
  have e : W.put w 4 = strOfNums (W.bytes4 w) := by unfold W.put; rfl
  have h : ∀ j, W.byt (W.put w 4).data.toList j = (W.bytes4 w).getD j 0 := fun j => by rw [e]; exact W.byt_nums _ _ (fun x hx => W.bytes4_bd w x hx)
  rw [h, h, h, h, e]; rfl
theorem Q.get_back {w : Int} (hw : 0 ≤ w ∧ w < 4294967296) : W.get (W.put w 4).data.toList = w := by
  rw [W.get_put w 4 (by decide) (by decide) hw.1 hw.2]
  show w % 4294967296 = w
  omega
theorem Q.wt (p k : Nat) (h : p + k < 4294967296) : (IntKind.wrap .u32 (((p : Nat) : Int) + ((k : Nat) : Int))).toNat = p + k := by rw [Q.wr]; omega
/-- A word lies in the fetch image of a page that may be executed. -/
def Q.holds (V : M.V) (p : Nat) (w : Int) : Prop := ∀ k, k < 4 → V.fetch (p + k) = (W.byt (W.put w 4).data.toList k, true)
theorem Q.fetch_holds {V : M.V} {p : Nat} {w : Int} {i : Q.I} (hp : p % 4 = 0) (hl : p + 4 ≤ 4294967296) (hw : 0 ≤ w ∧ w < 4294967296) (h : Q.holds V p w) (hd : Q.decode w = (i, 0)) : Q.fetch V ((p : Nat) : Int) = (i, 0, 0) := by
  have t : (Int.tmod ((p : Nat) : Int) 4 != 0) = false := by
    rw [Int.tmod_eq_emod_of_nonneg (by omega)]; simp; omega
  have w0 : (IntKind.wrap .u32 (((p : Nat) : Int) + 0)).toNat = p + 0 := Q.wt p 0 (by omega)
  have w1 : (IntKind.wrap .u32 (((p : Nat) : Int) + 1)).toNat = p + 1 := Q.wt p 1 (by omega)
  have w2 : (IntKind.wrap .u32 (((p : Nat) : Int) + 2)).toNat = p + 2 := Q.wt p 2 (by omega)
  have w3 : (IntKind.wrap .u32 (((p : Nat) : Int) + 3)).toNat = p + 3 := Q.wt p 3 (by omega)
  unfold Q.fetch
  rw [t, w0, w1, w2, w3, h 0 (by decide), h 1 (by decide), h 2 (by decide), h 3 (by decide)]
  show (bif ((Q.decode (W.get (strOfNums [W.byt (W.put w 4).data.toList 0, W.byt (W.put w 4).data.toList 1, W.byt (W.put w 4).data.toList 2, W.byt (W.put w 4).data.toList 3]).data.toList)).2 != 0) then _ else ((Q.decode (W.get (strOfNums [W.byt (W.put w 4).data.toList 0, W.byt (W.put w 4).data.toList 1, W.byt (W.put w 4).data.toList 2, W.byt (W.put w 4).data.toList 3]).data.toList)).1, 0, 0)) = _
  rw [Q.put_bytes, Q.get_back hw, hd]; rfl
theorem M.poke_f (V : M.V) (a : Nat) (s : ByteArray) : ∀ c, (V.poke a s c).n = V.n ∧ (V.poke a s c).coh = V.coh ∧ (V.poke a s c).r = V.r
  | 0 => ⟨rfl, rfl, rfl⟩
  | c + 1 => by
    have h := M.poke_f V a s c
    rw [M.V.poke, M.V.set]
    split
    · exact h
    · exact h
/-- A text that is laid into the first page. -/
theorem M.poke_d0 {V : M.V} (h1 : V.n = 1) (a : Nat) (s : ByteArray) : ∀ c, a + c ≤ 256 → ∀ x, (V.poke a s c).d 0 x = if a ≤ x ∧ x < a + c then W.byt s.data.toList (x - a) else V.d 0 x
  | 0, _, x => by rw [if_neg (by omega)]; rfl
  | c + 1, hc, x => by
    have h := M.poke_d0 h1 a s c (by omega) x
    have hf := M.poke_f V a s c
    rw [M.V.poke, M.V.set, Nat.mod_eq_of_lt (by omega), if_pos (by rw [hf.1, h1]; omega)]
    show (if 0 = (a + c) / 256 ∧ x = (a + c) % 256 then _ else (V.poke a s c).d 0 x) = _
    by_cases e : x = a + c
    · subst e
      rw [if_pos ⟨by omega, by omega⟩, if_pos ⟨by omega, by omega⟩, Nat.add_sub_cancel_left]
    · rw [if_neg (by omega), h]
      by_cases k : a ≤ x ∧ x < a + c
      · rw [if_pos k, if_pos (by omega)]
      · rw [if_neg k, if_neg (by omega)]
/-- A machine of one page that may be executed. -/
structure Q.one (V : M.V) : Prop where
  n : V.n = 1
  coh : V.coh = false
  r : V.r 0 = 7
theorem Q.one.poke {V : M.V} (h : Q.one V) (a : Nat) (s : ByteArray) (c : Nat) : Q.one (V.poke a s c) :=
  ⟨(M.poke_f V a s c).1.trans h.n, (M.poke_f V a s c).2.1.trans h.coh, by rw [(M.poke_f V a s c).2.2]; exact h.r⟩
theorem Q.one.sync {V : M.V} (h : Q.one V) : Q.one (V.sync 0) ∧ (∀ x, (V.sync 0).i 0 x = V.d 0 x) ∧ (∀ x, (V.sync 0).d 0 x = V.d 0 x) := by
  unfold M.V.sync
  rw [if_pos ⟨by rw [h.n]; decide, h.coh⟩]
  exact ⟨⟨h.n, h.coh, h.r⟩, fun x => (show (if (0 : Nat) = 0 then V.d 0 x else V.i 0 x) = V.d 0 x from if_pos rfl), fun _ => rfl⟩
theorem Q.one.fetch {V : M.V} (h : Q.one V) {x : Nat} (hx : x < 256) : V.fetch x = (V.i 0 x, true) := by
  have e : x / 256 = 0 := by omega
  have e2 : x % 256 = x := by omega
  have ok : V.ok x 4 = true := by unfold M.V.ok; rw [e, h.n, h.r]; decide
  unfold M.V.fetch
  rw [if_pos ok]
  unfold M.V.code
  rw [if_pos (by rw [e, h.n]; decide), e, e2]
theorem Q.oneV_one (i : Q.I) : Q.one (Q.oneV i) ∧ (∀ x, x < 4 → (Q.oneV i).d 0 x = W.byt (W.put (Q3.encode i).1 4).data.toList x) ∧ (∀ x, (Q.oneV i).i 0 x = (Q.oneV i).d 0 x) := by
  have h0 : (M.V.new (M.np 1) false).n = 1 := by decide
  have hp := M.poke_f (M.V.new (M.np 1) false) 0 (W.put (Q3.encode i).1 4) (W.put (Q3.encode i).1 4).size
  have hd := M.poke_d0 h0 0 (W.put (Q3.encode i).1 4) 4 (by decide)
  unfold Q.oneV
  rw [Q.put_size] at hp ⊢
  generalize (M.V.new (M.np 1) false).poke 0 (W.put (Q3.encode i).1 4) 4 = V at *
  have hs : V.sync (0 / 256) = { V with i := fun j x => if j = 0 then V.d j x else V.i j x } := if_pos ⟨by rw [hp.1, h0]; decide, hp.2.1⟩
  rw [hs]
  unfold M.V.prot
  rw [if_pos ⟨by decide, by show (0 : Int) < ((V.n : Nat) : Int); rw [hp.1, h0]; decide⟩]
  refine ⟨⟨hp.1.trans h0, hp.2.1, ?_⟩, fun x hx => ?_, fun x => (show (if (0 : Nat) = 0 then V.d 0 x else V.i 0 x) = V.d 0 x from if_pos rfl)⟩
  · show (if 0 = (0 : Int).toNat then bits .and .i64 7 7 else V.r 0) = 7
    rw [if_pos (by decide)]; decide
  · show V.d 0 x = _
    rw [hd x, if_pos ⟨by omega, by omega⟩, Nat.sub_zero]
theorem Q.oneV_fetch {i : Q.I} (hn : 0 ≤ i.imm ∧ i.imm < 4294967296) (h : Q3.valid i = true) : Q.fetch (Q.oneV i) 0 = (i, 0, 0) := by
  obtain ⟨h1, hd, hi⟩ := Q.oneV_one i
  refine Q.fetch_holds (p := 0) (by decide) (by decide) (Q3.enc_bd i) (fun k hk => ?_) (Q3.valid_enc hn h).2.2
  rw [Nat.zero_add, h1.fetch (by omega), hi, hd k hk]
theorem Q.up_same {f : Nat → Int} (h : f 0 = 0) : Q.up f 0 0 = f := by
  funext k
  unfold Q.up
  by_cases e : k = 0
  · rw [if_pos e, e, h]
  · rw [if_neg e]
/-- What an instruction leaves of the registers. -/
def Q.zk (i : Q.I) (s : Q.S) (x : Q.S × Int × Int × M.V) : Prop := x.2.1 ≠ 0 ∨ ((∀ k, k ≠ i.d.toNat → x.1.r k = s.r k) ∧ x.1.r 0 = 0 ∧ x.1.st = s.st + 1 ∧ (x.1.du = s.du ∨ x.1.du = 0 ∨ x.1.du > s.st + 1))
theorem Q.zk_st {s : Q.S} (h : 0 ≤ s.st ∧ s.st < 1000000000000) : IntKind.wrap .i64 (s.st + 1) = s.st + 1 := IntWalk.i64_in _ (by omega)
theorem Q.zk0 {s : Q.S} (h0 : s.r 0 = 0) (d : Nat) (v : Int) : (∀ k, k ≠ d → Q.up (Q.up (Q.up s.r 0 0) d v) 0 0 k = s.r k) ∧ Q.up (Q.up (Q.up s.r 0 0) d v) 0 0 0 = 0 := by
  rw [Q.up_same h0]
  refine ⟨fun k hk => ?_, if_pos rfl⟩
  unfold Q.up
  by_cases e : k = 0
  · rw [if_pos e, e, h0]
  · rw [if_neg e, if_neg hk]
theorem Q.zk1 {s : Q.S} (h0 : s.r 0 = 0) (d : Nat) : (∀ k, k ≠ d → Q.up (Q.up s.r 0 0) 0 0 k = s.r k) ∧ Q.up (Q.up s.r 0 0) 0 0 0 = 0 := by
  rw [Q.up_same h0, Q.up_same h0]
  exact ⟨fun _ _ => rfl, h0⟩
theorem Q.zkr {s : Q.S} (h0 : s.r 0 = 0) {d : Nat} {x : Q.S} {v : Int} (hx : x.r = Q.up (Q.up (Q.up s.r 0 0) d v) 0 0) : (∀ k, k ≠ d → x.r k = s.r k) ∧ x.r 0 = 0 := by
  rw [hx]; exact Q.zk0 h0 d v
theorem Q.zki {i : Q.I} {s : Q.S} {x : Q.S × Int × Int × M.V} (h : (∀ k, k ≠ i.d.toNat → x.1.r k = s.r k) ∧ x.1.r 0 = 0) (hs : x.1.st = s.st + 1) (hd : x.1.du = s.du) : Q.zk i s x := Or.inr ⟨h.1, h.2, hs, Or.inl hd⟩
theorem Q.ctl_r (s : Q.S) (n v : Int) : (Q.ctl s n v).r = s.r ∧ (Q.ctl s n v).st = s.st := by
  unfold Q.ctl
  exact Q.bifP (p := fun x : Q.S => x.r = s.r ∧ x.st = s.st) (fun _ => ⟨rfl, rfl⟩) fun _ => Q.bifP (p := fun x : Q.S => x.r = s.r ∧ x.st = s.st) (fun _ => ⟨rfl, rfl⟩) fun _ => Q.bifP (p := fun x : Q.S => x.r = s.r ∧ x.st = s.st) (fun _ => ⟨rfl, rfl⟩) fun _ => ⟨rfl, rfl⟩
theorem Q.ctl_du {s : Q.S} (h : 0 ≤ s.st ∧ s.st < 1000000000000) (n : Int) {v : Int} (hv : 0 ≤ v ∧ v < 4294967296) : (Q.ctl s n v).du = s.du ∨ (Q.ctl s n v).du = 0 ∨ (Q.ctl s n v).du > s.st + 1 := by
  unfold Q.ctl
  refine Q.bifP (p := fun x : Q.S => x.du = s.du ∨ x.du = 0 ∨ x.du > s.st + 1) (fun _ => Or.inr (Or.inl rfl)) fun h1 => Q.bifP (p := fun x : Q.S => x.du = s.du ∨ x.du = 0 ∨ x.du > s.st + 1) (fun h2 => Or.inr (Or.inr ?_)) fun _ => Q.bifP (p := fun x : Q.S => x.du = s.du ∨ x.du = 0 ∨ x.du > s.st + 1) (fun _ => Or.inl rfl) fun _ => Or.inl rfl
  have hz : v ≠ 0 := by
    intro e; rw [h2, e] at h1; cases h1
  show IntKind.wrap .i64 (IntKind.wrap .i64 (s.st + 1) + IntKind.wrap .i64 v) > s.st + 1
  rw [IntWalk.i64_in v (by omega), IntWalk.i64_in (s.st + 1) (by omega), IntWalk.i64_in _ (by omega)]
  omega
theorem Q.zk_step {i : Q.I} {t : Int} {s : Q.S} {V : M.V} (hs : Q.wf s) (h0 : s.r 0 = 0) (hst : 0 ≤ s.st ∧ s.st < 1000000000000) : Q.zk i s (Q.stepI i 0 t s V) := by
  have hz : (0 : Int) ≤ 0 ∧ (0 : Int) < 4294967296 := by decide
  have hr0 : ∀ d, 0 ≤ Q.up s.r 0 0 d ∧ Q.up s.r 0 0 d < 4294967296 := Q.up_bd hs.r hz
  have e1 := Q.zk_st hst
  have z0 := fun v => Q.zk0 h0 i.d.toNat v
  have z1 := Q.zk1 h0 i.d.toNat
  have hc := Q.ctl_r (⟨s.pc, (Q.up s.r 0 0), s.f, s.c, s.st, s.du⟩ : Q.S) i.imm ((Q.up s.r 0 0) ((i.a).toNat))
  have hcd := Q.ctl_du (s := (⟨s.pc, (Q.up s.r 0 0), s.f, s.c, s.st, s.du⟩ : Q.S)) hst i.imm (hr0 ((i.a).toNat))
  have ne : ∀ x : Int, (x != 0) = true → x ≠ 0 := fun x h => by simpa using h
  unfold Q.stepI
  refine Q.bifP (p := Q.zk i s) (fun hk => ?_) (fun h => by cases h)
  repeat' (first
    | exact Q.zki (Q.zkr h0 rfl) e1 rfl
    | exact Or.inr ⟨z1.1, z1.2, e1, Or.inl rfl⟩
    | exact Or.inr ⟨by rw [hc.1]; exact z1.1, by rw [hc.1]; exact z1.2, by show IntKind.wrap .i64 (_ + 1) = _; rw [hc.2]; exact e1, hcd⟩
    | refine Q.bifP (p := Q.zk i s) (fun hx => ?_) (fun _ => ?_)
    | exact Or.inl (ne _ hx)
    | exact Or.inl (by show (5 : Int) ≠ 0; decide)
    | exact Or.inl (by show (6 : Int) ≠ 0; decide))
end Go.Proofs.Ytgbndbljohpnmaa

/- XQx -/
namespace Go.Proofs.Ytgbndbljohpnmaa
set_option linter.unusedVariables false
set_option linter.unusedSimpArgs false
open Go.RowKit
def Q.zr (a b : Int) : Nat → Nat → Int
  | 0 => fun _ => 0
  | k + 1 => Q.up (Q.zr a b k) k (IntKind.wrap .u32 (a + (IntKind.wrap .u32 ((IntKind.wrap .u32 ((k : Nat) : Int)) * b))))
theorem Q.zr_bd (a b : Int) : ∀ k j, 0 ≤ Q.zr a b k j ∧ Q.zr a b k j < 4294967296
  | 0, j => by show (0 : Int) ≤ 0 ∧ (0 : Int) < 4294967296; decide
  | k + 1, j => Q.up_bd (Q.zr_bd a b k) (Q.wrap_bd _) j
theorem Q3.opAt_is : ∀ k : Fin 39, (Q3.of (Q3.opAt ((k.val : Nat) : Int))).is = true := by decide +kernel
theorem Q3.at_is (a : Int) : (Q3.of (Q3.opAt (a % 39))).is = true := by
  have h : 0 ≤ a % 39 ∧ a % 39 < 39 := ⟨Int.emod_nonneg _ (by decide), Int.emod_lt_of_pos _ (by decide)⟩
  obtain ⟨n, e⟩ := Int.eq_ofNat_of_zero_le h.1
  rw [e]; exact Q3.opAt_is ⟨n, by omega⟩
def Q3.okF (F : Q3.Fm) : Bool := (decide (F.bits = 22) || decide (F.bits = 18) || decide (F.bits = 0)) && (decide (F.most = 0) || decide (F.bits = 18) && !F.sg) && (!decide (F.bits = 0) || !F.sg)
theorem Q3.okF_tab : ∀ k : Fin 64, Q3.okF (Q3.of ((k.val : Nat) : Int)) = true := by decide +kernel
theorem Q3.okF_of {x : Int} (h : (Q3.of x).is = true) : Q3.okF (Q3.of x) = true := by
  have hr := Q3.op_rng h
  obtain ⟨n, rfl⟩ := Int.eq_ofNat_of_zero_le hr.1
  exact Q3.okF_tab ⟨n, by omega⟩
theorem Q3.sgn {k : Nat} (hk : k = 22 ∨ k = 18) (n : Int) (hn : 0 ≤ n ∧ n < ((2 ^ k : Nat) : Int)) : W.sign (W.sign n ((k : Nat) : Int)) ((k : Nat) : Int) = W.sign n ((k : Nat) : Int) := by
  rcases hk with rfl | rfl
  · have hn : 0 ≤ n ∧ n < 4194304 := hn
    show W.sign (W.sign n 22) 22 = W.sign n 22
    simp only [W.sign, Int.reduceSub, Int.reduceToNat, Int.reducePow, Int.reduceLT, Int.reduceLE, ↓reduceIte]
    split <;> split <;> omega
  · have hn : 0 ≤ n ∧ n < 262144 := hn
    show W.sign (W.sign n 18) 18 = W.sign n 18
    simp only [W.sign, Int.reduceSub, Int.reduceToNat, Int.reducePow, Int.reduceLT, Int.reduceLE, ↓reduceIte]
    split <;> split <;> omega
def Q3.mi (F : Q3.Fm) (y : Int) : Int := (bif (decide ((F.most) > 0)) then (bif F.sg then (W.sign (IntKind.wrap .u32 (y % (F.most + 1))) ((F.bits : Nat) : Int)) else (IntKind.wrap .u32 (y % (F.most + 1)))) else (bif (decide (((F.bits : Nat) : Int) > 0)) then (bif F.sg then (W.sign (IntKind.wrap .u32 (y % (Q3.two F.bits))) ((F.bits : Nat) : Int)) else (IntKind.wrap .u32 (y % (Q3.two F.bits)))) else (bif F.sg then (W.sign 0 ((F.bits : Nat) : Int)) else 0)))
theorem Q3.made_eq (a b c x y : Int) : Q3.made a b c x y = ⟨(Q3.opAt (a % 39)), (bif (Q3.of (Q3.opAt (a % 39))).d then (b % 16) else 0), (bif (Q3.of (Q3.opAt (a % 39))).a then (c % 16) else 0), (bif (Q3.of (Q3.opAt (a % 39))).b then (x % 16) else 0), Q3.mi (Q3.of (Q3.opAt (a % 39))) y⟩ := by
  unfold Q3.made Q3.mi
  generalize Q3.of (Q3.opAt (a % 39)) = F
  cases decide (F.most > 0) <;> cases decide (((F.bits : Nat) : Int) > 0) <;> rfl
theorem Q3.mi_bd (F : Q3.Fm) (y : Int) : 0 ≤ Q3.mi F y ∧ Q3.mi F y < 4294967296 := by
  unfold Q3.mi
  exact Q.bif_bd (Q.bif_bd (Q.sign_bd (Q.wrap_bd _) _) (Q.wrap_bd _)) (Q.bif_bd (Q.bif_bd (Q.sign_bd (Q.wrap_bd _) _) (Q.wrap_bd _)) (Q.bif_bd (Q.sign_bd (by decide) _) (by decide)))
theorem Q3.made_bd (a b c x y : Int) : 0 ≤ (Q3.made a b c x y).imm ∧ (Q3.made a b c x y).imm < 4294967296 := by
  rw [Q3.made_eq]; exact Q3.mi_bd _ _
theorem Q3.mi_ok {F : Q3.Fm} (h : Q3.okF F = true) (hm : 0 ≤ F.most ∧ F.most ≤ 4) (y : Int) : Q3.iimm F (Q3.mi F y) = true := by
  obtain ⟨is, d, a, b, sg, bits, most⟩ := F
  have hr : ∀ z : Int, 0 < z → 0 ≤ y % z ∧ y % z < z := fun z hz => ⟨Int.emod_nonneg _ (by omega), Int.emod_lt_of_pos _ hz⟩
  simp only [Q3.okF, Bool.and_eq_true, Bool.or_eq_true, decide_eq_true_eq, Bool.not_eq_true'] at h hm
  obtain ⟨⟨h1, h2⟩, h3⟩ := h
  have ns : ∀ x : Bool, x = false → (bif x then W.sign 0 0 else (0 : Int)) = 0 := fun x h => by rw [h]; rfl
  unfold Q3.iimm Q3.mi
  rcases h1 with (rfl | rfl) | rfl
  · have e : most = 0 := h2.elim (fun h => h) (fun h => absurd h.1 (by decide))
    subst e
    have hy := hr 4194304 (by decide)
    have hw : IntKind.wrap .u32 (y % Q3.two 22) = y % 4194304 := by show (y % 4194304) % 4294967296 = _; omega
    cases sg
    · show decide ((IntKind.wrap .u32 (y % Q3.two 22)) < 4194304) = true
      rw [hw]; simp; omega
    · show (W.sign (W.sign (IntKind.wrap .u32 (y % Q3.two 22)) 22) 22 == W.sign (IntKind.wrap .u32 (y % Q3.two 22)) 22) = true
      rw [hw, show W.sign (W.sign (y % 4194304) 22) 22 = W.sign (y % 4194304) 22 from Q3.sgn (k := 22) (Or.inl rfl) _ hy]; simp
  · have hy := hr 262144 (by decide)
    have hw : IntKind.wrap .u32 (y % Q3.two 18) = y % 262144 := by show (y % 262144) % 4294967296 = _; omega
    by_cases hp : most > 0
    · have hsg : sg = false := h2.elim (fun h => absurd h (by omega)) (fun h => h.2)
      subst hsg
      have hq := hr (most + 1) (by omega)
      rw [decide_eq_true hp]
      show decide (IntKind.wrap .u32 (y % (most + 1)) ≤ most) = true
      rw [Q.wr]; simp; omega
    · have e : most = 0 := by omega
      subst e
      cases sg
      · show decide ((IntKind.wrap .u32 (y % Q3.two 18)) < 262144) = true
        rw [hw]; simp; omega
      · show (W.sign (W.sign (IntKind.wrap .u32 (y % Q3.two 18)) 18) 18 == W.sign (IntKind.wrap .u32 (y % Q3.two 18)) 18) = true
        rw [hw, show W.sign (W.sign (y % 262144) 18) 18 = W.sign (y % 262144) 18 from Q3.sgn (k := 18) (Or.inr rfl) _ hy]; simp
  · have e : most = 0 := h2.elim (fun h => h) (fun h => absurd h.1 (by decide))
    have hsg : sg = false := h3.elim (fun h => by simp at h) (fun h => h)
    subst e hsg
    rfl
theorem Q3.reg_made (u : Bool) (n : Int) : Q3.reg (bif u then n % 16 else 0) u = true := by
  unfold Q3.reg
  have hn : 0 ≤ n % 16 ∧ n % 16 < 16 := ⟨Int.emod_nonneg _ (by decide), Int.emod_lt_of_pos _ (by decide)⟩
  cases u
  · rfl
  · simp; omega
theorem Q3.made_valid (a b c x y : Int) : Q3.valid (Q3.made a b c x y) = true := by
  rw [Q3.made_eq]
  have h := Q3.at_is a
  have hk := Q3.mi_ok (Q3.okF_of h) (Q3.of_most _) y
  unfold Q3.valid
  show (bif (!((Q3.of (Q3.opAt (a % 39))).is)) then false else (bif (((!(Q3.reg (bif (Q3.of (Q3.opAt (a % 39))).d then (b % 16) else 0) ((Q3.of (Q3.opAt (a % 39))).d))) || (!(Q3.reg (bif (Q3.of (Q3.opAt (a % 39))).a then (c % 16) else 0) ((Q3.of (Q3.opAt (a % 39))).a)))) || (!(Q3.reg (bif (Q3.of (Q3.opAt (a % 39))).b then (x % 16) else 0) ((Q3.of (Q3.opAt (a % 39))).b)))) then false else Q3.iimm (Q3.of (Q3.opAt (a % 39))) (Q3.mi (Q3.of (Q3.opAt (a % 39))) y))) = true
  rw [h, Q3.reg_made, Q3.reg_made, Q3.reg_made, hk]; rfl
theorem Q.run1 {i : Q.I} {s : Q.S} {V : M.V} (hf : Q.fetch V s.pc = (i, 0, 0)) (hs : Q.wf s) (h0 : s.r 0 = 0) (hst : 0 ≤ s.st ∧ s.st < 1000000000000) (hdu : s.du = 0) :
    ((∀ k, (k ≠ i.d.toNat ∨ (Q.runs 1 s V).2.1 ≠ 1) → (Q.runs 1 s V).1.r k = s.r k) ∧ (Q.runs 1 s V).1.r 0 = 0) := by
  have hk := Q.zk_step (i := i) (t := 0) (V := V) hs h0 hst
  have e : Q.step s V = Q.stepI i 0 0 s V := by unfold Q.step; rw [hf]
  rw [← e] at hk
  have e1 : Q.runs 1 s V = bif ((Q.step s V).2.1 != 0) then (s, (Q.step s V).2.1, (Q.step s V).2.2.1, (Q.step s V).2.2.2) else Q.run 1 1 1 (Q.step s V).1 (Q.step s V).2.2.2 := by
    show Q.run 1 2 0 s V = _
    rw [Q.run, hdu]; rfl
  rw [e1]
  cases hx : ((Q.step s V).2.1 != 0) with
  | true => exact ⟨fun _ _ => rfl, h0⟩
  | false =>
    have hz : (Q.step s V).2.1 = 0 := by simpa using hx
    obtain ⟨g1, g2, g3, g4⟩ := hk.resolve_left (fun h => h hz)
    have hd : (decide ((Q.step s V).1.du > 0) && decide ((Q.step s V).1.st ≥ (Q.step s V).1.du)) = false := by
      rw [g3]; rw [hdu] at g4
      rcases g4 with g | g | g
      · rw [g]; rfl
      · rw [g]; rfl
      · rw [Bool.and_eq_false_iff]; right; simp; omega
    have e2 : Q.run 1 1 1 (Q.step s V).1 (Q.step s V).2.2.2 = ((Q.step s V).1, 1, 0, (Q.step s V).2.2.2) := by
      rw [Q.run, hd]; rfl
    rw [cond_false, e2]
    exact ⟨fun k h => g1 k (h.resolve_right (fun h => h rfl)), g2⟩
def Q.zs (a b : Int) (k : Nat) : Q.S := ⟨0, (Q.zr a b k), 0, (fun _ => 0), 0, 0⟩
theorem Q.zs_wf (a b : Int) (k : Nat) : Q.wf (Q.zs a b k) := ⟨by show (0 : Int) ≤ 0 ∧ (0 : Int) < 4294967296; decide, Q.zr_bd a b k, fun _ => by show (0 : Int) ≤ 0 ∧ (0 : Int) < 4294967296; decide⟩
theorem Q.zero_all (n0 n1 n2 n3 n4 w0 w1 : Int) (k : Nat) : ((∀ j, (j ≠ (Q3.made n0 n1 n2 n3 n4).d.toNat ∨ (Q.runs 1 (Q.norm (Q.zs w0 w1 k)) (Q.oneV (Q3.made n0 n1 n2 n3 n4))).2.1 ≠ 1) → (Q.runs 1 (Q.norm (Q.zs w0 w1 k)) (Q.oneV (Q3.made n0 n1 n2 n3 n4))).1.r j = (Q.norm (Q.zs w0 w1 k)).r j) ∧ (Q.runs 1 (Q.norm (Q.zs w0 w1 k)) (Q.oneV (Q3.made n0 n1 n2 n3 n4))).1.r 0 = 0) := Q.run1 (i := Q3.made n0 n1 n2 n3 n4) (s := Q.norm (Q.zs w0 w1 k)) (V := Q.oneV (Q3.made n0 n1 n2 n3 n4)) (Q.oneV_fetch (Q3.made_bd n0 n1 n2 n3 n4) (Q3.made_valid n0 n1 n2 n3 n4)) (Q.norm_wf (Q.zs_wf w0 w1 k)) (show (if (0 : Nat) = 0 then (0 : Int) else (Q.zs w0 w1 k).r 0) = 0 from if_pos rfl) (show (0 : Int) ≤ 0 ∧ (0 : Int) < 1000000000000 by decide) rfl
theorem Q.zeroC {n0 n1 n2 n3 n4 w0 w1 : Int} {k : Nat} : (((((Q.runs 1 (Q.norm (Q.zs w0 w1 k)) (Q.oneV (Q3.made n0 n1 n2 n3 n4))).1).r) 0) != 0) = false := by
  rw [(Q.zero_all n0 n1 n2 n3 n4 w0 w1 k).2]; rfl
theorem Q.zeroB {n0 n1 n2 n3 n4 w0 w1 : Int} {k j : Nat} (h : (((((Q.runs 1 (Q.norm (Q.zs w0 w1 k)) (Q.oneV (Q3.made n0 n1 n2 n3 n4))).1).r) ((((j : Nat) : Int)).toNat)) != ((Q.up (Q.zr w0 w1 k) 0 0) ((((j : Nat) : Int)).toNat))) = true) : ((((j : Nat) : Int) != ((Q3.made n0 n1 n2 n3 n4).d)) || (((Q.runs 1 (Q.norm (Q.zs w0 w1 k)) (Q.oneV (Q3.made n0 n1 n2 n3 n4))).2.1) != 1)) = false := by
  have ha := (Q.zero_all n0 n1 n2 n3 n4 w0 w1 k).1 ((((j : Nat) : Int)).toNat)
  cases e : ((((j : Nat) : Int) != ((Q3.made n0 n1 n2 n3 n4).d)) || (((Q.runs 1 (Q.norm (Q.zs w0 w1 k)) (Q.oneV (Q3.made n0 n1 n2 n3 n4))).2.1) != 1)) with
  | false => rfl
  | true =>
    have : ((((j : Nat) : Int)).toNat ≠ (Q3.made n0 n1 n2 n3 n4).d.toNat ∨ (Q.runs 1 (Q.norm (Q.zs w0 w1 k)) (Q.oneV (Q3.made n0 n1 n2 n3 n4))).2.1 ≠ 1) := by
      simp only [Bool.or_eq_true, bne_iff_ne, ne_eq] at e
      have hd : 0 ≤ (Q3.made n0 n1 n2 n3 n4).d := by
        rw [Q3.made_eq]
        show 0 ≤ (bif (Q3.of (Q3.opAt (n0 % 39))).d then (n1 % 16) else 0)
        cases (Q3.of (Q3.opAt (n0 % 39))).d
        · exact Int.le_refl _
        · exact Int.emod_nonneg _ (by decide)
      rcases e with e | e
      · exact Or.inl (by omega)
      · exact Or.inr e
    have := ha this
    rw [this] at h
    have hb : (((Q.up (Q.zr w0 w1 k) 0 0) ((((j : Nat) : Int)).toNat)) != ((Q.up (Q.zr w0 w1 k) 0 0) ((((j : Nat) : Int)).toNat))) = true := h
    rw [bne_self_eq_false] at hb; cases hb
theorem QcpuZero_rd (n0 n1 n2 n3 n4 w0 w1 : Int) (hn0 : -9223372036854775808 ≤ n0 ∧ n0 < 9223372036854775808) (hn1 : -9223372036854775808 ≤ n1 ∧ n1 < 9223372036854775808) (hn2 : -9223372036854775808 ≤ n2 ∧ n2 < 9223372036854775808) (hn3 : -9223372036854775808 ≤ n3 ∧ n3 < 9223372036854775808) (hn4 : -9223372036854775808 ≤ n4 ∧ n4 < 9223372036854775808) : A.Rd Try.prog 4 #[.agg #[.int .i64 n0, .int .i64 n1, .int .i64 n2, .int .i64 n3, .int .i64 n4], .agg #[.int .u32 w0, .int .u32 w1]] [] (.bool true) := by
  intro w oo aa hh
  have hmi := Q3.made_bd n0 n1 n2 n3 n4
  refine E.enter (n := 74) (S := oo) Try.func4 rfl rfl (by kernel_rfl) (A.start (L := []) hh) ?_
  refine E.sr ?_
  refine E.G.new (fun g => .pointer (some ⟨g, 0, none⟩)) [.int .i64 n0, .int .i64 n1, .int .i64 n2, .int .i64 n3, .int .i64 n4] 44 (fun w => by kernel_rfl) (by kernel_rfl) (fun g1 => ?_)
  refine E.G.new (fun g => .pointer (some ⟨g, 0, none⟩)) [.int .u32 w0, .int .u32 w1] 45 (fun w => by kernel_rfl) (by kernel_rfl) (fun g2 => ?_)
  refine E.op (.bool false) ?_
  refine E.tr ?_
  refine E.G.call (.bool true) (fun w h => A.call_rd [A.blk g2 ([.int .u32 w0, .int .u32 w1]), A.blk g1 ([.int .i64 n0, .int .i64 n1, .int .i64 n2, .int .i64 n3, .int .i64 n4])] (San6) h (by kernel_rfl) (A.pm [0, 1] (by kernel_rfl) (by kernel_rfl))) (fun w _ => by kernel_rfl) (by kernel_rfl) ?_
  refine E.op (.bool true) ?_
  refine E.tr ?_
  refine E.li (.agg #[.int .i64 n0, .int .i64 n1, .int .i64 n2, .int .i64 n3, .int .i64 n4]) 1 rfl rfl ?_
  refine E.G.call (.agg #[.int .i64 ((Q3.made n0 n1 n2 n3 n4).op), .int .i64 ((Q3.made n0 n1 n2 n3 n4).d), .int .i64 ((Q3.made n0 n1 n2 n3 n4).a), .int .i64 ((Q3.made n0 n1 n2 n3 n4).b), .int .u32 ((Q3.made n0 n1 n2 n3 n4).imm)]) (fun w h => Made3_any n0 n1 n2 n3 n4 hn0 hn1 hn2 hn3 hn4 w) (fun w _ => by kernel_rfl) (by kernel_rfl) ?_
  refine E.G.new (fun g => .pointer (some ⟨g, 0, none⟩)) [.int .i64 0, .int .i64 0, .int .i64 0, .int .i64 0, .int .u32 0] 47 (fun w => by kernel_rfl) (by kernel_rfl) (fun g3 => ?_)
  refine E.G.store 0 [.int .i64 ((Q3.made n0 n1 n2 n3 n4).op), .int .i64 ((Q3.made n0 n1 n2 n3 n4).d), .int .i64 ((Q3.made n0 n1 n2 n3 n4).a), .int .i64 ((Q3.made n0 n1 n2 n3 n4).b), .int .u32 ((Q3.made n0 n1 n2 n3 n4).imm)] rfl rfl (by kernel_rfl) (by kernel_rfl) ?_
  refine E.tr ?_
  refine E.G.val (Q.S.val (⟨0, (fun _ => 0), 0, (fun _ => 0), 0, 0⟩)) (by kernel_rfl) (fun w h => E.run_build (Q.S.cells ⟨0, (fun _ => 0), 0, (fun _ => 0), 0, 0⟩).toArray (by kernel_rfl) w) ?_
  refine E.G.new (fun g => .pointer (some ⟨g, 0, none⟩)) (Q.S.cells Q.z0) 27 (fun w => by kernel_rfl) (by kernel_rfl) (fun g4 => ?_)
  refine E.G.store 0 (Q.S.cells (⟨0, (fun _ => 0), 0, (fun _ => 0), 0, 0⟩)) rfl rfl (by kernel_rfl) (by kernel_rfl) ?_
  refine E.To.code ?_
  refine E.C.seq ?_
  refine E.sr ?_
  refine E.op (.int .i64 0) ?_
  refine E.To.code ?_
  refine E.C.block ?_
  refine E.C.loop (I := Nat) (fun k => 16 - k) (fun k => k ≤ 16) (fun k => [(3, .pointer (some ⟨g2, 0, none⟩)), (4, .bool false), (5, .bool true), (6, .pointer (some ⟨g3, 0, none⟩)), (7, .pointer (some ⟨g4, 0, none⟩)), (8, .int .i64 ((k : Nat) : Int))]) (fun k => A.X w oo aa []) (fun k => [(g4, (Q.S.cells (⟨0, (Q.zr w0 w1 k), 0, (fun _ => 0), 0, 0⟩))), (g3, [.int .i64 ((Q3.made n0 n1 n2 n3 n4).op), .int .i64 ((Q3.made n0 n1 n2 n3 n4).d), .int .i64 ((Q3.made n0 n1 n2 n3 n4).a), .int .i64 ((Q3.made n0 n1 n2 n3 n4).b), .int .u32 ((Q3.made n0 n1 n2 n3 n4).imm)]), (g2, [.int .u32 w0, .int .u32 w1])]) 0 ((Nat.zero_le _)) ⟨by kernel_rfl, by kernel_rfl⟩ (List.Sublist.cons_cons _ (List.Sublist.cons_cons _ (List.Sublist.cons_cons _ (List.nil_sublist _)))) (fun _ h => h) (fun k hk1 => ?_)
  refine E.C.seq ?_
  refine E.sr ?_
  refine E.op (.int .i64 ((k : Nat) : Int)) ?_
  refine E.op (.bool (decide (((k : Nat) : Int) < 16))) ?_
  refine E.To.code ?_
  refine E.C.cond (decide (((k : Nat) : Int) < 16)) (by kernel_rfl) (by kernel_rfl) (fun hc5 => ?_) (fun hc5 => ?_)
  · skip
    refine E.C.skip (E.To.code ?_)
    refine E.C.seq ?_
    refine E.C.block ?_
    refine E.C.region ?_
    refine E.op (.int .i64 ((k : Nat) : Int)) ?_
    refine E.op (.pointer (some ⟨g2, 0, none⟩)) ?_
    refine E.li (.int .u32 w0) 2 rfl rfl ?_
    refine E.op (.int .i64 ((k : Nat) : Int)) ?_
    refine E.op (.int .u32 (IntKind.wrap .u32 ((k : Nat) : Int))) ?_
    refine E.op (.pointer (some ⟨g2, 1, none⟩)) ?_
    refine E.li (.int .u32 w1) 2 rfl rfl ?_
    refine E.op (.int .u32 (IntKind.wrap .u32 ((IntKind.wrap .u32 ((k : Nat) : Int)) * w1))) ?_
    refine E.op (.int .u32 (IntKind.wrap .u32 (w0 + (IntKind.wrap .u32 ((IntKind.wrap .u32 ((k : Nat) : Int)) * w1))))) ?_
    refine E.op (.pointer (some ⟨g4, 1, none⟩)) ?_
    refine E.G.val (.pointer (some ⟨g4, 1 + (((k : Nat) : Int)).toNat, none⟩)) (by kernel_rfl) (fun w h => E.idxI (e := 22) g4 1 16 .i64 ((k : Nat) : Int) (by kernel_rfl) (by kernel_rfl) (by kernel_rfl) (by kernel_rfl) (by (first | assumption | ((try simp only [Bool.or_eq_false_iff, Bool.or_eq_true, Bool.and_eq_true, Bool.and_eq_false_iff, Bool.not_eq_eq_eq_not, Bool.not_true, Bool.not_false, decide_eq_true_eq, decide_eq_false_iff_not, ge_iff_le, gt_iff_lt] at *); omega))) w) ?_
    refine E.G.store 0 (Q.S.cells (⟨0, (Q.up (Q.zr w0 w1 k) (((k : Nat) : Int)).toNat (IntKind.wrap .u32 (w0 + (IntKind.wrap .u32 ((IntKind.wrap .u32 ((k : Nat) : Int)) * w1))))), 0, (fun _ => 0), 0, 0⟩)) rfl rfl (Q.sto_r (s := ⟨0, (Q.zr w0 w1 k), 0, (fun _ => 0), 0, 0⟩) (by kernel_rfl) (by (first | assumption | ((try simp only [Bool.or_eq_false_iff, Bool.or_eq_true, Bool.and_eq_true, Bool.and_eq_false_iff, Bool.not_eq_eq_eq_not, Bool.not_true, Bool.not_false, decide_eq_true_eq, decide_eq_false_iff_not, ge_iff_le, gt_iff_lt] at *); omega)))) (by kernel_rfl) ?_
    refine E.P.nb (E.To.code ?_)
    refine E.C.region ?_
    refine E.op (.int .i64 ((k : Nat) : Int)) ?_
    refine E.G.val (.int .i64 ((k + 1 : Nat) : Int)) (by kernel_rfl) (fun w h => E.run_as (a := .int .i64 (IntKind.wrap .i64 (((k : Nat) : Int) + 1))) (by kernel_rfl) (congrArg (Value.int .i64) (by exact Nz.add64 (x := k) (y := 1) (by (first | assumption | ((try simp only [Bool.or_eq_false_iff, Bool.or_eq_true, Bool.and_eq_true, Bool.and_eq_false_iff, Bool.not_eq_eq_eq_not, Bool.not_true, Bool.not_false, decide_eq_true_eq, decide_eq_false_iff_not, ge_iff_le, gt_iff_lt] at *); omega)))))) ?_
    refine E.op (.int .i64 ((k + 1 : Nat) : Int)) ?_
    exact E.To.round (k + 1) (by (first | assumption | ((try simp only [Bool.or_eq_false_iff, Bool.or_eq_true, Bool.and_eq_true, Bool.and_eq_false_iff, Bool.not_eq_eq_eq_not, Bool.not_true, Bool.not_false, decide_eq_true_eq, decide_eq_false_iff_not, ge_iff_le, gt_iff_lt] at *); omega))) ((by (first | assumption | ((try simp only [Bool.or_eq_false_iff, Bool.or_eq_true, Bool.and_eq_true, Bool.and_eq_false_iff, Bool.not_eq_eq_eq_not, Bool.not_true, Bool.not_false, decide_eq_true_eq, decide_eq_false_iff_not, ge_iff_le, gt_iff_lt] at *); omega)))) ⟨by kernel_rfl, by kernel_rfl⟩ (List.Sublist.refl _) (fun _ h => h)
  · skip
    refine E.C.exit (E.P.et (E.P.et (E.P.eh (E.To.code ?_))))
    refine E.sr ?_
    refine E.li (.agg #[.int .i64 ((Q3.made n0 n1 n2 n3 n4).op), .int .i64 ((Q3.made n0 n1 n2 n3 n4).d), .int .i64 ((Q3.made n0 n1 n2 n3 n4).a), .int .i64 ((Q3.made n0 n1 n2 n3 n4).b), .int .u32 ((Q3.made n0 n1 n2 n3 n4).imm)]) 1 rfl rfl ?_
    refine E.li (Q.S.val (⟨0, (Q.zr w0 w1 k), 0, (fun _ => 0), 0, 0⟩)) 0 rfl rfl ?_
    refine A.G.call (I := Nat) (D := fun c6 => True) (V := fun c6 => .pointer (some ⟨c6, 0, none⟩)) (q := fun c6 => [M.It c6 (Q.oneV (Q3.made n0 n1 n2 n3 n4)) (Q.S.cells (Q.norm (Q.zs w0 w1 k)))]) [A.blk g4 (Q.S.cells (⟨0, (Q.zr w0 w1 k), 0, (fun _ => 0), 0, 0⟩)), A.blk g3 ([.int .i64 ((Q3.made n0 n1 n2 n3 n4).op), .int .i64 ((Q3.made n0 n1 n2 n3 n4).d), .int .i64 ((Q3.made n0 n1 n2 n3 n4).a), .int .i64 ((Q3.made n0 n1 n2 n3 n4).b), .int .u32 ((Q3.made n0 n1 n2 n3 n4).imm)]), A.blk g2 ([.int .u32 w0, .int .u32 w1])] (fun c6 => [(g4, (Q.S.cells (⟨0, (Q.zr w0 w1 k), 0, (fun _ => 0), 0, 0⟩))), (g3, [.int .i64 ((Q3.made n0 n1 n2 n3 n4).op), .int .i64 ((Q3.made n0 n1 n2 n3 n4).d), .int .i64 ((Q3.made n0 n1 n2 n3 n4).a), .int .i64 ((Q3.made n0 n1 n2 n3 n4).b), .int .u32 ((Q3.made n0 n1 n2 n3 n4).imm)]), (g2, [.int .u32 w0, .int .u32 w1])]) (fun c6 => [M.It c6 (Q.oneV (Q3.made n0 n1 n2 n3 n4)) (Q.S.cells (Q.norm (Q.zs w0 w1 k)))]) (COne (Q3.made n0 n1 n2 n3 n4) (⟨0, (Q.zr w0 w1 k), 0, (fun _ => 0), 0, 0⟩ : Q.S) hmi) (by kernel_rfl) (A.pm [0, 1, 2] (by kernel_rfl) (by kernel_rfl)) (fun c6 => A.pm [1, 2, 3, 0] (by kernel_rfl) (by kernel_rfl)) (fun w _ => by kernel_rfl) (by kernel_rfl) (fun c6 hd7 => ?_)
    refine E.op (.pointer (some ⟨c6, 0, none⟩)) ?_
    refine E.To.code ?_
    refine E.C.seq ?_
    refine E.sr ?_
    refine E.op (.pointer (some ⟨c6, 0, none⟩)) ?_
    refine E.op (.bool false) ?_
    refine E.To.code ?_
    refine E.C.weak [(4, .bool false), (5, .bool true), (6, .pointer (some ⟨g3, 0, none⟩)), (7, .pointer (some ⟨g4, 0, none⟩)), (9, .pointer (some ⟨c6, 0, none⟩)), (36, .bool false)] [(g4, (Q.S.cells (⟨0, (Q.zr w0 w1 k), 0, (fun _ => 0), 0, 0⟩))), (g3, [.int .i64 ((Q3.made n0 n1 n2 n3 n4).op), .int .i64 ((Q3.made n0 n1 n2 n3 n4).d), .int .i64 ((Q3.made n0 n1 n2 n3 n4).a), .int .i64 ((Q3.made n0 n1 n2 n3 n4).b), .int .u32 ((Q3.made n0 n1 n2 n3 n4).imm)])] ⟨by kernel_rfl, by kernel_rfl⟩ (List.Sublist.cons_cons _ (List.Sublist.cons_cons _ (List.nil_sublist _))) ?_
    refine E.C.condF (by kernel_rfl) (by kernel_rfl) ?_
    refine E.C.skip (E.To.code ?_)
    refine E.sr ?_
    refine E.op (.pointer (some ⟨g4, 1, none⟩)) ?_
    refine E.op (.pointer (some ⟨g4, 1, none⟩)) ?_
    refine E.G.store 0 (Q.S.cells (⟨0, (Q.up (Q.zr w0 w1 k) 0 0), 0, (fun _ => 0), 0, 0⟩)) rfl rfl (by kernel_rfl) (by kernel_rfl) ?_
    refine E.tr ?_
    refine E.op (.pointer (some ⟨c6, 0, none⟩)) ?_
    refine A.G.call (I := Unit) (D := fun _ => True) (V := fun _ => .agg #[.int .i64 ((Q.runs 1 (Q.norm (Q.zs w0 w1 k)) (Q.oneV (Q3.made n0 n1 n2 n3 n4))).2.1), .int .u32 ((Q.runs 1 (Q.norm (Q.zs w0 w1 k)) (Q.oneV (Q3.made n0 n1 n2 n3 n4))).2.2.1)]) (q := fun _ => [M.It c6 ((Q.runs 1 (Q.norm (Q.zs w0 w1 k)) (Q.oneV (Q3.made n0 n1 n2 n3 n4))).2.2.2) (Q.S.cells ((Q.runs 1 (Q.norm (Q.zs w0 w1 k)) (Q.oneV (Q3.made n0 n1 n2 n3 n4))).1))]) [A.blk g4 (Q.S.cells (⟨0, (Q.up (Q.zr w0 w1 k) 0 0), 0, (fun _ => 0), 0, 0⟩)), A.blk g3 ([.int .i64 ((Q3.made n0 n1 n2 n3 n4).op), .int .i64 ((Q3.made n0 n1 n2 n3 n4).d), .int .i64 ((Q3.made n0 n1 n2 n3 n4).a), .int .i64 ((Q3.made n0 n1 n2 n3 n4).b), .int .u32 ((Q3.made n0 n1 n2 n3 n4).imm)])] (fun _ => [(g4, (Q.S.cells (⟨0, (Q.up (Q.zr w0 w1 k) 0 0), 0, (fun _ => 0), 0, 0⟩))), (g3, [.int .i64 ((Q3.made n0 n1 n2 n3 n4).op), .int .i64 ((Q3.made n0 n1 n2 n3 n4).d), .int .i64 ((Q3.made n0 n1 n2 n3 n4).a), .int .i64 ((Q3.made n0 n1 n2 n3 n4).b), .int .u32 ((Q3.made n0 n1 n2 n3 n4).imm)])]) (fun _ => [M.It c6 ((Q.runs 1 (Q.norm (Q.zs w0 w1 k)) (Q.oneV (Q3.made n0 n1 n2 n3 n4))).2.2.2) (Q.S.cells ((Q.runs 1 (Q.norm (Q.zs w0 w1 k)) (Q.oneV (Q3.made n0 n1 n2 n3 n4))).1))]) (CRun (c := c6) 1 (Q.norm (Q.zs w0 w1 k)) (Q.oneV (Q3.made n0 n1 n2 n3 n4)) (by omega) (Q.norm_wf (Q.zs_wf w0 w1 k)) (Q.oneV_wf _)) (by kernel_rfl) (A.pm [2, 0, 1] (by kernel_rfl) (by kernel_rfl)) (fun _ => A.pm [1, 2, 0] (by kernel_rfl) (by kernel_rfl)) (fun w _ => by kernel_rfl) (by kernel_rfl) (fun _ hd8 => ?_)
    refine E.G.new (fun g => .pointer (some ⟨g, 0, none⟩)) [.int .i64 0, .int .u32 0] 51 (fun w => by kernel_rfl) (by kernel_rfl) (fun g9 => ?_)
    refine E.G.store 0 [.int .i64 ((Q.runs 1 (Q.norm (Q.zs w0 w1 k)) (Q.oneV (Q3.made n0 n1 n2 n3 n4))).2.1), .int .u32 ((Q.runs 1 (Q.norm (Q.zs w0 w1 k)) (Q.oneV (Q3.made n0 n1 n2 n3 n4))).2.2.1)] rfl rfl (by kernel_rfl) (by kernel_rfl) ?_
    refine E.tr ?_
    refine E.op (.pointer (some ⟨c6, 0, none⟩)) ?_
    refine E.G.call (Q.S.val ((Q.runs 1 (Q.norm (Q.zs w0 w1 k)) (Q.oneV (Q3.made n0 n1 n2 n3 n4))).1)) (fun w h => A.call_rd [A.blk g9 ([.int .i64 ((Q.runs 1 (Q.norm (Q.zs w0 w1 k)) (Q.oneV (Q3.made n0 n1 n2 n3 n4))).2.1), .int .u32 ((Q.runs 1 (Q.norm (Q.zs w0 w1 k)) (Q.oneV (Q3.made n0 n1 n2 n3 n4))).2.2.1)]), A.blk g4 (Q.S.cells (⟨0, (Q.up (Q.zr w0 w1 k) 0 0), 0, (fun _ => 0), 0, 0⟩)), A.blk g3 ([.int .i64 ((Q3.made n0 n1 n2 n3 n4).op), .int .i64 ((Q3.made n0 n1 n2 n3 n4).d), .int .i64 ((Q3.made n0 n1 n2 n3 n4).a), .int .i64 ((Q3.made n0 n1 n2 n3 n4).b), .int .u32 ((Q3.made n0 n1 n2 n3 n4).imm)])] (CState (c := c6) (V := (Q.runs 1 (Q.norm (Q.zs w0 w1 k)) (Q.oneV (Q3.made n0 n1 n2 n3 n4))).2.2.2) ((Q.runs 1 (Q.norm (Q.zs w0 w1 k)) (Q.oneV (Q3.made n0 n1 n2 n3 n4))).1)) h (by kernel_rfl) (A.pm [3, 0, 1, 2] (by kernel_rfl) (by kernel_rfl))) (fun w _ => by kernel_rfl) (by kernel_rfl) ?_
    refine E.G.new (fun g => .pointer (some ⟨g, 0, none⟩)) (Q.S.cells Q.z0) 27 (fun w => by kernel_rfl) (by kernel_rfl) (fun g10 => ?_)
    refine E.G.store 0 (Q.S.cells ((Q.runs 1 (Q.norm (Q.zs w0 w1 k)) (Q.oneV (Q3.made n0 n1 n2 n3 n4))).1)) rfl rfl (by kernel_rfl) (by kernel_rfl) ?_
    refine E.To.code ?_
    refine E.C.weak [(4, .bool false), (5, .bool true), (6, .pointer (some ⟨g3, 0, none⟩)), (7, .pointer (some ⟨g4, 0, none⟩)), (10, .pointer (some ⟨g9, 0, none⟩)), (11, .pointer (some ⟨g10, 0, none⟩))] [(g10, (Q.S.cells ((Q.runs 1 (Q.norm (Q.zs w0 w1 k)) (Q.oneV (Q3.made n0 n1 n2 n3 n4))).1))), (g9, [.int .i64 ((Q.runs 1 (Q.norm (Q.zs w0 w1 k)) (Q.oneV (Q3.made n0 n1 n2 n3 n4))).2.1), .int .u32 ((Q.runs 1 (Q.norm (Q.zs w0 w1 k)) (Q.oneV (Q3.made n0 n1 n2 n3 n4))).2.2.1)]), (g4, (Q.S.cells (⟨0, (Q.up (Q.zr w0 w1 k) 0 0), 0, (fun _ => 0), 0, 0⟩))), (g3, [.int .i64 ((Q3.made n0 n1 n2 n3 n4).op), .int .i64 ((Q3.made n0 n1 n2 n3 n4).d), .int .i64 ((Q3.made n0 n1 n2 n3 n4).a), .int .i64 ((Q3.made n0 n1 n2 n3 n4).b), .int .u32 ((Q3.made n0 n1 n2 n3 n4).imm)])] ⟨by kernel_rfl, by kernel_rfl⟩ (List.Sublist.refl _) ?_
    refine E.C.seq ?_
    refine E.sr ?_
    refine E.op (.int .i64 0) ?_
    refine E.To.code ?_
    refine E.C.block ?_
    refine E.C.loop (I := Nat) (fun j => 16 - j) (fun j => j ≤ 16) (fun j => [(4, .bool false), (5, .bool true), (6, .pointer (some ⟨g3, 0, none⟩)), (7, .pointer (some ⟨g4, 0, none⟩)), (10, .pointer (some ⟨g9, 0, none⟩)), (11, .pointer (some ⟨g10, 0, none⟩)), (12, .int .i64 ((j : Nat) : Int))]) (fun j => A.X w oo aa [M.It c6 ((Q.runs 1 (Q.norm (Q.zs w0 w1 k)) (Q.oneV (Q3.made n0 n1 n2 n3 n4))).2.2.2) (Q.S.cells ((Q.runs 1 (Q.norm (Q.zs w0 w1 k)) (Q.oneV (Q3.made n0 n1 n2 n3 n4))).1))]) (fun j => [(g10, (Q.S.cells ((Q.runs 1 (Q.norm (Q.zs w0 w1 k)) (Q.oneV (Q3.made n0 n1 n2 n3 n4))).1))), (g9, [.int .i64 ((Q.runs 1 (Q.norm (Q.zs w0 w1 k)) (Q.oneV (Q3.made n0 n1 n2 n3 n4))).2.1), .int .u32 ((Q.runs 1 (Q.norm (Q.zs w0 w1 k)) (Q.oneV (Q3.made n0 n1 n2 n3 n4))).2.2.1)]), (g4, (Q.S.cells (⟨0, (Q.up (Q.zr w0 w1 k) 0 0), 0, (fun _ => 0), 0, 0⟩))), (g3, [.int .i64 ((Q3.made n0 n1 n2 n3 n4).op), .int .i64 ((Q3.made n0 n1 n2 n3 n4).d), .int .i64 ((Q3.made n0 n1 n2 n3 n4).a), .int .i64 ((Q3.made n0 n1 n2 n3 n4).b), .int .u32 ((Q3.made n0 n1 n2 n3 n4).imm)])]) 0 ((Nat.zero_le _)) ⟨by kernel_rfl, by kernel_rfl⟩ (List.Sublist.refl _) (fun _ h => h) (fun j hk2 => ?_)
    refine E.C.seq ?_
    refine E.sr ?_
    refine E.op (.int .i64 ((j : Nat) : Int)) ?_
    refine E.op (.bool (decide (((j : Nat) : Int) < 16))) ?_
    refine E.To.code ?_
    refine E.C.cond (decide (((j : Nat) : Int) < 16)) (by kernel_rfl) (by kernel_rfl) (fun hc11 => ?_) (fun hc11 => ?_)
    · skip
      refine E.C.skip (E.To.code ?_)
      refine E.C.seq ?_
      refine E.C.block ?_
      refine E.C.seq ?_
      refine E.C.quiet (by kernel_rfl) (by kernel_rfl) ?_
      refine E.W.op (.int .i64 ((j : Nat) : Int)) (fun w => by kernel_rfl) (by kernel_rfl) ?_
      refine E.W.op (.pointer (some ⟨g10, 1, none⟩)) (fun w => by kernel_rfl) (by kernel_rfl) ?_
      refine E.W.val (.pointer (some ⟨g10, 1 + (((j : Nat) : Int)).toNat, none⟩)) (by kernel_rfl) (fun w h => E.idxI (e := 22) g10 1 16 .i64 ((j : Nat) : Int) (by kernel_rfl) (by kernel_rfl) (by kernel_rfl) (by kernel_rfl) (by (first | assumption | ((try simp only [Bool.or_eq_false_iff, Bool.or_eq_true, Bool.and_eq_true, Bool.and_eq_false_iff, Bool.not_eq_eq_eq_not, Bool.not_true, Bool.not_false, decide_eq_true_eq, decide_eq_false_iff_not, ge_iff_le, gt_iff_lt] at *); omega))) w) ?_
      refine E.W.val (.int .u32 ((((Q.runs 1 (Q.norm (Q.zs w0 w1 k)) (Q.oneV (Q3.made n0 n1 n2 n3 n4))).1).r) ((((j : Nat) : Int)).toNat))) (by kernel_rfl) (fun w h => E.run_load h 0 rfl rfl (Q.ld_r (by kernel_rfl) (by (first | assumption | ((try simp only [Bool.or_eq_false_iff, Bool.or_eq_true, Bool.and_eq_true, Bool.and_eq_false_iff, Bool.not_eq_eq_eq_not, Bool.not_true, Bool.not_false, decide_eq_true_eq, decide_eq_false_iff_not, ge_iff_le, gt_iff_lt] at *); omega))))) ?_
      refine E.W.op (.int .i64 ((j : Nat) : Int)) (fun w => by kernel_rfl) (by kernel_rfl) ?_
      refine E.W.op (.pointer (some ⟨g4, 1, none⟩)) (fun w => by kernel_rfl) (by kernel_rfl) ?_
      refine E.W.val (.pointer (some ⟨g4, 1 + (((j : Nat) : Int)).toNat, none⟩)) (by kernel_rfl) (fun w h => E.idxI (e := 22) g4 1 16 .i64 ((j : Nat) : Int) (by kernel_rfl) (by kernel_rfl) (by kernel_rfl) (by kernel_rfl) (by (first | assumption | ((try simp only [Bool.or_eq_false_iff, Bool.or_eq_true, Bool.and_eq_true, Bool.and_eq_false_iff, Bool.not_eq_eq_eq_not, Bool.not_true, Bool.not_false, decide_eq_true_eq, decide_eq_false_iff_not, ge_iff_le, gt_iff_lt] at *); omega))) w) ?_
      refine E.W.val (.int .u32 ((Q.up (Q.zr w0 w1 k) 0 0) ((((j : Nat) : Int)).toNat))) (by kernel_rfl) (fun w h => E.run_load h 2 rfl rfl (Q.ld_r (by kernel_rfl) (by (first | assumption | ((try simp only [Bool.or_eq_false_iff, Bool.or_eq_true, Bool.and_eq_true, Bool.and_eq_false_iff, Bool.not_eq_eq_eq_not, Bool.not_true, Bool.not_false, decide_eq_true_eq, decide_eq_false_iff_not, ge_iff_le, gt_iff_lt] at *); omega))))) ?_
      refine E.W.op (.bool (((((Q.runs 1 (Q.norm (Q.zs w0 w1 k)) (Q.oneV (Q3.made n0 n1 n2 n3 n4))).1).r) ((((j : Nat) : Int)).toNat)) != ((Q.up (Q.zr w0 w1 k) 0 0) ((((j : Nat) : Int)).toNat)))) (fun w => by kernel_rfl) (by kernel_rfl) ?_
      refine E.W.op (.bool (((((Q.runs 1 (Q.norm (Q.zs w0 w1 k)) (Q.oneV (Q3.made n0 n1 n2 n3 n4))).1).r) ((((j : Nat) : Int)).toNat)) != ((Q.up (Q.zr w0 w1 k) 0 0) ((((j : Nat) : Int)).toNat)))) (fun w => by kernel_rfl) (by kernel_rfl) ?_
      refine E.W.cut 10 [(4, .bool false), (5, .bool true), (6, .pointer (some ⟨g3, 0, none⟩)), (7, .pointer (some ⟨g4, 0, none⟩)), (10, .pointer (some ⟨g9, 0, none⟩)), (11, .pointer (some ⟨g10, 0, none⟩)), (12, .int .i64 ((j : Nat) : Int)), (43, .int .i64 ((j : Nat) : Int)), (44, .bool (decide (((j : Nat) : Int) < 16))), (47, .int .i64 ((j : Nat) : Int)), (48, .pointer (some ⟨g10, 1, none⟩)), (49, .pointer (some ⟨g10, 1 + (((j : Nat) : Int)).toNat, none⟩)), (50, .int .u32 ((((Q.runs 1 (Q.norm (Q.zs w0 w1 k)) (Q.oneV (Q3.made n0 n1 n2 n3 n4))).1).r) ((((j : Nat) : Int)).toNat))), (51, .int .i64 ((j : Nat) : Int)), (52, .pointer (some ⟨g4, 1, none⟩)), (53, .pointer (some ⟨g4, 1 + (((j : Nat) : Int)).toNat, none⟩)), (54, .int .u32 ((Q.up (Q.zr w0 w1 k) 0 0) ((((j : Nat) : Int)).toNat))), (55, .bool (((((Q.runs 1 (Q.norm (Q.zs w0 w1 k)) (Q.oneV (Q3.made n0 n1 n2 n3 n4))).1).r) ((((j : Nat) : Int)).toNat)) != ((Q.up (Q.zr w0 w1 k) 0 0) ((((j : Nat) : Int)).toNat)))), (56, .bool (((((Q.runs 1 (Q.norm (Q.zs w0 w1 k)) (Q.oneV (Q3.made n0 n1 n2 n3 n4))).1).r) ((((j : Nat) : Int)).toNat)) != ((Q.up (Q.zr w0 w1 k) 0 0) ((((j : Nat) : Int)).toNat)))), (66, .bool false)] ?_ ?_
      · generalize hc12 : (((((Q.runs 1 (Q.norm (Q.zs w0 w1 k)) (Q.oneV (Q3.made n0 n1 n2 n3 n4))).1).r) ((((j : Nat) : Int)).toNat)) != ((Q.up (Q.zr w0 w1 k) 0 0) ((((j : Nat) : Int)).toNat))) = b13
        cases b13
        · skip
          refine E.W.skip (by kernel_rfl) (by kernel_rfl) ?_
          refine E.W.skip (by kernel_rfl) (by kernel_rfl) ?_
          refine E.W.skip (by kernel_rfl) (by kernel_rfl) ?_
          refine E.W.skip (by kernel_rfl) (by kernel_rfl) ?_
          refine E.W.skip (by kernel_rfl) (by kernel_rfl) ?_
          refine E.W.skip (by kernel_rfl) (by kernel_rfl) ?_
          refine E.W.skip (by kernel_rfl) (by kernel_rfl) ?_
          refine E.W.skip (by kernel_rfl) (by kernel_rfl) ?_
          refine E.W.skip (by kernel_rfl) (by kernel_rfl) ?_
          refine E.W.val (.bool false) (by kernel_rfl) (fun w h => E.run_as (a := .bool false) (by kernel_rfl) (rfl)) ?_
          exact E.W.end_cut ⟨by kernel_rfl, by kernel_rfl⟩
        · skip
          refine E.W.op (.int .i64 ((j : Nat) : Int)) (fun w => by kernel_rfl) (by kernel_rfl) ?_
          refine E.W.op (.pointer (some ⟨g3, 1, none⟩)) (fun w => by kernel_rfl) (by kernel_rfl) ?_
          refine E.W.val (.int .i64 ((Q3.made n0 n1 n2 n3 n4).d)) (by kernel_rfl) (fun w h => E.run_load h 3 rfl rfl (by kernel_rfl)) ?_
          refine E.W.op (.bool (((j : Nat) : Int) != ((Q3.made n0 n1 n2 n3 n4).d))) (fun w => by kernel_rfl) (by kernel_rfl) ?_
          refine E.W.op (.bool (((j : Nat) : Int) != ((Q3.made n0 n1 n2 n3 n4).d))) (fun w => by kernel_rfl) (by kernel_rfl) ?_
          refine E.W.cut 4 [(4, .bool false), (5, .bool true), (6, .pointer (some ⟨g3, 0, none⟩)), (7, .pointer (some ⟨g4, 0, none⟩)), (10, .pointer (some ⟨g9, 0, none⟩)), (11, .pointer (some ⟨g10, 0, none⟩)), (12, .int .i64 ((j : Nat) : Int)), (43, .int .i64 ((j : Nat) : Int)), (44, .bool (decide (((j : Nat) : Int) < 16))), (47, .int .i64 ((j : Nat) : Int)), (48, .pointer (some ⟨g10, 1, none⟩)), (49, .pointer (some ⟨g10, 1 + (((j : Nat) : Int)).toNat, none⟩)), (50, .int .u32 ((((Q.runs 1 (Q.norm (Q.zs w0 w1 k)) (Q.oneV (Q3.made n0 n1 n2 n3 n4))).1).r) ((((j : Nat) : Int)).toNat))), (51, .int .i64 ((j : Nat) : Int)), (52, .pointer (some ⟨g4, 1, none⟩)), (53, .pointer (some ⟨g4, 1 + (((j : Nat) : Int)).toNat, none⟩)), (54, .int .u32 ((Q.up (Q.zr w0 w1 k) 0 0) ((((j : Nat) : Int)).toNat))), (55, .bool true), (56, .bool true), (57, .int .i64 ((j : Nat) : Int)), (58, .pointer (some ⟨g3, 1, none⟩)), (59, .int .i64 ((Q3.made n0 n1 n2 n3 n4).d)), (60, .bool (((j : Nat) : Int) != ((Q3.made n0 n1 n2 n3 n4).d))), (61, .bool (((j : Nat) : Int) != ((Q3.made n0 n1 n2 n3 n4).d))), (65, .bool ((((j : Nat) : Int) != ((Q3.made n0 n1 n2 n3 n4).d)) || (((Q.runs 1 (Q.norm (Q.zs w0 w1 k)) (Q.oneV (Q3.made n0 n1 n2 n3 n4))).2.1) != 1)))] ?_ ?_
          · generalize hc14 : (((j : Nat) : Int) != ((Q3.made n0 n1 n2 n3 n4).d)) = b15
            cases b15
            · skip
              refine E.W.op (.pointer (some ⟨g9, 0, none⟩)) (fun w => by kernel_rfl) (by kernel_rfl) ?_
              refine E.W.val (.int .i64 ((Q.runs 1 (Q.norm (Q.zs w0 w1 k)) (Q.oneV (Q3.made n0 n1 n2 n3 n4))).2.1)) (by kernel_rfl) (fun w h => E.run_load h 1 rfl rfl (by kernel_rfl)) ?_
              refine E.W.op (.bool (((Q.runs 1 (Q.norm (Q.zs w0 w1 k)) (Q.oneV (Q3.made n0 n1 n2 n3 n4))).2.1) != 1)) (fun w => by kernel_rfl) (by kernel_rfl) ?_
              refine E.W.op (.bool (((Q.runs 1 (Q.norm (Q.zs w0 w1 k)) (Q.oneV (Q3.made n0 n1 n2 n3 n4))).2.1) != 1)) (fun w => by kernel_rfl) (by kernel_rfl) ?_
              exact E.W.end_cut ⟨by kernel_rfl, by kernel_rfl⟩
            · skip
              refine E.W.skip (by kernel_rfl) (by kernel_rfl) ?_
              refine E.W.skip (by kernel_rfl) (by kernel_rfl) ?_
              refine E.W.skip (by kernel_rfl) (by kernel_rfl) ?_
              refine E.W.op (.bool true) (fun w => by kernel_rfl) (by kernel_rfl) ?_
              exact E.W.end_cut ⟨by kernel_rfl, by kernel_rfl⟩
          refine E.W.val (.bool false) (by kernel_rfl) (fun w h => E.run_as (a := .bool ((((j : Nat) : Int) != ((Q3.made n0 n1 n2 n3 n4).d)) || (((Q.runs 1 (Q.norm (Q.zs w0 w1 k)) (Q.oneV (Q3.made n0 n1 n2 n3 n4))).2.1) != 1))) (by kernel_rfl) (congrArg Value.bool (Q.zeroB (by assumption)))) ?_
          exact E.W.end_cut ⟨by kernel_rfl, by kernel_rfl⟩
      refine E.W.op (.bool false) (fun w => by kernel_rfl) (by kernel_rfl) ?_
      refine E.W.op (.pointer (some ⟨g10, 1, none⟩)) (fun w => by kernel_rfl) (by kernel_rfl) ?_
      refine E.W.op (.pointer (some ⟨g10, 1, none⟩)) (fun w => by kernel_rfl) (by kernel_rfl) ?_
      refine E.W.val (.int .u32 ((((Q.runs 1 (Q.norm (Q.zs w0 w1 k)) (Q.oneV (Q3.made n0 n1 n2 n3 n4))).1).r) 0)) (by kernel_rfl) (fun w h => E.run_load h 0 rfl rfl (by kernel_rfl)) ?_
      refine E.W.op (.bool (((((Q.runs 1 (Q.norm (Q.zs w0 w1 k)) (Q.oneV (Q3.made n0 n1 n2 n3 n4))).1).r) 0) != 0)) (fun w => by kernel_rfl) (by kernel_rfl) ?_
      refine E.W.val (.bool false) (by kernel_rfl) (fun w h => E.run_as (a := .bool (((((Q.runs 1 (Q.norm (Q.zs w0 w1 k)) (Q.oneV (Q3.made n0 n1 n2 n3 n4))).1).r) 0) != 0)) (by kernel_rfl) (congrArg Value.bool (Q.zeroC (w0 := w0) (k := k)))) ?_
      refine E.W.done (E.To.code ?_)
      refine E.C.condF (by kernel_rfl) (by kernel_rfl) ?_
      refine E.C.skip (E.P.nb (E.To.code ?_))
      refine E.C.region ?_
      refine E.op (.int .i64 ((j : Nat) : Int)) ?_
      refine E.G.val (.int .i64 ((j + 1 : Nat) : Int)) (by kernel_rfl) (fun w h => E.run_as (a := .int .i64 (IntKind.wrap .i64 (((j : Nat) : Int) + 1))) (by kernel_rfl) (congrArg (Value.int .i64) (by exact Nz.add64 (x := j) (y := 1) (by (first | assumption | ((try simp only [Bool.or_eq_false_iff, Bool.or_eq_true, Bool.and_eq_true, Bool.and_eq_false_iff, Bool.not_eq_eq_eq_not, Bool.not_true, Bool.not_false, decide_eq_true_eq, decide_eq_false_iff_not, ge_iff_le, gt_iff_lt] at *); omega)))))) ?_
      refine E.op (.int .i64 ((j + 1 : Nat) : Int)) ?_
      exact E.To.round (j + 1) (by (first | assumption | ((try simp only [Bool.or_eq_false_iff, Bool.or_eq_true, Bool.and_eq_true, Bool.and_eq_false_iff, Bool.not_eq_eq_eq_not, Bool.not_true, Bool.not_false, decide_eq_true_eq, decide_eq_false_iff_not, ge_iff_le, gt_iff_lt] at *); omega))) ((by (first | assumption | ((try simp only [Bool.or_eq_false_iff, Bool.or_eq_true, Bool.and_eq_true, Bool.and_eq_false_iff, Bool.not_eq_eq_eq_not, Bool.not_true, Bool.not_false, decide_eq_true_eq, decide_eq_false_iff_not, ge_iff_le, gt_iff_lt] at *); omega)))) ⟨by kernel_rfl, by kernel_rfl⟩ (List.Sublist.refl _) (fun _ h => h)
    · skip
      refine E.C.exit (E.P.et (E.P.et (E.P.eh (E.To.code ?_))))
      refine E.C.weak [(4, .bool false), (5, .bool true)] [] ⟨by kernel_rfl, by kernel_rfl⟩ (List.nil_sublist _) ?_
      refine E.sr ?_
      refine E.op (.bool true) ?_
      refine E.op (.bool true) ?_
      refine E.To.code ?_
      refine E.C.ret (E.To.body (fn := Try.f4) [.bool true] ?_ ?_)
      · exact ⟨⟨by kernel_rfl, by kernel_rfl⟩, trivial⟩
      · intro w h
        exact ⟨rfl, h.ch.bel (fun x hx => (hh.1 x hx).elim)⟩
theorem QcpuZero_law (n0 n1 n2 n3 n4 w0 w1 : Int) (hn0 : -9223372036854775808 ≤ n0 ∧ n0 < 9223372036854775808) (hn1 : -9223372036854775808 ≤ n1 ∧ n1 < 9223372036854775808) (hn2 : -9223372036854775808 ≤ n2 ∧ n2 < 9223372036854775808) (hn3 : -9223372036854775808 ≤ n3 ∧ n3 < 9223372036854775808) (hn4 : -9223372036854775808 ≤ n4 ∧ n4 < 9223372036854775808) (w : World) : Calls Try.prog 4 #[.agg #[.int .i64 n0, .int .i64 n1, .int .i64 n2, .int .i64 n3, .int .i64 n4], .agg #[.int .u32 w0, .int .u32 w1]] w fun e w' => e = .returned (.bool true) ∧ Bel w w' := by
  skip
  exact QcpuZero_rd n0 n1 n2 n3 n4 w0 w1 hn0 hn1 hn2 hn3 hn4 w _ _ ⟨fun _ h => h, fun _ h => h⟩
end Go.Proofs.Ytgbndbljohpnmaa
