/- Walks: rights of the laws of mem, printed by wip/eng. No condition but what is named. -/
import Derived.Test.YtdjjjikokfadiaaProg
import Derived.Test.YtdjjjikokfadiaaZNt
namespace Go.Proofs.Ytdjjjikokfadiaa
set_option linter.unusedVariables false
set_option linter.unusedSimpArgs false
open Go.RowKit
/-- A memory of four pages with these rights. -/
def M.rg (a b c d : Int) : M.V := ((((M.V.new (M.np 4) false).prot 0 (IntKind.wrap .i64 a)).prot 1 (IntKind.wrap .i64 b)).prot 2 (IntKind.wrap .i64 c)).prot 3 (IntKind.wrap .i64 d)
/-- Of the same rights. -/
def M.Rt (V U : M.V) : Prop := V.n = U.n ∧ V.r = U.r
theorem M.set_r (V : M.V) (a : Nat) (v : Int) : (V.set a v).r = V.r := by unfold M.V.set; split <;> rfl
theorem M.put_r (V : M.V) (a : Nat) (v : Int) : ∀ c, (V.put a v c).r = V.r
  | 0 => rfl
  | c + 1 => by rw [M.V.put, M.set_r]; exact M.put_r V a v c
theorem M.Rt.put {V U : M.V} (h : M.Rt V U) (a : Nat) (v : Int) (c : Nat) : M.Rt (V.put a v c) U := ⟨(M.put_n ..).trans h.1, (M.put_r ..).trans h.2⟩
theorem M.Rt.sto {V U : M.V} (h : M.Rt V U) (a : Nat) (n v : Int) : M.Rt (V.sto a n v) U := by
  unfold M.V.sto; split
  · exact h.put _ _ _
  · exact h
theorem M.Rt.ok {V U : M.V} (h : M.Rt V U) (a : Nat) (r : Int) : V.ok a r = U.ok a r := by unfold M.V.ok; rw [h.1, h.2]
theorem M.chk1 {V U : M.V} (h : M.Rt V U) {a : Nat} (ha : a < 4294967296) (r : Int) : V.chk a r 1 = bif U.ok a r then (0, true) else (((a : Nat) : Int), false) := by
  unfold M.V.chk
  rw [if_pos (by decide)]
  show V.chkN a r 0 (0 + 1) = _
  have e : (a + 0) % 4294967296 = a := by omega
  rw [M.chkN_s, e, h.ok]; rfl
theorem M.ld1t {V U : M.V} (h : M.Rt V U) {a : Nat} (ha : a < 4294967296) (hd : U.ok a 1 = true) : Value.tuple #[.int .u32 (V.load a 1).1, .int .u32 (V.load a 1).2.1, .bool (V.load a 1).2.2] = .tuple #[.int .u32 (V.load a 1).1, .int .u32 0, .bool true] := by
  have hc : (V.chk a 1 ((1 : Nat) : Int)).2 = true := by show (V.chk a 1 1).2 = true; rw [M.chk1 h ha, hd]; rfl
  have := R.load_t hc
  rw [show V.load a 1 = V.load a ((1 : Nat) : Int) from rfl, this]
theorem M.ld1f {V U : M.V} (h : M.Rt V U) {a : Nat} (ha : a < 4294967296) (hd : U.ok a 1 = false) : Value.tuple #[.int .u32 (V.load a 1).1, .int .u32 (V.load a 1).2.1, .bool (V.load a 1).2.2] = .tuple #[.int .u32 0, .int .u32 ((a : Nat) : Int), .bool false] := by
  have e := M.chk1 h ha 1
  rw [hd] at e
  rw [R.load_f (by rw [e]; rfl), e]; rfl
theorem M.st1 {V U : M.V} (h : M.Rt V U) {a : Nat} (ha : a < 4294967296) {b : Bool} (hd : U.ok a 2 = b) : (V.chk a 2 1).2 = b := by
  rw [M.chk1 h ha, hd]; cases b <;> rfl
theorem M.st1f {V U : M.V} (h : M.Rt V U) {a : Nat} (ha : a < 4294967296) (hd : U.ok a 2 = false) : Value.tuple #[.int .u32 (V.chk a 2 1).1, .bool (V.chk a 2 1).2] = .tuple #[.int .u32 ((a : Nat) : Int), .bool false] := by
  rw [M.chk1 h ha, hd]; rfl
/-- Whether the last c of m bytes can be accessed. -/
def M.al (V : M.V) (a : Nat) (r : Int) (m : Nat) : Nat → Bool
  | 0 => true
  | c + 1 => M.al V a r m c && V.ok ((a + (m - c - 1)) % 4294967296) r
theorem M.al_iff {V : M.V} {a : Nat} {r : Int} {m : Nat} : ∀ c, c ≤ m → (M.al V a r m c = true ↔ ∀ j, m - c ≤ j → j < m → V.ok ((a + j) % 4294967296) r = true)
  | 0, _ => ⟨fun _ j h1 h2 => by omega, fun _ => rfl⟩
  | c + 1, hc => by
    rw [M.al, Bool.and_eq_true, M.al_iff c (by omega)]
    refine ⟨fun ⟨h1, h2⟩ j k1 k2 => ?_, fun h => ⟨fun j k1 k2 => h j (by omega) k2, h _ (by omega) (by omega)⟩⟩
    by_cases e : j = m - c - 1
    · rw [e]; exact h2
    · exact h1 j (by omega) k2
theorem M.chkN_of {V : M.V} {a : Nat} {r : Int} : ∀ c i, (∀ j, i ≤ j → j < i + c → V.ok ((a + j) % 4294967296) r = true) → (V.chkN a r i c).2 = true
  | 0, _, _ => rfl
  | c + 1, i, h => by
    rw [M.chkN_s, h i (Nat.le_refl _) (by omega)]
    exact M.chkN_of c (i + 1) fun j h1 h2 => h j (by omega) (by omega)
theorem M.al_chk {V : M.V} {a m : Nat} {r : Int} (hm : 1 ≤ m ∧ m ≤ 4) : (V.chk a r ((m : Nat) : Int)).2 = M.al V a r m m := by
  refine Bool.eq_iff_iff.2 ⟨fun h => (M.al_iff m (Nat.le_refl _)).2 fun j _ hj => M.chk_t hm h j hj, fun h => ?_⟩
  unfold M.V.chk
  rw [if_pos (by omega)]
  exact M.chkN_of m 0 fun j _ hj => (M.al_iff m (Nat.le_refl _)).1 h j (by omega) (by omega)
theorem M.sub500_le (a : Nat) : (4294966796 + a % 2048) % 4294967296 < 4294967296 := by omega
def M.sub500 (a : Nat) : Nat := (4294966796 + a % 2048) % 4294967296
theorem M.sub500_lt (a : Nat) : M.sub500 a < 4294967296 := by unfold M.sub500; omega
theorem M.sub500_eq (a : Nat) : IntKind.wrap .u32 (((a % 2048 : Nat) : Int) - 500) = ((M.sub500 a : Nat) : Int) := by
  unfold M.sub500
  show (((a % 2048 : Nat) : Int) - 500) % 4294967296 = _
  omega
theorem M.and11 {a : Nat} (h : a < 4294967296) : bits .and .u32 ((a : Nat) : Int) 2047 = ((a % 2048 : Nat) : Int) := by
  have e : bits .and .u32 ((a : Nat) : Int) 2047 = ((a : Nat) : Int) % 2048 := W.and_mask 11 (by decide) _ (by omega) (by omega)
  rw [e]; omega
theorem M.first_le {V : M.V} {a m c : Nat} (ha : a < 4294967296) (hm : 1 ≤ m ∧ m ≤ 4) (hc : c < m) (hf : V.ok ((a + (m - c - 1)) % 4294967296) 1 = false) : decide ((IntKind.wrap .u32 ((V.chk a 1 ((m : Nat) : Int)).1 - ((a : Nat) : Int))) > ((m - c - 1 : Nat) : Int)) = false := by
  have h2 : (V.chk a 1 ((m : Nat) : Int)).2 = false := by
    cases h : (V.chk a 1 ((m : Nat) : Int)).2 with
    | false => rfl
    | true => rw [M.chk_t hm h (m - c - 1) (by omega)] at hf; cases hf
  obtain ⟨j, hj, _, e, hl⟩ := M.chk_f hm h2
  rw [e]
  refine decide_eq_false fun hg => ?_
  have hg : (((m - c - 1 : Nat)) : Int) < ((((a + j) % 4294967296 : Nat) : Int) - ((a : Nat) : Int)) % 4294967296 := hg
  rw [hl (m - c - 1) (by omega)] at hf
  cases hf
theorem M.near1 {V : M.V} {a m : Nat} {r : Int} (ha : a < 4294967296) (hm : 1 ≤ m ∧ m ≤ 4) : ((V.chk a r ((m : Nat) : Int)).2 || (decide ((IntKind.wrap .u32 ((V.chk a r ((m : Nat) : Int)).1 - ((a : Nat) : Int))) < ((m : Nat) : Int)))) = true := by
  cases h : (V.chk a r ((m : Nat) : Int)).2 with
  | true => rfl
  | false => rw [M.at_near ha hm h]; rfl
theorem M.i_dn {m c : Nat} (hm : m ≤ 4) (hc : c < m) : IntKind.wrap .i64 ((((m - c : Nat) : Int) - 1) - 1) = ((m - (c + 1) : Nat) : Int) - 1 := by
  rw [IntKind.wrap_i64]; omega
theorem M.i_0 {m : Nat} (hm : m ≤ 4) : IntKind.wrap .i64 (((m : Nat) : Int) - 1) = ((m - 0 : Nat) : Int) - 1 := by
  rw [IntKind.wrap_i64]; omega
theorem M.i_32 {m c : Nat} (hm : m ≤ 4) (hc : c < m) : IntKind.wrap .u32 (((m - c : Nat) : Int) - 1) = ((m - c - 1 : Nat) : Int) := by
  show (((m - c : Nat) : Int) - 1) % 4294967296 = _
  omega
theorem M.rg_n (a b c d : Int) : (M.rg a b c d).n = 4 := rfl
theorem M.bit1 {x : Int} (h : 0 ≤ x ∧ x < 256) : (!(bits .and .i64 (bits .and .i64 (IntKind.wrap .i64 x) 7) 1 == 0)) = (bits .and .u8 x 1 == 1) := by
  have e : ∀ y : Fin 256, (!(bits .and .i64 (bits .and .i64 (IntKind.wrap .i64 ((y.val : Nat) : Int)) 7) 1 == 0)) = (bits .and .u8 ((y.val : Nat) : Int) 1 == 1) := by decide +kernel
  have := e ⟨x.toNat, by omega⟩
  rwa [show ((x.toNat : Nat) : Int) = x by omega] at this
theorem M.rg_ok {p q r s : Int} (hp : 0 ≤ p ∧ p < 256) (hq : 0 ≤ q ∧ q < 256) (hr : 0 ≤ r ∧ r < 256) (hs : 0 ≤ s ∧ s < 256) (a : Nat) : (M.rg p q r s).ok a 1 = ((decide (((a : Nat) : Int) < 1024)) && (bits .and .u8 ([p, q, r, s].getD (0 + (((a / 256 % 4 : Nat)) : Int).toNat * 1) 0) 1 == 1)) := by
  unfold M.V.ok
  rw [M.rg_n]
  by_cases h : a < 1024
  · rw [decide_eq_true (by omega : a / 256 < 4), decide_eq_true (by omega : ((a : Nat) : Int) < 1024)]
    rcases (by omega : a / 256 = 0 ∨ a / 256 = 1 ∨ a / 256 = 2 ∨ a / 256 = 3) with e | e | e | e
    · rw [e]; exact congrArg (true && ·) (M.bit1 hp)
    · rw [e]; exact congrArg (true && ·) (M.bit1 hq)
    · rw [e]; exact congrArg (true && ·) (M.bit1 hr)
    · rw [e]; exact congrArg (true && ·) (M.bit1 hs)
  · rw [decide_eq_false (by omega : ¬ a / 256 < 4), decide_eq_false (by omega : ¬ ((a : Nat) : Int) < 1024)]; rfl
theorem M.rg_ne {x y b : Bool} (h : x = b) (e : x = y) : (b != y) = false := by rw [← h, e]; exact bne_self_eq_false _
end Go.Proofs.Ytdjjjikokfadiaa
