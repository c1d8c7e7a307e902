/- Walks: pages of the laws of mem, printed by wip/eng. No condition but what is named. -/
import Derived.Test.YtdjjjikokfadiaaProg
import Derived.Test.YtdjjjikokfadiaaZNp
namespace Go.Proofs.Ytdjjjikokfadiaa
set_option linter.unusedVariables false
set_option linter.unusedSimpArgs false
open Go.RowKit
theorem M.page_in {V : M.V} {n p : Nat} {c : Bool} (h : M.Is V n c) (hp : p < n) : V.page ((p : Nat) : Int) = strOfNums ((List.range 256).map (V.d p)) := by
  unfold M.V.page; rw [if_pos ⟨by omega, by rw [h.1]; omega⟩]; rfl
theorem M.page_size {V : M.V} {n p : Nat} {c : Bool} (h : M.Is V n c) (hp : p < n) : (V.page ((p : Nat) : Int)).size = 256 := by
  rw [M.page_in h hp, strOfNums_size, List.length_map, List.length_range]
theorem M.byt_page {V : M.V} {n p x : Nat} {c : Bool} (h : M.Is V n c) (hp : p < n) (hx : x < 256) : W.byt (V.page ((p : Nat) : Int)).data.toList x = V.d p x := by
  rw [M.page_in h hp, W.byt_nums _ _ (fun y hy => by
    obtain ⟨z, hz, rfl⟩ := List.mem_map.1 hy
    exact h.2.2.d p (h.1 ▸ hp) z (List.mem_range.1 hz))]
  simp [List.getD, hx]
theorem M.peek_page {V : M.V} {n p x : Nat} {c : Bool} (h : M.Is V n c) (hp : p < n) (hx : x < 256) : V.peek (256 * p + x) = W.byt (V.page ((p : Nat) : Int)).data.toList x := by
  rw [M.byt_page h hp hx]
  unfold M.V.peek
  have hn := h.1
  rw [show (256 * p + x) / 256 = p by omega, show (256 * p + x) % 256 = x by omega, if_pos (by omega)]
theorem M.poke_d {V : M.V} {p : Nat} (hp : p < V.n) (h4 : V.n ≤ 4096) (s : ByteArray) : ∀ c, c ≤ 256 → ∀ x, x < 256 → (V.poke (256 * p) s c).d p x = if x < c then W.byt s.data.toList x else V.d p x
  | 0, _, x, _ => by rw [if_neg (Nat.not_lt_zero _)]; rfl
  | c + 1, hc, x, hx => by
    have ih := M.poke_d hp h4 s c (by omega) x hx
    have e : (256 * p + c) % 4294967296 = 256 * p + c := by omega
    rw [M.V.poke, e]
    unfold M.V.set
    rw [if_pos (by rw [M.poke_n]; omega)]
    show M.up (V.poke (256 * p) s c).d ((256 * p + c) / 256) ((256 * p + c) % 256) _ p x = _
    rw [show (256 * p + c) / 256 = p by omega, show (256 * p + c) % 256 = c by omega]
    unfold M.up
    by_cases k : x = c
    · rw [if_pos ⟨rfl, k⟩, if_pos (by omega), k]
    · rw [if_neg (fun h => k h.2), ih]
      by_cases k2 : x < c
      · rw [if_pos k2, if_pos (by omega)]
      · rw [if_neg k2, if_neg (by omega)]
theorem M.page_poke {V W : M.V} {n p : Nat} {c d : Bool} (hV : M.Is V n c) (hW : M.Is W n d) (hp : p < n) : (V.poke (256 * p) (W.page ((p : Nat) : Int)) (W.page ((p : Nat) : Int)).size).page ((p : Nat) : Int) = W.page ((p : Nat) : Int) := by
  rw [M.page_in (hV.poke _ _ _) hp, M.page_size hW hp]
  refine Eq.trans (congrArg strOfNums (List.map_congr_left fun x hx => ?_)) (M.page_in hW hp).symm
  have hx := List.mem_range.1 hx
  rw [M.poke_d (hV.1 ▸ hp) hV.2.2.n _ 256 (Nat.le_refl _) x hx, if_pos hx, M.byt_page hW hp hx]
/-- The first p pages of a memory in a new one. -/
def M.cp (W : M.V) : Nat → M.V
  | 0 => M.V.new (M.np 3) false
  | p + 1 => (M.cp W p).poke (256 * p) (W.page ((p : Nat) : Int)) (W.page ((p : Nat) : Int)).size
theorem M.cp_is (W : M.V) : ∀ p, M.Is (M.cp W p) 3 false
  | 0 => M.Is.new 3 false
  | p + 1 => (M.cp_is W p).poke _ _ _
theorem M.cp_page {W : M.V} {p : Nat} (h : M.Is W 3 false) (hp : p < 3) : (M.cp W (p + 1)).page ((p : Nat) : Int) = W.page ((p : Nat) : Int) := M.page_poke (M.cp_is W p) h hp
theorem M.page_any {W : M.V} (h : M.Is W 3 false) (n : Int) : (((decide (n ≥ 0)) && (decide (n < 3))) == (!((W.page n).toList == (ByteArray.mk #[]).toList))) = true := by
  by_cases e : 0 ≤ n ∧ n < 3
  · obtain ⟨p, rfl⟩ := Int.eq_ofNat_of_zero_le e.1
    have hs := M.page_size h (p := p) (by omega)
    have : ((W.page ((p : Nat) : Int)).toList == (ByteArray.mk #[]).toList) = false := by
      have hl : (W.page ((p : Nat) : Int)).toList.length = 256 := by rw [ByteArray.toList_eq]; exact hs
      cases hb : ((W.page ((p : Nat) : Int)).toList == (ByteArray.mk #[]).toList) with
      | false => rfl
      | true =>
        have := beq_iff_eq.1 hb
        rw [this, ByteArray.toList_eq] at hl
        exact absurd hl (by decide)
    rw [this, decide_eq_true (by omega), decide_eq_true (by omega)]; rfl
  · have : W.page n = ⟨#[]⟩ := by unfold M.V.page; rw [h.1]; exact if_neg e
    rw [this, beq_self_eq_true]
    have : ((decide (n ≥ 0)) && (decide (n < 3))) = false := by
      rw [Bool.and_eq_false_iff, decide_eq_false_iff_not, decide_eq_false_iff_not]; omega
    rw [this]; rfl
end Go.Proofs.Ytdjjjikokfadiaa
