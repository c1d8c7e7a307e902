/- Walks: a zero memory, printed by wip/eng. No condition but what is named. -/
import Derived.Test.YtdjjjikokfadiaaProg
import Derived.Test.YtdjjjikokfadiaaNa
namespace Go.Proofs.Ytdjjjikokfadiaa
set_option linter.unusedVariables false
set_option linter.unusedSimpArgs false
open Go.RowKit
theorem M.zero_st {w : World} {g : Nat} (h0 : w.cell? ⟨g, 0, none⟩ = some (.slice none 0 0)) (h1 : w.cell? ⟨g, 1, none⟩ = some (.bool false)) (hf : ∀ i, w.frozen? ⟨g, i, none⟩ = false) : M.St ⟨g, 0, 0, none, [], false, fun _ _ => 0⟩ w := by
  have hp : ∀ p, ¬ M.Pg ([] : List M.Slot) p := fun p ⟨i, hi, _⟩ => by simp at hi
  refine ⟨⟨h0, h1, fun h => by simp at h, fun i v hv => by simp [M.cells] at hv, fun p hq => (hp p hq).elim, by simp⟩, ⟨fun h => by simp at h, fun p hq => (hp p hq).elim, fun i j hi => by simp at hi, fun i j p hi => by simp at hi, fun i hi => by simp at hi, fun p hq => (hp p hq).elim, fun i hi => by simp at hi⟩, fun x hx i => ?_⟩
  rcases hx with rfl | ⟨hn, _⟩ | hq
  · exact hf i
  · simp at hn
  · exact (hp x hq).elim
/-- A block that holds a zero memory, as a memory. -/
theorem M.zero_it {w : World} {o a : Nat → Prop} {g : Nat} (h : (A.blk g [.slice none 0 0, .bool false]).t w o a) : (M.It g (M.V.new 0 false) []).t w o a := by
  have hs := M.zero_st (h.1 0 _ rfl) (h.1 1 _ rfl) h.2.1
  have how : ∀ x, ¬ M.ow ⟨g, 0, 0, none, [], false, fun _ _ => 0⟩ x := fun x hx => by
    rcases hx with ⟨hn, _⟩ | ⟨i, hi, _⟩ | ⟨i, hi, _⟩
    · simp at hn
    · simp at hi
    · simp at hi
  refine ⟨_, rfl, hs, ⟨rfl, rfl, fun j hj => absurd hj (Nat.not_lt_zero j), fun j hj => absurd hj (Nat.not_lt_zero j), fun j hj => absurd hj (Nat.not_lt_zero j), fun j hj => absurd hj (Nat.not_lt_zero j), fun j hj => absurd hj (Nat.not_lt_zero j)⟩, fun i v hv => by simp at hv, fun x => ?_, fun x => ?_⟩
  · rw [h.2.2.2.1]
    exact ⟨.inl, fun k => k.elim id fun k => (how x k).elim⟩
  · rw [h.2.2.2.2.1]
    refine ⟨.inl, fun k => k.elim id fun k => ?_⟩
    rcases k with ⟨hn, _⟩ | ⟨i, hi, _⟩
    · simp at hn
    · simp at hi
theorem A.Has.swap {p q : A.It} (hpq : ∀ w o a, p.t w o a → q.t w o a) {l : List A.It} {w : World} {o a : Nat → Prop} (h : A.Has (p :: l) w o a) : A.Has (q :: l) w o a := by
  obtain ⟨o1, a1, o2, a2, h1, r⟩ := h
  exact ⟨o1, a1, o2, a2, hpq _ _ _ h1, r⟩
theorem M.C.zero {P : Program} {n : Nat} {Q : Exit → Act → World → Prop} {w0 : World} {o0 a0 : Nat → Prop} {its : List A.It} {L : List (Nat × List Value)} {fr : E.Fr} {c : Code} {g : Nat} (k : E.C P n Q c fr o0 w0 (A.X w0 o0 a0 (M.It g (M.V.new 0 false) [] :: its)) L) : E.C P n Q c fr o0 w0 (A.X w0 o0 a0 (A.blk g [.slice none 0 0, .bool false] :: its)) L :=
  fun a w h1 h2 => k a w h1 (A.X.imp h2 fun w o a hh => A.Has.swap (fun _ _ _ => M.zero_it) hh)
theorem M.z_chk (a : Nat) (ha : a < 4294967296) (n : Int) (r : Int) : (M.V.new 0 false).chk a r n = (((a : Nat) : Int), false) := by
  unfold M.V.chk
  split
  · rename_i hn
    obtain ⟨m, hm⟩ : ∃ m, n.toNat = m + 1 := ⟨n.toNat - 1, by omega⟩
    have e : (a + 0) % 4294967296 = a := by omega
    rw [hm, M.chkN_s, e, show (M.V.new 0 false).ok a r = false from rfl]; rfl
  · rfl
theorem M.z_load (a : Nat) (ha : a < 4294967296) (n : Int) : (M.V.new 0 false).load a n = (0, ((a : Nat) : Int), false) := by
  unfold M.V.load; rw [M.z_chk a ha]; rfl
theorem M.z_sto (a : Nat) (ha : a < 4294967296) (n v : Int) : (M.V.new 0 false).sto a n v = M.V.new 0 false := by
  unfold M.V.sto; rw [M.z_chk a ha]; rfl
end Go.Proofs.Ytdjjjikokfadiaa
