/- Walks: bytes written into a page, printed by wip/eng. No condition but what is named. -/
import Derived.Test.YtdjjjikokfadiaaProg
import Derived.Test.YtdjjjikokfadiaaMo
namespace Go.Proofs.Ytdjjjikokfadiaa
set_option linter.unusedVariables false
set_option linter.unusedSimpArgs false
open Go.RowKit
/-- Bytes written into a page, one after another. -/
def M.byl (o : M.Obj) (p : Nat) : Nat → List Int → M.Obj
  | _, [] => o
  | i, v :: l => M.byl (M.byte o p i v) p (i + 1) l
theorem M.byl_same : ∀ (l : List Int) (o : M.Obj) (p i : Nat), (M.byl o p i l).m = o.m ∧ (M.byl o p i l).b = o.b ∧ (M.byl o p i l).sl = o.sl ∧ (M.byl o p i l).coh = o.coh
  | [], _, _, _ => ⟨rfl, rfl, rfl, rfl⟩
  | v :: l, o, p, i => M.byl_same l (M.byte o p i v) p (i + 1)
theorem M.byl_C : ∀ (l : List Int) (o : M.Obj) (p i q x : Nat), (M.byl o p i l).C q x = if q = p ∧ i ≤ x ∧ x < i + l.length then l.getD (x - i) 0 else o.C q x
  | [], o, p, i, q, x => by
    show o.C q x = _
    rw [if_neg (fun h => by have := h.2.2; simp at this; omega)]
  | v :: l, o, p, i, q, x => by
    show (M.byl (M.byte o p i v) p (i + 1) l).C q x = _
    rw [M.byl_C l]
    by_cases hq : q = p
    · subst hq
      by_cases h1 : i + 1 ≤ x ∧ x < i + 1 + l.length
      · rw [if_pos ⟨rfl, h1⟩, if_pos ⟨rfl, by omega, by rw [List.length_cons]; omega⟩, show x - i = (x - (i + 1)) + 1 by omega, List.getD_cons_succ]
      · rw [if_neg (fun h => h1 h.2)]
        show (if q = q ∧ x = i then v else o.C q x) = _
        by_cases h2 : x = i
        · subst h2; rw [if_pos ⟨rfl, rfl⟩, if_pos ⟨rfl, Nat.le_refl _, by rw [List.length_cons]; omega⟩, Nat.sub_self]; rfl
        · rw [if_neg (fun h => h2 h.2), if_neg (fun h => by have := h.2; rw [List.length_cons] at this; omega)]
    · rw [if_neg (fun h => hq h.1), if_neg (fun h => hq h.1)]
      show (if q = p ∧ x = i then v else o.C q x) = _
      rw [if_neg (fun h => hq h.1)]
theorem M.St.byl {p : Nat} : ∀ (l : List Int) {o : M.Obj} {w : World} (i : Nat), M.St o w → M.Pg o.sl p → i + l.length ≤ 256 → (∀ v ∈ l, 0 ≤ v ∧ v < 256) → M.St (M.byl o p i l) (w.setCells p i (l.map (Value.int .u8)))
  | [], _, _, _, h, _, _, _ => h
  | v :: l, o, w, i, h, hp, hl, hv => by
    rw [List.length_cons] at hl
    exact M.St.byl l (i + 1) (h.byte hp (by omega) (hv v (List.mem_cons_self ..)) i rfl) hp (by omega) (fun u hu => hv u (List.mem_cons_of_mem _ hu))
theorem M.ch_cells {S : Nat → Prop} {w0 : World} {b : Nat} (hS : b < w0.heap.size → S b) : ∀ (vs : List Value) (o : Nat) {w : World}, Ch S w0 w → Ch S w0 (w.setCells b o vs)
  | [], _, _, h => h
  | v :: vs, o, w, h => M.ch_cells hS vs (o + 1) (h.setCell (p := ⟨b, o, none⟩) hS v)
theorem M.Nxt.byl (w : World) (o : M.Obj) (p i : Nat) (l : List Int) : M.Nxt w o (M.byl o p i l) := by
  obtain ⟨h1, h2, h3, h4⟩ := M.byl_same l o p i
  refine ⟨h1, by rw [h3], h4, fun x _ h => ?_, fun x _ h => ?_⟩
  · unfold M.ow M.Obj.at at h ⊢; rw [h2, h3] at h; exact h
  · unfold M.all at h ⊢; rw [h1, h2, h3] at h; exact h
/-- The bytes of a string that go over. -/
def M.cpb (s : ByteArray) : List Int := (List.range (Nat.min s.size 256)).map fun i => W.byt s.data.toList i
theorem M.cpb_len (s : ByteArray) : (M.cpb s).length = Nat.min s.size 256 := by simp [M.cpb]
theorem M.run_cps {P : Program} (w : World) (s : ByteArray) (dT sT ty e : TypeId) (p c : Nat) (hu : P.underlying dT = some (.slice e)) (hz : (P.info? e).map (·.size) = some 1) (hc : ∀ j, j < 256 → (w.cell? ⟨p, j, none⟩).isSome = true) (hf : ∀ j, w.frozen? ⟨p, j, none⟩ = false) :
    (Builtin.copy_ #[dT, sT] ty #[.slice (some ⟨p, 0, none⟩) 256 c, .string s]).run P w = .ok (goInt (Nat.min s.size 256)) (w.setCells p 0 ((M.cpb s).map (Value.int .u8))) := by
  have hcs : (s.data.toList.map (fun x => Value.int .u8 (x.toNat : Int))).take (Nat.min s.size 256) = (M.cpb s).map (Value.int .u8) := by
    refine List.ext_getElem? fun i => ?_
    by_cases hi : i < Nat.min s.size 256
    · have h1 : i < s.size := Nat.lt_of_lt_of_le hi (Nat.min_le_left _ _)
      have h2 : (M.cpb s)[i]? = some (W.byt s.data.toList i) := by simp [M.cpb, hi]
      rw [List.getElem?_take, if_pos hi, List.getElem?_map, List.getElem?_map, h2, List.getElem?_eq_getElem (show i < s.data.toList.length from h1)]
      exact congrArg (fun v => some (Value.int .u8 v)) (W.byt_at s i h1)
    · rw [List.getElem?_take, if_neg hi, List.getElem?_eq_none (by rw [List.length_map, M.cpb_len]; omega)]
  have hl : ((M.cpb s).map (Value.int .u8)).length ≤ 256 := by rw [List.length_map, M.cpb_len]; exact Nat.min_le_right _ _
  have hst := run_storeCells_cells (P := P) p 0 ((M.cpb s).map (Value.int .u8)) 0 w (fun j hj => by rw [Nat.zero_add]; simpa using hc j (by omega)) (fun j hj => hf _) (by
    intro v hv
    obtain ⟨x, _, rfl⟩ := List.mem_map.1 hv
    rfl)
  cases hie : P.info? e with
  | none => rw [hie] at hz; cases hz
  | some ie =>
    have hsz : (Go.sizeOf e).run P w = .ok 1 w := by rw [hie] at hz; simp [sizeOf, typeInfo, hie]; simpa using hz
    simp [Builtin.copy_, run_underlying hu, Builtin.lenOf, Builtin.firstCells, hsz]
    rw [hcs, hst]; rfl
end Go.Proofs.Ytdjjjikokfadiaa
