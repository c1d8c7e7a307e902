/- Walks: word.packed, word.sum, word.Flags, babelref01.pack, out, signed, Flags return what the plain law W.flags says; no condition but that the words are words. -/
import Derived.Test.YtnjpmmdjaenomaaProg
import Derived.Test.YtnjpmmdjaenomaaBase
import Derived.Test.YtnjpmmdjaenomaaW1
namespace Go.Proofs.Ytnjpmmdjaenomaa
set_option linter.unusedVariables false
open Go.RowKit

/-- The closure that sets a flag in the captured word. -/
theorem packed1_any (flag f : Int) (on : Bool) (g : Nat) (w : World) (h : w.cell? ⟨g, 0, none⟩ = some (.int .u32 f)) (hf : w.frozen? ⟨g, 0, none⟩ = false) :
    Calls Try.prog 45 #[.int .u32 flag, .bool on, .pointer (some ⟨g, 0, none⟩)] w fun e w' => e = .returned (.tuple #[]) ∧
      w'.cell? ⟨g, 0, none⟩ = some (.int .u32 (W.orIf on f flag)) ∧ w'.frozen? ⟨g, 0, none⟩ = false ∧ Ch (· = g) w w' := by
  cases on
  · go_enter Try.func45, Try.ntmps45
    go_wp2
    go_end0
    exact ⟨rfl, h, hf, Ch.refl _ _⟩
  · go_enter Try.func45, Try.ntmps45
    go_wp2
    go_end0
    exact ⟨rfl, cell_set h, by rw [frozen_set]; exact hf, (Ch.refl (fun x => x = g) w).setCell (p := ⟨g, 0, none⟩) (fun _ => rfl) _⟩

theorem packed_any (r : Int) (c v : Bool) (h0 : 0 ≤ r) (h1 : r < 4294967296) (w : World) :
    Calls Try.prog 36 #[.int .u32 r, .bool c, .bool v] w fun e w' => e = .returned (.int .u32 (W.pack r c v)) ∧ Bel w w' := by
  have HP := hid (W.orIf_pack r c v h0)
  go_enter Try.func36, Try.ntmps36
  go_wp2_with (first
     | (go_at_call 45; refine (packed1_any _ _ _ _ _ (by assumption) (by assumption)).mono ?_; rintro e w' ⟨rfl, hc, hf, hch⟩)
     | (go_at_call 45; refine (packed1_any _ 0 _ _ _ (by go_simp) (by go_simp)).mono ?_; rintro e w' ⟨rfl, hc, hf, hch⟩))
  go_ret
  exact ⟨ret_int HP.out, (by repeat (first | assumption | exact Bel.refl _ | refine Bel.drew ?_ | refine Bel.drewN ?_ _ | refine Bel.alloc ?_ _ | (refine Bel.trans ?_ (by assumption)) | (refine Bel.then ?_ (by assumption) (by intro x hx; first | (subst hx; simp; done) | (simp at *; omega)))))⟩

theorem sum_any (a b c : Int) (ha : 0 ≤ a) (ha' : a < 4294967296) (hb : 0 ≤ b) (hb' : b < 4294967296) (hc : 0 ≤ c) (hc' : c ≤ 1) (w : World) :
    Calls Try.prog 35 #[.int .u32 a, .int .u32 b, .int .u32 c] w fun e w' =>
      e = .returned (.int .u32 (W.pack ((a + b + c) % 4294967296) (decide (4294967296 ≤ a + b + c)) (W.out (W.sg a + W.sg b + c)))) ∧ Bel w w' := by
  have HO := hid (W.ovf a b c ha ha' hb hb' hc hc')
  go_enter Try.func35, Try.ntmps35
  go_wp2_with (go_at_call 36; refine (packed_any _ _ _ (by omega) (by omega) _).mono ?_; rintro e w' ⟨rfl, hb⟩)
  go_ret
  exact ⟨ret_int (by rw [HO.out]), (by repeat (first | assumption | exact Bel.refl _ | refine Bel.drew ?_ | refine Bel.drewN ?_ _ | refine Bel.alloc ?_ _ | (refine Bel.trans ?_ (by assumption)) | (refine Bel.then ?_ (by assumption) (by intro x hx; first | (subst hx; simp; done) | (simp at *; omega)))))⟩

theorem Flags_0 (a b : Int) (ha : 0 ≤ a) (ha' : a < 4294967296) (hb : 0 ≤ b) (hb' : b < 4294967296) (w : World) :
    Calls Try.prog 15 #[.int .i64 0, .int .u32 a, .int .u32 b] w fun e w' => e = .returned (.int .u32 (W.flags 0 a b)) ∧ Bel w w' := by
  have e := W.and15 a ha ha'
  go_enter Try.func15, Try.ntmps15
  go_wp2_with (first
    | (go_at_call 35; refine (sum_any _ _ _ (by omega) (by omega) (by omega) (by omega) (by omega) (by omega) _).mono ?_; rintro e w' ⟨rfl, hb⟩)
    | (go_at_call 36; refine (packed_any _ _ _ (by omega) (by omega) _).mono ?_; rintro e w' ⟨rfl, hb⟩))
  go_ret
  exact ⟨ret_int (by rw [W.flags_0]), (by repeat (first | assumption | exact Bel.refl _ | refine Bel.drew ?_ | refine Bel.drewN ?_ _ | refine Bel.alloc ?_ _ | (refine Bel.trans ?_ (by assumption)) | (refine Bel.then ?_ (by assumption) (by intro x hx; first | (subst hx; simp; done) | (simp at *; omega)))))⟩
theorem Flags_1 (a b : Int) (ha : 0 ≤ a) (ha' : a < 4294967296) (hb : 0 ≤ b) (hb' : b < 4294967296) (w : World) :
    Calls Try.prog 15 #[.int .i64 1, .int .u32 a, .int .u32 b] w fun e w' => e = .returned (.int .u32 (W.flags 1 a b)) ∧ Bel w w' := by
  go_enter Try.func15, Try.ntmps15
  go_wp2_with (first
    | (go_at_call 35; refine (sum_any _ _ _ (by omega) (by omega) (by omega) (by omega) (by omega) (by omega) _).mono ?_; rintro e w' ⟨rfl, hb⟩)
    | (go_at_call 36; refine (packed_any _ _ _ (by omega) (by omega) _).mono ?_; rintro e w' ⟨rfl, hb⟩))
  go_ret
  exact ⟨ret_int (by rw [W.flags_1]), (by repeat (first | assumption | exact Bel.refl _ | refine Bel.drew ?_ | refine Bel.drewN ?_ _ | refine Bel.alloc ?_ _ | (refine Bel.trans ?_ (by assumption)) | (refine Bel.then ?_ (by assumption) (by intro x hx; first | (subst hx; simp; done) | (simp at *; omega)))))⟩
theorem Flags_2 (a b : Int) (ha : 0 ≤ a) (ha' : a < 4294967296) (hb : 0 ≤ b) (hb' : b < 4294967296) (w : World) :
    Calls Try.prog 15 #[.int .i64 2, .int .u32 a, .int .u32 b] w fun e w' => e = .returned (.int .u32 (W.flags 2 a b)) ∧ Bel w w' := by
  go_enter Try.func15, Try.ntmps15
  go_wp2_with (first
    | (go_at_call 35; refine (sum_any _ _ _ (by omega) (by omega) (by omega) (by omega) (by omega) (by omega) _).mono ?_; rintro e w' ⟨rfl, hb⟩)
    | (go_at_call 36; refine (packed_any _ _ _ (by omega) (by omega) _).mono ?_; rintro e w' ⟨rfl, hb⟩))
  go_ret
  exact ⟨ret_int (by rw [W.flags_2]), (by repeat (first | assumption | exact Bel.refl _ | refine Bel.drew ?_ | refine Bel.drewN ?_ _ | refine Bel.alloc ?_ _ | (refine Bel.trans ?_ (by assumption)) | (refine Bel.then ?_ (by assumption) (by intro x hx; first | (subst hx; simp; done) | (simp at *; omega)))))⟩
theorem Flags_3 (a b : Int) (ha : 0 ≤ a) (ha' : a < 4294967296) (hb : 0 ≤ b) (hb' : b < 4294967296) (w : World) :
    Calls Try.prog 15 #[.int .i64 3, .int .u32 a, .int .u32 b] w fun e w' => e = .returned (.int .u32 (W.flags 3 a b)) ∧ Bel w w' := by
  have e := W.not32 b hb hb'
  have HS := hid (W.sub_1 a b ha ha' hb hb')
  go_enter Try.func15, Try.ntmps15
  go_wp2_with (first
    | (go_at_call 35; refine (sum_any _ _ _ (by omega) (by omega) (by omega) (by omega) (by omega) (by omega) _).mono ?_; rintro e w' ⟨rfl, hb⟩)
    | (go_at_call 36; refine (packed_any _ _ _ (by omega) (by omega) _).mono ?_; rintro e w' ⟨rfl, hb⟩))
  go_ret
  exact ⟨ret_int (by rw [← HS.out]), (by repeat (first | assumption | exact Bel.refl _ | refine Bel.drew ?_ | refine Bel.drewN ?_ _ | refine Bel.alloc ?_ _ | (refine Bel.trans ?_ (by assumption)) | (refine Bel.then ?_ (by assumption) (by intro x hx; first | (subst hx; simp; done) | (simp at *; omega)))))⟩
theorem Flags_4 (a b : Int) (ha : 0 ≤ a) (ha' : a < 4294967296) (hb : 0 ≤ b) (hb' : b < 4294967296) (w : World) :
    Calls Try.prog 15 #[.int .i64 4, .int .u32 a, .int .u32 b] w fun e w' => e = .returned (.int .u32 (W.flags 4 a b)) ∧ Bel w w' := by
  have e := W.not32 b hb hb'
  have HS := hid (W.sub_0 a b ha ha' hb hb')
  go_enter Try.func15, Try.ntmps15
  go_wp2_with (first
    | (go_at_call 35; refine (sum_any _ _ _ (by omega) (by omega) (by omega) (by omega) (by omega) (by omega) _).mono ?_; rintro e w' ⟨rfl, hb⟩)
    | (go_at_call 36; refine (packed_any _ _ _ (by omega) (by omega) _).mono ?_; rintro e w' ⟨rfl, hb⟩))
  go_ret
  exact ⟨ret_int (by rw [← HS.out]), (by repeat (first | assumption | exact Bel.refl _ | refine Bel.drew ?_ | refine Bel.drewN ?_ _ | refine Bel.alloc ?_ _ | (refine Bel.trans ?_ (by assumption)) | (refine Bel.then ?_ (by assumption) (by intro x hx; first | (subst hx; simp; done) | (simp at *; omega)))))⟩
theorem Flags_5 (a b : Int) (ha : 0 ≤ a) (ha' : a < 4294967296) (hb : 0 ≤ b) (hb' : b < 4294967296) (w : World) :
    Calls Try.prog 15 #[.int .i64 5, .int .u32 a, .int .u32 b] w fun e w' => e = .returned (.int .u32 (W.flags 5 a b)) ∧ Bel w w' := by
  go_enter Try.func15, Try.ntmps15
  go_wp2_with (first
    | (go_at_call 35; refine (sum_any _ _ _ (by omega) (by omega) (by omega) (by omega) (by omega) (by omega) _).mono ?_; rintro e w' ⟨rfl, hb⟩)
    | (go_at_call 36; refine (packed_any _ _ _ (by omega) (by omega) _).mono ?_; rintro e w' ⟨rfl, hb⟩))
  go_ret
  exact ⟨ret_int (by rw [W.flags_5]), (by repeat (first | assumption | exact Bel.refl _ | refine Bel.drew ?_ | refine Bel.drewN ?_ _ | refine Bel.alloc ?_ _ | (refine Bel.trans ?_ (by assumption)) | (refine Bel.then ?_ (by assumption) (by intro x hx; first | (subst hx; simp; done) | (simp at *; omega)))))⟩
theorem Flags_n (k a b : Int) (hk : k < 0 ∨ 5 < k) (w : World) :
    Calls Try.prog 15 #[.int .i64 k, .int .u32 a, .int .u32 b] w fun e w' => e = .returned (.int .u32 (W.flags k a b)) ∧ Bel w w' := by
  have HF := hid (W.flags_n k a b hk)
  have h0 : (k == 0) = false := by simp; omega
  have h1 : (k == 1) = false := by simp; omega
  have h2 : (k == 2) = false := by simp; omega
  have h3 : (k == 3) = false := by simp; omega
  have h4 : (k == 4) = false := by simp; omega
  have h5 : (k == 5) = false := by simp; omega
  go_enter Try.func15, Try.ntmps15
  go_wp2_with fail
  go_ret
  exact ⟨ret_int (by rw [HF.out]), (by repeat (first | assumption | exact Bel.refl _ | refine Bel.drew ?_ | refine Bel.drewN ?_ _ | refine Bel.alloc ?_ _ | (refine Bel.trans ?_ (by assumption)) | (refine Bel.then ?_ (by assumption) (by intro x hx; first | (subst hx; simp; done) | (simp at *; omega)))))⟩
theorem Flags_any (k a b : Int) (ha : 0 ≤ a) (ha' : a < 4294967296) (hb : 0 ≤ b) (hb' : b < 4294967296) (w : World) :
    Calls Try.prog 15 #[.int .i64 k, .int .u32 a, .int .u32 b] w fun e w' => e = .returned (.int .u32 (W.flags k a b)) ∧ Bel w w' := by
  rcases (by omega : k = 0 ∨ k = 1 ∨ k = 2 ∨ k = 3 ∨ k = 4 ∨ k = 5 ∨ (k < 0 ∨ 5 < k)) with rfl | rfl | rfl | rfl | rfl | rfl | h
  · exact Flags_0 a b ha ha' hb hb' w
  · exact Flags_1 a b ha ha' hb hb' w
  · exact Flags_2 a b ha ha' hb hb' w
  · exact Flags_3 a b ha ha' hb hb' w
  · exact Flags_4 a b ha ha' hb hb' w
  · exact Flags_5 a b ha ha' hb hb' w
  · exact Flags_n k a b h w
end Go.Proofs.Ytnjpmmdjaenomaa
