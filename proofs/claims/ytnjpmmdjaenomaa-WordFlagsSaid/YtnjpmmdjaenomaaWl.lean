/- Walks: word.CondName, CondOf, babelref01.CondName, CondOf; no condition. -/
import Derived.Test.YtnjpmmdjaenomaaProg
import Derived.Test.YtnjpmmdjaenomaaWc
import Derived.Test.YtnjpmmdjaenomaaW6
namespace Go.Proofs.Ytnjpmmdjaenomaa
set_option linter.unusedVariables false
open Go.RowKit
theorem nm_cells (w : World) (T : TypeId) (j : Nat) (hj : j < 14) : (w.alloc (.cells #[.string ⟨#[101, 113]⟩, .string ⟨#[110, 101]⟩, .string ⟨#[99, 115]⟩, .string ⟨#[99, 99]⟩, .string ⟨#[109, 105]⟩, .string ⟨#[112, 108]⟩, .string ⟨#[118, 115]⟩, .string ⟨#[118, 99]⟩, .string ⟨#[104, 105]⟩, .string ⟨#[108, 115]⟩, .string ⟨#[103, 101]⟩, .string ⟨#[108, 116]⟩, .string ⟨#[103, 116]⟩, .string ⟨#[108, 101]⟩] T)).cell? ⟨w.heap.size, j, none⟩ = some (.string (W.nm j)) := by
  rw [World.cell?_alloc_mark]
  rcases (by omega : j = 0 ∨ j = 1 ∨ j = 2 ∨ j = 3 ∨ j = 4 ∨ j = 5 ∨ j = 6 ∨ j = 7 ∨ j = 8 ∨ j = 9 ∨ j = 10 ∨ j = 11 ∨ j = 12 ∨ j = 13) with rfl | rfl | rfl | rfl | rfl | rfl | rfl | rfl | rfl | rfl | rfl | rfl | rfl | rfl <;> rfl

theorem index_any (name : ByteArray) (g : Nat) (w : World) (hc : ∀ j, j < 14 → w.cell? ⟨g, j, none⟩ = some (.string (W.nm j))) :
    Calls Try.prog 41 #[.slice (some ⟨g, 0, none⟩) 14 14, .string name] w fun e w' => e = .returned (.int .i64 (W.idx name)) ∧ Bel w w' := by
  have HI := hid (show W.idx name = W.idxF name 14 0 from rfl)
  go_enter Try.func41, Try.ntmps41
  go_wp2
  go_loop [5, 8] (fun _ i => ∃ k : Nat, k ≤ 14 ∧ i = .int .i64 k ∧ Hid (W.idx name = W.idxF name (14 - k) k)) (fun _ i => 14 - (intOf i).toNat)
  case atStart => exact ⟨0, by omega, rfl, HI⟩
  case round =>
    clear HI
    obtain ⟨k, hk, rfl, HI⟩ := hrel
    by_cases c1 : k < 14
    · have hck := hc k c1
      clear hc
      cases hq : (name.toList == (W.nm k).toList)
      · have HM := hid (W.idxF_miss name (14 - (k + 1)) k hq)
        go_wp2
        go_round
        case rel => exact ⟨k + 1, by omega, by go_num, hid (by rw [HI.out, show 14 - k = 14 - (k + 1) + 1 by omega, HM.out])⟩
        case measure => simp [intOf]; omega
      · have HM := hid (W.idxF_hit name (14 - (k + 1)) k hq)
        go_wp2
        go_ret
        exact ⟨ret_int (by rw [HI.out, show 14 - k = 14 - (k + 1) + 1 by omega, HM.out]), (by repeat (first | assumption | exact Bel.refl _ | refine Bel.drew ?_ | refine Bel.drewN ?_ _ | refine Bel.alloc ?_ _ | (refine Bel.trans ?_ (by assumption)) | (refine Bel.then ?_ (by assumption) (by intro x hx; first | (subst hx; simp; done) | (simp at *; omega)))))⟩
    · obtain rfl : k = 14 := by omega
      go_wp2
      go_ret
      exact ⟨ret_int (by rw [HI.out]; rfl), (by repeat (first | assumption | exact Bel.refl _ | refine Bel.drew ?_ | refine Bel.drewN ?_ _ | refine Bel.alloc ?_ _ | (refine Bel.trans ?_ (by assumption)) | (refine Bel.then ?_ (by assumption) (by intro x hx; first | (subst hx; simp; done) | (simp at *; omega)))))⟩

theorem CondOf_any (name : ByteArray) (w : World) : Calls Try.prog 29 #[.string name] w fun e w' => e = .returned (.tuple #[.int .i64 (max (W.idx name) 0), .bool (decide (0 ≤ W.idx name))]) ∧ Bel w w' := by
  have hb := W.idx_bd name
  by_cases h : 0 ≤ W.idx name
  · have HM := hid (show max (W.idx name) 0 = W.idx name by omega)
    go_enter Try.func29, Try.ntmps29
    go_wp2_with (first
      | (go_at_call 40; refine (wnames_any _).mono ?_; rintro e w' ⟨rfl, hb⟩)
      | (go_at_call 41; refine (index_any _ _ _ (nm_cells _ _)).mono ?_; rintro e w' ⟨rfl, hb⟩))
    go_ret2
    exact ⟨by rw [HM.out]; simp [h], (by repeat (first | assumption | exact Bel.refl _ | refine Bel.drew ?_ | refine Bel.drewN ?_ _ | refine Bel.alloc ?_ _ | (refine Bel.trans ?_ (by assumption)) | (refine Bel.then ?_ (by assumption) (by intro x hx; first | (subst hx; simp; done) | (simp at *; omega)))))⟩
  · have HM := hid (show max (W.idx name) 0 = 0 by omega)
    go_enter Try.func29, Try.ntmps29
    go_wp2_with (first
      | (go_at_call 40; refine (wnames_any _).mono ?_; rintro e w' ⟨rfl, hb⟩)
      | (go_at_call 41; refine (index_any _ _ _ (nm_cells _ _)).mono ?_; rintro e w' ⟨rfl, hb⟩))
    go_ret2
    exact ⟨by rw [HM.out]; simp, (by repeat (first | assumption | exact Bel.refl _ | refine Bel.drew ?_ | refine Bel.drewN ?_ _ | refine Bel.alloc ?_ _ | (refine Bel.trans ?_ (by assumption)) | (refine Bel.then ?_ (by assumption) (by intro x hx; first | (subst hx; simp; done) | (simp at *; omega)))))⟩

theorem rCondOf_any (name : ByteArray) (w : World) : Calls Try.prog 31 #[.string name] w fun e w' => e = .returned (.int .i64 (W.idx name)) ∧ Bel w w' := by
  have HI := hid (show W.idx name = W.idxF name 14 0 from rfl)
  go_enter Try.func31, Try.ntmps31
  go_wp2_with (go_at_call 42; refine (rnames_any _).mono ?_; rintro e w' ⟨rfl, hb⟩; have hc := nm_cells w' 52)
  go_loop [4] (fun i => ∃ k : Nat, k ≤ 14 ∧ i = .int .i64 k ∧ Hid (W.idx name = W.idxF name (14 - k) k)) (fun i => 14 - (intOf i).toNat)
  case atStart => exact ⟨0, by omega, rfl, HI⟩
  case round =>
    clear HI
    obtain ⟨k, hk, rfl, HI⟩ := hrel
    by_cases c1 : k < 14
    · have hck := hc k c1
      clear hc
      cases hq : (name.toList == (W.nm k).toList)
      · have HM := hid (W.idxF_miss name (14 - (k + 1)) k hq)
        have hq2 : ((W.nm k).toList == name.toList) = false := by rw [Bool.eq_false_iff] at *; intro e; exact hq (by rw [beq_iff_eq] at *; exact e.symm)
        go_wp2
        go_round
        case rel => exact ⟨k + 1, by omega, by go_num, hid (by rw [HI.out, show 14 - k = 14 - (k + 1) + 1 by omega, HM.out])⟩
        case measure => simp [intOf]; omega
      · have HM := hid (W.idxF_hit name (14 - (k + 1)) k hq)
        have hq2 : ((W.nm k).toList == name.toList) = true := by rw [beq_iff_eq] at *; exact hq.symm
        go_wp2
        go_ret
        exact ⟨ret_int (by rw [HI.out, show 14 - k = 14 - (k + 1) + 1 by omega, HM.out]), (by repeat (first | assumption | exact Bel.refl _ | refine Bel.drew ?_ | refine Bel.drewN ?_ _ | refine Bel.alloc ?_ _ | (refine Bel.trans ?_ (by assumption)) | (refine Bel.then ?_ (by assumption) (by intro x hx; first | (subst hx; simp; done) | (simp at *; omega)))))⟩
    · obtain rfl : k = 14 := by omega
      go_wp2
      go_ret
      exact ⟨ret_int (by rw [HI.out]; rfl), (by repeat (first | assumption | exact Bel.refl _ | refine Bel.drew ?_ | refine Bel.drewN ?_ _ | refine Bel.alloc ?_ _ | (refine Bel.trans ?_ (by assumption)) | (refine Bel.then ?_ (by assumption) (by intro x hx; first | (subst hx; simp; done) | (simp at *; omega)))))⟩

theorem CondName_in (k : Nat) (h : k < 14) (w : World) : Calls Try.prog 30 #[.int .i64 k] w fun e w' => e = .returned (.string (W.name k)) ∧ Bel w w' := by
  have HN := hid (show W.name k = W.nm k by unfold W.name; rw [if_neg (by omega), Int.toNat_natCast])
  go_enter Try.func30, Try.ntmps30
  go_wp2_with (go_at_call 40; refine (wnames_any _).mono ?_; rintro e w' ⟨rfl, hb⟩; have hc := nm_cells w' 52)
  go_ret
  exact ⟨by rw [HN.out]; rfl, (by repeat (first | assumption | exact Bel.refl _ | refine Bel.drew ?_ | refine Bel.drewN ?_ _ | refine Bel.alloc ?_ _ | (refine Bel.trans ?_ (by assumption)) | (refine Bel.then ?_ (by assumption) (by intro x hx; first | (subst hx; simp; done) | (simp at *; omega)))))⟩
theorem CondName_n (cc : Int) (h : cc < 0 ∨ 13 < cc) (w : World) : Calls Try.prog 30 #[.int .i64 cc] w fun e w' => e = .returned (.string (W.name cc)) ∧ Bel w w' := by
  have HN := hid (W.name_n cc h)
  rcases h with h | h
  · have d : decide (cc < 0) = true := by simp; omega
    go_enter Try.func30, Try.ntmps30
    go_wp2_with (go_at_call 40; refine (wnames_any _).mono ?_; rintro e w' ⟨rfl, hb⟩)
    go_ret
    exact ⟨by rw [HN.out]; rfl, (by repeat (first | assumption | exact Bel.refl _ | refine Bel.drew ?_ | refine Bel.drewN ?_ _ | refine Bel.alloc ?_ _ | (refine Bel.trans ?_ (by assumption)) | (refine Bel.then ?_ (by assumption) (by intro x hx; first | (subst hx; simp; done) | (simp at *; omega)))))⟩
  · have d : decide (cc < 0) = false := by simp; omega
    have d2 : decide (14 ≤ cc) = true := by simp; omega
    go_enter Try.func30, Try.ntmps30
    go_wp2_with (go_at_call 40; refine (wnames_any _).mono ?_; rintro e w' ⟨rfl, hb⟩)
    go_ret
    exact ⟨by rw [HN.out]; rfl, (by repeat (first | assumption | exact Bel.refl _ | refine Bel.drew ?_ | refine Bel.drewN ?_ _ | refine Bel.alloc ?_ _ | (refine Bel.trans ?_ (by assumption)) | (refine Bel.then ?_ (by assumption) (by intro x hx; first | (subst hx; simp; done) | (simp at *; omega)))))⟩
theorem CondName_any (cc : Int) (w : World) : Calls Try.prog 30 #[.int .i64 cc] w fun e w' => e = .returned (.string (W.name cc)) ∧ Bel w w' := by
  by_cases h : cc < 0 ∨ 13 < cc
  · exact CondName_n cc h w
  · obtain ⟨k, rfl⟩ := Int.eq_ofNat_of_zero_le (show 0 ≤ cc by omega)
    exact CondName_in k (by omega) w
theorem rCondName_in (k : Nat) (h : k < 14) (w : World) : Calls Try.prog 32 #[.int .i64 k] w fun e w' => e = .returned (.string (W.name k)) ∧ Bel w w' := by
  have HN := hid (show W.name k = W.nm k by unfold W.name; rw [if_neg (by omega), Int.toNat_natCast])
  go_enter Try.func32, Try.ntmps32
  go_wp2_with (go_at_call 42; refine (rnames_any _).mono ?_; rintro e w' ⟨rfl, hb⟩; have hc := nm_cells w' 52)
  go_ret
  exact ⟨by rw [HN.out]; rfl, (by repeat (first | assumption | exact Bel.refl _ | refine Bel.drew ?_ | refine Bel.drewN ?_ _ | refine Bel.alloc ?_ _ | (refine Bel.trans ?_ (by assumption)) | (refine Bel.then ?_ (by assumption) (by intro x hx; first | (subst hx; simp; done) | (simp at *; omega)))))⟩
theorem rCondName_n (cc : Int) (h : cc < 0 ∨ 13 < cc) (w : World) : Calls Try.prog 32 #[.int .i64 cc] w fun e w' => e = .returned (.string (W.name cc)) ∧ Bel w w' := by
  have HN := hid (W.name_n cc h)
  rcases h with h | h
  · have d : decide (cc < 0) = true := by simp; omega
    go_enter Try.func32, Try.ntmps32
    go_wp2_with (go_at_call 42; refine (rnames_any _).mono ?_; rintro e w' ⟨rfl, hb⟩)
    go_ret
    exact ⟨by rw [HN.out]; rfl, (by repeat (first | assumption | exact Bel.refl _ | refine Bel.drew ?_ | refine Bel.drewN ?_ _ | refine Bel.alloc ?_ _ | (refine Bel.trans ?_ (by assumption)) | (refine Bel.then ?_ (by assumption) (by intro x hx; first | (subst hx; simp; done) | (simp at *; omega)))))⟩
  · have d : decide (cc < 0) = false := by simp; omega
    have d2 : decide (13 < cc) = true := by simp; omega
    go_enter Try.func32, Try.ntmps32
    go_wp2_with (go_at_call 42; refine (rnames_any _).mono ?_; rintro e w' ⟨rfl, hb⟩)
    go_ret
    exact ⟨by rw [HN.out]; rfl, (by repeat (first | assumption | exact Bel.refl _ | refine Bel.drew ?_ | refine Bel.drewN ?_ _ | refine Bel.alloc ?_ _ | (refine Bel.trans ?_ (by assumption)) | (refine Bel.then ?_ (by assumption) (by intro x hx; first | (subst hx; simp; done) | (simp at *; omega)))))⟩
theorem rCondName_any (cc : Int) (w : World) : Calls Try.prog 32 #[.int .i64 cc] w fun e w' => e = .returned (.string (W.name cc)) ∧ Bel w w' := by
  by_cases h : cc < 0 ∨ 13 < cc
  · exact rCondName_n cc h w
  · obtain ⟨k, rfl⟩ := Int.eq_ofNat_of_zero_le (show 0 ≤ cc by omega)
    exact rCondName_in k (by omega) w
end Go.Proofs.Ytnjpmmdjaenomaa
