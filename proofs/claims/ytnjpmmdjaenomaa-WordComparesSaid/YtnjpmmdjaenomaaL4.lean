/- Walks: the law WordCompares returns true; no condition but that the arguments are of their kinds. -/
import Derived.Test.YtnjpmmdjaenomaaL1
import Derived.Test.YtnjpmmdjaenomaaW10
import Derived.Test.YtnjpmmdjaenomaaPlan
import Derived.Test.YtnjpmmdjaenomaaNear
namespace Go.Proofs.Ytnjpmmdjaenomaa
set_option linter.unusedVariables false
open Go.RowKit
attribute [local go_sem] calmUpon_value calmUpon_skip
theorem set4 {w : World} {g : Nat} {u0 u1 u2 u3 : Value} (h0 : w.cell? ⟨g, 0, none⟩ = some u0) (h1 : w.cell? ⟨g, 1, none⟩ = some u1) (h2 : w.cell? ⟨g, 2, none⟩ = some u2) (h3 : w.cell? ⟨g, 3, none⟩ = some u3) (v0 v1 v2 v3 : Value) :
    ∃ w4, w4 = (((w.setCell ⟨g, 0, none⟩ v0).setCell ⟨g, 1, none⟩ v1).setCell ⟨g, 2, none⟩ v2).setCell ⟨g, 3, none⟩ v3 ∧ w4.cell? ⟨g, 0, none⟩ = some v0 ∧ w4.cell? ⟨g, 1, none⟩ = some v1 ∧ w4.cell? ⟨g, 2, none⟩ = some v2 ∧
      w4.cell? ⟨g, 3, none⟩ = some v3 ∧ Ch (fun x => x = g) w w4 :=
  ⟨_, rfl, by go_simp, by go_simp, by go_simp, by go_simp, ((((Ch.refl (fun x => x = g) w).setCell (p := ⟨g, 0, none⟩) (fun _ => rfl) _).setCell (p := ⟨g, 1, none⟩) (fun _ => rfl) _).setCell (p := ⟨g, 2, none⟩) (fun _ => rfl) _).setCell (p := ⟨g, 3, none⟩) (fun _ => rfl) _⟩
theorem WordCompares_walk (n0 n1 a b : Int) (hn0 : I64 n0) (hn1 : I64 n1) (ha : U32 a) (hb : U32 b) (w : World) :
    Calls Try.prog 12 #[.agg #[.int .i64 n0, .int .i64 n1], .agg #[.int .u32 a, .int .u32 b]] w fun e w' => e = .returned (.bool true) ∧ Bel w w' := by
  obtain ⟨ha0, ha1⟩ := ha; obtain ⟨hb0, hb1⟩ := hb; obtain ⟨p0, p1⟩ := hn0; obtain ⟨q0, q1⟩ := hn1
  go_enter Try.func12, Try.ntmps12
  go_wp2_with (go_at_call 13; refine (sanity_any _).mono ?_; rintro e w' ⟨rfl, hb⟩; have c0 := Bel.at hb (ad := ⟨w.heap.size, 0, none⟩) (v := .int .i64 n0) (by first | assumption | (go_simp)); have c1 := Bel.at hb (ad := ⟨w.heap.size, 1, none⟩) (v := .int .i64 n1) (by first | assumption | (go_simp)); have c2 := Bel.at hb (ad := ⟨w.heap.size + 1, 0, none⟩) (v := .int .u32 a) (by first | assumption | (go_simp)); have c3 := Bel.at hb (ad := ⟨w.heap.size + 1, 1, none⟩) (v := .int .u32 b) (by first | assumption | (go_simp)))
  refine wp_plan [0, 1, 2, 3, 4, 5, 6, 7, 8, 9, 10, 11, 12] [13] 14 (by kernel_rfl) (by kernel_rfl) (by rfl) ?_
  apply Exists.intro
  refine ⟨?_, ?_⟩
  · intro W' hW'
    have d0 := cell_more (Bel.at hW' c0)
    have d1 := cell_more (Bel.at hW' c1)
    have d2 := cell_more (Bel.at hW' c2)
    have d3 := cell_more (Bel.at hW' c3)
    simp only [pick, List.getD_cons_zero, List.getD_cons_succ]
    repeat (go_big_quiet_step ((first
      | (go_at_call 14; exact Calls.more_of (near_is _ (by assumption) (by assumption) _)))))
    exact wpQuiet_nil rfl
  · simp only [pick, List.getD_cons_zero, List.getD_cons_succ]
    simp only [chain, List.drop_succ_cons, List.drop_zero]
    intro w2 hb2
    refine calm_plain rfl ?_
    go_simp
    refine ⟨(by repeat (first | assumption | exact Bel.refl _ | refine Bel.drew ?_ | refine Bel.drewN ?_ _ | refine Bel.alloc ?_ _ | (refine Bel.trans ?_ (by assumption)) | (refine Bel.then ?_ (by assumption) (by intro x hx; first | (subst hx; simp; done) | (simp at *; omega))))), ?_⟩
    intro w3 hb3
    have hg : w.heap.size ≤ w2.heap.size := by have := hb.size; have := hb2.size; simp at *; omega
    have z0 := Bel.at hb3 (ad := ⟨w2.heap.size, 0, none⟩) (v := .int .u32 0) (by go_simp)
    have z1 := Bel.at hb3 (ad := ⟨w2.heap.size, 1, none⟩) (v := .int .u32 0) (by go_simp)
    have z2 := Bel.at hb3 (ad := ⟨w2.heap.size, 2, none⟩) (v := .int .u32 0) (by go_simp)
    have z3 := Bel.at hb3 (ad := ⟨w2.heap.size, 3, none⟩) (v := .int .u32 0) (by go_simp)
    have zf : ∀ j, w3.frozen? ⟨w2.heap.size, j, none⟩ = false := fun j => by rw [hb3.frozen _ _ (by simp)]; go_simp
    have hbw : Bel w w3 := (by repeat (first | assumption | exact Bel.refl _ | refine Bel.drew ?_ | refine Bel.drewN ?_ _ | refine Bel.alloc ?_ _ | (refine Bel.trans ?_ (by assumption)) | (refine Bel.then ?_ (by assumption) (by intro x hx; first | (subst hx; simp; done) | (simp at *; omega)))))
    generalize w2.heap.size = g at *
    clear hb3 hb2 hb c0 c1 c2 c3
    obtain ⟨w4, hw4, y0, y1, y2, y3, hch⟩ := set4 z0 z1 z2 z3 (.int .u32 a) (.int .u32 b) (.int .u32 (W.near n0)) (.int .u32 (W.near n1))
    have hb4 : Bel w w4 := hbw.then hch (by intro x hx; subst hx; exact hg)
    go_wp2
    rw [← hw4]
    clear hw4 z0 z1 z2 z3 zf hch hbw
    obtain ⟨m00, m01⟩ := W.near_bd n0
    obtain ⟨m10, m11⟩ := W.near_bd n1
    obtain ⟨f0, f1, f2, f3, f4⟩ := W.compares a b ha0 ha1 hb0 hb1
    obtain ⟨g0, g1, g2, g3, g4⟩ := W.compares (W.near n0) (W.near n1) m00 m01 m10 m11
    go_loopw [7, 8, 9, 10, 11] (fun i _ _ _ _ wr => ∃ k : Nat, k ≤ 2 ∧ i = .int .i64 k ∧ Bel w4 wr) (fun i _ _ _ _ _ => 2 - (intOf i).toNat)
    case atStart => exact ⟨0, by omega, rfl, Bel.refl _⟩
    case round =>
      obtain ⟨k, hk, rfl, hbr⟩ := hrel
      have x0 := Bel.at hbr y0
      have x1 := Bel.at hbr y1
      have x2 := Bel.at hbr y2
      have x3 := Bel.at hbr y3
      rcases (by omega : k = 0 ∨ k = 1 ∨ k = 2) with rfl | rfl | rfl
      · skip
        go_wp2_with (first
          | (go_at_call 15; refine (Flags_any _ _ _ (by assumption) (by assumption) (by assumption) (by assumption) _).mono ?_; rintro e w' ⟨rfl, hb⟩)
          | (go_at_call 33; refine (Op_any _ _ _ (by assumption) (by assumption) (by assumption) (by assumption) _).mono ?_; rintro e w' ⟨rfl, hb⟩)
          | (go_at_call 27; refine (Cond_any _ _ _).mono ?_; rintro e w' ⟨rfl, hb⟩))
        all_goals
          go_roundw
          case rel => exact ⟨1, by omega, by go_num, (by repeat (first | assumption | exact Bel.refl _ | refine Bel.drew ?_ | refine Bel.drewN ?_ _ | refine Bel.alloc ?_ _ | (refine Bel.trans ?_ (by assumption)) | (refine Bel.then ?_ (by assumption) (by intro x hx; first | (subst hx; simp; done) | (simp at *; omega)))))⟩
          case measure => simp [intOf]
      · skip
        go_wp2_with (first
          | (go_at_call 15; refine (Flags_any _ _ _ (by assumption) (by assumption) (by assumption) (by assumption) _).mono ?_; rintro e w' ⟨rfl, hb⟩)
          | (go_at_call 33; refine (Op_any _ _ _ (by assumption) (by assumption) (by assumption) (by assumption) _).mono ?_; rintro e w' ⟨rfl, hb⟩)
          | (go_at_call 27; refine (Cond_any _ _ _).mono ?_; rintro e w' ⟨rfl, hb⟩))
        all_goals
          go_roundw
          case rel => exact ⟨2, by omega, by go_num, (by repeat (first | assumption | exact Bel.refl _ | refine Bel.drew ?_ | refine Bel.drewN ?_ _ | refine Bel.alloc ?_ _ | (refine Bel.trans ?_ (by assumption)) | (refine Bel.then ?_ (by assumption) (by intro x hx; first | (subst hx; simp; done) | (simp at *; omega)))))⟩
          case measure => simp [intOf]
      · go_wp2
        go_ret
        exact ⟨rfl, hb4.trans hbr⟩
end Go.Proofs.Ytnjpmmdjaenomaa
