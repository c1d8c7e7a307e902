/- Walks: kcode.takes, puts, formats; no condition. -/
import Derived.Test.YtgnekniabedomaaKa
import Derived.Test.YtgnekniabedomaaKc
import Derived.Test.YtgnekniabedomaaKe
namespace Go.Proofs.Ytgnekniabedomaa
set_option linter.unusedVariables false
set_option linter.unusedSimpArgs false
open Go.RowKit
/-- v is the closure F over a cell that holds a slice of the functions fs. -/
def K.Cl (F : FuncId) (fs : List FuncId) (v : Value) (w : World) : Prop := ∃ c h cap, v = .func (.func F) #[] #[.pointer (some ⟨c, 0, none⟩)] ∧ w.cell? ⟨c, 0, none⟩ = some (.slice (some ⟨h, 0, none⟩) fs.length cap) ∧ ∀ j, j < fs.length → w.cell? ⟨h, j, none⟩ = some (.func (.func (fs.getD j 0)) #[] #[])
theorem K.Cl.bel {F : FuncId} {fs : List FuncId} {v : Value} {w w' : World} (h : K.Cl F fs v w) (k : Bel w w') : K.Cl F fs v w' := by
  obtain ⟨c, b, cap, e, h1, h2⟩ := h
  exact ⟨c, b, cap, e, Bel.at k h1, fun j hj => Bel.at k (h2 j hj)⟩
theorem takes2_any (f1 f2 : FuncId) (w : World) (T : TypeId) :
    Calls Try.prog 46 #[.slice (some ⟨w.heap.size, 0, none⟩) 2 2] (w.alloc (.cells #[.func (.func f1) #[] #[], .func (.func f2) #[] #[]] T)) fun e w' => ∃ v, e = .returned v ∧ K.Cl 55 [f1, f2] v w' ∧ Bel w w' := by
  go_enter Try.func46, Try.ntmps46
  go_wp2
  go_ret
  refine ⟨_, rfl, ⟨w.heap.size + 1, w.heap.size, 2, rfl, by go_simp, ?_⟩, (by repeat (first | assumption | exact Bel.refl _ | refine Bel.drew ?_ | refine Bel.drewN ?_ _ | refine Bel.alloc ?_ _ | (refine Bel.trans ?_ (by assumption)) | (refine Bel.then ?_ (by assumption) (by intro x hx; first | (subst hx; simp; done) | (simp at *; omega)))))⟩
  intro j hj
  rcases (show j = 0 ∨ j = 1 by simp at hj; omega) with rfl | rfl <;> go_simp
theorem takes3_any (f1 f2 f3 : FuncId) (w : World) (T : TypeId) :
    Calls Try.prog 46 #[.slice (some ⟨w.heap.size, 0, none⟩) 3 3] (w.alloc (.cells #[.func (.func f1) #[] #[], .func (.func f2) #[] #[], .func (.func f3) #[] #[]] T)) fun e w' => ∃ v, e = .returned v ∧ K.Cl 55 [f1, f2, f3] v w' ∧ Bel w w' := by
  go_enter Try.func46, Try.ntmps46
  go_wp2
  go_ret
  refine ⟨_, rfl, ⟨w.heap.size + 1, w.heap.size, 3, rfl, by go_simp, ?_⟩, (by repeat (first | assumption | exact Bel.refl _ | refine Bel.drew ?_ | refine Bel.drewN ?_ _ | refine Bel.alloc ?_ _ | (refine Bel.trans ?_ (by assumption)) | (refine Bel.then ?_ (by assumption) (by intro x hx; first | (subst hx; simp; done) | (simp at *; omega)))))⟩
  intro j hj
  rcases (show j = 0 ∨ j = 1 ∨ j = 2 by simp at hj; omega) with rfl | rfl | rfl <;> go_simp
theorem puts2_any (f1 f2 : FuncId) (w : World) (T : TypeId) :
    Calls Try.prog 48 #[.slice (some ⟨w.heap.size, 0, none⟩) 2 2] (w.alloc (.cells #[.func (.func f1) #[] #[], .func (.func f2) #[] #[]] T)) fun e w' => ∃ v, e = .returned v ∧ K.Cl 57 [f1, f2] v w' ∧ Bel w w' := by
  go_enter Try.func48, Try.ntmps48
  go_wp2
  go_ret
  refine ⟨_, rfl, ⟨w.heap.size + 1, w.heap.size, 2, rfl, by go_simp, ?_⟩, (by repeat (first | assumption | exact Bel.refl _ | refine Bel.drew ?_ | refine Bel.drewN ?_ _ | refine Bel.alloc ?_ _ | (refine Bel.trans ?_ (by assumption)) | (refine Bel.then ?_ (by assumption) (by intro x hx; first | (subst hx; simp; done) | (simp at *; omega)))))⟩
  intro j hj
  rcases (show j = 0 ∨ j = 1 by simp at hj; omega) with rfl | rfl <;> go_simp
theorem puts3_any (f1 f2 f3 : FuncId) (w : World) (T : TypeId) :
    Calls Try.prog 48 #[.slice (some ⟨w.heap.size, 0, none⟩) 3 3] (w.alloc (.cells #[.func (.func f1) #[] #[], .func (.func f2) #[] #[], .func (.func f3) #[] #[]] T)) fun e w' => ∃ v, e = .returned v ∧ K.Cl 57 [f1, f2, f3] v w' ∧ Bel w w' := by
  go_enter Try.func48, Try.ntmps48
  go_wp2
  go_ret
  refine ⟨_, rfl, ⟨w.heap.size + 1, w.heap.size, 3, rfl, by go_simp, ?_⟩, (by repeat (first | assumption | exact Bel.refl _ | refine Bel.drew ?_ | refine Bel.drewN ?_ _ | refine Bel.alloc ?_ _ | (refine Bel.trans ?_ (by assumption)) | (refine Bel.then ?_ (by assumption) (by intro x hx; first | (subst hx; simp; done) | (simp at *; omega)))))⟩
  intro j hj
  rcases (show j = 0 ∨ j = 1 ∨ j = 2 by simp at hj; omega) with rfl | rfl | rfl <;> go_simp
def K.lo (k : Nat) : Int := [0, 16, 32, 48, 64, 80, 88, 96, 112, 128, 129].getD k 0
def K.hi (k : Nat) : Int := [4, 21, 46, 62, 78, 86, 94, 109, 113, 128, 130].getD k 0
def K.len (k : Nat) : Int := [1, 2, 2, 3, 6, 3, 7, 2, 5, 2, 2].getD k 0
/-- t and p are the reader and the writer of format k. -/
def K.Fm (k : Nat) (t p : Value) (w : World) : Prop := match k with
  | 0 => t = .func (.func 40) #[] #[] ∧ p = .func (.func 41) #[] #[]
  | 1 => t = .func (.func 42) #[] #[] ∧ p = .func (.func 43) #[] #[]
  | 2 => t = .func (.func 44) #[] #[] ∧ p = .func (.func 45) #[] #[]
  | 3 => K.Cl 55 [42, 47] t w ∧ K.Cl 57 [43, 49] p w
  | 4 => K.Cl 55 [42, 50] t w ∧ K.Cl 57 [43, 51] p w
  | 5 => K.Cl 55 [44, 47] t w ∧ K.Cl 57 [45, 49] p w
  | 6 => K.Cl 55 [44, 52, 50] t w ∧ K.Cl 57 [45, 53, 51] p w
  | 7 => t = .func (.func 47) #[] #[] ∧ p = .func (.func 49) #[] #[]
  | 8 => t = .func (.func 50) #[] #[] ∧ p = .func (.func 51) #[] #[]
  | 9 => t = .func (.func 54) #[] #[] ∧ p = .func (.func 49) #[] #[]
  | 10 => t = .func (.func 44) #[] #[] ∧ p = .func (.func 45) #[] #[]
  | _ => False
theorem K.Fm.bel {k : Nat} {t p : Value} {w w' : World} (h : K.Fm k t p w) (b : Bel w w') : K.Fm k t p w' := by
  unfold K.Fm at *
  split at h <;> first | exact h | exact ⟨h.1.bel b, h.2.bel b⟩
/-- The eleven formats lie at block g. -/
def K.Fms (g : Nat) (ts ps : Nat → Value) (w : World) : Prop := ∀ k, k < 11 → w.cell? ⟨g, k * 5, none⟩ = some (.int .i64 (K.lo k)) ∧ w.cell? ⟨g, k * 5 + 1, none⟩ = some (.int .i64 (K.hi k)) ∧ w.cell? ⟨g, k * 5 + 2, none⟩ = some (.int .i64 (K.len k)) ∧ w.cell? ⟨g, k * 5 + 3, none⟩ = some (ts k) ∧ w.cell? ⟨g, k * 5 + 4, none⟩ = some (ps k) ∧ K.Fm k (ts k) (ps k) w
end Go.Proofs.Ytgnekniabedomaa
