/- Walks: kcode.within, for spans that lie in a row of cells; no other condition. -/
import Derived.Test.YtgnekniabedomaaProg
import Derived.Test.YtgnekniabedomaaBase
namespace Go.Proofs.Ytgnekniabedomaa
set_option linter.unusedVariables false
set_option linter.unusedSimpArgs false
open Go.RowKit
/-- Whether n lies in one of the spans, from the j-th on. -/
def K.inAny (n : Int) (l : List (Int × Int)) : Bool := l.any fun s => decide (s.1 ≤ n) && decide (n ≤ s.2)
theorem K.inAny_drop (n : Int) (l : List (Int × Int)) (k : Nat) (h : k < l.length) : K.inAny n (l.drop k) = ((decide ((l.getD k (0, 0)).1 ≤ n) && decide (n ≤ (l.getD k (0, 0)).2)) || K.inAny n (l.drop (k + 1))) := by
  unfold K.inAny
  rw [List.drop_eq_getElem_cons h, List.any_cons, List.getD, List.getElem?_eq_getElem h]; rfl
theorem within_any (n : Int) (b o cap : Nat) (l : List (Int × Int)) (hl : l.length ≤ 1000) (w : World)
    (hc : ∀ j, j < l.length → w.cell? ⟨b, o + j * 2, none⟩ = some (.int .i64 (l.getD j (0, 0)).1)) (hd : ∀ j, j < l.length → w.cell? ⟨b, o + j * 2 + 1, none⟩ = some (.int .i64 (l.getD j (0, 0)).2)) :
    Calls Try.prog 36 #[.int .i64 n, .slice (some ⟨b, o, none⟩) l.length cap] w fun e w' => e = .returned (.bool (K.inAny n l)) ∧ Bel w w' := by
  have HI := hid (show K.inAny n l = K.inAny n (l.drop 0) from rfl)
  go_enter Try.func36, Try.ntmps36
  go_wp2
  go_loopw [9] (fun i wr => ∃ k : Nat, k ≤ l.length ∧ i = .int .i64 k ∧ Hid (K.inAny n l = K.inAny n (l.drop k)) ∧ Bel w wr) (fun i _ => l.length - (intOf i).toNat)
  case atStart => exact ⟨0, by omega, rfl, HI, Bel.refl _⟩
  case round =>
    clear HI
    obtain ⟨k, hk, rfl, HI, hb⟩ := hrel
    by_cases c1 : k < l.length
    · have hck := Bel.at hb (hc k c1)
      have hdk := Bel.at hb (hd k c1)
      have hD := K.inAny_drop n l k c1
      clear hc hd
      generalize (l.getD k (0, 0)).1 = p at *
      generalize (l.getD k (0, 0)).2 = q at *
      have HD := hid hD
      clear hD
      by_cases c2 : p ≤ n
      · by_cases c3 : n ≤ q
        · have HR := hid (show K.inAny n l = true by rw [HI.out, HD.out]; simp [c2, c3])
          go_wp2
          go_ret
          exact ⟨ret_bool (by rw [HR.out]), (by repeat (first | assumption | exact Bel.refl _ | refine Bel.drew ?_ | refine Bel.drewN ?_ _ | refine Bel.alloc ?_ _ | (refine Bel.trans ?_ (by assumption)) | (refine Bel.then ?_ (by assumption) (by intro x hx; first | (subst hx; simp; done) | (simp at *; omega)))))⟩
        · have HR := hid (show K.inAny n l = K.inAny n (l.drop (k + 1)) by rw [HI.out, HD.out]; simp [c3])
          go_wp2
          go_roundw
          case rel => exact ⟨k + 1, by omega, by go_num, HR, (by repeat (first | assumption | exact Bel.refl _ | refine Bel.drew ?_ | refine Bel.drewN ?_ _ | refine Bel.alloc ?_ _ | (refine Bel.trans ?_ (by assumption)) | (refine Bel.then ?_ (by assumption) (by intro x hx; first | (subst hx; simp; done) | (simp at *; omega)))))⟩
          case measure => simp [intOf]; omega
      · have HR := hid (show K.inAny n l = K.inAny n (l.drop (k + 1)) by rw [HI.out, HD.out]; simp [c2])
        go_wp2
        go_roundw
        case rel => exact ⟨k + 1, by omega, by go_num, HR, (by repeat (first | assumption | exact Bel.refl _ | refine Bel.drew ?_ | refine Bel.drewN ?_ _ | refine Bel.alloc ?_ _ | (refine Bel.trans ?_ (by assumption)) | (refine Bel.then ?_ (by assumption) (by intro x hx; first | (subst hx; simp; done) | (simp at *; omega)))))⟩
        case measure => simp [intOf]; omega
    · have HR := hid (show K.inAny n l = false by rw [HI.out, List.drop_eq_nil_of_le (by omega)]; rfl)
      go_wp2
      go_ret
      exact ⟨ret_bool (by rw [HR.out]), (by repeat (first | assumption | exact Bel.refl _ | refine Bel.drew ?_ | refine Bel.drewN ?_ _ | refine Bel.alloc ?_ _ | (refine Bel.trans ?_ (by assumption)) | (refine Bel.then ?_ (by assumption) (by intro x hx; first | (subst hx; simp; done) | (simp at *; omega)))))⟩
end Go.Proofs.Ytgnekniabedomaa
