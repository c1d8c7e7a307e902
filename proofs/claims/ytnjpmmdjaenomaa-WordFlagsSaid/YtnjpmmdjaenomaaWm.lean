/- Walks: babelref01.Put; the examples (sanity); no condition but that the word is a word. -/
import Derived.Test.YtnjpmmdjaenomaaProg
import Derived.Test.YtnjpmmdjaenomaaWa
import Derived.Test.YtnjpmmdjaenomaaWg
import Derived.Test.YtnjpmmdjaenomaaWh
import Derived.Test.YtnjpmmdjaenomaaWi
import Derived.Test.YtnjpmmdjaenomaaWl
namespace Go.Proofs.Ytnjpmmdjaenomaa
set_option linter.unusedVariables false
open Go.RowKit
theorem conv1 (w : World) (x : Int) : (convert 30 9 (.slice (some ⟨w.heap.size, 0, none⟩) 1 1)).run Try.prog (w.alloc (.cells #[.int .u8 x] 5)) = .ok (.string (strOfNums [x])) (w.alloc (.cells #[.int .u8 x] 5)) := by
  refine run_convert_bytes_arg _ _ _ Try.underlying30 Try.underlying5 _ 0 1 1 [x] rfl ?_ _ Try.underlying9
  intro i hi
  obtain rfl : i = 0 := by omega
  rw [Nat.zero_add, World.cell?_alloc_mark]; rfl
theorem put_step (n : Int) (k : Nat) (hk : k < 4) : W.put n k ++ strOfNums [n / 2 ^ (8 * k) % 256] = W.put n (k + 1 : Nat) := by
  unfold W.put
  rw [show (max 0 (min (k : Int) 4)).toNat = k by omega, show (max 0 (min ((k + 1 : Nat) : Int) 4)).toNat = k + 1 by omega]
  rcases (by omega : k = 0 ∨ k = 1 ∨ k = 2 ∨ k = 3) with rfl | rfl | rfl | rfl <;> simp [W.bytes4, strOfNums] <;> rfl
theorem rPut_any (n k : Int) (h0 : 0 ≤ n) (h1 : n < 4294967296) (k0 : -9223372036854775808 ≤ k) (k1 : k ≤ 9223372036854775807) (w : World) :
    Calls Try.prog 24 #[.int .u32 n, .int .i64 k] w fun e w' => e = .returned (.string (W.put n k)) ∧ Bel w w' := by
  have hcv := conv1
  go_enter Try.func24, Try.ntmps24
  go_wp2
  go_loopw [5, 6] (fun s i wr => ∃ m : Nat, m ≤ 4 ∧ (m = 0 ∨ m ≤ k) ∧ i = .int .i64 m ∧ s = .string (W.put n m) ∧ Bel w wr) (fun _ i _ => 4 - (intOf i).toNat)
  case atStart => exact ⟨0, by omega, by omega, rfl, rfl, (by repeat (first | assumption | exact Bel.refl _ | refine Bel.drew ?_ | refine Bel.drewN ?_ _ | refine Bel.alloc ?_ _ | (refine Bel.trans ?_ (by assumption)) | (refine Bel.then ?_ (by assumption) (by intro x hx; first | (subst hx; simp; done) | (simp at *; omega)))))⟩
  case round =>
    obtain ⟨m, hm, hm2, rfl, rfl, hb⟩ := hrel
    by_cases c1 : m < k
    · by_cases c2 : m < 4
      · have HS := hid (put_step n m c2)
        have z1 : (strOfNums [n / 2 ^ (8 * m) % 256]).size = 1 := by rw [strOfNums_size]; rfl
        have z2 : (W.put n m).size = m := by have := W.put_size n m (by omega) (by omega); omega
        go_wp2
        go_roundw
        case rel => exact ⟨m + 1, by omega, by omega, by go_num, by rw [← HS.out], (by repeat (first | assumption | exact Bel.refl _ | refine Bel.drew ?_ | refine Bel.drewN ?_ _ | refine Bel.alloc ?_ _ | (refine Bel.trans ?_ (by assumption)) | (refine Bel.then ?_ (by assumption) (by intro x hx; first | (subst hx; simp; done) | (simp at *; omega)))))⟩
        case measure => simp [intOf]; omega
      · have HS := hid (show W.put n m = W.put n k by unfold W.put; rw [show (max 0 (min (m : Int) 4)).toNat = (max 0 (min k 4)).toNat by omega])
        go_wp2
        go_ret
        exact ⟨by rw [← HS.out]; rfl, (by repeat (first | assumption | exact Bel.refl _ | refine Bel.drew ?_ | refine Bel.drewN ?_ _ | refine Bel.alloc ?_ _ | (refine Bel.trans ?_ (by assumption)) | (refine Bel.then ?_ (by assumption) (by intro x hx; first | (subst hx; simp; done) | (simp at *; omega)))))⟩
    · have HS := hid (show W.put n m = W.put n k by unfold W.put; rw [show (max 0 (min (m : Int) 4)).toNat = (max 0 (min k 4)).toNat by omega])
      go_wp2
      go_ret
      exact ⟨by rw [← HS.out]; rfl, (by repeat (first | assumption | exact Bel.refl _ | refine Bel.drew ?_ | refine Bel.drewN ?_ _ | refine Bel.alloc ?_ _ | (refine Bel.trans ?_ (by assumption)) | (refine Bel.then ?_ (by assumption) (by intro x hx; first | (subst hx; simp; done) | (simp at *; omega)))))⟩
set_option maxRecDepth 100000 in
theorem sanity_any (w : World) : Calls Try.prog 13 #[] w fun e w' => e = .returned (.bool true) ∧ Bel w w' := by
  have f1 : W.flags 3 1 2 = 8 := by decide
  have f2 : W.flags 1 2147483647 1 = 9 := by decide
  have f3 : W.sign 128 8 = 4294967168 := by decide
  have f4 : (W.put 4660 2).toList = [52, 18] := by decide +kernel
  have f5 : W.sum [49, 50, 51, 52, 53, 54, 55, 56, 57] = 3421780262 := by decide +kernel
  have f6 : (W.name 13).toList = [108, 101] := by decide +kernel
  go_enter Try.func13, Try.ntmps13
  go_wp2_with (first
    | (go_at_call 15; refine (Flags_any _ _ _ (by decide) (by decide) (by decide) (by decide) _).mono ?_; rintro e w' ⟨rfl, hb⟩)
    | (go_at_call 19; refine (Sign_any _ _ (by decide) (by decide) (by decide) (by decide) _).mono ?_; rintro e w' ⟨rfl, hb⟩)
    | (go_at_call 23; refine (Put_any _ _ (by decide) (by decide) (by decide) (by decide) _).mono ?_; rintro e w' ⟨rfl, hb⟩)
    | (go_at_call 17; refine (Sum_any _ (by decide) _).mono ?_; rintro e w' ⟨rfl, hb⟩)
    | (go_at_call 30; refine (CondName_any _ _).mono ?_; rintro e w' ⟨rfl, hb⟩))
  go_ret
  exact ⟨rfl, (by repeat (first | assumption | exact Bel.refl _ | refine Bel.drew ?_ | refine Bel.drewN ?_ _ | refine Bel.alloc ?_ _ | (refine Bel.trans ?_ (by assumption)) | (refine Bel.then ?_ (by assumption) (by intro x hx; first | (subst hx; simp; done) | (simp at *; omega)))))⟩
end Go.Proofs.Ytnjpmmdjaenomaa
