/- Walks: word.Put, Get, babelref01.Put, Get; no condition but that the words are words. -/
import Derived.Test.YtgnekniabedomaaProg
import Derived.Test.YtgnekniabedomaaBase
import Derived.Test.YtgnekniabedomaaW3
import Derived.Lib.ConvBytes
namespace Go.Proofs.Ytgnekniabedomaa
set_option linter.unusedVariables false
set_option linter.unusedSimpArgs false
open Go.RowKit

theorem byt_extract (s : ByteArray) (m j : Nat) (hj : j < m) : W.byt (s.extract 0 m).data.toList j = W.byt s.data.toList j := by
  unfold W.byt
  have : (s.extract 0 m).data.toList = s.data.toList.take m := by simp [ByteArray.data_extract]
  rw [this]
  simp [List.getD, hj]

theorem bel_bytes (w : World) (e : TypeId) (s : ByteArray) : Bel w (Lib.bytesWorld w e s) :=
  ⟨rfl, rfl, rfl, by rw [Lib.bytesWorld_size]; omega, fun k hk => Lib.bytesWorld_at_old w e s k hk⟩

theorem Get_any (s : ByteArray) (hs : s.size ≤ maxLen) (w : World) :
    Calls Try.prog 58 #[.string s] w fun e w' => e = .returned (.int .u32 (W.get s.data.toList)) ∧ Bel w w' := by
  unfold maxLen at hs
  have hcv : ∀ s' : ByteArray, (convert 9 23 (.string s')).run Try.prog w = .ok (.slice (some ⟨w.heap.size, 0, none⟩) s'.size (grownCap w s'.size 0 5)) (Lib.bytesWorld w 5 s') :=
    fun s' => Lib.run_convert_string_bytes w 9 23 5 s' Try.underlying9 Try.underlying23 Try.underlying5
  have hcell : ∀ (s' : ByteArray) (j : Nat), j < s'.size → (Lib.bytesWorld w 5 s').cell? ⟨w.heap.size, j, none⟩ = some (.int .u8 (W.byt s'.data.toList j)) := fun s' j hj => Lib.bytesWorld_cell w 5 s' j hj
  have hbd := W.byt_bd
  by_cases h4 : s.size ≤ 4
  · have hB : Bel w (Lib.bytesWorld w 5 s) := bel_bytes w _ s
    go_enter Try.func58, Try.ntmps58
    go_wp2
    go_loop [3, 4, 5, 13] (fun n _ _ i => ∃ k : Nat, k ≤ s.size ∧ i = .int .i64 k ∧ n = .int .u32 (W.getK s.data.toList k)) (fun _ _ _ i => s.size - (intOf i).toNat)
    case atStart => exact ⟨0, by omega, rfl, rfl⟩
    case round =>
      obtain ⟨k, hk, rfl, rfl⟩ := hrel
      have hb1 := hbd s.data.toList k
      clear hbd
      by_cases c1 : k < s.size
      · have HK := hid (W.getK_or s.data.toList k (by omega))
        go_wp2
        go_round
        case rel => exact ⟨k + 1, by omega, by go_num, by rw [← HK.out]⟩
        case measure => simp [intOf]; omega
      · have HK := hid (W.getK_eq s.data.toList k (by omega) (Or.inr (by simp; omega)))
        go_wp2
        go_ret
        exact ⟨ret_int (by rw [HK.out]), hB⟩
  · have hB : Bel w (Lib.bytesWorld w 5 (s.extract 0 4)) := bel_bytes w _ _
    have hmin : min 4 s.size = 4 := by omega
    have hcell4 : ∀ j : Nat, j < 4 → (Lib.bytesWorld w 5 (s.extract 0 4)).cell? ⟨w.heap.size, j, none⟩ = some (.int .u8 (W.byt s.data.toList j)) := fun j hj => by
      rw [hcell _ j (by simp; omega), byt_extract s 4 j hj]
    clear hcell
    go_enter Try.func58, Try.ntmps58
    go_wp2
    go_loop [3, 4, 5, 13] (fun n _ _ i => ∃ k : Nat, k ≤ 4 ∧ i = .int .i64 k ∧ n = .int .u32 (W.getK s.data.toList k)) (fun _ _ _ i => 4 - (intOf i).toNat)
    case atStart => exact ⟨0, by omega, rfl, rfl⟩
    case round =>
      obtain ⟨k, hk, rfl, rfl⟩ := hrel
      have hb1 := hbd s.data.toList k
      clear hbd
      by_cases c1 : k < 4
      · have HK := hid (W.getK_or s.data.toList k (by omega))
        go_wp2
        go_round
        case rel => exact ⟨k + 1, by omega, by go_num, by rw [← HK.out]⟩
        case measure => simp [intOf]; omega
      · have HK := hid (W.getK_eq s.data.toList k (by omega) (Or.inl (by omega)))
        go_wp2
        go_ret
        exact ⟨ret_int (by rw [HK.out]), hB⟩
theorem Put_any (n k : Int) (h0 : 0 ≤ n) (h1 : n < 4294967296) (k0 : -9223372036854775808 ≤ k) (k1 : k ≤ 9223372036854775807) (w : World) :
    Calls Try.prog 59 #[.int .u32 n, .int .i64 k] w fun e w' => e = .returned (.string (W.put n k)) ∧ Bel w w' := by
  have hcv : ∀ (m : Nat), m ≤ 4 → (convert 23 9 (.slice (some ⟨w.heap.size, 0, none⟩) m 4)).run Try.prog (w.alloc (.cells #[.int .u8 (n % 256), .int .u8 (n / 256 % 256), .int .u8 (n / 65536 % 256), .int .u8 (n / 16777216)] 5)) = .ok (.string (strOfNums ((W.bytes4 n).take m))) (w.alloc (.cells #[.int .u8 (n % 256), .int .u8 (n / 256 % 256), .int .u8 (n / 65536 % 256), .int .u8 (n / 16777216)] 5)) := by
    intro m hm
    refine run_convert_bytes_arg _ _ _ Try.underlying23 Try.underlying5 _ 0 m 4 _ (by rw [List.length_take]; have : (W.bytes4 n).length = 4 := rfl; omega) ?_ _ Try.underlying9
    intro i hi
    have e : n / 16777216 = n / 16777216 % 256 := by omega
    rw [Nat.zero_add, e]
    rcases (by omega : i = 0 ∨ i = 1 ∨ i = 2 ∨ i = 3) with rfl | rfl | rfl | rfl <;> simp [W.bytes4, List.getD, hi, World.cell?_alloc_mark]
  by_cases c1 : k ≤ 0
  · have e := hid (show W.put n k = strOfNums ((W.bytes4 n).take 0) by unfold W.put; rw [show (max 0 (min k 4)).toNat = 0 by omega])
    have hcv0 := hcv 0 (by omega)
    have H := hid hcv
    clear hcv
    go_enter Try.func59, Try.ntmps59
    go_wp2
    go_ret
    exact ⟨by rw [e.out]; rfl, (by repeat (first | assumption | exact Bel.refl _ | refine Bel.drew ?_ | refine Bel.drewN ?_ _ | refine Bel.alloc ?_ _ | (refine Bel.trans ?_ (by assumption)) | (refine Bel.then ?_ (by assumption) (by intro x hx; first | (subst hx; simp; done) | (simp at *; omega)))))⟩
  · by_cases c2 : k ≤ 4
    · have e := hid (show W.put n k = strOfNums ((W.bytes4 n).take k.toNat) by unfold W.put; rw [show (max 0 (min k 4)).toNat = k.toNat by omega])
      have hcv0 := hcv k.toNat (by omega)
      have H := hid hcv
      clear hcv
      go_enter Try.func59, Try.ntmps59
      go_wp2
      go_ret
      exact ⟨by rw [e.out]; rfl, (by repeat (first | assumption | exact Bel.refl _ | refine Bel.drew ?_ | refine Bel.drewN ?_ _ | refine Bel.alloc ?_ _ | (refine Bel.trans ?_ (by assumption)) | (refine Bel.then ?_ (by assumption) (by intro x hx; first | (subst hx; simp; done) | (simp at *; omega)))))⟩
    · have e := hid (show W.put n k = strOfNums ((W.bytes4 n).take 4) by unfold W.put; rw [show (max 0 (min k 4)).toNat = 4 by omega])
      have hcv0 := hcv 4 (by omega)
      have H := hid hcv
      clear hcv
      go_enter Try.func59, Try.ntmps59
      go_wp2
      go_ret
      exact ⟨by rw [e.out]; rfl, (by repeat (first | assumption | exact Bel.refl _ | refine Bel.drew ?_ | refine Bel.drewN ?_ _ | refine Bel.alloc ?_ _ | (refine Bel.trans ?_ (by assumption)) | (refine Bel.then ?_ (by assumption) (by intro x hx; first | (subst hx; simp; done) | (simp at *; omega)))))⟩
end Go.Proofs.Ytgnekniabedomaa
