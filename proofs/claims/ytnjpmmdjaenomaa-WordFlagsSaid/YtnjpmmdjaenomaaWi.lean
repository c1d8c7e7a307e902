/- Walks: word.Sum, babelref01.Sum, babelref01.Put; no condition but that the words are words and the string is one that a machine can hold. -/
import Derived.Test.YtnjpmmdjaenomaaProg
import Derived.Test.YtnjpmmdjaenomaaWh
import Derived.Test.YtnjpmmdjaenomaaW4
namespace Go.Proofs.Ytnjpmmdjaenomaa
set_option linter.unusedVariables false
open Go.RowKit

theorem Sum_any (s : ByteArray) (hs : s.size ≤ maxLen) (w : World) :
    Calls Try.prog 17 #[.string s] w fun e w' => e = .returned (.int .u32 (W.sum s.data.toList)) ∧ Bel w w' := by
  unfold maxLen at hs
  have hcv : (convert 9 30 (.string s)).run Try.prog w = .ok (.slice (some ⟨w.heap.size, 0, none⟩) s.size (grownCap w s.size 0 5)) (Lib.bytesWorld w 5 s) :=
    Lib.run_convert_string_bytes w 9 30 5 s Try.underlying9 Try.underlying30 Try.underlying5
  have hcell : ∀ (j : Nat), j < s.size → (Lib.bytesWorld w 5 s).cell? ⟨w.heap.size, j, none⟩ = some (.int .u8 (s.data.toList.getD j 0).toNat) := fun j hj => Lib.bytesWorld_cell w 5 s j hj
  have hB : Bel w (Lib.bytesWorld w 5 s) := bel_bytes w _ s
  generalize Lib.bytesWorld w 5 s = w1 at hcv hcell hB
  go_enter Try.func17, Try.ntmps17
  go_wp2
  go_loop [3, 5, 9, 17] (fun r _ i _ => ∃ k : Nat, k ≤ s.size ∧ i = .int .i64 k ∧ r = .int .u32 (W.tn (W.crcL (s.data.toList.take k) 4294967295#32))) (fun _ _ i _ => s.size - (intOf i).toNat)
  case atStart => exact ⟨0, by omega, rfl, rfl⟩
  case round =>
    obtain ⟨k, hk, rfl, rfl⟩ := hrel
    by_cases c1 : k < s.size
    · have HL := hid (W.crcL_snoc s.data.toList k (by simpa using c1) 4294967295#32)
      generalize W.crcL (s.data.toList.take k) 4294967295#32 = r at *
      have hc := hcell k c1
      clear hcell
      generalize s.data.toList.getD k 0 = b at *
      have hb := b.toNat_lt
      have hx := W.tn_byte r b
      have HN := hid (show ∀ r b, W.crcB r b = W.crcN 8 (r ^^^ BitVec.ofNat 32 b.toNat) from fun _ _ => rfl)
      generalize hr0 : r ^^^ BitVec.ofNat 32 b.toNat = r0 at *
      have HN2 := hid (show W.crcB r b = W.crcN 8 r0 by rw [HN.out, hr0])
      clear HN hr0
      go_wp2
      go_loop [3, 17] (fun r j => ∃ m : Nat, m ≤ 8 ∧ j = .int .i64 m ∧ r = .int .u32 (W.tn (W.crcN m r0))) (fun _ j => 8 - (intOf j).toNat)
      case atStart => exact ⟨0, by omega, rfl, rfl⟩
      case round =>
        obtain ⟨m, hm, rfl, rfl⟩ := hrel
        by_cases c2 : m < 8
        · have HS := hid (show W.crc1 (W.crcN m r0) = W.crcN (m + 1) r0 from rfl)
          generalize W.crcN m r0 = q at *
          have hq := W.tn_crc1 q
          have hqb := W.tn_bd q
          go_wp2
          go_round
          case rel => exact ⟨m + 1, by omega, by go_num, by rw [HS.out]⟩
          case measure => simp [intOf]; omega
        · obtain rfl : m = 8 := by omega
          go_wp2
          go_round
          case rel => exact ⟨k + 1, by omega, by go_num, by rw [HL.out, HN2.out]⟩
          case measure => simp [intOf]; omega
    · have HE := hid (show W.crcL (s.data.toList.take k) 4294967295#32 = W.crcL s.data.toList 4294967295#32 by rw [List.take_of_length_le (by simp; omega)])
      have hn := W.tn_not (W.crcL (s.data.toList.take k) 4294967295#32)
      go_wp2
      go_ret
      exact ⟨ret_int (by rw [HE.out]; rfl), hB⟩

theorem rSum_any (s : ByteArray) (hs : s.size ≤ maxLen) (w : World) :
    Calls Try.prog 18 #[.string s] w fun e w' => e = .returned (.int .u32 (W.sum s.data.toList)) ∧ Bel w w' := by
  unfold maxLen at hs
  go_enter Try.func18, Try.ntmps18
  go_wp2
  go_loop [3, 4, 5, 6] (fun r i _ _ => ∃ k : Nat, k ≤ s.size ∧ i = .int .i64 k ∧ r = .int .u32 (W.tn (W.crcL (s.data.toList.take k) 4294967295#32))) (fun _ i _ _ => s.size - (intOf i).toNat)
  case atStart => exact ⟨0, by omega, rfl, rfl⟩
  case round =>
    obtain ⟨k, hk, rfl, rfl⟩ := hrel
    by_cases c1 : k < s.size
    · have HL := hid (W.crcL_snoc s.data.toList k (by simpa using c1) 4294967295#32)
      generalize W.crcL (s.data.toList.take k) 4294967295#32 = r at *
      have e1 : ((s[k]'c1).toNat : Int) = ((s.data.toList.getD k 0).toNat : Int) := W.byt_at s k c1
      generalize s.data.toList.getD k 0 = b at *
      have hb := b.toNat_lt
      have hx := W.tn_byte r b
      have HN := hid (show ∀ r b, W.crcB r b = W.crcN 8 (r ^^^ BitVec.ofNat 32 b.toNat) from fun _ _ => rfl)
      generalize hr0 : r ^^^ BitVec.ofNat 32 b.toNat = r0 at *
      have HN2 := hid (show W.crcB r b = W.crcN 8 r0 by rw [HN.out, hr0])
      clear HN hr0
      go_wp2
      go_loop [3, 5, 6] (fun r j _ => ∃ m : Nat, m ≤ 8 ∧ j = .int .i64 m ∧ r = .int .u32 (W.tn (W.crcN m r0))) (fun _ j _ => 8 - (intOf j).toNat)
      case atStart => exact ⟨0, by omega, rfl, rfl⟩
      case round =>
        obtain ⟨m, hm, rfl, rfl⟩ := hrel
        by_cases c2 : m < 8
        · have HS := hid (show W.crc1 (W.crcN m r0) = W.crcN (m + 1) r0 from rfl)
          generalize W.crcN m r0 = q at *
          have hqb := W.tn_bd q
          cases hp : (bits .and .u32 (W.tn q) 1 == 1)
          · have H1 := hid (W.tn_even q hp)
            go_wp2
            go_round
            case rel => exact ⟨m + 1, by omega, by go_num, by rw [← HS.out, ← H1.out]⟩
            case measure => simp [intOf]; omega
          · have H1 := hid (W.tn_odd q hp)
            go_wp2
            go_round
            case rel => exact ⟨m + 1, by omega, by go_num, by rw [← HS.out, ← H1.out]⟩
            case measure => simp [intOf]; omega
        · obtain rfl : m = 8 := by omega
          go_wp2
          go_round
          case rel => exact ⟨k + 1, by omega, by go_num, by rw [HL.out, HN2.out]⟩
          case measure => simp [intOf]; omega
    · have HE := hid (show W.crcL (s.data.toList.take k) 4294967295#32 = W.crcL s.data.toList 4294967295#32 by rw [List.take_of_length_le (by simp; omega)])
      have hn := W.tn_not (W.crcL (s.data.toList.take k) 4294967295#32)
      go_wp2
      go_ret
      exact ⟨ret_int (by rw [HE.out]; rfl), (by repeat (first | assumption | exact Bel.refl _ | refine Bel.drew ?_ | refine Bel.drewN ?_ _ | refine Bel.alloc ?_ _ | (refine Bel.trans ?_ (by assumption)) | (refine Bel.then ?_ (by assumption) (by intro x hx; first | (subst hx; simp; done) | (simp at *; omega)))))⟩
end Go.Proofs.Ytnjpmmdjaenomaa
