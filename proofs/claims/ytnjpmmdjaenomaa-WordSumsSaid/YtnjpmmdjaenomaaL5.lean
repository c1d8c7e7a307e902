/- Walks: the law WordSums returns true; no condition but that the arguments are of their kinds. -/
import Derived.Test.YtnjpmmdjaenomaaL1
import Derived.Test.YtnjpmmdjaenomaaW11
import Derived.Test.YtnjpmmdjaenomaaPlan
namespace Go.Proofs.Ytnjpmmdjaenomaa
set_option linter.unusedVariables false
open Go.RowKit
theorem W.nums_size (l : List Int) : (strOfNums l).size = l.length := by unfold strOfNums; simp [ByteArray.size]
theorem bytes_free (w : World) (e : TypeId) (s : ByteArray) (j : Nat) (h : j < s.size) : (Lib.bytesWorld w e s).frozen? ⟨w.heap.size, j, none⟩ = false := by
  unfold World.frozen?
  rw [Lib.bytesWorld_at_new]
  have : s.size ≤ (Lib.bytesCells w e s).size := by unfold Lib.bytesCells; simp
  simp; omega
theorem mix_step {w wr : World} {g n k m : Nat} {l : List UInt8} {c : Int} (h : ∀ j, j < n → wr.cell? ⟨g, j, none⟩ = some (.int .u8 (W.mixV l k c m j))) (hf : ∀ j, j < n → wr.frozen? ⟨g, j, none⟩ = false) (hkm : k + m < n) (v : Int)
    (hv : v = bits .xor .u8 (W.byt l (k + m)) (c / 2 ^ (8 * m) % 256)) (hb : Bel w wr) (hg : w.heap.size ≤ g) :
    (∀ j, j < n → (wr.setCell ⟨g, k + m, none⟩ (.int .u8 v)).cell? ⟨g, j, none⟩ = some (.int .u8 (W.mixV l k c (m + 1) j))) ∧ (∀ j, j < n → (wr.setCell ⟨g, k + m, none⟩ (.int .u8 v)).frozen? ⟨g, j, none⟩ = false) ∧ Bel w (wr.setCell ⟨g, k + m, none⟩ (.int .u8 v)) := by
  refine ⟨fun j hj => ?_, fun j hj => by rw [frozen_set]; exact hf j hj, hb.setCell hg _⟩
  by_cases e : j = k + m
  · subst e; rw [cell_set (h _ hkm), W.mixV_here, hv]
  · rw [World.cell?_setCell_other _ _ _ _ (by intro q; injection q with _ h2 _; exact e h2.symm), h j hj, W.mixV_else _ _ _ _ _ e]

theorem WordSums_a (s : ByteArray) (at' c : Int) (hs : s.size ≤ 9223372036854775807) (x : ByteArray) (hx : s.size ≤ 300 ∧ x = s) (ha0 : -9223372036854775808 ≤ at') (ha1 : at' ≤ 9223372036854775807) (hc0 : 0 ≤ c) (hc1 : c < 4294967296) (hz : ¬ c = 0) (h5 : ¬ x.size < 5) (hx3 : x.size ≤ 300) (w : World) :
    Calls Try.prog 4 #[.string s, .int .i64 at', .int .u32 c] w fun e w' => e = .returned (.bool true) ∧ Bel w w' := by
  have hz' : (c == 0) = false := by simp [hz]
  have hcv : ∀ wx : World, (convert 9 30 (.string x)).run Try.prog wx = .ok (.slice (some ⟨wx.heap.size, 0, none⟩) x.size (grownCap wx x.size 0 5)) (Lib.bytesWorld wx 5 x) :=
    fun wx => Lib.run_convert_string_bytes wx 9 30 5 x Try.underlying9 Try.underlying30 Try.underlying5
  obtain ⟨n, hn⟩ : ∃ n : Nat, n + 4 = x.size := ⟨x.size - 4, by omega⟩
  have hd := W.tmod_bd at' ((n : Nat) : Int) (by omega)
  obtain ⟨k, hk, ek⟩ : ∃ k : Nat, k < n ∧ (at'.tmod (n : Int) + (x.size : Int) - 4) % (n : Int) = k := by
    have h1 := Int.emod_nonneg (at'.tmod (n : Int) + (x.size : Int) - 4) (show (n : Int) ≠ 0 by omega)
    have h2 := Int.emod_lt_of_pos (at'.tmod (n : Int) + (x.size : Int) - 4) (show (0 : Int) < n by omega)
    exact ⟨((at'.tmod (n : Int) + (x.size : Int) - 4) % (n : Int)).toNat, by omega, by omega⟩
  have en : ((x.size : Nat) : Int) - 4 = (n : Int) := by omega
  obtain ⟨hx1, hx2⟩ := hx
  subst hx2
  go_enter Try.func4, Try.ntmps4
  go_wp2_with (first
        | (go_at_call 13; refine (sanity_any _).mono ?_; rintro e w' ⟨rfl, hb⟩)
        | (go_at_call 17; refine (Sum_any _ (by unfold maxLen; omega) _).mono ?_; rintro e w' ⟨rfl, hb⟩)
        | (go_at_call 18; refine (rSum_any _ (by unfold maxLen; omega) _).mono ?_; rintro e w' ⟨rfl, hb⟩))
  have hg : w.heap.size ≤ w'.heap.size := (show Bel w w' from (by repeat (first | assumption | exact Bel.refl _ | refine Bel.drew ?_ | refine Bel.drewN ?_ _ | refine Bel.alloc ?_ _ | (refine Bel.trans ?_ (by assumption)) | (refine Bel.then ?_ (by assumption) (by intro x hx; first | (subst hx; simp; done) | (simp at *; omega)))))).size
  have hcell : ∀ j, j < x.size → (Lib.bytesWorld w' 5 x).cell? ⟨w'.heap.size, j, none⟩ = some (.int .u8 (W.mixV x.data.toList k c 0 j)) := fun j hj => by rw [W.mixV_0]; exact Lib.bytesWorld_cell w' 5 x j hj
  have hfr : ∀ j, j < x.size → (Lib.bytesWorld w' 5 x).frozen? ⟨w'.heap.size, j, none⟩ = false := fun j hj => bytes_free w' 5 x j hj
  have hB : Bel w (Lib.bytesWorld w' 5 x) := Bel.trans (by repeat (first | assumption | exact Bel.refl _ | refine Bel.drew ?_ | refine Bel.drewN ?_ _ | refine Bel.alloc ?_ _ | (refine Bel.trans ?_ (by assumption)) | (refine Bel.then ?_ (by assumption) (by intro x hx; first | (subst hx; simp; done) | (simp at *; omega))))) (bel_bytes _ _ _)
  generalize Lib.bytesWorld w' 5 x = wb at *
  generalize w'.heap.size = g at *
  generalize hcap : grownCap w' x.size 0 5 = cap
  have HX := hid hn
  clear hcap hcv hn
  rw [ek]
  go_loopw [12] (fun i wr => ∃ m : Nat, m ≤ 4 ∧ i = .int .i64 m ∧ (∀ j, j < x.size → wr.cell? ⟨g, j, none⟩ = some (.int .u8 (W.mixV x.data.toList k c m j))) ∧ (∀ j, j < x.size → wr.frozen? ⟨g, j, none⟩ = false) ∧ Bel w wr) (fun i _ => 4 - (intOf i).toNat)
  case atStart => exact ⟨0, by omega, rfl, hcell, hfr, hB⟩
  case round =>
    obtain ⟨m, hm, rfl, hcr, hfr, hBr⟩ := hrel
    have hn := HX.out
    have hkn : k + 4 ≤ x.size := by omega
    clear hcell
    by_cases h4 : m < 4
    · have hc1 := hcr (k + m) (by omega)
      rw [W.mixV_next] at hc1
      have hf1 := hfr (k + m) (by omega)
      have hgr := lt_of_cell hc1
      have hbt := W.byt_bd x.data.toList (k + m)
      have hkm1 : (0 : Int) ≤ (k : Int) + (m : Int) := by omega
      have hkm2 : (k : Int) + (m : Int) < (x.size : Int) := by omega
      have hkm3 : IntKind.i64.wrap ((k : Int) + (m : Int)) = (k : Int) + (m : Int) := IntWalk.i64_in _ (by omega)
      have hkm4 : ((k : Int) + (m : Int)).toNat = k + m := by omega
      have HC := hid hcr; have HF := hid hfr; have HF1 := hid hf1
      clear hcr hfr hf1
      go_wp2
      refine wp_plan [0, 1, 2, 3, 4, 5, 6, 7, 8, 9, 10, 11, 12, 13, 14, 15, 16] [] 17 (by kernel_rfl) (by kernel_rfl) (by rfl) ?_
      apply Exists.intro
      refine ⟨?_, ?_⟩
      · intro W' hW'
        have d0 := cell_more (Bel.at hW' hc1)
        simp only [pick, List.getD_cons_zero, List.getD_cons_succ]
        repeat (go_big_quiet_step ((fail)))
        exact wpQuiet_nil rfl
      · simp only [pick, List.getD_cons_zero, List.getD_cons_succ]
        simp only [chain, List.drop_succ_cons, List.drop_zero]
        intro w2 hb2
        have e1 := Bel.at hb2 hc1
        have e2 : w2.frozen? ⟨g, k + m, none⟩ = false := (hb2.frozen g (k + m) hgr).trans HF1.out
        have E := mix_step (w := w) (fun j hj => Bel.at hb2 (HC.out j hj)) (fun j hj => (hb2.frozen g j hgr).trans (HF.out j hj)) (show k + m < x.size by omega) (bits .xor .u8 (W.byt x.data.toList (k + m)) (c / 2 ^ (8 * m) % 256)) rfl (hBr.trans hb2) hg
        go_wp2
        go_roundw
        case rel => exact ⟨m + 1, by omega, by go_num, E⟩
        case measure => simp [intOf]; omega
    · obtain rfl : m = 4 := by omega
      have hlen : x.data.toList.length = x.size := by simp
      have hq := W.sum_mix x.data.toList k c (by rw [hlen]; exact hkn) (by omega) hc1
      rw [hlen] at hq
      have hsz : ((List.range x.size).map (W.mixV x.data.toList k c 4)).length = x.size := by simp
      have hcv2 : (convert 30 9 (.slice (some ⟨g, 0, none⟩) x.size cap)).run Try.prog wr = .ok (.string (strOfNums ((List.range x.size).map (W.mixV x.data.toList k c 4)))) wr := by
        refine run_convert_bytes_arg _ _ _ Try.underlying30 Try.underlying5 _ 0 x.size cap _ (by simp) ?_ _ Try.underlying9
        intro i hi
        rw [Nat.zero_add, hcr i (by simpa using hi)]
        have hi' : i < x.size := by simpa using hi
        simp [List.getD, hi']
      have HL : (strOfNums ((List.range x.size).map (W.mixV x.data.toList k c 4))).size ≤ 9223372036854775807 := by rw [W.nums_size, hsz]; omega
      have HQ := hid hq
      clear hq
      generalize strOfNums ((List.range x.size).map (W.mixV x.data.toList k c 4)) = y at *
      go_wp2_with (first
        | (go_at_call 17; refine (Sum_any _ (by unfold maxLen; omega) _).mono ?_; rintro e w' ⟨rfl, hb⟩))
      go_ret
      exact ⟨ret_bool (by simp only [bne]; rw [HQ.out]; rfl), (by repeat (first | assumption | exact Bel.refl _ | refine Bel.drew ?_ | refine Bel.drewN ?_ _ | refine Bel.alloc ?_ _ | (refine Bel.trans ?_ (by assumption)) | (refine Bel.then ?_ (by assumption) (by intro x hx; first | (subst hx; simp; done) | (simp at *; omega)))))⟩

theorem WordSums_b (s : ByteArray) (at' c : Int) (hs : s.size ≤ 9223372036854775807) (x : ByteArray) (hx : 300 < s.size ∧ 300 ≤ x.size ∧ s.extract 0 300 = x) (ha0 : -9223372036854775808 ≤ at') (ha1 : at' ≤ 9223372036854775807) (hc0 : 0 ≤ c) (hc1 : c < 4294967296) (hz : ¬ c = 0) (h5 : ¬ x.size < 5) (hx3 : x.size ≤ 300) (w : World) :
    Calls Try.prog 4 #[.string s, .int .i64 at', .int .u32 c] w fun e w' => e = .returned (.bool true) ∧ Bel w w' := by
  have hz' : (c == 0) = false := by simp [hz]
  have hcv : ∀ wx : World, (convert 9 30 (.string x)).run Try.prog wx = .ok (.slice (some ⟨wx.heap.size, 0, none⟩) x.size (grownCap wx x.size 0 5)) (Lib.bytesWorld wx 5 x) :=
    fun wx => Lib.run_convert_string_bytes wx 9 30 5 x Try.underlying9 Try.underlying30 Try.underlying5
  obtain ⟨n, hn⟩ : ∃ n : Nat, n + 4 = x.size := ⟨x.size - 4, by omega⟩
  have hd := W.tmod_bd at' ((n : Nat) : Int) (by omega)
  obtain ⟨k, hk, ek⟩ : ∃ k : Nat, k < n ∧ (at'.tmod (n : Int) + (x.size : Int) - 4) % (n : Int) = k := by
    have h1 := Int.emod_nonneg (at'.tmod (n : Int) + (x.size : Int) - 4) (show (n : Int) ≠ 0 by omega)
    have h2 := Int.emod_lt_of_pos (at'.tmod (n : Int) + (x.size : Int) - 4) (show (0 : Int) < n by omega)
    exact ⟨((at'.tmod (n : Int) + (x.size : Int) - 4) % (n : Int)).toNat, by omega, by omega⟩
  have en : ((x.size : Nat) : Int) - 4 = (n : Int) := by omega
  obtain ⟨hx1, hx5, hx2⟩ := hx
  go_enter Try.func4, Try.ntmps4
  go_wp2_with (first
        | (go_at_call 13; refine (sanity_any _).mono ?_; rintro e w' ⟨rfl, hb⟩)
        | (go_at_call 17; refine (Sum_any _ (by unfold maxLen; omega) _).mono ?_; rintro e w' ⟨rfl, hb⟩)
        | (go_at_call 18; refine (rSum_any _ (by unfold maxLen; omega) _).mono ?_; rintro e w' ⟨rfl, hb⟩))
  have hg : w.heap.size ≤ w'.heap.size := (show Bel w w' from (by repeat (first | assumption | exact Bel.refl _ | refine Bel.drew ?_ | refine Bel.drewN ?_ _ | refine Bel.alloc ?_ _ | (refine Bel.trans ?_ (by assumption)) | (refine Bel.then ?_ (by assumption) (by intro x hx; first | (subst hx; simp; done) | (simp at *; omega)))))).size
  have hcell : ∀ j, j < x.size → (Lib.bytesWorld w' 5 x).cell? ⟨w'.heap.size, j, none⟩ = some (.int .u8 (W.mixV x.data.toList k c 0 j)) := fun j hj => by rw [W.mixV_0]; exact Lib.bytesWorld_cell w' 5 x j hj
  have hfr : ∀ j, j < x.size → (Lib.bytesWorld w' 5 x).frozen? ⟨w'.heap.size, j, none⟩ = false := fun j hj => bytes_free w' 5 x j hj
  have hB : Bel w (Lib.bytesWorld w' 5 x) := Bel.trans (by repeat (first | assumption | exact Bel.refl _ | refine Bel.drew ?_ | refine Bel.drewN ?_ _ | refine Bel.alloc ?_ _ | (refine Bel.trans ?_ (by assumption)) | (refine Bel.then ?_ (by assumption) (by intro x hx; first | (subst hx; simp; done) | (simp at *; omega))))) (bel_bytes _ _ _)
  generalize Lib.bytesWorld w' 5 x = wb at *
  generalize w'.heap.size = g at *
  generalize hcap : grownCap w' x.size 0 5 = cap
  have HX := hid hn
  clear hcap hcv hn
  rw [ek]
  go_loopw [12] (fun i wr => ∃ m : Nat, m ≤ 4 ∧ i = .int .i64 m ∧ (∀ j, j < x.size → wr.cell? ⟨g, j, none⟩ = some (.int .u8 (W.mixV x.data.toList k c m j))) ∧ (∀ j, j < x.size → wr.frozen? ⟨g, j, none⟩ = false) ∧ Bel w wr) (fun i _ => 4 - (intOf i).toNat)
  case atStart => exact ⟨0, by omega, rfl, hcell, hfr, hB⟩
  case round =>
    obtain ⟨m, hm, rfl, hcr, hfr, hBr⟩ := hrel
    have hn := HX.out
    have hkn : k + 4 ≤ x.size := by omega
    clear hcell
    by_cases h4 : m < 4
    · have hc1 := hcr (k + m) (by omega)
      rw [W.mixV_next] at hc1
      have hf1 := hfr (k + m) (by omega)
      have hgr := lt_of_cell hc1
      have hbt := W.byt_bd x.data.toList (k + m)
      have hkm1 : (0 : Int) ≤ (k : Int) + (m : Int) := by omega
      have hkm2 : (k : Int) + (m : Int) < (x.size : Int) := by omega
      have hkm3 : IntKind.i64.wrap ((k : Int) + (m : Int)) = (k : Int) + (m : Int) := IntWalk.i64_in _ (by omega)
      have hkm4 : ((k : Int) + (m : Int)).toNat = k + m := by omega
      have HC := hid hcr; have HF := hid hfr; have HF1 := hid hf1
      clear hcr hfr hf1
      go_wp2
      refine wp_plan [0, 1, 2, 3, 4, 5, 6, 7, 8, 9, 10, 11, 12, 13, 14, 15, 16] [] 17 (by kernel_rfl) (by kernel_rfl) (by rfl) ?_
      apply Exists.intro
      refine ⟨?_, ?_⟩
      · intro W' hW'
        have d0 := cell_more (Bel.at hW' hc1)
        simp only [pick, List.getD_cons_zero, List.getD_cons_succ]
        repeat (go_big_quiet_step ((fail)))
        exact wpQuiet_nil rfl
      · simp only [pick, List.getD_cons_zero, List.getD_cons_succ]
        simp only [chain, List.drop_succ_cons, List.drop_zero]
        intro w2 hb2
        have e1 := Bel.at hb2 hc1
        have e2 : w2.frozen? ⟨g, k + m, none⟩ = false := (hb2.frozen g (k + m) hgr).trans HF1.out
        have E := mix_step (w := w) (fun j hj => Bel.at hb2 (HC.out j hj)) (fun j hj => (hb2.frozen g j hgr).trans (HF.out j hj)) (show k + m < x.size by omega) (bits .xor .u8 (W.byt x.data.toList (k + m)) (c / 2 ^ (8 * m) % 256)) rfl (hBr.trans hb2) hg
        go_wp2
        go_roundw
        case rel => exact ⟨m + 1, by omega, by go_num, E⟩
        case measure => simp [intOf]; omega
    · obtain rfl : m = 4 := by omega
      have hlen : x.data.toList.length = x.size := by simp
      have hq := W.sum_mix x.data.toList k c (by rw [hlen]; exact hkn) (by omega) hc1
      rw [hlen] at hq
      have hsz : ((List.range x.size).map (W.mixV x.data.toList k c 4)).length = x.size := by simp
      have hcv2 : (convert 30 9 (.slice (some ⟨g, 0, none⟩) x.size cap)).run Try.prog wr = .ok (.string (strOfNums ((List.range x.size).map (W.mixV x.data.toList k c 4)))) wr := by
        refine run_convert_bytes_arg _ _ _ Try.underlying30 Try.underlying5 _ 0 x.size cap _ (by simp) ?_ _ Try.underlying9
        intro i hi
        rw [Nat.zero_add, hcr i (by simpa using hi)]
        have hi' : i < x.size := by simpa using hi
        simp [List.getD, hi']
      have HL : (strOfNums ((List.range x.size).map (W.mixV x.data.toList k c 4))).size ≤ 9223372036854775807 := by rw [W.nums_size, hsz]; omega
      have HQ := hid hq
      clear hq
      generalize strOfNums ((List.range x.size).map (W.mixV x.data.toList k c 4)) = y at *
      go_wp2_with (first
        | (go_at_call 17; refine (Sum_any _ (by unfold maxLen; omega) _).mono ?_; rintro e w' ⟨rfl, hb⟩))
      go_ret
      exact ⟨ret_bool (by simp only [bne]; rw [HQ.out]; rfl), (by repeat (first | assumption | exact Bel.refl _ | refine Bel.drew ?_ | refine Bel.drewN ?_ _ | refine Bel.alloc ?_ _ | (refine Bel.trans ?_ (by assumption)) | (refine Bel.then ?_ (by assumption) (by intro x hx; first | (subst hx; simp; done) | (simp at *; omega)))))⟩

theorem WordSums_d (s : ByteArray) (at' c : Int) (hs : s.size ≤ 9223372036854775807) (x : ByteArray) (hx : s.size ≤ 300 ∧ x = s) (ha0 : -9223372036854775808 ≤ at') (ha1 : at' ≤ 9223372036854775807) (hz : x.size < 5) (hx3 : x.size ≤ 300) (w : World) :
    Calls Try.prog 4 #[.string s, .int .i64 at', .int .u32 c] w fun e w' => e = .returned (.bool true) ∧ Bel w w' := by
  obtain ⟨hx1, hx2⟩ := hx
  subst hx2
  go_enter Try.func4, Try.ntmps4
  go_wp2_with (first
        | (go_at_call 13; refine (sanity_any _).mono ?_; rintro e w' ⟨rfl, hb⟩)
        | (go_at_call 17; refine (Sum_any _ (by unfold maxLen; omega) _).mono ?_; rintro e w' ⟨rfl, hb⟩)
        | (go_at_call 18; refine (rSum_any _ (by unfold maxLen; omega) _).mono ?_; rintro e w' ⟨rfl, hb⟩))
  go_ret
  exact ⟨rfl, (by repeat (first | assumption | exact Bel.refl _ | refine Bel.drew ?_ | refine Bel.drewN ?_ _ | refine Bel.alloc ?_ _ | (refine Bel.trans ?_ (by assumption)) | (refine Bel.then ?_ (by assumption) (by intro x hx; first | (subst hx; simp; done) | (simp at *; omega)))))⟩

theorem WordSums_e (s : ByteArray) (at' c : Int) (hs : s.size ≤ 9223372036854775807) (x : ByteArray) (hx : s.size ≤ 300 ∧ x = s) (ha0 : -9223372036854775808 ≤ at') (ha1 : at' ≤ 9223372036854775807) (hz : c = 0 ∧ 5 ≤ x.size) (hx3 : x.size ≤ 300) (w : World) :
    Calls Try.prog 4 #[.string s, .int .i64 at', .int .u32 c] w fun e w' => e = .returned (.bool true) ∧ Bel w w' := by
  obtain ⟨rfl, h5⟩ := hz; obtain ⟨hx1, hx2⟩ := hx
  subst hx2
  go_enter Try.func4, Try.ntmps4
  go_wp2_with (first
        | (go_at_call 13; refine (sanity_any _).mono ?_; rintro e w' ⟨rfl, hb⟩)
        | (go_at_call 17; refine (Sum_any _ (by unfold maxLen; omega) _).mono ?_; rintro e w' ⟨rfl, hb⟩)
        | (go_at_call 18; refine (rSum_any _ (by unfold maxLen; omega) _).mono ?_; rintro e w' ⟨rfl, hb⟩))
  go_ret
  exact ⟨rfl, (by repeat (first | assumption | exact Bel.refl _ | refine Bel.drew ?_ | refine Bel.drewN ?_ _ | refine Bel.alloc ?_ _ | (refine Bel.trans ?_ (by assumption)) | (refine Bel.then ?_ (by assumption) (by intro x hx; first | (subst hx; simp; done) | (simp at *; omega)))))⟩

theorem WordSums_f (s : ByteArray) (at' c : Int) (hs : s.size ≤ 9223372036854775807) (x : ByteArray) (hx : 300 < s.size ∧ 300 ≤ x.size ∧ s.extract 0 300 = x) (ha0 : -9223372036854775808 ≤ at') (ha1 : at' ≤ 9223372036854775807) (hz : c = 0 ∧ 5 ≤ x.size) (hx3 : x.size ≤ 300) (w : World) :
    Calls Try.prog 4 #[.string s, .int .i64 at', .int .u32 c] w fun e w' => e = .returned (.bool true) ∧ Bel w w' := by
  obtain ⟨rfl, h5⟩ := hz; obtain ⟨hx1, hx5, hx2⟩ := hx
  go_enter Try.func4, Try.ntmps4
  go_wp2_with (first
        | (go_at_call 13; refine (sanity_any _).mono ?_; rintro e w' ⟨rfl, hb⟩)
        | (go_at_call 17; refine (Sum_any _ (by unfold maxLen; omega) _).mono ?_; rintro e w' ⟨rfl, hb⟩)
        | (go_at_call 18; refine (rSum_any _ (by unfold maxLen; omega) _).mono ?_; rintro e w' ⟨rfl, hb⟩))
  go_ret
  exact ⟨rfl, (by repeat (first | assumption | exact Bel.refl _ | refine Bel.drew ?_ | refine Bel.drewN ?_ _ | refine Bel.alloc ?_ _ | (refine Bel.trans ?_ (by assumption)) | (refine Bel.then ?_ (by assumption) (by intro x hx; first | (subst hx; simp; done) | (simp at *; omega)))))⟩

theorem WordSums_walk (s : ByteArray) (at' c : Int) (hs : s.size ≤ maxLen) (ha : I64 at') (hc : U32 c) (w : World) :
    Calls Try.prog 4 #[.string s, .int .i64 at', .int .u32 c] w fun e w' => e = .returned (.bool true) ∧ Bel w w' := by
  unfold maxLen at hs
  obtain ⟨ha0, ha1⟩ := ha; obtain ⟨hc0, hc1⟩ := hc
  by_cases h3 : s.size ≤ 300
  · by_cases h5 : s.size < 5
    · exact WordSums_d s at' c (by omega) s ⟨h3, rfl⟩ ha0 ha1 h5 h3 w
    · by_cases hz : c = 0
      · exact WordSums_e s at' c (by omega) s ⟨h3, rfl⟩ ha0 ha1 ⟨hz, by omega⟩ h3 w
      · exact WordSums_a s at' c (by omega) s ⟨h3, rfl⟩ ha0 ha1 hc0 hc1 hz h5 h3 w
  · have hsz : (s.extract 0 300).size = 300 := by simp; omega
    by_cases hz : c = 0
    · exact WordSums_f s at' c (by omega) (s.extract 0 300) ⟨by omega, by omega, rfl⟩ ha0 ha1 ⟨hz, by omega⟩ (by omega) w
    · exact WordSums_b s at' c (by omega) (s.extract 0 300) ⟨by omega, by omega, rfl⟩ ha0 ha1 hc0 hc1 hz (by omega) (by omega) w
end Go.Proofs.Ytnjpmmdjaenomaa
