/- Walks: the closure of kcode.takes over each of the four lists of readers that the formats use, over a reader with enough bytes left. -/
import Derived.Test.YtgnekniabedomaaKb
namespace Go.Proofs.Ytgnekniabedomaa
set_option linter.unusedVariables false
set_option linter.unusedSimpArgs false
open Go.RowKit
def K.t_reg (l : List UInt8) (n : Nat) (i : K.Ins) : K.Ins := { i with d := W.byt l (n) }
theorem reg_t : TakeOK 42 1 K.t_reg := reg_ok
def K.t_small (l : List UInt8) (n : Nat) (i : K.Ins) : K.Ins := { i with imm := W.sign (W.byt l (n)) 8 }
theorem small_t : TakeOK 47 1 K.t_small := small_ok
def K.t_full (l : List UInt8) (n : Nat) (i : K.Ins) : K.Ins := { i with imm := K.four l (n) }
theorem full_t : TakeOK 50 4 K.t_full := full_ok
def K.t_pair (l : List UInt8) (n : Nat) (i : K.Ins) : K.Ins := { i with d := W.byt l (n) / 16, s := W.byt l (n) % 16 }
theorem pair_t : TakeOK 44 1 K.t_pair := pair_ok
def K.t_index (l : List UInt8) (n : Nat) (i : K.Ins) : K.Ins := if W.byt l (n) = 8 then i else { i with ix := W.byt l (n) % 16, sc := W.byt l (n) / 16 }
theorem index_t : TakeOK 52 1 K.t_index := index_ok
theorem Ch.two {ga gi : Nat} {a b c : World} (h : Ch (fun x => x = ga ∨ x = gi) a b) (k : Ch (fun x => x = ga ∨ x = gi) b c) : Ch (fun x => x = ga ∨ x = gi) a c := h.trans k
theorem Ch.kept {ga gi h j : Nat} {a b : World} {v : Value} (k : Ch (fun x => x = ga ∨ x = gi) a b) (h1 : h ≠ ga) (h2 : h ≠ gi) (hc : a.cell? ⟨h, j, none⟩ = some v) : b.cell? ⟨h, j, none⟩ = some v :=
  (k.cell h j (lt_of_cell hc) (fun q => q.elim h1 h2)).trans hc
theorem takes_reg_small (ga gs gi c h cap : Nat) (s : ByteArray) (n : Nat) (i : K.Ins) (w : World) : Rd ga gs s n w → Ki gi i w → ga ≠ gi → gs ≠ gi → n + 2 ≤ s.size → s.size ≤ maxLen → w.cell? ⟨c, 0, none⟩ = some (.slice (some ⟨h, 0, none⟩) 2 cap) → w.cell? ⟨h, 0, none⟩ = some (.func (.func 42) #[] #[]) → w.cell? ⟨h, 1, none⟩ = some (.func (.func 47) #[] #[]) → h ≠ ga → h ≠ gi →
    Calls Try.prog 55 #[.func (.func 38) #[] #[.pointer (some ⟨ga, 0, none⟩), .pointer (some ⟨gs, 0, none⟩)], .pointer (some ⟨gi, 0, none⟩), .pointer (some ⟨c, 0, none⟩)] w fun e w' => e = .returned (.tuple #[]) ∧ Rd ga gs s (n + 2) w' ∧ Ki gi (K.t_small s.data.toList (n + 1) (K.t_reg s.data.toList (n + 0) i)) w' ∧ Ch (fun x => x = ga ∨ x = gi) w w' := by
  intro hr hk h1 h2 hn hs hc q0 q1 g1 g2
  go_enter Try.func55, Try.ntmps55
  go_wp2
  clear hc
  go_loopw [9] (fun j wr => ∃ k : Nat, j = .int .i64 k ∧ Ch (fun x => x = ga ∨ x = gi) w wr ∧ ((k = 0 ∧ Rd ga gs s (n + 0) wr ∧ Ki gi i wr) ∨ (k = 1 ∧ Rd ga gs s (n + 1) wr ∧ Ki gi (K.t_reg s.data.toList (n + 0) i) wr) ∨ (k = 2 ∧ Rd ga gs s (n + 2) wr ∧ Ki gi (K.t_small s.data.toList (n + 1) (K.t_reg s.data.toList (n + 0) i)) wr))) (fun j _ => 2 - (intOf j).toNat)
  case atStart => exact ⟨0, rfl, Ch.refl _ _, .inl ⟨rfl, hr, hk⟩⟩
  case round =>
    clear hr hk
    obtain ⟨k, rfl, hch, hrel⟩ := hrel
    rcases hrel with ⟨rfl, hr, hk⟩ | ⟨rfl, hr, hk⟩ | ⟨rfl, hr, hk⟩
    · have p := Ch.kept hch g1 g2 q0
      clear q0 q1
      go_wp2_with (go_at_call 42; refine (reg_t _ _ _ _ _ _ _ hr hk h1 h2 (by omega) hs).mono ?_; rintro e w1 ⟨rfl, hr1, hk1, hch1⟩)
      go_roundw
      case rel => exact ⟨1, by go_num, hch.two hch1, .inr (.inl ⟨rfl, hr1, hk1⟩)⟩
      case measure => simp [intOf]
    · have p := Ch.kept hch g1 g2 q1
      clear q0 q1
      go_wp2_with (go_at_call 47; refine (small_t _ _ _ _ _ _ _ hr hk h1 h2 (by omega) hs).mono ?_; rintro e w1 ⟨rfl, hr1, hk1, hch1⟩)
      go_roundw
      case rel => exact ⟨2, by go_num, hch.two hch1, .inr (.inr (⟨rfl, hr1, hk1⟩))⟩
      case measure => simp [intOf]
    · clear q0 q1
      go_wp2
      go_end0
      exact ⟨rfl, hr, hk, hch⟩
theorem takes_reg_full (ga gs gi c h cap : Nat) (s : ByteArray) (n : Nat) (i : K.Ins) (w : World) : Rd ga gs s n w → Ki gi i w → ga ≠ gi → gs ≠ gi → n + 5 ≤ s.size → s.size ≤ maxLen → w.cell? ⟨c, 0, none⟩ = some (.slice (some ⟨h, 0, none⟩) 2 cap) → w.cell? ⟨h, 0, none⟩ = some (.func (.func 42) #[] #[]) → w.cell? ⟨h, 1, none⟩ = some (.func (.func 50) #[] #[]) → h ≠ ga → h ≠ gi →
    Calls Try.prog 55 #[.func (.func 38) #[] #[.pointer (some ⟨ga, 0, none⟩), .pointer (some ⟨gs, 0, none⟩)], .pointer (some ⟨gi, 0, none⟩), .pointer (some ⟨c, 0, none⟩)] w fun e w' => e = .returned (.tuple #[]) ∧ Rd ga gs s (n + 5) w' ∧ Ki gi (K.t_full s.data.toList (n + 1) (K.t_reg s.data.toList (n + 0) i)) w' ∧ Ch (fun x => x = ga ∨ x = gi) w w' := by
  intro hr hk h1 h2 hn hs hc q0 q1 g1 g2
  go_enter Try.func55, Try.ntmps55
  go_wp2
  clear hc
  go_loopw [9] (fun j wr => ∃ k : Nat, j = .int .i64 k ∧ Ch (fun x => x = ga ∨ x = gi) w wr ∧ ((k = 0 ∧ Rd ga gs s (n + 0) wr ∧ Ki gi i wr) ∨ (k = 1 ∧ Rd ga gs s (n + 1) wr ∧ Ki gi (K.t_reg s.data.toList (n + 0) i) wr) ∨ (k = 2 ∧ Rd ga gs s (n + 5) wr ∧ Ki gi (K.t_full s.data.toList (n + 1) (K.t_reg s.data.toList (n + 0) i)) wr))) (fun j _ => 2 - (intOf j).toNat)
  case atStart => exact ⟨0, rfl, Ch.refl _ _, .inl ⟨rfl, hr, hk⟩⟩
  case round =>
    clear hr hk
    obtain ⟨k, rfl, hch, hrel⟩ := hrel
    rcases hrel with ⟨rfl, hr, hk⟩ | ⟨rfl, hr, hk⟩ | ⟨rfl, hr, hk⟩
    · have p := Ch.kept hch g1 g2 q0
      clear q0 q1
      go_wp2_with (go_at_call 42; refine (reg_t _ _ _ _ _ _ _ hr hk h1 h2 (by omega) hs).mono ?_; rintro e w1 ⟨rfl, hr1, hk1, hch1⟩)
      go_roundw
      case rel => exact ⟨1, by go_num, hch.two hch1, .inr (.inl ⟨rfl, hr1, hk1⟩)⟩
      case measure => simp [intOf]
    · have p := Ch.kept hch g1 g2 q1
      clear q0 q1
      go_wp2_with (go_at_call 50; refine (full_t _ _ _ _ _ _ _ hr hk h1 h2 (by omega) hs).mono ?_; rintro e w1 ⟨rfl, hr1, hk1, hch1⟩)
      go_roundw
      case rel => exact ⟨2, by go_num, hch.two hch1, .inr (.inr (⟨rfl, hr1, hk1⟩))⟩
      case measure => simp [intOf]
    · clear q0 q1
      go_wp2
      go_end0
      exact ⟨rfl, hr, hk, hch⟩
theorem takes_pair_small (ga gs gi c h cap : Nat) (s : ByteArray) (n : Nat) (i : K.Ins) (w : World) : Rd ga gs s n w → Ki gi i w → ga ≠ gi → gs ≠ gi → n + 2 ≤ s.size → s.size ≤ maxLen → w.cell? ⟨c, 0, none⟩ = some (.slice (some ⟨h, 0, none⟩) 2 cap) → w.cell? ⟨h, 0, none⟩ = some (.func (.func 44) #[] #[]) → w.cell? ⟨h, 1, none⟩ = some (.func (.func 47) #[] #[]) → h ≠ ga → h ≠ gi →
    Calls Try.prog 55 #[.func (.func 38) #[] #[.pointer (some ⟨ga, 0, none⟩), .pointer (some ⟨gs, 0, none⟩)], .pointer (some ⟨gi, 0, none⟩), .pointer (some ⟨c, 0, none⟩)] w fun e w' => e = .returned (.tuple #[]) ∧ Rd ga gs s (n + 2) w' ∧ Ki gi (K.t_small s.data.toList (n + 1) (K.t_pair s.data.toList (n + 0) i)) w' ∧ Ch (fun x => x = ga ∨ x = gi) w w' := by
  intro hr hk h1 h2 hn hs hc q0 q1 g1 g2
  go_enter Try.func55, Try.ntmps55
  go_wp2
  clear hc
  go_loopw [9] (fun j wr => ∃ k : Nat, j = .int .i64 k ∧ Ch (fun x => x = ga ∨ x = gi) w wr ∧ ((k = 0 ∧ Rd ga gs s (n + 0) wr ∧ Ki gi i wr) ∨ (k = 1 ∧ Rd ga gs s (n + 1) wr ∧ Ki gi (K.t_pair s.data.toList (n + 0) i) wr) ∨ (k = 2 ∧ Rd ga gs s (n + 2) wr ∧ Ki gi (K.t_small s.data.toList (n + 1) (K.t_pair s.data.toList (n + 0) i)) wr))) (fun j _ => 2 - (intOf j).toNat)
  case atStart => exact ⟨0, rfl, Ch.refl _ _, .inl ⟨rfl, hr, hk⟩⟩
  case round =>
    clear hr hk
    obtain ⟨k, rfl, hch, hrel⟩ := hrel
    rcases hrel with ⟨rfl, hr, hk⟩ | ⟨rfl, hr, hk⟩ | ⟨rfl, hr, hk⟩
    · have p := Ch.kept hch g1 g2 q0
      clear q0 q1
      go_wp2_with (go_at_call 44; refine (pair_t _ _ _ _ _ _ _ hr hk h1 h2 (by omega) hs).mono ?_; rintro e w1 ⟨rfl, hr1, hk1, hch1⟩)
      go_roundw
      case rel => exact ⟨1, by go_num, hch.two hch1, .inr (.inl ⟨rfl, hr1, hk1⟩)⟩
      case measure => simp [intOf]
    · have p := Ch.kept hch g1 g2 q1
      clear q0 q1
      go_wp2_with (go_at_call 47; refine (small_t _ _ _ _ _ _ _ hr hk h1 h2 (by omega) hs).mono ?_; rintro e w1 ⟨rfl, hr1, hk1, hch1⟩)
      go_roundw
      case rel => exact ⟨2, by go_num, hch.two hch1, .inr (.inr (⟨rfl, hr1, hk1⟩))⟩
      case measure => simp [intOf]
    · clear q0 q1
      go_wp2
      go_end0
      exact ⟨rfl, hr, hk, hch⟩
theorem takes_pair_index_full (ga gs gi c h cap : Nat) (s : ByteArray) (n : Nat) (i : K.Ins) (w : World) : Rd ga gs s n w → Ki gi i w → ga ≠ gi → gs ≠ gi → n + 6 ≤ s.size → s.size ≤ maxLen → w.cell? ⟨c, 0, none⟩ = some (.slice (some ⟨h, 0, none⟩) 3 cap) → w.cell? ⟨h, 0, none⟩ = some (.func (.func 44) #[] #[]) → w.cell? ⟨h, 1, none⟩ = some (.func (.func 52) #[] #[]) → w.cell? ⟨h, 2, none⟩ = some (.func (.func 50) #[] #[]) → h ≠ ga → h ≠ gi →
    Calls Try.prog 55 #[.func (.func 38) #[] #[.pointer (some ⟨ga, 0, none⟩), .pointer (some ⟨gs, 0, none⟩)], .pointer (some ⟨gi, 0, none⟩), .pointer (some ⟨c, 0, none⟩)] w fun e w' => e = .returned (.tuple #[]) ∧ Rd ga gs s (n + 6) w' ∧ Ki gi (K.t_full s.data.toList (n + 2) (K.t_index s.data.toList (n + 1) (K.t_pair s.data.toList (n + 0) i))) w' ∧ Ch (fun x => x = ga ∨ x = gi) w w' := by
  intro hr hk h1 h2 hn hs hc q0 q1 q2 g1 g2
  go_enter Try.func55, Try.ntmps55
  go_wp2
  clear hc
  go_loopw [9] (fun j wr => ∃ k : Nat, j = .int .i64 k ∧ Ch (fun x => x = ga ∨ x = gi) w wr ∧ ((k = 0 ∧ Rd ga gs s (n + 0) wr ∧ Ki gi i wr) ∨ (k = 1 ∧ Rd ga gs s (n + 1) wr ∧ Ki gi (K.t_pair s.data.toList (n + 0) i) wr) ∨ (k = 2 ∧ Rd ga gs s (n + 2) wr ∧ Ki gi (K.t_index s.data.toList (n + 1) (K.t_pair s.data.toList (n + 0) i)) wr) ∨ (k = 3 ∧ Rd ga gs s (n + 6) wr ∧ Ki gi (K.t_full s.data.toList (n + 2) (K.t_index s.data.toList (n + 1) (K.t_pair s.data.toList (n + 0) i))) wr))) (fun j _ => 3 - (intOf j).toNat)
  case atStart => exact ⟨0, rfl, Ch.refl _ _, .inl ⟨rfl, hr, hk⟩⟩
  case round =>
    clear hr hk
    obtain ⟨k, rfl, hch, hrel⟩ := hrel
    rcases hrel with ⟨rfl, hr, hk⟩ | ⟨rfl, hr, hk⟩ | ⟨rfl, hr, hk⟩ | ⟨rfl, hr, hk⟩
    · have p := Ch.kept hch g1 g2 q0
      clear q0 q1 q2
      go_wp2_with (go_at_call 44; refine (pair_t _ _ _ _ _ _ _ hr hk h1 h2 (by omega) hs).mono ?_; rintro e w1 ⟨rfl, hr1, hk1, hch1⟩)
      go_roundw
      case rel => exact ⟨1, by go_num, hch.two hch1, .inr (.inl ⟨rfl, hr1, hk1⟩)⟩
      case measure => simp [intOf]
    · have p := Ch.kept hch g1 g2 q1
      clear q0 q1 q2
      go_wp2_with (go_at_call 52; refine (index_t _ _ _ _ _ _ _ hr hk h1 h2 (by omega) hs).mono ?_; rintro e w1 ⟨rfl, hr1, hk1, hch1⟩)
      go_roundw
      case rel => exact ⟨2, by go_num, hch.two hch1, .inr (.inr (.inl ⟨rfl, hr1, hk1⟩))⟩
      case measure => simp [intOf]
    · have p := Ch.kept hch g1 g2 q2
      clear q0 q1 q2
      go_wp2_with (go_at_call 50; refine (full_t _ _ _ _ _ _ _ hr hk h1 h2 (by omega) hs).mono ?_; rintro e w1 ⟨rfl, hr1, hk1, hch1⟩)
      go_roundw
      case rel => exact ⟨3, by go_num, hch.two hch1, .inr (.inr (.inr (⟨rfl, hr1, hk1⟩)))⟩
      case measure => simp [intOf]
    · clear q0 q1 q2
      go_wp2
      go_end0
      exact ⟨rfl, hr, hk, hch⟩
end Go.Proofs.Ytgnekniabedomaa
