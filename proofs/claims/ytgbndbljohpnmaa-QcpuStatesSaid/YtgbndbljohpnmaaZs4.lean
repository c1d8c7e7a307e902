/- Texts of the walk, merged (4): see the remark ahead of each. -/
import Derived.Test.YtgbndbljohpnmaaZs3
import Derived.Test.YtgbndbljohpnmaaProg
import Derived.Lib.ConvBytes
/- XQc -/
namespace Go.Proofs.Ytgbndbljohpnmaa
set_option linter.unusedVariables false
set_option linter.unusedSimpArgs false
open Go.RowKit
theorem Q.wrap_bd (x : Int) : 0 ≤ IntKind.wrap .u32 x ∧ IntKind.wrap .u32 x < 4294967296 := by
  show 0 ≤ x % 4294967296 ∧ x % 4294967296 < 4294967296
  omega
def Q.of (op : Int) : Q.Sh := (bif ((decide (op < 0)) || (decide (op ≥ 64))) then ⟨false, false, false, false, 0, 0, 0⟩ else (Q.shf (op).toNat))
theorem of_any (op : Int) (w : World) : Calls Try.prog 75 #[.int .i64 op] w fun e w' => e = .returned (.agg #[.bool ((Q.of op).kn), .bool ((Q.of op).d), .bool ((Q.of op).a), .bool ((Q.of op).b), .int .i64 ((Q.of op).kind), .int .i64 (((Q.of op).bits : Nat) : Int), .int .u32 ((Q.of op).most)]) ∧ Bel w w' := by
  refine E.enter (n := 15) (S := fun _ => False) Try.func75 rfl rfl (by kernel_rfl) (E.Hp.start w) ?_
  refine E.C.seq ?_
  refine E.C.region ?_
  refine E.G.new (fun g => .pointer (some ⟨g, 0, none⟩)) [.bool false, .bool false, .bool false, .bool false, .int .i64 0, .int .i64 0, .int .u32 0] 142 (fun w => by kernel_rfl) (by kernel_rfl) (fun g1 => ?_)
  refine E.To.code ?_
  refine E.C.seq ?_
  refine E.C.region ?_
  refine E.G.call (.agg (Q.tab Q.shf).toArray) (fun w h => shapes_any w) (fun w _ => by kernel_rfl) (by kernel_rfl) ?_
  refine E.G.new (fun g => .pointer (some ⟨g, 0, none⟩)) (Q.tab (fun _ => Q.sh0)) 145 (fun w => by kernel_rfl) (by kernel_rfl) (fun g2 => ?_)
  refine E.G.store 0 (Q.tab Q.shf) rfl rfl (Q.sto_all (by kernel_rfl)) (by kernel_rfl) ?_
  refine E.To.code ?_
  refine E.C.seq ?_
  refine E.C.seq ?_
  refine E.C.region ?_
  refine E.G.op (.int .i64 op) (fun w => by kernel_rfl) (by kernel_rfl) ?_
  refine E.G.op (.bool (decide (op < 0))) (fun w => by kernel_rfl) (by kernel_rfl) ?_
  refine E.G.op (.bool (decide (op < 0))) (fun w => by kernel_rfl) (by kernel_rfl) ?_
  refine E.G.cut 3 [(0, .int .i64 op), (2, .pointer (some ⟨g1, 0, none⟩)), (3, .pointer (some ⟨g2, 0, none⟩)), (10, .bool ((decide (op < 0)) || (decide (op ≥ 64))))] (fun _ => True) [(g2, (Q.tab Q.shf)), (g1, [.bool false, .bool false, .bool false, .bool false, .int .i64 0, .int .i64 0, .int .u32 0])] ?_ ?_
  · generalize hc3 : (decide (op < 0)) = b4
    cases b4
    · skip
      refine E.G.op (.int .i64 op) (fun w => by kernel_rfl) (by kernel_rfl) ?_
      refine E.G.op (.bool (decide (op ≥ 64))) (fun w => by kernel_rfl) (by kernel_rfl) ?_
      refine E.G.op (.bool (decide (op ≥ 64))) (fun w => by kernel_rfl) (by kernel_rfl) ?_
      exact E.G.end_pst ⟨by kernel_rfl, by kernel_rfl⟩ (List.Sublist.refl _) (fun _ h => h)
    · skip
      refine E.G.skip (by kernel_rfl) (by kernel_rfl) ?_
      refine E.G.skip (by kernel_rfl) (by kernel_rfl) ?_
      refine E.G.op (.bool true) (fun w => by kernel_rfl) (by kernel_rfl) ?_
      exact E.G.end_pst ⟨by kernel_rfl, by kernel_rfl⟩ (List.Sublist.refl _) (fun _ h => h)
  refine E.To.code ?_
  refine E.C.cond ((decide (op < 0)) || (decide (op ≥ 64))) (by kernel_rfl) (by kernel_rfl) (fun hc5 => ?_) (fun hc5 => ?_)
  · skip
    refine E.C.seq ?_
    refine E.C.region ?_
    refine E.G.val (.agg #[.bool false, .bool false, .bool false, .bool false, .int .i64 0, .int .i64 0, .int .u32 0]) (by kernel_rfl) (fun w h => E.run_build #[.bool false, .bool false, .bool false, .bool false, .int .i64 0, .int .i64 0, .int .u32 0] (by kernel_rfl) w) ?_
    refine E.G.store 1 [.bool false, .bool false, .bool false, .bool false, .int .i64 0, .int .i64 0, .int .u32 0] rfl rfl (by kernel_rfl) (by kernel_rfl) ?_
    refine E.To.code ?_
    refine E.C.ret (E.P.rt (E.To.body (fn := Try.f75) [.agg #[.bool false, .bool false, .bool false, .bool false, .int .i64 0, .int .i64 0, .int .u32 0]] ?_ ?_))
    · exact ⟨⟨by kernel_rfl, _, _, 1, _, rfl, rfl, by kernel_rfl⟩, trivial⟩
    · intro w h
      exact ⟨by show Ending.returned (.agg #[.bool false, .bool false, .bool false, .bool false, .int .i64 0, .int .i64 0, .int .u32 0]) = _; unfold Q.of; rw [hc5, cond_true] <;> rfl, h.ch.bel (fun _ h => h.elim)⟩
  · skip
    refine E.C.skip (E.To.code ?_)
    refine E.C.seq ?_
    refine E.C.region ?_
    refine E.G.op (.int .i64 op) (fun w => by kernel_rfl) (by kernel_rfl) ?_
    refine E.G.val (.pointer (some ⟨g2, 0 + (op).toNat * 7, none⟩)) (by kernel_rfl) (fun w h => E.idxA (e := 142) g2 0 64 7 .i64 (op) (by kernel_rfl) (by kernel_rfl) (by kernel_rfl) (by kernel_rfl) (by simp only [Bool.or_eq_false_iff, decide_eq_false_iff_not] at *; omega) (by simp only [Bool.or_eq_false_iff, decide_eq_false_iff_not] at *; omega) w) ?_
    refine E.G.val (.agg #[.bool ((Q.shf (op).toNat).kn), .bool ((Q.shf (op).toNat).d), .bool ((Q.shf (op).toNat).a), .bool ((Q.shf (op).toNat).b), .int .i64 ((Q.shf (op).toNat).kind), .int .i64 (((Q.shf (op).toNat).bits : Nat) : Int), .int .u32 ((Q.shf (op).toNat).most)]) (by kernel_rfl) (fun w h => E.run_load h 0 rfl rfl (Q.ld_tab (by kernel_rfl) (by kernel_rfl) (by simp only [Bool.or_eq_false_iff, decide_eq_false_iff_not] at *; omega))) ?_
    refine E.G.store 1 [.bool ((Q.shf (op).toNat).kn), .bool ((Q.shf (op).toNat).d), .bool ((Q.shf (op).toNat).a), .bool ((Q.shf (op).toNat).b), .int .i64 ((Q.shf (op).toNat).kind), .int .i64 (((Q.shf (op).toNat).bits : Nat) : Int), .int .u32 ((Q.shf (op).toNat).most)] rfl rfl (by kernel_rfl) (by kernel_rfl) ?_
    refine E.To.code ?_
    refine E.C.ret (E.To.body (fn := Try.f75) [.agg #[.bool ((Q.shf (op).toNat).kn), .bool ((Q.shf (op).toNat).d), .bool ((Q.shf (op).toNat).a), .bool ((Q.shf (op).toNat).b), .int .i64 ((Q.shf (op).toNat).kind), .int .i64 (((Q.shf (op).toNat).bits : Nat) : Int), .int .u32 ((Q.shf (op).toNat).most)]] ?_ ?_)
    · exact ⟨⟨by kernel_rfl, _, _, 1, _, rfl, rfl, by kernel_rfl⟩, trivial⟩
    · intro w h
      exact ⟨by show Ending.returned (.agg #[.bool ((Q.shf (op).toNat).kn), .bool ((Q.shf (op).toNat).d), .bool ((Q.shf (op).toNat).a), .bool ((Q.shf (op).toNat).b), .int .i64 ((Q.shf (op).toNat).kind), .int .i64 (((Q.shf (op).toNat).bits : Nat) : Int), .int .u32 ((Q.shf (op).toNat).most)]) = _; unfold Q.of; rw [hc5, cond_false] <;> rfl, h.ch.bel (fun _ h => h.elim)⟩
def Q.fits (n : Int) (u : Bool) : Bool := ((n == 0) || ((u && (decide (n > 0))) && (decide (n < 16))))
theorem fits_any (n : Int) (u : Bool) (w : World) : Calls Try.prog 96 #[.int .i64 n, .bool u] w fun e w' => e = .returned (.bool (Q.fits n u)) ∧ Bel w w' := by
  refine E.enter (n := 18) (S := fun _ => False) Try.func96 rfl rfl (by kernel_rfl) (E.Hp.start w) ?_
  refine E.C.seq ?_
  refine E.C.region ?_
  refine E.G.op (.bool false) (fun w => by kernel_rfl) (by kernel_rfl) ?_
  refine E.To.code ?_
  refine E.C.seq ?_
  refine E.C.region ?_
  refine E.G.op (.int .i64 n) (fun w => by kernel_rfl) (by kernel_rfl) ?_
  refine E.G.op (.bool (n == 0)) (fun w => by kernel_rfl) (by kernel_rfl) ?_
  refine E.G.op (.bool (n == 0)) (fun w => by kernel_rfl) (by kernel_rfl) ?_
  refine E.G.cut 10 [(4, .bool false), (17, .bool ((n == 0) || ((u && (decide (n > 0))) && (decide (n < 16)))))] (fun _ => True) [] ?_ ?_
  · generalize hc1 : (n == 0) = b2
    cases b2
    · skip
      refine E.G.op (.bool u) (fun w => by kernel_rfl) (by kernel_rfl) ?_
      refine E.G.op (.bool u) (fun w => by kernel_rfl) (by kernel_rfl) ?_
      refine E.G.cut 3 [(0, .int .i64 n), (4, .bool false), (7, .bool false), (12, .bool (u && (decide (n > 0))))] (fun _ => True) [] ?_ ?_
      · generalize hc3 : u = b4
        cases b4
        · skip
          refine E.G.skip (by kernel_rfl) (by kernel_rfl) ?_
          refine E.G.skip (by kernel_rfl) (by kernel_rfl) ?_
          refine E.G.op (.bool false) (fun w => by kernel_rfl) (by kernel_rfl) ?_
          exact E.G.end_pst ⟨by kernel_rfl, by kernel_rfl⟩ (List.Sublist.refl _) (fun _ h => h)
        · skip
          refine E.G.op (.int .i64 n) (fun w => by kernel_rfl) (by kernel_rfl) ?_
          refine E.G.op (.bool (decide (n > 0))) (fun w => by kernel_rfl) (by kernel_rfl) ?_
          refine E.G.op (.bool (decide (n > 0))) (fun w => by kernel_rfl) (by kernel_rfl) ?_
          exact E.G.end_pst ⟨by kernel_rfl, by kernel_rfl⟩ (List.Sublist.refl _) (fun _ h => h)
      refine E.G.op (.bool (u && (decide (n > 0)))) (fun w => by kernel_rfl) (by kernel_rfl) ?_
      refine E.G.cut 3 [(4, .bool false), (7, .bool false), (16, .bool ((u && (decide (n > 0))) && (decide (n < 16))))] (fun _ => True) [] ?_ ?_
      · generalize hc5 : (u && (decide (n > 0))) = b6
        cases b6
        · skip
          refine E.G.skip (by kernel_rfl) (by kernel_rfl) ?_
          refine E.G.skip (by kernel_rfl) (by kernel_rfl) ?_
          refine E.G.op (.bool false) (fun w => by kernel_rfl) (by kernel_rfl) ?_
          exact E.G.end_pst ⟨by kernel_rfl, by kernel_rfl⟩ (List.Sublist.refl _) (fun _ h => h)
        · skip
          refine E.G.op (.int .i64 n) (fun w => by kernel_rfl) (by kernel_rfl) ?_
          refine E.G.op (.bool (decide (n < 16))) (fun w => by kernel_rfl) (by kernel_rfl) ?_
          refine E.G.op (.bool (decide (n < 16))) (fun w => by kernel_rfl) (by kernel_rfl) ?_
          exact E.G.end_pst ⟨by kernel_rfl, by kernel_rfl⟩ (List.Sublist.refl _) (fun _ h => h)
      refine E.G.op (.bool ((u && (decide (n > 0))) && (decide (n < 16)))) (fun w => by kernel_rfl) (by kernel_rfl) ?_
      exact E.G.end_pst ⟨by kernel_rfl, by kernel_rfl⟩ (List.Sublist.refl _) (fun _ h => h)
    · skip
      refine E.G.skip (by kernel_rfl) (by kernel_rfl) ?_
      refine E.G.skip (by kernel_rfl) (by kernel_rfl) ?_
      refine E.G.skip (by kernel_rfl) (by kernel_rfl) ?_
      refine E.G.skip (by kernel_rfl) (by kernel_rfl) ?_
      refine E.G.skip (by kernel_rfl) (by kernel_rfl) ?_
      refine E.G.skip (by kernel_rfl) (by kernel_rfl) ?_
      refine E.G.skip (by kernel_rfl) (by kernel_rfl) ?_
      refine E.G.skip (by kernel_rfl) (by kernel_rfl) ?_
      refine E.G.skip (by kernel_rfl) (by kernel_rfl) ?_
      refine E.G.op (.bool true) (fun w => by kernel_rfl) (by kernel_rfl) ?_
      exact E.G.end_pst ⟨by kernel_rfl, by kernel_rfl⟩ (List.Sublist.refl _) (fun _ h => h)
  refine E.G.op (.bool ((n == 0) || ((u && (decide (n > 0))) && (decide (n < 16))))) (fun w => by kernel_rfl) (by kernel_rfl) ?_
  refine E.To.code ?_
  refine E.C.ret (E.To.body (fn := Try.f96) [.bool ((n == 0) || ((u && (decide (n > 0))) && (decide (n < 16))))] ?_ ?_)
  · exact ⟨⟨by kernel_rfl, by kernel_rfl⟩, trivial⟩
  · intro w h
    exact ⟨rfl, h.ch.bel (fun _ h => h.elim)⟩

/-- Formats are small. -/
def Q.Sh.ok (s : Q.Sh) : Prop := s.bits ≤ 32

def Q.immediate (s : Q.Sh) (n : Int) : Bool := (bif (s.kind == 0) then (n == 0) else (bif (s.kind == 1) then (W.sign n ((s.bits : Nat) : Int) == n) else (bif (decide (s.most > 0)) then (decide (n ≤ s.most)) else ((Int.fdiv n (2 ^ (min s.bits 32))) == 0))))
theorem immediate_any (s : Q.Sh) (n : Int) (hs : s.bits ≤ 32) (hm : 0 ≤ n ∧ n < 4294967296) (w : World) : Calls Try.prog 97 #[.agg #[.bool s.kn, .bool s.d, .bool s.a, .bool s.b, .int .i64 s.kind, .int .i64 ((s.bits : Nat) : Int), .int .u32 s.most], .int .u32 n] w fun e w' => e = .returned (.bool (Q.immediate s n)) ∧ Bel w w' := by
  refine E.enter (n := 32) (S := fun _ => False) Try.func97 rfl rfl (by kernel_rfl) (E.Hp.start w) ?_
  refine E.C.seq ?_
  refine E.C.region ?_
  refine E.G.new (fun g => .pointer (some ⟨g, 0, none⟩)) [.bool s.kn, .bool s.d, .bool s.a, .bool s.b, .int .i64 s.kind, .int .i64 ((s.bits : Nat) : Int), .int .u32 s.most] 142 (fun w => by kernel_rfl) (by kernel_rfl) (fun g1 => ?_)
  refine E.G.op (.bool false) (fun w => by kernel_rfl) (by kernel_rfl) ?_
  refine E.To.code ?_
  refine E.C.seq ?_
  refine E.C.block ?_
  refine E.C.seq ?_
  refine E.C.region ?_
  refine E.G.op (.pointer (some ⟨g1, 4, none⟩)) (fun w => by kernel_rfl) (by kernel_rfl) ?_
  refine E.G.val (.int .i64 s.kind) (by kernel_rfl) (fun w h => E.run_load h 0 rfl rfl (by kernel_rfl)) ?_
  refine E.G.op (.bool (s.kind == 0)) (fun w => by kernel_rfl) (by kernel_rfl) ?_
  refine E.G.op (.bool (s.kind == 0)) (fun w => by kernel_rfl) (by kernel_rfl) ?_
  refine E.To.code ?_
  refine E.C.cond (s.kind == 0) (by kernel_rfl) (by kernel_rfl) (fun hc2 => ?_) (fun hc2 => ?_)
  · skip
    refine E.C.seq ?_
    refine E.C.region ?_
    refine E.G.op (.int .u32 n) (fun w => by kernel_rfl) (by kernel_rfl) ?_
    refine E.G.op (.bool (n == 0)) (fun w => by kernel_rfl) (by kernel_rfl) ?_
    refine E.G.op (.bool (n == 0)) (fun w => by kernel_rfl) (by kernel_rfl) ?_
    refine E.To.code ?_
    refine E.C.ret (E.P.rb (E.P.rt (E.To.body (fn := Try.f97) [.bool (n == 0)] ?_ ?_)))
    · exact ⟨⟨by kernel_rfl, by kernel_rfl⟩, trivial⟩
    · intro w h
      exact ⟨by show Ending.returned (.bool (n == 0)) = _; unfold Q.immediate; rw [hc2, cond_true] <;> rfl, h.ch.bel (fun _ h => h.elim)⟩
  · skip
    refine E.C.seq ?_
    refine E.C.region ?_
    refine E.G.op (.pointer (some ⟨g1, 4, none⟩)) (fun w => by kernel_rfl) (by kernel_rfl) ?_
    refine E.G.val (.int .i64 s.kind) (by kernel_rfl) (fun w h => E.run_load h 0 rfl rfl (by kernel_rfl)) ?_
    refine E.G.op (.bool (s.kind == 1)) (fun w => by kernel_rfl) (by kernel_rfl) ?_
    refine E.G.op (.bool (s.kind == 1)) (fun w => by kernel_rfl) (by kernel_rfl) ?_
    refine E.To.code ?_
    refine E.C.weak [(1, .int .u32 n), (2, .pointer (some ⟨g1, 0, none⟩)), (4, .bool false), (11, .bool (s.kind == 1))] [(g1, [.bool s.kn, .bool s.d, .bool s.a, .bool s.b, .int .i64 s.kind, .int .i64 ((s.bits : Nat) : Int), .int .u32 s.most])] ⟨by kernel_rfl, by kernel_rfl⟩ (List.Sublist.refl _) ?_
    refine E.C.cond (s.kind == 1) (by kernel_rfl) (by kernel_rfl) (fun hc3 => ?_) (fun hc3 => ?_)
    · skip
      refine E.C.seq ?_
      refine E.C.region ?_
      refine E.G.op (.int .u32 n) (fun w => by kernel_rfl) (by kernel_rfl) ?_
      refine E.G.op (.pointer (some ⟨g1, 5, none⟩)) (fun w => by kernel_rfl) (by kernel_rfl) ?_
      refine E.G.val (.int .i64 ((s.bits : Nat) : Int)) (by kernel_rfl) (fun w h => E.run_load h 0 rfl rfl (by kernel_rfl)) ?_
      refine E.G.call (.bool (W.sign n ((s.bits : Nat) : Int) == n)) (fun w h => Fits_any n ((s.bits : Nat) : Int) hm.1 hm.2 (by omega) (by omega) w) (fun w _ => by kernel_rfl) (by kernel_rfl) ?_
      refine E.G.op (.bool (W.sign n ((s.bits : Nat) : Int) == n)) (fun w => by kernel_rfl) (by kernel_rfl) ?_
      refine E.To.code ?_
      refine E.C.ret (E.P.rb (E.P.rt (E.To.body (fn := Try.f97) [.bool (W.sign n ((s.bits : Nat) : Int) == n)] ?_ ?_)))
      · exact ⟨⟨by kernel_rfl, by kernel_rfl⟩, trivial⟩
      · intro w h
        exact ⟨by show Ending.returned (.bool (W.sign n ((s.bits : Nat) : Int) == n)) = _; unfold Q.immediate; rw [hc2, cond_false, hc3, cond_true] <;> rfl, h.ch.bel (fun _ h => h.elim)⟩
    · skip
      refine E.C.seq ?_
      refine E.C.region ?_
      refine E.G.op (.pointer (some ⟨g1, 6, none⟩)) (fun w => by kernel_rfl) (by kernel_rfl) ?_
      refine E.G.val (.int .u32 s.most) (by kernel_rfl) (fun w h => E.run_load h 0 rfl rfl (by kernel_rfl)) ?_
      refine E.G.op (.bool (decide (s.most > 0))) (fun w => by kernel_rfl) (by kernel_rfl) ?_
      refine E.G.op (.bool (decide (s.most > 0))) (fun w => by kernel_rfl) (by kernel_rfl) ?_
      refine E.To.code ?_
      refine E.C.cond (decide (s.most > 0)) (by kernel_rfl) (by kernel_rfl) (fun hc4 => ?_) (fun hc4 => ?_)
      · skip
        refine E.C.seq ?_
        refine E.C.region ?_
        refine E.G.op (.int .u32 n) (fun w => by kernel_rfl) (by kernel_rfl) ?_
        refine E.G.op (.pointer (some ⟨g1, 6, none⟩)) (fun w => by kernel_rfl) (by kernel_rfl) ?_
        refine E.G.val (.int .u32 s.most) (by kernel_rfl) (fun w h => E.run_load h 0 rfl rfl (by kernel_rfl)) ?_
        refine E.G.op (.bool (decide (n ≤ s.most))) (fun w => by kernel_rfl) (by kernel_rfl) ?_
        refine E.G.op (.bool (decide (n ≤ s.most))) (fun w => by kernel_rfl) (by kernel_rfl) ?_
        refine E.To.code ?_
        refine E.C.weak [(1, .int .u32 n), (2, .pointer (some ⟨g1, 0, none⟩)), (4, .bool (decide (n ≤ s.most)))] [(g1, [.bool s.kn, .bool s.d, .bool s.a, .bool s.b, .int .i64 s.kind, .int .i64 ((s.bits : Nat) : Int), .int .u32 s.most])] ⟨by kernel_rfl, by kernel_rfl⟩ (List.Sublist.refl _) ?_
        refine E.C.ret (E.P.rb (E.P.rt (E.To.body (fn := Try.f97) [.bool (decide (n ≤ s.most))] ?_ ?_)))
        · exact ⟨⟨by kernel_rfl, by kernel_rfl⟩, trivial⟩
        · intro w h
          exact ⟨by show Ending.returned (.bool (decide (n ≤ s.most))) = _; unfold Q.immediate; rw [hc2, cond_false, hc3, cond_false, hc4, cond_true] <;> rfl, h.ch.bel (fun _ h => h.elim)⟩
      · skip
        refine E.C.skip (E.P.nb (E.To.code ?_))
        refine E.C.seq ?_
        refine E.C.region ?_
        refine E.G.op (.int .u32 n) (fun w => by kernel_rfl) (by kernel_rfl) ?_
        refine E.G.op (.pointer (some ⟨g1, 5, none⟩)) (fun w => by kernel_rfl) (by kernel_rfl) ?_
        refine E.G.val (.int .i64 ((s.bits : Nat) : Int)) (by kernel_rfl) (fun w h => E.run_load h 0 rfl rfl (by kernel_rfl)) ?_
        refine E.G.val (.int .u32 (Int.fdiv n (2 ^ (min s.bits 32)))) (by kernel_rfl) (fun w h => E.shrN (k2 := .i64) n s.bits 32 (by rfl) (by kernel_rfl) (by kernel_rfl) w) ?_
        refine E.G.op (.bool ((Int.fdiv n (2 ^ (min s.bits 32))) == 0)) (fun w => by kernel_rfl) (by kernel_rfl) ?_
        refine E.G.op (.bool ((Int.fdiv n (2 ^ (min s.bits 32))) == 0)) (fun w => by kernel_rfl) (by kernel_rfl) ?_
        refine E.To.code ?_
        refine E.C.weak [(4, .bool ((Int.fdiv n (2 ^ (min s.bits 32))) == 0))] [] ⟨by kernel_rfl, by kernel_rfl⟩ (List.nil_sublist _) ?_
        refine E.C.ret (E.To.body (fn := Try.f97) [.bool ((Int.fdiv n (2 ^ (min s.bits 32))) == 0)] ?_ ?_)
        · exact ⟨⟨by kernel_rfl, by kernel_rfl⟩, trivial⟩
        · intro w h
          exact ⟨by show Ending.returned (.bool ((Int.fdiv n (2 ^ (min s.bits 32))) == 0)) = _; unfold Q.immediate; rw [hc2, cond_false, hc3, cond_false, hc4, cond_false] <;> rfl, h.ch.bel (fun _ h => h.elim)⟩

theorem Q.of_lt {x : Int} (h : 0 ≤ x ∧ x < 64) : Q.of x = Q.shf x.toNat := by
  unfold Q.of; rw [show (decide (x < 0) || decide (x ≥ 64)) = false by rw [Bool.or_eq_false_iff, decide_eq_false_iff_not, decide_eq_false_iff_not]; omega]; rfl
theorem Q.of_out {x : Int} (h : ¬ (0 ≤ x ∧ x < 64)) : Q.of x = ⟨false, false, false, false, 0, 0, 0⟩ := by
  unfold Q.of; rw [show (decide (x < 0) || decide (x ≥ 64)) = true by rw [Bool.or_eq_true, decide_eq_true_eq, decide_eq_true_eq]; omega]; rfl
theorem Q.shf_bits : ∀ k : Fin 64, (Q.shf k.val).bits ≤ 32 := by decide +kernel
theorem Q.of_bits (x : Int) : (Q.of x).bits ≤ 32 := by
  by_cases h : 0 ≤ x ∧ x < 64
  · rw [Q.of_lt h]; exact Q.shf_bits ⟨x.toNat, by omega⟩
  · rw [Q.of_out h]; exact Nat.zero_le _

def Q.valid (i : Q.I) : Bool := ((((((Q.of i.op).kn) && (Q.fits i.d ((Q.of i.op).d))) && (Q.fits i.a ((Q.of i.op).a))) && (Q.fits i.b ((Q.of i.op).b))) && (Q.immediate (Q.of i.op) i.imm))
theorem Valid_any (i : Q.I) (hm : 0 ≤ i.imm ∧ i.imm < 4294967296) (w : World) : Calls Try.prog 94 #[.agg #[.int .i64 i.op, .int .i64 i.d, .int .i64 i.a, .int .i64 i.b, .int .u32 i.imm]] w fun e w' => e = .returned (.bool (Q.valid i)) ∧ Bel w w' := by
  refine E.enter (n := 36) (S := fun _ => False) Try.func94 rfl rfl (by kernel_rfl) (E.Hp.start w) ?_
  refine E.C.seq ?_
  refine E.C.region ?_
  refine E.G.new (fun g => .pointer (some ⟨g, 0, none⟩)) [.int .i64 i.op, .int .i64 i.d, .int .i64 i.a, .int .i64 i.b, .int .u32 i.imm] 47 (fun w => by kernel_rfl) (by kernel_rfl) (fun g1 => ?_)
  refine E.G.op (.bool false) (fun w => by kernel_rfl) (by kernel_rfl) ?_
  refine E.To.code ?_
  refine E.C.seq ?_
  refine E.C.region ?_
  refine E.G.op (.pointer (some ⟨g1, 0, none⟩)) (fun w => by kernel_rfl) (by kernel_rfl) ?_
  refine E.G.val (.int .i64 i.op) (by kernel_rfl) (fun w h => E.run_load h 0 rfl rfl (by kernel_rfl)) ?_
  refine E.G.call (.agg #[.bool ((Q.of i.op).kn), .bool ((Q.of i.op).d), .bool ((Q.of i.op).a), .bool ((Q.of i.op).b), .int .i64 ((Q.of i.op).kind), .int .i64 (((Q.of i.op).bits : Nat) : Int), .int .u32 ((Q.of i.op).most)]) (fun w h => of_any i.op w) (fun w _ => by kernel_rfl) (by kernel_rfl) ?_
  refine E.G.new (fun g => .pointer (some ⟨g, 0, none⟩)) [.bool false, .bool false, .bool false, .bool false, .int .i64 0, .int .i64 0, .int .u32 0] 142 (fun w => by kernel_rfl) (by kernel_rfl) (fun g2 => ?_)
  refine E.G.store 0 [.bool ((Q.of i.op).kn), .bool ((Q.of i.op).d), .bool ((Q.of i.op).a), .bool ((Q.of i.op).b), .int .i64 ((Q.of i.op).kind), .int .i64 (((Q.of i.op).bits : Nat) : Int), .int .u32 ((Q.of i.op).most)] rfl rfl (by kernel_rfl) (by kernel_rfl) ?_
  refine E.To.code ?_
  refine E.C.seq ?_
  refine E.C.region ?_
  refine E.G.op (.pointer (some ⟨g2, 0, none⟩)) (fun w => by kernel_rfl) (by kernel_rfl) ?_
  refine E.G.val (.bool ((Q.of i.op).kn)) (by kernel_rfl) (fun w h => E.run_load h 0 rfl rfl (by kernel_rfl)) ?_
  refine E.G.op (.bool ((Q.of i.op).kn)) (fun w => by kernel_rfl) (by kernel_rfl) ?_
  refine E.G.cut 6 [(1, .pointer (some ⟨g1, 0, none⟩)), (2, .bool false), (3, .pointer (some ⟨g2, 0, none⟩)), (15, .bool (((Q.of i.op).kn) && (Q.fits i.d ((Q.of i.op).d))))] (fun _ => True) [(g2, [.bool ((Q.of i.op).kn), .bool ((Q.of i.op).d), .bool ((Q.of i.op).a), .bool ((Q.of i.op).b), .int .i64 ((Q.of i.op).kind), .int .i64 (((Q.of i.op).bits : Nat) : Int), .int .u32 ((Q.of i.op).most)]), (g1, [.int .i64 i.op, .int .i64 i.d, .int .i64 i.a, .int .i64 i.b, .int .u32 i.imm])] ?_ ?_
  · generalize hc3 : (Q.of i.op).kn = b4
    cases b4
    · skip
      refine E.G.skip (by kernel_rfl) (by kernel_rfl) ?_
      refine E.G.skip (by kernel_rfl) (by kernel_rfl) ?_
      refine E.G.skip (by kernel_rfl) (by kernel_rfl) ?_
      refine E.G.skip (by kernel_rfl) (by kernel_rfl) ?_
      refine E.G.skip (by kernel_rfl) (by kernel_rfl) ?_
      refine E.G.op (.bool false) (fun w => by kernel_rfl) (by kernel_rfl) ?_
      exact E.G.end_pst ⟨by kernel_rfl, by kernel_rfl⟩ (List.Sublist.refl _) (fun _ h => h)
    · skip
      refine E.G.op (.pointer (some ⟨g1, 1, none⟩)) (fun w => by kernel_rfl) (by kernel_rfl) ?_
      refine E.G.val (.int .i64 i.d) (by kernel_rfl) (fun w h => E.run_load h 1 rfl rfl (by kernel_rfl)) ?_
      refine E.G.op (.pointer (some ⟨g2, 1, none⟩)) (fun w => by kernel_rfl) (by kernel_rfl) ?_
      refine E.G.val (.bool ((Q.of i.op).d)) (by kernel_rfl) (fun w h => E.run_load h 0 rfl rfl (by kernel_rfl)) ?_
      refine E.G.call (.bool (Q.fits i.d ((Q.of i.op).d))) (fun w h => fits_any i.d ((Q.of i.op).d) w) (fun w _ => by kernel_rfl) (by kernel_rfl) ?_
      refine E.G.op (.bool (Q.fits i.d ((Q.of i.op).d))) (fun w => by kernel_rfl) (by kernel_rfl) ?_
      exact E.G.end_pst ⟨by kernel_rfl, by kernel_rfl⟩ (List.Sublist.refl _) (fun _ h => h)
  refine E.G.op (.bool (((Q.of i.op).kn) && (Q.fits i.d ((Q.of i.op).d)))) (fun w => by kernel_rfl) (by kernel_rfl) ?_
  refine E.G.cut 6 [(1, .pointer (some ⟨g1, 0, none⟩)), (2, .bool false), (3, .pointer (some ⟨g2, 0, none⟩)), (22, .bool ((((Q.of i.op).kn) && (Q.fits i.d ((Q.of i.op).d))) && (Q.fits i.a ((Q.of i.op).a))))] (fun _ => True) [(g2, [.bool ((Q.of i.op).kn), .bool ((Q.of i.op).d), .bool ((Q.of i.op).a), .bool ((Q.of i.op).b), .int .i64 ((Q.of i.op).kind), .int .i64 (((Q.of i.op).bits : Nat) : Int), .int .u32 ((Q.of i.op).most)]), (g1, [.int .i64 i.op, .int .i64 i.d, .int .i64 i.a, .int .i64 i.b, .int .u32 i.imm])] ?_ ?_
  · generalize hc5 : (((Q.of i.op).kn) && (Q.fits i.d ((Q.of i.op).d))) = b6
    cases b6
    · skip
      refine E.G.skip (by kernel_rfl) (by kernel_rfl) ?_
      refine E.G.skip (by kernel_rfl) (by kernel_rfl) ?_
      refine E.G.skip (by kernel_rfl) (by kernel_rfl) ?_
      refine E.G.skip (by kernel_rfl) (by kernel_rfl) ?_
      refine E.G.skip (by kernel_rfl) (by kernel_rfl) ?_
      refine E.G.op (.bool false) (fun w => by kernel_rfl) (by kernel_rfl) ?_
      exact E.G.end_pst ⟨by kernel_rfl, by kernel_rfl⟩ (List.Sublist.refl _) (fun _ h => h)
    · skip
      refine E.G.op (.pointer (some ⟨g1, 2, none⟩)) (fun w => by kernel_rfl) (by kernel_rfl) ?_
      refine E.G.val (.int .i64 i.a) (by kernel_rfl) (fun w h => E.run_load h 1 rfl rfl (by kernel_rfl)) ?_
      refine E.G.op (.pointer (some ⟨g2, 2, none⟩)) (fun w => by kernel_rfl) (by kernel_rfl) ?_
      refine E.G.val (.bool ((Q.of i.op).a)) (by kernel_rfl) (fun w h => E.run_load h 0 rfl rfl (by kernel_rfl)) ?_
      refine E.G.call (.bool (Q.fits i.a ((Q.of i.op).a))) (fun w h => fits_any i.a ((Q.of i.op).a) w) (fun w _ => by kernel_rfl) (by kernel_rfl) ?_
      refine E.G.op (.bool (Q.fits i.a ((Q.of i.op).a))) (fun w => by kernel_rfl) (by kernel_rfl) ?_
      exact E.G.end_pst ⟨by kernel_rfl, by kernel_rfl⟩ (List.Sublist.refl _) (fun _ h => h)
  refine E.G.op (.bool ((((Q.of i.op).kn) && (Q.fits i.d ((Q.of i.op).d))) && (Q.fits i.a ((Q.of i.op).a)))) (fun w => by kernel_rfl) (by kernel_rfl) ?_
  refine E.G.cut 6 [(1, .pointer (some ⟨g1, 0, none⟩)), (2, .bool false), (3, .pointer (some ⟨g2, 0, none⟩)), (29, .bool (((((Q.of i.op).kn) && (Q.fits i.d ((Q.of i.op).d))) && (Q.fits i.a ((Q.of i.op).a))) && (Q.fits i.b ((Q.of i.op).b))))] (fun _ => True) [(g2, [.bool ((Q.of i.op).kn), .bool ((Q.of i.op).d), .bool ((Q.of i.op).a), .bool ((Q.of i.op).b), .int .i64 ((Q.of i.op).kind), .int .i64 (((Q.of i.op).bits : Nat) : Int), .int .u32 ((Q.of i.op).most)]), (g1, [.int .i64 i.op, .int .i64 i.d, .int .i64 i.a, .int .i64 i.b, .int .u32 i.imm])] ?_ ?_
  · generalize hc7 : ((((Q.of i.op).kn) && (Q.fits i.d ((Q.of i.op).d))) && (Q.fits i.a ((Q.of i.op).a))) = b8
    cases b8
    · skip
      refine E.G.skip (by kernel_rfl) (by kernel_rfl) ?_
      refine E.G.skip (by kernel_rfl) (by kernel_rfl) ?_
      refine E.G.skip (by kernel_rfl) (by kernel_rfl) ?_
      refine E.G.skip (by kernel_rfl) (by kernel_rfl) ?_
      refine E.G.skip (by kernel_rfl) (by kernel_rfl) ?_
      refine E.G.op (.bool false) (fun w => by kernel_rfl) (by kernel_rfl) ?_
      exact E.G.end_pst ⟨by kernel_rfl, by kernel_rfl⟩ (List.Sublist.refl _) (fun _ h => h)
    · skip
      refine E.G.op (.pointer (some ⟨g1, 3, none⟩)) (fun w => by kernel_rfl) (by kernel_rfl) ?_
      refine E.G.val (.int .i64 i.b) (by kernel_rfl) (fun w h => E.run_load h 1 rfl rfl (by kernel_rfl)) ?_
      refine E.G.op (.pointer (some ⟨g2, 3, none⟩)) (fun w => by kernel_rfl) (by kernel_rfl) ?_
      refine E.G.val (.bool ((Q.of i.op).b)) (by kernel_rfl) (fun w h => E.run_load h 0 rfl rfl (by kernel_rfl)) ?_
      refine E.G.call (.bool (Q.fits i.b ((Q.of i.op).b))) (fun w h => fits_any i.b ((Q.of i.op).b) w) (fun w _ => by kernel_rfl) (by kernel_rfl) ?_
      refine E.G.op (.bool (Q.fits i.b ((Q.of i.op).b))) (fun w => by kernel_rfl) (by kernel_rfl) ?_
      exact E.G.end_pst ⟨by kernel_rfl, by kernel_rfl⟩ (List.Sublist.refl _) (fun _ h => h)
  refine E.G.op (.bool (((((Q.of i.op).kn) && (Q.fits i.d ((Q.of i.op).d))) && (Q.fits i.a ((Q.of i.op).a))) && (Q.fits i.b ((Q.of i.op).b)))) (fun w => by kernel_rfl) (by kernel_rfl) ?_
  refine E.G.cut 5 [(2, .bool false), (35, .bool ((((((Q.of i.op).kn) && (Q.fits i.d ((Q.of i.op).d))) && (Q.fits i.a ((Q.of i.op).a))) && (Q.fits i.b ((Q.of i.op).b))) && (Q.immediate (Q.of i.op) i.imm)))] (fun _ => True) [(g2, [.bool ((Q.of i.op).kn), .bool ((Q.of i.op).d), .bool ((Q.of i.op).a), .bool ((Q.of i.op).b), .int .i64 ((Q.of i.op).kind), .int .i64 (((Q.of i.op).bits : Nat) : Int), .int .u32 ((Q.of i.op).most)]), (g1, [.int .i64 i.op, .int .i64 i.d, .int .i64 i.a, .int .i64 i.b, .int .u32 i.imm])] ?_ ?_
  · generalize hc9 : (((((Q.of i.op).kn) && (Q.fits i.d ((Q.of i.op).d))) && (Q.fits i.a ((Q.of i.op).a))) && (Q.fits i.b ((Q.of i.op).b))) = b10
    cases b10
    · skip
      refine E.G.skip (by kernel_rfl) (by kernel_rfl) ?_
      refine E.G.skip (by kernel_rfl) (by kernel_rfl) ?_
      refine E.G.skip (by kernel_rfl) (by kernel_rfl) ?_
      refine E.G.skip (by kernel_rfl) (by kernel_rfl) ?_
      refine E.G.op (.bool false) (fun w => by kernel_rfl) (by kernel_rfl) ?_
      exact E.G.end_pst ⟨by kernel_rfl, by kernel_rfl⟩ (List.Sublist.refl _) (fun _ h => h)
    · skip
      refine E.G.val (.agg #[.bool ((Q.of i.op).kn), .bool ((Q.of i.op).d), .bool ((Q.of i.op).a), .bool ((Q.of i.op).b), .int .i64 ((Q.of i.op).kind), .int .i64 (((Q.of i.op).bits : Nat) : Int), .int .u32 ((Q.of i.op).most)]) (by kernel_rfl) (fun w h => E.run_load h 0 rfl rfl (by kernel_rfl)) ?_
      refine E.G.op (.pointer (some ⟨g1, 4, none⟩)) (fun w => by kernel_rfl) (by kernel_rfl) ?_
      refine E.G.val (.int .u32 i.imm) (by kernel_rfl) (fun w h => E.run_load h 1 rfl rfl (by kernel_rfl)) ?_
      refine E.G.call (.bool (Q.immediate (Q.of i.op) i.imm)) (fun w h => immediate_any (Q.of i.op) i.imm (Q.of_bits _) hm w) (fun w _ => by kernel_rfl) (by kernel_rfl) ?_
      refine E.G.op (.bool (Q.immediate (Q.of i.op) i.imm)) (fun w => by kernel_rfl) (by kernel_rfl) ?_
      exact E.G.end_pst ⟨by kernel_rfl, by kernel_rfl⟩ (List.Sublist.refl _) (fun _ h => h)
  refine E.G.op (.bool ((((((Q.of i.op).kn) && (Q.fits i.d ((Q.of i.op).d))) && (Q.fits i.a ((Q.of i.op).a))) && (Q.fits i.b ((Q.of i.op).b))) && (Q.immediate (Q.of i.op) i.imm))) (fun w => by kernel_rfl) (by kernel_rfl) ?_
  refine E.To.code ?_
  refine E.C.ret (E.To.body (fn := Try.f94) [.bool ((((((Q.of i.op).kn) && (Q.fits i.d ((Q.of i.op).d))) && (Q.fits i.a ((Q.of i.op).a))) && (Q.fits i.b ((Q.of i.op).b))) && (Q.immediate (Q.of i.op) i.imm))] ?_ ?_)
  · exact ⟨⟨by kernel_rfl, by kernel_rfl⟩, trivial⟩
  · intro w h
    exact ⟨rfl, h.ch.bel (fun _ h => h.elim)⟩

def Q.encode (i : Q.I) : Int × Int := (bif (!(Q.valid i)) then (0, 12) else ((bits .or .u32 (bits .or .u32 (bits .or .u32 (bits .or .u32 (IntKind.wrap .u32 ((IntKind.wrap .u32 i.op) * 2 ^ 26)) (IntKind.wrap .u32 ((IntKind.wrap .u32 i.d) * 2 ^ 22))) (IntKind.wrap .u32 ((IntKind.wrap .u32 i.a) * 2 ^ 18))) (IntKind.wrap .u32 ((IntKind.wrap .u32 i.b) * 2 ^ 14))) (bits .and .u32 i.imm (IntKind.wrap .u32 ((IntKind.wrap .u32 (1 * 2 ^ (min ((Q.of i.op).bits) 32))) - 1)))), 0))
theorem Encode_any (i : Q.I) (hm : 0 ≤ i.imm ∧ i.imm < 4294967296) (w : World) : Calls Try.prog 78 #[.agg #[.int .i64 i.op, .int .i64 i.d, .int .i64 i.a, .int .i64 i.b, .int .u32 i.imm]] w fun e w' => e = .returned (.tuple #[.int .u32 (((Q.encode i)).1), .int .i64 (((Q.encode i)).2)]) ∧ Bel w w' := by
  refine E.enter (n := 38) (S := fun _ => False) Try.func78 rfl rfl (by kernel_rfl) (E.Hp.start w) ?_
  refine E.C.seq ?_
  refine E.C.region ?_
  refine E.G.new (fun g => .pointer (some ⟨g, 0, none⟩)) [.int .i64 i.op, .int .i64 i.d, .int .i64 i.a, .int .i64 i.b, .int .u32 i.imm] 47 (fun w => by kernel_rfl) (by kernel_rfl) (fun g1 => ?_)
  refine E.G.op (.int .u32 0) (fun w => by kernel_rfl) (by kernel_rfl) ?_
  refine E.G.op (.int .i64 0) (fun w => by kernel_rfl) (by kernel_rfl) ?_
  refine E.To.code ?_
  refine E.C.seq ?_
  refine E.C.seq ?_
  refine E.C.region ?_
  refine E.G.val (.agg #[.int .i64 i.op, .int .i64 i.d, .int .i64 i.a, .int .i64 i.b, .int .u32 i.imm]) (by kernel_rfl) (fun w h => E.run_load h 0 rfl rfl (by kernel_rfl)) ?_
  refine E.G.call (.bool (Q.valid i)) (fun w h => Valid_any i hm w) (fun w _ => by kernel_rfl) (by kernel_rfl) ?_
  refine E.G.op (.bool (!(Q.valid i))) (fun w => by kernel_rfl) (by kernel_rfl) ?_
  refine E.To.code ?_
  refine E.C.cond (!(Q.valid i)) (by kernel_rfl) (by kernel_rfl) (fun hc2 => ?_) (fun hc2 => ?_)
  · skip
    refine E.C.seq ?_
    refine E.C.region ?_
    refine E.G.op (.int .u32 0) (fun w => by kernel_rfl) (by kernel_rfl) ?_
    refine E.G.op (.int .i64 12) (fun w => by kernel_rfl) (by kernel_rfl) ?_
    refine E.To.code ?_
    refine E.C.ret (E.P.rt (E.To.body (fn := Try.f78) [.int .u32 0, .int .i64 12] ?_ ?_))
    · exact ⟨⟨by kernel_rfl, by kernel_rfl⟩, ⟨by kernel_rfl, by kernel_rfl⟩, trivial⟩
    · intro w h
      exact ⟨by show Ending.returned (.tuple #[.int .u32 0, .int .i64 12]) = _; unfold Q.encode; rw [hc2, cond_true] <;> rfl, h.ch.bel (fun _ h => h.elim)⟩
  · skip
    refine E.C.skip (E.To.code ?_)
    refine E.C.seq ?_
    refine E.C.region ?_
    refine E.G.op (.pointer (some ⟨g1, 0, none⟩)) (fun w => by kernel_rfl) (by kernel_rfl) ?_
    refine E.G.val (.int .i64 i.op) (by kernel_rfl) (fun w h => E.run_load h 0 rfl rfl (by kernel_rfl)) ?_
    refine E.G.op (.int .u32 (IntKind.wrap .u32 i.op)) (fun w => by kernel_rfl) (by kernel_rfl) ?_
    refine E.G.op (.int .u32 (IntKind.wrap .u32 ((IntKind.wrap .u32 i.op) * 2 ^ 26))) (fun w => by kernel_rfl) (by kernel_rfl) ?_
    refine E.G.op (.pointer (some ⟨g1, 1, none⟩)) (fun w => by kernel_rfl) (by kernel_rfl) ?_
    refine E.G.val (.int .i64 i.d) (by kernel_rfl) (fun w h => E.run_load h 0 rfl rfl (by kernel_rfl)) ?_
    refine E.G.op (.int .u32 (IntKind.wrap .u32 i.d)) (fun w => by kernel_rfl) (by kernel_rfl) ?_
    refine E.G.op (.int .u32 (IntKind.wrap .u32 ((IntKind.wrap .u32 i.d) * 2 ^ 22))) (fun w => by kernel_rfl) (by kernel_rfl) ?_
    refine E.G.op (.int .u32 (bits .or .u32 (IntKind.wrap .u32 ((IntKind.wrap .u32 i.op) * 2 ^ 26)) (IntKind.wrap .u32 ((IntKind.wrap .u32 i.d) * 2 ^ 22)))) (fun w => by kernel_rfl) (by kernel_rfl) ?_
    refine E.G.op (.pointer (some ⟨g1, 2, none⟩)) (fun w => by kernel_rfl) (by kernel_rfl) ?_
    refine E.G.val (.int .i64 i.a) (by kernel_rfl) (fun w h => E.run_load h 0 rfl rfl (by kernel_rfl)) ?_
    refine E.G.op (.int .u32 (IntKind.wrap .u32 i.a)) (fun w => by kernel_rfl) (by kernel_rfl) ?_
    refine E.G.op (.int .u32 (IntKind.wrap .u32 ((IntKind.wrap .u32 i.a) * 2 ^ 18))) (fun w => by kernel_rfl) (by kernel_rfl) ?_
    refine E.G.op (.int .u32 (bits .or .u32 (bits .or .u32 (IntKind.wrap .u32 ((IntKind.wrap .u32 i.op) * 2 ^ 26)) (IntKind.wrap .u32 ((IntKind.wrap .u32 i.d) * 2 ^ 22))) (IntKind.wrap .u32 ((IntKind.wrap .u32 i.a) * 2 ^ 18)))) (fun w => by kernel_rfl) (by kernel_rfl) ?_
    refine E.G.op (.pointer (some ⟨g1, 3, none⟩)) (fun w => by kernel_rfl) (by kernel_rfl) ?_
    refine E.G.val (.int .i64 i.b) (by kernel_rfl) (fun w h => E.run_load h 0 rfl rfl (by kernel_rfl)) ?_
    refine E.G.op (.int .u32 (IntKind.wrap .u32 i.b)) (fun w => by kernel_rfl) (by kernel_rfl) ?_
    refine E.G.op (.int .u32 (IntKind.wrap .u32 ((IntKind.wrap .u32 i.b) * 2 ^ 14))) (fun w => by kernel_rfl) (by kernel_rfl) ?_
    refine E.G.op (.int .u32 (bits .or .u32 (bits .or .u32 (bits .or .u32 (IntKind.wrap .u32 ((IntKind.wrap .u32 i.op) * 2 ^ 26)) (IntKind.wrap .u32 ((IntKind.wrap .u32 i.d) * 2 ^ 22))) (IntKind.wrap .u32 ((IntKind.wrap .u32 i.a) * 2 ^ 18))) (IntKind.wrap .u32 ((IntKind.wrap .u32 i.b) * 2 ^ 14)))) (fun w => by kernel_rfl) (by kernel_rfl) ?_
    refine E.G.op (.int .u32 (bits .or .u32 (bits .or .u32 (bits .or .u32 (IntKind.wrap .u32 ((IntKind.wrap .u32 i.op) * 2 ^ 26)) (IntKind.wrap .u32 ((IntKind.wrap .u32 i.d) * 2 ^ 22))) (IntKind.wrap .u32 ((IntKind.wrap .u32 i.a) * 2 ^ 18))) (IntKind.wrap .u32 ((IntKind.wrap .u32 i.b) * 2 ^ 14)))) (fun w => by kernel_rfl) (by kernel_rfl) ?_
    refine E.To.code ?_
    refine E.C.weak [(1, .pointer (some ⟨g1, 0, none⟩)), (2, .int .u32 0), (3, .int .i64 0), (4, .int .u32 (bits .or .u32 (bits .or .u32 (bits .or .u32 (IntKind.wrap .u32 ((IntKind.wrap .u32 i.op) * 2 ^ 26)) (IntKind.wrap .u32 ((IntKind.wrap .u32 i.d) * 2 ^ 22))) (IntKind.wrap .u32 ((IntKind.wrap .u32 i.a) * 2 ^ 18))) (IntKind.wrap .u32 ((IntKind.wrap .u32 i.b) * 2 ^ 14))))] [(g1, [.int .i64 i.op, .int .i64 i.d, .int .i64 i.a, .int .i64 i.b, .int .u32 i.imm])] ⟨by kernel_rfl, by kernel_rfl⟩ (List.Sublist.refl _) ?_
    refine E.C.seq ?_
    refine E.C.quiet (by kernel_rfl) (by kernel_rfl) ?_
    refine E.W.op (.int .u32 (bits .or .u32 (bits .or .u32 (bits .or .u32 (IntKind.wrap .u32 ((IntKind.wrap .u32 i.op) * 2 ^ 26)) (IntKind.wrap .u32 ((IntKind.wrap .u32 i.d) * 2 ^ 22))) (IntKind.wrap .u32 ((IntKind.wrap .u32 i.a) * 2 ^ 18))) (IntKind.wrap .u32 ((IntKind.wrap .u32 i.b) * 2 ^ 14)))) (fun w => by kernel_rfl) (by kernel_rfl) ?_
    refine E.W.op (.pointer (some ⟨g1, 4, none⟩)) (fun w => by kernel_rfl) (by kernel_rfl) ?_
    refine E.W.val (.int .u32 i.imm) (by kernel_rfl) (fun w h => E.run_load h 0 rfl rfl (by kernel_rfl)) ?_
    refine E.W.op (.pointer (some ⟨g1, 0, none⟩)) (fun w => by kernel_rfl) (by kernel_rfl) ?_
    refine E.W.val (.int .i64 i.op) (by kernel_rfl) (fun w h => E.run_load h 0 rfl rfl (by kernel_rfl)) ?_
    refine E.W.call (.agg #[.bool ((Q.of i.op).kn), .bool ((Q.of i.op).d), .bool ((Q.of i.op).a), .bool ((Q.of i.op).b), .int .i64 ((Q.of i.op).kind), .int .i64 (((Q.of i.op).bits : Nat) : Int), .int .u32 ((Q.of i.op).most)]) (fun w h => of_any i.op w) (fun w _ => by kernel_rfl) (by kernel_rfl) ?_
    refine E.W.op (.int .i64 (((Q.of i.op).bits : Nat) : Int)) (fun w => by kernel_rfl) (by kernel_rfl) ?_
    refine E.W.val (.int .u32 (IntKind.wrap .u32 (1 * 2 ^ (min ((Q.of i.op).bits) 32)))) (by kernel_rfl) (fun w h => E.shlN (k2 := .i64) 1 ((Q.of i.op).bits) 32 (by rfl) (by kernel_rfl) (by kernel_rfl) w) ?_
    refine E.W.op (.int .u32 (IntKind.wrap .u32 ((IntKind.wrap .u32 (1 * 2 ^ (min ((Q.of i.op).bits) 32))) - 1))) (fun w => by kernel_rfl) (by kernel_rfl) ?_
    refine E.W.op (.int .u32 (bits .and .u32 i.imm (IntKind.wrap .u32 ((IntKind.wrap .u32 (1 * 2 ^ (min ((Q.of i.op).bits) 32))) - 1)))) (fun w => by kernel_rfl) (by kernel_rfl) ?_
    refine E.W.op (.int .u32 (bits .or .u32 (bits .or .u32 (bits .or .u32 (bits .or .u32 (IntKind.wrap .u32 ((IntKind.wrap .u32 i.op) * 2 ^ 26)) (IntKind.wrap .u32 ((IntKind.wrap .u32 i.d) * 2 ^ 22))) (IntKind.wrap .u32 ((IntKind.wrap .u32 i.a) * 2 ^ 18))) (IntKind.wrap .u32 ((IntKind.wrap .u32 i.b) * 2 ^ 14))) (bits .and .u32 i.imm (IntKind.wrap .u32 ((IntKind.wrap .u32 (1 * 2 ^ (min ((Q.of i.op).bits) 32))) - 1))))) (fun w => by kernel_rfl) (by kernel_rfl) ?_
    refine E.W.op (.int .u32 (bits .or .u32 (bits .or .u32 (bits .or .u32 (bits .or .u32 (IntKind.wrap .u32 ((IntKind.wrap .u32 i.op) * 2 ^ 26)) (IntKind.wrap .u32 ((IntKind.wrap .u32 i.d) * 2 ^ 22))) (IntKind.wrap .u32 ((IntKind.wrap .u32 i.a) * 2 ^ 18))) (IntKind.wrap .u32 ((IntKind.wrap .u32 i.b) * 2 ^ 14))) (bits .and .u32 i.imm (IntKind.wrap .u32 ((IntKind.wrap .u32 (1 * 2 ^ (min ((Q.of i.op).bits) 32))) - 1))))) (fun w => by kernel_rfl) (by kernel_rfl) ?_
    refine E.W.op (.int .i64 0) (fun w => by kernel_rfl) (by kernel_rfl) ?_
    refine E.W.done (E.To.code ?_)
    refine E.C.weak [(2, .int .u32 (bits .or .u32 (bits .or .u32 (bits .or .u32 (bits .or .u32 (IntKind.wrap .u32 ((IntKind.wrap .u32 i.op) * 2 ^ 26)) (IntKind.wrap .u32 ((IntKind.wrap .u32 i.d) * 2 ^ 22))) (IntKind.wrap .u32 ((IntKind.wrap .u32 i.a) * 2 ^ 18))) (IntKind.wrap .u32 ((IntKind.wrap .u32 i.b) * 2 ^ 14))) (bits .and .u32 i.imm (IntKind.wrap .u32 ((IntKind.wrap .u32 (1 * 2 ^ (min ((Q.of i.op).bits) 32))) - 1))))), (3, .int .i64 0)] [] ⟨by kernel_rfl, by kernel_rfl⟩ (List.nil_sublist _) ?_
    refine E.C.ret (E.To.body (fn := Try.f78) [.int .u32 (bits .or .u32 (bits .or .u32 (bits .or .u32 (bits .or .u32 (IntKind.wrap .u32 ((IntKind.wrap .u32 i.op) * 2 ^ 26)) (IntKind.wrap .u32 ((IntKind.wrap .u32 i.d) * 2 ^ 22))) (IntKind.wrap .u32 ((IntKind.wrap .u32 i.a) * 2 ^ 18))) (IntKind.wrap .u32 ((IntKind.wrap .u32 i.b) * 2 ^ 14))) (bits .and .u32 i.imm (IntKind.wrap .u32 ((IntKind.wrap .u32 (1 * 2 ^ (min ((Q.of i.op).bits) 32))) - 1)))), .int .i64 0] ?_ ?_)
    · exact ⟨⟨by kernel_rfl, by kernel_rfl⟩, ⟨by kernel_rfl, by kernel_rfl⟩, trivial⟩
    · intro w h
      exact ⟨by show Ending.returned (.tuple #[.int .u32 (bits .or .u32 (bits .or .u32 (bits .or .u32 (bits .or .u32 (IntKind.wrap .u32 ((IntKind.wrap .u32 i.op) * 2 ^ 26)) (IntKind.wrap .u32 ((IntKind.wrap .u32 i.d) * 2 ^ 22))) (IntKind.wrap .u32 ((IntKind.wrap .u32 i.a) * 2 ^ 18))) (IntKind.wrap .u32 ((IntKind.wrap .u32 i.b) * 2 ^ 14))) (bits .and .u32 i.imm (IntKind.wrap .u32 ((IntKind.wrap .u32 (1 * 2 ^ (min ((Q.of i.op).bits) 32))) - 1)))), .int .i64 0]) = _; unfold Q.encode; rw [hc2, cond_false] <;> rfl, h.ch.bel (fun _ h => h.elim)⟩
end Go.Proofs.Ytgbndbljohpnmaa

/- XQd -/
namespace Go.Proofs.Ytgbndbljohpnmaa
set_option linter.unusedVariables false
set_option linter.unusedSimpArgs false
open Go.RowKit
/-- A register field of a word. -/
def Q.field (x : Int) (u : Bool) (m : Nat) : Int := bif (!u) then 0 else (IntKind.wrap .i64 (Int.tmod (Int.fdiv x (2 ^ (min m 32))) 16))
theorem Field_rd {g : Nat} (x : Int) (u : Bool) (m : Nat) : A.Rd Try.prog 76 #[.bool u, .int .i64 ((m : Nat) : Int), .pointer (some ⟨g, 0, none⟩)] [A.blk g [.int .u32 x]] (.int .i64 (Q.field x u m)) := by
  intro w oo aa hh
  refine E.enter (n := 13) (S := fun _ => False) Try.func76 rfl rfl (by kernel_rfl) (A.startY hh) ?_
  refine E.C.seq ?_
  refine E.C.region ?_
  refine E.G.op (.int .i64 0) (fun w => by kernel_rfl) (by kernel_rfl) ?_
  refine E.To.code ?_
  refine E.C.seq ?_
  refine E.C.seq ?_
  refine E.C.region ?_
  refine E.G.op (.bool u) (fun w => by kernel_rfl) (by kernel_rfl) ?_
  refine E.G.op (.bool (!u)) (fun w => by kernel_rfl) (by kernel_rfl) ?_
  refine E.To.code ?_
  refine E.C.cond (!u) (by kernel_rfl) (by kernel_rfl) (fun hc1 => ?_) (fun hc1 => ?_)
  · skip
    refine E.C.seq ?_
    refine E.C.region ?_
    refine E.G.op (.int .i64 0) (fun w => by kernel_rfl) (by kernel_rfl) ?_
    refine E.To.code ?_
    refine E.C.ret (E.P.rt (E.To.body (fn := Try.f76) [.int .i64 0] ?_ ?_))
    · exact ⟨⟨by kernel_rfl, by kernel_rfl⟩, trivial⟩
    · intro w h
      exact ⟨by show Ending.returned (.int .i64 0) = _; unfold Q.field; rw [hc1, cond_true] <;> rfl, h.ch.bel (fun _ h => h.elim)⟩
  · skip
    refine E.C.skip (E.To.code ?_)
    refine E.C.seq ?_
    refine E.C.region ?_
    refine E.G.val (.int .u32 x) (by kernel_rfl) (fun w h => A.Y.bld h.x (k := 0) (j := 0) rfl (by kernel_rfl) (by kernel_rfl)) ?_
    refine E.G.op (.int .i64 ((m : Nat) : Int)) (fun w => by kernel_rfl) (by kernel_rfl) ?_
    refine E.G.val (.int .u32 (Int.fdiv x (2 ^ (min m 32)))) (by kernel_rfl) (fun w h => E.shrN (k2 := .i64) x m 32 (by rfl) (by kernel_rfl) (by kernel_rfl) w) ?_
    refine E.G.op (.int .u32 (Int.tmod (Int.fdiv x (2 ^ (min m 32))) 16)) (fun w => by kernel_rfl) (by kernel_rfl) ?_
    refine E.G.op (.int .i64 (IntKind.wrap .i64 (Int.tmod (Int.fdiv x (2 ^ (min m 32))) 16))) (fun w => by kernel_rfl) (by kernel_rfl) ?_
    refine E.G.op (.int .i64 (IntKind.wrap .i64 (Int.tmod (Int.fdiv x (2 ^ (min m 32))) 16))) (fun w => by kernel_rfl) (by kernel_rfl) ?_
    refine E.To.code ?_
    refine E.C.weak [(5, .int .i64 (IntKind.wrap .i64 (Int.tmod (Int.fdiv x (2 ^ (min m 32))) 16)))] [] ⟨by kernel_rfl, by kernel_rfl⟩ (List.Sublist.refl _) ?_
    refine E.C.ret (E.To.body (fn := Try.f76) [.int .i64 (IntKind.wrap .i64 (Int.tmod (Int.fdiv x (2 ^ (min m 32))) 16))] ?_ ?_)
    · exact ⟨⟨by kernel_rfl, by kernel_rfl⟩, trivial⟩
    · intro w h
      exact ⟨by show Ending.returned (.int .i64 (IntKind.wrap .i64 (Int.tmod (Int.fdiv x (2 ^ (min m 32))) 16))) = _; unfold Q.field; rw [hc1, cond_false] <;> rfl, h.ch.bel (fun _ h => h.elim)⟩
theorem Q.sign_bd {n : Int} (h : 0 ≤ n ∧ n < 4294967296) (k : Int) : 0 ≤ W.sign n k ∧ W.sign n k < 4294967296 := W.sign_bd n k h.1 h.2
def Q.dop (x : Int) : Int := IntKind.wrap .i64 (Int.fdiv x (2 ^ 26))
def Q.dimm (x : Int) : Int := bits .and .u32 x (IntKind.wrap .u32 ((IntKind.wrap .u32 (1 * 2 ^ (min ((Q.of (Q.dop x)).bits) 32))) - 1))
def Q.dsg (x : Int) : Int := W.sign (Q.dimm x) (((Q.of (Q.dop x)).bits : Nat) : Int)
def Q.c0 (x : Int) : Q.I := ⟨Q.dop x, Q.field x (Q.of (Q.dop x)).d 22, Q.field x (Q.of (Q.dop x)).a 18, Q.field x (Q.of (Q.dop x)).b 14, Q.dimm x⟩
def Q.c1 (x : Int) : Q.I := ⟨Q.dop x, Q.field x (Q.of (Q.dop x)).d 22, Q.field x (Q.of (Q.dop x)).a 18, Q.field x (Q.of (Q.dop x)).b 14, Q.dsg x⟩
theorem Q.dimm_bd (x : Int) : 0 ≤ Q.dimm x ∧ Q.dimm x < 4294967296 := W.bits_bd _ _ _
theorem Q.dsg_bd (x : Int) : 0 ≤ Q.dsg x ∧ Q.dsg x < 4294967296 := Q.sign_bd (W.bits_bd _ _ _) _
def Q.decode (x : Int) : Q.I × Int := (bif (((Q.of (Q.dop x)).kind) == 1) then (bif ((((Q.encode (Q.c1 x)).2) != 0) || (((Q.encode (Q.c1 x)).1) != x)) then (⟨0, 0, 0, 0, 0⟩, 12) else ((Q.c1 x), 0)) else (bif ((((Q.encode (Q.c0 x)).2) != 0) || (((Q.encode (Q.c0 x)).1) != x)) then (⟨0, 0, 0, 0, 0⟩, 12) else ((Q.c0 x), 0)))
theorem Decode_any (x : Int) (w : World) : Calls Try.prog 70 #[.int .u32 x] w fun e w' => e = .returned (.tuple #[.agg #[.int .i64 ((((Q.decode x)).1).op), .int .i64 ((((Q.decode x)).1).d), .int .i64 ((((Q.decode x)).1).a), .int .i64 ((((Q.decode x)).1).b), .int .u32 ((((Q.decode x)).1).imm)], .int .i64 (((Q.decode x)).2)]) ∧ Bel w w' := by
  have hb := Q.of_bits (Q.dop x)
  refine E.enter (n := 62) (S := fun _ => False) Try.func70 rfl rfl (by kernel_rfl) (E.Hp.start w) ?_
  refine E.C.seq ?_
  refine E.C.region ?_
  refine E.G.new (fun g => .pointer (some ⟨g, 0, none⟩)) [.int .u32 x] 22 (fun w => by kernel_rfl) (by kernel_rfl) (fun g1 => ?_)
  refine E.G.new (fun g => .pointer (some ⟨g, 0, none⟩)) [.int .i64 0, .int .i64 0, .int .i64 0, .int .i64 0, .int .u32 0] 47 (fun w => by kernel_rfl) (by kernel_rfl) (fun g2 => ?_)
  refine E.G.op (.int .i64 0) (fun w => by kernel_rfl) (by kernel_rfl) ?_
  refine E.To.code ?_
  refine E.C.seq ?_
  refine E.C.region ?_
  refine E.G.val (.int .u32 x) (by kernel_rfl) (fun w h => E.run_load h 1 rfl rfl (by kernel_rfl)) ?_
  refine E.G.op (.int .u32 (Int.fdiv x (2 ^ 26))) (fun w => by kernel_rfl) (by kernel_rfl) ?_
  refine E.G.op (.int .i64 (Q.dop x)) (fun w => by kernel_rfl) (by kernel_rfl) ?_
  refine E.G.val (.agg #[.int .i64 (Q.dop x), .int .i64 0, .int .i64 0, .int .i64 0, .int .u32 0]) (by kernel_rfl) (fun w h => E.run_build #[.int .i64 (Q.dop x), .int .i64 0, .int .i64 0, .int .i64 0, .int .u32 0] (by kernel_rfl) w) ?_
  refine E.G.new (fun g => .pointer (some ⟨g, 0, none⟩)) [.int .i64 0, .int .i64 0, .int .i64 0, .int .i64 0, .int .u32 0] 47 (fun w => by kernel_rfl) (by kernel_rfl) (fun g3 => ?_)
  refine E.G.store 0 [.int .i64 (Q.dop x), .int .i64 0, .int .i64 0, .int .i64 0, .int .u32 0] rfl rfl (by kernel_rfl) (by kernel_rfl) ?_
  refine E.To.code ?_
  refine E.C.seq ?_
  refine E.C.region ?_
  refine E.G.op (.pointer (some ⟨g3, 0, none⟩)) (fun w => by kernel_rfl) (by kernel_rfl) ?_
  refine E.G.val (.int .i64 (Q.dop x)) (by kernel_rfl) (fun w h => E.run_load h 0 rfl rfl (by kernel_rfl)) ?_
  refine E.G.call (.agg #[.bool ((Q.of (Q.dop x)).kn), .bool ((Q.of (Q.dop x)).d), .bool ((Q.of (Q.dop x)).a), .bool ((Q.of (Q.dop x)).b), .int .i64 ((Q.of (Q.dop x)).kind), .int .i64 (((Q.of (Q.dop x)).bits : Nat) : Int), .int .u32 ((Q.of (Q.dop x)).most)]) (fun w h => of_any (Q.dop x) w) (fun w _ => by kernel_rfl) (by kernel_rfl) ?_
  refine E.G.new (fun g => .pointer (some ⟨g, 0, none⟩)) [.bool false, .bool false, .bool false, .bool false, .int .i64 0, .int .i64 0, .int .u32 0] 142 (fun w => by kernel_rfl) (by kernel_rfl) (fun g4 => ?_)
  refine E.G.store 0 [.bool ((Q.of (Q.dop x)).kn), .bool ((Q.of (Q.dop x)).d), .bool ((Q.of (Q.dop x)).a), .bool ((Q.of (Q.dop x)).b), .int .i64 ((Q.of (Q.dop x)).kind), .int .i64 (((Q.of (Q.dop x)).bits : Nat) : Int), .int .u32 ((Q.of (Q.dop x)).most)] rfl rfl (by kernel_rfl) (by kernel_rfl) ?_
  refine E.To.code ?_
  refine E.C.weak [(1, .pointer (some ⟨g1, 0, none⟩)), (2, .pointer (some ⟨g2, 0, none⟩)), (3, .int .i64 0), (4, .pointer (some ⟨g3, 0, none⟩)), (5, .pointer (some ⟨g4, 0, none⟩))] [(g4, [.bool ((Q.of (Q.dop x)).kn), .bool ((Q.of (Q.dop x)).d), .bool ((Q.of (Q.dop x)).a), .bool ((Q.of (Q.dop x)).b), .int .i64 ((Q.of (Q.dop x)).kind), .int .i64 (((Q.of (Q.dop x)).bits : Nat) : Int), .int .u32 ((Q.of (Q.dop x)).most)]), (g3, [.int .i64 (Q.dop x), .int .i64 0, .int .i64 0, .int .i64 0, .int .u32 0]), (g2, [.int .i64 0, .int .i64 0, .int .i64 0, .int .i64 0, .int .u32 0]), (g1, [.int .u32 x])] ⟨by kernel_rfl, by kernel_rfl⟩ (List.Sublist.refl _) ?_
  refine E.C.seq ?_
  refine E.C.region ?_
  refine E.G.op (.func (.func 76) #[] #[.pointer (some ⟨g1, 0, none⟩)]) (fun w => by kernel_rfl) (by kernel_rfl) ?_
  refine E.G.op (.func (.func 76) #[] #[.pointer (some ⟨g1, 0, none⟩)]) (fun w => by kernel_rfl) (by kernel_rfl) ?_
  refine E.To.code ?_
  refine E.C.seq ?_
  refine E.C.held (E.Hp (fun _ => False) w (fun _ => True) [(g4, [.bool ((Q.of (Q.dop x)).kn), .bool ((Q.of (Q.dop x)).d), .bool ((Q.of (Q.dop x)).a), .bool ((Q.of (Q.dop x)).b), .int .i64 ((Q.of (Q.dop x)).kind), .int .i64 (((Q.of (Q.dop x)).bits : Nat) : Int), .int .u32 ((Q.of (Q.dop x)).most)]), (g2, [.int .i64 0, .int .i64 0, .int .i64 0, .int .i64 0, .int .u32 0]), (g1, [.int .u32 x])]) (by kernel_rfl) ?_
  refine E.H.take 0 (.func (.func 76) #[] #[.pointer (some ⟨g1, 0, none⟩)]) rfl (by kernel_rfl) (by kernel_rfl) (by kernel_rfl) (fun _ _ _ h => h) (fun w h => h.less (List.Sublist.cons_cons _ (List.Sublist.cons _ (List.Sublist.refl _)))) (.inl ⟨by kernel_rfl, by kernel_rfl, fun w h => by kernel_rfl⟩) (by kernel_rfl) ?_
  refine E.H.take 1 (.pointer (some ⟨g4, 1, none⟩)) rfl (by kernel_rfl) (by kernel_rfl) (by kernel_rfl) (fun _ _ _ h => h) (fun w h => h.less (List.Sublist.cons_cons _ (List.Sublist.cons _ (List.Sublist.refl _)))) (.inl ⟨by kernel_rfl, by kernel_rfl, fun w h => by kernel_rfl⟩) (by kernel_rfl) ?_
  refine E.H.take 2 (.bool ((Q.of (Q.dop x)).d)) rfl (by kernel_rfl) (by kernel_rfl) (by kernel_rfl) (fun _ _ _ h => h) (fun w h => h.less (List.Sublist.cons_cons _ (List.Sublist.cons _ (List.Sublist.refl _)))) (.inl ⟨by kernel_rfl, by kernel_rfl, fun w h => E.run_load h 0 rfl rfl (by kernel_rfl)⟩) (by kernel_rfl) ?_
  refine E.H.take 4 (.func (.func 76) #[] #[.pointer (some ⟨g1, 0, none⟩)]) rfl (by kernel_rfl) (by kernel_rfl) (by kernel_rfl) (fun _ _ _ h => h) (fun w h => h.less (List.Sublist.cons_cons _ (List.Sublist.cons _ (List.Sublist.refl _)))) (.inl ⟨by kernel_rfl, by kernel_rfl, fun w h => by kernel_rfl⟩) (by kernel_rfl) ?_
  refine E.H.take 5 (.pointer (some ⟨g4, 2, none⟩)) rfl (by kernel_rfl) (by kernel_rfl) (by kernel_rfl) (fun _ _ _ h => h) (fun w h => h.less (List.Sublist.cons_cons _ (List.Sublist.cons _ (List.Sublist.refl _)))) (.inl ⟨by kernel_rfl, by kernel_rfl, fun w h => by kernel_rfl⟩) (by kernel_rfl) ?_
  refine E.H.take 6 (.bool ((Q.of (Q.dop x)).a)) rfl (by kernel_rfl) (by kernel_rfl) (by kernel_rfl) (fun _ _ _ h => h) (fun w h => h.less (List.Sublist.cons_cons _ (List.Sublist.cons _ (List.Sublist.refl _)))) (.inl ⟨by kernel_rfl, by kernel_rfl, fun w h => E.run_load h 0 rfl rfl (by kernel_rfl)⟩) (by kernel_rfl) ?_
  refine E.H.take 8 (.func (.func 76) #[] #[.pointer (some ⟨g1, 0, none⟩)]) rfl (by kernel_rfl) (by kernel_rfl) (by kernel_rfl) (fun _ _ _ h => h) (fun w h => h.less (List.Sublist.cons_cons _ (List.Sublist.cons _ (List.Sublist.refl _)))) (.inl ⟨by kernel_rfl, by kernel_rfl, fun w h => by kernel_rfl⟩) (by kernel_rfl) ?_
  refine E.H.take 9 (.pointer (some ⟨g4, 3, none⟩)) rfl (by kernel_rfl) (by kernel_rfl) (by kernel_rfl) (fun _ _ _ h => h) (fun w h => h.less (List.Sublist.cons_cons _ (List.Sublist.cons _ (List.Sublist.refl _)))) (.inl ⟨by kernel_rfl, by kernel_rfl, fun w h => by kernel_rfl⟩) (by kernel_rfl) ?_
  refine E.H.take 10 (.bool ((Q.of (Q.dop x)).b)) rfl (by kernel_rfl) (by kernel_rfl) (by kernel_rfl) (fun _ _ _ h => h) (fun w h => h.less (List.Sublist.cons_cons _ (List.Sublist.cons _ (List.Sublist.refl _)))) (.inl ⟨by kernel_rfl, by kernel_rfl, fun w h => E.run_load h 0 rfl rfl (by kernel_rfl)⟩) (by kernel_rfl) ?_
  refine E.H.all [3] (by kernel_rfl) (by simp) (List.forall_mem_cons.2 ⟨⟨_, rfl, ?_⟩, fun _ h => (List.not_mem_nil h).elim⟩)
  · skip
    refine E.G.call (.int .i64 (Q.field x ((Q.of (Q.dop x)).d) 22)) (fun w h => Field_rd (g := g1) x ((Q.of (Q.dop x)).d) 22 w _ _ (A.of_hp h 3 rfl rfl)) (fun w _ => by kernel_rfl) (by kernel_rfl) ?_
    refine E.H.back (fun w h => h.less (List.Sublist.cons_cons _ (List.Sublist.cons _ (List.Sublist.refl _)))) ?_
    refine E.H.take 12 (.pointer (some ⟨g3, 1, none⟩)) rfl (by kernel_rfl) (by kernel_rfl) (by kernel_rfl) (fun _ _ _ h => h) (fun w h => h.less (List.Sublist.cons_cons _ (List.Sublist.cons _ (List.Sublist.refl _)))) (.inl ⟨by kernel_rfl, by kernel_rfl, fun w h => by kernel_rfl⟩) (by kernel_rfl) ?_
    refine E.H.all [7] (by kernel_rfl) (by simp) (List.forall_mem_cons.2 ⟨⟨_, rfl, ?_⟩, fun _ h => (List.not_mem_nil h).elim⟩)
    · skip
      refine E.G.call (.int .i64 (Q.field x ((Q.of (Q.dop x)).a) 18)) (fun w h => Field_rd (g := g1) x ((Q.of (Q.dop x)).a) 18 w _ _ (A.of_hp h 3 rfl rfl)) (fun w _ => by kernel_rfl) (by kernel_rfl) ?_
      refine E.H.back (fun w h => h.less (List.Sublist.cons_cons _ (List.Sublist.cons _ (List.Sublist.refl _)))) ?_
      refine E.H.all [11] (by kernel_rfl) (by simp) (List.forall_mem_cons.2 ⟨⟨_, rfl, ?_⟩, fun _ h => (List.not_mem_nil h).elim⟩)
      · skip
        refine E.G.call (.int .i64 (Q.field x ((Q.of (Q.dop x)).b) 14)) (fun w h => Field_rd (g := g1) x ((Q.of (Q.dop x)).b) 14 w _ _ (A.of_hp h 3 rfl rfl)) (fun w _ => by kernel_rfl) (by kernel_rfl) ?_
        refine E.H.back (fun w h => h.less (List.Sublist.cons_cons _ (List.Sublist.cons _ (List.Sublist.refl _)))) ?_
        refine E.H.all [13] (by kernel_rfl) (by simp) (List.forall_mem_cons.2 ⟨⟨_, rfl, ?_⟩, fun _ h => (List.not_mem_nil h).elim⟩)
        · skip
          refine E.G.store 1 [.int .i64 (Q.dop x), .int .i64 (Q.field x ((Q.of (Q.dop x)).d) 22), .int .i64 0, .int .i64 0, .int .u32 0] rfl rfl (by kernel_rfl) (by kernel_rfl) ?_
          refine E.H.back (fun w h => h.less (List.Sublist.cons_cons _ (List.Sublist.cons _ (List.Sublist.refl _)))) ?_
          refine E.H.take 14 (.pointer (some ⟨g3, 2, none⟩)) rfl (by kernel_rfl) (by kernel_rfl) (by kernel_rfl) (fun _ _ _ h => h) (fun w h => h.less (List.Sublist.cons_cons _ (List.Sublist.cons _ (List.Sublist.refl _)))) (.inl ⟨by kernel_rfl, by kernel_rfl, fun w h => by kernel_rfl⟩) (by kernel_rfl) ?_
          refine E.H.all [15] (by kernel_rfl) (by simp) (List.forall_mem_cons.2 ⟨⟨_, rfl, ?_⟩, fun _ h => (List.not_mem_nil h).elim⟩)
          · skip
            refine E.G.store 1 [.int .i64 (Q.dop x), .int .i64 (Q.field x ((Q.of (Q.dop x)).d) 22), .int .i64 (Q.field x ((Q.of (Q.dop x)).a) 18), .int .i64 0, .int .u32 0] rfl rfl (by kernel_rfl) (by kernel_rfl) ?_
            refine E.H.back (fun w h => h.less (List.Sublist.cons_cons _ (List.Sublist.cons _ (List.Sublist.refl _)))) ?_
            refine E.H.take 16 (.pointer (some ⟨g3, 3, none⟩)) rfl (by kernel_rfl) (by kernel_rfl) (by kernel_rfl) (fun _ _ _ h => h) (fun w h => h.less (List.Sublist.cons_cons _ (List.Sublist.cons _ (List.Sublist.refl _)))) (.inl ⟨by kernel_rfl, by kernel_rfl, fun w h => by kernel_rfl⟩) (by kernel_rfl) ?_
            refine E.H.all [17] (by kernel_rfl) (by simp) (List.forall_mem_cons.2 ⟨⟨_, rfl, ?_⟩, fun _ h => (List.not_mem_nil h).elim⟩)
            · skip
              refine E.G.store 1 [.int .i64 (Q.dop x), .int .i64 (Q.field x ((Q.of (Q.dop x)).d) 22), .int .i64 (Q.field x ((Q.of (Q.dop x)).a) 18), .int .i64 (Q.field x ((Q.of (Q.dop x)).b) 14), .int .u32 0] rfl rfl (by kernel_rfl) (by kernel_rfl) ?_
              refine E.H.back (fun w h => h.less (List.Sublist.cons_cons _ (List.Sublist.cons _ (List.Sublist.refl _)))) ?_
              refine E.H.done (by kernel_rfl) ?_
              refine E.To.code ?_
              refine E.C.weak [(1, .pointer (some ⟨g1, 0, none⟩)), (2, .pointer (some ⟨g2, 0, none⟩)), (3, .int .i64 0), (4, .pointer (some ⟨g3, 0, none⟩)), (5, .pointer (some ⟨g4, 0, none⟩))] [(g4, [.bool ((Q.of (Q.dop x)).kn), .bool ((Q.of (Q.dop x)).d), .bool ((Q.of (Q.dop x)).a), .bool ((Q.of (Q.dop x)).b), .int .i64 ((Q.of (Q.dop x)).kind), .int .i64 (((Q.of (Q.dop x)).bits : Nat) : Int), .int .u32 ((Q.of (Q.dop x)).most)]), (g3, [.int .i64 (Q.dop x), .int .i64 (Q.field x ((Q.of (Q.dop x)).d) 22), .int .i64 (Q.field x ((Q.of (Q.dop x)).a) 18), .int .i64 (Q.field x ((Q.of (Q.dop x)).b) 14), .int .u32 0]), (g2, [.int .i64 0, .int .i64 0, .int .i64 0, .int .i64 0, .int .u32 0]), (g1, [.int .u32 x])] ⟨by kernel_rfl, by kernel_rfl⟩ (List.Sublist.refl _) ?_
              refine E.C.seq ?_
              refine E.C.held (E.Hp (fun _ => False) w (fun _ => True) [(g4, [.bool ((Q.of (Q.dop x)).kn), .bool ((Q.of (Q.dop x)).d), .bool ((Q.of (Q.dop x)).a), .bool ((Q.of (Q.dop x)).b), .int .i64 ((Q.of (Q.dop x)).kind), .int .i64 (((Q.of (Q.dop x)).bits : Nat) : Int), .int .u32 ((Q.of (Q.dop x)).most)]), (g2, [.int .i64 0, .int .i64 0, .int .i64 0, .int .i64 0, .int .u32 0]), (g1, [.int .u32 x])]) (by kernel_rfl) ?_
              refine E.H.take 0 (.int .u32 x) rfl (by kernel_rfl) (by kernel_rfl) (by kernel_rfl) (fun _ _ _ h => h) (fun w h => h.less (List.Sublist.cons_cons _ (List.Sublist.cons _ (List.Sublist.refl _)))) (.inl ⟨by kernel_rfl, by kernel_rfl, fun w h => E.run_load h 2 rfl rfl (by kernel_rfl)⟩) (by kernel_rfl) ?_
              refine E.H.take 1 (.pointer (some ⟨g4, 5, none⟩)) rfl (by kernel_rfl) (by kernel_rfl) (by kernel_rfl) (fun _ _ _ h => h) (fun w h => h.less (List.Sublist.cons_cons _ (List.Sublist.cons _ (List.Sublist.refl _)))) (.inl ⟨by kernel_rfl, by kernel_rfl, fun w h => by kernel_rfl⟩) (by kernel_rfl) ?_
              refine E.H.take 2 (.int .i64 (((Q.of (Q.dop x)).bits : Nat) : Int)) rfl (by kernel_rfl) (by kernel_rfl) (by kernel_rfl) (fun _ _ _ h => h) (fun w h => h.less (List.Sublist.cons_cons _ (List.Sublist.cons _ (List.Sublist.refl _)))) (.inl ⟨by kernel_rfl, by kernel_rfl, fun w h => E.run_load h 0 rfl rfl (by kernel_rfl)⟩) (by kernel_rfl) ?_
              refine E.H.take 3 (.int .u32 (IntKind.wrap .u32 (1 * 2 ^ (min ((Q.of (Q.dop x)).bits) 32)))) rfl (by kernel_rfl) (by kernel_rfl) (by kernel_rfl) (fun _ _ _ h => h) (fun w h => h.less (List.Sublist.cons_cons _ (List.Sublist.cons _ (List.Sublist.refl _)))) (.inl ⟨by kernel_rfl, by kernel_rfl, fun w h => E.shlN (k2 := .i64) 1 ((Q.of (Q.dop x)).bits) 32 (by rfl) (by kernel_rfl) (by kernel_rfl) w⟩) (by kernel_rfl) ?_
              refine E.H.take 4 (.int .u32 (IntKind.wrap .u32 ((IntKind.wrap .u32 (1 * 2 ^ (min ((Q.of (Q.dop x)).bits) 32))) - 1))) rfl (by kernel_rfl) (by kernel_rfl) (by kernel_rfl) (fun _ _ _ h => h) (fun w h => h.less (List.Sublist.cons_cons _ (List.Sublist.cons _ (List.Sublist.refl _)))) (.inl ⟨by kernel_rfl, by kernel_rfl, fun w h => by kernel_rfl⟩) (by kernel_rfl) ?_
              refine E.H.take 5 (.int .u32 (Q.dimm x)) rfl (by kernel_rfl) (by kernel_rfl) (by kernel_rfl) (fun _ _ _ h => h) (fun w h => h.less (List.Sublist.cons_cons _ (List.Sublist.cons _ (List.Sublist.refl _)))) (.inl ⟨by kernel_rfl, by kernel_rfl, fun w h => by kernel_rfl⟩) (by kernel_rfl) ?_
              refine E.H.take 6 (.pointer (some ⟨g3, 4, none⟩)) rfl (by kernel_rfl) (by kernel_rfl) (by kernel_rfl) (fun _ _ _ h => h) (fun w h => h.less (List.Sublist.cons_cons _ (List.Sublist.cons _ (List.Sublist.refl _)))) (.inl ⟨by kernel_rfl, by kernel_rfl, fun w h => by kernel_rfl⟩) (by kernel_rfl) ?_
              refine E.H.all [7] (by kernel_rfl) (by simp) (List.forall_mem_cons.2 ⟨⟨_, rfl, ?_⟩, fun _ h => (List.not_mem_nil h).elim⟩)
              · skip
                refine E.G.store 1 [.int .i64 (Q.dop x), .int .i64 (Q.field x ((Q.of (Q.dop x)).d) 22), .int .i64 (Q.field x ((Q.of (Q.dop x)).a) 18), .int .i64 (Q.field x ((Q.of (Q.dop x)).b) 14), .int .u32 (Q.dimm x)] rfl rfl (by kernel_rfl) (by kernel_rfl) ?_
                refine E.H.back (fun w h => h.less (List.Sublist.cons_cons _ (List.Sublist.cons _ (List.Sublist.refl _)))) ?_
                refine E.H.done (by kernel_rfl) ?_
                refine E.To.code ?_
                refine E.C.seq ?_
                refine E.C.seq ?_
                refine E.C.region ?_
                refine E.G.op (.pointer (some ⟨g4, 4, none⟩)) (fun w => by kernel_rfl) (by kernel_rfl) ?_
                refine E.G.val (.int .i64 ((Q.of (Q.dop x)).kind)) (by kernel_rfl) (fun w h => E.run_load h 0 rfl rfl (by kernel_rfl)) ?_
                refine E.G.op (.bool (((Q.of (Q.dop x)).kind) == 1)) (fun w => by kernel_rfl) (by kernel_rfl) ?_
                refine E.To.code ?_
                refine E.C.weak [(1, .pointer (some ⟨g1, 0, none⟩)), (2, .pointer (some ⟨g2, 0, none⟩)), (3, .int .i64 0), (4, .pointer (some ⟨g3, 0, none⟩)), (5, .pointer (some ⟨g4, 0, none⟩)), (41, .bool (((Q.of (Q.dop x)).kind) == 1))] [(g4, [.bool ((Q.of (Q.dop x)).kn), .bool ((Q.of (Q.dop x)).d), .bool ((Q.of (Q.dop x)).a), .bool ((Q.of (Q.dop x)).b), .int .i64 ((Q.of (Q.dop x)).kind), .int .i64 (((Q.of (Q.dop x)).bits : Nat) : Int), .int .u32 ((Q.of (Q.dop x)).most)]), (g3, [.int .i64 (Q.dop x), .int .i64 (Q.field x ((Q.of (Q.dop x)).d) 22), .int .i64 (Q.field x ((Q.of (Q.dop x)).a) 18), .int .i64 (Q.field x ((Q.of (Q.dop x)).b) 14), .int .u32 (Q.dimm x)]), (g2, [.int .i64 0, .int .i64 0, .int .i64 0, .int .i64 0, .int .u32 0]), (g1, [.int .u32 x])] ⟨by kernel_rfl, by kernel_rfl⟩ (List.Sublist.refl _) ?_
                refine E.C.cond (((Q.of (Q.dop x)).kind) == 1) (by kernel_rfl) (by kernel_rfl) (fun hc5 => ?_) (fun hc5 => ?_)
                · skip
                  refine E.C.region ?_
                  refine E.G.op (.pointer (some ⟨g3, 4, none⟩)) (fun w => by kernel_rfl) (by kernel_rfl) ?_
                  refine E.G.val (.int .u32 (Q.dimm x)) (by kernel_rfl) (fun w h => E.run_load h 1 rfl rfl (by kernel_rfl)) ?_
                  refine E.G.op (.pointer (some ⟨g4, 5, none⟩)) (fun w => by kernel_rfl) (by kernel_rfl) ?_
                  refine E.G.val (.int .i64 (((Q.of (Q.dop x)).bits : Nat) : Int)) (by kernel_rfl) (fun w h => E.run_load h 0 rfl rfl (by kernel_rfl)) ?_
                  refine E.G.call (.int .u32 (Q.dsg x)) (fun w h => Sign_any (Q.dimm x) (((Q.of (Q.dop x)).bits : Nat) : Int) (W.bits_bd _ _ _).1 (W.bits_bd _ _ _).2 (by omega) (by omega) w) (fun w _ => by kernel_rfl) (by kernel_rfl) ?_
                  refine E.G.op (.pointer (some ⟨g3, 4, none⟩)) (fun w => by kernel_rfl) (by kernel_rfl) ?_
                  refine E.G.store 1 [.int .i64 (Q.dop x), .int .i64 (Q.field x ((Q.of (Q.dop x)).d) 22), .int .i64 (Q.field x ((Q.of (Q.dop x)).a) 18), .int .i64 (Q.field x ((Q.of (Q.dop x)).b) 14), .int .u32 (Q.dsg x)] rfl rfl (by kernel_rfl) (by kernel_rfl) ?_
                  refine E.To.code ?_
                  refine E.C.weak [(1, .pointer (some ⟨g1, 0, none⟩)), (2, .pointer (some ⟨g2, 0, none⟩)), (3, .int .i64 0), (4, .pointer (some ⟨g3, 0, none⟩))] [(g3, [.int .i64 (Q.dop x), .int .i64 (Q.field x ((Q.of (Q.dop x)).d) 22), .int .i64 (Q.field x ((Q.of (Q.dop x)).a) 18), .int .i64 (Q.field x ((Q.of (Q.dop x)).b) 14), .int .u32 (Q.dsg x)]), (g2, [.int .i64 0, .int .i64 0, .int .i64 0, .int .i64 0, .int .u32 0]), (g1, [.int .u32 x])] ⟨by kernel_rfl, by kernel_rfl⟩ (List.Sublist.cons _ (List.Sublist.refl _)) ?_
                  refine E.C.seq ?_
                  refine E.C.seq ?_
                  refine E.C.region ?_
                  refine E.G.val (.agg #[.int .i64 (Q.dop x), .int .i64 (Q.field x ((Q.of (Q.dop x)).d) 22), .int .i64 (Q.field x ((Q.of (Q.dop x)).a) 18), .int .i64 (Q.field x ((Q.of (Q.dop x)).b) 14), .int .u32 (Q.dsg x)]) (by kernel_rfl) (fun w h => E.run_load h 0 rfl rfl (by kernel_rfl)) ?_
                  refine E.G.call (.tuple #[.int .u32 ((Q.encode (Q.c1 x)).1), .int .i64 ((Q.encode (Q.c1 x)).2)]) (fun w h => Encode_any (Q.c1 x) (Q.dsg_bd x) w) (fun w _ => by kernel_rfl) (by kernel_rfl) ?_
                  refine E.G.op (.tuple #[.int .u32 ((Q.encode (Q.c1 x)).1), .int .i64 ((Q.encode (Q.c1 x)).2)]) (fun w => by kernel_rfl) (by kernel_rfl) ?_
                  refine E.G.op (.int .u32 ((Q.encode (Q.c1 x)).1)) (fun w => by kernel_rfl) (by kernel_rfl) ?_
                  refine E.G.op (.int .i64 ((Q.encode (Q.c1 x)).2)) (fun w => by kernel_rfl) (by kernel_rfl) ?_
                  refine E.G.op (.int .u32 ((Q.encode (Q.c1 x)).1)) (fun w => by kernel_rfl) (by kernel_rfl) ?_
                  refine E.G.op (.int .i64 ((Q.encode (Q.c1 x)).2)) (fun w => by kernel_rfl) (by kernel_rfl) ?_
                  refine E.To.code ?_
                  refine E.C.seq ?_
                  refine E.C.region ?_
                  refine E.G.op (.int .i64 ((Q.encode (Q.c1 x)).2)) (fun w => by kernel_rfl) (by kernel_rfl) ?_
                  refine E.G.op (.bool (((Q.encode (Q.c1 x)).2) != 0)) (fun w => by kernel_rfl) (by kernel_rfl) ?_
                  refine E.G.op (.bool (((Q.encode (Q.c1 x)).2) != 0)) (fun w => by kernel_rfl) (by kernel_rfl) ?_
                  refine E.G.cut 4 [(2, .pointer (some ⟨g2, 0, none⟩)), (3, .int .i64 0), (4, .pointer (some ⟨g3, 0, none⟩)), (59, .bool ((((Q.encode (Q.c1 x)).2) != 0) || (((Q.encode (Q.c1 x)).1) != x)))] (fun _ => True) [(g3, [.int .i64 (Q.dop x), .int .i64 (Q.field x ((Q.of (Q.dop x)).d) 22), .int .i64 (Q.field x ((Q.of (Q.dop x)).a) 18), .int .i64 (Q.field x ((Q.of (Q.dop x)).b) 14), .int .u32 (Q.dsg x)]), (g2, [.int .i64 0, .int .i64 0, .int .i64 0, .int .i64 0, .int .u32 0]), (g1, [.int .u32 x])] ?_ ?_
                  · generalize hc6 : (((Q.encode (Q.c1 x)).2) != 0) = b7
                    cases b7
                    · skip
                      refine E.G.op (.int .u32 ((Q.encode (Q.c1 x)).1)) (fun w => by kernel_rfl) (by kernel_rfl) ?_
                      refine E.G.val (.int .u32 x) (by kernel_rfl) (fun w h => E.run_load h 2 rfl rfl (by kernel_rfl)) ?_
                      refine E.G.op (.bool (((Q.encode (Q.c1 x)).1) != x)) (fun w => by kernel_rfl) (by kernel_rfl) ?_
                      refine E.G.op (.bool (((Q.encode (Q.c1 x)).1) != x)) (fun w => by kernel_rfl) (by kernel_rfl) ?_
                      exact E.G.end_pst ⟨by kernel_rfl, by kernel_rfl⟩ (List.Sublist.refl _) (fun _ h => h)
                    · skip
                      refine E.G.skip (by kernel_rfl) (by kernel_rfl) ?_
                      refine E.G.skip (by kernel_rfl) (by kernel_rfl) ?_
                      refine E.G.skip (by kernel_rfl) (by kernel_rfl) ?_
                      refine E.G.op (.bool true) (fun w => by kernel_rfl) (by kernel_rfl) ?_
                      exact E.G.end_pst ⟨by kernel_rfl, by kernel_rfl⟩ (List.Sublist.refl _) (fun _ h => h)
                  refine E.To.code ?_
                  refine E.C.cond ((((Q.encode (Q.c1 x)).2) != 0) || (((Q.encode (Q.c1 x)).1) != x)) (by kernel_rfl) (by kernel_rfl) (fun hc8 => ?_) (fun hc8 => ?_)
                  · skip
                    refine E.C.seq ?_
                    refine E.C.region ?_
                    refine E.G.val (.agg #[.int .i64 0, .int .i64 0, .int .i64 0, .int .i64 0, .int .u32 0]) (by kernel_rfl) (fun w h => E.run_build #[.int .i64 0, .int .i64 0, .int .i64 0, .int .i64 0, .int .u32 0] (by kernel_rfl) w) ?_
                    refine E.G.store 1 [.int .i64 0, .int .i64 0, .int .i64 0, .int .i64 0, .int .u32 0] rfl rfl (by kernel_rfl) (by kernel_rfl) ?_
                    refine E.G.op (.int .i64 12) (fun w => by kernel_rfl) (by kernel_rfl) ?_
                    refine E.To.code ?_
                    refine E.C.ret (E.P.rt (E.To.body (fn := Try.f70) [.agg #[.int .i64 0, .int .i64 0, .int .i64 0, .int .i64 0, .int .u32 0], .int .i64 12] ?_ ?_))
                    · exact ⟨⟨by kernel_rfl, _, _, 1, _, rfl, rfl, by kernel_rfl⟩, ⟨by kernel_rfl, by kernel_rfl⟩, trivial⟩
                    · intro w h
                      exact ⟨by show Ending.returned (.tuple #[.agg #[.int .i64 0, .int .i64 0, .int .i64 0, .int .i64 0, .int .u32 0], .int .i64 12]) = _; unfold Q.decode; rw [hc5, cond_true, hc8, cond_true] <;> rfl, h.ch.bel (fun _ h => h.elim)⟩
                  · skip
                    refine E.C.skip (E.To.code ?_)
                    refine E.C.seq ?_
                    refine E.C.region ?_
                    refine E.G.val (.agg #[.int .i64 (Q.dop x), .int .i64 (Q.field x ((Q.of (Q.dop x)).d) 22), .int .i64 (Q.field x ((Q.of (Q.dop x)).a) 18), .int .i64 (Q.field x ((Q.of (Q.dop x)).b) 14), .int .u32 (Q.dsg x)]) (by kernel_rfl) (fun w h => E.run_load h 0 rfl rfl (by kernel_rfl)) ?_
                    refine E.G.store 1 [.int .i64 (Q.dop x), .int .i64 (Q.field x ((Q.of (Q.dop x)).d) 22), .int .i64 (Q.field x ((Q.of (Q.dop x)).a) 18), .int .i64 (Q.field x ((Q.of (Q.dop x)).b) 14), .int .u32 (Q.dsg x)] rfl rfl (by kernel_rfl) (by kernel_rfl) ?_
                    refine E.G.op (.int .i64 0) (fun w => by kernel_rfl) (by kernel_rfl) ?_
                    refine E.To.code ?_
                    refine E.C.ret (E.To.body (fn := Try.f70) [.agg #[.int .i64 (Q.dop x), .int .i64 (Q.field x ((Q.of (Q.dop x)).d) 22), .int .i64 (Q.field x ((Q.of (Q.dop x)).a) 18), .int .i64 (Q.field x ((Q.of (Q.dop x)).b) 14), .int .u32 (Q.dsg x)], .int .i64 0] ?_ ?_)
                    · exact ⟨⟨by kernel_rfl, _, _, 1, _, rfl, rfl, by kernel_rfl⟩, ⟨by kernel_rfl, by kernel_rfl⟩, trivial⟩
                    · intro w h
                      exact ⟨by show Ending.returned (.tuple #[.agg #[.int .i64 (Q.dop x), .int .i64 (Q.field x ((Q.of (Q.dop x)).d) 22), .int .i64 (Q.field x ((Q.of (Q.dop x)).a) 18), .int .i64 (Q.field x ((Q.of (Q.dop x)).b) 14), .int .u32 (Q.dsg x)], .int .i64 0]) = _; unfold Q.decode; rw [hc5, cond_true, hc8, cond_false] <;> rfl, h.ch.bel (fun _ h => h.elim)⟩
                · skip
                  refine E.C.skip (E.To.code ?_)
                  refine E.C.seq ?_
                  refine E.C.seq ?_
                  refine E.C.region ?_
                  refine E.G.val (.agg #[.int .i64 (Q.dop x), .int .i64 (Q.field x ((Q.of (Q.dop x)).d) 22), .int .i64 (Q.field x ((Q.of (Q.dop x)).a) 18), .int .i64 (Q.field x ((Q.of (Q.dop x)).b) 14), .int .u32 (Q.dimm x)]) (by kernel_rfl) (fun w h => E.run_load h 1 rfl rfl (by kernel_rfl)) ?_
                  refine E.G.call (.tuple #[.int .u32 ((Q.encode (Q.c0 x)).1), .int .i64 ((Q.encode (Q.c0 x)).2)]) (fun w h => Encode_any (Q.c0 x) (Q.dimm_bd x) w) (fun w _ => by kernel_rfl) (by kernel_rfl) ?_
                  refine E.G.op (.tuple #[.int .u32 ((Q.encode (Q.c0 x)).1), .int .i64 ((Q.encode (Q.c0 x)).2)]) (fun w => by kernel_rfl) (by kernel_rfl) ?_
                  refine E.G.op (.int .u32 ((Q.encode (Q.c0 x)).1)) (fun w => by kernel_rfl) (by kernel_rfl) ?_
                  refine E.G.op (.int .i64 ((Q.encode (Q.c0 x)).2)) (fun w => by kernel_rfl) (by kernel_rfl) ?_
                  refine E.G.op (.int .u32 ((Q.encode (Q.c0 x)).1)) (fun w => by kernel_rfl) (by kernel_rfl) ?_
                  refine E.G.op (.int .i64 ((Q.encode (Q.c0 x)).2)) (fun w => by kernel_rfl) (by kernel_rfl) ?_
                  refine E.To.code ?_
                  refine E.C.seq ?_
                  refine E.C.region ?_
                  refine E.G.op (.int .i64 ((Q.encode (Q.c0 x)).2)) (fun w => by kernel_rfl) (by kernel_rfl) ?_
                  refine E.G.op (.bool (((Q.encode (Q.c0 x)).2) != 0)) (fun w => by kernel_rfl) (by kernel_rfl) ?_
                  refine E.G.op (.bool (((Q.encode (Q.c0 x)).2) != 0)) (fun w => by kernel_rfl) (by kernel_rfl) ?_
                  refine E.G.cut 4 [(2, .pointer (some ⟨g2, 0, none⟩)), (3, .int .i64 0), (4, .pointer (some ⟨g3, 0, none⟩)), (59, .bool ((((Q.encode (Q.c0 x)).2) != 0) || (((Q.encode (Q.c0 x)).1) != x)))] (fun _ => True) [(g4, [.bool ((Q.of (Q.dop x)).kn), .bool ((Q.of (Q.dop x)).d), .bool ((Q.of (Q.dop x)).a), .bool ((Q.of (Q.dop x)).b), .int .i64 ((Q.of (Q.dop x)).kind), .int .i64 (((Q.of (Q.dop x)).bits : Nat) : Int), .int .u32 ((Q.of (Q.dop x)).most)]), (g3, [.int .i64 (Q.dop x), .int .i64 (Q.field x ((Q.of (Q.dop x)).d) 22), .int .i64 (Q.field x ((Q.of (Q.dop x)).a) 18), .int .i64 (Q.field x ((Q.of (Q.dop x)).b) 14), .int .u32 (Q.dimm x)]), (g2, [.int .i64 0, .int .i64 0, .int .i64 0, .int .i64 0, .int .u32 0]), (g1, [.int .u32 x])] ?_ ?_
                  · generalize hc9 : (((Q.encode (Q.c0 x)).2) != 0) = b10
                    cases b10
                    · skip
                      refine E.G.op (.int .u32 ((Q.encode (Q.c0 x)).1)) (fun w => by kernel_rfl) (by kernel_rfl) ?_
                      refine E.G.val (.int .u32 x) (by kernel_rfl) (fun w h => E.run_load h 3 rfl rfl (by kernel_rfl)) ?_
                      refine E.G.op (.bool (((Q.encode (Q.c0 x)).1) != x)) (fun w => by kernel_rfl) (by kernel_rfl) ?_
                      refine E.G.op (.bool (((Q.encode (Q.c0 x)).1) != x)) (fun w => by kernel_rfl) (by kernel_rfl) ?_
                      exact E.G.end_pst ⟨by kernel_rfl, by kernel_rfl⟩ (List.Sublist.refl _) (fun _ h => h)
                    · skip
                      refine E.G.skip (by kernel_rfl) (by kernel_rfl) ?_
                      refine E.G.skip (by kernel_rfl) (by kernel_rfl) ?_
                      refine E.G.skip (by kernel_rfl) (by kernel_rfl) ?_
                      refine E.G.op (.bool true) (fun w => by kernel_rfl) (by kernel_rfl) ?_
                      exact E.G.end_pst ⟨by kernel_rfl, by kernel_rfl⟩ (List.Sublist.refl _) (fun _ h => h)
                  refine E.To.code ?_
                  refine E.C.cond ((((Q.encode (Q.c0 x)).2) != 0) || (((Q.encode (Q.c0 x)).1) != x)) (by kernel_rfl) (by kernel_rfl) (fun hc11 => ?_) (fun hc11 => ?_)
                  · skip
                    refine E.C.seq ?_
                    refine E.C.region ?_
                    refine E.G.val (.agg #[.int .i64 0, .int .i64 0, .int .i64 0, .int .i64 0, .int .u32 0]) (by kernel_rfl) (fun w h => E.run_build #[.int .i64 0, .int .i64 0, .int .i64 0, .int .i64 0, .int .u32 0] (by kernel_rfl) w) ?_
                    refine E.G.store 2 [.int .i64 0, .int .i64 0, .int .i64 0, .int .i64 0, .int .u32 0] rfl rfl (by kernel_rfl) (by kernel_rfl) ?_
                    refine E.G.op (.int .i64 12) (fun w => by kernel_rfl) (by kernel_rfl) ?_
                    refine E.To.code ?_
                    refine E.C.ret (E.P.rt (E.To.body (fn := Try.f70) [.agg #[.int .i64 0, .int .i64 0, .int .i64 0, .int .i64 0, .int .u32 0], .int .i64 12] ?_ ?_))
                    · exact ⟨⟨by kernel_rfl, _, _, 2, _, rfl, rfl, by kernel_rfl⟩, ⟨by kernel_rfl, by kernel_rfl⟩, trivial⟩
                    · intro w h
                      exact ⟨by show Ending.returned (.tuple #[.agg #[.int .i64 0, .int .i64 0, .int .i64 0, .int .i64 0, .int .u32 0], .int .i64 12]) = _; unfold Q.decode; rw [hc5, cond_false, hc11, cond_true] <;> rfl, h.ch.bel (fun _ h => h.elim)⟩
                  · skip
                    refine E.C.skip (E.To.code ?_)
                    refine E.C.seq ?_
                    refine E.C.region ?_
                    refine E.G.val (.agg #[.int .i64 (Q.dop x), .int .i64 (Q.field x ((Q.of (Q.dop x)).d) 22), .int .i64 (Q.field x ((Q.of (Q.dop x)).a) 18), .int .i64 (Q.field x ((Q.of (Q.dop x)).b) 14), .int .u32 (Q.dimm x)]) (by kernel_rfl) (fun w h => E.run_load h 1 rfl rfl (by kernel_rfl)) ?_
                    refine E.G.store 2 [.int .i64 (Q.dop x), .int .i64 (Q.field x ((Q.of (Q.dop x)).d) 22), .int .i64 (Q.field x ((Q.of (Q.dop x)).a) 18), .int .i64 (Q.field x ((Q.of (Q.dop x)).b) 14), .int .u32 (Q.dimm x)] rfl rfl (by kernel_rfl) (by kernel_rfl) ?_
                    refine E.G.op (.int .i64 0) (fun w => by kernel_rfl) (by kernel_rfl) ?_
                    refine E.To.code ?_
                    refine E.C.weak [(2, .pointer (some ⟨g2, 0, none⟩)), (3, .int .i64 0)] [(g2, [.int .i64 (Q.dop x), .int .i64 (Q.field x ((Q.of (Q.dop x)).d) 22), .int .i64 (Q.field x ((Q.of (Q.dop x)).a) 18), .int .i64 (Q.field x ((Q.of (Q.dop x)).b) 14), .int .u32 (Q.dimm x)])] ⟨by kernel_rfl, by kernel_rfl⟩ (List.Sublist.cons _ (List.Sublist.cons _ (List.Sublist.cons_cons _ (List.nil_sublist _)))) ?_
                    refine E.C.ret (E.To.body (fn := Try.f70) [.agg #[.int .i64 (Q.dop x), .int .i64 (Q.field x ((Q.of (Q.dop x)).d) 22), .int .i64 (Q.field x ((Q.of (Q.dop x)).a) 18), .int .i64 (Q.field x ((Q.of (Q.dop x)).b) 14), .int .u32 (Q.dimm x)], .int .i64 0] ?_ ?_)
                    · exact ⟨⟨by kernel_rfl, _, _, 0, _, rfl, rfl, by kernel_rfl⟩, ⟨by kernel_rfl, by kernel_rfl⟩, trivial⟩
                    · intro w h
                      exact ⟨by show Ending.returned (.tuple #[.agg #[.int .i64 (Q.dop x), .int .i64 (Q.field x ((Q.of (Q.dop x)).d) 22), .int .i64 (Q.field x ((Q.of (Q.dop x)).a) 18), .int .i64 (Q.field x ((Q.of (Q.dop x)).b) 14), .int .u32 (Q.dimm x)], .int .i64 0]) = _; unfold Q.decode; rw [hc5, cond_false, hc11, cond_false] <;> rfl, h.ch.bel (fun _ h => h.elim)⟩
end Go.Proofs.Ytgbndbljohpnmaa

/- XWh -/
namespace Go.Proofs.Ytgbndbljohpnmaa
set_option linter.unusedVariables false
set_option linter.unusedSimpArgs false
open Go.RowKit

theorem byt_extract (s : ByteArray) (m j : Nat) (hj : j < m) : W.byt (s.extract 0 m).data.toList j = W.byt s.data.toList j := by
  unfold W.byt
  have : (s.extract 0 m).data.toList = s.data.toList.take m := by simp [ByteArray.data_extract]
  rw [this]
  simp [List.getD, hj]

theorem bel_bytes (w : World) (e : TypeId) (s : ByteArray) : Bel w (Lib.bytesWorld w e s) :=
  ⟨rfl, rfl, rfl, by rw [Lib.bytesWorld_size]; omega, fun k hk => Lib.bytesWorld_at_old w e s k hk⟩

theorem Get_any (s : ByteArray) (hs : s.size ≤ maxLen) (w : World) :
    Calls Try.prog 71 #[.string s] w fun e w' => e = .returned (.int .u32 (W.get s.data.toList)) ∧ Bel w w' := by
  unfold maxLen at hs
  have hcv : ∀ s' : ByteArray, (convert 9 97 (.string s')).run Try.prog w = .ok (.slice (some ⟨w.heap.size, 0, none⟩) s'.size (grownCap w s'.size 0 5)) (Lib.bytesWorld w 5 s') :=
    fun s' => Lib.run_convert_string_bytes w 9 97 5 s' Try.underlying9 Try.underlying97 Try.underlying5
  have hcell : ∀ (s' : ByteArray) (j : Nat), j < s'.size → (Lib.bytesWorld w 5 s').cell? ⟨w.heap.size, j, none⟩ = some (.int .u8 (W.byt s'.data.toList j)) := fun s' j hj => Lib.bytesWorld_cell w 5 s' j hj
  have hbd := W.byt_bd
  by_cases h4 : s.size ≤ 4
  · have hB : Bel w (Lib.bytesWorld w 5 s) := bel_bytes w _ s
    go_enter Try.func71, Try.ntmps71
    go_wp2
    go_loop [3, 4, 5, 13] (fun n _ _ i => ∃ k : Nat, k ≤ s.size ∧ i = .int .i64 k ∧ n = .int .u32 (W.getK s.data.toList k)) (fun _ _ _ i => s.size - (intOf i).toNat)
    case atStart => exact ⟨0, by omega, rfl, rfl⟩
    case round =>
      obtain ⟨k, hk, rfl, rfl⟩ := hrel
      have hb1 := hbd s.data.toList k
      clear hbd
      by_cases c1 : k < s.size
      · have HK := hid (W.getK_or s.data.toList k (by omega))
        go_wp2
        go_round
        case rel => exact ⟨k + 1, by omega, by go_num, by rw [← HK.out]⟩
        case measure => simp [intOf]; omega
      · have HK := hid (W.getK_eq s.data.toList k (by omega) (Or.inr (by simp; omega)))
        go_wp2
        go_ret
        exact ⟨ret_int (by rw [HK.out]), hB⟩
  · have hB : Bel w (Lib.bytesWorld w 5 (s.extract 0 4)) := bel_bytes w _ _
    have hmin : min 4 s.size = 4 := by omega
    have hcell4 : ∀ j : Nat, j < 4 → (Lib.bytesWorld w 5 (s.extract 0 4)).cell? ⟨w.heap.size, j, none⟩ = some (.int .u8 (W.byt s.data.toList j)) := fun j hj => by
      rw [hcell _ j (by simp; omega), byt_extract s 4 j hj]
    clear hcell
    go_enter Try.func71, Try.ntmps71
    go_wp2
    go_loop [3, 4, 5, 13] (fun n _ _ i => ∃ k : Nat, k ≤ 4 ∧ i = .int .i64 k ∧ n = .int .u32 (W.getK s.data.toList k)) (fun _ _ _ i => 4 - (intOf i).toNat)
    case atStart => exact ⟨0, by omega, rfl, rfl⟩
    case round =>
      obtain ⟨k, hk, rfl, rfl⟩ := hrel
      have hb1 := hbd s.data.toList k
      clear hbd
      by_cases c1 : k < 4
      · have HK := hid (W.getK_or s.data.toList k (by omega))
        go_wp2
        go_round
        case rel => exact ⟨k + 1, by omega, by go_num, by rw [← HK.out]⟩
        case measure => simp [intOf]; omega
      · have HK := hid (W.getK_eq s.data.toList k (by omega) (Or.inl (by omega)))
        go_wp2
        go_ret
        exact ⟨ret_int (by rw [HK.out]), hB⟩
end Go.Proofs.Ytgbndbljohpnmaa

/- XWj -/
namespace Go.Proofs.Ytgbndbljohpnmaa
set_option linter.unusedVariables false
set_option linter.unusedSimpArgs false
open Go.RowKit
def opsEnt : Array MapEntry := #[⟨.int .i64 3, .func (.func 79) #[] #[], 0⟩, ⟨.int .i64 4, .func (.func 80) #[] #[], 1⟩, ⟨.int .i64 5, .func (.func 81) #[] #[], 2⟩, ⟨.int .i64 6, .func (.func 82) #[] #[], 3⟩, ⟨.int .i64 7, .func (.func 83) #[] #[], 4⟩, ⟨.int .i64 8, .func (.func 84) #[] #[], 5⟩, ⟨.int .i64 9, .func (.func 85) #[] #[], 6⟩, ⟨.int .i64 10, .func (.func 86) #[] #[], 7⟩, ⟨.int .i64 11, .func (.func 87) #[] #[], 8⟩, ⟨.int .i64 12, .func (.func 88) #[] #[], 9⟩, ⟨.int .i64 13, .func (.func 89) #[] #[], 10⟩, ⟨.int .i64 14, .func (.func 91) #[] #[], 11⟩, ⟨.int .i64 15, .func (.func 92) #[] #[], 12⟩]
theorem ops_any (w : World) : Calls Try.prog 72 #[] w fun e w' => e = .returned (.map (some w.heap.size)) ∧ w'.heap[w.heap.size]? = some (.map opsEnt 13) ∧ Bel w w' := by
  have hmm := @run_makeMap Try.prog
  have hu : ∀ (es : Array MapEntry) (clock : Nat) (a : Int) (v : Value), Instr.findNow (.int .i64) (.int .i64 a) es.toList 0 = some none →
    (Instr.mapUpdate 133 (.map (some w.heap.size)) (.int .i64 a) v).run Try.prog (w.alloc (.map es clock)) = .ok () (w.alloc (.map (es.push ⟨.int .i64 a, v, clock⟩) (clock + 1))) :=
    fun es clock a v h => run_mapUpdate_new w 133 3 131 .i64 es clock a v Try.underlying133 Try.underlying3 h
  have h0 : (Instr.mapUpdate 133 (.map (some w.heap.size)) (.int .i64 3) (.func (.func 79) #[] #[])).run Try.prog (w.alloc (.map #[] 0)) = .ok () (w.alloc (.map #[⟨.int .i64 3, .func (.func 79) #[] #[], 0⟩] 1)) := hu _ 0 3 _ (by rfl)
  have h1 : (Instr.mapUpdate 133 (.map (some w.heap.size)) (.int .i64 4) (.func (.func 80) #[] #[])).run Try.prog (w.alloc (.map #[⟨.int .i64 3, .func (.func 79) #[] #[], 0⟩] 1)) = .ok () (w.alloc (.map #[⟨.int .i64 3, .func (.func 79) #[] #[], 0⟩, ⟨.int .i64 4, .func (.func 80) #[] #[], 1⟩] 2)) := hu _ 1 4 _ (by rfl)
  have h2 : (Instr.mapUpdate 133 (.map (some w.heap.size)) (.int .i64 5) (.func (.func 81) #[] #[])).run Try.prog (w.alloc (.map #[⟨.int .i64 3, .func (.func 79) #[] #[], 0⟩, ⟨.int .i64 4, .func (.func 80) #[] #[], 1⟩] 2)) = .ok () (w.alloc (.map #[⟨.int .i64 3, .func (.func 79) #[] #[], 0⟩, ⟨.int .i64 4, .func (.func 80) #[] #[], 1⟩, ⟨.int .i64 5, .func (.func 81) #[] #[], 2⟩] 3)) := hu _ 2 5 _ (by rfl)
  have h3 : (Instr.mapUpdate 133 (.map (some w.heap.size)) (.int .i64 6) (.func (.func 82) #[] #[])).run Try.prog (w.alloc (.map #[⟨.int .i64 3, .func (.func 79) #[] #[], 0⟩, ⟨.int .i64 4, .func (.func 80) #[] #[], 1⟩, ⟨.int .i64 5, .func (.func 81) #[] #[], 2⟩] 3)) = .ok () (w.alloc (.map #[⟨.int .i64 3, .func (.func 79) #[] #[], 0⟩, ⟨.int .i64 4, .func (.func 80) #[] #[], 1⟩, ⟨.int .i64 5, .func (.func 81) #[] #[], 2⟩, ⟨.int .i64 6, .func (.func 82) #[] #[], 3⟩] 4)) := hu _ 3 6 _ (by rfl)
  have h4 : (Instr.mapUpdate 133 (.map (some w.heap.size)) (.int .i64 7) (.func (.func 83) #[] #[])).run Try.prog (w.alloc (.map #[⟨.int .i64 3, .func (.func 79) #[] #[], 0⟩, ⟨.int .i64 4, .func (.func 80) #[] #[], 1⟩, ⟨.int .i64 5, .func (.func 81) #[] #[], 2⟩, ⟨.int .i64 6, .func (.func 82) #[] #[], 3⟩] 4)) = .ok () (w.alloc (.map #[⟨.int .i64 3, .func (.func 79) #[] #[], 0⟩, ⟨.int .i64 4, .func (.func 80) #[] #[], 1⟩, ⟨.int .i64 5, .func (.func 81) #[] #[], 2⟩, ⟨.int .i64 6, .func (.func 82) #[] #[], 3⟩, ⟨.int .i64 7, .func (.func 83) #[] #[], 4⟩] 5)) := hu _ 4 7 _ (by rfl)
  have h5 : (Instr.mapUpdate 133 (.map (some w.heap.size)) (.int .i64 8) (.func (.func 84) #[] #[])).run Try.prog (w.alloc (.map #[⟨.int .i64 3, .func (.func 79) #[] #[], 0⟩, ⟨.int .i64 4, .func (.func 80) #[] #[], 1⟩, ⟨.int .i64 5, .func (.func 81) #[] #[], 2⟩, ⟨.int .i64 6, .func (.func 82) #[] #[], 3⟩, ⟨.int .i64 7, .func (.func 83) #[] #[], 4⟩] 5)) = .ok () (w.alloc (.map #[⟨.int .i64 3, .func (.func 79) #[] #[], 0⟩, ⟨.int .i64 4, .func (.func 80) #[] #[], 1⟩, ⟨.int .i64 5, .func (.func 81) #[] #[], 2⟩, ⟨.int .i64 6, .func (.func 82) #[] #[], 3⟩, ⟨.int .i64 7, .func (.func 83) #[] #[], 4⟩, ⟨.int .i64 8, .func (.func 84) #[] #[], 5⟩] 6)) := hu _ 5 8 _ (by rfl)
  have h6 : (Instr.mapUpdate 133 (.map (some w.heap.size)) (.int .i64 9) (.func (.func 85) #[] #[])).run Try.prog (w.alloc (.map #[⟨.int .i64 3, .func (.func 79) #[] #[], 0⟩, ⟨.int .i64 4, .func (.func 80) #[] #[], 1⟩, ⟨.int .i64 5, .func (.func 81) #[] #[], 2⟩, ⟨.int .i64 6, .func (.func 82) #[] #[], 3⟩, ⟨.int .i64 7, .func (.func 83) #[] #[], 4⟩, ⟨.int .i64 8, .func (.func 84) #[] #[], 5⟩] 6)) = .ok () (w.alloc (.map #[⟨.int .i64 3, .func (.func 79) #[] #[], 0⟩, ⟨.int .i64 4, .func (.func 80) #[] #[], 1⟩, ⟨.int .i64 5, .func (.func 81) #[] #[], 2⟩, ⟨.int .i64 6, .func (.func 82) #[] #[], 3⟩, ⟨.int .i64 7, .func (.func 83) #[] #[], 4⟩, ⟨.int .i64 8, .func (.func 84) #[] #[], 5⟩, ⟨.int .i64 9, .func (.func 85) #[] #[], 6⟩] 7)) := hu _ 6 9 _ (by rfl)
  have h7 : (Instr.mapUpdate 133 (.map (some w.heap.size)) (.int .i64 10) (.func (.func 86) #[] #[])).run Try.prog (w.alloc (.map #[⟨.int .i64 3, .func (.func 79) #[] #[], 0⟩, ⟨.int .i64 4, .func (.func 80) #[] #[], 1⟩, ⟨.int .i64 5, .func (.func 81) #[] #[], 2⟩, ⟨.int .i64 6, .func (.func 82) #[] #[], 3⟩, ⟨.int .i64 7, .func (.func 83) #[] #[], 4⟩, ⟨.int .i64 8, .func (.func 84) #[] #[], 5⟩, ⟨.int .i64 9, .func (.func 85) #[] #[], 6⟩] 7)) = .ok () (w.alloc (.map #[⟨.int .i64 3, .func (.func 79) #[] #[], 0⟩, ⟨.int .i64 4, .func (.func 80) #[] #[], 1⟩, ⟨.int .i64 5, .func (.func 81) #[] #[], 2⟩, ⟨.int .i64 6, .func (.func 82) #[] #[], 3⟩, ⟨.int .i64 7, .func (.func 83) #[] #[], 4⟩, ⟨.int .i64 8, .func (.func 84) #[] #[], 5⟩, ⟨.int .i64 9, .func (.func 85) #[] #[], 6⟩, ⟨.int .i64 10, .func (.func 86) #[] #[], 7⟩] 8)) := hu _ 7 10 _ (by rfl)
  have h8 : (Instr.mapUpdate 133 (.map (some w.heap.size)) (.int .i64 11) (.func (.func 87) #[] #[])).run Try.prog (w.alloc (.map #[⟨.int .i64 3, .func (.func 79) #[] #[], 0⟩, ⟨.int .i64 4, .func (.func 80) #[] #[], 1⟩, ⟨.int .i64 5, .func (.func 81) #[] #[], 2⟩, ⟨.int .i64 6, .func (.func 82) #[] #[], 3⟩, ⟨.int .i64 7, .func (.func 83) #[] #[], 4⟩, ⟨.int .i64 8, .func (.func 84) #[] #[], 5⟩, ⟨.int .i64 9, .func (.func 85) #[] #[], 6⟩, ⟨.int .i64 10, .func (.func 86) #[] #[], 7⟩] 8)) = .ok () (w.alloc (.map #[⟨.int .i64 3, .func (.func 79) #[] #[], 0⟩, ⟨.int .i64 4, .func (.func 80) #[] #[], 1⟩, ⟨.int .i64 5, .func (.func 81) #[] #[], 2⟩, ⟨.int .i64 6, .func (.func 82) #[] #[], 3⟩, ⟨.int .i64 7, .func (.func 83) #[] #[], 4⟩, ⟨.int .i64 8, .func (.func 84) #[] #[], 5⟩, ⟨.int .i64 9, .func (.func 85) #[] #[], 6⟩, ⟨.int .i64 10, .func (.func 86) #[] #[], 7⟩, ⟨.int .i64 11, .func (.func 87) #[] #[], 8⟩] 9)) := hu _ 8 11 _ (by rfl)
  have h9 : (Instr.mapUpdate 133 (.map (some w.heap.size)) (.int .i64 12) (.func (.func 88) #[] #[])).run Try.prog (w.alloc (.map #[⟨.int .i64 3, .func (.func 79) #[] #[], 0⟩, ⟨.int .i64 4, .func (.func 80) #[] #[], 1⟩, ⟨.int .i64 5, .func (.func 81) #[] #[], 2⟩, ⟨.int .i64 6, .func (.func 82) #[] #[], 3⟩, ⟨.int .i64 7, .func (.func 83) #[] #[], 4⟩, ⟨.int .i64 8, .func (.func 84) #[] #[], 5⟩, ⟨.int .i64 9, .func (.func 85) #[] #[], 6⟩, ⟨.int .i64 10, .func (.func 86) #[] #[], 7⟩, ⟨.int .i64 11, .func (.func 87) #[] #[], 8⟩] 9)) = .ok () (w.alloc (.map #[⟨.int .i64 3, .func (.func 79) #[] #[], 0⟩, ⟨.int .i64 4, .func (.func 80) #[] #[], 1⟩, ⟨.int .i64 5, .func (.func 81) #[] #[], 2⟩, ⟨.int .i64 6, .func (.func 82) #[] #[], 3⟩, ⟨.int .i64 7, .func (.func 83) #[] #[], 4⟩, ⟨.int .i64 8, .func (.func 84) #[] #[], 5⟩, ⟨.int .i64 9, .func (.func 85) #[] #[], 6⟩, ⟨.int .i64 10, .func (.func 86) #[] #[], 7⟩, ⟨.int .i64 11, .func (.func 87) #[] #[], 8⟩, ⟨.int .i64 12, .func (.func 88) #[] #[], 9⟩] 10)) := hu _ 9 12 _ (by rfl)
  have h10 : (Instr.mapUpdate 133 (.map (some w.heap.size)) (.int .i64 13) (.func (.func 89) #[] #[])).run Try.prog (w.alloc (.map #[⟨.int .i64 3, .func (.func 79) #[] #[], 0⟩, ⟨.int .i64 4, .func (.func 80) #[] #[], 1⟩, ⟨.int .i64 5, .func (.func 81) #[] #[], 2⟩, ⟨.int .i64 6, .func (.func 82) #[] #[], 3⟩, ⟨.int .i64 7, .func (.func 83) #[] #[], 4⟩, ⟨.int .i64 8, .func (.func 84) #[] #[], 5⟩, ⟨.int .i64 9, .func (.func 85) #[] #[], 6⟩, ⟨.int .i64 10, .func (.func 86) #[] #[], 7⟩, ⟨.int .i64 11, .func (.func 87) #[] #[], 8⟩, ⟨.int .i64 12, .func (.func 88) #[] #[], 9⟩] 10)) = .ok () (w.alloc (.map #[⟨.int .i64 3, .func (.func 79) #[] #[], 0⟩, ⟨.int .i64 4, .func (.func 80) #[] #[], 1⟩, ⟨.int .i64 5, .func (.func 81) #[] #[], 2⟩, ⟨.int .i64 6, .func (.func 82) #[] #[], 3⟩, ⟨.int .i64 7, .func (.func 83) #[] #[], 4⟩, ⟨.int .i64 8, .func (.func 84) #[] #[], 5⟩, ⟨.int .i64 9, .func (.func 85) #[] #[], 6⟩, ⟨.int .i64 10, .func (.func 86) #[] #[], 7⟩, ⟨.int .i64 11, .func (.func 87) #[] #[], 8⟩, ⟨.int .i64 12, .func (.func 88) #[] #[], 9⟩, ⟨.int .i64 13, .func (.func 89) #[] #[], 10⟩] 11)) := hu _ 10 13 _ (by rfl)
  have h11 : (Instr.mapUpdate 133 (.map (some w.heap.size)) (.int .i64 14) (.func (.func 91) #[] #[])).run Try.prog (w.alloc (.map #[⟨.int .i64 3, .func (.func 79) #[] #[], 0⟩, ⟨.int .i64 4, .func (.func 80) #[] #[], 1⟩, ⟨.int .i64 5, .func (.func 81) #[] #[], 2⟩, ⟨.int .i64 6, .func (.func 82) #[] #[], 3⟩, ⟨.int .i64 7, .func (.func 83) #[] #[], 4⟩, ⟨.int .i64 8, .func (.func 84) #[] #[], 5⟩, ⟨.int .i64 9, .func (.func 85) #[] #[], 6⟩, ⟨.int .i64 10, .func (.func 86) #[] #[], 7⟩, ⟨.int .i64 11, .func (.func 87) #[] #[], 8⟩, ⟨.int .i64 12, .func (.func 88) #[] #[], 9⟩, ⟨.int .i64 13, .func (.func 89) #[] #[], 10⟩] 11)) = .ok () (w.alloc (.map #[⟨.int .i64 3, .func (.func 79) #[] #[], 0⟩, ⟨.int .i64 4, .func (.func 80) #[] #[], 1⟩, ⟨.int .i64 5, .func (.func 81) #[] #[], 2⟩, ⟨.int .i64 6, .func (.func 82) #[] #[], 3⟩, ⟨.int .i64 7, .func (.func 83) #[] #[], 4⟩, ⟨.int .i64 8, .func (.func 84) #[] #[], 5⟩, ⟨.int .i64 9, .func (.func 85) #[] #[], 6⟩, ⟨.int .i64 10, .func (.func 86) #[] #[], 7⟩, ⟨.int .i64 11, .func (.func 87) #[] #[], 8⟩, ⟨.int .i64 12, .func (.func 88) #[] #[], 9⟩, ⟨.int .i64 13, .func (.func 89) #[] #[], 10⟩, ⟨.int .i64 14, .func (.func 91) #[] #[], 11⟩] 12)) := hu _ 11 14 _ (by rfl)
  have h12 : (Instr.mapUpdate 133 (.map (some w.heap.size)) (.int .i64 15) (.func (.func 92) #[] #[])).run Try.prog (w.alloc (.map #[⟨.int .i64 3, .func (.func 79) #[] #[], 0⟩, ⟨.int .i64 4, .func (.func 80) #[] #[], 1⟩, ⟨.int .i64 5, .func (.func 81) #[] #[], 2⟩, ⟨.int .i64 6, .func (.func 82) #[] #[], 3⟩, ⟨.int .i64 7, .func (.func 83) #[] #[], 4⟩, ⟨.int .i64 8, .func (.func 84) #[] #[], 5⟩, ⟨.int .i64 9, .func (.func 85) #[] #[], 6⟩, ⟨.int .i64 10, .func (.func 86) #[] #[], 7⟩, ⟨.int .i64 11, .func (.func 87) #[] #[], 8⟩, ⟨.int .i64 12, .func (.func 88) #[] #[], 9⟩, ⟨.int .i64 13, .func (.func 89) #[] #[], 10⟩, ⟨.int .i64 14, .func (.func 91) #[] #[], 11⟩] 12)) = .ok () (w.alloc (.map #[⟨.int .i64 3, .func (.func 79) #[] #[], 0⟩, ⟨.int .i64 4, .func (.func 80) #[] #[], 1⟩, ⟨.int .i64 5, .func (.func 81) #[] #[], 2⟩, ⟨.int .i64 6, .func (.func 82) #[] #[], 3⟩, ⟨.int .i64 7, .func (.func 83) #[] #[], 4⟩, ⟨.int .i64 8, .func (.func 84) #[] #[], 5⟩, ⟨.int .i64 9, .func (.func 85) #[] #[], 6⟩, ⟨.int .i64 10, .func (.func 86) #[] #[], 7⟩, ⟨.int .i64 11, .func (.func 87) #[] #[], 8⟩, ⟨.int .i64 12, .func (.func 88) #[] #[], 9⟩, ⟨.int .i64 13, .func (.func 89) #[] #[], 10⟩, ⟨.int .i64 14, .func (.func 91) #[] #[], 11⟩, ⟨.int .i64 15, .func (.func 92) #[] #[], 12⟩] 13)) := hu _ 12 15 _ (by rfl)
  clear hu
  go_enter Try.func72, Try.ntmps72
  go_wp2
  go_ret
  exact ⟨rfl, (MapKept.heap_alloc w _).1, (by repeat (first | assumption | exact Bel.refl _ | refine Bel.drew ?_ | refine Bel.drewN ?_ _ | refine Bel.alloc ?_ _ | (refine Bel.trans ?_ (by assumption)) | (refine Bel.then ?_ (by assumption) (by intro x hx; first | (subst hx; simp; done) | (simp at *; omega)))))⟩
theorem wbit_any (b : Bool) (w : World) : Calls Try.prog 90 #[.bool b] w fun e w' => e = .returned (.int .u32 (W.b01 b)) ∧ Bel w w' := by
  cases b
  · go_enter Try.func90, Try.ntmps90
    go_wp2
    go_ret
    exact ⟨rfl, (by repeat (first | assumption | exact Bel.refl _ | refine Bel.drew ?_ | refine Bel.drewN ?_ _ | refine Bel.alloc ?_ _ | (refine Bel.trans ?_ (by assumption)) | (refine Bel.then ?_ (by assumption) (by intro x hx; first | (subst hx; simp; done) | (simp at *; omega)))))⟩
  · go_enter Try.func90, Try.ntmps90
    go_wp2
    go_ret
    exact ⟨rfl, (by repeat (first | assumption | exact Bel.refl _ | refine Bel.drew ?_ | refine Bel.drewN ?_ _ | refine Bel.alloc ?_ _ | (refine Bel.trans ?_ (by assumption)) | (refine Bel.then ?_ (by assumption) (by intro x hx; first | (subst hx; simp; done) | (simp at *; omega)))))⟩
theorem clo_3 (a b : Int) (ha : 0 ≤ a) (ha' : a < 4294967296) (hb : 0 ≤ b) (hb' : b < 4294967296) (w : World) :
    Calls Try.prog 79 #[.int .u32 a, .int .u32 b] w fun e w' => e = .returned (.int .u32 (W.op 3 a b)) ∧ Bel w w' := by
  go_enter Try.func79, Try.ntmps79
  go_wp2
  go_ret
  exact ⟨ret_int (by rw [W.op_3]), (by repeat (first | assumption | exact Bel.refl _ | refine Bel.drew ?_ | refine Bel.drewN ?_ _ | refine Bel.alloc ?_ _ | (refine Bel.trans ?_ (by assumption)) | (refine Bel.then ?_ (by assumption) (by intro x hx; first | (subst hx; simp; done) | (simp at *; omega)))))⟩
theorem clo_4 (a b : Int) (ha : 0 ≤ a) (ha' : a < 4294967296) (hb : 0 ≤ b) (hb' : b < 4294967296) (w : World) :
    Calls Try.prog 80 #[.int .u32 a, .int .u32 b] w fun e w' => e = .returned (.int .u32 (W.op 4 a b)) ∧ Bel w w' := by
  go_enter Try.func80, Try.ntmps80
  go_wp2
  go_ret
  exact ⟨ret_int (by rw [W.op_4]), (by repeat (first | assumption | exact Bel.refl _ | refine Bel.drew ?_ | refine Bel.drewN ?_ _ | refine Bel.alloc ?_ _ | (refine Bel.trans ?_ (by assumption)) | (refine Bel.then ?_ (by assumption) (by intro x hx; first | (subst hx; simp; done) | (simp at *; omega)))))⟩
theorem clo_5 (a b : Int) (ha : 0 ≤ a) (ha' : a < 4294967296) (hb : 0 ≤ b) (hb' : b < 4294967296) (w : World) :
    Calls Try.prog 81 #[.int .u32 a, .int .u32 b] w fun e w' => e = .returned (.int .u32 (W.op 5 a b)) ∧ Bel w w' := by
  go_enter Try.func81, Try.ntmps81
  go_wp2
  go_ret
  exact ⟨ret_int (by rw [W.op_5]), (by repeat (first | assumption | exact Bel.refl _ | refine Bel.drew ?_ | refine Bel.drewN ?_ _ | refine Bel.alloc ?_ _ | (refine Bel.trans ?_ (by assumption)) | (refine Bel.then ?_ (by assumption) (by intro x hx; first | (subst hx; simp; done) | (simp at *; omega)))))⟩
theorem clo_6 (a b : Int) (ha : 0 ≤ a) (ha' : a < 4294967296) (hb : 0 ≤ b) (hb' : b < 4294967296) (w : World) :
    Calls Try.prog 82 #[.int .u32 a, .int .u32 b] w fun e w' => e = .returned (.int .u32 (W.op 6 a b)) ∧ Bel w w' := by
  go_enter Try.func82, Try.ntmps82
  go_wp2
  go_ret
  exact ⟨ret_int (by rw [W.op_6]), (by repeat (first | assumption | exact Bel.refl _ | refine Bel.drew ?_ | refine Bel.drewN ?_ _ | refine Bel.alloc ?_ _ | (refine Bel.trans ?_ (by assumption)) | (refine Bel.then ?_ (by assumption) (by intro x hx; first | (subst hx; simp; done) | (simp at *; omega)))))⟩
theorem clo_7 (a b : Int) (ha : 0 ≤ a) (ha' : a < 4294967296) (hb : 0 ≤ b) (hb' : b < 4294967296) (w : World) :
    Calls Try.prog 83 #[.int .u32 a, .int .u32 b] w fun e w' => e = .returned (.int .u32 (W.op 7 a b)) ∧ Bel w w' := by
  go_enter Try.func83, Try.ntmps83
  go_wp2
  go_ret
  exact ⟨ret_int (by rw [W.op_7]), (by repeat (first | assumption | exact Bel.refl _ | refine Bel.drew ?_ | refine Bel.drewN ?_ _ | refine Bel.alloc ?_ _ | (refine Bel.trans ?_ (by assumption)) | (refine Bel.then ?_ (by assumption) (by intro x hx; first | (subst hx; simp; done) | (simp at *; omega)))))⟩
theorem clo_8 (a b : Int) (ha : 0 ≤ a) (ha' : a < 4294967296) (hb : 0 ≤ b) (hb' : b < 4294967296) (w : World) :
    Calls Try.prog 84 #[.int .u32 a, .int .u32 b] w fun e w' => e = .returned (.int .u32 (W.op 8 a b)) ∧ Bel w w' := by
  have hd : 0 ≤ b % 32 ∧ b % 32 < 32 := by omega
  go_enter Try.func84, Try.ntmps84
  go_wp2
  go_ret
  exact ⟨ret_int (by rw [W.op_8]), (by repeat (first | assumption | exact Bel.refl _ | refine Bel.drew ?_ | refine Bel.drewN ?_ _ | refine Bel.alloc ?_ _ | (refine Bel.trans ?_ (by assumption)) | (refine Bel.then ?_ (by assumption) (by intro x hx; first | (subst hx; simp; done) | (simp at *; omega)))))⟩
theorem clo_9 (a b : Int) (ha : 0 ≤ a) (ha' : a < 4294967296) (hb : 0 ≤ b) (hb' : b < 4294967296) (w : World) :
    Calls Try.prog 85 #[.int .u32 a, .int .u32 b] w fun e w' => e = .returned (.int .u32 (W.op 9 a b)) ∧ Bel w w' := by
  have hd : 0 ≤ b % 32 ∧ b % 32 < 32 := by omega
  go_enter Try.func85, Try.ntmps85
  go_wp2
  go_ret
  exact ⟨ret_int (by rw [W.op_9]), (by repeat (first | assumption | exact Bel.refl _ | refine Bel.drew ?_ | refine Bel.drewN ?_ _ | refine Bel.alloc ?_ _ | (refine Bel.trans ?_ (by assumption)) | (refine Bel.then ?_ (by assumption) (by intro x hx; first | (subst hx; simp; done) | (simp at *; omega)))))⟩
theorem clo_10 (a b : Int) (ha : 0 ≤ a) (ha' : a < 4294967296) (hb : 0 ≤ b) (hb' : b < 4294967296) (w : World) :
    Calls Try.prog 86 #[.int .u32 a, .int .u32 b] w fun e w' => e = .returned (.int .u32 (W.op 10 a b)) ∧ Bel w w' := by
  have hd : 0 ≤ b % 32 ∧ b % 32 < 32 := by omega
  have hs := W.sg_wrap a ha ha'
  go_enter Try.func86, Try.ntmps86
  go_wp2
  go_ret
  exact ⟨ret_int (by rw [W.op_10]), (by repeat (first | assumption | exact Bel.refl _ | refine Bel.drew ?_ | refine Bel.drewN ?_ _ | refine Bel.alloc ?_ _ | (refine Bel.trans ?_ (by assumption)) | (refine Bel.then ?_ (by assumption) (by intro x hx; first | (subst hx; simp; done) | (simp at *; omega)))))⟩
theorem clo_11 (a b : Int) (ha : 0 ≤ a) (ha' : a < 4294967296) (hb : 0 ≤ b) (hb' : b < 4294967296) (w : World) :
    Calls Try.prog 87 #[.int .u32 a, .int .u32 b] w fun e w' => e = .returned (.int .u32 (W.op 11 a b)) ∧ Bel w w' := by
  go_enter Try.func87, Try.ntmps87
  go_wp2
  go_ret
  exact ⟨ret_int (by rw [W.op_11]), (by repeat (first | assumption | exact Bel.refl _ | refine Bel.drew ?_ | refine Bel.drewN ?_ _ | refine Bel.alloc ?_ _ | (refine Bel.trans ?_ (by assumption)) | (refine Bel.then ?_ (by assumption) (by intro x hx; first | (subst hx; simp; done) | (simp at *; omega)))))⟩
theorem clo_12 (a b : Int) (ha : 0 ≤ a) (ha' : a < 4294967296) (hb : 0 ≤ b) (hb' : b < 4294967296) (w : World) :
    Calls Try.prog 88 #[.int .u32 a, .int .u32 b] w fun e w' => e = .returned (.int .u32 (W.op 12 a b)) ∧ Bel w w' := by
  by_cases h : b = 0
  · subst h
    go_enter Try.func88, Try.ntmps88
    go_wp2
    go_ret
    exact ⟨ret_int (by rw [W.op_12]; simp), (by repeat (first | assumption | exact Bel.refl _ | refine Bel.drew ?_ | refine Bel.drewN ?_ _ | refine Bel.alloc ?_ _ | (refine Bel.trans ?_ (by assumption)) | (refine Bel.then ?_ (by assumption) (by intro x hx; first | (subst hx; simp; done) | (simp at *; omega)))))⟩
  · have h0 : (b == 0) = false := by simp [h]
    go_enter Try.func88, Try.ntmps88
    go_wp2
    go_ret
    exact ⟨ret_int (by rw [W.op_12]), (by repeat (first | assumption | exact Bel.refl _ | refine Bel.drew ?_ | refine Bel.drewN ?_ _ | refine Bel.alloc ?_ _ | (refine Bel.trans ?_ (by assumption)) | (refine Bel.then ?_ (by assumption) (by intro x hx; first | (subst hx; simp; done) | (simp at *; omega)))))⟩
theorem clo_13 (a b : Int) (ha : 0 ≤ a) (ha' : a < 4294967296) (hb : 0 ≤ b) (hb' : b < 4294967296) (w : World) :
    Calls Try.prog 89 #[.int .u32 a, .int .u32 b] w fun e w' => e = .returned (.int .u32 (W.op 13 a b)) ∧ Bel w w' := by
  go_enter Try.func89, Try.ntmps89
  go_wp2_with (go_at_call 90; refine (wbit_any _ _).mono ?_; rintro e w' ⟨rfl, hb⟩)
  go_ret
  exact ⟨ret_int (by rw [W.op_13]), (by repeat (first | assumption | exact Bel.refl _ | refine Bel.drew ?_ | refine Bel.drewN ?_ _ | refine Bel.alloc ?_ _ | (refine Bel.trans ?_ (by assumption)) | (refine Bel.then ?_ (by assumption) (by intro x hx; first | (subst hx; simp; done) | (simp at *; omega)))))⟩
theorem clo_14 (a b : Int) (ha : 0 ≤ a) (ha' : a < 4294967296) (hb : 0 ≤ b) (hb' : b < 4294967296) (w : World) :
    Calls Try.prog 91 #[.int .u32 a, .int .u32 b] w fun e w' => e = .returned (.int .u32 (W.op 14 a b)) ∧ Bel w w' := by
  go_enter Try.func91, Try.ntmps91
  go_wp2_with (go_at_call 90; refine (wbit_any _ _).mono ?_; rintro e w' ⟨rfl, hb⟩)
  go_ret
  exact ⟨ret_int (by rw [W.op_14]), (by repeat (first | assumption | exact Bel.refl _ | refine Bel.drew ?_ | refine Bel.drewN ?_ _ | refine Bel.alloc ?_ _ | (refine Bel.trans ?_ (by assumption)) | (refine Bel.then ?_ (by assumption) (by intro x hx; first | (subst hx; simp; done) | (simp at *; omega)))))⟩
theorem clo_15 (a b : Int) (ha : 0 ≤ a) (ha' : a < 4294967296) (hb : 0 ≤ b) (hb' : b < 4294967296) (w : World) :
    Calls Try.prog 92 #[.int .u32 a, .int .u32 b] w fun e w' => e = .returned (.int .u32 (W.op 15 a b)) ∧ Bel w w' := by
  have hs := W.sg_wrap a ha ha'
  have hs' := W.sg_wrap b hb hb'
  go_enter Try.func92, Try.ntmps92
  go_wp2_with (go_at_call 90; refine (wbit_any _ _).mono ?_; rintro e w' ⟨rfl, hb⟩)
  go_ret
  exact ⟨ret_int (by rw [W.op_15]), (by repeat (first | assumption | exact Bel.refl _ | refine Bel.drew ?_ | refine Bel.drewN ?_ _ | refine Bel.alloc ?_ _ | (refine Bel.trans ?_ (by assumption)) | (refine Bel.then ?_ (by assumption) (by intro x hx; first | (subst hx; simp; done) | (simp at *; omega)))))⟩
theorem Op_3 (a b : Int) (ha : 0 ≤ a) (ha' : a < 4294967296) (hb : 0 ≤ b) (hb' : b < 4294967296) (w : World) :
    Calls Try.prog 61 #[.int .i64 3, .int .u32 a, .int .u32 b] w fun e w' => e = .returned (.int .u32 (W.op 3 a b)) ∧ Bel w w' := by
  have hl : ∀ w1 : World, w1.heap[w.heap.size]? = some (.map opsEnt 13) → (Instr.lookup 133 (.map (some w.heap.size)) (.int .i64 3) true).run Try.prog w1 = .ok (.tuple #[.func (.func 79) #[] #[], .bool true]) w1 :=
    fun w1 h => run_lookup_hit w1 133 3 131 .i64 _ opsEnt 13 3 _ 0 Try.underlying133 Try.underlying3 h rfl
  go_enter Try.func61, Try.ntmps61
  go_wp2_with (first
    | (go_at_call 72; refine (ops_any _).mono ?_; rintro e w1 ⟨rfl, hm, hb1⟩)
    | (go_at_call 79; refine (clo_3 a b ha ha' hb hb' _).mono ?_; rintro e w2 ⟨rfl, hb2⟩))
  go_ret
  exact ⟨rfl, (by repeat (first | assumption | exact Bel.refl _ | refine Bel.drew ?_ | refine Bel.drewN ?_ _ | refine Bel.alloc ?_ _ | (refine Bel.trans ?_ (by assumption)) | (refine Bel.then ?_ (by assumption) (by intro x hx; first | (subst hx; simp; done) | (simp at *; omega)))))⟩
theorem Op_4 (a b : Int) (ha : 0 ≤ a) (ha' : a < 4294967296) (hb : 0 ≤ b) (hb' : b < 4294967296) (w : World) :
    Calls Try.prog 61 #[.int .i64 4, .int .u32 a, .int .u32 b] w fun e w' => e = .returned (.int .u32 (W.op 4 a b)) ∧ Bel w w' := by
  have hl : ∀ w1 : World, w1.heap[w.heap.size]? = some (.map opsEnt 13) → (Instr.lookup 133 (.map (some w.heap.size)) (.int .i64 4) true).run Try.prog w1 = .ok (.tuple #[.func (.func 80) #[] #[], .bool true]) w1 :=
    fun w1 h => run_lookup_hit w1 133 3 131 .i64 _ opsEnt 13 4 _ 1 Try.underlying133 Try.underlying3 h rfl
  go_enter Try.func61, Try.ntmps61
  go_wp2_with (first
    | (go_at_call 72; refine (ops_any _).mono ?_; rintro e w1 ⟨rfl, hm, hb1⟩)
    | (go_at_call 80; refine (clo_4 a b ha ha' hb hb' _).mono ?_; rintro e w2 ⟨rfl, hb2⟩))
  go_ret
  exact ⟨rfl, (by repeat (first | assumption | exact Bel.refl _ | refine Bel.drew ?_ | refine Bel.drewN ?_ _ | refine Bel.alloc ?_ _ | (refine Bel.trans ?_ (by assumption)) | (refine Bel.then ?_ (by assumption) (by intro x hx; first | (subst hx; simp; done) | (simp at *; omega)))))⟩
theorem Op_5 (a b : Int) (ha : 0 ≤ a) (ha' : a < 4294967296) (hb : 0 ≤ b) (hb' : b < 4294967296) (w : World) :
    Calls Try.prog 61 #[.int .i64 5, .int .u32 a, .int .u32 b] w fun e w' => e = .returned (.int .u32 (W.op 5 a b)) ∧ Bel w w' := by
  have hl : ∀ w1 : World, w1.heap[w.heap.size]? = some (.map opsEnt 13) → (Instr.lookup 133 (.map (some w.heap.size)) (.int .i64 5) true).run Try.prog w1 = .ok (.tuple #[.func (.func 81) #[] #[], .bool true]) w1 :=
    fun w1 h => run_lookup_hit w1 133 3 131 .i64 _ opsEnt 13 5 _ 2 Try.underlying133 Try.underlying3 h rfl
  go_enter Try.func61, Try.ntmps61
  go_wp2_with (first
    | (go_at_call 72; refine (ops_any _).mono ?_; rintro e w1 ⟨rfl, hm, hb1⟩)
    | (go_at_call 81; refine (clo_5 a b ha ha' hb hb' _).mono ?_; rintro e w2 ⟨rfl, hb2⟩))
  go_ret
  exact ⟨rfl, (by repeat (first | assumption | exact Bel.refl _ | refine Bel.drew ?_ | refine Bel.drewN ?_ _ | refine Bel.alloc ?_ _ | (refine Bel.trans ?_ (by assumption)) | (refine Bel.then ?_ (by assumption) (by intro x hx; first | (subst hx; simp; done) | (simp at *; omega)))))⟩
theorem Op_6 (a b : Int) (ha : 0 ≤ a) (ha' : a < 4294967296) (hb : 0 ≤ b) (hb' : b < 4294967296) (w : World) :
    Calls Try.prog 61 #[.int .i64 6, .int .u32 a, .int .u32 b] w fun e w' => e = .returned (.int .u32 (W.op 6 a b)) ∧ Bel w w' := by
  have hl : ∀ w1 : World, w1.heap[w.heap.size]? = some (.map opsEnt 13) → (Instr.lookup 133 (.map (some w.heap.size)) (.int .i64 6) true).run Try.prog w1 = .ok (.tuple #[.func (.func 82) #[] #[], .bool true]) w1 :=
    fun w1 h => run_lookup_hit w1 133 3 131 .i64 _ opsEnt 13 6 _ 3 Try.underlying133 Try.underlying3 h rfl
  go_enter Try.func61, Try.ntmps61
  go_wp2_with (first
    | (go_at_call 72; refine (ops_any _).mono ?_; rintro e w1 ⟨rfl, hm, hb1⟩)
    | (go_at_call 82; refine (clo_6 a b ha ha' hb hb' _).mono ?_; rintro e w2 ⟨rfl, hb2⟩))
  go_ret
  exact ⟨rfl, (by repeat (first | assumption | exact Bel.refl _ | refine Bel.drew ?_ | refine Bel.drewN ?_ _ | refine Bel.alloc ?_ _ | (refine Bel.trans ?_ (by assumption)) | (refine Bel.then ?_ (by assumption) (by intro x hx; first | (subst hx; simp; done) | (simp at *; omega)))))⟩
theorem Op_7 (a b : Int) (ha : 0 ≤ a) (ha' : a < 4294967296) (hb : 0 ≤ b) (hb' : b < 4294967296) (w : World) :
    Calls Try.prog 61 #[.int .i64 7, .int .u32 a, .int .u32 b] w fun e w' => e = .returned (.int .u32 (W.op 7 a b)) ∧ Bel w w' := by
  have hl : ∀ w1 : World, w1.heap[w.heap.size]? = some (.map opsEnt 13) → (Instr.lookup 133 (.map (some w.heap.size)) (.int .i64 7) true).run Try.prog w1 = .ok (.tuple #[.func (.func 83) #[] #[], .bool true]) w1 :=
    fun w1 h => run_lookup_hit w1 133 3 131 .i64 _ opsEnt 13 7 _ 4 Try.underlying133 Try.underlying3 h rfl
  go_enter Try.func61, Try.ntmps61
  go_wp2_with (first
    | (go_at_call 72; refine (ops_any _).mono ?_; rintro e w1 ⟨rfl, hm, hb1⟩)
    | (go_at_call 83; refine (clo_7 a b ha ha' hb hb' _).mono ?_; rintro e w2 ⟨rfl, hb2⟩))
  go_ret
  exact ⟨rfl, (by repeat (first | assumption | exact Bel.refl _ | refine Bel.drew ?_ | refine Bel.drewN ?_ _ | refine Bel.alloc ?_ _ | (refine Bel.trans ?_ (by assumption)) | (refine Bel.then ?_ (by assumption) (by intro x hx; first | (subst hx; simp; done) | (simp at *; omega)))))⟩
theorem Op_8 (a b : Int) (ha : 0 ≤ a) (ha' : a < 4294967296) (hb : 0 ≤ b) (hb' : b < 4294967296) (w : World) :
    Calls Try.prog 61 #[.int .i64 8, .int .u32 a, .int .u32 b] w fun e w' => e = .returned (.int .u32 (W.op 8 a b)) ∧ Bel w w' := by
  have hl : ∀ w1 : World, w1.heap[w.heap.size]? = some (.map opsEnt 13) → (Instr.lookup 133 (.map (some w.heap.size)) (.int .i64 8) true).run Try.prog w1 = .ok (.tuple #[.func (.func 84) #[] #[], .bool true]) w1 :=
    fun w1 h => run_lookup_hit w1 133 3 131 .i64 _ opsEnt 13 8 _ 5 Try.underlying133 Try.underlying3 h rfl
  go_enter Try.func61, Try.ntmps61
  go_wp2_with (first
    | (go_at_call 72; refine (ops_any _).mono ?_; rintro e w1 ⟨rfl, hm, hb1⟩)
    | (go_at_call 84; refine (clo_8 a b ha ha' hb hb' _).mono ?_; rintro e w2 ⟨rfl, hb2⟩))
  go_ret
  exact ⟨rfl, (by repeat (first | assumption | exact Bel.refl _ | refine Bel.drew ?_ | refine Bel.drewN ?_ _ | refine Bel.alloc ?_ _ | (refine Bel.trans ?_ (by assumption)) | (refine Bel.then ?_ (by assumption) (by intro x hx; first | (subst hx; simp; done) | (simp at *; omega)))))⟩
theorem Op_9 (a b : Int) (ha : 0 ≤ a) (ha' : a < 4294967296) (hb : 0 ≤ b) (hb' : b < 4294967296) (w : World) :
    Calls Try.prog 61 #[.int .i64 9, .int .u32 a, .int .u32 b] w fun e w' => e = .returned (.int .u32 (W.op 9 a b)) ∧ Bel w w' := by
  have hl : ∀ w1 : World, w1.heap[w.heap.size]? = some (.map opsEnt 13) → (Instr.lookup 133 (.map (some w.heap.size)) (.int .i64 9) true).run Try.prog w1 = .ok (.tuple #[.func (.func 85) #[] #[], .bool true]) w1 :=
    fun w1 h => run_lookup_hit w1 133 3 131 .i64 _ opsEnt 13 9 _ 6 Try.underlying133 Try.underlying3 h rfl
  go_enter Try.func61, Try.ntmps61
  go_wp2_with (first
    | (go_at_call 72; refine (ops_any _).mono ?_; rintro e w1 ⟨rfl, hm, hb1⟩)
    | (go_at_call 85; refine (clo_9 a b ha ha' hb hb' _).mono ?_; rintro e w2 ⟨rfl, hb2⟩))
  go_ret
  exact ⟨rfl, (by repeat (first | assumption | exact Bel.refl _ | refine Bel.drew ?_ | refine Bel.drewN ?_ _ | refine Bel.alloc ?_ _ | (refine Bel.trans ?_ (by assumption)) | (refine Bel.then ?_ (by assumption) (by intro x hx; first | (subst hx; simp; done) | (simp at *; omega)))))⟩
theorem Op_10 (a b : Int) (ha : 0 ≤ a) (ha' : a < 4294967296) (hb : 0 ≤ b) (hb' : b < 4294967296) (w : World) :
    Calls Try.prog 61 #[.int .i64 10, .int .u32 a, .int .u32 b] w fun e w' => e = .returned (.int .u32 (W.op 10 a b)) ∧ Bel w w' := by
  have hl : ∀ w1 : World, w1.heap[w.heap.size]? = some (.map opsEnt 13) → (Instr.lookup 133 (.map (some w.heap.size)) (.int .i64 10) true).run Try.prog w1 = .ok (.tuple #[.func (.func 86) #[] #[], .bool true]) w1 :=
    fun w1 h => run_lookup_hit w1 133 3 131 .i64 _ opsEnt 13 10 _ 7 Try.underlying133 Try.underlying3 h rfl
  go_enter Try.func61, Try.ntmps61
  go_wp2_with (first
    | (go_at_call 72; refine (ops_any _).mono ?_; rintro e w1 ⟨rfl, hm, hb1⟩)
    | (go_at_call 86; refine (clo_10 a b ha ha' hb hb' _).mono ?_; rintro e w2 ⟨rfl, hb2⟩))
  go_ret
  exact ⟨rfl, (by repeat (first | assumption | exact Bel.refl _ | refine Bel.drew ?_ | refine Bel.drewN ?_ _ | refine Bel.alloc ?_ _ | (refine Bel.trans ?_ (by assumption)) | (refine Bel.then ?_ (by assumption) (by intro x hx; first | (subst hx; simp; done) | (simp at *; omega)))))⟩
theorem Op_11 (a b : Int) (ha : 0 ≤ a) (ha' : a < 4294967296) (hb : 0 ≤ b) (hb' : b < 4294967296) (w : World) :
    Calls Try.prog 61 #[.int .i64 11, .int .u32 a, .int .u32 b] w fun e w' => e = .returned (.int .u32 (W.op 11 a b)) ∧ Bel w w' := by
  have hl : ∀ w1 : World, w1.heap[w.heap.size]? = some (.map opsEnt 13) → (Instr.lookup 133 (.map (some w.heap.size)) (.int .i64 11) true).run Try.prog w1 = .ok (.tuple #[.func (.func 87) #[] #[], .bool true]) w1 :=
    fun w1 h => run_lookup_hit w1 133 3 131 .i64 _ opsEnt 13 11 _ 8 Try.underlying133 Try.underlying3 h rfl
  go_enter Try.func61, Try.ntmps61
  go_wp2_with (first
    | (go_at_call 72; refine (ops_any _).mono ?_; rintro e w1 ⟨rfl, hm, hb1⟩)
    | (go_at_call 87; refine (clo_11 a b ha ha' hb hb' _).mono ?_; rintro e w2 ⟨rfl, hb2⟩))
  go_ret
  exact ⟨rfl, (by repeat (first | assumption | exact Bel.refl _ | refine Bel.drew ?_ | refine Bel.drewN ?_ _ | refine Bel.alloc ?_ _ | (refine Bel.trans ?_ (by assumption)) | (refine Bel.then ?_ (by assumption) (by intro x hx; first | (subst hx; simp; done) | (simp at *; omega)))))⟩
theorem Op_12 (a b : Int) (ha : 0 ≤ a) (ha' : a < 4294967296) (hb : 0 ≤ b) (hb' : b < 4294967296) (w : World) :
    Calls Try.prog 61 #[.int .i64 12, .int .u32 a, .int .u32 b] w fun e w' => e = .returned (.int .u32 (W.op 12 a b)) ∧ Bel w w' := by
  have hl : ∀ w1 : World, w1.heap[w.heap.size]? = some (.map opsEnt 13) → (Instr.lookup 133 (.map (some w.heap.size)) (.int .i64 12) true).run Try.prog w1 = .ok (.tuple #[.func (.func 88) #[] #[], .bool true]) w1 :=
    fun w1 h => run_lookup_hit w1 133 3 131 .i64 _ opsEnt 13 12 _ 9 Try.underlying133 Try.underlying3 h rfl
  go_enter Try.func61, Try.ntmps61
  go_wp2_with (first
    | (go_at_call 72; refine (ops_any _).mono ?_; rintro e w1 ⟨rfl, hm, hb1⟩)
    | (go_at_call 88; refine (clo_12 a b ha ha' hb hb' _).mono ?_; rintro e w2 ⟨rfl, hb2⟩))
  go_ret
  exact ⟨rfl, (by repeat (first | assumption | exact Bel.refl _ | refine Bel.drew ?_ | refine Bel.drewN ?_ _ | refine Bel.alloc ?_ _ | (refine Bel.trans ?_ (by assumption)) | (refine Bel.then ?_ (by assumption) (by intro x hx; first | (subst hx; simp; done) | (simp at *; omega)))))⟩
theorem Op_13 (a b : Int) (ha : 0 ≤ a) (ha' : a < 4294967296) (hb : 0 ≤ b) (hb' : b < 4294967296) (w : World) :
    Calls Try.prog 61 #[.int .i64 13, .int .u32 a, .int .u32 b] w fun e w' => e = .returned (.int .u32 (W.op 13 a b)) ∧ Bel w w' := by
  have hl : ∀ w1 : World, w1.heap[w.heap.size]? = some (.map opsEnt 13) → (Instr.lookup 133 (.map (some w.heap.size)) (.int .i64 13) true).run Try.prog w1 = .ok (.tuple #[.func (.func 89) #[] #[], .bool true]) w1 :=
    fun w1 h => run_lookup_hit w1 133 3 131 .i64 _ opsEnt 13 13 _ 10 Try.underlying133 Try.underlying3 h rfl
  go_enter Try.func61, Try.ntmps61
  go_wp2_with (first
    | (go_at_call 72; refine (ops_any _).mono ?_; rintro e w1 ⟨rfl, hm, hb1⟩)
    | (go_at_call 89; refine (clo_13 a b ha ha' hb hb' _).mono ?_; rintro e w2 ⟨rfl, hb2⟩))
  go_ret
  exact ⟨rfl, (by repeat (first | assumption | exact Bel.refl _ | refine Bel.drew ?_ | refine Bel.drewN ?_ _ | refine Bel.alloc ?_ _ | (refine Bel.trans ?_ (by assumption)) | (refine Bel.then ?_ (by assumption) (by intro x hx; first | (subst hx; simp; done) | (simp at *; omega)))))⟩
theorem Op_14 (a b : Int) (ha : 0 ≤ a) (ha' : a < 4294967296) (hb : 0 ≤ b) (hb' : b < 4294967296) (w : World) :
    Calls Try.prog 61 #[.int .i64 14, .int .u32 a, .int .u32 b] w fun e w' => e = .returned (.int .u32 (W.op 14 a b)) ∧ Bel w w' := by
  have hl : ∀ w1 : World, w1.heap[w.heap.size]? = some (.map opsEnt 13) → (Instr.lookup 133 (.map (some w.heap.size)) (.int .i64 14) true).run Try.prog w1 = .ok (.tuple #[.func (.func 91) #[] #[], .bool true]) w1 :=
    fun w1 h => run_lookup_hit w1 133 3 131 .i64 _ opsEnt 13 14 _ 11 Try.underlying133 Try.underlying3 h rfl
  go_enter Try.func61, Try.ntmps61
  go_wp2_with (first
    | (go_at_call 72; refine (ops_any _).mono ?_; rintro e w1 ⟨rfl, hm, hb1⟩)
    | (go_at_call 91; refine (clo_14 a b ha ha' hb hb' _).mono ?_; rintro e w2 ⟨rfl, hb2⟩))
  go_ret
  exact ⟨rfl, (by repeat (first | assumption | exact Bel.refl _ | refine Bel.drew ?_ | refine Bel.drewN ?_ _ | refine Bel.alloc ?_ _ | (refine Bel.trans ?_ (by assumption)) | (refine Bel.then ?_ (by assumption) (by intro x hx; first | (subst hx; simp; done) | (simp at *; omega)))))⟩
theorem Op_15 (a b : Int) (ha : 0 ≤ a) (ha' : a < 4294967296) (hb : 0 ≤ b) (hb' : b < 4294967296) (w : World) :
    Calls Try.prog 61 #[.int .i64 15, .int .u32 a, .int .u32 b] w fun e w' => e = .returned (.int .u32 (W.op 15 a b)) ∧ Bel w w' := by
  have hl : ∀ w1 : World, w1.heap[w.heap.size]? = some (.map opsEnt 13) → (Instr.lookup 133 (.map (some w.heap.size)) (.int .i64 15) true).run Try.prog w1 = .ok (.tuple #[.func (.func 92) #[] #[], .bool true]) w1 :=
    fun w1 h => run_lookup_hit w1 133 3 131 .i64 _ opsEnt 13 15 _ 12 Try.underlying133 Try.underlying3 h rfl
  go_enter Try.func61, Try.ntmps61
  go_wp2_with (first
    | (go_at_call 72; refine (ops_any _).mono ?_; rintro e w1 ⟨rfl, hm, hb1⟩)
    | (go_at_call 92; refine (clo_15 a b ha ha' hb hb' _).mono ?_; rintro e w2 ⟨rfl, hb2⟩))
  go_ret
  exact ⟨rfl, (by repeat (first | assumption | exact Bel.refl _ | refine Bel.drew ?_ | refine Bel.drewN ?_ _ | refine Bel.alloc ?_ _ | (refine Bel.trans ?_ (by assumption)) | (refine Bel.then ?_ (by assumption) (by intro x hx; first | (subst hx; simp; done) | (simp at *; omega)))))⟩
theorem opsEnt_miss (c : Int) (h : c < 3 ∨ 15 < c) : Instr.findNow (.int .i64) (.int .i64 c) opsEnt.toList 0 = some none := by
  have e : ∀ k : Int, 3 ≤ k → k ≤ 15 → (c == k) = false := fun k _ _ => by simp; omega
  simp [opsEnt, Instr.findNow, Instr.sameNow, e]
theorem Op_n (c a b : Int) (hc : c < 3 ∨ 15 < c) (w : World) :
    Calls Try.prog 61 #[.int .i64 c, .int .u32 a, .int .u32 b] w fun e w' => e = .returned (.int .u32 (W.op c a b)) ∧ Bel w w' := by
  have hz : ∀ w : World, (zeroValue 131).run Try.prog w = .ok .nilFunc w := fun w => by kernel_rfl
  have hl : ∀ w1 : World, w1.heap[w.heap.size]? = some (.map opsEnt 13) → (Instr.lookup 133 (.map (some w.heap.size)) (.int .i64 c) true).run Try.prog w1 = .ok (.tuple #[.nilFunc, .bool false]) w1 :=
    fun w1 h => run_lookup_miss w1 133 3 131 .i64 _ opsEnt 13 c _ Try.underlying133 Try.underlying3 (hz _) h (opsEnt_miss c hc)
  have HN := hid (W.op_n c a b hc)
  clear hz
  go_enter Try.func61, Try.ntmps61
  go_wp2_with (go_at_call 72; refine (ops_any _).mono ?_; rintro e w1 ⟨rfl, hm, hb1⟩)
  go_ret
  exact ⟨ret_int (by rw [HN.out]), (by repeat (first | assumption | exact Bel.refl _ | refine Bel.drew ?_ | refine Bel.drewN ?_ _ | refine Bel.alloc ?_ _ | (refine Bel.trans ?_ (by assumption)) | (refine Bel.then ?_ (by assumption) (by intro x hx; first | (subst hx; simp; done) | (simp at *; omega)))))⟩
theorem Op_any (c a b : Int) (ha : 0 ≤ a) (ha' : a < 4294967296) (hb : 0 ≤ b) (hb' : b < 4294967296) (w : World) :
    Calls Try.prog 61 #[.int .i64 c, .int .u32 a, .int .u32 b] w fun e w' => e = .returned (.int .u32 (W.op c a b)) ∧ Bel w w' := by
  rcases (by omega : c = 3 ∨ c = 4 ∨ c = 5 ∨ c = 6 ∨ c = 7 ∨ c = 8 ∨ c = 9 ∨ c = 10 ∨ c = 11 ∨ c = 12 ∨ c = 13 ∨ c = 14 ∨ c = 15 ∨ (c < 3 ∨ 15 < c)) with rfl | rfl | rfl | rfl | rfl | rfl | rfl | rfl | rfl | rfl | rfl | rfl | rfl | h
  · exact Op_3 a b ha ha' hb hb' w
  · exact Op_4 a b ha ha' hb hb' w
  · exact Op_5 a b ha ha' hb hb' w
  · exact Op_6 a b ha ha' hb hb' w
  · exact Op_7 a b ha ha' hb hb' w
  · exact Op_8 a b ha ha' hb hb' w
  · exact Op_9 a b ha ha' hb hb' w
  · exact Op_10 a b ha ha' hb hb' w
  · exact Op_11 a b ha ha' hb hb' w
  · exact Op_12 a b ha ha' hb hb' w
  · exact Op_13 a b ha ha' hb hb' w
  · exact Op_14 a b ha ha' hb hb' w
  · exact Op_15 a b ha ha' hb hb' w
  · exact Op_n c a b h w
end Go.Proofs.Ytgbndbljohpnmaa

/- XQg -/
namespace Go.Proofs.Ytgbndbljohpnmaa
set_option linter.unusedVariables false
set_option linter.unusedSimpArgs false
open Go.RowKit
def Q.fetch (V : M.V) (p : Int) : Q.I × Int × Int := (bif ((Int.tmod p 4) != 0) then (⟨0, 0, 0, 0, 0⟩, 7, 0) else (bif (!((V.fetch ((IntKind.wrap .u32 (p + 0))).toNat).2)) then (⟨0, 0, 0, 0, 0⟩, 5, (IntKind.wrap .u32 (p + 0))) else (bif (!((V.fetch ((IntKind.wrap .u32 (p + 1))).toNat).2)) then (⟨0, 0, 0, 0, 0⟩, 5, (IntKind.wrap .u32 (p + 1))) else (bif (!((V.fetch ((IntKind.wrap .u32 (p + 2))).toNat).2)) then (⟨0, 0, 0, 0, 0⟩, 5, (IntKind.wrap .u32 (p + 2))) else (bif (!((V.fetch ((IntKind.wrap .u32 (p + 3))).toNat).2)) then (⟨0, 0, 0, 0, 0⟩, 5, (IntKind.wrap .u32 (p + 3))) else (bif (((Q.decode (W.get (strOfNums [(V.fetch ((IntKind.wrap .u32 (p + 0))).toNat).1, (V.fetch ((IntKind.wrap .u32 (p + 1))).toNat).1, (V.fetch ((IntKind.wrap .u32 (p + 2))).toNat).1, (V.fetch ((IntKind.wrap .u32 (p + 3))).toNat).1]).data.toList)).2) != 0) then (((Q.decode (W.get (strOfNums [(V.fetch ((IntKind.wrap .u32 (p + 0))).toNat).1, (V.fetch ((IntKind.wrap .u32 (p + 1))).toNat).1, (V.fetch ((IntKind.wrap .u32 (p + 2))).toNat).1, (V.fetch ((IntKind.wrap .u32 (p + 3))).toNat).1]).data.toList)).1), 7, 0) else (((Q.decode (W.get (strOfNums [(V.fetch ((IntKind.wrap .u32 (p + 0))).toNat).1, (V.fetch ((IntKind.wrap .u32 (p + 1))).toNat).1, (V.fetch ((IntKind.wrap .u32 (p + 2))).toNat).1, (V.fetch ((IntKind.wrap .u32 (p + 3))).toNat).1]).data.toList)).1), 0, 0)))))))
theorem Fetch_rd {m : Nat} {xs : List Value} (V : M.V) (p : Int)  : A.Rd Try.prog 58 #[.int .u32 p, .iface 82 (.pointer (some ⟨m, 0, none⟩))] [M.It m V xs] (.tuple #[.agg #[.int .i64 (((Q.fetch V p).1).op), .int .i64 (((Q.fetch V p).1).d), .int .i64 (((Q.fetch V p).1).a), .int .i64 (((Q.fetch V p).1).b), .int .u32 (((Q.fetch V p).1).imm)], .agg #[.int .i64 ((Q.fetch V p).2.1), .int .u32 ((Q.fetch V p).2.2)]]) := by
  intro w oo aa hh
  refine E.enter (n := 54) (S := fun _ => False) Try.func58 rfl rfl (by kernel_rfl) (A.startY hh) ?_
  refine E.C.seq ?_
  refine E.C.region ?_
  refine E.G.new (fun g => .pointer (some ⟨g, 0, none⟩)) [.int .i64 0, .int .i64 0, .int .i64 0, .int .i64 0, .int .u32 0] 47 (fun w => by kernel_rfl) (by kernel_rfl) (fun g1 => ?_)
  refine E.G.new (fun g => .pointer (some ⟨g, 0, none⟩)) [.int .i64 0, .int .u32 0] 51 (fun w => by kernel_rfl) (by kernel_rfl) (fun g2 => ?_)
  refine E.To.code ?_
  refine E.C.seq ?_
  refine E.C.seq ?_
  refine E.C.region ?_
  refine E.G.op (.int .u32 p) (fun w => by kernel_rfl) (by kernel_rfl) ?_
  refine E.G.op (.int .u32 (Int.tmod p 4)) (fun w => by kernel_rfl) (by kernel_rfl) ?_
  refine E.G.op (.bool ((Int.tmod p 4) != 0)) (fun w => by kernel_rfl) (by kernel_rfl) ?_
  refine E.To.code ?_
  refine E.C.cond ((Int.tmod p 4) != 0) (by kernel_rfl) (by kernel_rfl) (fun hc3 => ?_) (fun hc3 => ?_)
  · skip
    refine E.C.seq ?_
    refine E.C.region ?_
    refine E.G.val (.agg #[.int .i64 0, .int .i64 0, .int .i64 0, .int .i64 0, .int .u32 0]) (by kernel_rfl) (fun w h => E.run_build #[.int .i64 0, .int .i64 0, .int .i64 0, .int .i64 0, .int .u32 0] (by kernel_rfl) w) ?_
    refine E.G.val (.agg #[.int .i64 7, .int .u32 0]) (by kernel_rfl) (fun w h => E.run_build #[.int .i64 7, .int .u32 0] (by kernel_rfl) w) ?_
    refine E.G.store 1 [.int .i64 0, .int .i64 0, .int .i64 0, .int .i64 0, .int .u32 0] rfl rfl (by kernel_rfl) (by kernel_rfl) ?_
    refine E.G.store 0 [.int .i64 7, .int .u32 0] rfl rfl (by kernel_rfl) (by kernel_rfl) ?_
    refine E.To.code ?_
    refine E.C.ret (E.P.rt (E.To.body (fn := Try.f58) [.agg #[.int .i64 0, .int .i64 0, .int .i64 0, .int .i64 0, .int .u32 0], .agg #[.int .i64 7, .int .u32 0]] ?_ ?_))
    · exact ⟨⟨by kernel_rfl, _, _, 1, _, rfl, rfl, by kernel_rfl⟩, ⟨by kernel_rfl, _, _, 0, _, rfl, rfl, by kernel_rfl⟩, trivial⟩
    · intro w h
      exact ⟨by show Ending.returned (.tuple #[.agg #[.int .i64 0, .int .i64 0, .int .i64 0, .int .i64 0, .int .u32 0], .agg #[.int .i64 7, .int .u32 0]]) = _; unfold Q.fetch; rw [hc3, cond_true] <;> rfl, h.ch.bel (fun _ h => h.elim)⟩
  · skip
    refine E.C.skip (E.To.code ?_)
    refine E.C.seq ?_
    refine E.C.region ?_
    refine E.G.new (fun g => .pointer (some ⟨g, 0, none⟩)) [.int .u8 0, .int .u8 0, .int .u8 0, .int .u8 0] 125 (fun w => by kernel_rfl) (by kernel_rfl) (fun g4 => ?_)
    refine E.To.code ?_
    refine E.C.seq ?_
    refine E.C.seq ?_
    refine E.C.region ?_
    refine E.G.op (.int .i64 0) (fun w => by kernel_rfl) (by kernel_rfl) ?_
    refine E.To.code ?_
    refine E.C.block ?_
    refine E.C.rounds 4 ?_
    refine E.C.seq ?_
    refine E.C.region ?_
    refine E.G.op (.bool true) (fun w => by kernel_rfl) (by kernel_rfl) ?_
    refine E.To.code ?_
    refine E.C.seq ?_
    refine E.C.condT (by kernel_rfl) (by kernel_rfl) ?_
    refine E.C.skip (E.To.code ?_)
    refine E.C.seq ?_
    refine E.C.block ?_
    refine E.C.seq ?_
    refine E.C.region ?_
    refine E.G.op (.int .i64 0) (fun w => by kernel_rfl) (by kernel_rfl) ?_
    refine E.G.op (.int .i64 0) (fun w => by kernel_rfl) (by kernel_rfl) ?_
    refine E.To.code ?_
    refine E.C.seq ?_
    refine E.C.region ?_
    refine E.G.op (.iface 82 (.pointer (some ⟨m, 0, none⟩))) (fun w => by kernel_rfl) (by kernel_rfl) ?_
    refine E.G.op (.int .u32 p) (fun w => by kernel_rfl) (by kernel_rfl) ?_
    refine E.G.op (.int .i64 0) (fun w => by kernel_rfl) (by kernel_rfl) ?_
    refine E.G.op (.int .u32 0) (fun w => by kernel_rfl) (by kernel_rfl) ?_
    refine E.G.op (.int .u32 (IntKind.wrap .u32 (p + 0))) (fun w => by kernel_rfl) (by kernel_rfl) ?_
    refine E.G.call (.tuple #[.int .u8 ((V.fetch ((IntKind.wrap .u32 (p + 0))).toNat).1), .bool ((V.fetch ((IntKind.wrap .u32 (p + 0))).toNat).2)]) (fun w h => A.Y.rd [] (I_Fetch (IntKind.wrap .u32 (p + 0)) (Q.wrap_bd _) (m := m) (V := V) (xs := xs)) h.x (A.pm [0] (by kernel_rfl) (by kernel_rfl))) (fun w _ => by kernel_rfl) (by kernel_rfl) ?_
    refine E.G.op (.tuple #[.int .u8 ((V.fetch ((IntKind.wrap .u32 (p + 0))).toNat).1), .bool ((V.fetch ((IntKind.wrap .u32 (p + 0))).toNat).2)]) (fun w => by kernel_rfl) (by kernel_rfl) ?_
    refine E.G.op (.int .u8 ((V.fetch ((IntKind.wrap .u32 (p + 0))).toNat).1)) (fun w => by kernel_rfl) (by kernel_rfl) ?_
    refine E.G.op (.bool ((V.fetch ((IntKind.wrap .u32 (p + 0))).toNat).2)) (fun w => by kernel_rfl) (by kernel_rfl) ?_
    refine E.G.op (.int .u8 ((V.fetch ((IntKind.wrap .u32 (p + 0))).toNat).1)) (fun w => by kernel_rfl) (by kernel_rfl) ?_
    refine E.G.op (.bool ((V.fetch ((IntKind.wrap .u32 (p + 0))).toNat).2)) (fun w => by kernel_rfl) (by kernel_rfl) ?_
    refine E.To.code ?_
    refine E.C.seq ?_
    refine E.C.seq ?_
    refine E.C.region ?_
    refine E.G.op (.bool ((V.fetch ((IntKind.wrap .u32 (p + 0))).toNat).2)) (fun w => by kernel_rfl) (by kernel_rfl) ?_
    refine E.G.op (.bool (!((V.fetch ((IntKind.wrap .u32 (p + 0))).toNat).2))) (fun w => by kernel_rfl) (by kernel_rfl) ?_
    refine E.To.code ?_
    refine E.C.cond (!((V.fetch ((IntKind.wrap .u32 (p + 0))).toNat).2)) (by kernel_rfl) (by kernel_rfl) (fun hc5 => ?_) (fun hc5 => ?_)
    · skip
      refine E.C.seq ?_
      refine E.C.region ?_
      refine E.G.val (.agg #[.int .i64 0, .int .i64 0, .int .i64 0, .int .i64 0, .int .u32 0]) (by kernel_rfl) (fun w h => E.run_build #[.int .i64 0, .int .i64 0, .int .i64 0, .int .i64 0, .int .u32 0] (by kernel_rfl) w) ?_
      refine E.G.op (.int .u32 p) (fun w => by kernel_rfl) (by kernel_rfl) ?_
      refine E.G.op (.int .i64 0) (fun w => by kernel_rfl) (by kernel_rfl) ?_
      refine E.G.op (.int .u32 0) (fun w => by kernel_rfl) (by kernel_rfl) ?_
      refine E.G.op (.int .u32 (IntKind.wrap .u32 (p + 0))) (fun w => by kernel_rfl) (by kernel_rfl) ?_
      refine E.G.val (.agg #[.int .i64 5, .int .u32 (IntKind.wrap .u32 (p + 0))]) (by kernel_rfl) (fun w h => E.run_build #[.int .i64 5, .int .u32 (IntKind.wrap .u32 (p + 0))] (by kernel_rfl) w) ?_
      refine E.G.store 2 [.int .i64 0, .int .i64 0, .int .i64 0, .int .i64 0, .int .u32 0] rfl rfl (by kernel_rfl) (by kernel_rfl) ?_
      refine E.G.store 1 [.int .i64 5, .int .u32 (IntKind.wrap .u32 (p + 0))] rfl rfl (by kernel_rfl) (by kernel_rfl) ?_
      refine E.To.code ?_
      refine E.C.ret (E.P.rt (E.P.rb (E.P.rt (E.P.rt (E.P.rb (E.P.rt (E.To.body (fn := Try.f58) [.agg #[.int .i64 0, .int .i64 0, .int .i64 0, .int .i64 0, .int .u32 0], .agg #[.int .i64 5, .int .u32 (IntKind.wrap .u32 (p + 0))]] ?_ ?_)))))))
      · exact ⟨⟨by kernel_rfl, _, _, 2, _, rfl, rfl, by kernel_rfl⟩, ⟨by kernel_rfl, _, _, 1, _, rfl, rfl, by kernel_rfl⟩, trivial⟩
      · intro w h
        exact ⟨by show Ending.returned (.tuple #[.agg #[.int .i64 0, .int .i64 0, .int .i64 0, .int .i64 0, .int .u32 0], .agg #[.int .i64 5, .int .u32 (IntKind.wrap .u32 (p + 0))]]) = _; unfold Q.fetch; rw [hc3, cond_false, hc5, cond_true] <;> rfl, h.ch.bel (fun _ h => h.elim)⟩
    · skip
      refine E.C.skip (E.To.code ?_)
      refine E.C.region ?_
      refine E.G.op (.int .i64 0) (fun w => by kernel_rfl) (by kernel_rfl) ?_
      refine E.G.op (.int .u8 ((V.fetch ((IntKind.wrap .u32 (p + 0))).toNat).1)) (fun w => by kernel_rfl) (by kernel_rfl) ?_
      refine E.G.op (.pointer (some ⟨g4, 0, none⟩)) (fun w => by kernel_rfl) (by kernel_rfl) ?_
      refine E.G.store 0 [.int .u8 ((V.fetch ((IntKind.wrap .u32 (p + 0))).toNat).1), .int .u8 0, .int .u8 0, .int .u8 0] rfl rfl (by kernel_rfl) (by kernel_rfl) ?_
      refine E.P.nb (E.To.code ?_)
      refine E.C.region ?_
      refine E.G.op (.int .i64 1) (fun w => by kernel_rfl) (by kernel_rfl) ?_
      refine E.G.op (.int .i64 1) (fun w => by kernel_rfl) (by kernel_rfl) ?_
      refine E.To.rounds 3 ?_
      refine E.C.weak [(0, .int .u32 p), (1, .iface 82 (.pointer (some ⟨m, 0, none⟩))), (4, .pointer (some ⟨g1, 0, none⟩)), (5, .pointer (some ⟨g2, 0, none⟩)), (6, .pointer (some ⟨g4, 0, none⟩)), (7, .int .i64 0), (8, .int .u8 ((V.fetch ((IntKind.wrap .u32 (p + 0))).toNat).1)), (9, .bool ((V.fetch ((IntKind.wrap .u32 (p + 0))).toNat).2)), (17, .int .i64 1), (18, .bool true), (19, .int .i64 0), (20, .tuple #[.int .u8 ((V.fetch ((IntKind.wrap .u32 (p + 0))).toNat).1), .bool ((V.fetch ((IntKind.wrap .u32 (p + 0))).toNat).2)]), (21, .iface 82 (.pointer (some ⟨m, 0, none⟩))), (22, .int .u32 p), (23, .int .i64 0), (24, .int .u32 0), (25, .int .u32 (IntKind.wrap .u32 (p + 0))), (26, .tuple #[.int .u8 ((V.fetch ((IntKind.wrap .u32 (p + 0))).toNat).1), .bool ((V.fetch ((IntKind.wrap .u32 (p + 0))).toNat).2)]), (27, .int .u8 ((V.fetch ((IntKind.wrap .u32 (p + 0))).toNat).1)), (28, .bool ((V.fetch ((IntKind.wrap .u32 (p + 0))).toNat).2)), (29, .bool ((V.fetch ((IntKind.wrap .u32 (p + 0))).toNat).2)), (30, .bool (!((V.fetch ((IntKind.wrap .u32 (p + 0))).toNat).2))), (37, .int .i64 0), (38, .int .u8 ((V.fetch ((IntKind.wrap .u32 (p + 0))).toNat).1)), (39, .pointer (some ⟨g4, 0, none⟩)), (40, .int .i64 1)] [(g4, [.int .u8 ((V.fetch ((IntKind.wrap .u32 (p + 0))).toNat).1), .int .u8 0, .int .u8 0, .int .u8 0]), (g2, [.int .i64 0, .int .u32 0]), (g1, [.int .i64 0, .int .i64 0, .int .i64 0, .int .i64 0, .int .u32 0])] ⟨by kernel_rfl, by kernel_rfl⟩ (List.Sublist.refl _) ?_
      refine E.C.seq ?_
      refine E.C.region ?_
      refine E.G.op (.bool true) (fun w => by kernel_rfl) (by kernel_rfl) ?_
      refine E.To.code ?_
      refine E.C.seq ?_
      refine E.C.condT (by kernel_rfl) (by kernel_rfl) ?_
      refine E.C.skip (E.To.code ?_)
      refine E.C.seq ?_
      refine E.C.block ?_
      refine E.C.seq ?_
      refine E.C.region ?_
      refine E.G.op (.int .i64 1) (fun w => by kernel_rfl) (by kernel_rfl) ?_
      refine E.G.op (.int .i64 1) (fun w => by kernel_rfl) (by kernel_rfl) ?_
      refine E.To.code ?_
      refine E.C.seq ?_
      refine E.C.region ?_
      refine E.G.op (.iface 82 (.pointer (some ⟨m, 0, none⟩))) (fun w => by kernel_rfl) (by kernel_rfl) ?_
      refine E.G.op (.int .u32 p) (fun w => by kernel_rfl) (by kernel_rfl) ?_
      refine E.G.op (.int .i64 1) (fun w => by kernel_rfl) (by kernel_rfl) ?_
      refine E.G.op (.int .u32 1) (fun w => by kernel_rfl) (by kernel_rfl) ?_
      refine E.G.op (.int .u32 (IntKind.wrap .u32 (p + 1))) (fun w => by kernel_rfl) (by kernel_rfl) ?_
      refine E.G.call (.tuple #[.int .u8 ((V.fetch ((IntKind.wrap .u32 (p + 1))).toNat).1), .bool ((V.fetch ((IntKind.wrap .u32 (p + 1))).toNat).2)]) (fun w h => A.Y.rd [] (I_Fetch (IntKind.wrap .u32 (p + 1)) (Q.wrap_bd _) (m := m) (V := V) (xs := xs)) h.x (A.pm [0] (by kernel_rfl) (by kernel_rfl))) (fun w _ => by kernel_rfl) (by kernel_rfl) ?_
      refine E.G.op (.tuple #[.int .u8 ((V.fetch ((IntKind.wrap .u32 (p + 1))).toNat).1), .bool ((V.fetch ((IntKind.wrap .u32 (p + 1))).toNat).2)]) (fun w => by kernel_rfl) (by kernel_rfl) ?_
      refine E.G.op (.int .u8 ((V.fetch ((IntKind.wrap .u32 (p + 1))).toNat).1)) (fun w => by kernel_rfl) (by kernel_rfl) ?_
      refine E.G.op (.bool ((V.fetch ((IntKind.wrap .u32 (p + 1))).toNat).2)) (fun w => by kernel_rfl) (by kernel_rfl) ?_
      refine E.G.op (.int .u8 ((V.fetch ((IntKind.wrap .u32 (p + 1))).toNat).1)) (fun w => by kernel_rfl) (by kernel_rfl) ?_
      refine E.G.op (.bool ((V.fetch ((IntKind.wrap .u32 (p + 1))).toNat).2)) (fun w => by kernel_rfl) (by kernel_rfl) ?_
      refine E.To.code ?_
      refine E.C.seq ?_
      refine E.C.seq ?_
      refine E.C.region ?_
      refine E.G.op (.bool ((V.fetch ((IntKind.wrap .u32 (p + 1))).toNat).2)) (fun w => by kernel_rfl) (by kernel_rfl) ?_
      refine E.G.op (.bool (!((V.fetch ((IntKind.wrap .u32 (p + 1))).toNat).2))) (fun w => by kernel_rfl) (by kernel_rfl) ?_
      refine E.To.code ?_
      refine E.C.cond (!((V.fetch ((IntKind.wrap .u32 (p + 1))).toNat).2)) (by kernel_rfl) (by kernel_rfl) (fun hc6 => ?_) (fun hc6 => ?_)
      · skip
        refine E.C.seq ?_
        refine E.C.region ?_
        refine E.G.val (.agg #[.int .i64 0, .int .i64 0, .int .i64 0, .int .i64 0, .int .u32 0]) (by kernel_rfl) (fun w h => E.run_build #[.int .i64 0, .int .i64 0, .int .i64 0, .int .i64 0, .int .u32 0] (by kernel_rfl) w) ?_
        refine E.G.op (.int .u32 p) (fun w => by kernel_rfl) (by kernel_rfl) ?_
        refine E.G.op (.int .i64 1) (fun w => by kernel_rfl) (by kernel_rfl) ?_
        refine E.G.op (.int .u32 1) (fun w => by kernel_rfl) (by kernel_rfl) ?_
        refine E.G.op (.int .u32 (IntKind.wrap .u32 (p + 1))) (fun w => by kernel_rfl) (by kernel_rfl) ?_
        refine E.G.val (.agg #[.int .i64 5, .int .u32 (IntKind.wrap .u32 (p + 1))]) (by kernel_rfl) (fun w h => E.run_build #[.int .i64 5, .int .u32 (IntKind.wrap .u32 (p + 1))] (by kernel_rfl) w) ?_
        refine E.G.store 2 [.int .i64 0, .int .i64 0, .int .i64 0, .int .i64 0, .int .u32 0] rfl rfl (by kernel_rfl) (by kernel_rfl) ?_
        refine E.G.store 1 [.int .i64 5, .int .u32 (IntKind.wrap .u32 (p + 1))] rfl rfl (by kernel_rfl) (by kernel_rfl) ?_
        refine E.To.code ?_
        refine E.C.ret (E.P.rt (E.P.rb (E.P.rt (E.P.rt (E.P.rb (E.P.rt (E.To.body (fn := Try.f58) [.agg #[.int .i64 0, .int .i64 0, .int .i64 0, .int .i64 0, .int .u32 0], .agg #[.int .i64 5, .int .u32 (IntKind.wrap .u32 (p + 1))]] ?_ ?_)))))))
        · exact ⟨⟨by kernel_rfl, _, _, 2, _, rfl, rfl, by kernel_rfl⟩, ⟨by kernel_rfl, _, _, 1, _, rfl, rfl, by kernel_rfl⟩, trivial⟩
        · intro w h
          exact ⟨by show Ending.returned (.tuple #[.agg #[.int .i64 0, .int .i64 0, .int .i64 0, .int .i64 0, .int .u32 0], .agg #[.int .i64 5, .int .u32 (IntKind.wrap .u32 (p + 1))]]) = _; unfold Q.fetch; rw [hc3, cond_false, hc5, cond_false, hc6, cond_true] <;> rfl, h.ch.bel (fun _ h => h.elim)⟩
      · skip
        refine E.C.skip (E.To.code ?_)
        refine E.C.region ?_
        refine E.G.op (.int .i64 1) (fun w => by kernel_rfl) (by kernel_rfl) ?_
        refine E.G.op (.int .u8 ((V.fetch ((IntKind.wrap .u32 (p + 1))).toNat).1)) (fun w => by kernel_rfl) (by kernel_rfl) ?_
        refine E.G.op (.pointer (some ⟨g4, 1, none⟩)) (fun w => by kernel_rfl) (by kernel_rfl) ?_
        refine E.G.store 0 [.int .u8 ((V.fetch ((IntKind.wrap .u32 (p + 0))).toNat).1), .int .u8 ((V.fetch ((IntKind.wrap .u32 (p + 1))).toNat).1), .int .u8 0, .int .u8 0] rfl rfl (by kernel_rfl) (by kernel_rfl) ?_
        refine E.P.nb (E.To.code ?_)
        refine E.C.region ?_
        refine E.G.op (.int .i64 2) (fun w => by kernel_rfl) (by kernel_rfl) ?_
        refine E.G.op (.int .i64 2) (fun w => by kernel_rfl) (by kernel_rfl) ?_
        refine E.To.rounds 2 ?_
        refine E.C.weak [(0, .int .u32 p), (1, .iface 82 (.pointer (some ⟨m, 0, none⟩))), (4, .pointer (some ⟨g1, 0, none⟩)), (5, .pointer (some ⟨g2, 0, none⟩)), (6, .pointer (some ⟨g4, 0, none⟩)), (7, .int .i64 1), (8, .int .u8 ((V.fetch ((IntKind.wrap .u32 (p + 1))).toNat).1)), (9, .bool ((V.fetch ((IntKind.wrap .u32 (p + 1))).toNat).2)), (17, .int .i64 2), (18, .bool true), (19, .int .i64 1), (20, .tuple #[.int .u8 ((V.fetch ((IntKind.wrap .u32 (p + 1))).toNat).1), .bool ((V.fetch ((IntKind.wrap .u32 (p + 1))).toNat).2)]), (21, .iface 82 (.pointer (some ⟨m, 0, none⟩))), (22, .int .u32 p), (23, .int .i64 1), (24, .int .u32 1), (25, .int .u32 (IntKind.wrap .u32 (p + 1))), (26, .tuple #[.int .u8 ((V.fetch ((IntKind.wrap .u32 (p + 1))).toNat).1), .bool ((V.fetch ((IntKind.wrap .u32 (p + 1))).toNat).2)]), (27, .int .u8 ((V.fetch ((IntKind.wrap .u32 (p + 1))).toNat).1)), (28, .bool ((V.fetch ((IntKind.wrap .u32 (p + 1))).toNat).2)), (29, .bool ((V.fetch ((IntKind.wrap .u32 (p + 1))).toNat).2)), (30, .bool (!((V.fetch ((IntKind.wrap .u32 (p + 1))).toNat).2))), (37, .int .i64 1), (38, .int .u8 ((V.fetch ((IntKind.wrap .u32 (p + 1))).toNat).1)), (39, .pointer (some ⟨g4, 1, none⟩)), (40, .int .i64 2)] [(g4, [.int .u8 ((V.fetch ((IntKind.wrap .u32 (p + 0))).toNat).1), .int .u8 ((V.fetch ((IntKind.wrap .u32 (p + 1))).toNat).1), .int .u8 0, .int .u8 0]), (g2, [.int .i64 0, .int .u32 0]), (g1, [.int .i64 0, .int .i64 0, .int .i64 0, .int .i64 0, .int .u32 0])] ⟨by kernel_rfl, by kernel_rfl⟩ (List.Sublist.refl _) ?_
        refine E.C.seq ?_
        refine E.C.region ?_
        refine E.G.op (.bool true) (fun w => by kernel_rfl) (by kernel_rfl) ?_
        refine E.To.code ?_
        refine E.C.seq ?_
        refine E.C.condT (by kernel_rfl) (by kernel_rfl) ?_
        refine E.C.skip (E.To.code ?_)
        refine E.C.seq ?_
        refine E.C.block ?_
        refine E.C.seq ?_
        refine E.C.region ?_
        refine E.G.op (.int .i64 2) (fun w => by kernel_rfl) (by kernel_rfl) ?_
        refine E.G.op (.int .i64 2) (fun w => by kernel_rfl) (by kernel_rfl) ?_
        refine E.To.code ?_
        refine E.C.seq ?_
        refine E.C.region ?_
        refine E.G.op (.iface 82 (.pointer (some ⟨m, 0, none⟩))) (fun w => by kernel_rfl) (by kernel_rfl) ?_
        refine E.G.op (.int .u32 p) (fun w => by kernel_rfl) (by kernel_rfl) ?_
        refine E.G.op (.int .i64 2) (fun w => by kernel_rfl) (by kernel_rfl) ?_
        refine E.G.op (.int .u32 2) (fun w => by kernel_rfl) (by kernel_rfl) ?_
        refine E.G.op (.int .u32 (IntKind.wrap .u32 (p + 2))) (fun w => by kernel_rfl) (by kernel_rfl) ?_
        refine E.G.call (.tuple #[.int .u8 ((V.fetch ((IntKind.wrap .u32 (p + 2))).toNat).1), .bool ((V.fetch ((IntKind.wrap .u32 (p + 2))).toNat).2)]) (fun w h => A.Y.rd [] (I_Fetch (IntKind.wrap .u32 (p + 2)) (Q.wrap_bd _) (m := m) (V := V) (xs := xs)) h.x (A.pm [0] (by kernel_rfl) (by kernel_rfl))) (fun w _ => by kernel_rfl) (by kernel_rfl) ?_
        refine E.G.op (.tuple #[.int .u8 ((V.fetch ((IntKind.wrap .u32 (p + 2))).toNat).1), .bool ((V.fetch ((IntKind.wrap .u32 (p + 2))).toNat).2)]) (fun w => by kernel_rfl) (by kernel_rfl) ?_
        refine E.G.op (.int .u8 ((V.fetch ((IntKind.wrap .u32 (p + 2))).toNat).1)) (fun w => by kernel_rfl) (by kernel_rfl) ?_
        refine E.G.op (.bool ((V.fetch ((IntKind.wrap .u32 (p + 2))).toNat).2)) (fun w => by kernel_rfl) (by kernel_rfl) ?_
        refine E.G.op (.int .u8 ((V.fetch ((IntKind.wrap .u32 (p + 2))).toNat).1)) (fun w => by kernel_rfl) (by kernel_rfl) ?_
        refine E.G.op (.bool ((V.fetch ((IntKind.wrap .u32 (p + 2))).toNat).2)) (fun w => by kernel_rfl) (by kernel_rfl) ?_
        refine E.To.code ?_
        refine E.C.seq ?_
        refine E.C.seq ?_
        refine E.C.region ?_
        refine E.G.op (.bool ((V.fetch ((IntKind.wrap .u32 (p + 2))).toNat).2)) (fun w => by kernel_rfl) (by kernel_rfl) ?_
        refine E.G.op (.bool (!((V.fetch ((IntKind.wrap .u32 (p + 2))).toNat).2))) (fun w => by kernel_rfl) (by kernel_rfl) ?_
        refine E.To.code ?_
        refine E.C.cond (!((V.fetch ((IntKind.wrap .u32 (p + 2))).toNat).2)) (by kernel_rfl) (by kernel_rfl) (fun hc7 => ?_) (fun hc7 => ?_)
        · skip
          refine E.C.seq ?_
          refine E.C.region ?_
          refine E.G.val (.agg #[.int .i64 0, .int .i64 0, .int .i64 0, .int .i64 0, .int .u32 0]) (by kernel_rfl) (fun w h => E.run_build #[.int .i64 0, .int .i64 0, .int .i64 0, .int .i64 0, .int .u32 0] (by kernel_rfl) w) ?_
          refine E.G.op (.int .u32 p) (fun w => by kernel_rfl) (by kernel_rfl) ?_
          refine E.G.op (.int .i64 2) (fun w => by kernel_rfl) (by kernel_rfl) ?_
          refine E.G.op (.int .u32 2) (fun w => by kernel_rfl) (by kernel_rfl) ?_
          refine E.G.op (.int .u32 (IntKind.wrap .u32 (p + 2))) (fun w => by kernel_rfl) (by kernel_rfl) ?_
          refine E.G.val (.agg #[.int .i64 5, .int .u32 (IntKind.wrap .u32 (p + 2))]) (by kernel_rfl) (fun w h => E.run_build #[.int .i64 5, .int .u32 (IntKind.wrap .u32 (p + 2))] (by kernel_rfl) w) ?_
          refine E.G.store 2 [.int .i64 0, .int .i64 0, .int .i64 0, .int .i64 0, .int .u32 0] rfl rfl (by kernel_rfl) (by kernel_rfl) ?_
          refine E.G.store 1 [.int .i64 5, .int .u32 (IntKind.wrap .u32 (p + 2))] rfl rfl (by kernel_rfl) (by kernel_rfl) ?_
          refine E.To.code ?_
          refine E.C.ret (E.P.rt (E.P.rb (E.P.rt (E.P.rt (E.P.rb (E.P.rt (E.To.body (fn := Try.f58) [.agg #[.int .i64 0, .int .i64 0, .int .i64 0, .int .i64 0, .int .u32 0], .agg #[.int .i64 5, .int .u32 (IntKind.wrap .u32 (p + 2))]] ?_ ?_)))))))
          · exact ⟨⟨by kernel_rfl, _, _, 2, _, rfl, rfl, by kernel_rfl⟩, ⟨by kernel_rfl, _, _, 1, _, rfl, rfl, by kernel_rfl⟩, trivial⟩
          · intro w h
            exact ⟨by show Ending.returned (.tuple #[.agg #[.int .i64 0, .int .i64 0, .int .i64 0, .int .i64 0, .int .u32 0], .agg #[.int .i64 5, .int .u32 (IntKind.wrap .u32 (p + 2))]]) = _; unfold Q.fetch; rw [hc3, cond_false, hc5, cond_false, hc6, cond_false, hc7, cond_true] <;> rfl, h.ch.bel (fun _ h => h.elim)⟩
        · skip
          refine E.C.skip (E.To.code ?_)
          refine E.C.region ?_
          refine E.G.op (.int .i64 2) (fun w => by kernel_rfl) (by kernel_rfl) ?_
          refine E.G.op (.int .u8 ((V.fetch ((IntKind.wrap .u32 (p + 2))).toNat).1)) (fun w => by kernel_rfl) (by kernel_rfl) ?_
          refine E.G.op (.pointer (some ⟨g4, 2, none⟩)) (fun w => by kernel_rfl) (by kernel_rfl) ?_
          refine E.G.store 0 [.int .u8 ((V.fetch ((IntKind.wrap .u32 (p + 0))).toNat).1), .int .u8 ((V.fetch ((IntKind.wrap .u32 (p + 1))).toNat).1), .int .u8 ((V.fetch ((IntKind.wrap .u32 (p + 2))).toNat).1), .int .u8 0] rfl rfl (by kernel_rfl) (by kernel_rfl) ?_
          refine E.P.nb (E.To.code ?_)
          refine E.C.region ?_
          refine E.G.op (.int .i64 3) (fun w => by kernel_rfl) (by kernel_rfl) ?_
          refine E.G.op (.int .i64 3) (fun w => by kernel_rfl) (by kernel_rfl) ?_
          refine E.To.rounds 1 ?_
          refine E.C.weak [(0, .int .u32 p), (1, .iface 82 (.pointer (some ⟨m, 0, none⟩))), (4, .pointer (some ⟨g1, 0, none⟩)), (5, .pointer (some ⟨g2, 0, none⟩)), (6, .pointer (some ⟨g4, 0, none⟩)), (7, .int .i64 2), (8, .int .u8 ((V.fetch ((IntKind.wrap .u32 (p + 2))).toNat).1)), (9, .bool ((V.fetch ((IntKind.wrap .u32 (p + 2))).toNat).2)), (17, .int .i64 3), (18, .bool true), (19, .int .i64 2), (20, .tuple #[.int .u8 ((V.fetch ((IntKind.wrap .u32 (p + 2))).toNat).1), .bool ((V.fetch ((IntKind.wrap .u32 (p + 2))).toNat).2)]), (21, .iface 82 (.pointer (some ⟨m, 0, none⟩))), (22, .int .u32 p), (23, .int .i64 2), (24, .int .u32 2), (25, .int .u32 (IntKind.wrap .u32 (p + 2))), (26, .tuple #[.int .u8 ((V.fetch ((IntKind.wrap .u32 (p + 2))).toNat).1), .bool ((V.fetch ((IntKind.wrap .u32 (p + 2))).toNat).2)]), (27, .int .u8 ((V.fetch ((IntKind.wrap .u32 (p + 2))).toNat).1)), (28, .bool ((V.fetch ((IntKind.wrap .u32 (p + 2))).toNat).2)), (29, .bool ((V.fetch ((IntKind.wrap .u32 (p + 2))).toNat).2)), (30, .bool (!((V.fetch ((IntKind.wrap .u32 (p + 2))).toNat).2))), (37, .int .i64 2), (38, .int .u8 ((V.fetch ((IntKind.wrap .u32 (p + 2))).toNat).1)), (39, .pointer (some ⟨g4, 2, none⟩)), (40, .int .i64 3)] [(g4, [.int .u8 ((V.fetch ((IntKind.wrap .u32 (p + 0))).toNat).1), .int .u8 ((V.fetch ((IntKind.wrap .u32 (p + 1))).toNat).1), .int .u8 ((V.fetch ((IntKind.wrap .u32 (p + 2))).toNat).1), .int .u8 0]), (g2, [.int .i64 0, .int .u32 0]), (g1, [.int .i64 0, .int .i64 0, .int .i64 0, .int .i64 0, .int .u32 0])] ⟨by kernel_rfl, by kernel_rfl⟩ (List.Sublist.refl _) ?_
          refine E.C.seq ?_
          refine E.C.region ?_
          refine E.G.op (.bool true) (fun w => by kernel_rfl) (by kernel_rfl) ?_
          refine E.To.code ?_
          refine E.C.seq ?_
          refine E.C.condT (by kernel_rfl) (by kernel_rfl) ?_
          refine E.C.skip (E.To.code ?_)
          refine E.C.seq ?_
          refine E.C.block ?_
          refine E.C.seq ?_
          refine E.C.region ?_
          refine E.G.op (.int .i64 3) (fun w => by kernel_rfl) (by kernel_rfl) ?_
          refine E.G.op (.int .i64 3) (fun w => by kernel_rfl) (by kernel_rfl) ?_
          refine E.To.code ?_
          refine E.C.seq ?_
          refine E.C.region ?_
          refine E.G.op (.iface 82 (.pointer (some ⟨m, 0, none⟩))) (fun w => by kernel_rfl) (by kernel_rfl) ?_
          refine E.G.op (.int .u32 p) (fun w => by kernel_rfl) (by kernel_rfl) ?_
          refine E.G.op (.int .i64 3) (fun w => by kernel_rfl) (by kernel_rfl) ?_
          refine E.G.op (.int .u32 3) (fun w => by kernel_rfl) (by kernel_rfl) ?_
          refine E.G.op (.int .u32 (IntKind.wrap .u32 (p + 3))) (fun w => by kernel_rfl) (by kernel_rfl) ?_
          refine E.G.call (.tuple #[.int .u8 ((V.fetch ((IntKind.wrap .u32 (p + 3))).toNat).1), .bool ((V.fetch ((IntKind.wrap .u32 (p + 3))).toNat).2)]) (fun w h => A.Y.rd [] (I_Fetch (IntKind.wrap .u32 (p + 3)) (Q.wrap_bd _) (m := m) (V := V) (xs := xs)) h.x (A.pm [0] (by kernel_rfl) (by kernel_rfl))) (fun w _ => by kernel_rfl) (by kernel_rfl) ?_
          refine E.G.op (.tuple #[.int .u8 ((V.fetch ((IntKind.wrap .u32 (p + 3))).toNat).1), .bool ((V.fetch ((IntKind.wrap .u32 (p + 3))).toNat).2)]) (fun w => by kernel_rfl) (by kernel_rfl) ?_
          refine E.G.op (.int .u8 ((V.fetch ((IntKind.wrap .u32 (p + 3))).toNat).1)) (fun w => by kernel_rfl) (by kernel_rfl) ?_
          refine E.G.op (.bool ((V.fetch ((IntKind.wrap .u32 (p + 3))).toNat).2)) (fun w => by kernel_rfl) (by kernel_rfl) ?_
          refine E.G.op (.int .u8 ((V.fetch ((IntKind.wrap .u32 (p + 3))).toNat).1)) (fun w => by kernel_rfl) (by kernel_rfl) ?_
          refine E.G.op (.bool ((V.fetch ((IntKind.wrap .u32 (p + 3))).toNat).2)) (fun w => by kernel_rfl) (by kernel_rfl) ?_
          refine E.To.code ?_
          refine E.C.seq ?_
          refine E.C.seq ?_
          refine E.C.region ?_
          refine E.G.op (.bool ((V.fetch ((IntKind.wrap .u32 (p + 3))).toNat).2)) (fun w => by kernel_rfl) (by kernel_rfl) ?_
          refine E.G.op (.bool (!((V.fetch ((IntKind.wrap .u32 (p + 3))).toNat).2))) (fun w => by kernel_rfl) (by kernel_rfl) ?_
          refine E.To.code ?_
          refine E.C.cond (!((V.fetch ((IntKind.wrap .u32 (p + 3))).toNat).2)) (by kernel_rfl) (by kernel_rfl) (fun hc8 => ?_) (fun hc8 => ?_)
          · skip
            refine E.C.seq ?_
            refine E.C.region ?_
            refine E.G.val (.agg #[.int .i64 0, .int .i64 0, .int .i64 0, .int .i64 0, .int .u32 0]) (by kernel_rfl) (fun w h => E.run_build #[.int .i64 0, .int .i64 0, .int .i64 0, .int .i64 0, .int .u32 0] (by kernel_rfl) w) ?_
            refine E.G.op (.int .u32 p) (fun w => by kernel_rfl) (by kernel_rfl) ?_
            refine E.G.op (.int .i64 3) (fun w => by kernel_rfl) (by kernel_rfl) ?_
            refine E.G.op (.int .u32 3) (fun w => by kernel_rfl) (by kernel_rfl) ?_
            refine E.G.op (.int .u32 (IntKind.wrap .u32 (p + 3))) (fun w => by kernel_rfl) (by kernel_rfl) ?_
            refine E.G.val (.agg #[.int .i64 5, .int .u32 (IntKind.wrap .u32 (p + 3))]) (by kernel_rfl) (fun w h => E.run_build #[.int .i64 5, .int .u32 (IntKind.wrap .u32 (p + 3))] (by kernel_rfl) w) ?_
            refine E.G.store 2 [.int .i64 0, .int .i64 0, .int .i64 0, .int .i64 0, .int .u32 0] rfl rfl (by kernel_rfl) (by kernel_rfl) ?_
            refine E.G.store 1 [.int .i64 5, .int .u32 (IntKind.wrap .u32 (p + 3))] rfl rfl (by kernel_rfl) (by kernel_rfl) ?_
            refine E.To.code ?_
            refine E.C.ret (E.P.rt (E.P.rb (E.P.rt (E.P.rt (E.P.rb (E.P.rt (E.To.body (fn := Try.f58) [.agg #[.int .i64 0, .int .i64 0, .int .i64 0, .int .i64 0, .int .u32 0], .agg #[.int .i64 5, .int .u32 (IntKind.wrap .u32 (p + 3))]] ?_ ?_)))))))
            · exact ⟨⟨by kernel_rfl, _, _, 2, _, rfl, rfl, by kernel_rfl⟩, ⟨by kernel_rfl, _, _, 1, _, rfl, rfl, by kernel_rfl⟩, trivial⟩
            · intro w h
              exact ⟨by show Ending.returned (.tuple #[.agg #[.int .i64 0, .int .i64 0, .int .i64 0, .int .i64 0, .int .u32 0], .agg #[.int .i64 5, .int .u32 (IntKind.wrap .u32 (p + 3))]]) = _; unfold Q.fetch; rw [hc3, cond_false, hc5, cond_false, hc6, cond_false, hc7, cond_false, hc8, cond_true] <;> rfl, h.ch.bel (fun _ h => h.elim)⟩
          · skip
            refine E.C.skip (E.To.code ?_)
            refine E.C.region ?_
            refine E.G.op (.int .i64 3) (fun w => by kernel_rfl) (by kernel_rfl) ?_
            refine E.G.op (.int .u8 ((V.fetch ((IntKind.wrap .u32 (p + 3))).toNat).1)) (fun w => by kernel_rfl) (by kernel_rfl) ?_
            refine E.G.op (.pointer (some ⟨g4, 3, none⟩)) (fun w => by kernel_rfl) (by kernel_rfl) ?_
            refine E.G.store 0 [.int .u8 ((V.fetch ((IntKind.wrap .u32 (p + 0))).toNat).1), .int .u8 ((V.fetch ((IntKind.wrap .u32 (p + 1))).toNat).1), .int .u8 ((V.fetch ((IntKind.wrap .u32 (p + 2))).toNat).1), .int .u8 ((V.fetch ((IntKind.wrap .u32 (p + 3))).toNat).1)] rfl rfl (by kernel_rfl) (by kernel_rfl) ?_
            refine E.P.nb (E.To.code ?_)
            refine E.C.region ?_
            refine E.G.op (.int .i64 4) (fun w => by kernel_rfl) (by kernel_rfl) ?_
            refine E.G.op (.int .i64 4) (fun w => by kernel_rfl) (by kernel_rfl) ?_
            refine E.To.rounds 0 ?_
            refine E.C.weak [(0, .int .u32 p), (1, .iface 82 (.pointer (some ⟨m, 0, none⟩))), (4, .pointer (some ⟨g1, 0, none⟩)), (5, .pointer (some ⟨g2, 0, none⟩)), (6, .pointer (some ⟨g4, 0, none⟩)), (7, .int .i64 3), (8, .int .u8 ((V.fetch ((IntKind.wrap .u32 (p + 3))).toNat).1)), (9, .bool ((V.fetch ((IntKind.wrap .u32 (p + 3))).toNat).2)), (17, .int .i64 4), (18, .bool true), (19, .int .i64 3), (20, .tuple #[.int .u8 ((V.fetch ((IntKind.wrap .u32 (p + 3))).toNat).1), .bool ((V.fetch ((IntKind.wrap .u32 (p + 3))).toNat).2)]), (21, .iface 82 (.pointer (some ⟨m, 0, none⟩))), (22, .int .u32 p), (23, .int .i64 3), (24, .int .u32 3), (25, .int .u32 (IntKind.wrap .u32 (p + 3))), (26, .tuple #[.int .u8 ((V.fetch ((IntKind.wrap .u32 (p + 3))).toNat).1), .bool ((V.fetch ((IntKind.wrap .u32 (p + 3))).toNat).2)]), (27, .int .u8 ((V.fetch ((IntKind.wrap .u32 (p + 3))).toNat).1)), (28, .bool ((V.fetch ((IntKind.wrap .u32 (p + 3))).toNat).2)), (29, .bool ((V.fetch ((IntKind.wrap .u32 (p + 3))).toNat).2)), (30, .bool (!((V.fetch ((IntKind.wrap .u32 (p + 3))).toNat).2))), (37, .int .i64 3), (38, .int .u8 ((V.fetch ((IntKind.wrap .u32 (p + 3))).toNat).1)), (39, .pointer (some ⟨g4, 3, none⟩)), (40, .int .i64 4)] [(g4, [.int .u8 ((V.fetch ((IntKind.wrap .u32 (p + 0))).toNat).1), .int .u8 ((V.fetch ((IntKind.wrap .u32 (p + 1))).toNat).1), .int .u8 ((V.fetch ((IntKind.wrap .u32 (p + 2))).toNat).1), .int .u8 ((V.fetch ((IntKind.wrap .u32 (p + 3))).toNat).1)]), (g2, [.int .i64 0, .int .u32 0]), (g1, [.int .i64 0, .int .i64 0, .int .i64 0, .int .i64 0, .int .u32 0])] ⟨by kernel_rfl, by kernel_rfl⟩ (List.Sublist.refl _) ?_
            refine E.C.seq ?_
            refine E.C.region ?_
            refine E.G.op (.bool false) (fun w => by kernel_rfl) (by kernel_rfl) ?_
            refine E.To.code ?_
            refine E.C.seq ?_
            refine E.C.condF (by kernel_rfl) (by kernel_rfl) ?_
            refine E.C.exit (E.P.et (E.P.et (E.P.eh (E.To.code ?_))))
            refine E.C.weak [(4, .pointer (some ⟨g1, 0, none⟩)), (5, .pointer (some ⟨g2, 0, none⟩)), (6, .pointer (some ⟨g4, 0, none⟩))] [(g4, [.int .u8 ((V.fetch ((IntKind.wrap .u32 (p + 0))).toNat).1), .int .u8 ((V.fetch ((IntKind.wrap .u32 (p + 1))).toNat).1), .int .u8 ((V.fetch ((IntKind.wrap .u32 (p + 2))).toNat).1), .int .u8 ((V.fetch ((IntKind.wrap .u32 (p + 3))).toNat).1)]), (g2, [.int .i64 0, .int .u32 0]), (g1, [.int .i64 0, .int .i64 0, .int .i64 0, .int .i64 0, .int .u32 0])] ⟨by kernel_rfl, by kernel_rfl⟩ (List.Sublist.refl _) ?_
            refine E.C.seq ?_
            refine E.C.region ?_
            refine E.G.val (.slice (some ⟨g4, 0, none⟩) 4 4) (by kernel_rfl) (fun w h => by kernel_rfl) ?_
            refine E.G.val (.string (strOfNums [(V.fetch ((IntKind.wrap .u32 (p + 0))).toNat).1, (V.fetch ((IntKind.wrap .u32 (p + 1))).toNat).1, (V.fetch ((IntKind.wrap .u32 (p + 2))).toNat).1, (V.fetch ((IntKind.wrap .u32 (p + 3))).toNat).1])) (by kernel_rfl) (fun w h => E.b2s h 0 g4 0 4 4 [(V.fetch ((IntKind.wrap .u32 (p + 0))).toNat).1, (V.fetch ((IntKind.wrap .u32 (p + 1))).toNat).1, (V.fetch ((IntKind.wrap .u32 (p + 2))).toNat).1, (V.fetch ((IntKind.wrap .u32 (p + 3))).toNat).1] (e := 5) (by kernel_rfl) (by kernel_rfl) (by kernel_rfl) (by kernel_rfl) rfl (by kernel_rfl) rfl) ?_
            refine E.G.call (.int .u32 (W.get (strOfNums [(V.fetch ((IntKind.wrap .u32 (p + 0))).toNat).1, (V.fetch ((IntKind.wrap .u32 (p + 1))).toNat).1, (V.fetch ((IntKind.wrap .u32 (p + 2))).toNat).1, (V.fetch ((IntKind.wrap .u32 (p + 3))).toNat).1]).data.toList)) (fun w h => Get_any (strOfNums [(V.fetch ((IntKind.wrap .u32 (p + 0))).toNat).1, (V.fetch ((IntKind.wrap .u32 (p + 1))).toNat).1, (V.fetch ((IntKind.wrap .u32 (p + 2))).toNat).1, (V.fetch ((IntKind.wrap .u32 (p + 3))).toNat).1]) (by rw [strOfNums_size]; show (4 : Nat) ≤ maxLen; decide) w) (fun w _ => by kernel_rfl) (by kernel_rfl) ?_
            refine E.G.call (.tuple #[.agg #[.int .i64 (((Q.decode (W.get (strOfNums [(V.fetch ((IntKind.wrap .u32 (p + 0))).toNat).1, (V.fetch ((IntKind.wrap .u32 (p + 1))).toNat).1, (V.fetch ((IntKind.wrap .u32 (p + 2))).toNat).1, (V.fetch ((IntKind.wrap .u32 (p + 3))).toNat).1]).data.toList)).1).op), .int .i64 (((Q.decode (W.get (strOfNums [(V.fetch ((IntKind.wrap .u32 (p + 0))).toNat).1, (V.fetch ((IntKind.wrap .u32 (p + 1))).toNat).1, (V.fetch ((IntKind.wrap .u32 (p + 2))).toNat).1, (V.fetch ((IntKind.wrap .u32 (p + 3))).toNat).1]).data.toList)).1).d), .int .i64 (((Q.decode (W.get (strOfNums [(V.fetch ((IntKind.wrap .u32 (p + 0))).toNat).1, (V.fetch ((IntKind.wrap .u32 (p + 1))).toNat).1, (V.fetch ((IntKind.wrap .u32 (p + 2))).toNat).1, (V.fetch ((IntKind.wrap .u32 (p + 3))).toNat).1]).data.toList)).1).a), .int .i64 (((Q.decode (W.get (strOfNums [(V.fetch ((IntKind.wrap .u32 (p + 0))).toNat).1, (V.fetch ((IntKind.wrap .u32 (p + 1))).toNat).1, (V.fetch ((IntKind.wrap .u32 (p + 2))).toNat).1, (V.fetch ((IntKind.wrap .u32 (p + 3))).toNat).1]).data.toList)).1).b), .int .u32 (((Q.decode (W.get (strOfNums [(V.fetch ((IntKind.wrap .u32 (p + 0))).toNat).1, (V.fetch ((IntKind.wrap .u32 (p + 1))).toNat).1, (V.fetch ((IntKind.wrap .u32 (p + 2))).toNat).1, (V.fetch ((IntKind.wrap .u32 (p + 3))).toNat).1]).data.toList)).1).imm)], .int .i64 ((Q.decode (W.get (strOfNums [(V.fetch ((IntKind.wrap .u32 (p + 0))).toNat).1, (V.fetch ((IntKind.wrap .u32 (p + 1))).toNat).1, (V.fetch ((IntKind.wrap .u32 (p + 2))).toNat).1, (V.fetch ((IntKind.wrap .u32 (p + 3))).toNat).1]).data.toList)).2)]) (fun w h => Decode_any (W.get (strOfNums [(V.fetch ((IntKind.wrap .u32 (p + 0))).toNat).1, (V.fetch ((IntKind.wrap .u32 (p + 1))).toNat).1, (V.fetch ((IntKind.wrap .u32 (p + 2))).toNat).1, (V.fetch ((IntKind.wrap .u32 (p + 3))).toNat).1]).data.toList) w) (fun w _ => by kernel_rfl) (by kernel_rfl) ?_
            refine E.G.op (.tuple #[.agg #[.int .i64 (((Q.decode (W.get (strOfNums [(V.fetch ((IntKind.wrap .u32 (p + 0))).toNat).1, (V.fetch ((IntKind.wrap .u32 (p + 1))).toNat).1, (V.fetch ((IntKind.wrap .u32 (p + 2))).toNat).1, (V.fetch ((IntKind.wrap .u32 (p + 3))).toNat).1]).data.toList)).1).op), .int .i64 (((Q.decode (W.get (strOfNums [(V.fetch ((IntKind.wrap .u32 (p + 0))).toNat).1, (V.fetch ((IntKind.wrap .u32 (p + 1))).toNat).1, (V.fetch ((IntKind.wrap .u32 (p + 2))).toNat).1, (V.fetch ((IntKind.wrap .u32 (p + 3))).toNat).1]).data.toList)).1).d), .int .i64 (((Q.decode (W.get (strOfNums [(V.fetch ((IntKind.wrap .u32 (p + 0))).toNat).1, (V.fetch ((IntKind.wrap .u32 (p + 1))).toNat).1, (V.fetch ((IntKind.wrap .u32 (p + 2))).toNat).1, (V.fetch ((IntKind.wrap .u32 (p + 3))).toNat).1]).data.toList)).1).a), .int .i64 (((Q.decode (W.get (strOfNums [(V.fetch ((IntKind.wrap .u32 (p + 0))).toNat).1, (V.fetch ((IntKind.wrap .u32 (p + 1))).toNat).1, (V.fetch ((IntKind.wrap .u32 (p + 2))).toNat).1, (V.fetch ((IntKind.wrap .u32 (p + 3))).toNat).1]).data.toList)).1).b), .int .u32 (((Q.decode (W.get (strOfNums [(V.fetch ((IntKind.wrap .u32 (p + 0))).toNat).1, (V.fetch ((IntKind.wrap .u32 (p + 1))).toNat).1, (V.fetch ((IntKind.wrap .u32 (p + 2))).toNat).1, (V.fetch ((IntKind.wrap .u32 (p + 3))).toNat).1]).data.toList)).1).imm)], .int .i64 ((Q.decode (W.get (strOfNums [(V.fetch ((IntKind.wrap .u32 (p + 0))).toNat).1, (V.fetch ((IntKind.wrap .u32 (p + 1))).toNat).1, (V.fetch ((IntKind.wrap .u32 (p + 2))).toNat).1, (V.fetch ((IntKind.wrap .u32 (p + 3))).toNat).1]).data.toList)).2)]) (fun w => by kernel_rfl) (by kernel_rfl) ?_
            refine E.G.op (.agg #[.int .i64 (((Q.decode (W.get (strOfNums [(V.fetch ((IntKind.wrap .u32 (p + 0))).toNat).1, (V.fetch ((IntKind.wrap .u32 (p + 1))).toNat).1, (V.fetch ((IntKind.wrap .u32 (p + 2))).toNat).1, (V.fetch ((IntKind.wrap .u32 (p + 3))).toNat).1]).data.toList)).1).op), .int .i64 (((Q.decode (W.get (strOfNums [(V.fetch ((IntKind.wrap .u32 (p + 0))).toNat).1, (V.fetch ((IntKind.wrap .u32 (p + 1))).toNat).1, (V.fetch ((IntKind.wrap .u32 (p + 2))).toNat).1, (V.fetch ((IntKind.wrap .u32 (p + 3))).toNat).1]).data.toList)).1).d), .int .i64 (((Q.decode (W.get (strOfNums [(V.fetch ((IntKind.wrap .u32 (p + 0))).toNat).1, (V.fetch ((IntKind.wrap .u32 (p + 1))).toNat).1, (V.fetch ((IntKind.wrap .u32 (p + 2))).toNat).1, (V.fetch ((IntKind.wrap .u32 (p + 3))).toNat).1]).data.toList)).1).a), .int .i64 (((Q.decode (W.get (strOfNums [(V.fetch ((IntKind.wrap .u32 (p + 0))).toNat).1, (V.fetch ((IntKind.wrap .u32 (p + 1))).toNat).1, (V.fetch ((IntKind.wrap .u32 (p + 2))).toNat).1, (V.fetch ((IntKind.wrap .u32 (p + 3))).toNat).1]).data.toList)).1).b), .int .u32 (((Q.decode (W.get (strOfNums [(V.fetch ((IntKind.wrap .u32 (p + 0))).toNat).1, (V.fetch ((IntKind.wrap .u32 (p + 1))).toNat).1, (V.fetch ((IntKind.wrap .u32 (p + 2))).toNat).1, (V.fetch ((IntKind.wrap .u32 (p + 3))).toNat).1]).data.toList)).1).imm)]) (fun w => by kernel_rfl) (by kernel_rfl) ?_
            refine E.G.op (.int .i64 ((Q.decode (W.get (strOfNums [(V.fetch ((IntKind.wrap .u32 (p + 0))).toNat).1, (V.fetch ((IntKind.wrap .u32 (p + 1))).toNat).1, (V.fetch ((IntKind.wrap .u32 (p + 2))).toNat).1, (V.fetch ((IntKind.wrap .u32 (p + 3))).toNat).1]).data.toList)).2)) (fun w => by kernel_rfl) (by kernel_rfl) ?_
            refine E.G.new (fun g => .pointer (some ⟨g, 0, none⟩)) [.int .i64 0, .int .i64 0, .int .i64 0, .int .i64 0, .int .u32 0] 47 (fun w => by kernel_rfl) (by kernel_rfl) (fun g9 => ?_)
            refine E.G.store 0 [.int .i64 (((Q.decode (W.get (strOfNums [(V.fetch ((IntKind.wrap .u32 (p + 0))).toNat).1, (V.fetch ((IntKind.wrap .u32 (p + 1))).toNat).1, (V.fetch ((IntKind.wrap .u32 (p + 2))).toNat).1, (V.fetch ((IntKind.wrap .u32 (p + 3))).toNat).1]).data.toList)).1).op), .int .i64 (((Q.decode (W.get (strOfNums [(V.fetch ((IntKind.wrap .u32 (p + 0))).toNat).1, (V.fetch ((IntKind.wrap .u32 (p + 1))).toNat).1, (V.fetch ((IntKind.wrap .u32 (p + 2))).toNat).1, (V.fetch ((IntKind.wrap .u32 (p + 3))).toNat).1]).data.toList)).1).d), .int .i64 (((Q.decode (W.get (strOfNums [(V.fetch ((IntKind.wrap .u32 (p + 0))).toNat).1, (V.fetch ((IntKind.wrap .u32 (p + 1))).toNat).1, (V.fetch ((IntKind.wrap .u32 (p + 2))).toNat).1, (V.fetch ((IntKind.wrap .u32 (p + 3))).toNat).1]).data.toList)).1).a), .int .i64 (((Q.decode (W.get (strOfNums [(V.fetch ((IntKind.wrap .u32 (p + 0))).toNat).1, (V.fetch ((IntKind.wrap .u32 (p + 1))).toNat).1, (V.fetch ((IntKind.wrap .u32 (p + 2))).toNat).1, (V.fetch ((IntKind.wrap .u32 (p + 3))).toNat).1]).data.toList)).1).b), .int .u32 (((Q.decode (W.get (strOfNums [(V.fetch ((IntKind.wrap .u32 (p + 0))).toNat).1, (V.fetch ((IntKind.wrap .u32 (p + 1))).toNat).1, (V.fetch ((IntKind.wrap .u32 (p + 2))).toNat).1, (V.fetch ((IntKind.wrap .u32 (p + 3))).toNat).1]).data.toList)).1).imm)] rfl rfl (by kernel_rfl) (by kernel_rfl) ?_
            refine E.G.op (.int .i64 ((Q.decode (W.get (strOfNums [(V.fetch ((IntKind.wrap .u32 (p + 0))).toNat).1, (V.fetch ((IntKind.wrap .u32 (p + 1))).toNat).1, (V.fetch ((IntKind.wrap .u32 (p + 2))).toNat).1, (V.fetch ((IntKind.wrap .u32 (p + 3))).toNat).1]).data.toList)).2)) (fun w => by kernel_rfl) (by kernel_rfl) ?_
            refine E.To.code ?_
            refine E.C.weak [(4, .pointer (some ⟨g1, 0, none⟩)), (5, .pointer (some ⟨g2, 0, none⟩)), (10, .pointer (some ⟨g9, 0, none⟩)), (11, .int .i64 ((Q.decode (W.get (strOfNums [(V.fetch ((IntKind.wrap .u32 (p + 0))).toNat).1, (V.fetch ((IntKind.wrap .u32 (p + 1))).toNat).1, (V.fetch ((IntKind.wrap .u32 (p + 2))).toNat).1, (V.fetch ((IntKind.wrap .u32 (p + 3))).toNat).1]).data.toList)).2))] [(g9, [.int .i64 (((Q.decode (W.get (strOfNums [(V.fetch ((IntKind.wrap .u32 (p + 0))).toNat).1, (V.fetch ((IntKind.wrap .u32 (p + 1))).toNat).1, (V.fetch ((IntKind.wrap .u32 (p + 2))).toNat).1, (V.fetch ((IntKind.wrap .u32 (p + 3))).toNat).1]).data.toList)).1).op), .int .i64 (((Q.decode (W.get (strOfNums [(V.fetch ((IntKind.wrap .u32 (p + 0))).toNat).1, (V.fetch ((IntKind.wrap .u32 (p + 1))).toNat).1, (V.fetch ((IntKind.wrap .u32 (p + 2))).toNat).1, (V.fetch ((IntKind.wrap .u32 (p + 3))).toNat).1]).data.toList)).1).d), .int .i64 (((Q.decode (W.get (strOfNums [(V.fetch ((IntKind.wrap .u32 (p + 0))).toNat).1, (V.fetch ((IntKind.wrap .u32 (p + 1))).toNat).1, (V.fetch ((IntKind.wrap .u32 (p + 2))).toNat).1, (V.fetch ((IntKind.wrap .u32 (p + 3))).toNat).1]).data.toList)).1).a), .int .i64 (((Q.decode (W.get (strOfNums [(V.fetch ((IntKind.wrap .u32 (p + 0))).toNat).1, (V.fetch ((IntKind.wrap .u32 (p + 1))).toNat).1, (V.fetch ((IntKind.wrap .u32 (p + 2))).toNat).1, (V.fetch ((IntKind.wrap .u32 (p + 3))).toNat).1]).data.toList)).1).b), .int .u32 (((Q.decode (W.get (strOfNums [(V.fetch ((IntKind.wrap .u32 (p + 0))).toNat).1, (V.fetch ((IntKind.wrap .u32 (p + 1))).toNat).1, (V.fetch ((IntKind.wrap .u32 (p + 2))).toNat).1, (V.fetch ((IntKind.wrap .u32 (p + 3))).toNat).1]).data.toList)).1).imm)]), (g2, [.int .i64 0, .int .u32 0]), (g1, [.int .i64 0, .int .i64 0, .int .i64 0, .int .i64 0, .int .u32 0])] ⟨by kernel_rfl, by kernel_rfl⟩ (List.Sublist.cons_cons _ (List.Sublist.cons _ (List.Sublist.refl _))) ?_
            refine E.C.seq ?_
            refine E.C.seq ?_
            refine E.C.region ?_
            refine E.G.op (.int .i64 ((Q.decode (W.get (strOfNums [(V.fetch ((IntKind.wrap .u32 (p + 0))).toNat).1, (V.fetch ((IntKind.wrap .u32 (p + 1))).toNat).1, (V.fetch ((IntKind.wrap .u32 (p + 2))).toNat).1, (V.fetch ((IntKind.wrap .u32 (p + 3))).toNat).1]).data.toList)).2)) (fun w => by kernel_rfl) (by kernel_rfl) ?_
            refine E.G.op (.bool (((Q.decode (W.get (strOfNums [(V.fetch ((IntKind.wrap .u32 (p + 0))).toNat).1, (V.fetch ((IntKind.wrap .u32 (p + 1))).toNat).1, (V.fetch ((IntKind.wrap .u32 (p + 2))).toNat).1, (V.fetch ((IntKind.wrap .u32 (p + 3))).toNat).1]).data.toList)).2) != 0)) (fun w => by kernel_rfl) (by kernel_rfl) ?_
            refine E.To.code ?_
            refine E.C.cond (((Q.decode (W.get (strOfNums [(V.fetch ((IntKind.wrap .u32 (p + 0))).toNat).1, (V.fetch ((IntKind.wrap .u32 (p + 1))).toNat).1, (V.fetch ((IntKind.wrap .u32 (p + 2))).toNat).1, (V.fetch ((IntKind.wrap .u32 (p + 3))).toNat).1]).data.toList)).2) != 0) (by kernel_rfl) (by kernel_rfl) (fun hc10 => ?_) (fun hc10 => ?_)
            · skip
              refine E.C.seq ?_
              refine E.C.region ?_
              refine E.G.val (.agg #[.int .i64 (((Q.decode (W.get (strOfNums [(V.fetch ((IntKind.wrap .u32 (p + 0))).toNat).1, (V.fetch ((IntKind.wrap .u32 (p + 1))).toNat).1, (V.fetch ((IntKind.wrap .u32 (p + 2))).toNat).1, (V.fetch ((IntKind.wrap .u32 (p + 3))).toNat).1]).data.toList)).1).op), .int .i64 (((Q.decode (W.get (strOfNums [(V.fetch ((IntKind.wrap .u32 (p + 0))).toNat).1, (V.fetch ((IntKind.wrap .u32 (p + 1))).toNat).1, (V.fetch ((IntKind.wrap .u32 (p + 2))).toNat).1, (V.fetch ((IntKind.wrap .u32 (p + 3))).toNat).1]).data.toList)).1).d), .int .i64 (((Q.decode (W.get (strOfNums [(V.fetch ((IntKind.wrap .u32 (p + 0))).toNat).1, (V.fetch ((IntKind.wrap .u32 (p + 1))).toNat).1, (V.fetch ((IntKind.wrap .u32 (p + 2))).toNat).1, (V.fetch ((IntKind.wrap .u32 (p + 3))).toNat).1]).data.toList)).1).a), .int .i64 (((Q.decode (W.get (strOfNums [(V.fetch ((IntKind.wrap .u32 (p + 0))).toNat).1, (V.fetch ((IntKind.wrap .u32 (p + 1))).toNat).1, (V.fetch ((IntKind.wrap .u32 (p + 2))).toNat).1, (V.fetch ((IntKind.wrap .u32 (p + 3))).toNat).1]).data.toList)).1).b), .int .u32 (((Q.decode (W.get (strOfNums [(V.fetch ((IntKind.wrap .u32 (p + 0))).toNat).1, (V.fetch ((IntKind.wrap .u32 (p + 1))).toNat).1, (V.fetch ((IntKind.wrap .u32 (p + 2))).toNat).1, (V.fetch ((IntKind.wrap .u32 (p + 3))).toNat).1]).data.toList)).1).imm)]) (by kernel_rfl) (fun w h => E.run_load h 0 rfl rfl (by kernel_rfl)) ?_
              refine E.G.val (.agg #[.int .i64 7, .int .u32 0]) (by kernel_rfl) (fun w h => E.run_build #[.int .i64 7, .int .u32 0] (by kernel_rfl) w) ?_
              refine E.G.store 2 [.int .i64 (((Q.decode (W.get (strOfNums [(V.fetch ((IntKind.wrap .u32 (p + 0))).toNat).1, (V.fetch ((IntKind.wrap .u32 (p + 1))).toNat).1, (V.fetch ((IntKind.wrap .u32 (p + 2))).toNat).1, (V.fetch ((IntKind.wrap .u32 (p + 3))).toNat).1]).data.toList)).1).op), .int .i64 (((Q.decode (W.get (strOfNums [(V.fetch ((IntKind.wrap .u32 (p + 0))).toNat).1, (V.fetch ((IntKind.wrap .u32 (p + 1))).toNat).1, (V.fetch ((IntKind.wrap .u32 (p + 2))).toNat).1, (V.fetch ((IntKind.wrap .u32 (p + 3))).toNat).1]).data.toList)).1).d), .int .i64 (((Q.decode (W.get (strOfNums [(V.fetch ((IntKind.wrap .u32 (p + 0))).toNat).1, (V.fetch ((IntKind.wrap .u32 (p + 1))).toNat).1, (V.fetch ((IntKind.wrap .u32 (p + 2))).toNat).1, (V.fetch ((IntKind.wrap .u32 (p + 3))).toNat).1]).data.toList)).1).a), .int .i64 (((Q.decode (W.get (strOfNums [(V.fetch ((IntKind.wrap .u32 (p + 0))).toNat).1, (V.fetch ((IntKind.wrap .u32 (p + 1))).toNat).1, (V.fetch ((IntKind.wrap .u32 (p + 2))).toNat).1, (V.fetch ((IntKind.wrap .u32 (p + 3))).toNat).1]).data.toList)).1).b), .int .u32 (((Q.decode (W.get (strOfNums [(V.fetch ((IntKind.wrap .u32 (p + 0))).toNat).1, (V.fetch ((IntKind.wrap .u32 (p + 1))).toNat).1, (V.fetch ((IntKind.wrap .u32 (p + 2))).toNat).1, (V.fetch ((IntKind.wrap .u32 (p + 3))).toNat).1]).data.toList)).1).imm)] rfl rfl (by kernel_rfl) (by kernel_rfl) ?_
              refine E.G.store 1 [.int .i64 7, .int .u32 0] rfl rfl (by kernel_rfl) (by kernel_rfl) ?_
              refine E.To.code ?_
              refine E.C.ret (E.P.rt (E.To.body (fn := Try.f58) [.agg #[.int .i64 (((Q.decode (W.get (strOfNums [(V.fetch ((IntKind.wrap .u32 (p + 0))).toNat).1, (V.fetch ((IntKind.wrap .u32 (p + 1))).toNat).1, (V.fetch ((IntKind.wrap .u32 (p + 2))).toNat).1, (V.fetch ((IntKind.wrap .u32 (p + 3))).toNat).1]).data.toList)).1).op), .int .i64 (((Q.decode (W.get (strOfNums [(V.fetch ((IntKind.wrap .u32 (p + 0))).toNat).1, (V.fetch ((IntKind.wrap .u32 (p + 1))).toNat).1, (V.fetch ((IntKind.wrap .u32 (p + 2))).toNat).1, (V.fetch ((IntKind.wrap .u32 (p + 3))).toNat).1]).data.toList)).1).d), .int .i64 (((Q.decode (W.get (strOfNums [(V.fetch ((IntKind.wrap .u32 (p + 0))).toNat).1, (V.fetch ((IntKind.wrap .u32 (p + 1))).toNat).1, (V.fetch ((IntKind.wrap .u32 (p + 2))).toNat).1, (V.fetch ((IntKind.wrap .u32 (p + 3))).toNat).1]).data.toList)).1).a), .int .i64 (((Q.decode (W.get (strOfNums [(V.fetch ((IntKind.wrap .u32 (p + 0))).toNat).1, (V.fetch ((IntKind.wrap .u32 (p + 1))).toNat).1, (V.fetch ((IntKind.wrap .u32 (p + 2))).toNat).1, (V.fetch ((IntKind.wrap .u32 (p + 3))).toNat).1]).data.toList)).1).b), .int .u32 (((Q.decode (W.get (strOfNums [(V.fetch ((IntKind.wrap .u32 (p + 0))).toNat).1, (V.fetch ((IntKind.wrap .u32 (p + 1))).toNat).1, (V.fetch ((IntKind.wrap .u32 (p + 2))).toNat).1, (V.fetch ((IntKind.wrap .u32 (p + 3))).toNat).1]).data.toList)).1).imm)], .agg #[.int .i64 7, .int .u32 0]] ?_ ?_))
              · exact ⟨⟨by kernel_rfl, _, _, 2, _, rfl, rfl, by kernel_rfl⟩, ⟨by kernel_rfl, _, _, 1, _, rfl, rfl, by kernel_rfl⟩, trivial⟩
              · intro w h
                exact ⟨by show Ending.returned (.tuple #[.agg #[.int .i64 (((Q.decode (W.get (strOfNums [(V.fetch ((IntKind.wrap .u32 (p + 0))).toNat).1, (V.fetch ((IntKind.wrap .u32 (p + 1))).toNat).1, (V.fetch ((IntKind.wrap .u32 (p + 2))).toNat).1, (V.fetch ((IntKind.wrap .u32 (p + 3))).toNat).1]).data.toList)).1).op), .int .i64 (((Q.decode (W.get (strOfNums [(V.fetch ((IntKind.wrap .u32 (p + 0))).toNat).1, (V.fetch ((IntKind.wrap .u32 (p + 1))).toNat).1, (V.fetch ((IntKind.wrap .u32 (p + 2))).toNat).1, (V.fetch ((IntKind.wrap .u32 (p + 3))).toNat).1]).data.toList)).1).d), .int .i64 (((Q.decode (W.get (strOfNums [(V.fetch ((IntKind.wrap .u32 (p + 0))).toNat).1, (V.fetch ((IntKind.wrap .u32 (p + 1))).toNat).1, (V.fetch ((IntKind.wrap .u32 (p + 2))).toNat).1, (V.fetch ((IntKind.wrap .u32 (p + 3))).toNat).1]).data.toList)).1).a), .int .i64 (((Q.decode (W.get (strOfNums [(V.fetch ((IntKind.wrap .u32 (p + 0))).toNat).1, (V.fetch ((IntKind.wrap .u32 (p + 1))).toNat).1, (V.fetch ((IntKind.wrap .u32 (p + 2))).toNat).1, (V.fetch ((IntKind.wrap .u32 (p + 3))).toNat).1]).data.toList)).1).b), .int .u32 (((Q.decode (W.get (strOfNums [(V.fetch ((IntKind.wrap .u32 (p + 0))).toNat).1, (V.fetch ((IntKind.wrap .u32 (p + 1))).toNat).1, (V.fetch ((IntKind.wrap .u32 (p + 2))).toNat).1, (V.fetch ((IntKind.wrap .u32 (p + 3))).toNat).1]).data.toList)).1).imm)], .agg #[.int .i64 7, .int .u32 0]]) = _; unfold Q.fetch; rw [hc3, cond_false, hc5, cond_false, hc6, cond_false, hc7, cond_false, hc8, cond_false, hc10, cond_true] <;> rfl, h.ch.bel (fun _ h => h.elim)⟩
            · skip
              refine E.C.skip (E.To.code ?_)
              refine E.C.seq ?_
              refine E.C.region ?_
              refine E.G.val (.agg #[.int .i64 (((Q.decode (W.get (strOfNums [(V.fetch ((IntKind.wrap .u32 (p + 0))).toNat).1, (V.fetch ((IntKind.wrap .u32 (p + 1))).toNat).1, (V.fetch ((IntKind.wrap .u32 (p + 2))).toNat).1, (V.fetch ((IntKind.wrap .u32 (p + 3))).toNat).1]).data.toList)).1).op), .int .i64 (((Q.decode (W.get (strOfNums [(V.fetch ((IntKind.wrap .u32 (p + 0))).toNat).1, (V.fetch ((IntKind.wrap .u32 (p + 1))).toNat).1, (V.fetch ((IntKind.wrap .u32 (p + 2))).toNat).1, (V.fetch ((IntKind.wrap .u32 (p + 3))).toNat).1]).data.toList)).1).d), .int .i64 (((Q.decode (W.get (strOfNums [(V.fetch ((IntKind.wrap .u32 (p + 0))).toNat).1, (V.fetch ((IntKind.wrap .u32 (p + 1))).toNat).1, (V.fetch ((IntKind.wrap .u32 (p + 2))).toNat).1, (V.fetch ((IntKind.wrap .u32 (p + 3))).toNat).1]).data.toList)).1).a), .int .i64 (((Q.decode (W.get (strOfNums [(V.fetch ((IntKind.wrap .u32 (p + 0))).toNat).1, (V.fetch ((IntKind.wrap .u32 (p + 1))).toNat).1, (V.fetch ((IntKind.wrap .u32 (p + 2))).toNat).1, (V.fetch ((IntKind.wrap .u32 (p + 3))).toNat).1]).data.toList)).1).b), .int .u32 (((Q.decode (W.get (strOfNums [(V.fetch ((IntKind.wrap .u32 (p + 0))).toNat).1, (V.fetch ((IntKind.wrap .u32 (p + 1))).toNat).1, (V.fetch ((IntKind.wrap .u32 (p + 2))).toNat).1, (V.fetch ((IntKind.wrap .u32 (p + 3))).toNat).1]).data.toList)).1).imm)]) (by kernel_rfl) (fun w h => E.run_load h 0 rfl rfl (by kernel_rfl)) ?_
              refine E.G.val (.agg #[.int .i64 0, .int .u32 0]) (by kernel_rfl) (fun w h => E.run_build #[.int .i64 0, .int .u32 0] (by kernel_rfl) w) ?_
              refine E.G.store 2 [.int .i64 (((Q.decode (W.get (strOfNums [(V.fetch ((IntKind.wrap .u32 (p + 0))).toNat).1, (V.fetch ((IntKind.wrap .u32 (p + 1))).toNat).1, (V.fetch ((IntKind.wrap .u32 (p + 2))).toNat).1, (V.fetch ((IntKind.wrap .u32 (p + 3))).toNat).1]).data.toList)).1).op), .int .i64 (((Q.decode (W.get (strOfNums [(V.fetch ((IntKind.wrap .u32 (p + 0))).toNat).1, (V.fetch ((IntKind.wrap .u32 (p + 1))).toNat).1, (V.fetch ((IntKind.wrap .u32 (p + 2))).toNat).1, (V.fetch ((IntKind.wrap .u32 (p + 3))).toNat).1]).data.toList)).1).d), .int .i64 (((Q.decode (W.get (strOfNums [(V.fetch ((IntKind.wrap .u32 (p + 0))).toNat).1, (V.fetch ((IntKind.wrap .u32 (p + 1))).toNat).1, (V.fetch ((IntKind.wrap .u32 (p + 2))).toNat).1, (V.fetch ((IntKind.wrap .u32 (p + 3))).toNat).1]).data.toList)).1).a), .int .i64 (((Q.decode (W.get (strOfNums [(V.fetch ((IntKind.wrap .u32 (p + 0))).toNat).1, (V.fetch ((IntKind.wrap .u32 (p + 1))).toNat).1, (V.fetch ((IntKind.wrap .u32 (p + 2))).toNat).1, (V.fetch ((IntKind.wrap .u32 (p + 3))).toNat).1]).data.toList)).1).b), .int .u32 (((Q.decode (W.get (strOfNums [(V.fetch ((IntKind.wrap .u32 (p + 0))).toNat).1, (V.fetch ((IntKind.wrap .u32 (p + 1))).toNat).1, (V.fetch ((IntKind.wrap .u32 (p + 2))).toNat).1, (V.fetch ((IntKind.wrap .u32 (p + 3))).toNat).1]).data.toList)).1).imm)] rfl rfl (by kernel_rfl) (by kernel_rfl) ?_
              refine E.G.store 1 [.int .i64 0, .int .u32 0] rfl rfl (by kernel_rfl) (by kernel_rfl) ?_
              refine E.To.code ?_
              refine E.C.ret (E.To.body (fn := Try.f58) [.agg #[.int .i64 (((Q.decode (W.get (strOfNums [(V.fetch ((IntKind.wrap .u32 (p + 0))).toNat).1, (V.fetch ((IntKind.wrap .u32 (p + 1))).toNat).1, (V.fetch ((IntKind.wrap .u32 (p + 2))).toNat).1, (V.fetch ((IntKind.wrap .u32 (p + 3))).toNat).1]).data.toList)).1).op), .int .i64 (((Q.decode (W.get (strOfNums [(V.fetch ((IntKind.wrap .u32 (p + 0))).toNat).1, (V.fetch ((IntKind.wrap .u32 (p + 1))).toNat).1, (V.fetch ((IntKind.wrap .u32 (p + 2))).toNat).1, (V.fetch ((IntKind.wrap .u32 (p + 3))).toNat).1]).data.toList)).1).d), .int .i64 (((Q.decode (W.get (strOfNums [(V.fetch ((IntKind.wrap .u32 (p + 0))).toNat).1, (V.fetch ((IntKind.wrap .u32 (p + 1))).toNat).1, (V.fetch ((IntKind.wrap .u32 (p + 2))).toNat).1, (V.fetch ((IntKind.wrap .u32 (p + 3))).toNat).1]).data.toList)).1).a), .int .i64 (((Q.decode (W.get (strOfNums [(V.fetch ((IntKind.wrap .u32 (p + 0))).toNat).1, (V.fetch ((IntKind.wrap .u32 (p + 1))).toNat).1, (V.fetch ((IntKind.wrap .u32 (p + 2))).toNat).1, (V.fetch ((IntKind.wrap .u32 (p + 3))).toNat).1]).data.toList)).1).b), .int .u32 (((Q.decode (W.get (strOfNums [(V.fetch ((IntKind.wrap .u32 (p + 0))).toNat).1, (V.fetch ((IntKind.wrap .u32 (p + 1))).toNat).1, (V.fetch ((IntKind.wrap .u32 (p + 2))).toNat).1, (V.fetch ((IntKind.wrap .u32 (p + 3))).toNat).1]).data.toList)).1).imm)], .agg #[.int .i64 0, .int .u32 0]] ?_ ?_)
              · exact ⟨⟨by kernel_rfl, _, _, 2, _, rfl, rfl, by kernel_rfl⟩, ⟨by kernel_rfl, _, _, 1, _, rfl, rfl, by kernel_rfl⟩, trivial⟩
              · intro w h
                exact ⟨by show Ending.returned (.tuple #[.agg #[.int .i64 (((Q.decode (W.get (strOfNums [(V.fetch ((IntKind.wrap .u32 (p + 0))).toNat).1, (V.fetch ((IntKind.wrap .u32 (p + 1))).toNat).1, (V.fetch ((IntKind.wrap .u32 (p + 2))).toNat).1, (V.fetch ((IntKind.wrap .u32 (p + 3))).toNat).1]).data.toList)).1).op), .int .i64 (((Q.decode (W.get (strOfNums [(V.fetch ((IntKind.wrap .u32 (p + 0))).toNat).1, (V.fetch ((IntKind.wrap .u32 (p + 1))).toNat).1, (V.fetch ((IntKind.wrap .u32 (p + 2))).toNat).1, (V.fetch ((IntKind.wrap .u32 (p + 3))).toNat).1]).data.toList)).1).d), .int .i64 (((Q.decode (W.get (strOfNums [(V.fetch ((IntKind.wrap .u32 (p + 0))).toNat).1, (V.fetch ((IntKind.wrap .u32 (p + 1))).toNat).1, (V.fetch ((IntKind.wrap .u32 (p + 2))).toNat).1, (V.fetch ((IntKind.wrap .u32 (p + 3))).toNat).1]).data.toList)).1).a), .int .i64 (((Q.decode (W.get (strOfNums [(V.fetch ((IntKind.wrap .u32 (p + 0))).toNat).1, (V.fetch ((IntKind.wrap .u32 (p + 1))).toNat).1, (V.fetch ((IntKind.wrap .u32 (p + 2))).toNat).1, (V.fetch ((IntKind.wrap .u32 (p + 3))).toNat).1]).data.toList)).1).b), .int .u32 (((Q.decode (W.get (strOfNums [(V.fetch ((IntKind.wrap .u32 (p + 0))).toNat).1, (V.fetch ((IntKind.wrap .u32 (p + 1))).toNat).1, (V.fetch ((IntKind.wrap .u32 (p + 2))).toNat).1, (V.fetch ((IntKind.wrap .u32 (p + 3))).toNat).1]).data.toList)).1).imm)], .agg #[.int .i64 0, .int .u32 0]]) = _; unfold Q.fetch; rw [hc3, cond_false, hc5, cond_false, hc6, cond_false, hc7, cond_false, hc8, cond_false, hc10, cond_false] <;> rfl, h.ch.bel (fun _ h => h.elim)⟩
def Q.stop (i : Q.I) : Int × Int := (bif (i.op == 48) then (4, i.imm) else (bif (i.op == 49) then (3, 0) else (bif (i.op == 50) then (2, 0) else (0, 0))))
theorem stop_any (i : Q.I) (w : World) : Calls Try.prog 59 #[.agg #[.int .i64 i.op, .int .i64 i.d, .int .i64 i.a, .int .i64 i.b, .int .u32 i.imm]] w fun e w' => e = .returned (.agg #[.int .i64 ((Q.stop i).1), .int .u32 ((Q.stop i).2)]) ∧ Bel w w' := by
  refine E.enter (n := 17) (S := fun _ => False) Try.func59 rfl rfl (by kernel_rfl) (E.Hp.start w) ?_
  refine E.C.seq ?_
  refine E.C.region ?_
  refine E.G.new (fun g => .pointer (some ⟨g, 0, none⟩)) [.int .i64 i.op, .int .i64 i.d, .int .i64 i.a, .int .i64 i.b, .int .u32 i.imm] 47 (fun w => by kernel_rfl) (by kernel_rfl) (fun g1 => ?_)
  refine E.G.new (fun g => .pointer (some ⟨g, 0, none⟩)) [.int .i64 0, .int .u32 0] 51 (fun w => by kernel_rfl) (by kernel_rfl) (fun g2 => ?_)
  refine E.To.code ?_
  refine E.C.seq ?_
  refine E.C.seq ?_
  refine E.C.region ?_
  refine E.G.op (.pointer (some ⟨g1, 0, none⟩)) (fun w => by kernel_rfl) (by kernel_rfl) ?_
  refine E.G.val (.int .i64 i.op) (by kernel_rfl) (fun w h => E.run_load h 1 rfl rfl (by kernel_rfl)) ?_
  refine E.To.code ?_
  refine E.C.block ?_
  refine E.C.seq ?_
  refine E.C.region ?_
  refine E.G.op (.bool (i.op == 48)) (fun w => by kernel_rfl) (by kernel_rfl) ?_
  refine E.G.op (.bool (i.op == 48)) (fun w => by kernel_rfl) (by kernel_rfl) ?_
  refine E.To.code ?_
  refine E.C.cond (i.op == 48) (by kernel_rfl) (by kernel_rfl) (fun hc3 => ?_) (fun hc3 => ?_)
  · skip
    refine E.C.seq ?_
    refine E.C.region ?_
    refine E.G.op (.pointer (some ⟨g1, 4, none⟩)) (fun w => by kernel_rfl) (by kernel_rfl) ?_
    refine E.G.val (.int .u32 i.imm) (by kernel_rfl) (fun w h => E.run_load h 1 rfl rfl (by kernel_rfl)) ?_
    refine E.G.val (.agg #[.int .i64 4, .int .u32 i.imm]) (by kernel_rfl) (fun w h => E.run_build #[.int .i64 4, .int .u32 i.imm] (by kernel_rfl) w) ?_
    refine E.G.store 0 [.int .i64 4, .int .u32 i.imm] rfl rfl (by kernel_rfl) (by kernel_rfl) ?_
    refine E.To.code ?_
    refine E.C.weak [(2, .pointer (some ⟨g2, 0, none⟩))] [(g2, [.int .i64 4, .int .u32 i.imm])] ⟨by kernel_rfl, by kernel_rfl⟩ (List.Sublist.cons_cons _ (List.nil_sublist _)) ?_
    refine E.C.ret (E.P.rb (E.P.rt (E.To.body (fn := Try.f59) [.agg #[.int .i64 4, .int .u32 i.imm]] ?_ ?_)))
    · exact ⟨⟨by kernel_rfl, _, _, 0, _, rfl, rfl, by kernel_rfl⟩, trivial⟩
    · intro w h
      exact ⟨by show Ending.returned (.agg #[.int .i64 4, .int .u32 i.imm]) = _; unfold Q.stop; rw [hc3, cond_true] <;> rfl, h.ch.bel (fun _ h => h.elim)⟩
  · skip
    refine E.C.seq ?_
    refine E.C.region ?_
    refine E.G.op (.bool (i.op == 49)) (fun w => by kernel_rfl) (by kernel_rfl) ?_
    refine E.G.op (.bool (i.op == 49)) (fun w => by kernel_rfl) (by kernel_rfl) ?_
    refine E.To.code ?_
    refine E.C.cond (i.op == 49) (by kernel_rfl) (by kernel_rfl) (fun hc4 => ?_) (fun hc4 => ?_)
    · skip
      refine E.C.seq ?_
      refine E.C.region ?_
      refine E.G.val (.agg #[.int .i64 3, .int .u32 0]) (by kernel_rfl) (fun w h => E.run_build #[.int .i64 3, .int .u32 0] (by kernel_rfl) w) ?_
      refine E.G.store 0 [.int .i64 3, .int .u32 0] rfl rfl (by kernel_rfl) (by kernel_rfl) ?_
      refine E.To.code ?_
      refine E.C.weak [(2, .pointer (some ⟨g2, 0, none⟩))] [(g2, [.int .i64 3, .int .u32 0])] ⟨by kernel_rfl, by kernel_rfl⟩ (List.Sublist.cons_cons _ (List.nil_sublist _)) ?_
      refine E.C.ret (E.P.rb (E.P.rt (E.To.body (fn := Try.f59) [.agg #[.int .i64 3, .int .u32 0]] ?_ ?_)))
      · exact ⟨⟨by kernel_rfl, _, _, 0, _, rfl, rfl, by kernel_rfl⟩, trivial⟩
      · intro w h
        exact ⟨by show Ending.returned (.agg #[.int .i64 3, .int .u32 0]) = _; unfold Q.stop; rw [hc3, cond_false, hc4, cond_true] <;> rfl, h.ch.bel (fun _ h => h.elim)⟩
    · skip
      refine E.C.seq ?_
      refine E.C.region ?_
      refine E.G.op (.bool (i.op == 50)) (fun w => by kernel_rfl) (by kernel_rfl) ?_
      refine E.G.op (.bool (i.op == 50)) (fun w => by kernel_rfl) (by kernel_rfl) ?_
      refine E.To.code ?_
      refine E.C.weak [(2, .pointer (some ⟨g2, 0, none⟩)), (13, .bool (i.op == 50))] [(g2, [.int .i64 0, .int .u32 0])] ⟨by kernel_rfl, by kernel_rfl⟩ (List.Sublist.cons_cons _ (List.nil_sublist _)) ?_
      refine E.C.cond (i.op == 50) (by kernel_rfl) (by kernel_rfl) (fun hc5 => ?_) (fun hc5 => ?_)
      · skip
        refine E.C.seq ?_
        refine E.C.region ?_
        refine E.G.val (.agg #[.int .i64 2, .int .u32 0]) (by kernel_rfl) (fun w h => E.run_build #[.int .i64 2, .int .u32 0] (by kernel_rfl) w) ?_
        refine E.G.store 0 [.int .i64 2, .int .u32 0] rfl rfl (by kernel_rfl) (by kernel_rfl) ?_
        refine E.To.code ?_
        refine E.C.ret (E.P.rb (E.P.rt (E.To.body (fn := Try.f59) [.agg #[.int .i64 2, .int .u32 0]] ?_ ?_)))
        · exact ⟨⟨by kernel_rfl, _, _, 0, _, rfl, rfl, by kernel_rfl⟩, trivial⟩
        · intro w h
          exact ⟨by show Ending.returned (.agg #[.int .i64 2, .int .u32 0]) = _; unfold Q.stop; rw [hc3, cond_false, hc4, cond_false, hc5, cond_true] <;> rfl, h.ch.bel (fun _ h => h.elim)⟩
      · skip
        refine E.C.skip (E.P.nb (E.To.code ?_))
        refine E.C.seq ?_
        refine E.C.region ?_
        refine E.G.val (.agg #[.int .i64 0, .int .u32 0]) (by kernel_rfl) (fun w h => E.run_build #[.int .i64 0, .int .u32 0] (by kernel_rfl) w) ?_
        refine E.G.store 0 [.int .i64 0, .int .u32 0] rfl rfl (by kernel_rfl) (by kernel_rfl) ?_
        refine E.To.code ?_
        refine E.C.ret (E.To.body (fn := Try.f59) [.agg #[.int .i64 0, .int .u32 0]] ?_ ?_)
        · exact ⟨⟨by kernel_rfl, _, _, 0, _, rfl, rfl, by kernel_rfl⟩, trivial⟩
        · intro w h
          exact ⟨by show Ending.returned (.agg #[.int .i64 0, .int .u32 0]) = _; unfold Q.stop; rw [hc3, cond_false, hc4, cond_false, hc5, cond_false] <;> rfl, h.ch.bel (fun _ h => h.elim)⟩
theorem Less_rd {g1 g2 : Nat} (c a b : Int) (ha : 0 ≤ a ∧ a < 4294967296) (hb : 0 ≤ b ∧ b < 4294967296) : A.Rd Try.prog 74 #[.int .i64 c, .pointer (some ⟨g1, 0, none⟩), .pointer (some ⟨g2, 0, none⟩)] [A.blk g1 [.int .u32 a], A.blk g2 [.int .u32 b]] (.bool (W.op c a b == 1)) := by
  intro w oo aa hh
  refine E.enter (n := 10) (S := fun _ => False) Try.func74 rfl rfl (by kernel_rfl) (A.startY hh) ?_
  refine E.C.seq ?_
  refine E.C.region ?_
  refine E.G.op (.bool false) (fun w => by kernel_rfl) (by kernel_rfl) ?_
  refine E.To.code ?_
  refine E.C.seq ?_
  refine E.C.region ?_
  refine E.G.op (.int .i64 c) (fun w => by kernel_rfl) (by kernel_rfl) ?_
  refine E.G.val (.int .u32 a) (by kernel_rfl) (fun w h => A.Y.bld h.x (k := 0) (j := 0) rfl (by kernel_rfl) (by kernel_rfl)) ?_
  refine E.G.val (.int .u32 b) (by kernel_rfl) (fun w h => A.Y.bld h.x (k := 1) (j := 0) rfl (by kernel_rfl) (by kernel_rfl)) ?_
  refine E.G.call (.int .u32 (W.op c a b)) (fun w h => Op_any c a b ha.1 ha.2 hb.1 hb.2 w) (fun w _ => by kernel_rfl) (by kernel_rfl) ?_
  refine E.G.op (.bool ((W.op c a b) == 1)) (fun w => by kernel_rfl) (by kernel_rfl) ?_
  refine E.G.op (.bool ((W.op c a b) == 1)) (fun w => by kernel_rfl) (by kernel_rfl) ?_
  refine E.To.code ?_
  refine E.C.weak [(4, .bool ((W.op c a b) == 1))] [] ⟨by kernel_rfl, by kernel_rfl⟩ (List.Sublist.refl _) ?_
  refine E.C.ret (E.To.body (fn := Try.f74) [.bool ((W.op c a b) == 1)] ?_ ?_)
  · exact ⟨⟨by kernel_rfl, by kernel_rfl⟩, trivial⟩
  · intro w h
    exact ⟨rfl, h.ch.bel (fun _ h => h.elim)⟩
theorem A.of_hp2 {S : Nat → Prop} {w0 w : World} {X : World → Prop} {L : List (Nat × List Value)} (h : E.Hp S w0 X L w) (i j : Nat) {g1 g2 : Nat} {c1 c2 : List Value} (hi : L[i]? = some (g1, c1)) (hj : L[j]? = some (g2, c2)) (n1 : c1.isEmpty = false) (n2 : c2.isEmpty = false) (hne : i ≠ j) : A.Has [A.blk g1 c1, A.blk g2 c2] w (fun x => x = g1 ∨ x = g2) (fun x => x = g1 ∨ x = g2) := by
  have hg : g1 ≠ g2 := fun e => hne (E.nodup_of h.nodup hi hj e)
  have h1 := A.of_hp h i hi n1
  have h2 := A.of_hp h j hj n2
  exact h1.join h2 (fun x hx hy => hg (hx.symm.trans hy)) (fun x hx hy => hg (hy.symm.trans hx))
def Q.taken (c a b : Int) : Bool := (bif (c == 32) then (a == b) else (bif (c == 33) then (a != b) else (bif (c == 34) then (W.op 14 a b == 1) else (bif (c == 35) then (!(W.op 14 a b == 1)) else (bif (c == 36) then (W.op 15 a b == 1) else (!(W.op 15 a b == 1)))))))
theorem taken_any (c a b : Int) (ha : 0 ≤ a ∧ a < 4294967296) (hb : 0 ≤ b ∧ b < 4294967296) (w : World) : Calls Try.prog 64 #[.int .i64 c, .int .u32 a, .int .u32 b] w fun e w' => e = .returned (.bool (Q.taken c a b)) ∧ Bel w w' := by
  refine E.enter (n := 36) (S := fun _ => False) Try.func64 rfl rfl (by kernel_rfl) (E.Hp.start w) ?_
  refine E.C.seq ?_
  refine E.C.region ?_
  refine E.G.new (fun g => .pointer (some ⟨g, 0, none⟩)) [.int .u32 a] 22 (fun w => by kernel_rfl) (by kernel_rfl) (fun g1 => ?_)
  refine E.G.new (fun g => .pointer (some ⟨g, 0, none⟩)) [.int .u32 b] 22 (fun w => by kernel_rfl) (by kernel_rfl) (fun g2 => ?_)
  refine E.G.op (.bool false) (fun w => by kernel_rfl) (by kernel_rfl) ?_
  refine E.To.code ?_
  refine E.C.seq ?_
  refine E.C.region ?_
  refine E.G.op (.func (.func 74) #[] #[.pointer (some ⟨g1, 0, none⟩), .pointer (some ⟨g2, 0, none⟩)]) (fun w => by kernel_rfl) (by kernel_rfl) ?_
  refine E.G.op (.func (.func 74) #[] #[.pointer (some ⟨g1, 0, none⟩), .pointer (some ⟨g2, 0, none⟩)]) (fun w => by kernel_rfl) (by kernel_rfl) ?_
  refine E.To.code ?_
  refine E.C.seq ?_
  refine E.C.seq ?_
  refine E.C.region ?_
  refine E.G.op (.int .i64 c) (fun w => by kernel_rfl) (by kernel_rfl) ?_
  refine E.To.code ?_
  refine E.C.block ?_
  refine E.C.seq ?_
  refine E.C.region ?_
  refine E.G.op (.bool (c == 32)) (fun w => by kernel_rfl) (by kernel_rfl) ?_
  refine E.G.op (.bool (c == 32)) (fun w => by kernel_rfl) (by kernel_rfl) ?_
  refine E.To.code ?_
  refine E.C.cond (c == 32) (by kernel_rfl) (by kernel_rfl) (fun hc3 => ?_) (fun hc3 => ?_)
  · skip
    refine E.C.seq ?_
    refine E.C.region ?_
    refine E.G.val (.int .u32 a) (by kernel_rfl) (fun w h => E.run_load h 1 rfl rfl (by kernel_rfl)) ?_
    refine E.G.val (.int .u32 b) (by kernel_rfl) (fun w h => E.run_load h 0 rfl rfl (by kernel_rfl)) ?_
    refine E.G.op (.bool (a == b)) (fun w => by kernel_rfl) (by kernel_rfl) ?_
    refine E.G.op (.bool (a == b)) (fun w => by kernel_rfl) (by kernel_rfl) ?_
    refine E.To.code ?_
    refine E.C.weak [(6, .bool (a == b)), (7, .func (.func 74) #[] #[.pointer (some ⟨g1, 0, none⟩), .pointer (some ⟨g2, 0, none⟩)])] [(g2, [.int .u32 b]), (g1, [.int .u32 a])] ⟨by kernel_rfl, by kernel_rfl⟩ (List.Sublist.refl _) ?_
    refine E.C.ret (E.P.rb (E.P.rt (E.To.body (fn := Try.f64) [.bool (a == b)] ?_ ?_)))
    · exact ⟨⟨by kernel_rfl, by kernel_rfl⟩, trivial⟩
    · intro w h
      exact ⟨by show Ending.returned (.bool (a == b)) = _; unfold Q.taken; rw [hc3, cond_true] <;> rfl, h.ch.bel (fun _ h => h.elim)⟩
  · skip
    refine E.C.seq ?_
    refine E.C.region ?_
    refine E.G.op (.bool (c == 33)) (fun w => by kernel_rfl) (by kernel_rfl) ?_
    refine E.G.op (.bool (c == 33)) (fun w => by kernel_rfl) (by kernel_rfl) ?_
    refine E.To.code ?_
    refine E.C.cond (c == 33) (by kernel_rfl) (by kernel_rfl) (fun hc4 => ?_) (fun hc4 => ?_)
    · skip
      refine E.C.seq ?_
      refine E.C.region ?_
      refine E.G.val (.int .u32 a) (by kernel_rfl) (fun w h => E.run_load h 1 rfl rfl (by kernel_rfl)) ?_
      refine E.G.val (.int .u32 b) (by kernel_rfl) (fun w h => E.run_load h 0 rfl rfl (by kernel_rfl)) ?_
      refine E.G.op (.bool (a != b)) (fun w => by kernel_rfl) (by kernel_rfl) ?_
      refine E.G.op (.bool (a != b)) (fun w => by kernel_rfl) (by kernel_rfl) ?_
      refine E.To.code ?_
      refine E.C.weak [(6, .bool (a != b)), (7, .func (.func 74) #[] #[.pointer (some ⟨g1, 0, none⟩), .pointer (some ⟨g2, 0, none⟩)])] [(g2, [.int .u32 b]), (g1, [.int .u32 a])] ⟨by kernel_rfl, by kernel_rfl⟩ (List.Sublist.refl _) ?_
      refine E.C.ret (E.P.rb (E.P.rt (E.To.body (fn := Try.f64) [.bool (a != b)] ?_ ?_)))
      · exact ⟨⟨by kernel_rfl, by kernel_rfl⟩, trivial⟩
      · intro w h
        exact ⟨by show Ending.returned (.bool (a != b)) = _; unfold Q.taken; rw [hc3, cond_false, hc4, cond_true] <;> rfl, h.ch.bel (fun _ h => h.elim)⟩
    · skip
      refine E.C.seq ?_
      refine E.C.region ?_
      refine E.G.op (.bool (c == 34)) (fun w => by kernel_rfl) (by kernel_rfl) ?_
      refine E.G.op (.bool (c == 34)) (fun w => by kernel_rfl) (by kernel_rfl) ?_
      refine E.To.code ?_
      refine E.C.weak [(6, .bool false), (7, .func (.func 74) #[] #[.pointer (some ⟨g1, 0, none⟩), .pointer (some ⟨g2, 0, none⟩)]), (9, .int .i64 c), (20, .bool (c == 34))] [(g2, [.int .u32 b]), (g1, [.int .u32 a])] ⟨by kernel_rfl, by kernel_rfl⟩ (List.Sublist.refl _) ?_
      refine E.C.cond (c == 34) (by kernel_rfl) (by kernel_rfl) (fun hc5 => ?_) (fun hc5 => ?_)
      · skip
        refine E.C.seq ?_
        refine E.C.region ?_
        refine E.G.op (.func (.func 74) #[] #[.pointer (some ⟨g1, 0, none⟩), .pointer (some ⟨g2, 0, none⟩)]) (fun w => by kernel_rfl) (by kernel_rfl) ?_
        refine E.G.call (.bool (W.op 14 a b == 1)) (fun w h => Less_rd (g1 := g1) (g2 := g2) 14 a b ha hb w _ _ (A.of_hp2 h 1 0 rfl rfl rfl rfl (by decide))) (fun w _ => by kernel_rfl) (by kernel_rfl) ?_
        refine E.G.op (.bool (W.op 14 a b == 1)) (fun w => by kernel_rfl) (by kernel_rfl) ?_
        refine E.To.code ?_
        refine E.C.ret (E.P.rb (E.P.rt (E.To.body (fn := Try.f64) [.bool (W.op 14 a b == 1)] ?_ ?_)))
        · exact ⟨⟨by kernel_rfl, by kernel_rfl⟩, trivial⟩
        · intro w h
          exact ⟨by show Ending.returned (.bool (W.op 14 a b == 1)) = _; unfold Q.taken; rw [hc3, cond_false, hc4, cond_false, hc5, cond_true] <;> rfl, h.ch.bel (fun _ h => h.elim)⟩
      · skip
        refine E.C.seq ?_
        refine E.C.region ?_
        refine E.G.op (.bool (c == 35)) (fun w => by kernel_rfl) (by kernel_rfl) ?_
        refine E.G.op (.bool (c == 35)) (fun w => by kernel_rfl) (by kernel_rfl) ?_
        refine E.To.code ?_
        refine E.C.cond (c == 35) (by kernel_rfl) (by kernel_rfl) (fun hc6 => ?_) (fun hc6 => ?_)
        · skip
          refine E.C.seq ?_
          refine E.C.region ?_
          refine E.G.op (.func (.func 74) #[] #[.pointer (some ⟨g1, 0, none⟩), .pointer (some ⟨g2, 0, none⟩)]) (fun w => by kernel_rfl) (by kernel_rfl) ?_
          refine E.G.call (.bool (W.op 14 a b == 1)) (fun w h => Less_rd (g1 := g1) (g2 := g2) 14 a b ha hb w _ _ (A.of_hp2 h 1 0 rfl rfl rfl rfl (by decide))) (fun w _ => by kernel_rfl) (by kernel_rfl) ?_
          refine E.G.op (.bool (!(W.op 14 a b == 1))) (fun w => by kernel_rfl) (by kernel_rfl) ?_
          refine E.G.op (.bool (!(W.op 14 a b == 1))) (fun w => by kernel_rfl) (by kernel_rfl) ?_
          refine E.To.code ?_
          refine E.C.ret (E.P.rb (E.P.rt (E.To.body (fn := Try.f64) [.bool (!(W.op 14 a b == 1))] ?_ ?_)))
          · exact ⟨⟨by kernel_rfl, by kernel_rfl⟩, trivial⟩
          · intro w h
            exact ⟨by show Ending.returned (.bool (!(W.op 14 a b == 1))) = _; unfold Q.taken; rw [hc3, cond_false, hc4, cond_false, hc5, cond_false, hc6, cond_true] <;> rfl, h.ch.bel (fun _ h => h.elim)⟩
        · skip
          refine E.C.seq ?_
          refine E.C.region ?_
          refine E.G.op (.bool (c == 36)) (fun w => by kernel_rfl) (by kernel_rfl) ?_
          refine E.G.op (.bool (c == 36)) (fun w => by kernel_rfl) (by kernel_rfl) ?_
          refine E.To.code ?_
          refine E.C.cond (c == 36) (by kernel_rfl) (by kernel_rfl) (fun hc7 => ?_) (fun hc7 => ?_)
          · skip
            refine E.C.seq ?_
            refine E.C.region ?_
            refine E.G.op (.func (.func 74) #[] #[.pointer (some ⟨g1, 0, none⟩), .pointer (some ⟨g2, 0, none⟩)]) (fun w => by kernel_rfl) (by kernel_rfl) ?_
            refine E.G.call (.bool (W.op 15 a b == 1)) (fun w h => Less_rd (g1 := g1) (g2 := g2) 15 a b ha hb w _ _ (A.of_hp2 h 1 0 rfl rfl rfl rfl (by decide))) (fun w _ => by kernel_rfl) (by kernel_rfl) ?_
            refine E.G.op (.bool (W.op 15 a b == 1)) (fun w => by kernel_rfl) (by kernel_rfl) ?_
            refine E.To.code ?_
            refine E.C.weak [(6, .bool (W.op 15 a b == 1)), (7, .func (.func 74) #[] #[.pointer (some ⟨g1, 0, none⟩), .pointer (some ⟨g2, 0, none⟩)])] [(g2, [.int .u32 b]), (g1, [.int .u32 a])] ⟨by kernel_rfl, by kernel_rfl⟩ (List.Sublist.refl _) ?_
            refine E.C.ret (E.P.rb (E.P.rt (E.To.body (fn := Try.f64) [.bool (W.op 15 a b == 1)] ?_ ?_)))
            · exact ⟨⟨by kernel_rfl, by kernel_rfl⟩, trivial⟩
            · intro w h
              exact ⟨by show Ending.returned (.bool (W.op 15 a b == 1)) = _; unfold Q.taken; rw [hc3, cond_false, hc4, cond_false, hc5, cond_false, hc6, cond_false, hc7, cond_true] <;> rfl, h.ch.bel (fun _ h => h.elim)⟩
          · skip
            refine E.C.skip (E.P.nb (E.To.code ?_))
            refine E.C.seq ?_
            refine E.C.region ?_
            refine E.G.op (.func (.func 74) #[] #[.pointer (some ⟨g1, 0, none⟩), .pointer (some ⟨g2, 0, none⟩)]) (fun w => by kernel_rfl) (by kernel_rfl) ?_
            refine E.G.call (.bool (W.op 15 a b == 1)) (fun w h => Less_rd (g1 := g1) (g2 := g2) 15 a b ha hb w _ _ (A.of_hp2 h 1 0 rfl rfl rfl rfl (by decide))) (fun w _ => by kernel_rfl) (by kernel_rfl) ?_
            refine E.G.op (.bool (!(W.op 15 a b == 1))) (fun w => by kernel_rfl) (by kernel_rfl) ?_
            refine E.G.op (.bool (!(W.op 15 a b == 1))) (fun w => by kernel_rfl) (by kernel_rfl) ?_
            refine E.To.code ?_
            refine E.C.weak [(6, .bool (!(W.op 15 a b == 1)))] [] ⟨by kernel_rfl, by kernel_rfl⟩ (List.nil_sublist _) ?_
            refine E.C.ret (E.To.body (fn := Try.f64) [.bool (!(W.op 15 a b == 1))] ?_ ?_)
            · exact ⟨⟨by kernel_rfl, by kernel_rfl⟩, trivial⟩
            · intro w h
              exact ⟨by show Ending.returned (.bool (!(W.op 15 a b == 1))) = _; unfold Q.taken; rw [hc3, cond_false, hc4, cond_false, hc5, cond_false, hc6, cond_false, hc7, cond_false] <;> rfl, h.ch.bel (fun _ h => h.elim)⟩
end Go.Proofs.Ytgbndbljohpnmaa

/- XQh -/
namespace Go.Proofs.Ytgbndbljohpnmaa
set_option linter.unusedVariables false
set_option linter.unusedSimpArgs false
open Go.RowKit
def Q.flt (a : Int) (ok : Bool) : Int × Int := (bif ok then (0, 0) else (5, a))
theorem fault_any (a : Int) (ok : Bool) (w : World) : Calls Try.prog 73 #[.int .u32 a, .bool ok] w fun e w' => e = .returned (.agg #[.int .i64 ((Q.flt a ok).1), .int .u32 ((Q.flt a ok).2)]) ∧ Bel w w' := by
  refine E.enter (n := 9) (S := fun _ => False) Try.func73 rfl rfl (by kernel_rfl) (E.Hp.start w) ?_
  refine E.C.seq ?_
  refine E.C.region ?_
  refine E.G.new (fun g => .pointer (some ⟨g, 0, none⟩)) [.int .i64 0, .int .u32 0] 51 (fun w => by kernel_rfl) (by kernel_rfl) (fun g1 => ?_)
  refine E.To.code ?_
  refine E.C.seq ?_
  refine E.C.seq ?_
  refine E.C.region ?_
  refine E.G.op (.bool ok) (fun w => by kernel_rfl) (by kernel_rfl) ?_
  refine E.To.code ?_
  refine E.C.cond ok (by kernel_rfl) (by kernel_rfl) (fun hc2 => ?_) (fun hc2 => ?_)
  · skip
    refine E.C.seq ?_
    refine E.C.region ?_
    refine E.G.val (.agg #[.int .i64 0, .int .u32 0]) (by kernel_rfl) (fun w h => E.run_build #[.int .i64 0, .int .u32 0] (by kernel_rfl) w) ?_
    refine E.G.store 0 [.int .i64 0, .int .u32 0] rfl rfl (by kernel_rfl) (by kernel_rfl) ?_
    refine E.To.code ?_
    refine E.C.ret (E.P.rt (E.To.body (fn := Try.f73) [.agg #[.int .i64 0, .int .u32 0]] ?_ ?_))
    · exact ⟨⟨by kernel_rfl, _, _, 0, _, rfl, rfl, by kernel_rfl⟩, trivial⟩
    · intro w h
      exact ⟨by show Ending.returned (.agg #[.int .i64 0, .int .u32 0]) = _; unfold Q.flt; rw [hc2, cond_true] <;> rfl, h.ch.bel (fun _ h => h.elim)⟩
  · skip
    refine E.C.skip (E.To.code ?_)
    refine E.C.seq ?_
    refine E.C.region ?_
    refine E.G.op (.int .u32 a) (fun w => by kernel_rfl) (by kernel_rfl) ?_
    refine E.G.val (.agg #[.int .i64 5, .int .u32 a]) (by kernel_rfl) (fun w h => E.run_build #[.int .i64 5, .int .u32 a] (by kernel_rfl) w) ?_
    refine E.G.store 0 [.int .i64 5, .int .u32 a] rfl rfl (by kernel_rfl) (by kernel_rfl) ?_
    refine E.To.code ?_
    refine E.C.ret (E.To.body (fn := Try.f73) [.agg #[.int .i64 5, .int .u32 a]] ?_ ?_)
    · exact ⟨⟨by kernel_rfl, _, _, 0, _, rfl, rfl, by kernel_rfl⟩, trivial⟩
    · intro w h
      exact ⟨by show Ending.returned (.agg #[.int .i64 5, .int .u32 a]) = _; unfold Q.flt; rw [hc2, cond_false] <;> rfl, h.ch.bel (fun _ h => h.elim)⟩
def Q.acc (i : Q.I) (V : M.V) (x v : Int) : Int × Int × Int × M.V := (bif ((i.op == 24) || (i.op == 26)) then (bif ((i.op == 25) || (i.op == 26)) then (0, (Q.flt ((V.chk (x).toNat 2 1).1) ((V.chk (x).toNat 2 1).2)).1, (Q.flt ((V.chk (x).toNat 2 1).1) ((V.chk (x).toNat 2 1).2)).2, (V.sto (x).toNat 1 v)) else ((V.load (x).toNat 1).1, (Q.flt ((V.load (x).toNat 1).2.1) ((V.load (x).toNat 1).2.2)).1, (Q.flt ((V.load (x).toNat 1).2.1) ((V.load (x).toNat 1).2.2)).2, V)) else (bif ((i.op == 25) || (i.op == 26)) then (0, (Q.flt ((V.chk (x).toNat 2 4).1) ((V.chk (x).toNat 2 4).2)).1, (Q.flt ((V.chk (x).toNat 2 4).1) ((V.chk (x).toNat 2 4).2)).2, (V.sto (x).toNat 4 v)) else ((V.load (x).toNat 4).1, (Q.flt ((V.load (x).toNat 4).2.1) ((V.load (x).toNat 4).2.2)).1, (Q.flt ((V.load (x).toNat 4).2.1) ((V.load (x).toNat 4).2.2)).2, V)))
theorem Access {m : Nat} {xs : List Value} (i : Q.I) (V : M.V) (x v : Int) (hx : 0 ≤ x ∧ x < 4294967296) : A.Tr Try.prog 62 #[.agg #[.int .i64 i.op, .int .i64 i.d, .int .i64 i.a, .int .i64 i.b, .int .u32 i.imm], .int .u32 x, .int .u32 v, .iface 82 (.pointer (some ⟨m, 0, none⟩))] [M.It m V xs] (I := Unit) (fun _ => True) (fun _ => .tuple #[.int .u32 ((Q.acc i V x v).1), .agg #[.int .i64 ((Q.acc i V x v).2.1), .int .u32 ((Q.acc i V x v).2.2.1)]]) (fun _ => [M.It m (Q.acc i V x v).2.2.2 xs]) := by
  intro w oo aa hh
  refine E.enter (n := 53) (S := oo) Try.func62 rfl rfl (by kernel_rfl) (A.start (L := []) hh) ?_
  refine E.C.seq ?_
  refine E.C.region ?_
  refine E.G.new (fun g => .pointer (some ⟨g, 0, none⟩)) [.int .i64 i.op, .int .i64 i.d, .int .i64 i.a, .int .i64 i.b, .int .u32 i.imm] 47 (fun w => by kernel_rfl) (by kernel_rfl) (fun g1 => ?_)
  refine E.G.op (.int .u32 0) (fun w => by kernel_rfl) (by kernel_rfl) ?_
  refine E.G.new (fun g => .pointer (some ⟨g, 0, none⟩)) [.int .i64 0, .int .u32 0] 51 (fun w => by kernel_rfl) (by kernel_rfl) (fun g2 => ?_)
  refine E.To.code ?_
  refine E.C.seq ?_
  refine E.C.region ?_
  refine E.G.op (.int .i64 4) (fun w => by kernel_rfl) (by kernel_rfl) ?_
  refine E.To.code ?_
  refine E.C.seq ?_
  refine E.C.seq ?_
  refine E.C.region ?_
  refine E.G.op (.pointer (some ⟨g1, 0, none⟩)) (fun w => by kernel_rfl) (by kernel_rfl) ?_
  refine E.G.val (.int .i64 i.op) (by kernel_rfl) (fun w h => E.run_load h 1 rfl rfl (by kernel_rfl)) ?_
  refine E.G.op (.bool (i.op == 24)) (fun w => by kernel_rfl) (by kernel_rfl) ?_
  refine E.G.op (.bool (i.op == 24)) (fun w => by kernel_rfl) (by kernel_rfl) ?_
  refine E.G.cut 4 [(1, .int .u32 x), (2, .int .u32 v), (3, .iface 82 (.pointer (some ⟨m, 0, none⟩))), (4, .pointer (some ⟨g1, 0, none⟩)), (8, .int .u32 0), (9, .pointer (some ⟨g2, 0, none⟩)), (10, .int .i64 4), (22, .bool ((i.op == 24) || (i.op == 26)))] (A.X w oo aa [M.It m V xs]) [(g2, [.int .i64 0, .int .u32 0]), (g1, [.int .i64 i.op, .int .i64 i.d, .int .i64 i.a, .int .i64 i.b, .int .u32 i.imm])] ?_ ?_
  · generalize hc3 : (i.op == 24) = b4
    cases b4
    · skip
      refine E.G.op (.pointer (some ⟨g1, 0, none⟩)) (fun w => by kernel_rfl) (by kernel_rfl) ?_
      refine E.G.val (.int .i64 i.op) (by kernel_rfl) (fun w h => E.run_load h 1 rfl rfl (by kernel_rfl)) ?_
      refine E.G.op (.bool (i.op == 26)) (fun w => by kernel_rfl) (by kernel_rfl) ?_
      refine E.G.op (.bool (i.op == 26)) (fun w => by kernel_rfl) (by kernel_rfl) ?_
      exact E.G.end_pst ⟨by kernel_rfl, by kernel_rfl⟩ (List.Sublist.refl _) (fun _ h => h)
    · skip
      refine E.G.skip (by kernel_rfl) (by kernel_rfl) ?_
      refine E.G.skip (by kernel_rfl) (by kernel_rfl) ?_
      refine E.G.skip (by kernel_rfl) (by kernel_rfl) ?_
      refine E.G.op (.bool true) (fun w => by kernel_rfl) (by kernel_rfl) ?_
      exact E.G.end_pst ⟨by kernel_rfl, by kernel_rfl⟩ (List.Sublist.refl _) (fun _ h => h)
  refine E.To.code ?_
  refine E.C.cond ((i.op == 24) || (i.op == 26)) (by kernel_rfl) (by kernel_rfl) (fun hc5 => ?_) (fun hc5 => ?_)
  · skip
    refine E.C.region ?_
    refine E.G.op (.int .i64 1) (fun w => by kernel_rfl) (by kernel_rfl) ?_
    refine E.To.code ?_
    refine E.C.seq ?_
    refine E.C.region ?_
    refine E.G.op (.func (.func 73) #[] #[]) (fun w => by kernel_rfl) (by kernel_rfl) ?_
    refine E.To.code ?_
    refine E.C.seq ?_
    refine E.C.seq ?_
    refine E.C.region ?_
    refine E.G.op (.pointer (some ⟨g1, 0, none⟩)) (fun w => by kernel_rfl) (by kernel_rfl) ?_
    refine E.G.val (.int .i64 i.op) (by kernel_rfl) (fun w h => E.run_load h 1 rfl rfl (by kernel_rfl)) ?_
    refine E.G.op (.bool (i.op == 25)) (fun w => by kernel_rfl) (by kernel_rfl) ?_
    refine E.G.op (.bool (i.op == 25)) (fun w => by kernel_rfl) (by kernel_rfl) ?_
    refine E.G.cut 4 [(1, .int .u32 x), (2, .int .u32 v), (3, .iface 82 (.pointer (some ⟨m, 0, none⟩))), (8, .int .u32 0), (9, .pointer (some ⟨g2, 0, none⟩)), (10, .int .i64 1), (11, .func (.func 73) #[] #[]), (30, .bool ((i.op == 25) || (i.op == 26)))] (A.X w oo aa [M.It m V xs]) [(g2, [.int .i64 0, .int .u32 0]), (g1, [.int .i64 i.op, .int .i64 i.d, .int .i64 i.a, .int .i64 i.b, .int .u32 i.imm])] ?_ ?_
    · generalize hc6 : (i.op == 25) = b7
      cases b7
      · skip
        refine E.G.op (.pointer (some ⟨g1, 0, none⟩)) (fun w => by kernel_rfl) (by kernel_rfl) ?_
        refine E.G.val (.int .i64 i.op) (by kernel_rfl) (fun w h => E.run_load h 1 rfl rfl (by kernel_rfl)) ?_
        refine E.G.op (.bool (i.op == 26)) (fun w => by kernel_rfl) (by kernel_rfl) ?_
        refine E.G.op (.bool (i.op == 26)) (fun w => by kernel_rfl) (by kernel_rfl) ?_
        exact E.G.end_pst ⟨by kernel_rfl, by kernel_rfl⟩ (List.Sublist.refl _) (fun _ h => h)
      · skip
        refine E.G.skip (by kernel_rfl) (by kernel_rfl) ?_
        refine E.G.skip (by kernel_rfl) (by kernel_rfl) ?_
        refine E.G.skip (by kernel_rfl) (by kernel_rfl) ?_
        refine E.G.op (.bool true) (fun w => by kernel_rfl) (by kernel_rfl) ?_
        exact E.G.end_pst ⟨by kernel_rfl, by kernel_rfl⟩ (List.Sublist.refl _) (fun _ h => h)
    refine E.To.code ?_
    refine E.C.cond ((i.op == 25) || (i.op == 26)) (by kernel_rfl) (by kernel_rfl) (fun hc8 => ?_) (fun hc8 => ?_)
    · skip
      refine E.C.seq ?_
      refine E.C.region ?_
      refine E.G.op (.func (.func 73) #[] #[]) (fun w => by kernel_rfl) (by kernel_rfl) ?_
      refine E.G.op (.iface 82 (.pointer (some ⟨m, 0, none⟩))) (fun w => by kernel_rfl) (by kernel_rfl) ?_
      refine E.G.op (.int .u32 x) (fun w => by kernel_rfl) (by kernel_rfl) ?_
      refine E.G.op (.int .i64 1) (fun w => by kernel_rfl) (by kernel_rfl) ?_
      refine E.G.op (.int .u32 v) (fun w => by kernel_rfl) (by kernel_rfl) ?_
      refine A.G.call (I := Unit) (D := fun _ => True) (V := fun _ => .tuple #[.int .u32 ((V.chk (x).toNat 2 1).1), .bool ((V.chk (x).toNat 2 1).2)]) (q := fun _ => [M.It m (V.sto (x).toNat 1 v) xs]) [A.blk g2 ([.int .i64 0, .int .u32 0]), A.blk g1 ([.int .i64 i.op, .int .i64 i.d, .int .i64 i.a, .int .i64 i.b, .int .u32 i.imm])] (fun _ => [(g2, [.int .i64 0, .int .u32 0]), (g1, [.int .i64 i.op, .int .i64 i.d, .int .i64 i.a, .int .i64 i.b, .int .u32 i.imm])]) (fun _ => [M.It m (V.sto (x).toNat 1 v) xs]) (I_Store x 1 v (by assumption) (m := m) (V := V) (xs := xs)) (by kernel_rfl) (A.pm [2, 0, 1] (by kernel_rfl) (by kernel_rfl)) (fun _ => A.pm [1, 2, 0] (by kernel_rfl) (by kernel_rfl)) (fun w _ => by kernel_rfl) (by kernel_rfl) (fun _ hd9 => ?_)
      refine E.G.op (.int .u32 ((V.chk (x).toNat 2 1).1)) (fun w => by kernel_rfl) (by kernel_rfl) ?_
      refine E.G.op (.bool ((V.chk (x).toNat 2 1).2)) (fun w => by kernel_rfl) (by kernel_rfl) ?_
      refine E.G.call (.agg #[.int .i64 ((Q.flt ((V.chk (x).toNat 2 1).1) ((V.chk (x).toNat 2 1).2)).1), .int .u32 ((Q.flt ((V.chk (x).toNat 2 1).1) ((V.chk (x).toNat 2 1).2)).2)]) (fun w h => fault_any ((V.chk (x).toNat 2 1).1) ((V.chk (x).toNat 2 1).2) w) (fun w _ => by kernel_rfl) (by kernel_rfl) ?_
      refine E.G.op (.int .u32 0) (fun w => by kernel_rfl) (by kernel_rfl) ?_
      refine E.G.store 0 [.int .i64 ((Q.flt ((V.chk (x).toNat 2 1).1) ((V.chk (x).toNat 2 1).2)).1), .int .u32 ((Q.flt ((V.chk (x).toNat 2 1).1) ((V.chk (x).toNat 2 1).2)).2)] rfl rfl (by kernel_rfl) (by kernel_rfl) ?_
      refine E.To.code ?_
      refine E.C.weak [(1, .int .u32 x), (3, .iface 82 (.pointer (some ⟨m, 0, none⟩))), (8, .int .u32 0), (9, .pointer (some ⟨g2, 0, none⟩)), (10, .int .i64 1), (11, .func (.func 73) #[] #[])] [(g2, [.int .i64 ((Q.flt ((V.chk (x).toNat 2 1).1) ((V.chk (x).toNat 2 1).2)).1), .int .u32 ((Q.flt ((V.chk (x).toNat 2 1).1) ((V.chk (x).toNat 2 1).2)).2)])] ⟨by kernel_rfl, by kernel_rfl⟩ (List.Sublist.cons_cons _ (List.nil_sublist _)) ?_
      refine E.C.ret (E.P.rt (E.To.body (fn := Try.f62) [.int .u32 0, .agg #[.int .i64 ((Q.flt ((V.chk (x).toNat 2 1).1) ((V.chk (x).toNat 2 1).2)).1), .int .u32 ((Q.flt ((V.chk (x).toNat 2 1).1) ((V.chk (x).toNat 2 1).2)).2)]] ?_ ?_))
      · exact ⟨⟨by kernel_rfl, by kernel_rfl⟩, ⟨by kernel_rfl, _, _, 0, _, rfl, rfl, by kernel_rfl⟩, trivial⟩
      · intro w h
        have e : (Q.acc i V x v) = (0, (Q.flt ((V.chk (x).toNat 2 1).1) ((V.chk (x).toNat 2 1).2)).1, (Q.flt ((V.chk (x).toNat 2 1).1) ((V.chk (x).toNat 2 1).2)).2, (V.sto (x).toNat 1 v)) := by unfold Q.acc; rw [hc5, cond_true, hc8, cond_true] <;> rfl
        rw [e]
        exact ⟨(), trivial, rfl, A.done (q := [M.It m (V.sto (x).toNat 1 v) xs]) (r := [A.blk g2 ([.int .i64 ((Q.flt ((V.chk (x).toNat 2 1).1) ((V.chk (x).toNat 2 1).2)).1), .int .u32 ((Q.flt ((V.chk (x).toNat 2 1).1) ((V.chk (x).toNat 2 1).2)).2)])]) h (by kernel_rfl) (A.pm [1, 0] (by kernel_rfl) (by kernel_rfl))⟩
    · skip
      refine E.C.skip (E.To.code ?_)
      refine E.C.seq ?_
      refine E.C.region ?_
      refine E.G.op (.iface 82 (.pointer (some ⟨m, 0, none⟩))) (fun w => by kernel_rfl) (by kernel_rfl) ?_
      refine E.G.op (.int .u32 x) (fun w => by kernel_rfl) (by kernel_rfl) ?_
      refine E.G.op (.int .i64 1) (fun w => by kernel_rfl) (by kernel_rfl) ?_
      refine E.G.call (.tuple #[.int .u32 ((V.load (x).toNat 1).1), .int .u32 ((V.load (x).toNat 1).2.1), .bool ((V.load (x).toNat 1).2.2)]) (fun w h => A.call_rd [A.blk g2 ([.int .i64 0, .int .u32 0]), A.blk g1 ([.int .i64 i.op, .int .i64 i.d, .int .i64 i.a, .int .i64 i.b, .int .u32 i.imm])] (I_Load x 1 (by assumption) (m := m) (V := V) (xs := xs)) h (by kernel_rfl) (A.pm [2, 0, 1] (by kernel_rfl) (by kernel_rfl))) (fun w _ => by kernel_rfl) (by kernel_rfl) ?_
      refine E.G.op (.tuple #[.int .u32 ((V.load (x).toNat 1).1), .int .u32 ((V.load (x).toNat 1).2.1), .bool ((V.load (x).toNat 1).2.2)]) (fun w => by kernel_rfl) (by kernel_rfl) ?_
      refine E.G.op (.int .u32 ((V.load (x).toNat 1).1)) (fun w => by kernel_rfl) (by kernel_rfl) ?_
      refine E.G.op (.int .u32 ((V.load (x).toNat 1).2.1)) (fun w => by kernel_rfl) (by kernel_rfl) ?_
      refine E.G.op (.bool ((V.load (x).toNat 1).2.2)) (fun w => by kernel_rfl) (by kernel_rfl) ?_
      refine E.G.op (.int .u32 ((V.load (x).toNat 1).1)) (fun w => by kernel_rfl) (by kernel_rfl) ?_
      refine E.G.op (.int .u32 ((V.load (x).toNat 1).2.1)) (fun w => by kernel_rfl) (by kernel_rfl) ?_
      refine E.G.op (.bool ((V.load (x).toNat 1).2.2)) (fun w => by kernel_rfl) (by kernel_rfl) ?_
      refine E.To.code ?_
      refine E.C.weak [(8, .int .u32 0), (9, .pointer (some ⟨g2, 0, none⟩)), (11, .func (.func 73) #[] #[]), (12, .int .u32 ((V.load (x).toNat 1).1)), (13, .int .u32 ((V.load (x).toNat 1).2.1)), (14, .bool ((V.load (x).toNat 1).2.2))] [(g2, [.int .i64 0, .int .u32 0])] ⟨by kernel_rfl, by kernel_rfl⟩ (List.Sublist.cons_cons _ (List.nil_sublist _)) ?_
      refine E.C.seq ?_
      refine E.C.region ?_
      refine E.G.op (.int .u32 ((V.load (x).toNat 1).1)) (fun w => by kernel_rfl) (by kernel_rfl) ?_
      refine E.G.op (.func (.func 73) #[] #[]) (fun w => by kernel_rfl) (by kernel_rfl) ?_
      refine E.G.op (.int .u32 ((V.load (x).toNat 1).2.1)) (fun w => by kernel_rfl) (by kernel_rfl) ?_
      refine E.G.op (.bool ((V.load (x).toNat 1).2.2)) (fun w => by kernel_rfl) (by kernel_rfl) ?_
      refine E.G.call (.agg #[.int .i64 ((Q.flt ((V.load (x).toNat 1).2.1) ((V.load (x).toNat 1).2.2)).1), .int .u32 ((Q.flt ((V.load (x).toNat 1).2.1) ((V.load (x).toNat 1).2.2)).2)]) (fun w h => fault_any ((V.load (x).toNat 1).2.1) ((V.load (x).toNat 1).2.2) w) (fun w _ => by kernel_rfl) (by kernel_rfl) ?_
      refine E.G.op (.int .u32 ((V.load (x).toNat 1).1)) (fun w => by kernel_rfl) (by kernel_rfl) ?_
      refine E.G.store 0 [.int .i64 ((Q.flt ((V.load (x).toNat 1).2.1) ((V.load (x).toNat 1).2.2)).1), .int .u32 ((Q.flt ((V.load (x).toNat 1).2.1) ((V.load (x).toNat 1).2.2)).2)] rfl rfl (by kernel_rfl) (by kernel_rfl) ?_
      refine E.To.code ?_
      refine E.C.weak [(8, .int .u32 ((V.load (x).toNat 1).1)), (9, .pointer (some ⟨g2, 0, none⟩))] [(g2, [.int .i64 ((Q.flt ((V.load (x).toNat 1).2.1) ((V.load (x).toNat 1).2.2)).1), .int .u32 ((Q.flt ((V.load (x).toNat 1).2.1) ((V.load (x).toNat 1).2.2)).2)])] ⟨by kernel_rfl, by kernel_rfl⟩ (List.Sublist.refl _) ?_
      refine E.C.ret (E.To.body (fn := Try.f62) [.int .u32 ((V.load (x).toNat 1).1), .agg #[.int .i64 ((Q.flt ((V.load (x).toNat 1).2.1) ((V.load (x).toNat 1).2.2)).1), .int .u32 ((Q.flt ((V.load (x).toNat 1).2.1) ((V.load (x).toNat 1).2.2)).2)]] ?_ ?_)
      · exact ⟨⟨by kernel_rfl, by kernel_rfl⟩, ⟨by kernel_rfl, _, _, 0, _, rfl, rfl, by kernel_rfl⟩, trivial⟩
      · intro w h
        have e : (Q.acc i V x v) = ((V.load (x).toNat 1).1, (Q.flt ((V.load (x).toNat 1).2.1) ((V.load (x).toNat 1).2.2)).1, (Q.flt ((V.load (x).toNat 1).2.1) ((V.load (x).toNat 1).2.2)).2, V) := by unfold Q.acc; rw [hc5, cond_true, hc8, cond_false] <;> rfl
        rw [e]
        exact ⟨(), trivial, rfl, A.done (q := [M.It m V xs]) (r := [A.blk g2 ([.int .i64 ((Q.flt ((V.load (x).toNat 1).2.1) ((V.load (x).toNat 1).2.2)).1), .int .u32 ((Q.flt ((V.load (x).toNat 1).2.1) ((V.load (x).toNat 1).2.2)).2)])]) h (by kernel_rfl) (A.pm [1, 0] (by kernel_rfl) (by kernel_rfl))⟩
  · skip
    refine E.C.skip (E.To.code ?_)
    refine E.C.seq ?_
    refine E.C.region ?_
    refine E.G.op (.func (.func 73) #[] #[]) (fun w => by kernel_rfl) (by kernel_rfl) ?_
    refine E.To.code ?_
    refine E.C.seq ?_
    refine E.C.seq ?_
    refine E.C.region ?_
    refine E.G.op (.pointer (some ⟨g1, 0, none⟩)) (fun w => by kernel_rfl) (by kernel_rfl) ?_
    refine E.G.val (.int .i64 i.op) (by kernel_rfl) (fun w h => E.run_load h 1 rfl rfl (by kernel_rfl)) ?_
    refine E.G.op (.bool (i.op == 25)) (fun w => by kernel_rfl) (by kernel_rfl) ?_
    refine E.G.op (.bool (i.op == 25)) (fun w => by kernel_rfl) (by kernel_rfl) ?_
    refine E.G.cut 4 [(1, .int .u32 x), (2, .int .u32 v), (3, .iface 82 (.pointer (some ⟨m, 0, none⟩))), (8, .int .u32 0), (9, .pointer (some ⟨g2, 0, none⟩)), (10, .int .i64 4), (11, .func (.func 73) #[] #[]), (30, .bool ((i.op == 25) || (i.op == 26)))] (A.X w oo aa [M.It m V xs]) [(g2, [.int .i64 0, .int .u32 0]), (g1, [.int .i64 i.op, .int .i64 i.d, .int .i64 i.a, .int .i64 i.b, .int .u32 i.imm])] ?_ ?_
    · generalize hc10 : (i.op == 25) = b11
      cases b11
      · skip
        refine E.G.op (.pointer (some ⟨g1, 0, none⟩)) (fun w => by kernel_rfl) (by kernel_rfl) ?_
        refine E.G.val (.int .i64 i.op) (by kernel_rfl) (fun w h => E.run_load h 1 rfl rfl (by kernel_rfl)) ?_
        refine E.G.op (.bool (i.op == 26)) (fun w => by kernel_rfl) (by kernel_rfl) ?_
        refine E.G.op (.bool (i.op == 26)) (fun w => by kernel_rfl) (by kernel_rfl) ?_
        exact E.G.end_pst ⟨by kernel_rfl, by kernel_rfl⟩ (List.Sublist.refl _) (fun _ h => h)
      · skip
        refine E.G.skip (by kernel_rfl) (by kernel_rfl) ?_
        refine E.G.skip (by kernel_rfl) (by kernel_rfl) ?_
        refine E.G.skip (by kernel_rfl) (by kernel_rfl) ?_
        refine E.G.op (.bool true) (fun w => by kernel_rfl) (by kernel_rfl) ?_
        exact E.G.end_pst ⟨by kernel_rfl, by kernel_rfl⟩ (List.Sublist.refl _) (fun _ h => h)
    refine E.To.code ?_
    refine E.C.cond ((i.op == 25) || (i.op == 26)) (by kernel_rfl) (by kernel_rfl) (fun hc12 => ?_) (fun hc12 => ?_)
    · skip
      refine E.C.seq ?_
      refine E.C.region ?_
      refine E.G.op (.func (.func 73) #[] #[]) (fun w => by kernel_rfl) (by kernel_rfl) ?_
      refine E.G.op (.iface 82 (.pointer (some ⟨m, 0, none⟩))) (fun w => by kernel_rfl) (by kernel_rfl) ?_
      refine E.G.op (.int .u32 x) (fun w => by kernel_rfl) (by kernel_rfl) ?_
      refine E.G.op (.int .i64 4) (fun w => by kernel_rfl) (by kernel_rfl) ?_
      refine E.G.op (.int .u32 v) (fun w => by kernel_rfl) (by kernel_rfl) ?_
      refine A.G.call (I := Unit) (D := fun _ => True) (V := fun _ => .tuple #[.int .u32 ((V.chk (x).toNat 2 4).1), .bool ((V.chk (x).toNat 2 4).2)]) (q := fun _ => [M.It m (V.sto (x).toNat 4 v) xs]) [A.blk g2 ([.int .i64 0, .int .u32 0]), A.blk g1 ([.int .i64 i.op, .int .i64 i.d, .int .i64 i.a, .int .i64 i.b, .int .u32 i.imm])] (fun _ => [(g2, [.int .i64 0, .int .u32 0]), (g1, [.int .i64 i.op, .int .i64 i.d, .int .i64 i.a, .int .i64 i.b, .int .u32 i.imm])]) (fun _ => [M.It m (V.sto (x).toNat 4 v) xs]) (I_Store x 4 v (by assumption) (m := m) (V := V) (xs := xs)) (by kernel_rfl) (A.pm [2, 0, 1] (by kernel_rfl) (by kernel_rfl)) (fun _ => A.pm [1, 2, 0] (by kernel_rfl) (by kernel_rfl)) (fun w _ => by kernel_rfl) (by kernel_rfl) (fun _ hd13 => ?_)
      refine E.G.op (.int .u32 ((V.chk (x).toNat 2 4).1)) (fun w => by kernel_rfl) (by kernel_rfl) ?_
      refine E.G.op (.bool ((V.chk (x).toNat 2 4).2)) (fun w => by kernel_rfl) (by kernel_rfl) ?_
      refine E.G.call (.agg #[.int .i64 ((Q.flt ((V.chk (x).toNat 2 4).1) ((V.chk (x).toNat 2 4).2)).1), .int .u32 ((Q.flt ((V.chk (x).toNat 2 4).1) ((V.chk (x).toNat 2 4).2)).2)]) (fun w h => fault_any ((V.chk (x).toNat 2 4).1) ((V.chk (x).toNat 2 4).2) w) (fun w _ => by kernel_rfl) (by kernel_rfl) ?_
      refine E.G.op (.int .u32 0) (fun w => by kernel_rfl) (by kernel_rfl) ?_
      refine E.G.store 0 [.int .i64 ((Q.flt ((V.chk (x).toNat 2 4).1) ((V.chk (x).toNat 2 4).2)).1), .int .u32 ((Q.flt ((V.chk (x).toNat 2 4).1) ((V.chk (x).toNat 2 4).2)).2)] rfl rfl (by kernel_rfl) (by kernel_rfl) ?_
      refine E.To.code ?_
      refine E.C.weak [(1, .int .u32 x), (3, .iface 82 (.pointer (some ⟨m, 0, none⟩))), (8, .int .u32 0), (9, .pointer (some ⟨g2, 0, none⟩)), (10, .int .i64 4), (11, .func (.func 73) #[] #[])] [(g2, [.int .i64 ((Q.flt ((V.chk (x).toNat 2 4).1) ((V.chk (x).toNat 2 4).2)).1), .int .u32 ((Q.flt ((V.chk (x).toNat 2 4).1) ((V.chk (x).toNat 2 4).2)).2)])] ⟨by kernel_rfl, by kernel_rfl⟩ (List.Sublist.cons_cons _ (List.nil_sublist _)) ?_
      refine E.C.ret (E.P.rt (E.To.body (fn := Try.f62) [.int .u32 0, .agg #[.int .i64 ((Q.flt ((V.chk (x).toNat 2 4).1) ((V.chk (x).toNat 2 4).2)).1), .int .u32 ((Q.flt ((V.chk (x).toNat 2 4).1) ((V.chk (x).toNat 2 4).2)).2)]] ?_ ?_))
      · exact ⟨⟨by kernel_rfl, by kernel_rfl⟩, ⟨by kernel_rfl, _, _, 0, _, rfl, rfl, by kernel_rfl⟩, trivial⟩
      · intro w h
        have e : (Q.acc i V x v) = (0, (Q.flt ((V.chk (x).toNat 2 4).1) ((V.chk (x).toNat 2 4).2)).1, (Q.flt ((V.chk (x).toNat 2 4).1) ((V.chk (x).toNat 2 4).2)).2, (V.sto (x).toNat 4 v)) := by unfold Q.acc; rw [hc5, cond_false, hc12, cond_true] <;> rfl
        rw [e]
        exact ⟨(), trivial, rfl, A.done (q := [M.It m (V.sto (x).toNat 4 v) xs]) (r := [A.blk g2 ([.int .i64 ((Q.flt ((V.chk (x).toNat 2 4).1) ((V.chk (x).toNat 2 4).2)).1), .int .u32 ((Q.flt ((V.chk (x).toNat 2 4).1) ((V.chk (x).toNat 2 4).2)).2)])]) h (by kernel_rfl) (A.pm [1, 0] (by kernel_rfl) (by kernel_rfl))⟩
    · skip
      refine E.C.skip (E.To.code ?_)
      refine E.C.seq ?_
      refine E.C.region ?_
      refine E.G.op (.iface 82 (.pointer (some ⟨m, 0, none⟩))) (fun w => by kernel_rfl) (by kernel_rfl) ?_
      refine E.G.op (.int .u32 x) (fun w => by kernel_rfl) (by kernel_rfl) ?_
      refine E.G.op (.int .i64 4) (fun w => by kernel_rfl) (by kernel_rfl) ?_
      refine E.G.call (.tuple #[.int .u32 ((V.load (x).toNat 4).1), .int .u32 ((V.load (x).toNat 4).2.1), .bool ((V.load (x).toNat 4).2.2)]) (fun w h => A.call_rd [A.blk g2 ([.int .i64 0, .int .u32 0]), A.blk g1 ([.int .i64 i.op, .int .i64 i.d, .int .i64 i.a, .int .i64 i.b, .int .u32 i.imm])] (I_Load x 4 (by assumption) (m := m) (V := V) (xs := xs)) h (by kernel_rfl) (A.pm [2, 0, 1] (by kernel_rfl) (by kernel_rfl))) (fun w _ => by kernel_rfl) (by kernel_rfl) ?_
      refine E.G.op (.tuple #[.int .u32 ((V.load (x).toNat 4).1), .int .u32 ((V.load (x).toNat 4).2.1), .bool ((V.load (x).toNat 4).2.2)]) (fun w => by kernel_rfl) (by kernel_rfl) ?_
      refine E.G.op (.int .u32 ((V.load (x).toNat 4).1)) (fun w => by kernel_rfl) (by kernel_rfl) ?_
      refine E.G.op (.int .u32 ((V.load (x).toNat 4).2.1)) (fun w => by kernel_rfl) (by kernel_rfl) ?_
      refine E.G.op (.bool ((V.load (x).toNat 4).2.2)) (fun w => by kernel_rfl) (by kernel_rfl) ?_
      refine E.G.op (.int .u32 ((V.load (x).toNat 4).1)) (fun w => by kernel_rfl) (by kernel_rfl) ?_
      refine E.G.op (.int .u32 ((V.load (x).toNat 4).2.1)) (fun w => by kernel_rfl) (by kernel_rfl) ?_
      refine E.G.op (.bool ((V.load (x).toNat 4).2.2)) (fun w => by kernel_rfl) (by kernel_rfl) ?_
      refine E.To.code ?_
      refine E.C.weak [(8, .int .u32 0), (9, .pointer (some ⟨g2, 0, none⟩)), (11, .func (.func 73) #[] #[]), (12, .int .u32 ((V.load (x).toNat 4).1)), (13, .int .u32 ((V.load (x).toNat 4).2.1)), (14, .bool ((V.load (x).toNat 4).2.2))] [(g2, [.int .i64 0, .int .u32 0])] ⟨by kernel_rfl, by kernel_rfl⟩ (List.Sublist.cons_cons _ (List.nil_sublist _)) ?_
      refine E.C.seq ?_
      refine E.C.region ?_
      refine E.G.op (.int .u32 ((V.load (x).toNat 4).1)) (fun w => by kernel_rfl) (by kernel_rfl) ?_
      refine E.G.op (.func (.func 73) #[] #[]) (fun w => by kernel_rfl) (by kernel_rfl) ?_
      refine E.G.op (.int .u32 ((V.load (x).toNat 4).2.1)) (fun w => by kernel_rfl) (by kernel_rfl) ?_
      refine E.G.op (.bool ((V.load (x).toNat 4).2.2)) (fun w => by kernel_rfl) (by kernel_rfl) ?_
      refine E.G.call (.agg #[.int .i64 ((Q.flt ((V.load (x).toNat 4).2.1) ((V.load (x).toNat 4).2.2)).1), .int .u32 ((Q.flt ((V.load (x).toNat 4).2.1) ((V.load (x).toNat 4).2.2)).2)]) (fun w h => fault_any ((V.load (x).toNat 4).2.1) ((V.load (x).toNat 4).2.2) w) (fun w _ => by kernel_rfl) (by kernel_rfl) ?_
      refine E.G.op (.int .u32 ((V.load (x).toNat 4).1)) (fun w => by kernel_rfl) (by kernel_rfl) ?_
      refine E.G.store 0 [.int .i64 ((Q.flt ((V.load (x).toNat 4).2.1) ((V.load (x).toNat 4).2.2)).1), .int .u32 ((Q.flt ((V.load (x).toNat 4).2.1) ((V.load (x).toNat 4).2.2)).2)] rfl rfl (by kernel_rfl) (by kernel_rfl) ?_
      refine E.To.code ?_
      refine E.C.weak [(8, .int .u32 ((V.load (x).toNat 4).1)), (9, .pointer (some ⟨g2, 0, none⟩))] [(g2, [.int .i64 ((Q.flt ((V.load (x).toNat 4).2.1) ((V.load (x).toNat 4).2.2)).1), .int .u32 ((Q.flt ((V.load (x).toNat 4).2.1) ((V.load (x).toNat 4).2.2)).2)])] ⟨by kernel_rfl, by kernel_rfl⟩ (List.Sublist.refl _) ?_
      refine E.C.ret (E.To.body (fn := Try.f62) [.int .u32 ((V.load (x).toNat 4).1), .agg #[.int .i64 ((Q.flt ((V.load (x).toNat 4).2.1) ((V.load (x).toNat 4).2.2)).1), .int .u32 ((Q.flt ((V.load (x).toNat 4).2.1) ((V.load (x).toNat 4).2.2)).2)]] ?_ ?_)
      · exact ⟨⟨by kernel_rfl, by kernel_rfl⟩, ⟨by kernel_rfl, _, _, 0, _, rfl, rfl, by kernel_rfl⟩, trivial⟩
      · intro w h
        have e : (Q.acc i V x v) = ((V.load (x).toNat 4).1, (Q.flt ((V.load (x).toNat 4).2.1) ((V.load (x).toNat 4).2.2)).1, (Q.flt ((V.load (x).toNat 4).2.1) ((V.load (x).toNat 4).2.2)).2, V) := by unfold Q.acc; rw [hc5, cond_false, hc12, cond_false] <;> rfl
        rw [e]
        exact ⟨(), trivial, rfl, A.done (q := [M.It m V xs]) (r := [A.blk g2 ([.int .i64 ((Q.flt ((V.load (x).toNat 4).2.1) ((V.load (x).toNat 4).2.2)).1), .int .u32 ((Q.flt ((V.load (x).toNat 4).2.1) ((V.load (x).toNat 4).2.2)).2)])]) h (by kernel_rfl) (A.pm [1, 0] (by kernel_rfl) (by kernel_rfl))⟩
theorem Q.ctl_ok {n : Int} (h : ((n == 0) || (n == 1)) = true) : 0 ≤ n ∧ n < ((4 : Nat) : Int) := by simp at h; omega
def Q.ctl (s : Q.S) (n v : Int) : Q.S := (bif ((n == 4) && (v == 0)) then ⟨s.pc, s.r, s.f, s.c, s.st, 0⟩ else (bif (n == 4) then ⟨s.pc, s.r, s.f, s.c, s.st, (IntKind.wrap .i64 ((IntKind.wrap .i64 (s.st + 1)) + (IntKind.wrap .i64 v)))⟩ else (bif ((n == 0) || (n == 1)) then ⟨s.pc, s.r, s.f, (Q.up s.c (n).toNat v), s.st, s.du⟩ else s)))
theorem Control {g : Nat} (s : Q.S) (n v : Int) (hn : 0 ≤ n ∧ n < 4294967296) : A.Tr Try.prog 63 #[.pointer (some ⟨g, 0, none⟩), .int .u32 n, .int .u32 v] [A.blk g (Q.S.cells s)] (I := Unit) (fun _ => True) (fun _ => .tuple #[]) (fun _ => [A.blk g (Q.S.cells (Q.ctl s n v))]) := by
  intro w oo aa hh
  refine E.enter (n := 43) (S := oo) Try.func63 rfl rfl (by kernel_rfl) (A.start (L := [(g, (Q.S.cells s))]) hh) ?_
  refine E.C.block ?_
  refine E.C.seq ?_
  refine E.C.region ?_
  refine E.G.op (.int .u32 n) (fun w => by kernel_rfl) (by kernel_rfl) ?_
  refine E.G.op (.bool (n == 4)) (fun w => by kernel_rfl) (by kernel_rfl) ?_
  refine E.G.op (.bool (n == 4)) (fun w => by kernel_rfl) (by kernel_rfl) ?_
  refine E.G.cut 3 [(0, .pointer (some ⟨g, 0, none⟩)), (1, .int .u32 n), (2, .int .u32 v), (12, .bool ((n == 4) && (v == 0)))] (A.X w oo aa []) [(g, (Q.S.cells s))] ?_ ?_
  · generalize hc1 : (n == 4) = b2
    cases b2
    · skip
      refine E.G.skip (by kernel_rfl) (by kernel_rfl) ?_
      refine E.G.skip (by kernel_rfl) (by kernel_rfl) ?_
      refine E.G.op (.bool false) (fun w => by kernel_rfl) (by kernel_rfl) ?_
      exact E.G.end_pst ⟨by kernel_rfl, by kernel_rfl⟩ (List.Sublist.refl _) (fun _ h => h)
    · skip
      refine E.G.op (.int .u32 v) (fun w => by kernel_rfl) (by kernel_rfl) ?_
      refine E.G.op (.bool (v == 0)) (fun w => by kernel_rfl) (by kernel_rfl) ?_
      refine E.G.op (.bool (v == 0)) (fun w => by kernel_rfl) (by kernel_rfl) ?_
      exact E.G.end_pst ⟨by kernel_rfl, by kernel_rfl⟩ (List.Sublist.refl _) (fun _ h => h)
  refine E.G.op (.bool ((n == 4) && (v == 0))) (fun w => by kernel_rfl) (by kernel_rfl) ?_
  refine E.To.code ?_
  refine E.C.cond ((n == 4) && (v == 0)) (by kernel_rfl) (by kernel_rfl) (fun hc3 => ?_) (fun hc3 => ?_)
  · skip
    refine E.C.region ?_
    refine E.G.op (.pointer (some ⟨g, 0, none⟩)) (fun w => by kernel_rfl) (by kernel_rfl) ?_
    refine E.G.op (.pointer (some ⟨g, 0, none⟩)) (fun w => by kernel_rfl) (by kernel_rfl) ?_
    refine E.G.op (.pointer (some ⟨g, 23, none⟩)) (fun w => by kernel_rfl) (by kernel_rfl) ?_
    refine E.G.store 0 (Q.S.cells (⟨s.pc, s.r, s.f, s.c, s.st, 0⟩)) rfl rfl (by kernel_rfl) (by kernel_rfl) ?_
    refine E.P.nb (E.To.bodyN (fn := Try.f63) [] ?_ ?_)
    · exact trivial
    · intro w h
      have e : (Q.ctl s n v) = ⟨s.pc, s.r, s.f, s.c, s.st, 0⟩ := by unfold Q.ctl; rw [hc3, cond_true] <;> rfl
      rw [e]
      exact ⟨(), trivial, rfl, A.done (q := [A.blk g (Q.S.cells (⟨s.pc, s.r, s.f, s.c, s.st, 0⟩))]) (r := []) h (by kernel_rfl) (A.pm [0] (by kernel_rfl) (by kernel_rfl))⟩
  · skip
    refine E.C.seq ?_
    refine E.C.region ?_
    refine E.G.op (.int .u32 n) (fun w => by kernel_rfl) (by kernel_rfl) ?_
    refine E.G.op (.bool (n == 4)) (fun w => by kernel_rfl) (by kernel_rfl) ?_
    refine E.G.op (.bool (n == 4)) (fun w => by kernel_rfl) (by kernel_rfl) ?_
    refine E.To.code ?_
    refine E.C.cond (n == 4) (by kernel_rfl) (by kernel_rfl) (fun hc4 => ?_) (fun hc4 => ?_)
    · skip
      refine E.C.region ?_
      refine E.G.op (.pointer (some ⟨g, 0, none⟩)) (fun w => by kernel_rfl) (by kernel_rfl) ?_
      refine E.G.op (.pointer (some ⟨g, 0, none⟩)) (fun w => by kernel_rfl) (by kernel_rfl) ?_
      refine E.G.op (.pointer (some ⟨g, 0, none⟩)) (fun w => by kernel_rfl) (by kernel_rfl) ?_
      refine E.G.op (.pointer (some ⟨g, 22, none⟩)) (fun w => by kernel_rfl) (by kernel_rfl) ?_
      refine E.G.val (.int .i64 s.st) (by kernel_rfl) (fun w h => E.run_load h 0 rfl rfl (by kernel_rfl)) ?_
      refine E.G.op (.int .i64 (IntKind.wrap .i64 (s.st + 1))) (fun w => by kernel_rfl) (by kernel_rfl) ?_
      refine E.G.op (.int .u32 v) (fun w => by kernel_rfl) (by kernel_rfl) ?_
      refine E.G.op (.int .i64 (IntKind.wrap .i64 v)) (fun w => by kernel_rfl) (by kernel_rfl) ?_
      refine E.G.op (.int .i64 (IntKind.wrap .i64 ((IntKind.wrap .i64 (s.st + 1)) + (IntKind.wrap .i64 v)))) (fun w => by kernel_rfl) (by kernel_rfl) ?_
      refine E.G.op (.pointer (some ⟨g, 0, none⟩)) (fun w => by kernel_rfl) (by kernel_rfl) ?_
      refine E.G.op (.pointer (some ⟨g, 23, none⟩)) (fun w => by kernel_rfl) (by kernel_rfl) ?_
      refine E.G.store 0 (Q.S.cells (⟨s.pc, s.r, s.f, s.c, s.st, (IntKind.wrap .i64 ((IntKind.wrap .i64 (s.st + 1)) + (IntKind.wrap .i64 v)))⟩)) rfl rfl (by kernel_rfl) (by kernel_rfl) ?_
      refine E.P.nb (E.To.bodyN (fn := Try.f63) [] ?_ ?_)
      · exact trivial
      · intro w h
        have e : (Q.ctl s n v) = ⟨s.pc, s.r, s.f, s.c, s.st, (IntKind.wrap .i64 ((IntKind.wrap .i64 (s.st + 1)) + (IntKind.wrap .i64 v)))⟩ := by unfold Q.ctl; rw [hc3, cond_false, hc4, cond_true] <;> rfl
        rw [e]
        exact ⟨(), trivial, rfl, A.done (q := [A.blk g (Q.S.cells (⟨s.pc, s.r, s.f, s.c, s.st, (IntKind.wrap .i64 ((IntKind.wrap .i64 (s.st + 1)) + (IntKind.wrap .i64 v)))⟩))]) (r := []) h (by kernel_rfl) (A.pm [0] (by kernel_rfl) (by kernel_rfl))⟩
    · skip
      refine E.C.seq ?_
      refine E.C.region ?_
      refine E.G.op (.int .u32 n) (fun w => by kernel_rfl) (by kernel_rfl) ?_
      refine E.G.op (.bool (n == 0)) (fun w => by kernel_rfl) (by kernel_rfl) ?_
      refine E.G.op (.bool (n == 0)) (fun w => by kernel_rfl) (by kernel_rfl) ?_
      refine E.G.cut 3 [(0, .pointer (some ⟨g, 0, none⟩)), (1, .int .u32 n), (2, .int .u32 v), (36, .bool ((n == 0) || (n == 1)))] (A.X w oo aa []) [(g, (Q.S.cells s))] ?_ ?_
      · generalize hc5 : (n == 0) = b6
        cases b6
        · skip
          refine E.G.op (.int .u32 n) (fun w => by kernel_rfl) (by kernel_rfl) ?_
          refine E.G.op (.bool (n == 1)) (fun w => by kernel_rfl) (by kernel_rfl) ?_
          refine E.G.op (.bool (n == 1)) (fun w => by kernel_rfl) (by kernel_rfl) ?_
          exact E.G.end_pst ⟨by kernel_rfl, by kernel_rfl⟩ (List.Sublist.refl _) (fun _ h => h)
        · skip
          refine E.G.skip (by kernel_rfl) (by kernel_rfl) ?_
          refine E.G.skip (by kernel_rfl) (by kernel_rfl) ?_
          refine E.G.op (.bool true) (fun w => by kernel_rfl) (by kernel_rfl) ?_
          exact E.G.end_pst ⟨by kernel_rfl, by kernel_rfl⟩ (List.Sublist.refl _) (fun _ h => h)
      refine E.G.op (.bool ((n == 0) || (n == 1))) (fun w => by kernel_rfl) (by kernel_rfl) ?_
      refine E.To.code ?_
      refine E.C.cond ((n == 0) || (n == 1)) (by kernel_rfl) (by kernel_rfl) (fun hc7 => ?_) (fun hc7 => ?_)
      · skip
        refine E.C.region ?_
        refine E.G.op (.pointer (some ⟨g, 0, none⟩)) (fun w => by kernel_rfl) (by kernel_rfl) ?_
        refine E.G.op (.int .u32 n) (fun w => by kernel_rfl) (by kernel_rfl) ?_
        refine E.G.op (.int .u32 v) (fun w => by kernel_rfl) (by kernel_rfl) ?_
        refine E.G.op (.pointer (some ⟨g, 0, none⟩)) (fun w => by kernel_rfl) (by kernel_rfl) ?_
        refine E.G.op (.pointer (some ⟨g, 18, none⟩)) (fun w => by kernel_rfl) (by kernel_rfl) ?_
        refine E.G.val (.pointer (some ⟨g, 18 + (n).toNat, none⟩)) (by kernel_rfl) (fun w h => E.idxI (e := 22) g 18 4 .u32 n (by kernel_rfl) (by kernel_rfl) (by kernel_rfl) (by kernel_rfl) (Q.ctl_ok hc7) w) ?_
        refine E.G.store 0 (Q.S.cells (⟨s.pc, s.r, s.f, (Q.up s.c (n).toNat v), s.st, s.du⟩)) rfl rfl (Q.sto_c (s := s) (by kernel_rfl) (by have := (Q.ctl_ok hc7); omega)) (by kernel_rfl) ?_
        refine E.P.nb (E.To.bodyN (fn := Try.f63) [] ?_ ?_)
        · exact trivial
        · intro w h
          have e : (Q.ctl s n v) = ⟨s.pc, s.r, s.f, (Q.up s.c (n).toNat v), s.st, s.du⟩ := by unfold Q.ctl; rw [hc3, cond_false, hc4, cond_false, hc7, cond_true] <;> rfl
          rw [e]
          exact ⟨(), trivial, rfl, A.done (q := [A.blk g (Q.S.cells (⟨s.pc, s.r, s.f, (Q.up s.c (n).toNat v), s.st, s.du⟩))]) (r := []) h (by kernel_rfl) (A.pm [0] (by kernel_rfl) (by kernel_rfl))⟩
      · skip
        refine E.C.skip (E.P.nb (E.To.bodyN (fn := Try.f63) [] ?_ ?_))
        · exact trivial
        · intro w h
          have e : (Q.ctl s n v) = s := by unfold Q.ctl; rw [hc3, cond_false, hc4, cond_false, hc7, cond_false] <;> rfl
          rw [e]
          exact ⟨(), trivial, rfl, A.done (q := [A.blk g (Q.S.cells s)]) (r := []) h (by kernel_rfl) (A.pm [0] (by kernel_rfl) (by kernel_rfl))⟩
end Go.Proofs.Ytgbndbljohpnmaa
