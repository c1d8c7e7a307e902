/- Walks: four, Decode, Encode of babelref02, printed by wip/eng. No condition but what is named. -/
import Derived.Test.YtgnekniabedomaaProg
import Derived.Test.YtgnekniabedomaaR1
namespace Go.Proofs.Ytgnekniabedomaa
set_option linter.unusedVariables false
set_option linter.unusedSimpArgs false
open Go.RowKit

theorem R2_four {S : Nat → Prop} {w0 : World} {X : World → Prop} {L : List (Nat × List Value)} (x : Int)  (w : World) (hh : E.Hp S w0 X L w) : Calls Try.prog 32 #[.int .u32 x] w fun e w' => ∃ g, e = .returned (.slice (some ⟨g, 0, none⟩) 4 4) ∧ E.Hp S w0 X ((g, [.int .u8 (IntKind.wrap .u8 x), .int .u8 (IntKind.wrap .u8 (IntKind.wrap .u32 (Int.tdiv x 256))), .int .u8 (IntKind.wrap .u8 (IntKind.wrap .u32 (Int.tdiv x 65536))), .int .u8 (IntKind.wrap .u8 (IntKind.wrap .u32 (Int.tdiv x 16777216)))]) :: L) w' := by
  refine E.enter (n := 15) (S := S) Try.func32 rfl rfl (by kernel_rfl) (hh) ?_
  refine E.C.seq ?_
  refine E.C.region ?_
  refine E.G.op (.slice none 0 0) (fun w => by kernel_rfl) (by kernel_rfl) ?_
  refine E.To.code ?_
  refine E.C.seq ?_
  refine E.C.region ?_
  refine E.G.op (.int .u32 x) (fun w => by kernel_rfl) (by kernel_rfl) ?_
  refine E.G.op (.int .u8 (IntKind.wrap .u8 x)) (fun w => by kernel_rfl) (by kernel_rfl) ?_
  refine E.G.op (.int .u32 x) (fun w => by kernel_rfl) (by kernel_rfl) ?_
  refine E.G.op (.int .u32 (IntKind.wrap .u32 (Int.tdiv x 256))) (fun w => by kernel_rfl) (by kernel_rfl) ?_
  refine E.G.op (.int .u8 (IntKind.wrap .u8 (IntKind.wrap .u32 (Int.tdiv x 256)))) (fun w => by kernel_rfl) (by kernel_rfl) ?_
  refine E.G.op (.int .u32 x) (fun w => by kernel_rfl) (by kernel_rfl) ?_
  refine E.G.op (.int .u32 (IntKind.wrap .u32 (Int.tdiv x 65536))) (fun w => by kernel_rfl) (by kernel_rfl) ?_
  refine E.G.op (.int .u8 (IntKind.wrap .u8 (IntKind.wrap .u32 (Int.tdiv x 65536)))) (fun w => by kernel_rfl) (by kernel_rfl) ?_
  refine E.G.op (.int .u32 x) (fun w => by kernel_rfl) (by kernel_rfl) ?_
  refine E.G.op (.int .u32 (IntKind.wrap .u32 (Int.tdiv x 16777216))) (fun w => by kernel_rfl) (by kernel_rfl) ?_
  refine E.G.op (.int .u8 (IntKind.wrap .u8 (IntKind.wrap .u32 (Int.tdiv x 16777216)))) (fun w => by kernel_rfl) (by kernel_rfl) ?_
  refine E.G.buildSlice [.int .u8 (IntKind.wrap .u8 x), .int .u8 (IntKind.wrap .u8 (IntKind.wrap .u32 (Int.tdiv x 256))), .int .u8 (IntKind.wrap .u8 (IntKind.wrap .u32 (Int.tdiv x 65536))), .int .u8 (IntKind.wrap .u8 (IntKind.wrap .u32 (Int.tdiv x 16777216)))] (by kernel_rfl) (by kernel_rfl) (fun g1 => ?_)
  refine E.G.op (.slice (some ⟨g1, 0, none⟩) 4 4) (fun w => by kernel_rfl) (by kernel_rfl) ?_
  refine E.To.code ?_
  refine E.C.weak [(2, .slice (some ⟨g1, 0, none⟩) 4 4)] ((g1, [.int .u8 (IntKind.wrap .u8 x), .int .u8 (IntKind.wrap .u8 (IntKind.wrap .u32 (Int.tdiv x 256))), .int .u8 (IntKind.wrap .u8 (IntKind.wrap .u32 (Int.tdiv x 65536))), .int .u8 (IntKind.wrap .u8 (IntKind.wrap .u32 (Int.tdiv x 16777216)))]) :: L) ⟨by kernel_rfl, by kernel_rfl⟩ (List.Sublist.refl _) ?_
  refine E.C.ret (E.To.body (fn := Try.f32) [.slice (some ⟨g1, 0, none⟩) 4 4] ?_ ?_)
  · exact ⟨⟨by kernel_rfl, by kernel_rfl⟩, trivial⟩
  · intro w h
    exact ⟨g1, rfl, h.less (List.Sublist.refl _)⟩

theorem R2.byt_extract (s : ByteArray) (m j : Nat) (h : j < m) (hm : m ≤ s.size) : W.byt (s.extract 0 m).data.toList j = W.byt s.data.toList j := by
  unfold W.byt
  congr 2
  simp [ByteArray.data_extract, List.getElem?_take, h]
theorem R2.pre (s : ByteArray) (m : Nat) (h1 : 0 < m) (h2 : m ≤ s.size) (hn : (m : Int) = R2.Size (W.byt s.data.toList 0)) : 0 < (s.extract 0 m).size ∧ ((s.extract 0 m).size : Int) = R2.Size (W.byt (s.extract 0 m).data.toList 0) := by
  have e : (s.extract 0 m).size = m := by rw [ByteArray.size_extract]; omega
  rw [e, R2.byt_extract s m 0 h1 h2]
  exact ⟨h1, hn⟩

def R2.Decode (s : ByteArray) : K.Ins × Int := (bif (s.toList == (⟨#[]⟩ : ByteArray).toList) then (⟨0, 0, 0, 0, 0, 0, 0⟩, 10) else (bif ((R2.Size (W.byt s.data.toList 0)) == 0) then (⟨0, 0, 0, 0, 0, 0, 0⟩, 12) else (bif (decide (((s.size : Nat) : Int) < (R2.Size (W.byt s.data.toList 0)))) then (⟨0, 0, 0, 0, 0, 0, 0⟩, 10) else (bif (!(R2.Valid ((R2.read (s.extract 0 ((R2.Size (W.byt s.data.toList 0))).toNat))))) then (⟨0, 0, 0, 0, 0, 0, 0⟩, 12) else (⟨((R2.read (s.extract 0 ((R2.Size (W.byt s.data.toList 0))).toNat))).op, ((R2.read (s.extract 0 ((R2.Size (W.byt s.data.toList 0))).toNat))).d, ((R2.read (s.extract 0 ((R2.Size (W.byt s.data.toList 0))).toNat))).s, ((R2.read (s.extract 0 ((R2.Size (W.byt s.data.toList 0))).toNat))).ix, ((R2.read (s.extract 0 ((R2.Size (W.byt s.data.toList 0))).toNat))).sc, ((R2.read (s.extract 0 ((R2.Size (W.byt s.data.toList 0))).toNat))).imm, ((R2.read (s.extract 0 ((R2.Size (W.byt s.data.toList 0))).toNat))).sz⟩, 0)))))
theorem R2_Decode (s : ByteArray) (w : World) : Calls Try.prog 15 #[.string s] w fun e w' => e = .returned (.agg #[.int .i64 (((((R2.Decode s)).1)).op), .int .i64 (((((R2.Decode s)).1)).d), .int .i64 (((((R2.Decode s)).1)).s), .int .i64 (((((R2.Decode s)).1)).ix), .int .i64 (((((R2.Decode s)).1)).sc), .int .u32 (((((R2.Decode s)).1)).imm), .int .i64 (((((R2.Decode s)).1)).sz), .int .i64 (((R2.Decode s)).2)]) ∧ Bel w w' := by
  have hc := R2.Size_cases (W.byt s.data.toList 0)
  refine E.enter (n := 29) (S := fun _ => False) Try.func15 rfl rfl (by kernel_rfl) (E.Hp.start w) ?_
  refine E.C.seq ?_
  refine E.C.region ?_
  refine E.G.new (fun g => .pointer (some ⟨g, 0, none⟩)) [.int .i64 0, .int .i64 0, .int .i64 0, .int .i64 0, .int .i64 0, .int .u32 0, .int .i64 0, .int .i64 0] 32 (fun w => by kernel_rfl) (by kernel_rfl) (fun g1 => ?_)
  refine E.To.code ?_
  refine E.C.seq ?_
  refine E.C.seq ?_
  refine E.C.region ?_
  refine E.G.op (.string s) (fun w => by kernel_rfl) (by kernel_rfl) ?_
  refine E.G.op (.bool (s.toList == (⟨#[]⟩ : ByteArray).toList)) (fun w => by kernel_rfl) (by kernel_rfl) ?_
  refine E.To.code ?_
  refine E.C.cond (s.toList == (⟨#[]⟩ : ByteArray).toList) (by kernel_rfl) (by kernel_rfl) (fun hc2 => ?_) (fun hc2 => ?_)
  · skip
    refine E.C.seq ?_
    refine E.C.region ?_
    refine E.G.val (.agg #[.int .i64 0, .int .i64 0, .int .i64 0, .int .i64 0, .int .i64 0, .int .u32 0, .int .i64 0, .int .i64 10]) (by kernel_rfl) (fun w h => E.run_build #[.int .i64 0, .int .i64 0, .int .i64 0, .int .i64 0, .int .i64 0, .int .u32 0, .int .i64 0, .int .i64 10] (by kernel_rfl) w) ?_
    refine E.G.store 0 [.int .i64 0, .int .i64 0, .int .i64 0, .int .i64 0, .int .i64 0, .int .u32 0, .int .i64 0, .int .i64 10] rfl rfl (by kernel_rfl) (by kernel_rfl) ?_
    refine E.To.code ?_
    refine E.C.ret (E.P.rt (E.To.body (fn := Try.f15) [.agg #[.int .i64 0, .int .i64 0, .int .i64 0, .int .i64 0, .int .i64 0, .int .u32 0, .int .i64 0, .int .i64 10]] ?_ ?_))
    · exact ⟨⟨by kernel_rfl, _, _, 0, _, rfl, rfl, by kernel_rfl⟩, trivial⟩
    · intro w h
      exact ⟨by show Ending.returned (.agg #[.int .i64 0, .int .i64 0, .int .i64 0, .int .i64 0, .int .i64 0, .int .u32 0, .int .i64 0, .int .i64 10]) = _; unfold R2.Decode; rw [hc2, cond_true], h.ch.bel (fun _ h => h.elim)⟩
  · skip
    refine E.C.skip (E.To.code ?_)
    refine E.C.seq ?_
    refine E.C.region ?_
    refine E.G.op (.string s) (fun w => by kernel_rfl) (by kernel_rfl) ?_
    refine E.G.val (.int .u8 (W.byt s.data.toList 0)) (by kernel_rfl) (fun w h => E.sidx s .i64 0 (by kernel_rfl) (by kernel_rfl) (by kernel_rfl) (by first | (have hp := E.size_pos (by assumption); (try simp only [beq_iff_eq, bne_iff_ne, ne_eq, Bool.or_eq_true, Bool.and_eq_true, beq_eq_false_iff_ne, decide_eq_true_eq, decide_eq_false_iff_not, Bool.or_eq_false_iff, Bool.not_eq_true, gt_iff_lt] at *); omega) | ((try simp only [beq_iff_eq, bne_iff_ne, ne_eq, Bool.or_eq_true, Bool.and_eq_true, beq_eq_false_iff_ne, decide_eq_true_eq, decide_eq_false_iff_not, Bool.or_eq_false_iff, Bool.not_eq_true, gt_iff_lt] at *); omega)) (by first | (have hp := E.size_pos (by assumption); (try simp only [beq_iff_eq, bne_iff_ne, ne_eq, Bool.or_eq_true, Bool.and_eq_true, beq_eq_false_iff_ne, decide_eq_true_eq, decide_eq_false_iff_not, Bool.or_eq_false_iff, Bool.not_eq_true, gt_iff_lt] at *); omega) | ((try simp only [beq_iff_eq, bne_iff_ne, ne_eq, Bool.or_eq_true, Bool.and_eq_true, beq_eq_false_iff_ne, decide_eq_true_eq, decide_eq_false_iff_not, Bool.or_eq_false_iff, Bool.not_eq_true, gt_iff_lt] at *); omega)) w) ?_
    refine E.G.call (.int .i64 (R2.Size (W.byt s.data.toList 0))) (fun w h => R2_Size _ w) (fun w _ => by kernel_rfl) (by kernel_rfl) ?_
    refine E.G.op (.int .i64 (R2.Size (W.byt s.data.toList 0))) (fun w => by kernel_rfl) (by kernel_rfl) ?_
    refine E.To.code ?_
    refine E.C.seq ?_
    refine E.C.seq ?_
    refine E.C.region ?_
    refine E.G.op (.int .i64 (R2.Size (W.byt s.data.toList 0))) (fun w => by kernel_rfl) (by kernel_rfl) ?_
    refine E.G.op (.bool ((R2.Size (W.byt s.data.toList 0)) == 0)) (fun w => by kernel_rfl) (by kernel_rfl) ?_
    refine E.To.code ?_
    refine E.C.cond ((R2.Size (W.byt s.data.toList 0)) == 0) (by kernel_rfl) (by kernel_rfl) (fun hc3 => ?_) (fun hc3 => ?_)
    · skip
      refine E.C.seq ?_
      refine E.C.region ?_
      refine E.G.val (.agg #[.int .i64 0, .int .i64 0, .int .i64 0, .int .i64 0, .int .i64 0, .int .u32 0, .int .i64 0, .int .i64 12]) (by kernel_rfl) (fun w h => E.run_build #[.int .i64 0, .int .i64 0, .int .i64 0, .int .i64 0, .int .i64 0, .int .u32 0, .int .i64 0, .int .i64 12] (by kernel_rfl) w) ?_
      refine E.G.store 0 [.int .i64 0, .int .i64 0, .int .i64 0, .int .i64 0, .int .i64 0, .int .u32 0, .int .i64 0, .int .i64 12] rfl rfl (by kernel_rfl) (by kernel_rfl) ?_
      refine E.To.code ?_
      refine E.C.weak [(0, .string s), (2, .pointer (some ⟨g1, 0, none⟩)), (3, .int .i64 (R2.Size (W.byt s.data.toList 0)))] [(g1, [.int .i64 0, .int .i64 0, .int .i64 0, .int .i64 0, .int .i64 0, .int .u32 0, .int .i64 0, .int .i64 12])] ⟨by kernel_rfl, by kernel_rfl⟩ (List.Sublist.refl _) ?_
      refine E.C.ret (E.P.rt (E.To.body (fn := Try.f15) [.agg #[.int .i64 0, .int .i64 0, .int .i64 0, .int .i64 0, .int .i64 0, .int .u32 0, .int .i64 0, .int .i64 12]] ?_ ?_))
      · exact ⟨⟨by kernel_rfl, _, _, 0, _, rfl, rfl, by kernel_rfl⟩, trivial⟩
      · intro w h
        exact ⟨by show Ending.returned (.agg #[.int .i64 0, .int .i64 0, .int .i64 0, .int .i64 0, .int .i64 0, .int .u32 0, .int .i64 0, .int .i64 12]) = _; unfold R2.Decode; rw [hc2, cond_false, hc3, cond_true], h.ch.bel (fun _ h => h.elim)⟩
    · skip
      refine E.C.skip (E.To.code ?_)
      refine E.C.seq ?_
      refine E.C.seq ?_
      refine E.C.region ?_
      refine E.G.op (.string s) (fun w => by kernel_rfl) (by kernel_rfl) ?_
      refine E.G.op (.int .i64 ((s.size : Nat) : Int)) (fun w => by kernel_rfl) (by kernel_rfl) ?_
      refine E.G.op (.int .i64 (R2.Size (W.byt s.data.toList 0))) (fun w => by kernel_rfl) (by kernel_rfl) ?_
      refine E.G.op (.bool (decide (((s.size : Nat) : Int) < (R2.Size (W.byt s.data.toList 0))))) (fun w => by kernel_rfl) (by kernel_rfl) ?_
      refine E.To.code ?_
      refine E.C.weak [(0, .string s), (2, .pointer (some ⟨g1, 0, none⟩)), (3, .int .i64 (R2.Size (W.byt s.data.toList 0))), (17, .bool (decide (((s.size : Nat) : Int) < (R2.Size (W.byt s.data.toList 0)))))] [(g1, [.int .i64 0, .int .i64 0, .int .i64 0, .int .i64 0, .int .i64 0, .int .u32 0, .int .i64 0, .int .i64 0])] ⟨by kernel_rfl, by kernel_rfl⟩ (List.Sublist.refl _) ?_
      refine E.C.cond (decide (((s.size : Nat) : Int) < (R2.Size (W.byt s.data.toList 0)))) (by kernel_rfl) (by kernel_rfl) (fun hc4 => ?_) (fun hc4 => ?_)
      · skip
        refine E.C.seq ?_
        refine E.C.region ?_
        refine E.G.val (.agg #[.int .i64 0, .int .i64 0, .int .i64 0, .int .i64 0, .int .i64 0, .int .u32 0, .int .i64 0, .int .i64 10]) (by kernel_rfl) (fun w h => E.run_build #[.int .i64 0, .int .i64 0, .int .i64 0, .int .i64 0, .int .i64 0, .int .u32 0, .int .i64 0, .int .i64 10] (by kernel_rfl) w) ?_
        refine E.G.store 0 [.int .i64 0, .int .i64 0, .int .i64 0, .int .i64 0, .int .i64 0, .int .u32 0, .int .i64 0, .int .i64 10] rfl rfl (by kernel_rfl) (by kernel_rfl) ?_
        refine E.To.code ?_
        refine E.C.ret (E.P.rt (E.To.body (fn := Try.f15) [.agg #[.int .i64 0, .int .i64 0, .int .i64 0, .int .i64 0, .int .i64 0, .int .u32 0, .int .i64 0, .int .i64 10]] ?_ ?_))
        · exact ⟨⟨by kernel_rfl, _, _, 0, _, rfl, rfl, by kernel_rfl⟩, trivial⟩
        · intro w h
          exact ⟨by show Ending.returned (.agg #[.int .i64 0, .int .i64 0, .int .i64 0, .int .i64 0, .int .i64 0, .int .u32 0, .int .i64 0, .int .i64 10]) = _; unfold R2.Decode; rw [hc2, cond_false, hc3, cond_false, hc4, cond_true], h.ch.bel (fun _ h => h.elim)⟩
      · skip
        refine E.C.skip (E.To.code ?_)
        refine E.C.seq ?_
        refine E.C.region ?_
        refine E.G.op (.string s) (fun w => by kernel_rfl) (by kernel_rfl) ?_
        refine E.G.op (.int .i64 (R2.Size (W.byt s.data.toList 0))) (fun w => by kernel_rfl) (by kernel_rfl) ?_
        refine E.G.val (.string (s.extract 0 ((R2.Size (W.byt s.data.toList 0))).toNat)) (by kernel_rfl) (fun w h => E.slTo s .i64 (R2.Size (W.byt s.data.toList 0)) (by kernel_rfl) (by kernel_rfl) (by kernel_rfl) (by first | (have hp := E.size_pos (by assumption); (try simp only [beq_iff_eq, bne_iff_ne, ne_eq, Bool.or_eq_true, Bool.and_eq_true, beq_eq_false_iff_ne, decide_eq_true_eq, decide_eq_false_iff_not, Bool.or_eq_false_iff, Bool.not_eq_true, gt_iff_lt] at *); omega) | ((try simp only [beq_iff_eq, bne_iff_ne, ne_eq, Bool.or_eq_true, Bool.and_eq_true, beq_eq_false_iff_ne, decide_eq_true_eq, decide_eq_false_iff_not, Bool.or_eq_false_iff, Bool.not_eq_true, gt_iff_lt] at *); omega)) (by first | (have hp := E.size_pos (by assumption); (try simp only [beq_iff_eq, bne_iff_ne, ne_eq, Bool.or_eq_true, Bool.and_eq_true, beq_eq_false_iff_ne, decide_eq_true_eq, decide_eq_false_iff_not, Bool.or_eq_false_iff, Bool.not_eq_true, gt_iff_lt] at *); omega) | ((try simp only [beq_iff_eq, bne_iff_ne, ne_eq, Bool.or_eq_true, Bool.and_eq_true, beq_eq_false_iff_ne, decide_eq_true_eq, decide_eq_false_iff_not, Bool.or_eq_false_iff, Bool.not_eq_true, gt_iff_lt] at *); omega)) w) ?_
        refine E.G.call (.agg #[.int .i64 (((R2.read (s.extract 0 ((R2.Size (W.byt s.data.toList 0))).toNat))).op), .int .i64 (((R2.read (s.extract 0 ((R2.Size (W.byt s.data.toList 0))).toNat))).d), .int .i64 (((R2.read (s.extract 0 ((R2.Size (W.byt s.data.toList 0))).toNat))).s), .int .i64 (((R2.read (s.extract 0 ((R2.Size (W.byt s.data.toList 0))).toNat))).ix), .int .i64 (((R2.read (s.extract 0 ((R2.Size (W.byt s.data.toList 0))).toNat))).sc), .int .u32 (((R2.read (s.extract 0 ((R2.Size (W.byt s.data.toList 0))).toNat))).imm), .int .i64 (((R2.read (s.extract 0 ((R2.Size (W.byt s.data.toList 0))).toNat))).sz)]) (fun w h => R2_read (s.extract 0 ((R2.Size (W.byt s.data.toList 0))).toNat) (R2.pre s (((R2.Size (W.byt s.data.toList 0))).toNat) (by first | (have hp := E.size_pos (by assumption); (try simp only [beq_iff_eq, bne_iff_ne, ne_eq, Bool.or_eq_true, Bool.and_eq_true, beq_eq_false_iff_ne, decide_eq_true_eq, decide_eq_false_iff_not, Bool.or_eq_false_iff, Bool.not_eq_true, gt_iff_lt] at *); omega) | ((try simp only [beq_iff_eq, bne_iff_ne, ne_eq, Bool.or_eq_true, Bool.and_eq_true, beq_eq_false_iff_ne, decide_eq_true_eq, decide_eq_false_iff_not, Bool.or_eq_false_iff, Bool.not_eq_true, gt_iff_lt] at *); omega)) (by first | (have hp := E.size_pos (by assumption); (try simp only [beq_iff_eq, bne_iff_ne, ne_eq, Bool.or_eq_true, Bool.and_eq_true, beq_eq_false_iff_ne, decide_eq_true_eq, decide_eq_false_iff_not, Bool.or_eq_false_iff, Bool.not_eq_true, gt_iff_lt] at *); omega) | ((try simp only [beq_iff_eq, bne_iff_ne, ne_eq, Bool.or_eq_true, Bool.and_eq_true, beq_eq_false_iff_ne, decide_eq_true_eq, decide_eq_false_iff_not, Bool.or_eq_false_iff, Bool.not_eq_true, gt_iff_lt] at *); omega)) (by first | (have hp := E.size_pos (by assumption); (try simp only [beq_iff_eq, bne_iff_ne, ne_eq, Bool.or_eq_true, Bool.and_eq_true, beq_eq_false_iff_ne, decide_eq_true_eq, decide_eq_false_iff_not, Bool.or_eq_false_iff, Bool.not_eq_true, gt_iff_lt] at *); omega) | ((try simp only [beq_iff_eq, bne_iff_ne, ne_eq, Bool.or_eq_true, Bool.and_eq_true, beq_eq_false_iff_ne, decide_eq_true_eq, decide_eq_false_iff_not, Bool.or_eq_false_iff, Bool.not_eq_true, gt_iff_lt] at *); omega))).1 (R2.pre s (((R2.Size (W.byt s.data.toList 0))).toNat) (by first | (have hp := E.size_pos (by assumption); (try simp only [beq_iff_eq, bne_iff_ne, ne_eq, Bool.or_eq_true, Bool.and_eq_true, beq_eq_false_iff_ne, decide_eq_true_eq, decide_eq_false_iff_not, Bool.or_eq_false_iff, Bool.not_eq_true, gt_iff_lt] at *); omega) | ((try simp only [beq_iff_eq, bne_iff_ne, ne_eq, Bool.or_eq_true, Bool.and_eq_true, beq_eq_false_iff_ne, decide_eq_true_eq, decide_eq_false_iff_not, Bool.or_eq_false_iff, Bool.not_eq_true, gt_iff_lt] at *); omega)) (by first | (have hp := E.size_pos (by assumption); (try simp only [beq_iff_eq, bne_iff_ne, ne_eq, Bool.or_eq_true, Bool.and_eq_true, beq_eq_false_iff_ne, decide_eq_true_eq, decide_eq_false_iff_not, Bool.or_eq_false_iff, Bool.not_eq_true, gt_iff_lt] at *); omega) | ((try simp only [beq_iff_eq, bne_iff_ne, ne_eq, Bool.or_eq_true, Bool.and_eq_true, beq_eq_false_iff_ne, decide_eq_true_eq, decide_eq_false_iff_not, Bool.or_eq_false_iff, Bool.not_eq_true, gt_iff_lt] at *); omega)) (by first | (have hp := E.size_pos (by assumption); (try simp only [beq_iff_eq, bne_iff_ne, ne_eq, Bool.or_eq_true, Bool.and_eq_true, beq_eq_false_iff_ne, decide_eq_true_eq, decide_eq_false_iff_not, Bool.or_eq_false_iff, Bool.not_eq_true, gt_iff_lt] at *); omega) | ((try simp only [beq_iff_eq, bne_iff_ne, ne_eq, Bool.or_eq_true, Bool.and_eq_true, beq_eq_false_iff_ne, decide_eq_true_eq, decide_eq_false_iff_not, Bool.or_eq_false_iff, Bool.not_eq_true, gt_iff_lt] at *); omega))).2 w) (fun w _ => by kernel_rfl) (by kernel_rfl) ?_
        refine E.G.new (fun g => .pointer (some ⟨g, 0, none⟩)) [.int .i64 0, .int .i64 0, .int .i64 0, .int .i64 0, .int .i64 0, .int .u32 0, .int .i64 0] 27 (fun w => by kernel_rfl) (by kernel_rfl) (fun g5 => ?_)
        refine E.G.store 0 [.int .i64 (((R2.read (s.extract 0 ((R2.Size (W.byt s.data.toList 0))).toNat))).op), .int .i64 (((R2.read (s.extract 0 ((R2.Size (W.byt s.data.toList 0))).toNat))).d), .int .i64 (((R2.read (s.extract 0 ((R2.Size (W.byt s.data.toList 0))).toNat))).s), .int .i64 (((R2.read (s.extract 0 ((R2.Size (W.byt s.data.toList 0))).toNat))).ix), .int .i64 (((R2.read (s.extract 0 ((R2.Size (W.byt s.data.toList 0))).toNat))).sc), .int .u32 (((R2.read (s.extract 0 ((R2.Size (W.byt s.data.toList 0))).toNat))).imm), .int .i64 (((R2.read (s.extract 0 ((R2.Size (W.byt s.data.toList 0))).toNat))).sz)] rfl rfl (by kernel_rfl) (by kernel_rfl) ?_
        refine E.To.code ?_
        refine E.C.seq ?_
        refine E.C.seq ?_
        refine E.C.region ?_
        refine E.G.val (.agg #[.int .i64 (((R2.read (s.extract 0 ((R2.Size (W.byt s.data.toList 0))).toNat))).op), .int .i64 (((R2.read (s.extract 0 ((R2.Size (W.byt s.data.toList 0))).toNat))).d), .int .i64 (((R2.read (s.extract 0 ((R2.Size (W.byt s.data.toList 0))).toNat))).s), .int .i64 (((R2.read (s.extract 0 ((R2.Size (W.byt s.data.toList 0))).toNat))).ix), .int .i64 (((R2.read (s.extract 0 ((R2.Size (W.byt s.data.toList 0))).toNat))).sc), .int .u32 (((R2.read (s.extract 0 ((R2.Size (W.byt s.data.toList 0))).toNat))).imm), .int .i64 (((R2.read (s.extract 0 ((R2.Size (W.byt s.data.toList 0))).toNat))).sz)]) (by kernel_rfl) (fun w h => E.run_load h 0 rfl rfl (by kernel_rfl)) ?_
        refine E.G.call (.bool (R2.Valid ((R2.read (s.extract 0 ((R2.Size (W.byt s.data.toList 0))).toNat))))) (fun w h => R2_Valid ((R2.read (s.extract 0 ((R2.Size (W.byt s.data.toList 0))).toNat))) w) (fun w _ => by kernel_rfl) (by kernel_rfl) ?_
        refine E.G.op (.bool (!(R2.Valid ((R2.read (s.extract 0 ((R2.Size (W.byt s.data.toList 0))).toNat)))))) (fun w => by kernel_rfl) (by kernel_rfl) ?_
        refine E.To.code ?_
        refine E.C.weak [(2, .pointer (some ⟨g1, 0, none⟩)), (4, .pointer (some ⟨g5, 0, none⟩)), (25, .bool (!(R2.Valid ((R2.read (s.extract 0 ((R2.Size (W.byt s.data.toList 0))).toNat))))))] [(g5, [.int .i64 (((R2.read (s.extract 0 ((R2.Size (W.byt s.data.toList 0))).toNat))).op), .int .i64 (((R2.read (s.extract 0 ((R2.Size (W.byt s.data.toList 0))).toNat))).d), .int .i64 (((R2.read (s.extract 0 ((R2.Size (W.byt s.data.toList 0))).toNat))).s), .int .i64 (((R2.read (s.extract 0 ((R2.Size (W.byt s.data.toList 0))).toNat))).ix), .int .i64 (((R2.read (s.extract 0 ((R2.Size (W.byt s.data.toList 0))).toNat))).sc), .int .u32 (((R2.read (s.extract 0 ((R2.Size (W.byt s.data.toList 0))).toNat))).imm), .int .i64 (((R2.read (s.extract 0 ((R2.Size (W.byt s.data.toList 0))).toNat))).sz)]), (g1, [.int .i64 0, .int .i64 0, .int .i64 0, .int .i64 0, .int .i64 0, .int .u32 0, .int .i64 0, .int .i64 0])] ⟨by kernel_rfl, by kernel_rfl⟩ (List.Sublist.refl _) ?_
        refine E.C.cond (!(R2.Valid ((R2.read (s.extract 0 ((R2.Size (W.byt s.data.toList 0))).toNat))))) (by kernel_rfl) (by kernel_rfl) (fun hc6 => ?_) (fun hc6 => ?_)
        · skip
          refine E.C.seq ?_
          refine E.C.region ?_
          refine E.G.val (.agg #[.int .i64 0, .int .i64 0, .int .i64 0, .int .i64 0, .int .i64 0, .int .u32 0, .int .i64 0, .int .i64 12]) (by kernel_rfl) (fun w h => E.run_build #[.int .i64 0, .int .i64 0, .int .i64 0, .int .i64 0, .int .i64 0, .int .u32 0, .int .i64 0, .int .i64 12] (by kernel_rfl) w) ?_
          refine E.G.store 1 [.int .i64 0, .int .i64 0, .int .i64 0, .int .i64 0, .int .i64 0, .int .u32 0, .int .i64 0, .int .i64 12] rfl rfl (by kernel_rfl) (by kernel_rfl) ?_
          refine E.To.code ?_
          refine E.C.ret (E.P.rt (E.To.body (fn := Try.f15) [.agg #[.int .i64 0, .int .i64 0, .int .i64 0, .int .i64 0, .int .i64 0, .int .u32 0, .int .i64 0, .int .i64 12]] ?_ ?_))
          · exact ⟨⟨by kernel_rfl, _, _, 1, _, rfl, rfl, by kernel_rfl⟩, trivial⟩
          · intro w h
            exact ⟨by show Ending.returned (.agg #[.int .i64 0, .int .i64 0, .int .i64 0, .int .i64 0, .int .i64 0, .int .u32 0, .int .i64 0, .int .i64 12]) = _; unfold R2.Decode; rw [hc2, cond_false, hc3, cond_false, hc4, cond_false, hc6, cond_true], h.ch.bel (fun _ h => h.elim)⟩
        · skip
          refine E.C.skip (E.To.code ?_)
          refine E.C.seq ?_
          refine E.C.region ?_
          refine E.G.val (.agg #[.int .i64 (((R2.read (s.extract 0 ((R2.Size (W.byt s.data.toList 0))).toNat))).op), .int .i64 (((R2.read (s.extract 0 ((R2.Size (W.byt s.data.toList 0))).toNat))).d), .int .i64 (((R2.read (s.extract 0 ((R2.Size (W.byt s.data.toList 0))).toNat))).s), .int .i64 (((R2.read (s.extract 0 ((R2.Size (W.byt s.data.toList 0))).toNat))).ix), .int .i64 (((R2.read (s.extract 0 ((R2.Size (W.byt s.data.toList 0))).toNat))).sc), .int .u32 (((R2.read (s.extract 0 ((R2.Size (W.byt s.data.toList 0))).toNat))).imm), .int .i64 (((R2.read (s.extract 0 ((R2.Size (W.byt s.data.toList 0))).toNat))).sz)]) (by kernel_rfl) (fun w h => E.run_load h 0 rfl rfl (by kernel_rfl)) ?_
          refine E.G.val (.agg #[.int .i64 (((R2.read (s.extract 0 ((R2.Size (W.byt s.data.toList 0))).toNat))).op), .int .i64 (((R2.read (s.extract 0 ((R2.Size (W.byt s.data.toList 0))).toNat))).d), .int .i64 (((R2.read (s.extract 0 ((R2.Size (W.byt s.data.toList 0))).toNat))).s), .int .i64 (((R2.read (s.extract 0 ((R2.Size (W.byt s.data.toList 0))).toNat))).ix), .int .i64 (((R2.read (s.extract 0 ((R2.Size (W.byt s.data.toList 0))).toNat))).sc), .int .u32 (((R2.read (s.extract 0 ((R2.Size (W.byt s.data.toList 0))).toNat))).imm), .int .i64 (((R2.read (s.extract 0 ((R2.Size (W.byt s.data.toList 0))).toNat))).sz), .int .i64 0]) (by kernel_rfl) (fun w h => E.run_build #[.int .i64 (((R2.read (s.extract 0 ((R2.Size (W.byt s.data.toList 0))).toNat))).op), .int .i64 (((R2.read (s.extract 0 ((R2.Size (W.byt s.data.toList 0))).toNat))).d), .int .i64 (((R2.read (s.extract 0 ((R2.Size (W.byt s.data.toList 0))).toNat))).s), .int .i64 (((R2.read (s.extract 0 ((R2.Size (W.byt s.data.toList 0))).toNat))).ix), .int .i64 (((R2.read (s.extract 0 ((R2.Size (W.byt s.data.toList 0))).toNat))).sc), .int .u32 (((R2.read (s.extract 0 ((R2.Size (W.byt s.data.toList 0))).toNat))).imm), .int .i64 (((R2.read (s.extract 0 ((R2.Size (W.byt s.data.toList 0))).toNat))).sz), .int .i64 0] (by kernel_rfl) w) ?_
          refine E.G.store 1 [.int .i64 (((R2.read (s.extract 0 ((R2.Size (W.byt s.data.toList 0))).toNat))).op), .int .i64 (((R2.read (s.extract 0 ((R2.Size (W.byt s.data.toList 0))).toNat))).d), .int .i64 (((R2.read (s.extract 0 ((R2.Size (W.byt s.data.toList 0))).toNat))).s), .int .i64 (((R2.read (s.extract 0 ((R2.Size (W.byt s.data.toList 0))).toNat))).ix), .int .i64 (((R2.read (s.extract 0 ((R2.Size (W.byt s.data.toList 0))).toNat))).sc), .int .u32 (((R2.read (s.extract 0 ((R2.Size (W.byt s.data.toList 0))).toNat))).imm), .int .i64 (((R2.read (s.extract 0 ((R2.Size (W.byt s.data.toList 0))).toNat))).sz), .int .i64 0] rfl rfl (by kernel_rfl) (by kernel_rfl) ?_
          refine E.To.code ?_
          refine E.C.ret (E.To.body (fn := Try.f15) [.agg #[.int .i64 (((R2.read (s.extract 0 ((R2.Size (W.byt s.data.toList 0))).toNat))).op), .int .i64 (((R2.read (s.extract 0 ((R2.Size (W.byt s.data.toList 0))).toNat))).d), .int .i64 (((R2.read (s.extract 0 ((R2.Size (W.byt s.data.toList 0))).toNat))).s), .int .i64 (((R2.read (s.extract 0 ((R2.Size (W.byt s.data.toList 0))).toNat))).ix), .int .i64 (((R2.read (s.extract 0 ((R2.Size (W.byt s.data.toList 0))).toNat))).sc), .int .u32 (((R2.read (s.extract 0 ((R2.Size (W.byt s.data.toList 0))).toNat))).imm), .int .i64 (((R2.read (s.extract 0 ((R2.Size (W.byt s.data.toList 0))).toNat))).sz), .int .i64 0]] ?_ ?_)
          · exact ⟨⟨by kernel_rfl, _, _, 1, _, rfl, rfl, by kernel_rfl⟩, trivial⟩
          · intro w h
            exact ⟨by show Ending.returned (.agg #[.int .i64 (((R2.read (s.extract 0 ((R2.Size (W.byt s.data.toList 0))).toNat))).op), .int .i64 (((R2.read (s.extract 0 ((R2.Size (W.byt s.data.toList 0))).toNat))).d), .int .i64 (((R2.read (s.extract 0 ((R2.Size (W.byt s.data.toList 0))).toNat))).s), .int .i64 (((R2.read (s.extract 0 ((R2.Size (W.byt s.data.toList 0))).toNat))).ix), .int .i64 (((R2.read (s.extract 0 ((R2.Size (W.byt s.data.toList 0))).toNat))).sc), .int .u32 (((R2.read (s.extract 0 ((R2.Size (W.byt s.data.toList 0))).toNat))).imm), .int .i64 (((R2.read (s.extract 0 ((R2.Size (W.byt s.data.toList 0))).toNat))).sz), .int .i64 0]) = _; unfold R2.Decode; rw [hc2, cond_false, hc3, cond_false, hc4, cond_false, hc6, cond_false], h.ch.bel (fun _ h => h.elim)⟩

def R2.Encode (i : K.Ins) : ByteArray × Int := (bif (!(R2.Valid i)) then ((⟨#[]⟩ : ByteArray), 12) else (bif ((R2.Format i.op) == 2) then ((strOfNums [(IntKind.wrap .u8 i.op), (IntKind.wrap .u8 i.d)]), 0) else (bif ((R2.Format i.op) == 3) then ((strOfNums [(IntKind.wrap .u8 i.op), (IntKind.wrap .u8 (IntKind.wrap .i64 ((IntKind.wrap .i64 (16 * i.d)) + i.s)))]), 0) else (bif ((R2.Format i.op) == 11) then ((strOfNums [(IntKind.wrap .u8 i.op), (IntKind.wrap .u8 (IntKind.wrap .i64 ((IntKind.wrap .i64 (16 * i.d)) + i.s)))]), 0) else (bif ((R2.Format i.op) == 12) then ((strOfNums [(IntKind.wrap .u8 i.op), (IntKind.wrap .u8 (IntKind.wrap .i64 ((IntKind.wrap .i64 (16 * i.d)) + i.s)))]), 0) else (bif ((R2.Format i.op) == 4) then ((strOfNums [(IntKind.wrap .u8 i.op), (IntKind.wrap .u8 i.d), (IntKind.wrap .u8 i.imm)]), 0) else (bif ((R2.Format i.op) == 5) then ((strOfNums [(IntKind.wrap .u8 i.op), (IntKind.wrap .u8 i.d), (IntKind.wrap .u8 i.imm), (IntKind.wrap .u8 (IntKind.wrap .u32 (Int.tdiv i.imm 256))), (IntKind.wrap .u8 (IntKind.wrap .u32 (Int.tdiv i.imm 65536))), (IntKind.wrap .u8 (IntKind.wrap .u32 (Int.tdiv i.imm 16777216)))]), 0) else (bif ((R2.Format i.op) == 6) then ((strOfNums [(IntKind.wrap .u8 i.op), (IntKind.wrap .u8 (IntKind.wrap .i64 ((IntKind.wrap .i64 (16 * i.d)) + i.s))), (IntKind.wrap .u8 i.imm)]), 0) else (bif ((R2.Format i.op) == 7) then (bif (decide (i.ix ≥ 0)) then ((strOfNums [(IntKind.wrap .u8 i.op), (IntKind.wrap .u8 (IntKind.wrap .i64 ((IntKind.wrap .i64 (16 * i.d)) + i.s))), (IntKind.wrap .u8 (IntKind.wrap .i64 (i.ix + (IntKind.wrap .i64 (16 * i.sc))))), (IntKind.wrap .u8 i.imm), (IntKind.wrap .u8 (IntKind.wrap .u32 (Int.tdiv i.imm 256))), (IntKind.wrap .u8 (IntKind.wrap .u32 (Int.tdiv i.imm 65536))), (IntKind.wrap .u8 (IntKind.wrap .u32 (Int.tdiv i.imm 16777216)))]), 0) else ((strOfNums [(IntKind.wrap .u8 i.op), (IntKind.wrap .u8 (IntKind.wrap .i64 ((IntKind.wrap .i64 (16 * i.d)) + i.s))), 8, (IntKind.wrap .u8 i.imm), (IntKind.wrap .u8 (IntKind.wrap .u32 (Int.tdiv i.imm 256))), (IntKind.wrap .u8 (IntKind.wrap .u32 (Int.tdiv i.imm 65536))), (IntKind.wrap .u8 (IntKind.wrap .u32 (Int.tdiv i.imm 16777216)))]), 0)) else (bif ((R2.Format i.op) == 8) then ((strOfNums [(IntKind.wrap .u8 i.op), (IntKind.wrap .u8 i.imm)]), 0) else (bif ((R2.Format i.op) == 10) then ((strOfNums [(IntKind.wrap .u8 i.op), (IntKind.wrap .u8 i.imm)]), 0) else (bif ((R2.Format i.op) == 9) then ((strOfNums [(IntKind.wrap .u8 i.op), (IntKind.wrap .u8 i.imm), (IntKind.wrap .u8 (IntKind.wrap .u32 (Int.tdiv i.imm 256))), (IntKind.wrap .u8 (IntKind.wrap .u32 (Int.tdiv i.imm 65536))), (IntKind.wrap .u8 (IntKind.wrap .u32 (Int.tdiv i.imm 16777216)))]), 0) else ((strOfNums [(IntKind.wrap .u8 i.op)]), 0)))))))))))))
theorem R2_Encode (i : K.Ins) (w : World) : Calls Try.prog 18 #[.agg #[.int .i64 i.op, .int .i64 i.d, .int .i64 i.s, .int .i64 i.ix, .int .i64 i.sc, .int .u32 i.imm, .int .i64 i.sz]] w fun e w' => e = .returned (.agg #[.string (((R2.Encode i)).1), .int .i64 (((R2.Encode i)).2)]) ∧ Bel w w' := by
  refine E.enter (n := 112) (S := fun _ => False) Try.func18 rfl rfl (by kernel_rfl) (E.Hp.start w) ?_
  refine E.C.seq ?_
  refine E.C.region ?_
  refine E.G.new (fun g => .pointer (some ⟨g, 0, none⟩)) [.int .i64 i.op, .int .i64 i.d, .int .i64 i.s, .int .i64 i.ix, .int .i64 i.sc, .int .u32 i.imm, .int .i64 i.sz] 27 (fun w => by kernel_rfl) (by kernel_rfl) (fun g1 => ?_)
  refine E.G.new (fun g => .pointer (some ⟨g, 0, none⟩)) [.string (⟨#[]⟩ : ByteArray), .int .i64 0] 42 (fun w => by kernel_rfl) (by kernel_rfl) (fun g2 => ?_)
  refine E.To.code ?_
  refine E.C.seq ?_
  refine E.C.seq ?_
  refine E.C.region ?_
  refine E.G.val (.agg #[.int .i64 i.op, .int .i64 i.d, .int .i64 i.s, .int .i64 i.ix, .int .i64 i.sc, .int .u32 i.imm, .int .i64 i.sz]) (by kernel_rfl) (fun w h => E.run_load h 1 rfl rfl (by kernel_rfl)) ?_
  refine E.G.call (.bool (R2.Valid i)) (fun w h => R2_Valid i w) (fun w _ => by kernel_rfl) (by kernel_rfl) ?_
  refine E.G.op (.bool (!(R2.Valid i))) (fun w => by kernel_rfl) (by kernel_rfl) ?_
  refine E.To.code ?_
  refine E.C.cond (!(R2.Valid i)) (by kernel_rfl) (by kernel_rfl) (fun hc3 => ?_) (fun hc3 => ?_)
  · skip
    refine E.C.seq ?_
    refine E.C.region ?_
    refine E.G.val (.agg #[.string (⟨#[]⟩ : ByteArray), .int .i64 12]) (by kernel_rfl) (fun w h => E.run_build #[.string (⟨#[]⟩ : ByteArray), .int .i64 12] (by kernel_rfl) w) ?_
    refine E.G.store 0 [.string (⟨#[]⟩ : ByteArray), .int .i64 12] rfl rfl (by kernel_rfl) (by kernel_rfl) ?_
    refine E.To.code ?_
    refine E.C.ret (E.P.rt (E.To.body (fn := Try.f18) [.agg #[.string (⟨#[]⟩ : ByteArray), .int .i64 12]] ?_ ?_))
    · exact ⟨⟨by kernel_rfl, _, _, 0, _, rfl, rfl, by kernel_rfl⟩, trivial⟩
    · intro w h
      exact ⟨by show Ending.returned (.agg #[.string (⟨#[]⟩ : ByteArray), .int .i64 12]) = _; unfold R2.Encode; rw [hc3, cond_true], h.ch.bel (fun _ h => h.elim)⟩
  · skip
    refine E.C.skip (E.To.code ?_)
    refine E.C.seq ?_
    refine E.C.region ?_
    refine E.G.op (.pointer (some ⟨g1, 0, none⟩)) (fun w => by kernel_rfl) (by kernel_rfl) ?_
    refine E.G.val (.int .i64 i.op) (by kernel_rfl) (fun w h => E.run_load h 1 rfl rfl (by kernel_rfl)) ?_
    refine E.G.op (.int .u8 (IntKind.wrap .u8 i.op)) (fun w => by kernel_rfl) (by kernel_rfl) ?_
    refine E.G.buildSlice [.int .u8 (IntKind.wrap .u8 i.op)] (by kernel_rfl) (by kernel_rfl) (fun g4 => ?_)
    refine E.G.op (.slice (some ⟨g4, 0, none⟩) 1 1) (fun w => by kernel_rfl) (by kernel_rfl) ?_
    refine E.To.code ?_
    refine E.C.weak [(1, .pointer (some ⟨g1, 0, none⟩)), (2, .pointer (some ⟨g2, 0, none⟩)), (3, .slice (some ⟨g4, 0, none⟩) 1 1)] [(g4, [.int .u8 (IntKind.wrap .u8 i.op)]), (g2, [.string (⟨#[]⟩ : ByteArray), .int .i64 0]), (g1, [.int .i64 i.op, .int .i64 i.d, .int .i64 i.s, .int .i64 i.ix, .int .i64 i.sc, .int .u32 i.imm, .int .i64 i.sz])] ⟨by kernel_rfl, by kernel_rfl⟩ (List.Sublist.refl _) ?_
    refine E.C.seq ?_
    refine E.C.region ?_
    refine E.G.op (.pointer (some ⟨g1, 1, none⟩)) (fun w => by kernel_rfl) (by kernel_rfl) ?_
    refine E.G.val (.int .i64 i.d) (by kernel_rfl) (fun w h => E.run_load h 2 rfl rfl (by kernel_rfl)) ?_
    refine E.G.op (.int .i64 (IntKind.wrap .i64 (16 * i.d))) (fun w => by kernel_rfl) (by kernel_rfl) ?_
    refine E.G.op (.pointer (some ⟨g1, 2, none⟩)) (fun w => by kernel_rfl) (by kernel_rfl) ?_
    refine E.G.val (.int .i64 i.s) (by kernel_rfl) (fun w h => E.run_load h 2 rfl rfl (by kernel_rfl)) ?_
    refine E.G.op (.int .i64 (IntKind.wrap .i64 ((IntKind.wrap .i64 (16 * i.d)) + i.s))) (fun w => by kernel_rfl) (by kernel_rfl) ?_
    refine E.G.op (.int .u8 (IntKind.wrap .u8 (IntKind.wrap .i64 ((IntKind.wrap .i64 (16 * i.d)) + i.s)))) (fun w => by kernel_rfl) (by kernel_rfl) ?_
    refine E.G.op (.int .u8 (IntKind.wrap .u8 (IntKind.wrap .i64 ((IntKind.wrap .i64 (16 * i.d)) + i.s)))) (fun w => by kernel_rfl) (by kernel_rfl) ?_
    refine E.To.code ?_
    refine E.C.seq ?_
    refine E.C.seq ?_
    refine E.C.region ?_
    refine E.G.op (.pointer (some ⟨g1, 0, none⟩)) (fun w => by kernel_rfl) (by kernel_rfl) ?_
    refine E.G.val (.int .i64 i.op) (by kernel_rfl) (fun w h => E.run_load h 2 rfl rfl (by kernel_rfl)) ?_
    refine E.G.call (.int .i64 (R2.Format i.op)) (fun w h => R2_Format _ w) (fun w _ => by kernel_rfl) (by kernel_rfl) ?_
    refine E.To.code ?_
    refine E.C.weak [(1, .pointer (some ⟨g1, 0, none⟩)), (2, .pointer (some ⟨g2, 0, none⟩)), (3, .slice (some ⟨g4, 0, none⟩) 1 1), (4, .int .u8 (IntKind.wrap .u8 (IntKind.wrap .i64 ((IntKind.wrap .i64 (16 * i.d)) + i.s)))), (23, .int .i64 (R2.Format i.op))] [(g4, [.int .u8 (IntKind.wrap .u8 i.op)]), (g2, [.string (⟨#[]⟩ : ByteArray), .int .i64 0]), (g1, [.int .i64 i.op, .int .i64 i.d, .int .i64 i.s, .int .i64 i.ix, .int .i64 i.sc, .int .u32 i.imm, .int .i64 i.sz])] ⟨by kernel_rfl, by kernel_rfl⟩ (List.Sublist.refl _) ?_
    refine E.C.block ?_
    refine E.C.seq ?_
    refine E.C.region ?_
    refine E.G.op (.bool ((R2.Format i.op) == 2)) (fun w => by kernel_rfl) (by kernel_rfl) ?_
    refine E.G.op (.bool ((R2.Format i.op) == 2)) (fun w => by kernel_rfl) (by kernel_rfl) ?_
    refine E.To.code ?_
    refine E.C.cond ((R2.Format i.op) == 2) (by kernel_rfl) (by kernel_rfl) (fun hc5 => ?_) (fun hc5 => ?_)
    · skip
      refine E.C.region ?_
      refine E.G.op (.slice (some ⟨g4, 0, none⟩) 1 1) (fun w => by kernel_rfl) (by kernel_rfl) ?_
      refine E.G.op (.pointer (some ⟨g1, 1, none⟩)) (fun w => by kernel_rfl) (by kernel_rfl) ?_
      refine E.G.val (.int .i64 i.d) (by kernel_rfl) (fun w h => E.run_load h 2 rfl rfl (by kernel_rfl)) ?_
      refine E.G.op (.int .u8 (IntKind.wrap .u8 i.d)) (fun w => by kernel_rfl) (by kernel_rfl) ?_
      refine E.G.buildSlice [.int .u8 (IntKind.wrap .u8 i.d)] (by kernel_rfl) (by kernel_rfl) (fun g6 => ?_)
      refine E.G.append (e := 5) 1 g4 1 1 0 g6 0 1 1 1 1 [.int .u8 (IntKind.wrap .u8 i.op)] [] [.int .u8 (IntKind.wrap .u8 i.d)] _ (by kernel_rfl) (by kernel_rfl) (by kernel_rfl) rfl (by kernel_rfl) (by first | rfl | omega | assumption) (by first | omega | decide) (by kernel_rfl) rfl (by kernel_rfl) rfl (by rfl) (by omega) (by omega) (by omega) (by kernel_rfl) (fun g7 c8 r9 hc10 hr11 => ?_)
      refine E.G.op (.slice (some ⟨g7, 0, none⟩) 2 c8) (fun w => by kernel_rfl) (by kernel_rfl) ?_
      refine E.P.nb (E.To.code ?_)
      refine E.C.weak [(2, .pointer (some ⟨g2, 0, none⟩)), (3, .slice (some ⟨g7, 0, none⟩) 2 c8)] [(g7, ([.int .u8 (IntKind.wrap .u8 i.op), .int .u8 (IntKind.wrap .u8 i.d)] ++ r9)), (g2, [.string (⟨#[]⟩ : ByteArray), .int .i64 0])] ⟨by kernel_rfl, by kernel_rfl⟩ (List.Sublist.cons_cons _ (List.Sublist.cons _ (List.Sublist.cons_cons _ (List.nil_sublist _)))) ?_
      refine E.C.seq ?_
      refine E.C.region ?_
      refine E.G.op (.slice (some ⟨g7, 0, none⟩) 2 c8) (fun w => by kernel_rfl) (by kernel_rfl) ?_
      refine E.G.val (.string (strOfNums [(IntKind.wrap .u8 i.op), (IntKind.wrap .u8 i.d)])) (by kernel_rfl) (fun w h => E.b2s h 0 g7 0 2 c8 [(IntKind.wrap .u8 i.op), (IntKind.wrap .u8 i.d)] (e := 5) (by kernel_rfl) (by kernel_rfl) (by kernel_rfl) (by kernel_rfl) rfl (by kernel_rfl) rfl) ?_
      refine E.G.val (.agg #[.string (strOfNums [(IntKind.wrap .u8 i.op), (IntKind.wrap .u8 i.d)]), .int .i64 0]) (by kernel_rfl) (fun w h => E.run_build #[.string (strOfNums [(IntKind.wrap .u8 i.op), (IntKind.wrap .u8 i.d)]), .int .i64 0] (by kernel_rfl) w) ?_
      refine E.G.store 1 [.string (strOfNums [(IntKind.wrap .u8 i.op), (IntKind.wrap .u8 i.d)]), .int .i64 0] rfl rfl (by kernel_rfl) (by kernel_rfl) ?_
      refine E.To.code ?_
      refine E.C.ret (E.To.body (fn := Try.f18) [.agg #[.string (strOfNums [(IntKind.wrap .u8 i.op), (IntKind.wrap .u8 i.d)]), .int .i64 0]] ?_ ?_)
      · exact ⟨⟨by kernel_rfl, _, _, 1, _, rfl, rfl, by kernel_rfl⟩, trivial⟩
      · intro w h
        exact ⟨by show Ending.returned (.agg #[.string (strOfNums [(IntKind.wrap .u8 i.op), (IntKind.wrap .u8 i.d)]), .int .i64 0]) = _; unfold R2.Encode; rw [hc3, cond_false, hc5, cond_true], h.ch.bel (fun _ h => h.elim)⟩
    · skip
      refine E.C.seq ?_
      refine E.C.seq ?_
      refine E.C.region ?_
      refine E.G.op (.bool ((R2.Format i.op) == 3)) (fun w => by kernel_rfl) (by kernel_rfl) ?_
      refine E.G.op (.bool ((R2.Format i.op) == 3)) (fun w => by kernel_rfl) (by kernel_rfl) ?_
      refine E.To.code ?_
      refine E.C.cond ((R2.Format i.op) == 3) (by kernel_rfl) (by kernel_rfl) (fun hc12 => ?_) (fun hc12 => ?_)
      · skip
        refine E.C.skip (E.To.code ?_)
        refine E.C.cond ((R2.Format i.op) == 3) (by kernel_rfl) (by kernel_rfl) (fun hc13 => ?_) (fun hc13 => absurd (hc12.symm.trans hc13) (by decide))
        refine E.C.region ?_
        refine E.G.op (.slice (some ⟨g4, 0, none⟩) 1 1) (fun w => by kernel_rfl) (by kernel_rfl) ?_
        refine E.G.op (.int .u8 (IntKind.wrap .u8 (IntKind.wrap .i64 ((IntKind.wrap .i64 (16 * i.d)) + i.s)))) (fun w => by kernel_rfl) (by kernel_rfl) ?_
        refine E.G.buildSlice [.int .u8 (IntKind.wrap .u8 (IntKind.wrap .i64 ((IntKind.wrap .i64 (16 * i.d)) + i.s)))] (by kernel_rfl) (by kernel_rfl) (fun g14 => ?_)
        refine E.G.append (e := 5) 1 g4 1 1 0 g14 0 1 1 1 1 [.int .u8 (IntKind.wrap .u8 i.op)] [] [.int .u8 (IntKind.wrap .u8 (IntKind.wrap .i64 ((IntKind.wrap .i64 (16 * i.d)) + i.s)))] _ (by kernel_rfl) (by kernel_rfl) (by kernel_rfl) rfl (by kernel_rfl) (by first | rfl | omega | assumption) (by first | omega | decide) (by kernel_rfl) rfl (by kernel_rfl) rfl (by rfl) (by omega) (by omega) (by omega) (by kernel_rfl) (fun g15 c16 r17 hc18 hr19 => ?_)
        refine E.G.op (.slice (some ⟨g15, 0, none⟩) 2 c16) (fun w => by kernel_rfl) (by kernel_rfl) ?_
        refine E.P.nb (E.To.code ?_)
        refine E.C.weak [(2, .pointer (some ⟨g2, 0, none⟩)), (3, .slice (some ⟨g15, 0, none⟩) 2 c16)] [(g15, ([.int .u8 (IntKind.wrap .u8 i.op), .int .u8 (IntKind.wrap .u8 (IntKind.wrap .i64 ((IntKind.wrap .i64 (16 * i.d)) + i.s)))] ++ r17)), (g2, [.string (⟨#[]⟩ : ByteArray), .int .i64 0])] ⟨by kernel_rfl, by kernel_rfl⟩ (List.Sublist.cons_cons _ (List.Sublist.cons _ (List.Sublist.cons_cons _ (List.nil_sublist _)))) ?_
        refine E.C.seq ?_
        refine E.C.region ?_
        refine E.G.op (.slice (some ⟨g15, 0, none⟩) 2 c16) (fun w => by kernel_rfl) (by kernel_rfl) ?_
        refine E.G.val (.string (strOfNums [(IntKind.wrap .u8 i.op), (IntKind.wrap .u8 (IntKind.wrap .i64 ((IntKind.wrap .i64 (16 * i.d)) + i.s)))])) (by kernel_rfl) (fun w h => E.b2s h 0 g15 0 2 c16 [(IntKind.wrap .u8 i.op), (IntKind.wrap .u8 (IntKind.wrap .i64 ((IntKind.wrap .i64 (16 * i.d)) + i.s)))] (e := 5) (by kernel_rfl) (by kernel_rfl) (by kernel_rfl) (by kernel_rfl) rfl (by kernel_rfl) rfl) ?_
        refine E.G.val (.agg #[.string (strOfNums [(IntKind.wrap .u8 i.op), (IntKind.wrap .u8 (IntKind.wrap .i64 ((IntKind.wrap .i64 (16 * i.d)) + i.s)))]), .int .i64 0]) (by kernel_rfl) (fun w h => E.run_build #[.string (strOfNums [(IntKind.wrap .u8 i.op), (IntKind.wrap .u8 (IntKind.wrap .i64 ((IntKind.wrap .i64 (16 * i.d)) + i.s)))]), .int .i64 0] (by kernel_rfl) w) ?_
        refine E.G.store 1 [.string (strOfNums [(IntKind.wrap .u8 i.op), (IntKind.wrap .u8 (IntKind.wrap .i64 ((IntKind.wrap .i64 (16 * i.d)) + i.s)))]), .int .i64 0] rfl rfl (by kernel_rfl) (by kernel_rfl) ?_
        refine E.To.code ?_
        refine E.C.ret (E.To.body (fn := Try.f18) [.agg #[.string (strOfNums [(IntKind.wrap .u8 i.op), (IntKind.wrap .u8 (IntKind.wrap .i64 ((IntKind.wrap .i64 (16 * i.d)) + i.s)))]), .int .i64 0]] ?_ ?_)
        · exact ⟨⟨by kernel_rfl, _, _, 1, _, rfl, rfl, by kernel_rfl⟩, trivial⟩
        · intro w h
          exact ⟨by show Ending.returned (.agg #[.string (strOfNums [(IntKind.wrap .u8 i.op), (IntKind.wrap .u8 (IntKind.wrap .i64 ((IntKind.wrap .i64 (16 * i.d)) + i.s)))]), .int .i64 0]) = _; unfold R2.Encode; rw [hc3, cond_false, hc5, cond_false, hc12, cond_true], h.ch.bel (fun _ h => h.elim)⟩
      · skip
        refine E.C.seq ?_
        refine E.C.region ?_
        refine E.G.op (.bool ((R2.Format i.op) == 11)) (fun w => by kernel_rfl) (by kernel_rfl) ?_
        refine E.G.op (.bool ((R2.Format i.op) == 11)) (fun w => by kernel_rfl) (by kernel_rfl) ?_
        refine E.To.code ?_
        refine E.C.cond ((R2.Format i.op) == 11) (by kernel_rfl) (by kernel_rfl) (fun hc20 => ?_) (fun hc20 => ?_)
        · skip
          refine E.C.skip (E.To.code ?_)
          refine E.C.cond ((R2.Format i.op) == 11) (by kernel_rfl) (by kernel_rfl) (fun hc21 => ?_) (fun hc21 => absurd (hc20.symm.trans hc21) (by decide))
          refine E.C.region ?_
          refine E.G.op (.slice (some ⟨g4, 0, none⟩) 1 1) (fun w => by kernel_rfl) (by kernel_rfl) ?_
          refine E.G.op (.int .u8 (IntKind.wrap .u8 (IntKind.wrap .i64 ((IntKind.wrap .i64 (16 * i.d)) + i.s)))) (fun w => by kernel_rfl) (by kernel_rfl) ?_
          refine E.G.buildSlice [.int .u8 (IntKind.wrap .u8 (IntKind.wrap .i64 ((IntKind.wrap .i64 (16 * i.d)) + i.s)))] (by kernel_rfl) (by kernel_rfl) (fun g22 => ?_)
          refine E.G.append (e := 5) 1 g4 1 1 0 g22 0 1 1 1 1 [.int .u8 (IntKind.wrap .u8 i.op)] [] [.int .u8 (IntKind.wrap .u8 (IntKind.wrap .i64 ((IntKind.wrap .i64 (16 * i.d)) + i.s)))] _ (by kernel_rfl) (by kernel_rfl) (by kernel_rfl) rfl (by kernel_rfl) (by first | rfl | omega | assumption) (by first | omega | decide) (by kernel_rfl) rfl (by kernel_rfl) rfl (by rfl) (by omega) (by omega) (by omega) (by kernel_rfl) (fun g23 c24 r25 hc26 hr27 => ?_)
          refine E.G.op (.slice (some ⟨g23, 0, none⟩) 2 c24) (fun w => by kernel_rfl) (by kernel_rfl) ?_
          refine E.P.nb (E.To.code ?_)
          refine E.C.weak [(2, .pointer (some ⟨g2, 0, none⟩)), (3, .slice (some ⟨g23, 0, none⟩) 2 c24)] [(g23, ([.int .u8 (IntKind.wrap .u8 i.op), .int .u8 (IntKind.wrap .u8 (IntKind.wrap .i64 ((IntKind.wrap .i64 (16 * i.d)) + i.s)))] ++ r25)), (g2, [.string (⟨#[]⟩ : ByteArray), .int .i64 0])] ⟨by kernel_rfl, by kernel_rfl⟩ (List.Sublist.cons_cons _ (List.Sublist.cons _ (List.Sublist.cons_cons _ (List.nil_sublist _)))) ?_
          refine E.C.seq ?_
          refine E.C.region ?_
          refine E.G.op (.slice (some ⟨g23, 0, none⟩) 2 c24) (fun w => by kernel_rfl) (by kernel_rfl) ?_
          refine E.G.val (.string (strOfNums [(IntKind.wrap .u8 i.op), (IntKind.wrap .u8 (IntKind.wrap .i64 ((IntKind.wrap .i64 (16 * i.d)) + i.s)))])) (by kernel_rfl) (fun w h => E.b2s h 0 g23 0 2 c24 [(IntKind.wrap .u8 i.op), (IntKind.wrap .u8 (IntKind.wrap .i64 ((IntKind.wrap .i64 (16 * i.d)) + i.s)))] (e := 5) (by kernel_rfl) (by kernel_rfl) (by kernel_rfl) (by kernel_rfl) rfl (by kernel_rfl) rfl) ?_
          refine E.G.val (.agg #[.string (strOfNums [(IntKind.wrap .u8 i.op), (IntKind.wrap .u8 (IntKind.wrap .i64 ((IntKind.wrap .i64 (16 * i.d)) + i.s)))]), .int .i64 0]) (by kernel_rfl) (fun w h => E.run_build #[.string (strOfNums [(IntKind.wrap .u8 i.op), (IntKind.wrap .u8 (IntKind.wrap .i64 ((IntKind.wrap .i64 (16 * i.d)) + i.s)))]), .int .i64 0] (by kernel_rfl) w) ?_
          refine E.G.store 1 [.string (strOfNums [(IntKind.wrap .u8 i.op), (IntKind.wrap .u8 (IntKind.wrap .i64 ((IntKind.wrap .i64 (16 * i.d)) + i.s)))]), .int .i64 0] rfl rfl (by kernel_rfl) (by kernel_rfl) ?_
          refine E.To.code ?_
          refine E.C.ret (E.To.body (fn := Try.f18) [.agg #[.string (strOfNums [(IntKind.wrap .u8 i.op), (IntKind.wrap .u8 (IntKind.wrap .i64 ((IntKind.wrap .i64 (16 * i.d)) + i.s)))]), .int .i64 0]] ?_ ?_)
          · exact ⟨⟨by kernel_rfl, _, _, 1, _, rfl, rfl, by kernel_rfl⟩, trivial⟩
          · intro w h
            exact ⟨by show Ending.returned (.agg #[.string (strOfNums [(IntKind.wrap .u8 i.op), (IntKind.wrap .u8 (IntKind.wrap .i64 ((IntKind.wrap .i64 (16 * i.d)) + i.s)))]), .int .i64 0]) = _; unfold R2.Encode; rw [hc3, cond_false, hc5, cond_false, hc12, cond_false, hc20, cond_true], h.ch.bel (fun _ h => h.elim)⟩
        · skip
          refine E.C.region ?_
          refine E.G.op (.bool ((R2.Format i.op) == 12)) (fun w => by kernel_rfl) (by kernel_rfl) ?_
          refine E.G.op (.bool ((R2.Format i.op) == 12)) (fun w => by kernel_rfl) (by kernel_rfl) ?_
          refine E.To.code ?_
          refine E.C.cond ((R2.Format i.op) == 12) (by kernel_rfl) (by kernel_rfl) (fun hc28 => ?_) (fun hc28 => ?_)
          · skip
            refine E.C.region ?_
            refine E.G.op (.slice (some ⟨g4, 0, none⟩) 1 1) (fun w => by kernel_rfl) (by kernel_rfl) ?_
            refine E.G.op (.int .u8 (IntKind.wrap .u8 (IntKind.wrap .i64 ((IntKind.wrap .i64 (16 * i.d)) + i.s)))) (fun w => by kernel_rfl) (by kernel_rfl) ?_
            refine E.G.buildSlice [.int .u8 (IntKind.wrap .u8 (IntKind.wrap .i64 ((IntKind.wrap .i64 (16 * i.d)) + i.s)))] (by kernel_rfl) (by kernel_rfl) (fun g29 => ?_)
            refine E.G.append (e := 5) 1 g4 1 1 0 g29 0 1 1 1 1 [.int .u8 (IntKind.wrap .u8 i.op)] [] [.int .u8 (IntKind.wrap .u8 (IntKind.wrap .i64 ((IntKind.wrap .i64 (16 * i.d)) + i.s)))] _ (by kernel_rfl) (by kernel_rfl) (by kernel_rfl) rfl (by kernel_rfl) (by first | rfl | omega | assumption) (by first | omega | decide) (by kernel_rfl) rfl (by kernel_rfl) rfl (by rfl) (by omega) (by omega) (by omega) (by kernel_rfl) (fun g30 c31 r32 hc33 hr34 => ?_)
            refine E.G.op (.slice (some ⟨g30, 0, none⟩) 2 c31) (fun w => by kernel_rfl) (by kernel_rfl) ?_
            refine E.P.nb (E.To.code ?_)
            refine E.C.weak [(2, .pointer (some ⟨g2, 0, none⟩)), (3, .slice (some ⟨g30, 0, none⟩) 2 c31)] [(g30, ([.int .u8 (IntKind.wrap .u8 i.op), .int .u8 (IntKind.wrap .u8 (IntKind.wrap .i64 ((IntKind.wrap .i64 (16 * i.d)) + i.s)))] ++ r32)), (g2, [.string (⟨#[]⟩ : ByteArray), .int .i64 0])] ⟨by kernel_rfl, by kernel_rfl⟩ (List.Sublist.cons_cons _ (List.Sublist.cons _ (List.Sublist.cons_cons _ (List.nil_sublist _)))) ?_
            refine E.C.seq ?_
            refine E.C.region ?_
            refine E.G.op (.slice (some ⟨g30, 0, none⟩) 2 c31) (fun w => by kernel_rfl) (by kernel_rfl) ?_
            refine E.G.val (.string (strOfNums [(IntKind.wrap .u8 i.op), (IntKind.wrap .u8 (IntKind.wrap .i64 ((IntKind.wrap .i64 (16 * i.d)) + i.s)))])) (by kernel_rfl) (fun w h => E.b2s h 0 g30 0 2 c31 [(IntKind.wrap .u8 i.op), (IntKind.wrap .u8 (IntKind.wrap .i64 ((IntKind.wrap .i64 (16 * i.d)) + i.s)))] (e := 5) (by kernel_rfl) (by kernel_rfl) (by kernel_rfl) (by kernel_rfl) rfl (by kernel_rfl) rfl) ?_
            refine E.G.val (.agg #[.string (strOfNums [(IntKind.wrap .u8 i.op), (IntKind.wrap .u8 (IntKind.wrap .i64 ((IntKind.wrap .i64 (16 * i.d)) + i.s)))]), .int .i64 0]) (by kernel_rfl) (fun w h => E.run_build #[.string (strOfNums [(IntKind.wrap .u8 i.op), (IntKind.wrap .u8 (IntKind.wrap .i64 ((IntKind.wrap .i64 (16 * i.d)) + i.s)))]), .int .i64 0] (by kernel_rfl) w) ?_
            refine E.G.store 1 [.string (strOfNums [(IntKind.wrap .u8 i.op), (IntKind.wrap .u8 (IntKind.wrap .i64 ((IntKind.wrap .i64 (16 * i.d)) + i.s)))]), .int .i64 0] rfl rfl (by kernel_rfl) (by kernel_rfl) ?_
            refine E.To.code ?_
            refine E.C.ret (E.To.body (fn := Try.f18) [.agg #[.string (strOfNums [(IntKind.wrap .u8 i.op), (IntKind.wrap .u8 (IntKind.wrap .i64 ((IntKind.wrap .i64 (16 * i.d)) + i.s)))]), .int .i64 0]] ?_ ?_)
            · exact ⟨⟨by kernel_rfl, _, _, 1, _, rfl, rfl, by kernel_rfl⟩, trivial⟩
            · intro w h
              exact ⟨by show Ending.returned (.agg #[.string (strOfNums [(IntKind.wrap .u8 i.op), (IntKind.wrap .u8 (IntKind.wrap .i64 ((IntKind.wrap .i64 (16 * i.d)) + i.s)))]), .int .i64 0]) = _; unfold R2.Encode; rw [hc3, cond_false, hc5, cond_false, hc12, cond_false, hc20, cond_false, hc28, cond_true], h.ch.bel (fun _ h => h.elim)⟩
          · skip
            refine E.C.seq ?_
            refine E.C.region ?_
            refine E.G.op (.bool ((R2.Format i.op) == 4)) (fun w => by kernel_rfl) (by kernel_rfl) ?_
            refine E.G.op (.bool ((R2.Format i.op) == 4)) (fun w => by kernel_rfl) (by kernel_rfl) ?_
            refine E.To.code ?_
            refine E.C.cond ((R2.Format i.op) == 4) (by kernel_rfl) (by kernel_rfl) (fun hc35 => ?_) (fun hc35 => ?_)
            · skip
              refine E.C.region ?_
              refine E.G.op (.slice (some ⟨g4, 0, none⟩) 1 1) (fun w => by kernel_rfl) (by kernel_rfl) ?_
              refine E.G.op (.pointer (some ⟨g1, 1, none⟩)) (fun w => by kernel_rfl) (by kernel_rfl) ?_
              refine E.G.val (.int .i64 i.d) (by kernel_rfl) (fun w h => E.run_load h 2 rfl rfl (by kernel_rfl)) ?_
              refine E.G.op (.int .u8 (IntKind.wrap .u8 i.d)) (fun w => by kernel_rfl) (by kernel_rfl) ?_
              refine E.G.op (.pointer (some ⟨g1, 5, none⟩)) (fun w => by kernel_rfl) (by kernel_rfl) ?_
              refine E.G.val (.int .u32 i.imm) (by kernel_rfl) (fun w h => E.run_load h 2 rfl rfl (by kernel_rfl)) ?_
              refine E.G.op (.int .u8 (IntKind.wrap .u8 i.imm)) (fun w => by kernel_rfl) (by kernel_rfl) ?_
              refine E.G.buildSlice [.int .u8 (IntKind.wrap .u8 i.d), .int .u8 (IntKind.wrap .u8 i.imm)] (by kernel_rfl) (by kernel_rfl) (fun g36 => ?_)
              refine E.G.append (e := 5) 1 g4 1 1 0 g36 0 2 2 1 1 [.int .u8 (IntKind.wrap .u8 i.op)] [] [.int .u8 (IntKind.wrap .u8 i.d), .int .u8 (IntKind.wrap .u8 i.imm)] _ (by kernel_rfl) (by kernel_rfl) (by kernel_rfl) rfl (by kernel_rfl) (by first | rfl | omega | assumption) (by first | omega | decide) (by kernel_rfl) rfl (by kernel_rfl) rfl (by rfl) (by omega) (by omega) (by omega) (by kernel_rfl) (fun g37 c38 r39 hc40 hr41 => ?_)
              refine E.G.op (.slice (some ⟨g37, 0, none⟩) 3 c38) (fun w => by kernel_rfl) (by kernel_rfl) ?_
              refine E.P.nb (E.To.code ?_)
              refine E.C.weak [(2, .pointer (some ⟨g2, 0, none⟩)), (3, .slice (some ⟨g37, 0, none⟩) 3 c38)] [(g37, ([.int .u8 (IntKind.wrap .u8 i.op), .int .u8 (IntKind.wrap .u8 i.d), .int .u8 (IntKind.wrap .u8 i.imm)] ++ r39)), (g2, [.string (⟨#[]⟩ : ByteArray), .int .i64 0])] ⟨by kernel_rfl, by kernel_rfl⟩ (List.Sublist.cons_cons _ (List.Sublist.cons _ (List.Sublist.cons_cons _ (List.nil_sublist _)))) ?_
              refine E.C.seq ?_
              refine E.C.region ?_
              refine E.G.op (.slice (some ⟨g37, 0, none⟩) 3 c38) (fun w => by kernel_rfl) (by kernel_rfl) ?_
              refine E.G.val (.string (strOfNums [(IntKind.wrap .u8 i.op), (IntKind.wrap .u8 i.d), (IntKind.wrap .u8 i.imm)])) (by kernel_rfl) (fun w h => E.b2s h 0 g37 0 3 c38 [(IntKind.wrap .u8 i.op), (IntKind.wrap .u8 i.d), (IntKind.wrap .u8 i.imm)] (e := 5) (by kernel_rfl) (by kernel_rfl) (by kernel_rfl) (by kernel_rfl) rfl (by kernel_rfl) rfl) ?_
              refine E.G.val (.agg #[.string (strOfNums [(IntKind.wrap .u8 i.op), (IntKind.wrap .u8 i.d), (IntKind.wrap .u8 i.imm)]), .int .i64 0]) (by kernel_rfl) (fun w h => E.run_build #[.string (strOfNums [(IntKind.wrap .u8 i.op), (IntKind.wrap .u8 i.d), (IntKind.wrap .u8 i.imm)]), .int .i64 0] (by kernel_rfl) w) ?_
              refine E.G.store 1 [.string (strOfNums [(IntKind.wrap .u8 i.op), (IntKind.wrap .u8 i.d), (IntKind.wrap .u8 i.imm)]), .int .i64 0] rfl rfl (by kernel_rfl) (by kernel_rfl) ?_
              refine E.To.code ?_
              refine E.C.ret (E.To.body (fn := Try.f18) [.agg #[.string (strOfNums [(IntKind.wrap .u8 i.op), (IntKind.wrap .u8 i.d), (IntKind.wrap .u8 i.imm)]), .int .i64 0]] ?_ ?_)
              · exact ⟨⟨by kernel_rfl, _, _, 1, _, rfl, rfl, by kernel_rfl⟩, trivial⟩
              · intro w h
                exact ⟨by show Ending.returned (.agg #[.string (strOfNums [(IntKind.wrap .u8 i.op), (IntKind.wrap .u8 i.d), (IntKind.wrap .u8 i.imm)]), .int .i64 0]) = _; unfold R2.Encode; rw [hc3, cond_false, hc5, cond_false, hc12, cond_false, hc20, cond_false, hc28, cond_false, hc35, cond_true], h.ch.bel (fun _ h => h.elim)⟩
            · skip
              refine E.C.seq ?_
              refine E.C.region ?_
              refine E.G.op (.bool ((R2.Format i.op) == 5)) (fun w => by kernel_rfl) (by kernel_rfl) ?_
              refine E.G.op (.bool ((R2.Format i.op) == 5)) (fun w => by kernel_rfl) (by kernel_rfl) ?_
              refine E.To.code ?_
              refine E.C.weak [(1, .pointer (some ⟨g1, 0, none⟩)), (2, .pointer (some ⟨g2, 0, none⟩)), (3, .slice (some ⟨g4, 0, none⟩) 1 1), (4, .int .u8 (IntKind.wrap .u8 (IntKind.wrap .i64 ((IntKind.wrap .i64 (16 * i.d)) + i.s)))), (23, .int .i64 (R2.Format i.op)), (51, .bool ((R2.Format i.op) == 5))] [(g4, [.int .u8 (IntKind.wrap .u8 i.op)]), (g2, [.string (⟨#[]⟩ : ByteArray), .int .i64 0]), (g1, [.int .i64 i.op, .int .i64 i.d, .int .i64 i.s, .int .i64 i.ix, .int .i64 i.sc, .int .u32 i.imm, .int .i64 i.sz])] ⟨by kernel_rfl, by kernel_rfl⟩ (List.Sublist.refl _) ?_
              refine E.C.cond ((R2.Format i.op) == 5) (by kernel_rfl) (by kernel_rfl) (fun hc42 => ?_) (fun hc42 => ?_)
              · skip
                refine E.C.held (E.Hp (fun _ => False) w (fun _ => True) [(g2, [.string (⟨#[]⟩ : ByteArray), .int .i64 0]), (g1, [.int .i64 i.op, .int .i64 i.d, .int .i64 i.s, .int .i64 i.ix, .int .i64 i.sc, .int .u32 i.imm, .int .i64 i.sz])]) (by kernel_rfl) ?_
                refine E.H.take 0 (.slice (some ⟨g4, 0, none⟩) 1 1) rfl (by kernel_rfl) (by kernel_rfl) (by kernel_rfl) (fun _ _ _ h => h) (fun w h => h.less (List.Sublist.cons _ (List.Sublist.refl _))) (.inl ⟨by kernel_rfl, by kernel_rfl, fun w h => by kernel_rfl⟩) (by kernel_rfl) ?_
                refine E.H.take 1 (.pointer (some ⟨g1, 1, none⟩)) rfl (by kernel_rfl) (by kernel_rfl) (by kernel_rfl) (fun _ _ _ h => h) (fun w h => h.less (List.Sublist.cons _ (List.Sublist.refl _))) (.inl ⟨by kernel_rfl, by kernel_rfl, fun w h => by kernel_rfl⟩) (by kernel_rfl) ?_
                refine E.H.take 2 (.int .i64 i.d) rfl (by kernel_rfl) (by kernel_rfl) (by kernel_rfl) (fun _ _ _ h => h) (fun w h => h.less (List.Sublist.cons _ (List.Sublist.refl _))) (.inl ⟨by kernel_rfl, by kernel_rfl, fun w h => E.run_load h 1 rfl rfl (by kernel_rfl)⟩) (by kernel_rfl) ?_
                refine E.H.take 3 (.int .u8 (IntKind.wrap .u8 i.d)) rfl (by kernel_rfl) (by kernel_rfl) (by kernel_rfl) (fun _ _ _ h => h) (fun w h => h.less (List.Sublist.cons _ (List.Sublist.refl _))) (.inl ⟨by kernel_rfl, by kernel_rfl, fun w h => by kernel_rfl⟩) (by kernel_rfl) ?_
                refine E.H.take 6 (.pointer (some ⟨g1, 5, none⟩)) rfl (by kernel_rfl) (by kernel_rfl) (by kernel_rfl) (fun _ _ _ h => h) (fun w h => h.less (List.Sublist.cons _ (List.Sublist.refl _))) (.inl ⟨by kernel_rfl, by kernel_rfl, fun w h => by kernel_rfl⟩) (by kernel_rfl) ?_
                refine E.H.take 7 (.int .u32 i.imm) rfl (by kernel_rfl) (by kernel_rfl) (by kernel_rfl) (fun _ _ _ h => h) (fun w h => h.less (List.Sublist.cons _ (List.Sublist.refl _))) (.inl ⟨by kernel_rfl, by kernel_rfl, fun w h => E.run_load h 1 rfl rfl (by kernel_rfl)⟩) (by kernel_rfl) ?_
                refine E.H.all [4] (by kernel_rfl) (by simp) (List.forall_mem_cons.2 ⟨⟨_, rfl, ?_⟩, fun _ h => (List.not_mem_nil h).elim⟩)
                · skip
                  refine E.G.buildSlice [.int .u8 (IntKind.wrap .u8 i.d)] (by kernel_rfl) (by kernel_rfl) (fun g43 => ?_)
                  refine E.H.back (fun w h => h.less (List.Sublist.cons _ (List.Sublist.cons _ (List.Sublist.refl _)))) ?_
                  refine E.H.all [5] (by kernel_rfl) (by simp) (List.forall_mem_cons.2 ⟨⟨_, rfl, ?_⟩, fun _ h => (List.not_mem_nil h).elim⟩)
                  · skip
                    refine E.G.append (e := 5) 1 g4 1 1 0 g43 0 1 1 1 1 [.int .u8 (IntKind.wrap .u8 i.op)] [] [.int .u8 (IntKind.wrap .u8 i.d)] _ (by kernel_rfl) (by kernel_rfl) (by kernel_rfl) rfl (by kernel_rfl) (by first | rfl | omega | assumption) (by first | omega | decide) (by kernel_rfl) rfl (by kernel_rfl) rfl (by rfl) (by omega) (by omega) (by omega) (by kernel_rfl) (fun g44 c45 r46 hc47 hr48 => ?_)
                    refine E.H.back (fun w h => h.less (List.Sublist.cons _ (List.Sublist.cons _ (List.Sublist.refl _)))) ?_
                    refine E.H.all [8] (by kernel_rfl) (by simp) (List.forall_mem_cons.2 ⟨⟨_, rfl, ?_⟩, fun _ h => (List.not_mem_nil h).elim⟩)
                    · skip
                      refine E.G.callX (I := Nat) (fun _ => True) (fun g => .slice (some ⟨g, 0, none⟩) 4 4) (fun _ => fun _ => True) (fun g => (g, [.int .u8 (IntKind.wrap .u8 i.imm), .int .u8 (IntKind.wrap .u8 (IntKind.wrap .u32 (Int.tdiv i.imm 256))), .int .u8 (IntKind.wrap .u8 (IntKind.wrap .u32 (Int.tdiv i.imm 65536))), .int .u8 (IntKind.wrap .u8 (IntKind.wrap .u32 (Int.tdiv i.imm 16777216)))]) :: [(g44, ([.int .u8 (IntKind.wrap .u8 i.op), .int .u8 (IntKind.wrap .u8 i.d)] ++ r46)), (g43, [.int .u8 (IntKind.wrap .u8 i.d)]), (g2, [.string (⟨#[]⟩ : ByteArray), .int .i64 0]), (g1, [.int .i64 i.op, .int .i64 i.d, .int .i64 i.s, .int .i64 i.ix, .int .i64 i.sc, .int .u32 i.imm, .int .i64 i.sz])]) (fun w h => (R2_four i.imm w h).mono fun e w1 ⟨g, he, hh⟩ => ⟨g, trivial, he, hh⟩) (fun w _ => by kernel_rfl) (by kernel_rfl) (fun g49 _ => ?_)
                      refine E.H.back (fun w h => h.less (List.Sublist.cons _ (List.Sublist.cons _ (List.Sublist.cons _ (List.Sublist.refl _))))) ?_
                      refine E.H.all [9] (by kernel_rfl) (by simp) (List.forall_mem_cons.2 ⟨⟨_, rfl, ?_⟩, fun _ h => (List.not_mem_nil h).elim⟩)
                      · skip
                        refine E.G.append (e := 5) 1 g44 2 c45 0 g49 0 4 4 1 1 [.int .u8 (IntKind.wrap .u8 i.op), .int .u8 (IntKind.wrap .u8 i.d)] r46 [.int .u8 (IntKind.wrap .u8 i.imm), .int .u8 (IntKind.wrap .u8 (IntKind.wrap .u32 (Int.tdiv i.imm 256))), .int .u8 (IntKind.wrap .u8 (IntKind.wrap .u32 (Int.tdiv i.imm 65536))), .int .u8 (IntKind.wrap .u8 (IntKind.wrap .u32 (Int.tdiv i.imm 16777216)))] _ (by kernel_rfl) (by kernel_rfl) (by kernel_rfl) rfl (by kernel_rfl) (by first | rfl | omega | assumption) (by first | omega | decide) (by kernel_rfl) rfl (by kernel_rfl) rfl (by rfl) (by omega) (by omega) (by omega) (by kernel_rfl) (fun g50 c51 r52 hc53 hr54 => ?_)
                        refine E.H.back (fun w h => h.less (List.Sublist.cons _ (List.Sublist.cons _ (List.Sublist.cons _ (List.Sublist.refl _))))) ?_
                        refine E.H.take 10 (.slice (some ⟨g50, 0, none⟩) 6 c51) rfl (by kernel_rfl) (by kernel_rfl) (by kernel_rfl) (fun _ _ _ h => h) (fun w h => h.less (List.Sublist.cons _ (List.Sublist.cons _ (List.Sublist.cons _ (List.Sublist.refl _))))) (.inl ⟨by kernel_rfl, by kernel_rfl, fun w h => by kernel_rfl⟩) (by kernel_rfl) ?_
                        refine E.H.done (by kernel_rfl) ?_
                        refine E.P.nb (E.To.code ?_)
                        refine E.C.weak [(2, .pointer (some ⟨g2, 0, none⟩)), (3, .slice (some ⟨g50, 0, none⟩) 6 c51)] [(g50, ([.int .u8 (IntKind.wrap .u8 i.op), .int .u8 (IntKind.wrap .u8 i.d), .int .u8 (IntKind.wrap .u8 i.imm), .int .u8 (IntKind.wrap .u8 (IntKind.wrap .u32 (Int.tdiv i.imm 256))), .int .u8 (IntKind.wrap .u8 (IntKind.wrap .u32 (Int.tdiv i.imm 65536))), .int .u8 (IntKind.wrap .u8 (IntKind.wrap .u32 (Int.tdiv i.imm 16777216)))] ++ r52)), (g2, [.string (⟨#[]⟩ : ByteArray), .int .i64 0])] ⟨by kernel_rfl, by kernel_rfl⟩ (List.Sublist.cons_cons _ (List.Sublist.cons _ (List.Sublist.cons _ (List.Sublist.cons_cons _ (List.nil_sublist _))))) ?_
                        refine E.C.seq ?_
                        refine E.C.region ?_
                        refine E.G.op (.slice (some ⟨g50, 0, none⟩) 6 c51) (fun w => by kernel_rfl) (by kernel_rfl) ?_
                        refine E.G.val (.string (strOfNums [(IntKind.wrap .u8 i.op), (IntKind.wrap .u8 i.d), (IntKind.wrap .u8 i.imm), (IntKind.wrap .u8 (IntKind.wrap .u32 (Int.tdiv i.imm 256))), (IntKind.wrap .u8 (IntKind.wrap .u32 (Int.tdiv i.imm 65536))), (IntKind.wrap .u8 (IntKind.wrap .u32 (Int.tdiv i.imm 16777216)))])) (by kernel_rfl) (fun w h => E.b2s h 0 g50 0 6 c51 [(IntKind.wrap .u8 i.op), (IntKind.wrap .u8 i.d), (IntKind.wrap .u8 i.imm), (IntKind.wrap .u8 (IntKind.wrap .u32 (Int.tdiv i.imm 256))), (IntKind.wrap .u8 (IntKind.wrap .u32 (Int.tdiv i.imm 65536))), (IntKind.wrap .u8 (IntKind.wrap .u32 (Int.tdiv i.imm 16777216)))] (e := 5) (by kernel_rfl) (by kernel_rfl) (by kernel_rfl) (by kernel_rfl) rfl (by kernel_rfl) rfl) ?_
                        refine E.G.val (.agg #[.string (strOfNums [(IntKind.wrap .u8 i.op), (IntKind.wrap .u8 i.d), (IntKind.wrap .u8 i.imm), (IntKind.wrap .u8 (IntKind.wrap .u32 (Int.tdiv i.imm 256))), (IntKind.wrap .u8 (IntKind.wrap .u32 (Int.tdiv i.imm 65536))), (IntKind.wrap .u8 (IntKind.wrap .u32 (Int.tdiv i.imm 16777216)))]), .int .i64 0]) (by kernel_rfl) (fun w h => E.run_build #[.string (strOfNums [(IntKind.wrap .u8 i.op), (IntKind.wrap .u8 i.d), (IntKind.wrap .u8 i.imm), (IntKind.wrap .u8 (IntKind.wrap .u32 (Int.tdiv i.imm 256))), (IntKind.wrap .u8 (IntKind.wrap .u32 (Int.tdiv i.imm 65536))), (IntKind.wrap .u8 (IntKind.wrap .u32 (Int.tdiv i.imm 16777216)))]), .int .i64 0] (by kernel_rfl) w) ?_
                        refine E.G.store 1 [.string (strOfNums [(IntKind.wrap .u8 i.op), (IntKind.wrap .u8 i.d), (IntKind.wrap .u8 i.imm), (IntKind.wrap .u8 (IntKind.wrap .u32 (Int.tdiv i.imm 256))), (IntKind.wrap .u8 (IntKind.wrap .u32 (Int.tdiv i.imm 65536))), (IntKind.wrap .u8 (IntKind.wrap .u32 (Int.tdiv i.imm 16777216)))]), .int .i64 0] rfl rfl (by kernel_rfl) (by kernel_rfl) ?_
                        refine E.To.code ?_
                        refine E.C.ret (E.To.body (fn := Try.f18) [.agg #[.string (strOfNums [(IntKind.wrap .u8 i.op), (IntKind.wrap .u8 i.d), (IntKind.wrap .u8 i.imm), (IntKind.wrap .u8 (IntKind.wrap .u32 (Int.tdiv i.imm 256))), (IntKind.wrap .u8 (IntKind.wrap .u32 (Int.tdiv i.imm 65536))), (IntKind.wrap .u8 (IntKind.wrap .u32 (Int.tdiv i.imm 16777216)))]), .int .i64 0]] ?_ ?_)
                        · exact ⟨⟨by kernel_rfl, _, _, 1, _, rfl, rfl, by kernel_rfl⟩, trivial⟩
                        · intro w h
                          exact ⟨by show Ending.returned (.agg #[.string (strOfNums [(IntKind.wrap .u8 i.op), (IntKind.wrap .u8 i.d), (IntKind.wrap .u8 i.imm), (IntKind.wrap .u8 (IntKind.wrap .u32 (Int.tdiv i.imm 256))), (IntKind.wrap .u8 (IntKind.wrap .u32 (Int.tdiv i.imm 65536))), (IntKind.wrap .u8 (IntKind.wrap .u32 (Int.tdiv i.imm 16777216)))]), .int .i64 0]) = _; unfold R2.Encode; rw [hc3, cond_false, hc5, cond_false, hc12, cond_false, hc20, cond_false, hc28, cond_false, hc35, cond_false, hc42, cond_true], h.ch.bel (fun _ h => h.elim)⟩
              · skip
                refine E.C.seq ?_
                refine E.C.region ?_
                refine E.G.op (.bool ((R2.Format i.op) == 6)) (fun w => by kernel_rfl) (by kernel_rfl) ?_
                refine E.G.op (.bool ((R2.Format i.op) == 6)) (fun w => by kernel_rfl) (by kernel_rfl) ?_
                refine E.To.code ?_
                refine E.C.cond ((R2.Format i.op) == 6) (by kernel_rfl) (by kernel_rfl) (fun hc55 => ?_) (fun hc55 => ?_)
                · skip
                  refine E.C.region ?_
                  refine E.G.op (.slice (some ⟨g4, 0, none⟩) 1 1) (fun w => by kernel_rfl) (by kernel_rfl) ?_
                  refine E.G.op (.int .u8 (IntKind.wrap .u8 (IntKind.wrap .i64 ((IntKind.wrap .i64 (16 * i.d)) + i.s)))) (fun w => by kernel_rfl) (by kernel_rfl) ?_
                  refine E.G.op (.pointer (some ⟨g1, 5, none⟩)) (fun w => by kernel_rfl) (by kernel_rfl) ?_
                  refine E.G.val (.int .u32 i.imm) (by kernel_rfl) (fun w h => E.run_load h 2 rfl rfl (by kernel_rfl)) ?_
                  refine E.G.op (.int .u8 (IntKind.wrap .u8 i.imm)) (fun w => by kernel_rfl) (by kernel_rfl) ?_
                  refine E.G.buildSlice [.int .u8 (IntKind.wrap .u8 (IntKind.wrap .i64 ((IntKind.wrap .i64 (16 * i.d)) + i.s))), .int .u8 (IntKind.wrap .u8 i.imm)] (by kernel_rfl) (by kernel_rfl) (fun g56 => ?_)
                  refine E.G.append (e := 5) 1 g4 1 1 0 g56 0 2 2 1 1 [.int .u8 (IntKind.wrap .u8 i.op)] [] [.int .u8 (IntKind.wrap .u8 (IntKind.wrap .i64 ((IntKind.wrap .i64 (16 * i.d)) + i.s))), .int .u8 (IntKind.wrap .u8 i.imm)] _ (by kernel_rfl) (by kernel_rfl) (by kernel_rfl) rfl (by kernel_rfl) (by first | rfl | omega | assumption) (by first | omega | decide) (by kernel_rfl) rfl (by kernel_rfl) rfl (by rfl) (by omega) (by omega) (by omega) (by kernel_rfl) (fun g57 c58 r59 hc60 hr61 => ?_)
                  refine E.G.op (.slice (some ⟨g57, 0, none⟩) 3 c58) (fun w => by kernel_rfl) (by kernel_rfl) ?_
                  refine E.P.nb (E.To.code ?_)
                  refine E.C.weak [(2, .pointer (some ⟨g2, 0, none⟩)), (3, .slice (some ⟨g57, 0, none⟩) 3 c58)] [(g57, ([.int .u8 (IntKind.wrap .u8 i.op), .int .u8 (IntKind.wrap .u8 (IntKind.wrap .i64 ((IntKind.wrap .i64 (16 * i.d)) + i.s))), .int .u8 (IntKind.wrap .u8 i.imm)] ++ r59)), (g2, [.string (⟨#[]⟩ : ByteArray), .int .i64 0])] ⟨by kernel_rfl, by kernel_rfl⟩ (List.Sublist.cons_cons _ (List.Sublist.cons _ (List.Sublist.cons_cons _ (List.nil_sublist _)))) ?_
                  refine E.C.seq ?_
                  refine E.C.region ?_
                  refine E.G.op (.slice (some ⟨g57, 0, none⟩) 3 c58) (fun w => by kernel_rfl) (by kernel_rfl) ?_
                  refine E.G.val (.string (strOfNums [(IntKind.wrap .u8 i.op), (IntKind.wrap .u8 (IntKind.wrap .i64 ((IntKind.wrap .i64 (16 * i.d)) + i.s))), (IntKind.wrap .u8 i.imm)])) (by kernel_rfl) (fun w h => E.b2s h 0 g57 0 3 c58 [(IntKind.wrap .u8 i.op), (IntKind.wrap .u8 (IntKind.wrap .i64 ((IntKind.wrap .i64 (16 * i.d)) + i.s))), (IntKind.wrap .u8 i.imm)] (e := 5) (by kernel_rfl) (by kernel_rfl) (by kernel_rfl) (by kernel_rfl) rfl (by kernel_rfl) rfl) ?_
                  refine E.G.val (.agg #[.string (strOfNums [(IntKind.wrap .u8 i.op), (IntKind.wrap .u8 (IntKind.wrap .i64 ((IntKind.wrap .i64 (16 * i.d)) + i.s))), (IntKind.wrap .u8 i.imm)]), .int .i64 0]) (by kernel_rfl) (fun w h => E.run_build #[.string (strOfNums [(IntKind.wrap .u8 i.op), (IntKind.wrap .u8 (IntKind.wrap .i64 ((IntKind.wrap .i64 (16 * i.d)) + i.s))), (IntKind.wrap .u8 i.imm)]), .int .i64 0] (by kernel_rfl) w) ?_
                  refine E.G.store 1 [.string (strOfNums [(IntKind.wrap .u8 i.op), (IntKind.wrap .u8 (IntKind.wrap .i64 ((IntKind.wrap .i64 (16 * i.d)) + i.s))), (IntKind.wrap .u8 i.imm)]), .int .i64 0] rfl rfl (by kernel_rfl) (by kernel_rfl) ?_
                  refine E.To.code ?_
                  refine E.C.ret (E.To.body (fn := Try.f18) [.agg #[.string (strOfNums [(IntKind.wrap .u8 i.op), (IntKind.wrap .u8 (IntKind.wrap .i64 ((IntKind.wrap .i64 (16 * i.d)) + i.s))), (IntKind.wrap .u8 i.imm)]), .int .i64 0]] ?_ ?_)
                  · exact ⟨⟨by kernel_rfl, _, _, 1, _, rfl, rfl, by kernel_rfl⟩, trivial⟩
                  · intro w h
                    exact ⟨by show Ending.returned (.agg #[.string (strOfNums [(IntKind.wrap .u8 i.op), (IntKind.wrap .u8 (IntKind.wrap .i64 ((IntKind.wrap .i64 (16 * i.d)) + i.s))), (IntKind.wrap .u8 i.imm)]), .int .i64 0]) = _; unfold R2.Encode; rw [hc3, cond_false, hc5, cond_false, hc12, cond_false, hc20, cond_false, hc28, cond_false, hc35, cond_false, hc42, cond_false, hc55, cond_true], h.ch.bel (fun _ h => h.elim)⟩
                · skip
                  refine E.C.seq ?_
                  refine E.C.region ?_
                  refine E.G.op (.bool ((R2.Format i.op) == 7)) (fun w => by kernel_rfl) (by kernel_rfl) ?_
                  refine E.G.op (.bool ((R2.Format i.op) == 7)) (fun w => by kernel_rfl) (by kernel_rfl) ?_
                  refine E.To.code ?_
                  refine E.C.cond ((R2.Format i.op) == 7) (by kernel_rfl) (by kernel_rfl) (fun hc62 => ?_) (fun hc62 => ?_)
                  · skip
                    refine E.C.seq ?_
                    refine E.C.region ?_
                    refine E.G.op (.int .u8 8) (fun w => by kernel_rfl) (by kernel_rfl) ?_
                    refine E.To.code ?_
                    refine E.C.seq ?_
                    refine E.C.seq ?_
                    refine E.C.region ?_
                    refine E.G.op (.pointer (some ⟨g1, 3, none⟩)) (fun w => by kernel_rfl) (by kernel_rfl) ?_
                    refine E.G.val (.int .i64 i.ix) (by kernel_rfl) (fun w h => E.run_load h 2 rfl rfl (by kernel_rfl)) ?_
                    refine E.G.op (.bool (decide (i.ix ≥ 0))) (fun w => by kernel_rfl) (by kernel_rfl) ?_
                    refine E.To.code ?_
                    refine E.C.weak [(1, .pointer (some ⟨g1, 0, none⟩)), (2, .pointer (some ⟨g2, 0, none⟩)), (3, .slice (some ⟨g4, 0, none⟩) 1 1), (4, .int .u8 (IntKind.wrap .u8 (IntKind.wrap .i64 ((IntKind.wrap .i64 (16 * i.d)) + i.s)))), (5, .int .u8 8), (76, .bool (decide (i.ix ≥ 0)))] [(g4, [.int .u8 (IntKind.wrap .u8 i.op)]), (g2, [.string (⟨#[]⟩ : ByteArray), .int .i64 0]), (g1, [.int .i64 i.op, .int .i64 i.d, .int .i64 i.s, .int .i64 i.ix, .int .i64 i.sc, .int .u32 i.imm, .int .i64 i.sz])] ⟨by kernel_rfl, by kernel_rfl⟩ (List.Sublist.refl _) ?_
                    refine E.C.cond (decide (i.ix ≥ 0)) (by kernel_rfl) (by kernel_rfl) (fun hc63 => ?_) (fun hc63 => ?_)
                    · skip
                      refine E.C.region ?_
                      refine E.G.op (.pointer (some ⟨g1, 3, none⟩)) (fun w => by kernel_rfl) (by kernel_rfl) ?_
                      refine E.G.val (.int .i64 i.ix) (by kernel_rfl) (fun w h => E.run_load h 2 rfl rfl (by kernel_rfl)) ?_
                      refine E.G.op (.pointer (some ⟨g1, 4, none⟩)) (fun w => by kernel_rfl) (by kernel_rfl) ?_
                      refine E.G.val (.int .i64 i.sc) (by kernel_rfl) (fun w h => E.run_load h 2 rfl rfl (by kernel_rfl)) ?_
                      refine E.G.op (.int .i64 (IntKind.wrap .i64 (16 * i.sc))) (fun w => by kernel_rfl) (by kernel_rfl) ?_
                      refine E.G.op (.int .i64 (IntKind.wrap .i64 (i.ix + (IntKind.wrap .i64 (16 * i.sc))))) (fun w => by kernel_rfl) (by kernel_rfl) ?_
                      refine E.G.op (.int .u8 (IntKind.wrap .u8 (IntKind.wrap .i64 (i.ix + (IntKind.wrap .i64 (16 * i.sc)))))) (fun w => by kernel_rfl) (by kernel_rfl) ?_
                      refine E.G.op (.int .u8 (IntKind.wrap .u8 (IntKind.wrap .i64 (i.ix + (IntKind.wrap .i64 (16 * i.sc)))))) (fun w => by kernel_rfl) (by kernel_rfl) ?_
                      refine E.To.code ?_
                      refine E.C.weak [(1, .pointer (some ⟨g1, 0, none⟩)), (2, .pointer (some ⟨g2, 0, none⟩)), (3, .slice (some ⟨g4, 0, none⟩) 1 1), (4, .int .u8 (IntKind.wrap .u8 (IntKind.wrap .i64 ((IntKind.wrap .i64 (16 * i.d)) + i.s)))), (5, .int .u8 (IntKind.wrap .u8 (IntKind.wrap .i64 (i.ix + (IntKind.wrap .i64 (16 * i.sc))))))] [(g4, [.int .u8 (IntKind.wrap .u8 i.op)]), (g2, [.string (⟨#[]⟩ : ByteArray), .int .i64 0]), (g1, [.int .i64 i.op, .int .i64 i.d, .int .i64 i.s, .int .i64 i.ix, .int .i64 i.sc, .int .u32 i.imm, .int .i64 i.sz])] ⟨by kernel_rfl, by kernel_rfl⟩ (List.Sublist.refl _) ?_
                      refine E.C.held (E.Hp (fun _ => False) w (fun _ => True) [(g2, [.string (⟨#[]⟩ : ByteArray), .int .i64 0]), (g1, [.int .i64 i.op, .int .i64 i.d, .int .i64 i.s, .int .i64 i.ix, .int .i64 i.sc, .int .u32 i.imm, .int .i64 i.sz])]) (by kernel_rfl) ?_
                      refine E.H.take 0 (.slice (some ⟨g4, 0, none⟩) 1 1) rfl (by kernel_rfl) (by kernel_rfl) (by kernel_rfl) (fun _ _ _ h => h) (fun w h => h.less (List.Sublist.cons _ (List.Sublist.refl _))) (.inl ⟨by kernel_rfl, by kernel_rfl, fun w h => by kernel_rfl⟩) (by kernel_rfl) ?_
                      refine E.H.take 1 (.int .u8 (IntKind.wrap .u8 (IntKind.wrap .i64 ((IntKind.wrap .i64 (16 * i.d)) + i.s)))) rfl (by kernel_rfl) (by kernel_rfl) (by kernel_rfl) (fun _ _ _ h => h) (fun w h => h.less (List.Sublist.cons _ (List.Sublist.refl _))) (.inl ⟨by kernel_rfl, by kernel_rfl, fun w h => by kernel_rfl⟩) (by kernel_rfl) ?_
                      refine E.H.take 2 (.int .u8 (IntKind.wrap .u8 (IntKind.wrap .i64 (i.ix + (IntKind.wrap .i64 (16 * i.sc)))))) rfl (by kernel_rfl) (by kernel_rfl) (by kernel_rfl) (fun _ _ _ h => h) (fun w h => h.less (List.Sublist.cons _ (List.Sublist.refl _))) (.inl ⟨by kernel_rfl, by kernel_rfl, fun w h => by kernel_rfl⟩) (by kernel_rfl) ?_
                      refine E.H.take 5 (.pointer (some ⟨g1, 5, none⟩)) rfl (by kernel_rfl) (by kernel_rfl) (by kernel_rfl) (fun _ _ _ h => h) (fun w h => h.less (List.Sublist.cons _ (List.Sublist.refl _))) (.inl ⟨by kernel_rfl, by kernel_rfl, fun w h => by kernel_rfl⟩) (by kernel_rfl) ?_
                      refine E.H.take 6 (.int .u32 i.imm) rfl (by kernel_rfl) (by kernel_rfl) (by kernel_rfl) (fun _ _ _ h => h) (fun w h => h.less (List.Sublist.cons _ (List.Sublist.refl _))) (.inl ⟨by kernel_rfl, by kernel_rfl, fun w h => E.run_load h 1 rfl rfl (by kernel_rfl)⟩) (by kernel_rfl) ?_
                      refine E.H.all [3] (by kernel_rfl) (by simp) (List.forall_mem_cons.2 ⟨⟨_, rfl, ?_⟩, fun _ h => (List.not_mem_nil h).elim⟩)
                      · skip
                        refine E.G.buildSlice [.int .u8 (IntKind.wrap .u8 (IntKind.wrap .i64 ((IntKind.wrap .i64 (16 * i.d)) + i.s))), .int .u8 (IntKind.wrap .u8 (IntKind.wrap .i64 (i.ix + (IntKind.wrap .i64 (16 * i.sc)))))] (by kernel_rfl) (by kernel_rfl) (fun g64 => ?_)
                        refine E.H.back (fun w h => h.less (List.Sublist.cons _ (List.Sublist.cons _ (List.Sublist.refl _)))) ?_
                        refine E.H.all [4] (by kernel_rfl) (by simp) (List.forall_mem_cons.2 ⟨⟨_, rfl, ?_⟩, fun _ h => (List.not_mem_nil h).elim⟩)
                        · skip
                          refine E.G.append (e := 5) 1 g4 1 1 0 g64 0 2 2 1 1 [.int .u8 (IntKind.wrap .u8 i.op)] [] [.int .u8 (IntKind.wrap .u8 (IntKind.wrap .i64 ((IntKind.wrap .i64 (16 * i.d)) + i.s))), .int .u8 (IntKind.wrap .u8 (IntKind.wrap .i64 (i.ix + (IntKind.wrap .i64 (16 * i.sc)))))] _ (by kernel_rfl) (by kernel_rfl) (by kernel_rfl) rfl (by kernel_rfl) (by first | rfl | omega | assumption) (by first | omega | decide) (by kernel_rfl) rfl (by kernel_rfl) rfl (by rfl) (by omega) (by omega) (by omega) (by kernel_rfl) (fun g65 c66 r67 hc68 hr69 => ?_)
                          refine E.H.back (fun w h => h.less (List.Sublist.cons _ (List.Sublist.cons _ (List.Sublist.refl _)))) ?_
                          refine E.H.all [7] (by kernel_rfl) (by simp) (List.forall_mem_cons.2 ⟨⟨_, rfl, ?_⟩, fun _ h => (List.not_mem_nil h).elim⟩)
                          · skip
                            refine E.G.callX (I := Nat) (fun _ => True) (fun g => .slice (some ⟨g, 0, none⟩) 4 4) (fun _ => fun _ => True) (fun g => (g, [.int .u8 (IntKind.wrap .u8 i.imm), .int .u8 (IntKind.wrap .u8 (IntKind.wrap .u32 (Int.tdiv i.imm 256))), .int .u8 (IntKind.wrap .u8 (IntKind.wrap .u32 (Int.tdiv i.imm 65536))), .int .u8 (IntKind.wrap .u8 (IntKind.wrap .u32 (Int.tdiv i.imm 16777216)))]) :: [(g65, ([.int .u8 (IntKind.wrap .u8 i.op), .int .u8 (IntKind.wrap .u8 (IntKind.wrap .i64 ((IntKind.wrap .i64 (16 * i.d)) + i.s))), .int .u8 (IntKind.wrap .u8 (IntKind.wrap .i64 (i.ix + (IntKind.wrap .i64 (16 * i.sc)))))] ++ r67)), (g64, [.int .u8 (IntKind.wrap .u8 (IntKind.wrap .i64 ((IntKind.wrap .i64 (16 * i.d)) + i.s))), .int .u8 (IntKind.wrap .u8 (IntKind.wrap .i64 (i.ix + (IntKind.wrap .i64 (16 * i.sc)))))]), (g2, [.string (⟨#[]⟩ : ByteArray), .int .i64 0]), (g1, [.int .i64 i.op, .int .i64 i.d, .int .i64 i.s, .int .i64 i.ix, .int .i64 i.sc, .int .u32 i.imm, .int .i64 i.sz])]) (fun w h => (R2_four i.imm w h).mono fun e w1 ⟨g, he, hh⟩ => ⟨g, trivial, he, hh⟩) (fun w _ => by kernel_rfl) (by kernel_rfl) (fun g70 _ => ?_)
                            refine E.H.back (fun w h => h.less (List.Sublist.cons _ (List.Sublist.cons _ (List.Sublist.cons _ (List.Sublist.refl _))))) ?_
                            refine E.H.all [8] (by kernel_rfl) (by simp) (List.forall_mem_cons.2 ⟨⟨_, rfl, ?_⟩, fun _ h => (List.not_mem_nil h).elim⟩)
                            · skip
                              refine E.G.append (e := 5) 1 g65 3 c66 0 g70 0 4 4 1 1 [.int .u8 (IntKind.wrap .u8 i.op), .int .u8 (IntKind.wrap .u8 (IntKind.wrap .i64 ((IntKind.wrap .i64 (16 * i.d)) + i.s))), .int .u8 (IntKind.wrap .u8 (IntKind.wrap .i64 (i.ix + (IntKind.wrap .i64 (16 * i.sc)))))] r67 [.int .u8 (IntKind.wrap .u8 i.imm), .int .u8 (IntKind.wrap .u8 (IntKind.wrap .u32 (Int.tdiv i.imm 256))), .int .u8 (IntKind.wrap .u8 (IntKind.wrap .u32 (Int.tdiv i.imm 65536))), .int .u8 (IntKind.wrap .u8 (IntKind.wrap .u32 (Int.tdiv i.imm 16777216)))] _ (by kernel_rfl) (by kernel_rfl) (by kernel_rfl) rfl (by kernel_rfl) (by first | rfl | omega | assumption) (by first | omega | decide) (by kernel_rfl) rfl (by kernel_rfl) rfl (by rfl) (by omega) (by omega) (by omega) (by kernel_rfl) (fun g71 c72 r73 hc74 hr75 => ?_)
                              refine E.H.back (fun w h => h.less (List.Sublist.cons _ (List.Sublist.cons _ (List.Sublist.cons _ (List.Sublist.refl _))))) ?_
                              refine E.H.take 9 (.slice (some ⟨g71, 0, none⟩) 7 c72) rfl (by kernel_rfl) (by kernel_rfl) (by kernel_rfl) (fun _ _ _ h => h) (fun w h => h.less (List.Sublist.cons _ (List.Sublist.cons _ (List.Sublist.cons _ (List.Sublist.refl _))))) (.inl ⟨by kernel_rfl, by kernel_rfl, fun w h => by kernel_rfl⟩) (by kernel_rfl) ?_
                              refine E.H.done (by kernel_rfl) ?_
                              refine E.P.nb (E.To.code ?_)
                              refine E.C.weak [(2, .pointer (some ⟨g2, 0, none⟩)), (3, .slice (some ⟨g71, 0, none⟩) 7 c72)] [(g71, ([.int .u8 (IntKind.wrap .u8 i.op), .int .u8 (IntKind.wrap .u8 (IntKind.wrap .i64 ((IntKind.wrap .i64 (16 * i.d)) + i.s))), .int .u8 (IntKind.wrap .u8 (IntKind.wrap .i64 (i.ix + (IntKind.wrap .i64 (16 * i.sc))))), .int .u8 (IntKind.wrap .u8 i.imm), .int .u8 (IntKind.wrap .u8 (IntKind.wrap .u32 (Int.tdiv i.imm 256))), .int .u8 (IntKind.wrap .u8 (IntKind.wrap .u32 (Int.tdiv i.imm 65536))), .int .u8 (IntKind.wrap .u8 (IntKind.wrap .u32 (Int.tdiv i.imm 16777216)))] ++ r73)), (g2, [.string (⟨#[]⟩ : ByteArray), .int .i64 0])] ⟨by kernel_rfl, by kernel_rfl⟩ (List.Sublist.cons_cons _ (List.Sublist.cons _ (List.Sublist.cons _ (List.Sublist.cons_cons _ (List.nil_sublist _))))) ?_
                              refine E.C.seq ?_
                              refine E.C.region ?_
                              refine E.G.op (.slice (some ⟨g71, 0, none⟩) 7 c72) (fun w => by kernel_rfl) (by kernel_rfl) ?_
                              refine E.G.val (.string (strOfNums [(IntKind.wrap .u8 i.op), (IntKind.wrap .u8 (IntKind.wrap .i64 ((IntKind.wrap .i64 (16 * i.d)) + i.s))), (IntKind.wrap .u8 (IntKind.wrap .i64 (i.ix + (IntKind.wrap .i64 (16 * i.sc))))), (IntKind.wrap .u8 i.imm), (IntKind.wrap .u8 (IntKind.wrap .u32 (Int.tdiv i.imm 256))), (IntKind.wrap .u8 (IntKind.wrap .u32 (Int.tdiv i.imm 65536))), (IntKind.wrap .u8 (IntKind.wrap .u32 (Int.tdiv i.imm 16777216)))])) (by kernel_rfl) (fun w h => E.b2s h 0 g71 0 7 c72 [(IntKind.wrap .u8 i.op), (IntKind.wrap .u8 (IntKind.wrap .i64 ((IntKind.wrap .i64 (16 * i.d)) + i.s))), (IntKind.wrap .u8 (IntKind.wrap .i64 (i.ix + (IntKind.wrap .i64 (16 * i.sc))))), (IntKind.wrap .u8 i.imm), (IntKind.wrap .u8 (IntKind.wrap .u32 (Int.tdiv i.imm 256))), (IntKind.wrap .u8 (IntKind.wrap .u32 (Int.tdiv i.imm 65536))), (IntKind.wrap .u8 (IntKind.wrap .u32 (Int.tdiv i.imm 16777216)))] (e := 5) (by kernel_rfl) (by kernel_rfl) (by kernel_rfl) (by kernel_rfl) rfl (by kernel_rfl) rfl) ?_
                              refine E.G.val (.agg #[.string (strOfNums [(IntKind.wrap .u8 i.op), (IntKind.wrap .u8 (IntKind.wrap .i64 ((IntKind.wrap .i64 (16 * i.d)) + i.s))), (IntKind.wrap .u8 (IntKind.wrap .i64 (i.ix + (IntKind.wrap .i64 (16 * i.sc))))), (IntKind.wrap .u8 i.imm), (IntKind.wrap .u8 (IntKind.wrap .u32 (Int.tdiv i.imm 256))), (IntKind.wrap .u8 (IntKind.wrap .u32 (Int.tdiv i.imm 65536))), (IntKind.wrap .u8 (IntKind.wrap .u32 (Int.tdiv i.imm 16777216)))]), .int .i64 0]) (by kernel_rfl) (fun w h => E.run_build #[.string (strOfNums [(IntKind.wrap .u8 i.op), (IntKind.wrap .u8 (IntKind.wrap .i64 ((IntKind.wrap .i64 (16 * i.d)) + i.s))), (IntKind.wrap .u8 (IntKind.wrap .i64 (i.ix + (IntKind.wrap .i64 (16 * i.sc))))), (IntKind.wrap .u8 i.imm), (IntKind.wrap .u8 (IntKind.wrap .u32 (Int.tdiv i.imm 256))), (IntKind.wrap .u8 (IntKind.wrap .u32 (Int.tdiv i.imm 65536))), (IntKind.wrap .u8 (IntKind.wrap .u32 (Int.tdiv i.imm 16777216)))]), .int .i64 0] (by kernel_rfl) w) ?_
                              refine E.G.store 1 [.string (strOfNums [(IntKind.wrap .u8 i.op), (IntKind.wrap .u8 (IntKind.wrap .i64 ((IntKind.wrap .i64 (16 * i.d)) + i.s))), (IntKind.wrap .u8 (IntKind.wrap .i64 (i.ix + (IntKind.wrap .i64 (16 * i.sc))))), (IntKind.wrap .u8 i.imm), (IntKind.wrap .u8 (IntKind.wrap .u32 (Int.tdiv i.imm 256))), (IntKind.wrap .u8 (IntKind.wrap .u32 (Int.tdiv i.imm 65536))), (IntKind.wrap .u8 (IntKind.wrap .u32 (Int.tdiv i.imm 16777216)))]), .int .i64 0] rfl rfl (by kernel_rfl) (by kernel_rfl) ?_
                              refine E.To.code ?_
                              refine E.C.ret (E.To.body (fn := Try.f18) [.agg #[.string (strOfNums [(IntKind.wrap .u8 i.op), (IntKind.wrap .u8 (IntKind.wrap .i64 ((IntKind.wrap .i64 (16 * i.d)) + i.s))), (IntKind.wrap .u8 (IntKind.wrap .i64 (i.ix + (IntKind.wrap .i64 (16 * i.sc))))), (IntKind.wrap .u8 i.imm), (IntKind.wrap .u8 (IntKind.wrap .u32 (Int.tdiv i.imm 256))), (IntKind.wrap .u8 (IntKind.wrap .u32 (Int.tdiv i.imm 65536))), (IntKind.wrap .u8 (IntKind.wrap .u32 (Int.tdiv i.imm 16777216)))]), .int .i64 0]] ?_ ?_)
                              · exact ⟨⟨by kernel_rfl, _, _, 1, _, rfl, rfl, by kernel_rfl⟩, trivial⟩
                              · intro w h
                                exact ⟨by show Ending.returned (.agg #[.string (strOfNums [(IntKind.wrap .u8 i.op), (IntKind.wrap .u8 (IntKind.wrap .i64 ((IntKind.wrap .i64 (16 * i.d)) + i.s))), (IntKind.wrap .u8 (IntKind.wrap .i64 (i.ix + (IntKind.wrap .i64 (16 * i.sc))))), (IntKind.wrap .u8 i.imm), (IntKind.wrap .u8 (IntKind.wrap .u32 (Int.tdiv i.imm 256))), (IntKind.wrap .u8 (IntKind.wrap .u32 (Int.tdiv i.imm 65536))), (IntKind.wrap .u8 (IntKind.wrap .u32 (Int.tdiv i.imm 16777216)))]), .int .i64 0]) = _; unfold R2.Encode; rw [hc3, cond_false, hc5, cond_false, hc12, cond_false, hc20, cond_false, hc28, cond_false, hc35, cond_false, hc42, cond_false, hc55, cond_false, hc62, cond_true, hc63, cond_true], h.ch.bel (fun _ h => h.elim)⟩
                    · skip
                      refine E.C.skip (E.To.code ?_)
                      refine E.C.held (E.Hp (fun _ => False) w (fun _ => True) [(g2, [.string (⟨#[]⟩ : ByteArray), .int .i64 0]), (g1, [.int .i64 i.op, .int .i64 i.d, .int .i64 i.s, .int .i64 i.ix, .int .i64 i.sc, .int .u32 i.imm, .int .i64 i.sz])]) (by kernel_rfl) ?_
                      refine E.H.take 0 (.slice (some ⟨g4, 0, none⟩) 1 1) rfl (by kernel_rfl) (by kernel_rfl) (by kernel_rfl) (fun _ _ _ h => h) (fun w h => h.less (List.Sublist.cons _ (List.Sublist.refl _))) (.inl ⟨by kernel_rfl, by kernel_rfl, fun w h => by kernel_rfl⟩) (by kernel_rfl) ?_
                      refine E.H.take 1 (.int .u8 (IntKind.wrap .u8 (IntKind.wrap .i64 ((IntKind.wrap .i64 (16 * i.d)) + i.s)))) rfl (by kernel_rfl) (by kernel_rfl) (by kernel_rfl) (fun _ _ _ h => h) (fun w h => h.less (List.Sublist.cons _ (List.Sublist.refl _))) (.inl ⟨by kernel_rfl, by kernel_rfl, fun w h => by kernel_rfl⟩) (by kernel_rfl) ?_
                      refine E.H.take 2 (.int .u8 8) rfl (by kernel_rfl) (by kernel_rfl) (by kernel_rfl) (fun _ _ _ h => h) (fun w h => h.less (List.Sublist.cons _ (List.Sublist.refl _))) (.inl ⟨by kernel_rfl, by kernel_rfl, fun w h => by kernel_rfl⟩) (by kernel_rfl) ?_
                      refine E.H.take 5 (.pointer (some ⟨g1, 5, none⟩)) rfl (by kernel_rfl) (by kernel_rfl) (by kernel_rfl) (fun _ _ _ h => h) (fun w h => h.less (List.Sublist.cons _ (List.Sublist.refl _))) (.inl ⟨by kernel_rfl, by kernel_rfl, fun w h => by kernel_rfl⟩) (by kernel_rfl) ?_
                      refine E.H.take 6 (.int .u32 i.imm) rfl (by kernel_rfl) (by kernel_rfl) (by kernel_rfl) (fun _ _ _ h => h) (fun w h => h.less (List.Sublist.cons _ (List.Sublist.refl _))) (.inl ⟨by kernel_rfl, by kernel_rfl, fun w h => E.run_load h 1 rfl rfl (by kernel_rfl)⟩) (by kernel_rfl) ?_
                      refine E.H.all [3] (by kernel_rfl) (by simp) (List.forall_mem_cons.2 ⟨⟨_, rfl, ?_⟩, fun _ h => (List.not_mem_nil h).elim⟩)
                      · skip
                        refine E.G.buildSlice [.int .u8 (IntKind.wrap .u8 (IntKind.wrap .i64 ((IntKind.wrap .i64 (16 * i.d)) + i.s))), .int .u8 8] (by kernel_rfl) (by kernel_rfl) (fun g76 => ?_)
                        refine E.H.back (fun w h => h.less (List.Sublist.cons _ (List.Sublist.cons _ (List.Sublist.refl _)))) ?_
                        refine E.H.all [4] (by kernel_rfl) (by simp) (List.forall_mem_cons.2 ⟨⟨_, rfl, ?_⟩, fun _ h => (List.not_mem_nil h).elim⟩)
                        · skip
                          refine E.G.append (e := 5) 1 g4 1 1 0 g76 0 2 2 1 1 [.int .u8 (IntKind.wrap .u8 i.op)] [] [.int .u8 (IntKind.wrap .u8 (IntKind.wrap .i64 ((IntKind.wrap .i64 (16 * i.d)) + i.s))), .int .u8 8] _ (by kernel_rfl) (by kernel_rfl) (by kernel_rfl) rfl (by kernel_rfl) (by first | rfl | omega | assumption) (by first | omega | decide) (by kernel_rfl) rfl (by kernel_rfl) rfl (by rfl) (by omega) (by omega) (by omega) (by kernel_rfl) (fun g77 c78 r79 hc80 hr81 => ?_)
                          refine E.H.back (fun w h => h.less (List.Sublist.cons _ (List.Sublist.cons _ (List.Sublist.refl _)))) ?_
                          refine E.H.all [7] (by kernel_rfl) (by simp) (List.forall_mem_cons.2 ⟨⟨_, rfl, ?_⟩, fun _ h => (List.not_mem_nil h).elim⟩)
                          · skip
                            refine E.G.callX (I := Nat) (fun _ => True) (fun g => .slice (some ⟨g, 0, none⟩) 4 4) (fun _ => fun _ => True) (fun g => (g, [.int .u8 (IntKind.wrap .u8 i.imm), .int .u8 (IntKind.wrap .u8 (IntKind.wrap .u32 (Int.tdiv i.imm 256))), .int .u8 (IntKind.wrap .u8 (IntKind.wrap .u32 (Int.tdiv i.imm 65536))), .int .u8 (IntKind.wrap .u8 (IntKind.wrap .u32 (Int.tdiv i.imm 16777216)))]) :: [(g77, ([.int .u8 (IntKind.wrap .u8 i.op), .int .u8 (IntKind.wrap .u8 (IntKind.wrap .i64 ((IntKind.wrap .i64 (16 * i.d)) + i.s))), .int .u8 8] ++ r79)), (g76, [.int .u8 (IntKind.wrap .u8 (IntKind.wrap .i64 ((IntKind.wrap .i64 (16 * i.d)) + i.s))), .int .u8 8]), (g2, [.string (⟨#[]⟩ : ByteArray), .int .i64 0]), (g1, [.int .i64 i.op, .int .i64 i.d, .int .i64 i.s, .int .i64 i.ix, .int .i64 i.sc, .int .u32 i.imm, .int .i64 i.sz])]) (fun w h => (R2_four i.imm w h).mono fun e w1 ⟨g, he, hh⟩ => ⟨g, trivial, he, hh⟩) (fun w _ => by kernel_rfl) (by kernel_rfl) (fun g82 _ => ?_)
                            refine E.H.back (fun w h => h.less (List.Sublist.cons _ (List.Sublist.cons _ (List.Sublist.cons _ (List.Sublist.refl _))))) ?_
                            refine E.H.all [8] (by kernel_rfl) (by simp) (List.forall_mem_cons.2 ⟨⟨_, rfl, ?_⟩, fun _ h => (List.not_mem_nil h).elim⟩)
                            · skip
                              refine E.G.append (e := 5) 1 g77 3 c78 0 g82 0 4 4 1 1 [.int .u8 (IntKind.wrap .u8 i.op), .int .u8 (IntKind.wrap .u8 (IntKind.wrap .i64 ((IntKind.wrap .i64 (16 * i.d)) + i.s))), .int .u8 8] r79 [.int .u8 (IntKind.wrap .u8 i.imm), .int .u8 (IntKind.wrap .u8 (IntKind.wrap .u32 (Int.tdiv i.imm 256))), .int .u8 (IntKind.wrap .u8 (IntKind.wrap .u32 (Int.tdiv i.imm 65536))), .int .u8 (IntKind.wrap .u8 (IntKind.wrap .u32 (Int.tdiv i.imm 16777216)))] _ (by kernel_rfl) (by kernel_rfl) (by kernel_rfl) rfl (by kernel_rfl) (by first | rfl | omega | assumption) (by first | omega | decide) (by kernel_rfl) rfl (by kernel_rfl) rfl (by rfl) (by omega) (by omega) (by omega) (by kernel_rfl) (fun g83 c84 r85 hc86 hr87 => ?_)
                              refine E.H.back (fun w h => h.less (List.Sublist.cons _ (List.Sublist.cons _ (List.Sublist.cons _ (List.Sublist.refl _))))) ?_
                              refine E.H.take 9 (.slice (some ⟨g83, 0, none⟩) 7 c84) rfl (by kernel_rfl) (by kernel_rfl) (by kernel_rfl) (fun _ _ _ h => h) (fun w h => h.less (List.Sublist.cons _ (List.Sublist.cons _ (List.Sublist.cons _ (List.Sublist.refl _))))) (.inl ⟨by kernel_rfl, by kernel_rfl, fun w h => by kernel_rfl⟩) (by kernel_rfl) ?_
                              refine E.H.done (by kernel_rfl) ?_
                              refine E.P.nb (E.To.code ?_)
                              refine E.C.weak [(2, .pointer (some ⟨g2, 0, none⟩)), (3, .slice (some ⟨g83, 0, none⟩) 7 c84)] [(g83, ([.int .u8 (IntKind.wrap .u8 i.op), .int .u8 (IntKind.wrap .u8 (IntKind.wrap .i64 ((IntKind.wrap .i64 (16 * i.d)) + i.s))), .int .u8 8, .int .u8 (IntKind.wrap .u8 i.imm), .int .u8 (IntKind.wrap .u8 (IntKind.wrap .u32 (Int.tdiv i.imm 256))), .int .u8 (IntKind.wrap .u8 (IntKind.wrap .u32 (Int.tdiv i.imm 65536))), .int .u8 (IntKind.wrap .u8 (IntKind.wrap .u32 (Int.tdiv i.imm 16777216)))] ++ r85)), (g2, [.string (⟨#[]⟩ : ByteArray), .int .i64 0])] ⟨by kernel_rfl, by kernel_rfl⟩ (List.Sublist.cons_cons _ (List.Sublist.cons _ (List.Sublist.cons _ (List.Sublist.cons_cons _ (List.nil_sublist _))))) ?_
                              refine E.C.seq ?_
                              refine E.C.region ?_
                              refine E.G.op (.slice (some ⟨g83, 0, none⟩) 7 c84) (fun w => by kernel_rfl) (by kernel_rfl) ?_
                              refine E.G.val (.string (strOfNums [(IntKind.wrap .u8 i.op), (IntKind.wrap .u8 (IntKind.wrap .i64 ((IntKind.wrap .i64 (16 * i.d)) + i.s))), 8, (IntKind.wrap .u8 i.imm), (IntKind.wrap .u8 (IntKind.wrap .u32 (Int.tdiv i.imm 256))), (IntKind.wrap .u8 (IntKind.wrap .u32 (Int.tdiv i.imm 65536))), (IntKind.wrap .u8 (IntKind.wrap .u32 (Int.tdiv i.imm 16777216)))])) (by kernel_rfl) (fun w h => E.b2s h 0 g83 0 7 c84 [(IntKind.wrap .u8 i.op), (IntKind.wrap .u8 (IntKind.wrap .i64 ((IntKind.wrap .i64 (16 * i.d)) + i.s))), 8, (IntKind.wrap .u8 i.imm), (IntKind.wrap .u8 (IntKind.wrap .u32 (Int.tdiv i.imm 256))), (IntKind.wrap .u8 (IntKind.wrap .u32 (Int.tdiv i.imm 65536))), (IntKind.wrap .u8 (IntKind.wrap .u32 (Int.tdiv i.imm 16777216)))] (e := 5) (by kernel_rfl) (by kernel_rfl) (by kernel_rfl) (by kernel_rfl) rfl (by kernel_rfl) rfl) ?_
                              refine E.G.val (.agg #[.string (strOfNums [(IntKind.wrap .u8 i.op), (IntKind.wrap .u8 (IntKind.wrap .i64 ((IntKind.wrap .i64 (16 * i.d)) + i.s))), 8, (IntKind.wrap .u8 i.imm), (IntKind.wrap .u8 (IntKind.wrap .u32 (Int.tdiv i.imm 256))), (IntKind.wrap .u8 (IntKind.wrap .u32 (Int.tdiv i.imm 65536))), (IntKind.wrap .u8 (IntKind.wrap .u32 (Int.tdiv i.imm 16777216)))]), .int .i64 0]) (by kernel_rfl) (fun w h => E.run_build #[.string (strOfNums [(IntKind.wrap .u8 i.op), (IntKind.wrap .u8 (IntKind.wrap .i64 ((IntKind.wrap .i64 (16 * i.d)) + i.s))), 8, (IntKind.wrap .u8 i.imm), (IntKind.wrap .u8 (IntKind.wrap .u32 (Int.tdiv i.imm 256))), (IntKind.wrap .u8 (IntKind.wrap .u32 (Int.tdiv i.imm 65536))), (IntKind.wrap .u8 (IntKind.wrap .u32 (Int.tdiv i.imm 16777216)))]), .int .i64 0] (by kernel_rfl) w) ?_
                              refine E.G.store 1 [.string (strOfNums [(IntKind.wrap .u8 i.op), (IntKind.wrap .u8 (IntKind.wrap .i64 ((IntKind.wrap .i64 (16 * i.d)) + i.s))), 8, (IntKind.wrap .u8 i.imm), (IntKind.wrap .u8 (IntKind.wrap .u32 (Int.tdiv i.imm 256))), (IntKind.wrap .u8 (IntKind.wrap .u32 (Int.tdiv i.imm 65536))), (IntKind.wrap .u8 (IntKind.wrap .u32 (Int.tdiv i.imm 16777216)))]), .int .i64 0] rfl rfl (by kernel_rfl) (by kernel_rfl) ?_
                              refine E.To.code ?_
                              refine E.C.ret (E.To.body (fn := Try.f18) [.agg #[.string (strOfNums [(IntKind.wrap .u8 i.op), (IntKind.wrap .u8 (IntKind.wrap .i64 ((IntKind.wrap .i64 (16 * i.d)) + i.s))), 8, (IntKind.wrap .u8 i.imm), (IntKind.wrap .u8 (IntKind.wrap .u32 (Int.tdiv i.imm 256))), (IntKind.wrap .u8 (IntKind.wrap .u32 (Int.tdiv i.imm 65536))), (IntKind.wrap .u8 (IntKind.wrap .u32 (Int.tdiv i.imm 16777216)))]), .int .i64 0]] ?_ ?_)
                              · exact ⟨⟨by kernel_rfl, _, _, 1, _, rfl, rfl, by kernel_rfl⟩, trivial⟩
                              · intro w h
                                exact ⟨by show Ending.returned (.agg #[.string (strOfNums [(IntKind.wrap .u8 i.op), (IntKind.wrap .u8 (IntKind.wrap .i64 ((IntKind.wrap .i64 (16 * i.d)) + i.s))), 8, (IntKind.wrap .u8 i.imm), (IntKind.wrap .u8 (IntKind.wrap .u32 (Int.tdiv i.imm 256))), (IntKind.wrap .u8 (IntKind.wrap .u32 (Int.tdiv i.imm 65536))), (IntKind.wrap .u8 (IntKind.wrap .u32 (Int.tdiv i.imm 16777216)))]), .int .i64 0]) = _; unfold R2.Encode; rw [hc3, cond_false, hc5, cond_false, hc12, cond_false, hc20, cond_false, hc28, cond_false, hc35, cond_false, hc42, cond_false, hc55, cond_false, hc62, cond_true, hc63, cond_false], h.ch.bel (fun _ h => h.elim)⟩
                  · skip
                    refine E.C.seq ?_
                    refine E.C.seq ?_
                    refine E.C.region ?_
                    refine E.G.op (.bool ((R2.Format i.op) == 8)) (fun w => by kernel_rfl) (by kernel_rfl) ?_
                    refine E.G.op (.bool ((R2.Format i.op) == 8)) (fun w => by kernel_rfl) (by kernel_rfl) ?_
                    refine E.To.code ?_
                    refine E.C.cond ((R2.Format i.op) == 8) (by kernel_rfl) (by kernel_rfl) (fun hc88 => ?_) (fun hc88 => ?_)
                    · skip
                      refine E.C.skip (E.To.code ?_)
                      refine E.C.cond ((R2.Format i.op) == 8) (by kernel_rfl) (by kernel_rfl) (fun hc89 => ?_) (fun hc89 => absurd (hc88.symm.trans hc89) (by decide))
                      refine E.C.region ?_
                      refine E.G.op (.slice (some ⟨g4, 0, none⟩) 1 1) (fun w => by kernel_rfl) (by kernel_rfl) ?_
                      refine E.G.op (.pointer (some ⟨g1, 5, none⟩)) (fun w => by kernel_rfl) (by kernel_rfl) ?_
                      refine E.G.val (.int .u32 i.imm) (by kernel_rfl) (fun w h => E.run_load h 2 rfl rfl (by kernel_rfl)) ?_
                      refine E.G.op (.int .u8 (IntKind.wrap .u8 i.imm)) (fun w => by kernel_rfl) (by kernel_rfl) ?_
                      refine E.G.buildSlice [.int .u8 (IntKind.wrap .u8 i.imm)] (by kernel_rfl) (by kernel_rfl) (fun g90 => ?_)
                      refine E.G.append (e := 5) 1 g4 1 1 0 g90 0 1 1 1 1 [.int .u8 (IntKind.wrap .u8 i.op)] [] [.int .u8 (IntKind.wrap .u8 i.imm)] _ (by kernel_rfl) (by kernel_rfl) (by kernel_rfl) rfl (by kernel_rfl) (by first | rfl | omega | assumption) (by first | omega | decide) (by kernel_rfl) rfl (by kernel_rfl) rfl (by rfl) (by omega) (by omega) (by omega) (by kernel_rfl) (fun g91 c92 r93 hc94 hr95 => ?_)
                      refine E.G.op (.slice (some ⟨g91, 0, none⟩) 2 c92) (fun w => by kernel_rfl) (by kernel_rfl) ?_
                      refine E.P.nb (E.To.code ?_)
                      refine E.C.weak [(2, .pointer (some ⟨g2, 0, none⟩)), (3, .slice (some ⟨g91, 0, none⟩) 2 c92)] [(g91, ([.int .u8 (IntKind.wrap .u8 i.op), .int .u8 (IntKind.wrap .u8 i.imm)] ++ r93)), (g2, [.string (⟨#[]⟩ : ByteArray), .int .i64 0])] ⟨by kernel_rfl, by kernel_rfl⟩ (List.Sublist.cons_cons _ (List.Sublist.cons _ (List.Sublist.cons_cons _ (List.nil_sublist _)))) ?_
                      refine E.C.seq ?_
                      refine E.C.region ?_
                      refine E.G.op (.slice (some ⟨g91, 0, none⟩) 2 c92) (fun w => by kernel_rfl) (by kernel_rfl) ?_
                      refine E.G.val (.string (strOfNums [(IntKind.wrap .u8 i.op), (IntKind.wrap .u8 i.imm)])) (by kernel_rfl) (fun w h => E.b2s h 0 g91 0 2 c92 [(IntKind.wrap .u8 i.op), (IntKind.wrap .u8 i.imm)] (e := 5) (by kernel_rfl) (by kernel_rfl) (by kernel_rfl) (by kernel_rfl) rfl (by kernel_rfl) rfl) ?_
                      refine E.G.val (.agg #[.string (strOfNums [(IntKind.wrap .u8 i.op), (IntKind.wrap .u8 i.imm)]), .int .i64 0]) (by kernel_rfl) (fun w h => E.run_build #[.string (strOfNums [(IntKind.wrap .u8 i.op), (IntKind.wrap .u8 i.imm)]), .int .i64 0] (by kernel_rfl) w) ?_
                      refine E.G.store 1 [.string (strOfNums [(IntKind.wrap .u8 i.op), (IntKind.wrap .u8 i.imm)]), .int .i64 0] rfl rfl (by kernel_rfl) (by kernel_rfl) ?_
                      refine E.To.code ?_
                      refine E.C.ret (E.To.body (fn := Try.f18) [.agg #[.string (strOfNums [(IntKind.wrap .u8 i.op), (IntKind.wrap .u8 i.imm)]), .int .i64 0]] ?_ ?_)
                      · exact ⟨⟨by kernel_rfl, _, _, 1, _, rfl, rfl, by kernel_rfl⟩, trivial⟩
                      · intro w h
                        exact ⟨by show Ending.returned (.agg #[.string (strOfNums [(IntKind.wrap .u8 i.op), (IntKind.wrap .u8 i.imm)]), .int .i64 0]) = _; unfold R2.Encode; rw [hc3, cond_false, hc5, cond_false, hc12, cond_false, hc20, cond_false, hc28, cond_false, hc35, cond_false, hc42, cond_false, hc55, cond_false, hc62, cond_false, hc88, cond_true], h.ch.bel (fun _ h => h.elim)⟩
                    · skip
                      refine E.C.region ?_
                      refine E.G.op (.bool ((R2.Format i.op) == 10)) (fun w => by kernel_rfl) (by kernel_rfl) ?_
                      refine E.G.op (.bool ((R2.Format i.op) == 10)) (fun w => by kernel_rfl) (by kernel_rfl) ?_
                      refine E.To.code ?_
                      refine E.C.weak [(1, .pointer (some ⟨g1, 0, none⟩)), (2, .pointer (some ⟨g2, 0, none⟩)), (3, .slice (some ⟨g4, 0, none⟩) 1 1), (23, .int .i64 (R2.Format i.op)), (93, .bool ((R2.Format i.op) == 10))] [(g4, [.int .u8 (IntKind.wrap .u8 i.op)]), (g2, [.string (⟨#[]⟩ : ByteArray), .int .i64 0]), (g1, [.int .i64 i.op, .int .i64 i.d, .int .i64 i.s, .int .i64 i.ix, .int .i64 i.sc, .int .u32 i.imm, .int .i64 i.sz])] ⟨by kernel_rfl, by kernel_rfl⟩ (List.Sublist.refl _) ?_
                      refine E.C.cond ((R2.Format i.op) == 10) (by kernel_rfl) (by kernel_rfl) (fun hc96 => ?_) (fun hc96 => ?_)
                      · skip
                        refine E.C.region ?_
                        refine E.G.op (.slice (some ⟨g4, 0, none⟩) 1 1) (fun w => by kernel_rfl) (by kernel_rfl) ?_
                        refine E.G.op (.pointer (some ⟨g1, 5, none⟩)) (fun w => by kernel_rfl) (by kernel_rfl) ?_
                        refine E.G.val (.int .u32 i.imm) (by kernel_rfl) (fun w h => E.run_load h 2 rfl rfl (by kernel_rfl)) ?_
                        refine E.G.op (.int .u8 (IntKind.wrap .u8 i.imm)) (fun w => by kernel_rfl) (by kernel_rfl) ?_
                        refine E.G.buildSlice [.int .u8 (IntKind.wrap .u8 i.imm)] (by kernel_rfl) (by kernel_rfl) (fun g97 => ?_)
                        refine E.G.append (e := 5) 1 g4 1 1 0 g97 0 1 1 1 1 [.int .u8 (IntKind.wrap .u8 i.op)] [] [.int .u8 (IntKind.wrap .u8 i.imm)] _ (by kernel_rfl) (by kernel_rfl) (by kernel_rfl) rfl (by kernel_rfl) (by first | rfl | omega | assumption) (by first | omega | decide) (by kernel_rfl) rfl (by kernel_rfl) rfl (by rfl) (by omega) (by omega) (by omega) (by kernel_rfl) (fun g98 c99 r100 hc101 hr102 => ?_)
                        refine E.G.op (.slice (some ⟨g98, 0, none⟩) 2 c99) (fun w => by kernel_rfl) (by kernel_rfl) ?_
                        refine E.P.nb (E.To.code ?_)
                        refine E.C.weak [(2, .pointer (some ⟨g2, 0, none⟩)), (3, .slice (some ⟨g98, 0, none⟩) 2 c99)] [(g98, ([.int .u8 (IntKind.wrap .u8 i.op), .int .u8 (IntKind.wrap .u8 i.imm)] ++ r100)), (g2, [.string (⟨#[]⟩ : ByteArray), .int .i64 0])] ⟨by kernel_rfl, by kernel_rfl⟩ (List.Sublist.cons_cons _ (List.Sublist.cons _ (List.Sublist.cons_cons _ (List.nil_sublist _)))) ?_
                        refine E.C.seq ?_
                        refine E.C.region ?_
                        refine E.G.op (.slice (some ⟨g98, 0, none⟩) 2 c99) (fun w => by kernel_rfl) (by kernel_rfl) ?_
                        refine E.G.val (.string (strOfNums [(IntKind.wrap .u8 i.op), (IntKind.wrap .u8 i.imm)])) (by kernel_rfl) (fun w h => E.b2s h 0 g98 0 2 c99 [(IntKind.wrap .u8 i.op), (IntKind.wrap .u8 i.imm)] (e := 5) (by kernel_rfl) (by kernel_rfl) (by kernel_rfl) (by kernel_rfl) rfl (by kernel_rfl) rfl) ?_
                        refine E.G.val (.agg #[.string (strOfNums [(IntKind.wrap .u8 i.op), (IntKind.wrap .u8 i.imm)]), .int .i64 0]) (by kernel_rfl) (fun w h => E.run_build #[.string (strOfNums [(IntKind.wrap .u8 i.op), (IntKind.wrap .u8 i.imm)]), .int .i64 0] (by kernel_rfl) w) ?_
                        refine E.G.store 1 [.string (strOfNums [(IntKind.wrap .u8 i.op), (IntKind.wrap .u8 i.imm)]), .int .i64 0] rfl rfl (by kernel_rfl) (by kernel_rfl) ?_
                        refine E.To.code ?_
                        refine E.C.ret (E.To.body (fn := Try.f18) [.agg #[.string (strOfNums [(IntKind.wrap .u8 i.op), (IntKind.wrap .u8 i.imm)]), .int .i64 0]] ?_ ?_)
                        · exact ⟨⟨by kernel_rfl, _, _, 1, _, rfl, rfl, by kernel_rfl⟩, trivial⟩
                        · intro w h
                          exact ⟨by show Ending.returned (.agg #[.string (strOfNums [(IntKind.wrap .u8 i.op), (IntKind.wrap .u8 i.imm)]), .int .i64 0]) = _; unfold R2.Encode; rw [hc3, cond_false, hc5, cond_false, hc12, cond_false, hc20, cond_false, hc28, cond_false, hc35, cond_false, hc42, cond_false, hc55, cond_false, hc62, cond_false, hc88, cond_false, hc96, cond_true], h.ch.bel (fun _ h => h.elim)⟩
                      · skip
                        refine E.C.seq ?_
                        refine E.C.region ?_
                        refine E.G.op (.bool ((R2.Format i.op) == 9)) (fun w => by kernel_rfl) (by kernel_rfl) ?_
                        refine E.G.op (.bool ((R2.Format i.op) == 9)) (fun w => by kernel_rfl) (by kernel_rfl) ?_
                        refine E.To.code ?_
                        refine E.C.cond ((R2.Format i.op) == 9) (by kernel_rfl) (by kernel_rfl) (fun hc103 => ?_) (fun hc103 => ?_)
                        · skip
                          refine E.C.region ?_
                          refine E.G.op (.slice (some ⟨g4, 0, none⟩) 1 1) (fun w => by kernel_rfl) (by kernel_rfl) ?_
                          refine E.G.op (.pointer (some ⟨g1, 5, none⟩)) (fun w => by kernel_rfl) (by kernel_rfl) ?_
                          refine E.G.val (.int .u32 i.imm) (by kernel_rfl) (fun w h => E.run_load h 2 rfl rfl (by kernel_rfl)) ?_
                          refine E.G.callX (I := Nat) (fun _ => True) (fun g => .slice (some ⟨g, 0, none⟩) 4 4) (fun _ => fun _ => True) (fun g => (g, [.int .u8 (IntKind.wrap .u8 i.imm), .int .u8 (IntKind.wrap .u8 (IntKind.wrap .u32 (Int.tdiv i.imm 256))), .int .u8 (IntKind.wrap .u8 (IntKind.wrap .u32 (Int.tdiv i.imm 65536))), .int .u8 (IntKind.wrap .u8 (IntKind.wrap .u32 (Int.tdiv i.imm 16777216)))]) :: [(g4, [.int .u8 (IntKind.wrap .u8 i.op)]), (g2, [.string (⟨#[]⟩ : ByteArray), .int .i64 0]), (g1, [.int .i64 i.op, .int .i64 i.d, .int .i64 i.s, .int .i64 i.ix, .int .i64 i.sc, .int .u32 i.imm, .int .i64 i.sz])]) (fun w h => (R2_four i.imm w h).mono fun e w1 ⟨g, he, hh⟩ => ⟨g, trivial, he, hh⟩) (fun w _ => by kernel_rfl) (by kernel_rfl) (fun g104 _ => ?_)
                          refine E.G.append (e := 5) 1 g4 1 1 0 g104 0 4 4 1 1 [.int .u8 (IntKind.wrap .u8 i.op)] [] [.int .u8 (IntKind.wrap .u8 i.imm), .int .u8 (IntKind.wrap .u8 (IntKind.wrap .u32 (Int.tdiv i.imm 256))), .int .u8 (IntKind.wrap .u8 (IntKind.wrap .u32 (Int.tdiv i.imm 65536))), .int .u8 (IntKind.wrap .u8 (IntKind.wrap .u32 (Int.tdiv i.imm 16777216)))] _ (by kernel_rfl) (by kernel_rfl) (by kernel_rfl) rfl (by kernel_rfl) (by first | rfl | omega | assumption) (by first | omega | decide) (by kernel_rfl) rfl (by kernel_rfl) rfl (by rfl) (by omega) (by omega) (by omega) (by kernel_rfl) (fun g105 c106 r107 hc108 hr109 => ?_)
                          refine E.G.op (.slice (some ⟨g105, 0, none⟩) 5 c106) (fun w => by kernel_rfl) (by kernel_rfl) ?_
                          refine E.P.nb (E.To.code ?_)
                          refine E.C.weak [(2, .pointer (some ⟨g2, 0, none⟩)), (3, .slice (some ⟨g105, 0, none⟩) 5 c106)] [(g105, ([.int .u8 (IntKind.wrap .u8 i.op), .int .u8 (IntKind.wrap .u8 i.imm), .int .u8 (IntKind.wrap .u8 (IntKind.wrap .u32 (Int.tdiv i.imm 256))), .int .u8 (IntKind.wrap .u8 (IntKind.wrap .u32 (Int.tdiv i.imm 65536))), .int .u8 (IntKind.wrap .u8 (IntKind.wrap .u32 (Int.tdiv i.imm 16777216)))] ++ r107)), (g2, [.string (⟨#[]⟩ : ByteArray), .int .i64 0])] ⟨by kernel_rfl, by kernel_rfl⟩ (List.Sublist.cons_cons _ (List.Sublist.cons _ (List.Sublist.cons_cons _ (List.nil_sublist _)))) ?_
                          refine E.C.seq ?_
                          refine E.C.region ?_
                          refine E.G.op (.slice (some ⟨g105, 0, none⟩) 5 c106) (fun w => by kernel_rfl) (by kernel_rfl) ?_
                          refine E.G.val (.string (strOfNums [(IntKind.wrap .u8 i.op), (IntKind.wrap .u8 i.imm), (IntKind.wrap .u8 (IntKind.wrap .u32 (Int.tdiv i.imm 256))), (IntKind.wrap .u8 (IntKind.wrap .u32 (Int.tdiv i.imm 65536))), (IntKind.wrap .u8 (IntKind.wrap .u32 (Int.tdiv i.imm 16777216)))])) (by kernel_rfl) (fun w h => E.b2s h 0 g105 0 5 c106 [(IntKind.wrap .u8 i.op), (IntKind.wrap .u8 i.imm), (IntKind.wrap .u8 (IntKind.wrap .u32 (Int.tdiv i.imm 256))), (IntKind.wrap .u8 (IntKind.wrap .u32 (Int.tdiv i.imm 65536))), (IntKind.wrap .u8 (IntKind.wrap .u32 (Int.tdiv i.imm 16777216)))] (e := 5) (by kernel_rfl) (by kernel_rfl) (by kernel_rfl) (by kernel_rfl) rfl (by kernel_rfl) rfl) ?_
                          refine E.G.val (.agg #[.string (strOfNums [(IntKind.wrap .u8 i.op), (IntKind.wrap .u8 i.imm), (IntKind.wrap .u8 (IntKind.wrap .u32 (Int.tdiv i.imm 256))), (IntKind.wrap .u8 (IntKind.wrap .u32 (Int.tdiv i.imm 65536))), (IntKind.wrap .u8 (IntKind.wrap .u32 (Int.tdiv i.imm 16777216)))]), .int .i64 0]) (by kernel_rfl) (fun w h => E.run_build #[.string (strOfNums [(IntKind.wrap .u8 i.op), (IntKind.wrap .u8 i.imm), (IntKind.wrap .u8 (IntKind.wrap .u32 (Int.tdiv i.imm 256))), (IntKind.wrap .u8 (IntKind.wrap .u32 (Int.tdiv i.imm 65536))), (IntKind.wrap .u8 (IntKind.wrap .u32 (Int.tdiv i.imm 16777216)))]), .int .i64 0] (by kernel_rfl) w) ?_
                          refine E.G.store 1 [.string (strOfNums [(IntKind.wrap .u8 i.op), (IntKind.wrap .u8 i.imm), (IntKind.wrap .u8 (IntKind.wrap .u32 (Int.tdiv i.imm 256))), (IntKind.wrap .u8 (IntKind.wrap .u32 (Int.tdiv i.imm 65536))), (IntKind.wrap .u8 (IntKind.wrap .u32 (Int.tdiv i.imm 16777216)))]), .int .i64 0] rfl rfl (by kernel_rfl) (by kernel_rfl) ?_
                          refine E.To.code ?_
                          refine E.C.ret (E.To.body (fn := Try.f18) [.agg #[.string (strOfNums [(IntKind.wrap .u8 i.op), (IntKind.wrap .u8 i.imm), (IntKind.wrap .u8 (IntKind.wrap .u32 (Int.tdiv i.imm 256))), (IntKind.wrap .u8 (IntKind.wrap .u32 (Int.tdiv i.imm 65536))), (IntKind.wrap .u8 (IntKind.wrap .u32 (Int.tdiv i.imm 16777216)))]), .int .i64 0]] ?_ ?_)
                          · exact ⟨⟨by kernel_rfl, _, _, 1, _, rfl, rfl, by kernel_rfl⟩, trivial⟩
                          · intro w h
                            exact ⟨by show Ending.returned (.agg #[.string (strOfNums [(IntKind.wrap .u8 i.op), (IntKind.wrap .u8 i.imm), (IntKind.wrap .u8 (IntKind.wrap .u32 (Int.tdiv i.imm 256))), (IntKind.wrap .u8 (IntKind.wrap .u32 (Int.tdiv i.imm 65536))), (IntKind.wrap .u8 (IntKind.wrap .u32 (Int.tdiv i.imm 16777216)))]), .int .i64 0]) = _; unfold R2.Encode; rw [hc3, cond_false, hc5, cond_false, hc12, cond_false, hc20, cond_false, hc28, cond_false, hc35, cond_false, hc42, cond_false, hc55, cond_false, hc62, cond_false, hc88, cond_false, hc96, cond_false, hc103, cond_true], h.ch.bel (fun _ h => h.elim)⟩
                        · skip
                          refine E.C.skip (E.P.nb (E.To.code ?_))
                          refine E.C.seq ?_
                          refine E.C.region ?_
                          refine E.G.op (.slice (some ⟨g4, 0, none⟩) 1 1) (fun w => by kernel_rfl) (by kernel_rfl) ?_
                          refine E.G.val (.string (strOfNums [(IntKind.wrap .u8 i.op)])) (by kernel_rfl) (fun w h => E.b2s h 0 g4 0 1 1 [(IntKind.wrap .u8 i.op)] (e := 5) (by kernel_rfl) (by kernel_rfl) (by kernel_rfl) (by kernel_rfl) rfl (by kernel_rfl) rfl) ?_
                          refine E.G.val (.agg #[.string (strOfNums [(IntKind.wrap .u8 i.op)]), .int .i64 0]) (by kernel_rfl) (fun w h => E.run_build #[.string (strOfNums [(IntKind.wrap .u8 i.op)]), .int .i64 0] (by kernel_rfl) w) ?_
                          refine E.G.store 1 [.string (strOfNums [(IntKind.wrap .u8 i.op)]), .int .i64 0] rfl rfl (by kernel_rfl) (by kernel_rfl) ?_
                          refine E.To.code ?_
                          refine E.C.weak [(2, .pointer (some ⟨g2, 0, none⟩))] [(g2, [.string (strOfNums [(IntKind.wrap .u8 i.op)]), .int .i64 0])] ⟨by kernel_rfl, by kernel_rfl⟩ (List.Sublist.cons _ (List.Sublist.cons_cons _ (List.nil_sublist _))) ?_
                          refine E.C.ret (E.To.body (fn := Try.f18) [.agg #[.string (strOfNums [(IntKind.wrap .u8 i.op)]), .int .i64 0]] ?_ ?_)
                          · exact ⟨⟨by kernel_rfl, _, _, 0, _, rfl, rfl, by kernel_rfl⟩, trivial⟩
                          · intro w h
                            exact ⟨by show Ending.returned (.agg #[.string (strOfNums [(IntKind.wrap .u8 i.op)]), .int .i64 0]) = _; unfold R2.Encode; rw [hc3, cond_false, hc5, cond_false, hc12, cond_false, hc20, cond_false, hc28, cond_false, hc35, cond_false, hc42, cond_false, hc55, cond_false, hc62, cond_false, hc88, cond_false, hc96, cond_false, hc103, cond_false], h.ch.bel (fun _ h => h.elim)⟩
end Go.Proofs.Ytgnekniabedomaa
