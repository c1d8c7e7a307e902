/- Walks: the law KcodePrefix, printed by wip/eng. No condition but what is named. -/
import Derived.Test.YtgnekniabedomaaProg
import Derived.Test.YtgnekniabedomaaLc
namespace Go.Proofs.Ytgnekniabedomaa
set_option linter.unusedVariables false
set_option linter.unusedSimpArgs false
open Go.RowKit
def K.prefixC (a b c x y : Int) (k : Nat) : Bool := ((((R2.Decode ((K.bytes ((R2.Made a b c x y))).extract 0 (((k : Nat) : Int)).toNat)).2) != 10) || (!(((((R2.Decode ((K.bytes ((R2.Made a b c x y))).extract 0 (((k : Nat) : Int)).toNat)).1)).op == 0) && ((((R2.Decode ((K.bytes ((R2.Made a b c x y))).extract 0 (((k : Nat) : Int)).toNat)).1)).d == 0) && ((((R2.Decode ((K.bytes ((R2.Made a b c x y))).extract 0 (((k : Nat) : Int)).toNat)).1)).s == 0) && ((((R2.Decode ((K.bytes ((R2.Made a b c x y))).extract 0 (((k : Nat) : Int)).toNat)).1)).ix == 0) && ((((R2.Decode ((K.bytes ((R2.Made a b c x y))).extract 0 (((k : Nat) : Int)).toNat)).1)).sc == 0) && ((((R2.Decode ((K.bytes ((R2.Made a b c x y))).extract 0 (((k : Nat) : Int)).toNat)).1)).imm == 0) && ((((R2.Decode ((K.bytes ((R2.Made a b c x y))).extract 0 (((k : Nat) : Int)).toNat)).1)).sz == 0))))
def K.prefixE (a b c x y a2 b2 c2 x2 y2 : Int) : Bool := (((((K.bytes ((R2.Made a b c x y))).size : Nat) : Int) == (((K.bytes ((R2.Made a2 b2 c2 x2 y2))).size : Nat) : Int)) || (!(((K.bytes ((R2.Made a b c x y))).extract 0 ((K.mn (((K.bytes ((R2.Made a b c x y))).size : Nat) : Int) (((K.bytes ((R2.Made a2 b2 c2 x2 y2))).size : Nat) : Int))).toNat).toList == ((K.bytes ((R2.Made a2 b2 c2 x2 y2))).extract 0 ((K.mn (((K.bytes ((R2.Made a b c x y))).size : Nat) : Int) (((K.bytes ((R2.Made a2 b2 c2 x2 y2))).size : Nat) : Int))).toNat).toList)))
theorem K.ext_full (s : ByteArray) : s.extract 0 s.size = s := by
  apply ByteArray.ext; simp [ByteArray.data_extract]
theorem K.str_eq {s t : ByteArray} (h : (s.toList == t.toList) = true) : s = t := by
  have h1 : s.toList = t.toList := by simpa using h
  rw [ByteArray.toList_eq, ByteArray.toList_eq] at h1
  exact ByteArray.ext (Array.toList_inj.1 h1)
theorem K.prefixC_false (a b c x y : Int) (k : Nat) (h : k < (K.bytes (R2.Made a b c x y)).size) : K.prefixC a b c x y k = false := by
  unfold K.prefixC
  have e := K.dec_prefix (K.made_good a b c x y) k h
  rw [Int.toNat_natCast, e]; rfl
theorem K.no_prefix {i j : K.Ins} (hi : K.Good i) (hj : K.Good j) (h : (K.bytes i).size < (K.bytes j).size) : (K.bytes j).extract 0 (K.bytes i).size ≠ K.bytes i := by
  intro e
  have h1 := K.dec_prefix hj (K.bytes i).size h
  rw [e, K.dec_bytes hi] at h1
  exact absurd (congrArg Prod.snd h1) (by simp)
theorem K.prefixE_true (a b c x y a2 b2 c2 x2 y2 : Int) : K.prefixE a b c x y a2 b2 c2 x2 y2 = true := by
  have h1 := K.made_good a b c x y
  have h2 := K.made_good a2 b2 c2 x2 y2
  unfold K.prefixE
  generalize R2.Made a b c x y = i at *
  generalize R2.Made a2 b2 c2 x2 y2 = j at *
  rw [Bool.or_eq_true]
  by_cases hz : (K.bytes i).size = (K.bytes j).size
  · left; simp [hz]
  · right
    rw [Bool.not_eq_true', Bool.eq_false_iff]
    intro he
    have he := K.str_eq he
    rcases Nat.lt_or_gt_of_ne hz with hl | hl
    · have em : (K.mn ((K.bytes i).size : Int) ((K.bytes j).size : Int)).toNat = (K.bytes i).size := by rw [K.mn_eq]; omega
      rw [em, K.ext_full] at he
      exact K.no_prefix h1 h2 hl he.symm
    · have em : (K.mn ((K.bytes i).size : Int) ((K.bytes j).size : Int)).toNat = (K.bytes j).size := by rw [K.mn_eq]; omega
      rw [em, K.ext_full] at he
      exact K.no_prefix h2 h1 hl he
theorem KcodePrefix_law (a b c x y : Int) (a2 b2 c2 x2 y2 : Int)  (w : World) : Calls Try.prog 7 #[.agg #[.int .i64 a, .int .i64 b, .int .i64 c, .int .i64 x, .int .i64 y], .agg #[.int .i64 a2, .int .i64 b2, .int .i64 c2, .int .i64 x2, .int .i64 y2]] w fun e w' => e = .returned (.bool true) ∧ Bel w w' := by
  have hz := K.bytes_len (K.made_good a b c x y)
  have hz2 := K.bytes_len (K.made_good a2 b2 c2 x2 y2)
  refine E.enter (n := 77) (S := fun _ => False) Try.func7 rfl rfl (by kernel_rfl) (E.Hp.start w) ?_
  refine E.C.seq ?_
  refine E.C.region ?_
  refine E.G.new (fun g => .pointer (some ⟨g, 0, none⟩)) [.int .i64 a, .int .i64 b, .int .i64 c, .int .i64 x, .int .i64 y] 35 (fun w => by kernel_rfl) (by kernel_rfl) (fun g1 => ?_)
  refine E.G.new (fun g => .pointer (some ⟨g, 0, none⟩)) [.int .i64 a2, .int .i64 b2, .int .i64 c2, .int .i64 x2, .int .i64 y2] 35 (fun w => by kernel_rfl) (by kernel_rfl) (fun g2 => ?_)
  refine E.G.op (.bool false) (fun w => by kernel_rfl) (by kernel_rfl) ?_
  refine E.To.code ?_
  refine E.C.seq ?_
  refine E.C.region ?_
  refine E.G.call (.bool true) (fun w h => sanity_ok w) (fun w _ => by kernel_rfl) (by kernel_rfl) ?_
  refine E.G.op (.bool true) (fun w => by kernel_rfl) (by kernel_rfl) ?_
  refine E.To.code ?_
  refine E.C.seq ?_
  refine E.C.region ?_
  refine E.G.val (.agg #[.int .i64 a, .int .i64 b, .int .i64 c, .int .i64 x, .int .i64 y]) (by kernel_rfl) (fun w h => E.run_load h 1 rfl rfl (by kernel_rfl)) ?_
  refine E.G.call (.agg #[.int .i64 (((R2.Made a b c x y)).op), .int .i64 (((R2.Made a b c x y)).d), .int .i64 (((R2.Made a b c x y)).s), .int .i64 (((R2.Made a b c x y)).ix), .int .i64 (((R2.Made a b c x y)).sc), .int .u32 (((R2.Made a b c x y)).imm), .int .i64 (((R2.Made a b c x y)).sz)]) (fun w h => R2_Made a b c x y w) (fun w _ => by kernel_rfl) (by kernel_rfl) ?_
  refine E.G.call (.tuple #[.string (K.bytes ((R2.Made a b c x y))), .int .i64 0]) (fun w h => Encode_g ((R2.Made a b c x y)) (K.made_good _ _ _ _ _) w) (fun w _ => by kernel_rfl) (by kernel_rfl) ?_
  refine E.G.op (.tuple #[.string (K.bytes ((R2.Made a b c x y))), .int .i64 0]) (fun w => by kernel_rfl) (by kernel_rfl) ?_
  refine E.G.op (.string (K.bytes ((R2.Made a b c x y)))) (fun w => by kernel_rfl) (by kernel_rfl) ?_
  refine E.G.op (.int .i64 0) (fun w => by kernel_rfl) (by kernel_rfl) ?_
  refine E.G.op (.string (K.bytes ((R2.Made a b c x y)))) (fun w => by kernel_rfl) (by kernel_rfl) ?_
  refine E.G.op (.int .i64 0) (fun w => by kernel_rfl) (by kernel_rfl) ?_
  refine E.To.code ?_
  refine E.C.weak [(3, .pointer (some ⟨g2, 0, none⟩)), (4, .bool false), (5, .bool true), (6, .string (K.bytes ((R2.Made a b c x y)))), (7, .int .i64 0)] [(g2, [.int .i64 a2, .int .i64 b2, .int .i64 c2, .int .i64 x2, .int .i64 y2])] ⟨by kernel_rfl, by kernel_rfl⟩ (List.Sublist.cons_cons _ (List.nil_sublist _)) ?_
  refine E.C.seq ?_
  refine E.C.region ?_
  refine E.G.val (.agg #[.int .i64 a2, .int .i64 b2, .int .i64 c2, .int .i64 x2, .int .i64 y2]) (by kernel_rfl) (fun w h => E.run_load h 0 rfl rfl (by kernel_rfl)) ?_
  refine E.G.call (.agg #[.int .i64 (((R2.Made a2 b2 c2 x2 y2)).op), .int .i64 (((R2.Made a2 b2 c2 x2 y2)).d), .int .i64 (((R2.Made a2 b2 c2 x2 y2)).s), .int .i64 (((R2.Made a2 b2 c2 x2 y2)).ix), .int .i64 (((R2.Made a2 b2 c2 x2 y2)).sc), .int .u32 (((R2.Made a2 b2 c2 x2 y2)).imm), .int .i64 (((R2.Made a2 b2 c2 x2 y2)).sz)]) (fun w h => R2_Made a2 b2 c2 x2 y2 w) (fun w _ => by kernel_rfl) (by kernel_rfl) ?_
  refine E.G.call (.tuple #[.string (K.bytes ((R2.Made a2 b2 c2 x2 y2))), .int .i64 0]) (fun w h => Encode_g ((R2.Made a2 b2 c2 x2 y2)) (K.made_good _ _ _ _ _) w) (fun w _ => by kernel_rfl) (by kernel_rfl) ?_
  refine E.G.op (.tuple #[.string (K.bytes ((R2.Made a2 b2 c2 x2 y2))), .int .i64 0]) (fun w => by kernel_rfl) (by kernel_rfl) ?_
  refine E.G.op (.string (K.bytes ((R2.Made a2 b2 c2 x2 y2)))) (fun w => by kernel_rfl) (by kernel_rfl) ?_
  refine E.G.op (.int .i64 0) (fun w => by kernel_rfl) (by kernel_rfl) ?_
  refine E.G.op (.string (K.bytes ((R2.Made a2 b2 c2 x2 y2)))) (fun w => by kernel_rfl) (by kernel_rfl) ?_
  refine E.G.op (.int .i64 0) (fun w => by kernel_rfl) (by kernel_rfl) ?_
  refine E.To.code ?_
  refine E.C.seq ?_
  refine E.C.seq ?_
  refine E.C.region ?_
  refine E.G.op (.int .i64 0) (fun w => by kernel_rfl) (by kernel_rfl) ?_
  refine E.To.code ?_
  refine E.C.block ?_
  refine E.C.loop (I := Nat) (fun k => (K.bytes (R2.Made a b c x y)).size - k) (fun k => k ≤ (K.bytes (R2.Made a b c x y)).size) (fun k => [(4, .bool false), (5, .bool true), (6, .string (K.bytes ((R2.Made a b c x y)))), (7, .int .i64 0), (8, .string (K.bytes ((R2.Made a2 b2 c2 x2 y2)))), (9, .int .i64 0), (10, .int .i64 ((k : Nat) : Int))]) (fun _ => fun _ => True) (fun _ => []) 0 (Nat.zero_le _) ⟨by kernel_rfl, by kernel_rfl⟩ (List.nil_sublist _) (fun _ h => h) (fun k hk1 => ?_)
  refine E.C.seq ?_
  refine E.C.seq ?_
  refine E.C.region ?_
  refine E.G.op (.int .i64 ((k : Nat) : Int)) (fun w => by kernel_rfl) (by kernel_rfl) ?_
  refine E.G.op (.string (K.bytes ((R2.Made a b c x y)))) (fun w => by kernel_rfl) (by kernel_rfl) ?_
  refine E.G.op (.int .i64 (((K.bytes ((R2.Made a b c x y))).size : Nat) : Int)) (fun w => by kernel_rfl) (by kernel_rfl) ?_
  refine E.G.op (.bool (decide (((k : Nat) : Int) < (((K.bytes ((R2.Made a b c x y))).size : Nat) : Int)))) (fun w => by kernel_rfl) (by kernel_rfl) ?_
  refine E.To.code ?_
  refine E.C.cond (decide (((k : Nat) : Int) < (((K.bytes ((R2.Made a b c x y))).size : Nat) : Int))) (by kernel_rfl) (by kernel_rfl) (fun hc3 => ?_) (fun hc3 => ?_)
  · skip
    refine E.C.skip (E.To.code ?_)
    refine E.C.seq ?_
    refine E.C.block ?_
    refine E.C.seq ?_
    refine E.C.region ?_
    refine E.G.op (.string (K.bytes ((R2.Made a b c x y)))) (fun w => by kernel_rfl) (by kernel_rfl) ?_
    refine E.G.op (.int .i64 ((k : Nat) : Int)) (fun w => by kernel_rfl) (by kernel_rfl) ?_
    refine E.G.val (.string ((K.bytes ((R2.Made a b c x y))).extract 0 (((k : Nat) : Int)).toNat)) (by kernel_rfl) (fun w h => E.slTo (K.bytes ((R2.Made a b c x y))) .i64 ((k : Nat) : Int) (by kernel_rfl) (by kernel_rfl) (by kernel_rfl) (by first | (have := K.mn_le; (try simp only [K.mn_eq] at *); (try simp only [beq_iff_eq, bne_iff_ne, ne_eq, Bool.or_eq_true, Bool.and_eq_true, beq_eq_false_iff_ne, decide_eq_true_eq, decide_eq_false_iff_not, Bool.or_eq_false_iff, Bool.not_eq_true, gt_iff_lt] at *); omega) | ((try simp only [K.mn_eq] at *); (try simp only [beq_iff_eq, bne_iff_ne, ne_eq, Bool.or_eq_true, Bool.and_eq_true, beq_eq_false_iff_ne, decide_eq_true_eq, decide_eq_false_iff_not, Bool.or_eq_false_iff, Bool.not_eq_true, gt_iff_lt] at *); omega)) (by first | (have := K.mn_le; (try simp only [K.mn_eq] at *); (try simp only [beq_iff_eq, bne_iff_ne, ne_eq, Bool.or_eq_true, Bool.and_eq_true, beq_eq_false_iff_ne, decide_eq_true_eq, decide_eq_false_iff_not, Bool.or_eq_false_iff, Bool.not_eq_true, gt_iff_lt] at *); omega) | ((try simp only [K.mn_eq] at *); (try simp only [beq_iff_eq, bne_iff_ne, ne_eq, Bool.or_eq_true, Bool.and_eq_true, beq_eq_false_iff_ne, decide_eq_true_eq, decide_eq_false_iff_not, Bool.or_eq_false_iff, Bool.not_eq_true, gt_iff_lt] at *); omega)) w) ?_
    refine E.G.call (.tuple #[.agg #[.int .i64 ((((R2.Decode ((K.bytes ((R2.Made a b c x y))).extract 0 (((k : Nat) : Int)).toNat)).1)).op), .int .i64 ((((R2.Decode ((K.bytes ((R2.Made a b c x y))).extract 0 (((k : Nat) : Int)).toNat)).1)).d), .int .i64 ((((R2.Decode ((K.bytes ((R2.Made a b c x y))).extract 0 (((k : Nat) : Int)).toNat)).1)).s), .int .i64 ((((R2.Decode ((K.bytes ((R2.Made a b c x y))).extract 0 (((k : Nat) : Int)).toNat)).1)).ix), .int .i64 ((((R2.Decode ((K.bytes ((R2.Made a b c x y))).extract 0 (((k : Nat) : Int)).toNat)).1)).sc), .int .u32 ((((R2.Decode ((K.bytes ((R2.Made a b c x y))).extract 0 (((k : Nat) : Int)).toNat)).1)).imm), .int .i64 ((((R2.Decode ((K.bytes ((R2.Made a b c x y))).extract 0 (((k : Nat) : Int)).toNat)).1)).sz)], .int .i64 ((R2.Decode ((K.bytes ((R2.Made a b c x y))).extract 0 (((k : Nat) : Int)).toNat)).2)]) (fun w h => Decode_r ((K.bytes ((R2.Made a b c x y))).extract 0 (((k : Nat) : Int)).toNat) (by (first | assumption | decide | ((try simp only [ByteArray.size_append, ByteArray.size_extract, strOfNums_size, List.length_cons, List.length_nil, K.mn_eq] at *); unfold maxLen at *; omega) | ((try simp only [ByteArray.size_append, ByteArray.size_extract, strOfNums_size, List.length_cons, List.length_nil, K.mn_eq] at *); omega))) w) (fun w _ => by kernel_rfl) (by kernel_rfl) ?_
    refine E.G.op (.tuple #[.agg #[.int .i64 ((((R2.Decode ((K.bytes ((R2.Made a b c x y))).extract 0 (((k : Nat) : Int)).toNat)).1)).op), .int .i64 ((((R2.Decode ((K.bytes ((R2.Made a b c x y))).extract 0 (((k : Nat) : Int)).toNat)).1)).d), .int .i64 ((((R2.Decode ((K.bytes ((R2.Made a b c x y))).extract 0 (((k : Nat) : Int)).toNat)).1)).s), .int .i64 ((((R2.Decode ((K.bytes ((R2.Made a b c x y))).extract 0 (((k : Nat) : Int)).toNat)).1)).ix), .int .i64 ((((R2.Decode ((K.bytes ((R2.Made a b c x y))).extract 0 (((k : Nat) : Int)).toNat)).1)).sc), .int .u32 ((((R2.Decode ((K.bytes ((R2.Made a b c x y))).extract 0 (((k : Nat) : Int)).toNat)).1)).imm), .int .i64 ((((R2.Decode ((K.bytes ((R2.Made a b c x y))).extract 0 (((k : Nat) : Int)).toNat)).1)).sz)], .int .i64 ((R2.Decode ((K.bytes ((R2.Made a b c x y))).extract 0 (((k : Nat) : Int)).toNat)).2)]) (fun w => by kernel_rfl) (by kernel_rfl) ?_
    refine E.G.op (.agg #[.int .i64 ((((R2.Decode ((K.bytes ((R2.Made a b c x y))).extract 0 (((k : Nat) : Int)).toNat)).1)).op), .int .i64 ((((R2.Decode ((K.bytes ((R2.Made a b c x y))).extract 0 (((k : Nat) : Int)).toNat)).1)).d), .int .i64 ((((R2.Decode ((K.bytes ((R2.Made a b c x y))).extract 0 (((k : Nat) : Int)).toNat)).1)).s), .int .i64 ((((R2.Decode ((K.bytes ((R2.Made a b c x y))).extract 0 (((k : Nat) : Int)).toNat)).1)).ix), .int .i64 ((((R2.Decode ((K.bytes ((R2.Made a b c x y))).extract 0 (((k : Nat) : Int)).toNat)).1)).sc), .int .u32 ((((R2.Decode ((K.bytes ((R2.Made a b c x y))).extract 0 (((k : Nat) : Int)).toNat)).1)).imm), .int .i64 ((((R2.Decode ((K.bytes ((R2.Made a b c x y))).extract 0 (((k : Nat) : Int)).toNat)).1)).sz)]) (fun w => by kernel_rfl) (by kernel_rfl) ?_
    refine E.G.op (.int .i64 ((R2.Decode ((K.bytes ((R2.Made a b c x y))).extract 0 (((k : Nat) : Int)).toNat)).2)) (fun w => by kernel_rfl) (by kernel_rfl) ?_
    refine E.G.new (fun g => .pointer (some ⟨g, 0, none⟩)) [.int .i64 0, .int .i64 0, .int .i64 0, .int .i64 0, .int .i64 0, .int .u32 0, .int .i64 0] 27 (fun w => by kernel_rfl) (by kernel_rfl) (fun g4 => ?_)
    refine E.G.store 0 [.int .i64 ((((R2.Decode ((K.bytes ((R2.Made a b c x y))).extract 0 (((k : Nat) : Int)).toNat)).1)).op), .int .i64 ((((R2.Decode ((K.bytes ((R2.Made a b c x y))).extract 0 (((k : Nat) : Int)).toNat)).1)).d), .int .i64 ((((R2.Decode ((K.bytes ((R2.Made a b c x y))).extract 0 (((k : Nat) : Int)).toNat)).1)).s), .int .i64 ((((R2.Decode ((K.bytes ((R2.Made a b c x y))).extract 0 (((k : Nat) : Int)).toNat)).1)).ix), .int .i64 ((((R2.Decode ((K.bytes ((R2.Made a b c x y))).extract 0 (((k : Nat) : Int)).toNat)).1)).sc), .int .u32 ((((R2.Decode ((K.bytes ((R2.Made a b c x y))).extract 0 (((k : Nat) : Int)).toNat)).1)).imm), .int .i64 ((((R2.Decode ((K.bytes ((R2.Made a b c x y))).extract 0 (((k : Nat) : Int)).toNat)).1)).sz)] rfl rfl (by kernel_rfl) (by kernel_rfl) ?_
    refine E.G.op (.int .i64 ((R2.Decode ((K.bytes ((R2.Made a b c x y))).extract 0 (((k : Nat) : Int)).toNat)).2)) (fun w => by kernel_rfl) (by kernel_rfl) ?_
    refine E.To.code ?_
    refine E.C.seq ?_
    refine E.C.region ?_
    refine E.G.op (.int .i64 ((R2.Decode ((K.bytes ((R2.Made a b c x y))).extract 0 (((k : Nat) : Int)).toNat)).2)) (fun w => by kernel_rfl) (by kernel_rfl) ?_
    refine E.G.op (.bool (((R2.Decode ((K.bytes ((R2.Made a b c x y))).extract 0 (((k : Nat) : Int)).toNat)).2) != 10)) (fun w => by kernel_rfl) (by kernel_rfl) ?_
    refine E.G.op (.bool (((R2.Decode ((K.bytes ((R2.Made a b c x y))).extract 0 (((k : Nat) : Int)).toNat)).2) != 10)) (fun w => by kernel_rfl) (by kernel_rfl) ?_
    refine E.G.cut 4 [(4, .bool false), (5, .bool true), (6, .string (K.bytes ((R2.Made a b c x y)))), (7, .int .i64 0), (8, .string (K.bytes ((R2.Made a2 b2 c2 x2 y2)))), (9, .int .i64 0), (10, .int .i64 ((k : Nat) : Int)), (11, .pointer (some ⟨g4, 0, none⟩)), (12, .int .i64 ((R2.Decode ((K.bytes ((R2.Made a b c x y))).extract 0 (((k : Nat) : Int)).toNat)).2)), (27, .int .i64 ((k : Nat) : Int)), (28, .string (K.bytes ((R2.Made a b c x y)))), (29, .int .i64 (((K.bytes ((R2.Made a b c x y))).size : Nat) : Int)), (30, .bool (decide (((k : Nat) : Int) < (((K.bytes ((R2.Made a b c x y))).size : Nat) : Int)))), (33, .tuple #[.agg #[.int .i64 ((((R2.Decode ((K.bytes ((R2.Made a b c x y))).extract 0 (((k : Nat) : Int)).toNat)).1)).op), .int .i64 ((((R2.Decode ((K.bytes ((R2.Made a b c x y))).extract 0 (((k : Nat) : Int)).toNat)).1)).d), .int .i64 ((((R2.Decode ((K.bytes ((R2.Made a b c x y))).extract 0 (((k : Nat) : Int)).toNat)).1)).s), .int .i64 ((((R2.Decode ((K.bytes ((R2.Made a b c x y))).extract 0 (((k : Nat) : Int)).toNat)).1)).ix), .int .i64 ((((R2.Decode ((K.bytes ((R2.Made a b c x y))).extract 0 (((k : Nat) : Int)).toNat)).1)).sc), .int .u32 ((((R2.Decode ((K.bytes ((R2.Made a b c x y))).extract 0 (((k : Nat) : Int)).toNat)).1)).imm), .int .i64 ((((R2.Decode ((K.bytes ((R2.Made a b c x y))).extract 0 (((k : Nat) : Int)).toNat)).1)).sz)], .int .i64 ((R2.Decode ((K.bytes ((R2.Made a b c x y))).extract 0 (((k : Nat) : Int)).toNat)).2)]), (34, .string (K.bytes ((R2.Made a b c x y)))), (35, .int .i64 ((k : Nat) : Int)), (36, .string ((K.bytes ((R2.Made a b c x y))).extract 0 (((k : Nat) : Int)).toNat)), (37, .tuple #[.agg #[.int .i64 ((((R2.Decode ((K.bytes ((R2.Made a b c x y))).extract 0 (((k : Nat) : Int)).toNat)).1)).op), .int .i64 ((((R2.Decode ((K.bytes ((R2.Made a b c x y))).extract 0 (((k : Nat) : Int)).toNat)).1)).d), .int .i64 ((((R2.Decode ((K.bytes ((R2.Made a b c x y))).extract 0 (((k : Nat) : Int)).toNat)).1)).s), .int .i64 ((((R2.Decode ((K.bytes ((R2.Made a b c x y))).extract 0 (((k : Nat) : Int)).toNat)).1)).ix), .int .i64 ((((R2.Decode ((K.bytes ((R2.Made a b c x y))).extract 0 (((k : Nat) : Int)).toNat)).1)).sc), .int .u32 ((((R2.Decode ((K.bytes ((R2.Made a b c x y))).extract 0 (((k : Nat) : Int)).toNat)).1)).imm), .int .i64 ((((R2.Decode ((K.bytes ((R2.Made a b c x y))).extract 0 (((k : Nat) : Int)).toNat)).1)).sz)], .int .i64 ((R2.Decode ((K.bytes ((R2.Made a b c x y))).extract 0 (((k : Nat) : Int)).toNat)).2)]), (38, .agg #[.int .i64 ((((R2.Decode ((K.bytes ((R2.Made a b c x y))).extract 0 (((k : Nat) : Int)).toNat)).1)).op), .int .i64 ((((R2.Decode ((K.bytes ((R2.Made a b c x y))).extract 0 (((k : Nat) : Int)).toNat)).1)).d), .int .i64 ((((R2.Decode ((K.bytes ((R2.Made a b c x y))).extract 0 (((k : Nat) : Int)).toNat)).1)).s), .int .i64 ((((R2.Decode ((K.bytes ((R2.Made a b c x y))).extract 0 (((k : Nat) : Int)).toNat)).1)).ix), .int .i64 ((((R2.Decode ((K.bytes ((R2.Made a b c x y))).extract 0 (((k : Nat) : Int)).toNat)).1)).sc), .int .u32 ((((R2.Decode ((K.bytes ((R2.Made a b c x y))).extract 0 (((k : Nat) : Int)).toNat)).1)).imm), .int .i64 ((((R2.Decode ((K.bytes ((R2.Made a b c x y))).extract 0 (((k : Nat) : Int)).toNat)).1)).sz)]), (39, .int .i64 ((R2.Decode ((K.bytes ((R2.Made a b c x y))).extract 0 (((k : Nat) : Int)).toNat)).2)), (40, .int .i64 ((R2.Decode ((K.bytes ((R2.Made a b c x y))).extract 0 (((k : Nat) : Int)).toNat)).2)), (41, .bool (((R2.Decode ((K.bytes ((R2.Made a b c x y))).extract 0 (((k : Nat) : Int)).toNat)).2) != 10)), (42, .bool (((R2.Decode ((K.bytes ((R2.Made a b c x y))).extract 0 (((k : Nat) : Int)).toNat)).2) != 10)), (46, .bool ((((R2.Decode ((K.bytes ((R2.Made a b c x y))).extract 0 (((k : Nat) : Int)).toNat)).2) != 10) || (!(((((R2.Decode ((K.bytes ((R2.Made a b c x y))).extract 0 (((k : Nat) : Int)).toNat)).1)).op == 0) && ((((R2.Decode ((K.bytes ((R2.Made a b c x y))).extract 0 (((k : Nat) : Int)).toNat)).1)).d == 0) && ((((R2.Decode ((K.bytes ((R2.Made a b c x y))).extract 0 (((k : Nat) : Int)).toNat)).1)).s == 0) && ((((R2.Decode ((K.bytes ((R2.Made a b c x y))).extract 0 (((k : Nat) : Int)).toNat)).1)).ix == 0) && ((((R2.Decode ((K.bytes ((R2.Made a b c x y))).extract 0 (((k : Nat) : Int)).toNat)).1)).sc == 0) && ((((R2.Decode ((K.bytes ((R2.Made a b c x y))).extract 0 (((k : Nat) : Int)).toNat)).1)).imm == 0) && ((((R2.Decode ((K.bytes ((R2.Made a b c x y))).extract 0 (((k : Nat) : Int)).toNat)).1)).sz == 0)))))] (fun _ => True) [(g4, [.int .i64 ((((R2.Decode ((K.bytes ((R2.Made a b c x y))).extract 0 (((k : Nat) : Int)).toNat)).1)).op), .int .i64 ((((R2.Decode ((K.bytes ((R2.Made a b c x y))).extract 0 (((k : Nat) : Int)).toNat)).1)).d), .int .i64 ((((R2.Decode ((K.bytes ((R2.Made a b c x y))).extract 0 (((k : Nat) : Int)).toNat)).1)).s), .int .i64 ((((R2.Decode ((K.bytes ((R2.Made a b c x y))).extract 0 (((k : Nat) : Int)).toNat)).1)).ix), .int .i64 ((((R2.Decode ((K.bytes ((R2.Made a b c x y))).extract 0 (((k : Nat) : Int)).toNat)).1)).sc), .int .u32 ((((R2.Decode ((K.bytes ((R2.Made a b c x y))).extract 0 (((k : Nat) : Int)).toNat)).1)).imm), .int .i64 ((((R2.Decode ((K.bytes ((R2.Made a b c x y))).extract 0 (((k : Nat) : Int)).toNat)).1)).sz)])] ?_ ?_
    · generalize hc5 : (((R2.Decode ((K.bytes ((R2.Made a b c x y))).extract 0 (((k : Nat) : Int)).toNat)).2) != 10) = b6
      cases b6
      · skip
        refine E.G.val (.agg #[.int .i64 ((((R2.Decode ((K.bytes ((R2.Made a b c x y))).extract 0 (((k : Nat) : Int)).toNat)).1)).op), .int .i64 ((((R2.Decode ((K.bytes ((R2.Made a b c x y))).extract 0 (((k : Nat) : Int)).toNat)).1)).d), .int .i64 ((((R2.Decode ((K.bytes ((R2.Made a b c x y))).extract 0 (((k : Nat) : Int)).toNat)).1)).s), .int .i64 ((((R2.Decode ((K.bytes ((R2.Made a b c x y))).extract 0 (((k : Nat) : Int)).toNat)).1)).ix), .int .i64 ((((R2.Decode ((K.bytes ((R2.Made a b c x y))).extract 0 (((k : Nat) : Int)).toNat)).1)).sc), .int .u32 ((((R2.Decode ((K.bytes ((R2.Made a b c x y))).extract 0 (((k : Nat) : Int)).toNat)).1)).imm), .int .i64 ((((R2.Decode ((K.bytes ((R2.Made a b c x y))).extract 0 (((k : Nat) : Int)).toNat)).1)).sz)]) (by kernel_rfl) (fun w h => E.run_load h 0 rfl rfl (by kernel_rfl)) ?_
        refine E.G.val (.agg #[.int .i64 0, .int .i64 0, .int .i64 0, .int .i64 0, .int .i64 0, .int .u32 0, .int .i64 0]) (by kernel_rfl) (fun w h => E.run_build #[.int .i64 0, .int .i64 0, .int .i64 0, .int .i64 0, .int .i64 0, .int .u32 0, .int .i64 0] (by kernel_rfl) w) ?_
        refine E.G.val (.bool (!(((((R2.Decode ((K.bytes ((R2.Made a b c x y))).extract 0 (((k : Nat) : Int)).toNat)).1)).op == 0) && ((((R2.Decode ((K.bytes ((R2.Made a b c x y))).extract 0 (((k : Nat) : Int)).toNat)).1)).d == 0) && ((((R2.Decode ((K.bytes ((R2.Made a b c x y))).extract 0 (((k : Nat) : Int)).toNat)).1)).s == 0) && ((((R2.Decode ((K.bytes ((R2.Made a b c x y))).extract 0 (((k : Nat) : Int)).toNat)).1)).ix == 0) && ((((R2.Decode ((K.bytes ((R2.Made a b c x y))).extract 0 (((k : Nat) : Int)).toNat)).1)).sc == 0) && ((((R2.Decode ((K.bytes ((R2.Made a b c x y))).extract 0 (((k : Nat) : Int)).toNat)).1)).imm == 0) && ((((R2.Decode ((K.bytes ((R2.Made a b c x y))).extract 0 (((k : Nat) : Int)).toNat)).1)).sz == 0)))) (by kernel_rfl) (fun w h => E.api_KIns_neq (by kernel_rfl) (by kernel_rfl)) ?_
        refine E.G.op (.bool (!(((((R2.Decode ((K.bytes ((R2.Made a b c x y))).extract 0 (((k : Nat) : Int)).toNat)).1)).op == 0) && ((((R2.Decode ((K.bytes ((R2.Made a b c x y))).extract 0 (((k : Nat) : Int)).toNat)).1)).d == 0) && ((((R2.Decode ((K.bytes ((R2.Made a b c x y))).extract 0 (((k : Nat) : Int)).toNat)).1)).s == 0) && ((((R2.Decode ((K.bytes ((R2.Made a b c x y))).extract 0 (((k : Nat) : Int)).toNat)).1)).ix == 0) && ((((R2.Decode ((K.bytes ((R2.Made a b c x y))).extract 0 (((k : Nat) : Int)).toNat)).1)).sc == 0) && ((((R2.Decode ((K.bytes ((R2.Made a b c x y))).extract 0 (((k : Nat) : Int)).toNat)).1)).imm == 0) && ((((R2.Decode ((K.bytes ((R2.Made a b c x y))).extract 0 (((k : Nat) : Int)).toNat)).1)).sz == 0)))) (fun w => by kernel_rfl) (by kernel_rfl) ?_
        exact E.G.end_pst ⟨by kernel_rfl, by kernel_rfl⟩ (List.Sublist.refl _) (fun _ h => h)
      · skip
        refine E.G.skip (by kernel_rfl) (by kernel_rfl) ?_
        refine E.G.skip (by kernel_rfl) (by kernel_rfl) ?_
        refine E.G.skip (by kernel_rfl) (by kernel_rfl) ?_
        refine E.G.op (.bool true) (fun w => by kernel_rfl) (by kernel_rfl) ?_
        exact E.G.end_pst ⟨by kernel_rfl, by kernel_rfl⟩ (List.Sublist.refl _) (fun _ h => h)
    refine E.To.code ?_
    refine E.C.cond ((((R2.Decode ((K.bytes ((R2.Made a b c x y))).extract 0 (((k : Nat) : Int)).toNat)).2) != 10) || (!(((((R2.Decode ((K.bytes ((R2.Made a b c x y))).extract 0 (((k : Nat) : Int)).toNat)).1)).op == 0) && ((((R2.Decode ((K.bytes ((R2.Made a b c x y))).extract 0 (((k : Nat) : Int)).toNat)).1)).d == 0) && ((((R2.Decode ((K.bytes ((R2.Made a b c x y))).extract 0 (((k : Nat) : Int)).toNat)).1)).s == 0) && ((((R2.Decode ((K.bytes ((R2.Made a b c x y))).extract 0 (((k : Nat) : Int)).toNat)).1)).ix == 0) && ((((R2.Decode ((K.bytes ((R2.Made a b c x y))).extract 0 (((k : Nat) : Int)).toNat)).1)).sc == 0) && ((((R2.Decode ((K.bytes ((R2.Made a b c x y))).extract 0 (((k : Nat) : Int)).toNat)).1)).imm == 0) && ((((R2.Decode ((K.bytes ((R2.Made a b c x y))).extract 0 (((k : Nat) : Int)).toNat)).1)).sz == 0)))) (by kernel_rfl) (by kernel_rfl) (fun hc7 => ?_) (fun hc7 => ?_)
    · skip
      refine E.C.seq ?_
      refine E.C.region ?_
      refine E.G.op (.bool false) (fun w => by kernel_rfl) (by kernel_rfl) ?_
      refine E.To.code ?_
      refine E.C.ret (E.P.rb (E.P.rt (E.P.rt (E.P.rb (E.P.rt (E.To.body (fn := Try.f7) [.bool false] ?_ ?_))))))
      · exact ⟨⟨by kernel_rfl, by kernel_rfl⟩, trivial⟩
      · intro w h
        exact absurd ((show K.prefixC a b c x y k = true from hc7).symm.trans (K.prefixC_false a b c x y k (by ((try simp only [Bool.and_eq_true, Bool.and_eq_false_iff, decide_eq_true_eq, decide_eq_false_iff_not] at *); omega)))) Bool.noConfusion
    · skip
      refine E.C.skip (E.P.nb (E.To.code ?_))
      refine E.C.region ?_
      refine E.G.op (.int .i64 ((k : Nat) : Int)) (fun w => by kernel_rfl) (by kernel_rfl) ?_
      refine E.G.val (.int .i64 ((k + 1 : Nat) : Int)) (by kernel_rfl) (fun w h => E.run_as (a := .int .i64 (IntKind.wrap .i64 (((k : Nat) : Int) + 1))) (by kernel_rfl) (by rw [K.w64 _ (by omega) (by omega)]; rfl)) ?_
      refine E.G.op (.int .i64 ((k + 1 : Nat) : Int)) (fun w => by kernel_rfl) (by kernel_rfl) ?_
      exact E.To.round (k + 1) (by simp only [decide_eq_true_eq] at *; omega) (by simp only [decide_eq_true_eq] at *; omega) ⟨by kernel_rfl, by kernel_rfl⟩ (List.nil_sublist _) (fun _ h => h)
  · skip
    refine E.C.exit (E.P.et (E.P.et (E.P.eh (E.To.code ?_))))
    refine E.C.seq ?_
    refine E.C.region ?_
    refine E.G.op (.string (K.bytes ((R2.Made a b c x y)))) (fun w => by kernel_rfl) (by kernel_rfl) ?_
    refine E.G.op (.int .i64 (((K.bytes ((R2.Made a b c x y))).size : Nat) : Int)) (fun w => by kernel_rfl) (by kernel_rfl) ?_
    refine E.G.op (.string (K.bytes ((R2.Made a2 b2 c2 x2 y2)))) (fun w => by kernel_rfl) (by kernel_rfl) ?_
    refine E.G.op (.int .i64 (((K.bytes ((R2.Made a2 b2 c2 x2 y2))).size : Nat) : Int)) (fun w => by kernel_rfl) (by kernel_rfl) ?_
    refine E.G.op (.int .i64 (K.mn (((K.bytes ((R2.Made a b c x y))).size : Nat) : Int) (((K.bytes ((R2.Made a2 b2 c2 x2 y2))).size : Nat) : Int))) (fun w => by kernel_rfl) (by kernel_rfl) ?_
    refine E.G.op (.int .i64 (K.mn (((K.bytes ((R2.Made a b c x y))).size : Nat) : Int) (((K.bytes ((R2.Made a2 b2 c2 x2 y2))).size : Nat) : Int))) (fun w => by kernel_rfl) (by kernel_rfl) ?_
    refine E.To.code ?_
    refine E.C.weak [(4, .bool false), (5, .bool true), (6, .string (K.bytes ((R2.Made a b c x y)))), (7, .int .i64 0), (8, .string (K.bytes ((R2.Made a2 b2 c2 x2 y2)))), (9, .int .i64 0), (13, .int .i64 (K.mn (((K.bytes ((R2.Made a b c x y))).size : Nat) : Int) (((K.bytes ((R2.Made a2 b2 c2 x2 y2))).size : Nat) : Int)))] [] ⟨by kernel_rfl, by kernel_rfl⟩ (List.Sublist.refl _) ?_
    refine E.C.seq ?_
    refine E.C.quiet (by kernel_rfl) (by kernel_rfl) ?_
    refine E.W.op (.bool true) (fun w => by kernel_rfl) (by kernel_rfl) ?_
    refine E.W.op (.bool true) (fun w => by kernel_rfl) (by kernel_rfl) ?_
    refine E.W.op (.int .i64 0) (fun w => by kernel_rfl) (by kernel_rfl) ?_
    refine E.W.op (.bool true) (fun w => by kernel_rfl) (by kernel_rfl) ?_
    refine E.W.op (.bool true) (fun w => by kernel_rfl) (by kernel_rfl) ?_
    refine E.W.op (.bool true) (fun w => by kernel_rfl) (by kernel_rfl) ?_
    refine E.W.op (.int .i64 0) (fun w => by kernel_rfl) (by kernel_rfl) ?_
    refine E.W.op (.bool true) (fun w => by kernel_rfl) (by kernel_rfl) ?_
    refine E.W.op (.bool true) (fun w => by kernel_rfl) (by kernel_rfl) ?_
    refine E.W.op (.bool true) (fun w => by kernel_rfl) (by kernel_rfl) ?_
    refine E.W.op (.string (K.bytes ((R2.Made a b c x y)))) (fun w => by kernel_rfl) (by kernel_rfl) ?_
    refine E.W.op (.int .i64 (((K.bytes ((R2.Made a b c x y))).size : Nat) : Int)) (fun w => by kernel_rfl) (by kernel_rfl) ?_
    refine E.W.op (.string (K.bytes ((R2.Made a2 b2 c2 x2 y2)))) (fun w => by kernel_rfl) (by kernel_rfl) ?_
    refine E.W.op (.int .i64 (((K.bytes ((R2.Made a2 b2 c2 x2 y2))).size : Nat) : Int)) (fun w => by kernel_rfl) (by kernel_rfl) ?_
    refine E.W.op (.bool ((((K.bytes ((R2.Made a b c x y))).size : Nat) : Int) == (((K.bytes ((R2.Made a2 b2 c2 x2 y2))).size : Nat) : Int))) (fun w => by kernel_rfl) (by kernel_rfl) ?_
    refine E.W.op (.bool ((((K.bytes ((R2.Made a b c x y))).size : Nat) : Int) == (((K.bytes ((R2.Made a2 b2 c2 x2 y2))).size : Nat) : Int))) (fun w => by kernel_rfl) (by kernel_rfl) ?_
    refine E.W.cut 8 [(4, .bool false), (61, .bool true), (75, .bool (((((K.bytes ((R2.Made a b c x y))).size : Nat) : Int) == (((K.bytes ((R2.Made a2 b2 c2 x2 y2))).size : Nat) : Int)) || (!(((K.bytes ((R2.Made a b c x y))).extract 0 ((K.mn (((K.bytes ((R2.Made a b c x y))).size : Nat) : Int) (((K.bytes ((R2.Made a2 b2 c2 x2 y2))).size : Nat) : Int))).toNat).toList == ((K.bytes ((R2.Made a2 b2 c2 x2 y2))).extract 0 ((K.mn (((K.bytes ((R2.Made a b c x y))).size : Nat) : Int) (((K.bytes ((R2.Made a2 b2 c2 x2 y2))).size : Nat) : Int))).toNat).toList))))] ?_ ?_
    · generalize hc8 : ((((K.bytes ((R2.Made a b c x y))).size : Nat) : Int) == (((K.bytes ((R2.Made a2 b2 c2 x2 y2))).size : Nat) : Int)) = b9
      cases b9
      · skip
        refine E.W.op (.string (K.bytes ((R2.Made a b c x y)))) (fun w => by kernel_rfl) (by kernel_rfl) ?_
        refine E.W.op (.int .i64 (K.mn (((K.bytes ((R2.Made a b c x y))).size : Nat) : Int) (((K.bytes ((R2.Made a2 b2 c2 x2 y2))).size : Nat) : Int))) (fun w => by kernel_rfl) (by kernel_rfl) ?_
        refine E.W.val (.string ((K.bytes ((R2.Made a b c x y))).extract 0 ((K.mn (((K.bytes ((R2.Made a b c x y))).size : Nat) : Int) (((K.bytes ((R2.Made a2 b2 c2 x2 y2))).size : Nat) : Int))).toNat)) (by kernel_rfl) (fun w h => E.slTo (K.bytes ((R2.Made a b c x y))) .i64 (K.mn (((K.bytes ((R2.Made a b c x y))).size : Nat) : Int) (((K.bytes ((R2.Made a2 b2 c2 x2 y2))).size : Nat) : Int)) (by kernel_rfl) (by kernel_rfl) (by kernel_rfl) (by first | (have := K.mn_le; (try simp only [K.mn_eq] at *); (try simp only [beq_iff_eq, bne_iff_ne, ne_eq, Bool.or_eq_true, Bool.and_eq_true, beq_eq_false_iff_ne, decide_eq_true_eq, decide_eq_false_iff_not, Bool.or_eq_false_iff, Bool.not_eq_true, gt_iff_lt] at *); omega) | ((try simp only [K.mn_eq] at *); (try simp only [beq_iff_eq, bne_iff_ne, ne_eq, Bool.or_eq_true, Bool.and_eq_true, beq_eq_false_iff_ne, decide_eq_true_eq, decide_eq_false_iff_not, Bool.or_eq_false_iff, Bool.not_eq_true, gt_iff_lt] at *); omega)) (by first | (have := K.mn_le; (try simp only [K.mn_eq] at *); (try simp only [beq_iff_eq, bne_iff_ne, ne_eq, Bool.or_eq_true, Bool.and_eq_true, beq_eq_false_iff_ne, decide_eq_true_eq, decide_eq_false_iff_not, Bool.or_eq_false_iff, Bool.not_eq_true, gt_iff_lt] at *); omega) | ((try simp only [K.mn_eq] at *); (try simp only [beq_iff_eq, bne_iff_ne, ne_eq, Bool.or_eq_true, Bool.and_eq_true, beq_eq_false_iff_ne, decide_eq_true_eq, decide_eq_false_iff_not, Bool.or_eq_false_iff, Bool.not_eq_true, gt_iff_lt] at *); omega)) w) ?_
        refine E.W.op (.string (K.bytes ((R2.Made a2 b2 c2 x2 y2)))) (fun w => by kernel_rfl) (by kernel_rfl) ?_
        refine E.W.op (.int .i64 (K.mn (((K.bytes ((R2.Made a b c x y))).size : Nat) : Int) (((K.bytes ((R2.Made a2 b2 c2 x2 y2))).size : Nat) : Int))) (fun w => by kernel_rfl) (by kernel_rfl) ?_
        refine E.W.val (.string ((K.bytes ((R2.Made a2 b2 c2 x2 y2))).extract 0 ((K.mn (((K.bytes ((R2.Made a b c x y))).size : Nat) : Int) (((K.bytes ((R2.Made a2 b2 c2 x2 y2))).size : Nat) : Int))).toNat)) (by kernel_rfl) (fun w h => E.slTo (K.bytes ((R2.Made a2 b2 c2 x2 y2))) .i64 (K.mn (((K.bytes ((R2.Made a b c x y))).size : Nat) : Int) (((K.bytes ((R2.Made a2 b2 c2 x2 y2))).size : Nat) : Int)) (by kernel_rfl) (by kernel_rfl) (by kernel_rfl) (by first | (have := K.mn_le; (try simp only [K.mn_eq] at *); (try simp only [beq_iff_eq, bne_iff_ne, ne_eq, Bool.or_eq_true, Bool.and_eq_true, beq_eq_false_iff_ne, decide_eq_true_eq, decide_eq_false_iff_not, Bool.or_eq_false_iff, Bool.not_eq_true, gt_iff_lt] at *); omega) | ((try simp only [K.mn_eq] at *); (try simp only [beq_iff_eq, bne_iff_ne, ne_eq, Bool.or_eq_true, Bool.and_eq_true, beq_eq_false_iff_ne, decide_eq_true_eq, decide_eq_false_iff_not, Bool.or_eq_false_iff, Bool.not_eq_true, gt_iff_lt] at *); omega)) (by first | (have := K.mn_le; (try simp only [K.mn_eq] at *); (try simp only [beq_iff_eq, bne_iff_ne, ne_eq, Bool.or_eq_true, Bool.and_eq_true, beq_eq_false_iff_ne, decide_eq_true_eq, decide_eq_false_iff_not, Bool.or_eq_false_iff, Bool.not_eq_true, gt_iff_lt] at *); omega) | ((try simp only [K.mn_eq] at *); (try simp only [beq_iff_eq, bne_iff_ne, ne_eq, Bool.or_eq_true, Bool.and_eq_true, beq_eq_false_iff_ne, decide_eq_true_eq, decide_eq_false_iff_not, Bool.or_eq_false_iff, Bool.not_eq_true, gt_iff_lt] at *); omega)) w) ?_
        refine E.W.op (.bool (!(((K.bytes ((R2.Made a b c x y))).extract 0 ((K.mn (((K.bytes ((R2.Made a b c x y))).size : Nat) : Int) (((K.bytes ((R2.Made a2 b2 c2 x2 y2))).size : Nat) : Int))).toNat).toList == ((K.bytes ((R2.Made a2 b2 c2 x2 y2))).extract 0 ((K.mn (((K.bytes ((R2.Made a b c x y))).size : Nat) : Int) (((K.bytes ((R2.Made a2 b2 c2 x2 y2))).size : Nat) : Int))).toNat).toList))) (fun w => by kernel_rfl) (by kernel_rfl) ?_
        refine E.W.op (.bool (!(((K.bytes ((R2.Made a b c x y))).extract 0 ((K.mn (((K.bytes ((R2.Made a b c x y))).size : Nat) : Int) (((K.bytes ((R2.Made a2 b2 c2 x2 y2))).size : Nat) : Int))).toNat).toList == ((K.bytes ((R2.Made a2 b2 c2 x2 y2))).extract 0 ((K.mn (((K.bytes ((R2.Made a b c x y))).size : Nat) : Int) (((K.bytes ((R2.Made a2 b2 c2 x2 y2))).size : Nat) : Int))).toNat).toList))) (fun w => by kernel_rfl) (by kernel_rfl) ?_
        exact E.W.end_cut ⟨by kernel_rfl, by kernel_rfl⟩
      · skip
        refine E.W.skip (by kernel_rfl) (by kernel_rfl) ?_
        refine E.W.skip (by kernel_rfl) (by kernel_rfl) ?_
        refine E.W.skip (by kernel_rfl) (by kernel_rfl) ?_
        refine E.W.skip (by kernel_rfl) (by kernel_rfl) ?_
        refine E.W.skip (by kernel_rfl) (by kernel_rfl) ?_
        refine E.W.skip (by kernel_rfl) (by kernel_rfl) ?_
        refine E.W.skip (by kernel_rfl) (by kernel_rfl) ?_
        refine E.W.op (.bool true) (fun w => by kernel_rfl) (by kernel_rfl) ?_
        exact E.W.end_cut ⟨by kernel_rfl, by kernel_rfl⟩
    refine E.W.op (.bool (((((K.bytes ((R2.Made a b c x y))).size : Nat) : Int) == (((K.bytes ((R2.Made a2 b2 c2 x2 y2))).size : Nat) : Int)) || (!(((K.bytes ((R2.Made a b c x y))).extract 0 ((K.mn (((K.bytes ((R2.Made a b c x y))).size : Nat) : Int) (((K.bytes ((R2.Made a2 b2 c2 x2 y2))).size : Nat) : Int))).toNat).toList == ((K.bytes ((R2.Made a2 b2 c2 x2 y2))).extract 0 ((K.mn (((K.bytes ((R2.Made a b c x y))).size : Nat) : Int) (((K.bytes ((R2.Made a2 b2 c2 x2 y2))).size : Nat) : Int))).toNat).toList)))) (fun w => by kernel_rfl) (by kernel_rfl) ?_
    refine E.W.op (.bool (((((K.bytes ((R2.Made a b c x y))).size : Nat) : Int) == (((K.bytes ((R2.Made a2 b2 c2 x2 y2))).size : Nat) : Int)) || (!(((K.bytes ((R2.Made a b c x y))).extract 0 ((K.mn (((K.bytes ((R2.Made a b c x y))).size : Nat) : Int) (((K.bytes ((R2.Made a2 b2 c2 x2 y2))).size : Nat) : Int))).toNat).toList == ((K.bytes ((R2.Made a2 b2 c2 x2 y2))).extract 0 ((K.mn (((K.bytes ((R2.Made a b c x y))).size : Nat) : Int) (((K.bytes ((R2.Made a2 b2 c2 x2 y2))).size : Nat) : Int))).toNat).toList)))) (fun w => by kernel_rfl) (by kernel_rfl) ?_
    refine E.W.done (E.To.code ?_)
    refine E.C.ret (E.To.body (fn := Try.f7) [.bool (((((K.bytes ((R2.Made a b c x y))).size : Nat) : Int) == (((K.bytes ((R2.Made a2 b2 c2 x2 y2))).size : Nat) : Int)) || (!(((K.bytes ((R2.Made a b c x y))).extract 0 ((K.mn (((K.bytes ((R2.Made a b c x y))).size : Nat) : Int) (((K.bytes ((R2.Made a2 b2 c2 x2 y2))).size : Nat) : Int))).toNat).toList == ((K.bytes ((R2.Made a2 b2 c2 x2 y2))).extract 0 ((K.mn (((K.bytes ((R2.Made a b c x y))).size : Nat) : Int) (((K.bytes ((R2.Made a2 b2 c2 x2 y2))).size : Nat) : Int))).toNat).toList)))] ?_ ?_)
    · exact ⟨⟨by kernel_rfl, by kernel_rfl⟩, trivial⟩
    · intro w h
      exact ⟨congrArg (fun b => Ending.returned (.bool b)) (show K.prefixE a b c x y a2 b2 c2 x2 y2 = true from K.prefixE_true a b c x y a2 b2 c2 x2 y2), h.ch.bel (fun _ h => h.elim)⟩
end Go.Proofs.Ytgnekniabedomaa
