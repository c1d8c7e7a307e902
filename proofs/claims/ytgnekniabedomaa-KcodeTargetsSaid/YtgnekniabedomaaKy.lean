/- Walks: the laws KcodeUnique and KcodeTargets, printed by wip/eng. No condition but what is named. -/
import Derived.Test.YtgnekniabedomaaProg
import Derived.Test.YtgnekniabedomaaKw
namespace Go.Proofs.Ytgnekniabedomaa
set_option linter.unusedVariables false
set_option linter.unusedSimpArgs false
open Go.RowKit
def K.lawUnique (b : Int) (s : ByteArray) : Bool := (bif (((R2.Decode ((strOfNums [b]) ++ s)).2) != 0) then (((((R2.Decode ((strOfNums [b]) ++ s)).1)).op == 0) && ((((R2.Decode ((strOfNums [b]) ++ s)).1)).d == 0) && ((((R2.Decode ((strOfNums [b]) ++ s)).1)).s == 0) && ((((R2.Decode ((strOfNums [b]) ++ s)).1)).ix == 0) && ((((R2.Decode ((strOfNums [b]) ++ s)).1)).sc == 0) && ((((R2.Decode ((strOfNums [b]) ++ s)).1)).imm == 0) && ((((R2.Decode ((strOfNums [b]) ++ s)).1)).sz == 0)) else ((((((R2.Encode (((R2.Decode ((strOfNums [b]) ++ s)).1))).2) == 0) && (decide (((((R2.Encode (((R2.Decode ((strOfNums [b]) ++ s)).1))).1).size : Nat) : Int) ≤ ((((strOfNums [b]) ++ s).size : Nat) : Int)))) && ((((strOfNums [b]) ++ s).extract 0 ((K.mn ((((R2.Encode (((R2.Decode ((strOfNums [b]) ++ s)).1))).1).size : Nat) : Int) ((((strOfNums [b]) ++ s).size : Nat) : Int))).toNat).toList == ((R2.Encode (((R2.Decode ((strOfNums [b]) ++ s)).1))).1).toList)) && (R2.Valid (((R2.Decode ((strOfNums [b]) ++ s)).1)))))
theorem KcodeUnique_any (b : Int) (s : ByteArray) (hs : s.size ≤ 140737488351232) (w : World) : Calls Try.prog 6 #[.int .u8 b, .string s] w fun e w' => e = .returned (.bool (K.lawUnique b s)) ∧ Bel w w' := by
  refine E.enter (n := 62) (S := fun _ => False) Try.func6 rfl rfl (by kernel_rfl) (E.Hp.start w) ?_
  refine E.C.seq ?_
  refine E.C.region ?_
  refine E.G.op (.bool false) (fun w => by kernel_rfl) (by kernel_rfl) ?_
  refine E.To.code ?_
  refine E.C.seq ?_
  refine E.C.region ?_
  refine E.G.call (.bool true) (fun w h => sanity_ok w) (fun w _ => by kernel_rfl) (by kernel_rfl) ?_
  refine E.G.op (.bool true) (fun w => by kernel_rfl) (by kernel_rfl) ?_
  refine E.To.code ?_
  refine E.C.seq ?_
  refine E.C.region ?_
  refine E.G.op (.int .u8 b) (fun w => by kernel_rfl) (by kernel_rfl) ?_
  refine E.G.buildSlice [.int .u8 b] (by kernel_rfl) (by kernel_rfl) (fun g1 => ?_)
  refine E.G.val (.string (strOfNums [b])) (by kernel_rfl) (fun w h => E.b2s h 0 g1 0 1 1 [b] (e := 5) (by kernel_rfl) (by kernel_rfl) (by kernel_rfl) (by kernel_rfl) rfl (by kernel_rfl) rfl) ?_
  refine E.G.op (.string s) (fun w => by kernel_rfl) (by kernel_rfl) ?_
  refine E.G.val (.string ((strOfNums [b]) ++ s)) (by kernel_rfl) (fun w h => E.cat (strOfNums [b]) s (by kernel_rfl) (by kernel_rfl) (by (first | assumption | decide | ((try simp only [ByteArray.size_append, ByteArray.size_extract, strOfNums_size, List.length_cons, List.length_nil, K.mn_eq] at *); unfold maxLen at *; omega) | ((try simp only [ByteArray.size_append, ByteArray.size_extract, strOfNums_size, List.length_cons, List.length_nil, K.mn_eq] at *); omega))) w) ?_
  refine E.G.op (.string ((strOfNums [b]) ++ s)) (fun w => by kernel_rfl) (by kernel_rfl) ?_
  refine E.To.code ?_
  refine E.C.weak [(4, .bool false), (5, .bool true), (6, .string ((strOfNums [b]) ++ s))] [] ⟨by kernel_rfl, by kernel_rfl⟩ (List.nil_sublist _) ?_
  refine E.C.seq ?_
  refine E.C.region ?_
  refine E.G.op (.string ((strOfNums [b]) ++ s)) (fun w => by kernel_rfl) (by kernel_rfl) ?_
  refine E.G.call (.tuple #[.agg #[.int .i64 ((((R2.Decode ((strOfNums [b]) ++ s)).1)).op), .int .i64 ((((R2.Decode ((strOfNums [b]) ++ s)).1)).d), .int .i64 ((((R2.Decode ((strOfNums [b]) ++ s)).1)).s), .int .i64 ((((R2.Decode ((strOfNums [b]) ++ s)).1)).ix), .int .i64 ((((R2.Decode ((strOfNums [b]) ++ s)).1)).sc), .int .u32 ((((R2.Decode ((strOfNums [b]) ++ s)).1)).imm), .int .i64 ((((R2.Decode ((strOfNums [b]) ++ s)).1)).sz)], .int .i64 ((R2.Decode ((strOfNums [b]) ++ s)).2)]) (fun w h => Decode_r ((strOfNums [b]) ++ s) (by (first | assumption | decide | ((try simp only [ByteArray.size_append, ByteArray.size_extract, strOfNums_size, List.length_cons, List.length_nil, K.mn_eq] at *); unfold maxLen at *; omega) | ((try simp only [ByteArray.size_append, ByteArray.size_extract, strOfNums_size, List.length_cons, List.length_nil, K.mn_eq] at *); omega))) w) (fun w _ => by kernel_rfl) (by kernel_rfl) ?_
  refine E.G.op (.tuple #[.agg #[.int .i64 ((((R2.Decode ((strOfNums [b]) ++ s)).1)).op), .int .i64 ((((R2.Decode ((strOfNums [b]) ++ s)).1)).d), .int .i64 ((((R2.Decode ((strOfNums [b]) ++ s)).1)).s), .int .i64 ((((R2.Decode ((strOfNums [b]) ++ s)).1)).ix), .int .i64 ((((R2.Decode ((strOfNums [b]) ++ s)).1)).sc), .int .u32 ((((R2.Decode ((strOfNums [b]) ++ s)).1)).imm), .int .i64 ((((R2.Decode ((strOfNums [b]) ++ s)).1)).sz)], .int .i64 ((R2.Decode ((strOfNums [b]) ++ s)).2)]) (fun w => by kernel_rfl) (by kernel_rfl) ?_
  refine E.G.op (.agg #[.int .i64 ((((R2.Decode ((strOfNums [b]) ++ s)).1)).op), .int .i64 ((((R2.Decode ((strOfNums [b]) ++ s)).1)).d), .int .i64 ((((R2.Decode ((strOfNums [b]) ++ s)).1)).s), .int .i64 ((((R2.Decode ((strOfNums [b]) ++ s)).1)).ix), .int .i64 ((((R2.Decode ((strOfNums [b]) ++ s)).1)).sc), .int .u32 ((((R2.Decode ((strOfNums [b]) ++ s)).1)).imm), .int .i64 ((((R2.Decode ((strOfNums [b]) ++ s)).1)).sz)]) (fun w => by kernel_rfl) (by kernel_rfl) ?_
  refine E.G.op (.int .i64 ((R2.Decode ((strOfNums [b]) ++ s)).2)) (fun w => by kernel_rfl) (by kernel_rfl) ?_
  refine E.G.new (fun g => .pointer (some ⟨g, 0, none⟩)) [.int .i64 0, .int .i64 0, .int .i64 0, .int .i64 0, .int .i64 0, .int .u32 0, .int .i64 0] 27 (fun w => by kernel_rfl) (by kernel_rfl) (fun g2 => ?_)
  refine E.G.store 0 [.int .i64 ((((R2.Decode ((strOfNums [b]) ++ s)).1)).op), .int .i64 ((((R2.Decode ((strOfNums [b]) ++ s)).1)).d), .int .i64 ((((R2.Decode ((strOfNums [b]) ++ s)).1)).s), .int .i64 ((((R2.Decode ((strOfNums [b]) ++ s)).1)).ix), .int .i64 ((((R2.Decode ((strOfNums [b]) ++ s)).1)).sc), .int .u32 ((((R2.Decode ((strOfNums [b]) ++ s)).1)).imm), .int .i64 ((((R2.Decode ((strOfNums [b]) ++ s)).1)).sz)] rfl rfl (by kernel_rfl) (by kernel_rfl) ?_
  refine E.G.op (.int .i64 ((R2.Decode ((strOfNums [b]) ++ s)).2)) (fun w => by kernel_rfl) (by kernel_rfl) ?_
  refine E.To.code ?_
  refine E.C.seq ?_
  refine E.C.seq ?_
  refine E.C.region ?_
  refine E.G.op (.int .i64 ((R2.Decode ((strOfNums [b]) ++ s)).2)) (fun w => by kernel_rfl) (by kernel_rfl) ?_
  refine E.G.op (.bool (((R2.Decode ((strOfNums [b]) ++ s)).2) != 0)) (fun w => by kernel_rfl) (by kernel_rfl) ?_
  refine E.To.code ?_
  refine E.C.cond (((R2.Decode ((strOfNums [b]) ++ s)).2) != 0) (by kernel_rfl) (by kernel_rfl) (fun hc3 => ?_) (fun hc3 => ?_)
  · skip
    refine E.C.seq ?_
    refine E.C.region ?_
    refine E.G.op (.bool true) (fun w => by kernel_rfl) (by kernel_rfl) ?_
    refine E.G.op (.bool true) (fun w => by kernel_rfl) (by kernel_rfl) ?_
    refine E.G.val (.agg #[.int .i64 ((((R2.Decode ((strOfNums [b]) ++ s)).1)).op), .int .i64 ((((R2.Decode ((strOfNums [b]) ++ s)).1)).d), .int .i64 ((((R2.Decode ((strOfNums [b]) ++ s)).1)).s), .int .i64 ((((R2.Decode ((strOfNums [b]) ++ s)).1)).ix), .int .i64 ((((R2.Decode ((strOfNums [b]) ++ s)).1)).sc), .int .u32 ((((R2.Decode ((strOfNums [b]) ++ s)).1)).imm), .int .i64 ((((R2.Decode ((strOfNums [b]) ++ s)).1)).sz)]) (by kernel_rfl) (fun w h => E.run_load h 0 rfl rfl (by kernel_rfl)) ?_
    refine E.G.val (.agg #[.int .i64 0, .int .i64 0, .int .i64 0, .int .i64 0, .int .i64 0, .int .u32 0, .int .i64 0]) (by kernel_rfl) (fun w h => E.run_build #[.int .i64 0, .int .i64 0, .int .i64 0, .int .i64 0, .int .i64 0, .int .u32 0, .int .i64 0] (by kernel_rfl) w) ?_
    refine E.G.val (.bool (((((R2.Decode ((strOfNums [b]) ++ s)).1)).op == 0) && ((((R2.Decode ((strOfNums [b]) ++ s)).1)).d == 0) && ((((R2.Decode ((strOfNums [b]) ++ s)).1)).s == 0) && ((((R2.Decode ((strOfNums [b]) ++ s)).1)).ix == 0) && ((((R2.Decode ((strOfNums [b]) ++ s)).1)).sc == 0) && ((((R2.Decode ((strOfNums [b]) ++ s)).1)).imm == 0) && ((((R2.Decode ((strOfNums [b]) ++ s)).1)).sz == 0))) (by kernel_rfl) (fun w h => E.api_KIns_eql (by kernel_rfl) (by kernel_rfl)) ?_
    refine E.G.op (.bool (((((R2.Decode ((strOfNums [b]) ++ s)).1)).op == 0) && ((((R2.Decode ((strOfNums [b]) ++ s)).1)).d == 0) && ((((R2.Decode ((strOfNums [b]) ++ s)).1)).s == 0) && ((((R2.Decode ((strOfNums [b]) ++ s)).1)).ix == 0) && ((((R2.Decode ((strOfNums [b]) ++ s)).1)).sc == 0) && ((((R2.Decode ((strOfNums [b]) ++ s)).1)).imm == 0) && ((((R2.Decode ((strOfNums [b]) ++ s)).1)).sz == 0))) (fun w => by kernel_rfl) (by kernel_rfl) ?_
    refine E.G.op (.bool (((((R2.Decode ((strOfNums [b]) ++ s)).1)).op == 0) && ((((R2.Decode ((strOfNums [b]) ++ s)).1)).d == 0) && ((((R2.Decode ((strOfNums [b]) ++ s)).1)).s == 0) && ((((R2.Decode ((strOfNums [b]) ++ s)).1)).ix == 0) && ((((R2.Decode ((strOfNums [b]) ++ s)).1)).sc == 0) && ((((R2.Decode ((strOfNums [b]) ++ s)).1)).imm == 0) && ((((R2.Decode ((strOfNums [b]) ++ s)).1)).sz == 0))) (fun w => by kernel_rfl) (by kernel_rfl) ?_
    refine E.To.code ?_
    refine E.C.weak [(4, .bool (((((R2.Decode ((strOfNums [b]) ++ s)).1)).op == 0) && ((((R2.Decode ((strOfNums [b]) ++ s)).1)).d == 0) && ((((R2.Decode ((strOfNums [b]) ++ s)).1)).s == 0) && ((((R2.Decode ((strOfNums [b]) ++ s)).1)).ix == 0) && ((((R2.Decode ((strOfNums [b]) ++ s)).1)).sc == 0) && ((((R2.Decode ((strOfNums [b]) ++ s)).1)).imm == 0) && ((((R2.Decode ((strOfNums [b]) ++ s)).1)).sz == 0))), (5, .bool true), (6, .string ((strOfNums [b]) ++ s)), (7, .pointer (some ⟨g2, 0, none⟩))] [(g2, [.int .i64 ((((R2.Decode ((strOfNums [b]) ++ s)).1)).op), .int .i64 ((((R2.Decode ((strOfNums [b]) ++ s)).1)).d), .int .i64 ((((R2.Decode ((strOfNums [b]) ++ s)).1)).s), .int .i64 ((((R2.Decode ((strOfNums [b]) ++ s)).1)).ix), .int .i64 ((((R2.Decode ((strOfNums [b]) ++ s)).1)).sc), .int .u32 ((((R2.Decode ((strOfNums [b]) ++ s)).1)).imm), .int .i64 ((((R2.Decode ((strOfNums [b]) ++ s)).1)).sz)])] ⟨by kernel_rfl, by kernel_rfl⟩ (List.Sublist.refl _) ?_
    refine E.C.ret (E.P.rt (E.To.body (fn := Try.f6) [.bool (((((R2.Decode ((strOfNums [b]) ++ s)).1)).op == 0) && ((((R2.Decode ((strOfNums [b]) ++ s)).1)).d == 0) && ((((R2.Decode ((strOfNums [b]) ++ s)).1)).s == 0) && ((((R2.Decode ((strOfNums [b]) ++ s)).1)).ix == 0) && ((((R2.Decode ((strOfNums [b]) ++ s)).1)).sc == 0) && ((((R2.Decode ((strOfNums [b]) ++ s)).1)).imm == 0) && ((((R2.Decode ((strOfNums [b]) ++ s)).1)).sz == 0))] ?_ ?_))
    · exact ⟨⟨by kernel_rfl, by kernel_rfl⟩, trivial⟩
    · intro w h
      exact ⟨by show Ending.returned (.bool (((((R2.Decode ((strOfNums [b]) ++ s)).1)).op == 0) && ((((R2.Decode ((strOfNums [b]) ++ s)).1)).d == 0) && ((((R2.Decode ((strOfNums [b]) ++ s)).1)).s == 0) && ((((R2.Decode ((strOfNums [b]) ++ s)).1)).ix == 0) && ((((R2.Decode ((strOfNums [b]) ++ s)).1)).sc == 0) && ((((R2.Decode ((strOfNums [b]) ++ s)).1)).imm == 0) && ((((R2.Decode ((strOfNums [b]) ++ s)).1)).sz == 0))) = _; unfold K.lawUnique; rw [hc3, cond_true], h.ch.bel (fun _ h => h.elim)⟩
  · skip
    refine E.C.skip (E.To.code ?_)
    refine E.C.weak [(4, .bool false), (5, .bool true), (6, .string ((strOfNums [b]) ++ s)), (7, .pointer (some ⟨g2, 0, none⟩))] [(g2, [.int .i64 ((((R2.Decode ((strOfNums [b]) ++ s)).1)).op), .int .i64 ((((R2.Decode ((strOfNums [b]) ++ s)).1)).d), .int .i64 ((((R2.Decode ((strOfNums [b]) ++ s)).1)).s), .int .i64 ((((R2.Decode ((strOfNums [b]) ++ s)).1)).ix), .int .i64 ((((R2.Decode ((strOfNums [b]) ++ s)).1)).sc), .int .u32 ((((R2.Decode ((strOfNums [b]) ++ s)).1)).imm), .int .i64 ((((R2.Decode ((strOfNums [b]) ++ s)).1)).sz)])] ⟨by kernel_rfl, by kernel_rfl⟩ (List.Sublist.refl _) ?_
    refine E.C.seq ?_
    refine E.C.region ?_
    refine E.G.val (.agg #[.int .i64 ((((R2.Decode ((strOfNums [b]) ++ s)).1)).op), .int .i64 ((((R2.Decode ((strOfNums [b]) ++ s)).1)).d), .int .i64 ((((R2.Decode ((strOfNums [b]) ++ s)).1)).s), .int .i64 ((((R2.Decode ((strOfNums [b]) ++ s)).1)).ix), .int .i64 ((((R2.Decode ((strOfNums [b]) ++ s)).1)).sc), .int .u32 ((((R2.Decode ((strOfNums [b]) ++ s)).1)).imm), .int .i64 ((((R2.Decode ((strOfNums [b]) ++ s)).1)).sz)]) (by kernel_rfl) (fun w h => E.run_load h 0 rfl rfl (by kernel_rfl)) ?_
    refine E.G.call (.tuple #[.string ((R2.Encode (((R2.Decode ((strOfNums [b]) ++ s)).1))).1), .int .i64 ((R2.Encode (((R2.Decode ((strOfNums [b]) ++ s)).1))).2)]) (fun w h => Encode_r (((R2.Decode ((strOfNums [b]) ++ s)).1)) (by (first | assumption | exact (R2.Made_ok _ _ _ _ _).2 | decide | (refine R2.dec_imm _ ?_; (first | assumption | decide | ((try simp only [ByteArray.size_append, ByteArray.size_extract, strOfNums_size, List.length_cons, List.length_nil, K.mn_eq] at *); unfold maxLen at *; omega) | ((try simp only [ByteArray.size_append, ByteArray.size_extract, strOfNums_size, List.length_cons, List.length_nil, K.mn_eq] at *); omega))) | exact K.wrap32 _ | (show (0 : Int) ≤ 0 ∧ (0 : Int) < 4294967296; decide))) w) (fun w _ => by kernel_rfl) (by kernel_rfl) ?_
    refine E.G.op (.tuple #[.string ((R2.Encode (((R2.Decode ((strOfNums [b]) ++ s)).1))).1), .int .i64 ((R2.Encode (((R2.Decode ((strOfNums [b]) ++ s)).1))).2)]) (fun w => by kernel_rfl) (by kernel_rfl) ?_
    refine E.G.op (.string ((R2.Encode (((R2.Decode ((strOfNums [b]) ++ s)).1))).1)) (fun w => by kernel_rfl) (by kernel_rfl) ?_
    refine E.G.op (.int .i64 ((R2.Encode (((R2.Decode ((strOfNums [b]) ++ s)).1))).2)) (fun w => by kernel_rfl) (by kernel_rfl) ?_
    refine E.G.op (.string ((R2.Encode (((R2.Decode ((strOfNums [b]) ++ s)).1))).1)) (fun w => by kernel_rfl) (by kernel_rfl) ?_
    refine E.G.op (.int .i64 ((R2.Encode (((R2.Decode ((strOfNums [b]) ++ s)).1))).2)) (fun w => by kernel_rfl) (by kernel_rfl) ?_
    refine E.To.code ?_
    refine E.C.seq ?_
    refine E.C.region ?_
    refine E.G.op (.bool true) (fun w => by kernel_rfl) (by kernel_rfl) ?_
    refine E.G.op (.bool true) (fun w => by kernel_rfl) (by kernel_rfl) ?_
    refine E.G.op (.int .i64 ((R2.Encode (((R2.Decode ((strOfNums [b]) ++ s)).1))).2)) (fun w => by kernel_rfl) (by kernel_rfl) ?_
    refine E.G.op (.bool (((R2.Encode (((R2.Decode ((strOfNums [b]) ++ s)).1))).2) == 0)) (fun w => by kernel_rfl) (by kernel_rfl) ?_
    refine E.G.op (.bool (((R2.Encode (((R2.Decode ((strOfNums [b]) ++ s)).1))).2) == 0)) (fun w => by kernel_rfl) (by kernel_rfl) ?_
    refine E.G.op (.bool (((R2.Encode (((R2.Decode ((strOfNums [b]) ++ s)).1))).2) == 0)) (fun w => by kernel_rfl) (by kernel_rfl) ?_
    refine E.G.cut 6 [(4, .bool false), (6, .string ((strOfNums [b]) ++ s)), (7, .pointer (some ⟨g2, 0, none⟩)), (9, .string ((R2.Encode (((R2.Decode ((strOfNums [b]) ++ s)).1))).1)), (46, .bool ((((R2.Encode (((R2.Decode ((strOfNums [b]) ++ s)).1))).2) == 0) && (decide (((((R2.Encode (((R2.Decode ((strOfNums [b]) ++ s)).1))).1).size : Nat) : Int) ≤ ((((strOfNums [b]) ++ s).size : Nat) : Int)))))] (fun _ => True) [(g2, [.int .i64 ((((R2.Decode ((strOfNums [b]) ++ s)).1)).op), .int .i64 ((((R2.Decode ((strOfNums [b]) ++ s)).1)).d), .int .i64 ((((R2.Decode ((strOfNums [b]) ++ s)).1)).s), .int .i64 ((((R2.Decode ((strOfNums [b]) ++ s)).1)).ix), .int .i64 ((((R2.Decode ((strOfNums [b]) ++ s)).1)).sc), .int .u32 ((((R2.Decode ((strOfNums [b]) ++ s)).1)).imm), .int .i64 ((((R2.Decode ((strOfNums [b]) ++ s)).1)).sz)])] ?_ ?_
    · generalize hc4 : (((R2.Encode (((R2.Decode ((strOfNums [b]) ++ s)).1))).2) == 0) = b5
      cases b5
      · skip
        refine E.G.skip (by kernel_rfl) (by kernel_rfl) ?_
        refine E.G.skip (by kernel_rfl) (by kernel_rfl) ?_
        refine E.G.skip (by kernel_rfl) (by kernel_rfl) ?_
        refine E.G.skip (by kernel_rfl) (by kernel_rfl) ?_
        refine E.G.skip (by kernel_rfl) (by kernel_rfl) ?_
        refine E.G.op (.bool false) (fun w => by kernel_rfl) (by kernel_rfl) ?_
        exact E.G.end_pst ⟨by kernel_rfl, by kernel_rfl⟩ (List.Sublist.refl _) (fun _ h => h)
      · skip
        refine E.G.op (.string ((R2.Encode (((R2.Decode ((strOfNums [b]) ++ s)).1))).1)) (fun w => by kernel_rfl) (by kernel_rfl) ?_
        refine E.G.op (.int .i64 ((((R2.Encode (((R2.Decode ((strOfNums [b]) ++ s)).1))).1).size : Nat) : Int)) (fun w => by kernel_rfl) (by kernel_rfl) ?_
        refine E.G.op (.string ((strOfNums [b]) ++ s)) (fun w => by kernel_rfl) (by kernel_rfl) ?_
        refine E.G.op (.int .i64 ((((strOfNums [b]) ++ s).size : Nat) : Int)) (fun w => by kernel_rfl) (by kernel_rfl) ?_
        refine E.G.op (.bool (decide (((((R2.Encode (((R2.Decode ((strOfNums [b]) ++ s)).1))).1).size : Nat) : Int) ≤ ((((strOfNums [b]) ++ s).size : Nat) : Int)))) (fun w => by kernel_rfl) (by kernel_rfl) ?_
        refine E.G.op (.bool (decide (((((R2.Encode (((R2.Decode ((strOfNums [b]) ++ s)).1))).1).size : Nat) : Int) ≤ ((((strOfNums [b]) ++ s).size : Nat) : Int)))) (fun w => by kernel_rfl) (by kernel_rfl) ?_
        exact E.G.end_pst ⟨by kernel_rfl, by kernel_rfl⟩ (List.Sublist.refl _) (fun _ h => h)
    refine E.G.op (.bool ((((R2.Encode (((R2.Decode ((strOfNums [b]) ++ s)).1))).2) == 0) && (decide (((((R2.Encode (((R2.Decode ((strOfNums [b]) ++ s)).1))).1).size : Nat) : Int) ≤ ((((strOfNums [b]) ++ s).size : Nat) : Int))))) (fun w => by kernel_rfl) (by kernel_rfl) ?_
    refine E.G.cut 10 [(4, .bool false), (7, .pointer (some ⟨g2, 0, none⟩)), (57, .bool (((((R2.Encode (((R2.Decode ((strOfNums [b]) ++ s)).1))).2) == 0) && (decide (((((R2.Encode (((R2.Decode ((strOfNums [b]) ++ s)).1))).1).size : Nat) : Int) ≤ ((((strOfNums [b]) ++ s).size : Nat) : Int)))) && ((((strOfNums [b]) ++ s).extract 0 ((K.mn ((((R2.Encode (((R2.Decode ((strOfNums [b]) ++ s)).1))).1).size : Nat) : Int) ((((strOfNums [b]) ++ s).size : Nat) : Int))).toNat).toList == ((R2.Encode (((R2.Decode ((strOfNums [b]) ++ s)).1))).1).toList)))] (fun _ => True) [(g2, [.int .i64 ((((R2.Decode ((strOfNums [b]) ++ s)).1)).op), .int .i64 ((((R2.Decode ((strOfNums [b]) ++ s)).1)).d), .int .i64 ((((R2.Decode ((strOfNums [b]) ++ s)).1)).s), .int .i64 ((((R2.Decode ((strOfNums [b]) ++ s)).1)).ix), .int .i64 ((((R2.Decode ((strOfNums [b]) ++ s)).1)).sc), .int .u32 ((((R2.Decode ((strOfNums [b]) ++ s)).1)).imm), .int .i64 ((((R2.Decode ((strOfNums [b]) ++ s)).1)).sz)])] ?_ ?_
    · generalize hc6 : ((((R2.Encode (((R2.Decode ((strOfNums [b]) ++ s)).1))).2) == 0) && (decide (((((R2.Encode (((R2.Decode ((strOfNums [b]) ++ s)).1))).1).size : Nat) : Int) ≤ ((((strOfNums [b]) ++ s).size : Nat) : Int)))) = b7
      cases b7
      · skip
        refine E.G.skip (by kernel_rfl) (by kernel_rfl) ?_
        refine E.G.skip (by kernel_rfl) (by kernel_rfl) ?_
        refine E.G.skip (by kernel_rfl) (by kernel_rfl) ?_
        refine E.G.skip (by kernel_rfl) (by kernel_rfl) ?_
        refine E.G.skip (by kernel_rfl) (by kernel_rfl) ?_
        refine E.G.skip (by kernel_rfl) (by kernel_rfl) ?_
        refine E.G.skip (by kernel_rfl) (by kernel_rfl) ?_
        refine E.G.skip (by kernel_rfl) (by kernel_rfl) ?_
        refine E.G.skip (by kernel_rfl) (by kernel_rfl) ?_
        refine E.G.op (.bool false) (fun w => by kernel_rfl) (by kernel_rfl) ?_
        exact E.G.end_pst ⟨by kernel_rfl, by kernel_rfl⟩ (List.Sublist.refl _) (fun _ h => h)
      · skip
        refine E.G.op (.string ((strOfNums [b]) ++ s)) (fun w => by kernel_rfl) (by kernel_rfl) ?_
        refine E.G.op (.string ((R2.Encode (((R2.Decode ((strOfNums [b]) ++ s)).1))).1)) (fun w => by kernel_rfl) (by kernel_rfl) ?_
        refine E.G.op (.int .i64 ((((R2.Encode (((R2.Decode ((strOfNums [b]) ++ s)).1))).1).size : Nat) : Int)) (fun w => by kernel_rfl) (by kernel_rfl) ?_
        refine E.G.op (.string ((strOfNums [b]) ++ s)) (fun w => by kernel_rfl) (by kernel_rfl) ?_
        refine E.G.op (.int .i64 ((((strOfNums [b]) ++ s).size : Nat) : Int)) (fun w => by kernel_rfl) (by kernel_rfl) ?_
        refine E.G.op (.int .i64 (K.mn ((((R2.Encode (((R2.Decode ((strOfNums [b]) ++ s)).1))).1).size : Nat) : Int) ((((strOfNums [b]) ++ s).size : Nat) : Int))) (fun w => by kernel_rfl) (by kernel_rfl) ?_
        refine E.G.val (.string (((strOfNums [b]) ++ s).extract 0 ((K.mn ((((R2.Encode (((R2.Decode ((strOfNums [b]) ++ s)).1))).1).size : Nat) : Int) ((((strOfNums [b]) ++ s).size : Nat) : Int))).toNat)) (by kernel_rfl) (fun w h => E.slTo ((strOfNums [b]) ++ s) .i64 (K.mn ((((R2.Encode (((R2.Decode ((strOfNums [b]) ++ s)).1))).1).size : Nat) : Int) ((((strOfNums [b]) ++ s).size : Nat) : Int)) (by kernel_rfl) (by kernel_rfl) (by kernel_rfl) (by first | (have := K.mn_le; (try simp only [K.mn_eq] at *); (try simp only [beq_iff_eq, bne_iff_ne, ne_eq, Bool.or_eq_true, Bool.and_eq_true, beq_eq_false_iff_ne, decide_eq_true_eq, decide_eq_false_iff_not, Bool.or_eq_false_iff, Bool.not_eq_true, gt_iff_lt] at *); omega) | ((try simp only [K.mn_eq] at *); (try simp only [beq_iff_eq, bne_iff_ne, ne_eq, Bool.or_eq_true, Bool.and_eq_true, beq_eq_false_iff_ne, decide_eq_true_eq, decide_eq_false_iff_not, Bool.or_eq_false_iff, Bool.not_eq_true, gt_iff_lt] at *); omega)) (by first | (have := K.mn_le; (try simp only [K.mn_eq] at *); (try simp only [beq_iff_eq, bne_iff_ne, ne_eq, Bool.or_eq_true, Bool.and_eq_true, beq_eq_false_iff_ne, decide_eq_true_eq, decide_eq_false_iff_not, Bool.or_eq_false_iff, Bool.not_eq_true, gt_iff_lt] at *); omega) | ((try simp only [K.mn_eq] at *); (try simp only [beq_iff_eq, bne_iff_ne, ne_eq, Bool.or_eq_true, Bool.and_eq_true, beq_eq_false_iff_ne, decide_eq_true_eq, decide_eq_false_iff_not, Bool.or_eq_false_iff, Bool.not_eq_true, gt_iff_lt] at *); omega)) w) ?_
        refine E.G.op (.string ((R2.Encode (((R2.Decode ((strOfNums [b]) ++ s)).1))).1)) (fun w => by kernel_rfl) (by kernel_rfl) ?_
        refine E.G.op (.bool ((((strOfNums [b]) ++ s).extract 0 ((K.mn ((((R2.Encode (((R2.Decode ((strOfNums [b]) ++ s)).1))).1).size : Nat) : Int) ((((strOfNums [b]) ++ s).size : Nat) : Int))).toNat).toList == ((R2.Encode (((R2.Decode ((strOfNums [b]) ++ s)).1))).1).toList)) (fun w => by kernel_rfl) (by kernel_rfl) ?_
        refine E.G.op (.bool ((((strOfNums [b]) ++ s).extract 0 ((K.mn ((((R2.Encode (((R2.Decode ((strOfNums [b]) ++ s)).1))).1).size : Nat) : Int) ((((strOfNums [b]) ++ s).size : Nat) : Int))).toNat).toList == ((R2.Encode (((R2.Decode ((strOfNums [b]) ++ s)).1))).1).toList)) (fun w => by kernel_rfl) (by kernel_rfl) ?_
        exact E.G.end_pst ⟨by kernel_rfl, by kernel_rfl⟩ (List.Sublist.refl _) (fun _ h => h)
    refine E.G.op (.bool (((((R2.Encode (((R2.Decode ((strOfNums [b]) ++ s)).1))).2) == 0) && (decide (((((R2.Encode (((R2.Decode ((strOfNums [b]) ++ s)).1))).1).size : Nat) : Int) ≤ ((((strOfNums [b]) ++ s).size : Nat) : Int)))) && ((((strOfNums [b]) ++ s).extract 0 ((K.mn ((((R2.Encode (((R2.Decode ((strOfNums [b]) ++ s)).1))).1).size : Nat) : Int) ((((strOfNums [b]) ++ s).size : Nat) : Int))).toNat).toList == ((R2.Encode (((R2.Decode ((strOfNums [b]) ++ s)).1))).1).toList))) (fun w => by kernel_rfl) (by kernel_rfl) ?_
    refine E.G.cut 3 [(4, .bool false), (61, .bool ((((((R2.Encode (((R2.Decode ((strOfNums [b]) ++ s)).1))).2) == 0) && (decide (((((R2.Encode (((R2.Decode ((strOfNums [b]) ++ s)).1))).1).size : Nat) : Int) ≤ ((((strOfNums [b]) ++ s).size : Nat) : Int)))) && ((((strOfNums [b]) ++ s).extract 0 ((K.mn ((((R2.Encode (((R2.Decode ((strOfNums [b]) ++ s)).1))).1).size : Nat) : Int) ((((strOfNums [b]) ++ s).size : Nat) : Int))).toNat).toList == ((R2.Encode (((R2.Decode ((strOfNums [b]) ++ s)).1))).1).toList)) && (R2.Valid (((R2.Decode ((strOfNums [b]) ++ s)).1)))))] (fun _ => True) [(g2, [.int .i64 ((((R2.Decode ((strOfNums [b]) ++ s)).1)).op), .int .i64 ((((R2.Decode ((strOfNums [b]) ++ s)).1)).d), .int .i64 ((((R2.Decode ((strOfNums [b]) ++ s)).1)).s), .int .i64 ((((R2.Decode ((strOfNums [b]) ++ s)).1)).ix), .int .i64 ((((R2.Decode ((strOfNums [b]) ++ s)).1)).sc), .int .u32 ((((R2.Decode ((strOfNums [b]) ++ s)).1)).imm), .int .i64 ((((R2.Decode ((strOfNums [b]) ++ s)).1)).sz)])] ?_ ?_
    · generalize hc8 : (((((R2.Encode (((R2.Decode ((strOfNums [b]) ++ s)).1))).2) == 0) && (decide (((((R2.Encode (((R2.Decode ((strOfNums [b]) ++ s)).1))).1).size : Nat) : Int) ≤ ((((strOfNums [b]) ++ s).size : Nat) : Int)))) && ((((strOfNums [b]) ++ s).extract 0 ((K.mn ((((R2.Encode (((R2.Decode ((strOfNums [b]) ++ s)).1))).1).size : Nat) : Int) ((((strOfNums [b]) ++ s).size : Nat) : Int))).toNat).toList == ((R2.Encode (((R2.Decode ((strOfNums [b]) ++ s)).1))).1).toList)) = b9
      cases b9
      · skip
        refine E.G.skip (by kernel_rfl) (by kernel_rfl) ?_
        refine E.G.skip (by kernel_rfl) (by kernel_rfl) ?_
        refine E.G.op (.bool false) (fun w => by kernel_rfl) (by kernel_rfl) ?_
        exact E.G.end_pst ⟨by kernel_rfl, by kernel_rfl⟩ (List.Sublist.refl _) (fun _ h => h)
      · skip
        refine E.G.val (.agg #[.int .i64 ((((R2.Decode ((strOfNums [b]) ++ s)).1)).op), .int .i64 ((((R2.Decode ((strOfNums [b]) ++ s)).1)).d), .int .i64 ((((R2.Decode ((strOfNums [b]) ++ s)).1)).s), .int .i64 ((((R2.Decode ((strOfNums [b]) ++ s)).1)).ix), .int .i64 ((((R2.Decode ((strOfNums [b]) ++ s)).1)).sc), .int .u32 ((((R2.Decode ((strOfNums [b]) ++ s)).1)).imm), .int .i64 ((((R2.Decode ((strOfNums [b]) ++ s)).1)).sz)]) (by kernel_rfl) (fun w h => E.run_load h 0 rfl rfl (by kernel_rfl)) ?_
        refine E.G.call (.bool (R2.Valid (((R2.Decode ((strOfNums [b]) ++ s)).1)))) (fun w h => Valid_r (((R2.Decode ((strOfNums [b]) ++ s)).1)) (by (first | assumption | exact (R2.Made_ok _ _ _ _ _).2 | decide | (refine R2.dec_imm _ ?_; (first | assumption | decide | ((try simp only [ByteArray.size_append, ByteArray.size_extract, strOfNums_size, List.length_cons, List.length_nil, K.mn_eq] at *); unfold maxLen at *; omega) | ((try simp only [ByteArray.size_append, ByteArray.size_extract, strOfNums_size, List.length_cons, List.length_nil, K.mn_eq] at *); omega))) | exact K.wrap32 _ | (show (0 : Int) ≤ 0 ∧ (0 : Int) < 4294967296; decide))) w) (fun w _ => by kernel_rfl) (by kernel_rfl) ?_
        refine E.G.op (.bool (R2.Valid (((R2.Decode ((strOfNums [b]) ++ s)).1)))) (fun w => by kernel_rfl) (by kernel_rfl) ?_
        exact E.G.end_pst ⟨by kernel_rfl, by kernel_rfl⟩ (List.Sublist.refl _) (fun _ h => h)
    refine E.G.op (.bool ((((((R2.Encode (((R2.Decode ((strOfNums [b]) ++ s)).1))).2) == 0) && (decide (((((R2.Encode (((R2.Decode ((strOfNums [b]) ++ s)).1))).1).size : Nat) : Int) ≤ ((((strOfNums [b]) ++ s).size : Nat) : Int)))) && ((((strOfNums [b]) ++ s).extract 0 ((K.mn ((((R2.Encode (((R2.Decode ((strOfNums [b]) ++ s)).1))).1).size : Nat) : Int) ((((strOfNums [b]) ++ s).size : Nat) : Int))).toNat).toList == ((R2.Encode (((R2.Decode ((strOfNums [b]) ++ s)).1))).1).toList)) && (R2.Valid (((R2.Decode ((strOfNums [b]) ++ s)).1))))) (fun w => by kernel_rfl) (by kernel_rfl) ?_
    refine E.To.code ?_
    refine E.C.ret (E.To.body (fn := Try.f6) [.bool ((((((R2.Encode (((R2.Decode ((strOfNums [b]) ++ s)).1))).2) == 0) && (decide (((((R2.Encode (((R2.Decode ((strOfNums [b]) ++ s)).1))).1).size : Nat) : Int) ≤ ((((strOfNums [b]) ++ s).size : Nat) : Int)))) && ((((strOfNums [b]) ++ s).extract 0 ((K.mn ((((R2.Encode (((R2.Decode ((strOfNums [b]) ++ s)).1))).1).size : Nat) : Int) ((((strOfNums [b]) ++ s).size : Nat) : Int))).toNat).toList == ((R2.Encode (((R2.Decode ((strOfNums [b]) ++ s)).1))).1).toList)) && (R2.Valid (((R2.Decode ((strOfNums [b]) ++ s)).1))))] ?_ ?_)
    · exact ⟨⟨by kernel_rfl, by kernel_rfl⟩, trivial⟩
    · intro w h
      exact ⟨by show Ending.returned (.bool ((((((R2.Encode (((R2.Decode ((strOfNums [b]) ++ s)).1))).2) == 0) && (decide (((((R2.Encode (((R2.Decode ((strOfNums [b]) ++ s)).1))).1).size : Nat) : Int) ≤ ((((strOfNums [b]) ++ s).size : Nat) : Int)))) && ((((strOfNums [b]) ++ s).extract 0 ((K.mn ((((R2.Encode (((R2.Decode ((strOfNums [b]) ++ s)).1))).1).size : Nat) : Int) ((((strOfNums [b]) ++ s).size : Nat) : Int))).toNat).toList == ((R2.Encode (((R2.Decode ((strOfNums [b]) ++ s)).1))).1).toList)) && (R2.Valid (((R2.Decode ((strOfNums [b]) ++ s)).1))))) = _; unfold K.lawUnique; rw [hc3, cond_false], h.ch.bel (fun _ h => h.elim)⟩
def K.lawTargets (i : K.Ins) (a b c x y : Int) (at_ : Int) : Bool := (bif (((((R2.Target i at_).1) != ((R2.Target i at_).1)) || ((R2.Target i at_).2 != (R2.Target i at_).2)) || ((R2.Ends i) != (R2.Ends i))) then false else (bif (((((R2.Target ((R2.Made a b c x y)) at_).1) != ((R2.Target ((R2.Made a b c x y)) at_).1)) || ((R2.Target ((R2.Made a b c x y)) at_).2 != (R2.Target ((R2.Made a b c x y)) at_).2)) || ((R2.Ends ((R2.Made a b c x y))) != (R2.Ends ((R2.Made a b c x y))))) then false else true))
theorem KcodeTargets_any (i : K.Ins) (a b c x y : Int) (at_ : Int) (hm : 0 ≤ i.imm ∧ i.imm < 4294967296) (w : World) : Calls Try.prog 10 #[.agg #[.int .i64 i.op, .int .i64 i.d, .int .i64 i.s, .int .i64 i.ix, .int .i64 i.sc, .int .u32 i.imm, .int .i64 i.sz], .agg #[.int .i64 a, .int .i64 b, .int .i64 c, .int .i64 x, .int .i64 y], .int .u32 at_] w fun e w' => e = .returned (.bool (K.lawTargets i a b c x y at_)) ∧ Bel w w' := by
  refine E.enter (n := 57) (S := fun _ => False) Try.func10 rfl rfl (by kernel_rfl) (E.Hp.start w) ?_
  refine E.C.seq ?_
  refine E.C.region ?_
  refine E.G.new (fun g => .pointer (some ⟨g, 0, none⟩)) [.int .i64 i.op, .int .i64 i.d, .int .i64 i.s, .int .i64 i.ix, .int .i64 i.sc, .int .u32 i.imm, .int .i64 i.sz] 27 (fun w => by kernel_rfl) (by kernel_rfl) (fun g1 => ?_)
  refine E.G.new (fun g => .pointer (some ⟨g, 0, none⟩)) [.int .i64 a, .int .i64 b, .int .i64 c, .int .i64 x, .int .i64 y] 35 (fun w => by kernel_rfl) (by kernel_rfl) (fun g2 => ?_)
  refine E.G.op (.bool false) (fun w => by kernel_rfl) (by kernel_rfl) ?_
  refine E.To.code ?_
  refine E.C.seq ?_
  refine E.C.region ?_
  refine E.G.call (.bool true) (fun w h => sanity_ok w) (fun w _ => by kernel_rfl) (by kernel_rfl) ?_
  refine E.G.op (.bool true) (fun w => by kernel_rfl) (by kernel_rfl) ?_
  refine E.To.code ?_
  refine E.C.seq ?_
  refine E.C.held (E.Hp (fun _ => False) w (fun _ => True) [(g2, [.int .i64 a, .int .i64 b, .int .i64 c, .int .i64 x, .int .i64 y]), (g1, [.int .i64 i.op, .int .i64 i.d, .int .i64 i.s, .int .i64 i.ix, .int .i64 i.sc, .int .u32 i.imm, .int .i64 i.sz])]) (by kernel_rfl) ?_
  refine E.H.take 0 (.agg #[.int .i64 i.op, .int .i64 i.d, .int .i64 i.s, .int .i64 i.ix, .int .i64 i.sc, .int .u32 i.imm, .int .i64 i.sz]) rfl (by kernel_rfl) (by kernel_rfl) (by kernel_rfl) (fun _ _ _ h => h) (fun w h => h) (.inl ⟨by kernel_rfl, by kernel_rfl, fun w h => E.run_load h 1 rfl rfl (by kernel_rfl)⟩) (by kernel_rfl) ?_
  refine E.H.take 1 (.agg #[.int .i64 a, .int .i64 b, .int .i64 c, .int .i64 x, .int .i64 y]) rfl (by kernel_rfl) (by kernel_rfl) (by kernel_rfl) (fun _ _ _ h => h) (fun w h => h) (.inl ⟨by kernel_rfl, by kernel_rfl, fun w h => E.run_load h 0 rfl rfl (by kernel_rfl)⟩) (by kernel_rfl) ?_
  refine E.H.all [2, 4] (by kernel_rfl) (by simp) (List.forall_mem_cons.2 ⟨⟨_, rfl, ?_⟩, List.forall_mem_cons.2 ⟨⟨_, rfl, ?_⟩, fun _ h => (List.not_mem_nil h).elim⟩⟩)
  · skip
    refine E.G.call (.agg #[.int .i64 (((R2.Made a b c x y)).op), .int .i64 (((R2.Made a b c x y)).d), .int .i64 (((R2.Made a b c x y)).s), .int .i64 (((R2.Made a b c x y)).ix), .int .i64 (((R2.Made a b c x y)).sc), .int .u32 (((R2.Made a b c x y)).imm), .int .i64 (((R2.Made a b c x y)).sz)]) (fun w h => R2_Made a b c x y w) (fun w _ => by kernel_rfl) (by kernel_rfl) ?_
    refine E.H.back (fun w h => h) ?_
    refine E.H.take 3 (.agg #[.int .i64 i.op, .int .i64 i.d, .int .i64 i.s, .int .i64 i.ix, .int .i64 i.sc, .int .u32 i.imm, .int .i64 i.sz, .int .i64 (((R2.Made a b c x y)).op), .int .i64 (((R2.Made a b c x y)).d), .int .i64 (((R2.Made a b c x y)).s), .int .i64 (((R2.Made a b c x y)).ix), .int .i64 (((R2.Made a b c x y)).sc), .int .u32 (((R2.Made a b c x y)).imm), .int .i64 (((R2.Made a b c x y)).sz)]) rfl (by kernel_rfl) (by kernel_rfl) (by kernel_rfl) (fun _ _ _ h => h) (fun w h => h) (.inl ⟨by kernel_rfl, by kernel_rfl, fun w h => E.run_build #[.int .i64 i.op, .int .i64 i.d, .int .i64 i.s, .int .i64 i.ix, .int .i64 i.sc, .int .u32 i.imm, .int .i64 i.sz, .int .i64 (((R2.Made a b c x y)).op), .int .i64 (((R2.Made a b c x y)).d), .int .i64 (((R2.Made a b c x y)).s), .int .i64 (((R2.Made a b c x y)).ix), .int .i64 (((R2.Made a b c x y)).sc), .int .u32 (((R2.Made a b c x y)).imm), .int .i64 (((R2.Made a b c x y)).sz)] (by kernel_rfl) w⟩) (by kernel_rfl) ?_
    refine E.H.all [4] (by kernel_rfl) (by simp) (List.forall_mem_cons.2 ⟨⟨_, rfl, ?_⟩, fun _ h => (List.not_mem_nil h).elim⟩)
    · skip
      refine E.G.new (fun g => .pointer (some ⟨g, 0, none⟩)) [.int .i64 0, .int .i64 0, .int .i64 0, .int .i64 0, .int .i64 0, .int .u32 0, .int .i64 0, .int .i64 0, .int .i64 0, .int .i64 0, .int .i64 0, .int .i64 0, .int .u32 0, .int .i64 0] 53 (fun w => by kernel_rfl) (by kernel_rfl) (fun g3 => ?_)
      refine E.H.back (fun w h => h.less (List.Sublist.cons _ (List.Sublist.refl _))) ?_
      refine E.H.all [5] (by kernel_rfl) (by simp) (List.forall_mem_cons.2 ⟨⟨_, rfl, ?_⟩, fun _ h => (List.not_mem_nil h).elim⟩)
      · skip
        refine E.G.store 0 [.int .i64 i.op, .int .i64 i.d, .int .i64 i.s, .int .i64 i.ix, .int .i64 i.sc, .int .u32 i.imm, .int .i64 i.sz, .int .i64 (((R2.Made a b c x y)).op), .int .i64 (((R2.Made a b c x y)).d), .int .i64 (((R2.Made a b c x y)).s), .int .i64 (((R2.Made a b c x y)).ix), .int .i64 (((R2.Made a b c x y)).sc), .int .u32 (((R2.Made a b c x y)).imm), .int .i64 (((R2.Made a b c x y)).sz)] rfl rfl (by kernel_rfl) (by kernel_rfl) ?_
        refine E.H.back (fun w h => h.less (List.Sublist.cons _ (List.Sublist.refl _))) ?_
        refine E.H.done (by kernel_rfl) ?_
        refine E.To.code ?_
        refine E.C.weak [(2, .int .u32 at_), (6, .bool false), (7, .bool true), (8, .pointer (some ⟨g3, 0, none⟩))] [(g3, [.int .i64 i.op, .int .i64 i.d, .int .i64 i.s, .int .i64 i.ix, .int .i64 i.sc, .int .u32 i.imm, .int .i64 i.sz, .int .i64 (((R2.Made a b c x y)).op), .int .i64 (((R2.Made a b c x y)).d), .int .i64 (((R2.Made a b c x y)).s), .int .i64 (((R2.Made a b c x y)).ix), .int .i64 (((R2.Made a b c x y)).sc), .int .u32 (((R2.Made a b c x y)).imm), .int .i64 (((R2.Made a b c x y)).sz)])] ⟨by kernel_rfl, by kernel_rfl⟩ (List.Sublist.cons_cons _ (List.nil_sublist _)) ?_
        refine E.C.seq ?_
        refine E.C.seq ?_
        refine E.C.region ?_
        refine E.G.op (.int .i64 0) (fun w => by kernel_rfl) (by kernel_rfl) ?_
        refine E.To.code ?_
        refine E.C.block ?_
        refine E.C.rounds 2 ?_
        refine E.C.seq ?_
        refine E.C.seq ?_
        refine E.C.region ?_
        refine E.G.op (.int .i64 0) (fun w => by kernel_rfl) (by kernel_rfl) ?_
        refine E.G.op (.bool true) (fun w => by kernel_rfl) (by kernel_rfl) ?_
        refine E.To.code ?_
        refine E.C.condT (by kernel_rfl) (by kernel_rfl) ?_
        refine E.C.skip (E.To.code ?_)
        refine E.C.seq ?_
        refine E.C.block ?_
        refine E.C.seq ?_
        refine E.C.region ?_
        refine E.G.op (.int .i64 0) (fun w => by kernel_rfl) (by kernel_rfl) ?_
        refine E.G.op (.pointer (some ⟨g3, 0, none⟩)) (fun w => by kernel_rfl) (by kernel_rfl) ?_
        refine E.G.val (.agg #[.int .i64 i.op, .int .i64 i.d, .int .i64 i.s, .int .i64 i.ix, .int .i64 i.sc, .int .u32 i.imm, .int .i64 i.sz]) (by kernel_rfl) (fun w h => E.run_load h 0 rfl rfl (by kernel_rfl)) ?_
        refine E.G.op (.int .u32 at_) (fun w => by kernel_rfl) (by kernel_rfl) ?_
        refine E.G.call (.tuple #[.int .u32 ((R2.Target i at_).1), .bool ((R2.Target i at_).2)]) (fun w h => Target_r i at_ (by (first | assumption | exact (R2.Made_ok _ _ _ _ _).2 | decide | (refine R2.dec_imm _ ?_; (first | assumption | decide | ((try simp only [ByteArray.size_append, ByteArray.size_extract, strOfNums_size, List.length_cons, List.length_nil, K.mn_eq] at *); unfold maxLen at *; omega) | ((try simp only [ByteArray.size_append, ByteArray.size_extract, strOfNums_size, List.length_cons, List.length_nil, K.mn_eq] at *); omega))) | exact K.wrap32 _ | (show (0 : Int) ≤ 0 ∧ (0 : Int) < 4294967296; decide))) w) (fun w _ => by kernel_rfl) (by kernel_rfl) ?_
        refine E.G.op (.tuple #[.int .u32 ((R2.Target i at_).1), .bool ((R2.Target i at_).2)]) (fun w => by kernel_rfl) (by kernel_rfl) ?_
        refine E.G.op (.int .u32 ((R2.Target i at_).1)) (fun w => by kernel_rfl) (by kernel_rfl) ?_
        refine E.G.op (.bool ((R2.Target i at_).2)) (fun w => by kernel_rfl) (by kernel_rfl) ?_
        refine E.G.op (.int .u32 ((R2.Target i at_).1)) (fun w => by kernel_rfl) (by kernel_rfl) ?_
        refine E.G.op (.bool ((R2.Target i at_).2)) (fun w => by kernel_rfl) (by kernel_rfl) ?_
        refine E.To.code ?_
        refine E.C.seq ?_
        refine E.C.region ?_
        refine E.G.op (.int .i64 0) (fun w => by kernel_rfl) (by kernel_rfl) ?_
        refine E.G.op (.pointer (some ⟨g3, 0, none⟩)) (fun w => by kernel_rfl) (by kernel_rfl) ?_
        refine E.G.val (.agg #[.int .i64 i.op, .int .i64 i.d, .int .i64 i.s, .int .i64 i.ix, .int .i64 i.sc, .int .u32 i.imm, .int .i64 i.sz]) (by kernel_rfl) (fun w h => E.run_load h 0 rfl rfl (by kernel_rfl)) ?_
        refine E.G.op (.int .u32 at_) (fun w => by kernel_rfl) (by kernel_rfl) ?_
        refine E.G.call (.agg #[.int .u32 ((R2.Target i at_).1), .bool ((R2.Target i at_).2)]) (fun w h => R2_Target i at_ w) (fun w _ => by kernel_rfl) (by kernel_rfl) ?_
        refine E.G.new (fun g => .pointer (some ⟨g, 0, none⟩)) [.int .u32 0, .bool false] 57 (fun w => by kernel_rfl) (by kernel_rfl) (fun g4 => ?_)
        refine E.G.store 0 [.int .u32 ((R2.Target i at_).1), .bool ((R2.Target i at_).2)] rfl rfl (by kernel_rfl) (by kernel_rfl) ?_
        refine E.To.code ?_
        refine E.C.seq ?_
        refine E.C.quiet (by kernel_rfl) (by kernel_rfl) ?_
        refine E.W.op (.int .u32 ((R2.Target i at_).1)) (fun w => by kernel_rfl) (by kernel_rfl) ?_
        refine E.W.op (.pointer (some ⟨g4, 0, none⟩)) (fun w => by kernel_rfl) (by kernel_rfl) ?_
        refine E.W.val (.int .u32 ((R2.Target i at_).1)) (by kernel_rfl) (fun w h => E.run_load h 0 rfl rfl (by kernel_rfl)) ?_
        refine E.W.op (.bool (((R2.Target i at_).1) != ((R2.Target i at_).1))) (fun w => by kernel_rfl) (by kernel_rfl) ?_
        refine E.W.op (.bool (((R2.Target i at_).1) != ((R2.Target i at_).1))) (fun w => by kernel_rfl) (by kernel_rfl) ?_
        refine E.W.cut 5 [(2, .int .u32 at_), (6, .bool false), (7, .bool true), (8, .pointer (some ⟨g3, 0, none⟩)), (9, .int .i64 0), (10, .int .u32 ((R2.Target i at_).1)), (11, .bool ((R2.Target i at_).2)), (12, .pointer (some ⟨g4, 0, none⟩)), (18, .int .i64 0), (19, .bool true), (22, .tuple #[.int .u32 ((R2.Target i at_).1), .bool ((R2.Target i at_).2)]), (23, .int .i64 0), (24, .pointer (some ⟨g3, 0, none⟩)), (25, .agg #[.int .i64 i.op, .int .i64 i.d, .int .i64 i.s, .int .i64 i.ix, .int .i64 i.sc, .int .u32 i.imm, .int .i64 i.sz]), (26, .int .u32 at_), (27, .tuple #[.int .u32 ((R2.Target i at_).1), .bool ((R2.Target i at_).2)]), (28, .int .u32 ((R2.Target i at_).1)), (29, .bool ((R2.Target i at_).2)), (30, .int .i64 0), (31, .pointer (some ⟨g3, 0, none⟩)), (32, .agg #[.int .i64 i.op, .int .i64 i.d, .int .i64 i.s, .int .i64 i.ix, .int .i64 i.sc, .int .u32 i.imm, .int .i64 i.sz]), (33, .int .u32 at_), (34, .agg #[.int .u32 ((R2.Target i at_).1), .bool ((R2.Target i at_).2)]), (35, .int .u32 ((R2.Target i at_).1)), (36, .pointer (some ⟨g4, 0, none⟩)), (37, .int .u32 ((R2.Target i at_).1)), (38, .bool (((R2.Target i at_).1) != ((R2.Target i at_).1))), (39, .bool (((R2.Target i at_).1) != ((R2.Target i at_).1))), (44, .bool ((((R2.Target i at_).1) != ((R2.Target i at_).1)) || ((R2.Target i at_).2 != (R2.Target i at_).2)))] ?_ ?_
        · generalize hc5 : (((R2.Target i at_).1) != ((R2.Target i at_).1)) = b6
          cases b6
          · skip
            refine E.W.op (.bool ((R2.Target i at_).2)) (fun w => by kernel_rfl) (by kernel_rfl) ?_
            refine E.W.op (.pointer (some ⟨g4, 1, none⟩)) (fun w => by kernel_rfl) (by kernel_rfl) ?_
            refine E.W.val (.bool ((R2.Target i at_).2)) (by kernel_rfl) (fun w h => E.run_load h 0 rfl rfl (by kernel_rfl)) ?_
            refine E.W.op (.bool ((R2.Target i at_).2 != (R2.Target i at_).2)) (fun w => by kernel_rfl) (by kernel_rfl) ?_
            refine E.W.op (.bool ((R2.Target i at_).2 != (R2.Target i at_).2)) (fun w => by kernel_rfl) (by kernel_rfl) ?_
            exact E.W.end_cut ⟨by kernel_rfl, by kernel_rfl⟩
          · skip
            refine E.W.skip (by kernel_rfl) (by kernel_rfl) ?_
            refine E.W.skip (by kernel_rfl) (by kernel_rfl) ?_
            refine E.W.skip (by kernel_rfl) (by kernel_rfl) ?_
            refine E.W.skip (by kernel_rfl) (by kernel_rfl) ?_
            refine E.W.op (.bool true) (fun w => by kernel_rfl) (by kernel_rfl) ?_
            exact E.W.end_cut ⟨by kernel_rfl, by kernel_rfl⟩
        refine E.W.op (.bool ((((R2.Target i at_).1) != ((R2.Target i at_).1)) || ((R2.Target i at_).2 != (R2.Target i at_).2))) (fun w => by kernel_rfl) (by kernel_rfl) ?_
        refine E.W.cut 10 [(2, .int .u32 at_), (6, .bool false), (7, .bool true), (8, .pointer (some ⟨g3, 0, none⟩)), (9, .int .i64 0), (10, .int .u32 ((R2.Target i at_).1)), (11, .bool ((R2.Target i at_).2)), (12, .pointer (some ⟨g4, 0, none⟩)), (18, .int .i64 0), (19, .bool true), (22, .tuple #[.int .u32 ((R2.Target i at_).1), .bool ((R2.Target i at_).2)]), (23, .int .i64 0), (24, .pointer (some ⟨g3, 0, none⟩)), (25, .agg #[.int .i64 i.op, .int .i64 i.d, .int .i64 i.s, .int .i64 i.ix, .int .i64 i.sc, .int .u32 i.imm, .int .i64 i.sz]), (26, .int .u32 at_), (27, .tuple #[.int .u32 ((R2.Target i at_).1), .bool ((R2.Target i at_).2)]), (28, .int .u32 ((R2.Target i at_).1)), (29, .bool ((R2.Target i at_).2)), (30, .int .i64 0), (31, .pointer (some ⟨g3, 0, none⟩)), (32, .agg #[.int .i64 i.op, .int .i64 i.d, .int .i64 i.s, .int .i64 i.ix, .int .i64 i.sc, .int .u32 i.imm, .int .i64 i.sz]), (33, .int .u32 at_), (34, .agg #[.int .u32 ((R2.Target i at_).1), .bool ((R2.Target i at_).2)]), (35, .int .u32 ((R2.Target i at_).1)), (36, .pointer (some ⟨g4, 0, none⟩)), (37, .int .u32 ((R2.Target i at_).1)), (38, .bool (((R2.Target i at_).1) != ((R2.Target i at_).1))), (39, .bool (((R2.Target i at_).1) != ((R2.Target i at_).1))), (44, .bool ((((R2.Target i at_).1) != ((R2.Target i at_).1)) || ((R2.Target i at_).2 != (R2.Target i at_).2))), (45, .bool ((((R2.Target i at_).1) != ((R2.Target i at_).1)) || ((R2.Target i at_).2 != (R2.Target i at_).2))), (55, .bool (((((R2.Target i at_).1) != ((R2.Target i at_).1)) || ((R2.Target i at_).2 != (R2.Target i at_).2)) || ((R2.Ends i) != (R2.Ends i))))] ?_ ?_
        · generalize hc7 : ((((R2.Target i at_).1) != ((R2.Target i at_).1)) || ((R2.Target i at_).2 != (R2.Target i at_).2)) = b8
          cases b8
          · skip
            refine E.W.op (.int .i64 0) (fun w => by kernel_rfl) (by kernel_rfl) ?_
            refine E.W.op (.pointer (some ⟨g3, 0, none⟩)) (fun w => by kernel_rfl) (by kernel_rfl) ?_
            refine E.W.val (.agg #[.int .i64 i.op, .int .i64 i.d, .int .i64 i.s, .int .i64 i.ix, .int .i64 i.sc, .int .u32 i.imm, .int .i64 i.sz]) (by kernel_rfl) (fun w h => E.run_load h 1 rfl rfl (by kernel_rfl)) ?_
            refine E.W.call (.bool (R2.Ends i)) (fun w h => Ends_r i w) (fun w _ => by kernel_rfl) (by kernel_rfl) ?_
            refine E.W.op (.int .i64 0) (fun w => by kernel_rfl) (by kernel_rfl) ?_
            refine E.W.op (.pointer (some ⟨g3, 0, none⟩)) (fun w => by kernel_rfl) (by kernel_rfl) ?_
            refine E.W.val (.agg #[.int .i64 i.op, .int .i64 i.d, .int .i64 i.s, .int .i64 i.ix, .int .i64 i.sc, .int .u32 i.imm, .int .i64 i.sz]) (by kernel_rfl) (fun w h => E.run_load h 1 rfl rfl (by kernel_rfl)) ?_
            refine E.W.call (.bool (R2.Ends i)) (fun w h => R2_Ends i w) (fun w _ => by kernel_rfl) (by kernel_rfl) ?_
            refine E.W.op (.bool ((R2.Ends i) != (R2.Ends i))) (fun w => by kernel_rfl) (by kernel_rfl) ?_
            refine E.W.op (.bool ((R2.Ends i) != (R2.Ends i))) (fun w => by kernel_rfl) (by kernel_rfl) ?_
            exact E.W.end_cut ⟨by kernel_rfl, by kernel_rfl⟩
          · skip
            refine E.W.skip (by kernel_rfl) (by kernel_rfl) ?_
            refine E.W.skip (by kernel_rfl) (by kernel_rfl) ?_
            refine E.W.skip (by kernel_rfl) (by kernel_rfl) ?_
            refine E.W.skip (by kernel_rfl) (by kernel_rfl) ?_
            refine E.W.skip (by kernel_rfl) (by kernel_rfl) ?_
            refine E.W.skip (by kernel_rfl) (by kernel_rfl) ?_
            refine E.W.skip (by kernel_rfl) (by kernel_rfl) ?_
            refine E.W.skip (by kernel_rfl) (by kernel_rfl) ?_
            refine E.W.skip (by kernel_rfl) (by kernel_rfl) ?_
            refine E.W.op (.bool true) (fun w => by kernel_rfl) (by kernel_rfl) ?_
            exact E.W.end_cut ⟨by kernel_rfl, by kernel_rfl⟩
        refine E.W.done (E.To.code ?_)
        refine E.C.cond (((((R2.Target i at_).1) != ((R2.Target i at_).1)) || ((R2.Target i at_).2 != (R2.Target i at_).2)) || ((R2.Ends i) != (R2.Ends i))) (by kernel_rfl) (by kernel_rfl) (fun hc9 => ?_) (fun hc9 => ?_)
        · skip
          refine E.C.seq ?_
          refine E.C.region ?_
          refine E.G.op (.bool false) (fun w => by kernel_rfl) (by kernel_rfl) ?_
          refine E.To.code ?_
          refine E.C.ret (E.P.rb (E.P.rt (E.P.rt (E.P.rb (E.P.rt (E.To.body (fn := Try.f10) [.bool false] ?_ ?_))))))
          · exact ⟨⟨by kernel_rfl, by kernel_rfl⟩, trivial⟩
          · intro w h
            exact ⟨by show Ending.returned (.bool false) = _; unfold K.lawTargets; rw [hc9, cond_true], h.ch.bel (fun _ h => h.elim)⟩
        · skip
          refine E.C.skip (E.P.nb (E.To.code ?_))
          refine E.C.region ?_
          refine E.G.op (.int .i64 0) (fun w => by kernel_rfl) (by kernel_rfl) ?_
          refine E.G.op (.int .i64 1) (fun w => by kernel_rfl) (by kernel_rfl) ?_
          refine E.G.op (.int .i64 1) (fun w => by kernel_rfl) (by kernel_rfl) ?_
          refine E.To.rounds 1 ?_
          refine E.C.weak [(2, .int .u32 at_), (6, .bool false), (7, .bool true), (8, .pointer (some ⟨g3, 0, none⟩)), (9, .int .i64 1), (10, .int .u32 ((R2.Target i at_).1)), (11, .bool ((R2.Target i at_).2)), (12, .pointer (some ⟨g4, 0, none⟩)), (18, .int .i64 0), (19, .bool true), (20, .int .i64 0), (21, .int .i64 1), (22, .tuple #[.int .u32 ((R2.Target i at_).1), .bool ((R2.Target i at_).2)]), (23, .int .i64 0), (24, .pointer (some ⟨g3, 0, none⟩)), (25, .agg #[.int .i64 i.op, .int .i64 i.d, .int .i64 i.s, .int .i64 i.ix, .int .i64 i.sc, .int .u32 i.imm, .int .i64 i.sz]), (26, .int .u32 at_), (27, .tuple #[.int .u32 ((R2.Target i at_).1), .bool ((R2.Target i at_).2)]), (28, .int .u32 ((R2.Target i at_).1)), (29, .bool ((R2.Target i at_).2)), (30, .int .i64 0), (31, .pointer (some ⟨g3, 0, none⟩)), (32, .agg #[.int .i64 i.op, .int .i64 i.d, .int .i64 i.s, .int .i64 i.ix, .int .i64 i.sc, .int .u32 i.imm, .int .i64 i.sz]), (33, .int .u32 at_), (34, .agg #[.int .u32 ((R2.Target i at_).1), .bool ((R2.Target i at_).2)]), (35, .int .u32 ((R2.Target i at_).1)), (36, .pointer (some ⟨g4, 0, none⟩)), (37, .int .u32 ((R2.Target i at_).1)), (38, .bool (((R2.Target i at_).1) != ((R2.Target i at_).1))), (39, .bool (((R2.Target i at_).1) != ((R2.Target i at_).1))), (44, .bool ((((R2.Target i at_).1) != ((R2.Target i at_).1)) || ((R2.Target i at_).2 != (R2.Target i at_).2))), (45, .bool ((((R2.Target i at_).1) != ((R2.Target i at_).1)) || ((R2.Target i at_).2 != (R2.Target i at_).2))), (55, .bool (((((R2.Target i at_).1) != ((R2.Target i at_).1)) || ((R2.Target i at_).2 != (R2.Target i at_).2)) || ((R2.Ends i) != (R2.Ends i))))] [(g4, [.int .u32 ((R2.Target i at_).1), .bool ((R2.Target i at_).2)]), (g3, [.int .i64 i.op, .int .i64 i.d, .int .i64 i.s, .int .i64 i.ix, .int .i64 i.sc, .int .u32 i.imm, .int .i64 i.sz, .int .i64 (((R2.Made a b c x y)).op), .int .i64 (((R2.Made a b c x y)).d), .int .i64 (((R2.Made a b c x y)).s), .int .i64 (((R2.Made a b c x y)).ix), .int .i64 (((R2.Made a b c x y)).sc), .int .u32 (((R2.Made a b c x y)).imm), .int .i64 (((R2.Made a b c x y)).sz)])] ⟨by kernel_rfl, by kernel_rfl⟩ (List.Sublist.refl _) ?_
          refine E.C.seq ?_
          refine E.C.seq ?_
          refine E.C.region ?_
          refine E.G.op (.int .i64 1) (fun w => by kernel_rfl) (by kernel_rfl) ?_
          refine E.G.op (.bool true) (fun w => by kernel_rfl) (by kernel_rfl) ?_
          refine E.To.code ?_
          refine E.C.condT (by kernel_rfl) (by kernel_rfl) ?_
          refine E.C.skip (E.To.code ?_)
          refine E.C.seq ?_
          refine E.C.block ?_
          refine E.C.seq ?_
          refine E.C.region ?_
          refine E.G.op (.int .i64 1) (fun w => by kernel_rfl) (by kernel_rfl) ?_
          refine E.G.op (.pointer (some ⟨g3, 7, none⟩)) (fun w => by kernel_rfl) (by kernel_rfl) ?_
          refine E.G.val (.agg #[.int .i64 (((R2.Made a b c x y)).op), .int .i64 (((R2.Made a b c x y)).d), .int .i64 (((R2.Made a b c x y)).s), .int .i64 (((R2.Made a b c x y)).ix), .int .i64 (((R2.Made a b c x y)).sc), .int .u32 (((R2.Made a b c x y)).imm), .int .i64 (((R2.Made a b c x y)).sz)]) (by kernel_rfl) (fun w h => E.run_load h 1 rfl rfl (by kernel_rfl)) ?_
          refine E.G.op (.int .u32 at_) (fun w => by kernel_rfl) (by kernel_rfl) ?_
          refine E.G.call (.tuple #[.int .u32 ((R2.Target ((R2.Made a b c x y)) at_).1), .bool ((R2.Target ((R2.Made a b c x y)) at_).2)]) (fun w h => Target_r ((R2.Made a b c x y)) at_ (by (first | assumption | exact (R2.Made_ok _ _ _ _ _).2 | decide | (refine R2.dec_imm _ ?_; (first | assumption | decide | ((try simp only [ByteArray.size_append, ByteArray.size_extract, strOfNums_size, List.length_cons, List.length_nil, K.mn_eq] at *); unfold maxLen at *; omega) | ((try simp only [ByteArray.size_append, ByteArray.size_extract, strOfNums_size, List.length_cons, List.length_nil, K.mn_eq] at *); omega))) | exact K.wrap32 _ | (show (0 : Int) ≤ 0 ∧ (0 : Int) < 4294967296; decide))) w) (fun w _ => by kernel_rfl) (by kernel_rfl) ?_
          refine E.G.op (.tuple #[.int .u32 ((R2.Target ((R2.Made a b c x y)) at_).1), .bool ((R2.Target ((R2.Made a b c x y)) at_).2)]) (fun w => by kernel_rfl) (by kernel_rfl) ?_
          refine E.G.op (.int .u32 ((R2.Target ((R2.Made a b c x y)) at_).1)) (fun w => by kernel_rfl) (by kernel_rfl) ?_
          refine E.G.op (.bool ((R2.Target ((R2.Made a b c x y)) at_).2)) (fun w => by kernel_rfl) (by kernel_rfl) ?_
          refine E.G.op (.int .u32 ((R2.Target ((R2.Made a b c x y)) at_).1)) (fun w => by kernel_rfl) (by kernel_rfl) ?_
          refine E.G.op (.bool ((R2.Target ((R2.Made a b c x y)) at_).2)) (fun w => by kernel_rfl) (by kernel_rfl) ?_
          refine E.To.code ?_
          refine E.C.seq ?_
          refine E.C.region ?_
          refine E.G.op (.int .i64 1) (fun w => by kernel_rfl) (by kernel_rfl) ?_
          refine E.G.op (.pointer (some ⟨g3, 7, none⟩)) (fun w => by kernel_rfl) (by kernel_rfl) ?_
          refine E.G.val (.agg #[.int .i64 (((R2.Made a b c x y)).op), .int .i64 (((R2.Made a b c x y)).d), .int .i64 (((R2.Made a b c x y)).s), .int .i64 (((R2.Made a b c x y)).ix), .int .i64 (((R2.Made a b c x y)).sc), .int .u32 (((R2.Made a b c x y)).imm), .int .i64 (((R2.Made a b c x y)).sz)]) (by kernel_rfl) (fun w h => E.run_load h 1 rfl rfl (by kernel_rfl)) ?_
          refine E.G.op (.int .u32 at_) (fun w => by kernel_rfl) (by kernel_rfl) ?_
          refine E.G.call (.agg #[.int .u32 ((R2.Target ((R2.Made a b c x y)) at_).1), .bool ((R2.Target ((R2.Made a b c x y)) at_).2)]) (fun w h => R2_Target ((R2.Made a b c x y)) at_ w) (fun w _ => by kernel_rfl) (by kernel_rfl) ?_
          refine E.G.new (fun g => .pointer (some ⟨g, 0, none⟩)) [.int .u32 0, .bool false] 57 (fun w => by kernel_rfl) (by kernel_rfl) (fun g10 => ?_)
          refine E.G.store 0 [.int .u32 ((R2.Target ((R2.Made a b c x y)) at_).1), .bool ((R2.Target ((R2.Made a b c x y)) at_).2)] rfl rfl (by kernel_rfl) (by kernel_rfl) ?_
          refine E.To.code ?_
          refine E.C.seq ?_
          refine E.C.quiet (by kernel_rfl) (by kernel_rfl) ?_
          refine E.W.op (.int .u32 ((R2.Target ((R2.Made a b c x y)) at_).1)) (fun w => by kernel_rfl) (by kernel_rfl) ?_
          refine E.W.op (.pointer (some ⟨g10, 0, none⟩)) (fun w => by kernel_rfl) (by kernel_rfl) ?_
          refine E.W.val (.int .u32 ((R2.Target ((R2.Made a b c x y)) at_).1)) (by kernel_rfl) (fun w h => E.run_load h 0 rfl rfl (by kernel_rfl)) ?_
          refine E.W.op (.bool (((R2.Target ((R2.Made a b c x y)) at_).1) != ((R2.Target ((R2.Made a b c x y)) at_).1))) (fun w => by kernel_rfl) (by kernel_rfl) ?_
          refine E.W.op (.bool (((R2.Target ((R2.Made a b c x y)) at_).1) != ((R2.Target ((R2.Made a b c x y)) at_).1))) (fun w => by kernel_rfl) (by kernel_rfl) ?_
          refine E.W.cut 5 [(2, .int .u32 at_), (6, .bool false), (7, .bool true), (8, .pointer (some ⟨g3, 0, none⟩)), (9, .int .i64 1), (10, .int .u32 ((R2.Target ((R2.Made a b c x y)) at_).1)), (11, .bool ((R2.Target ((R2.Made a b c x y)) at_).2)), (12, .pointer (some ⟨g10, 0, none⟩)), (18, .int .i64 1), (19, .bool true), (20, .int .i64 0), (21, .int .i64 1), (22, .tuple #[.int .u32 ((R2.Target ((R2.Made a b c x y)) at_).1), .bool ((R2.Target ((R2.Made a b c x y)) at_).2)]), (23, .int .i64 1), (24, .pointer (some ⟨g3, 7, none⟩)), (25, .agg #[.int .i64 (((R2.Made a b c x y)).op), .int .i64 (((R2.Made a b c x y)).d), .int .i64 (((R2.Made a b c x y)).s), .int .i64 (((R2.Made a b c x y)).ix), .int .i64 (((R2.Made a b c x y)).sc), .int .u32 (((R2.Made a b c x y)).imm), .int .i64 (((R2.Made a b c x y)).sz)]), (26, .int .u32 at_), (27, .tuple #[.int .u32 ((R2.Target ((R2.Made a b c x y)) at_).1), .bool ((R2.Target ((R2.Made a b c x y)) at_).2)]), (28, .int .u32 ((R2.Target ((R2.Made a b c x y)) at_).1)), (29, .bool ((R2.Target ((R2.Made a b c x y)) at_).2)), (30, .int .i64 1), (31, .pointer (some ⟨g3, 7, none⟩)), (32, .agg #[.int .i64 (((R2.Made a b c x y)).op), .int .i64 (((R2.Made a b c x y)).d), .int .i64 (((R2.Made a b c x y)).s), .int .i64 (((R2.Made a b c x y)).ix), .int .i64 (((R2.Made a b c x y)).sc), .int .u32 (((R2.Made a b c x y)).imm), .int .i64 (((R2.Made a b c x y)).sz)]), (33, .int .u32 at_), (34, .agg #[.int .u32 ((R2.Target ((R2.Made a b c x y)) at_).1), .bool ((R2.Target ((R2.Made a b c x y)) at_).2)]), (35, .int .u32 ((R2.Target ((R2.Made a b c x y)) at_).1)), (36, .pointer (some ⟨g10, 0, none⟩)), (37, .int .u32 ((R2.Target ((R2.Made a b c x y)) at_).1)), (38, .bool (((R2.Target ((R2.Made a b c x y)) at_).1) != ((R2.Target ((R2.Made a b c x y)) at_).1))), (39, .bool (((R2.Target ((R2.Made a b c x y)) at_).1) != ((R2.Target ((R2.Made a b c x y)) at_).1))), (44, .bool ((((R2.Target ((R2.Made a b c x y)) at_).1) != ((R2.Target ((R2.Made a b c x y)) at_).1)) || ((R2.Target ((R2.Made a b c x y)) at_).2 != (R2.Target ((R2.Made a b c x y)) at_).2))), (45, .bool ((((R2.Target i at_).1) != ((R2.Target i at_).1)) || ((R2.Target i at_).2 != (R2.Target i at_).2))), (55, .bool (((((R2.Target i at_).1) != ((R2.Target i at_).1)) || ((R2.Target i at_).2 != (R2.Target i at_).2)) || ((R2.Ends i) != (R2.Ends i))))] ?_ ?_
          · generalize hc11 : (((R2.Target ((R2.Made a b c x y)) at_).1) != ((R2.Target ((R2.Made a b c x y)) at_).1)) = b12
            cases b12
            · skip
              refine E.W.op (.bool ((R2.Target ((R2.Made a b c x y)) at_).2)) (fun w => by kernel_rfl) (by kernel_rfl) ?_
              refine E.W.op (.pointer (some ⟨g10, 1, none⟩)) (fun w => by kernel_rfl) (by kernel_rfl) ?_
              refine E.W.val (.bool ((R2.Target ((R2.Made a b c x y)) at_).2)) (by kernel_rfl) (fun w h => E.run_load h 0 rfl rfl (by kernel_rfl)) ?_
              refine E.W.op (.bool ((R2.Target ((R2.Made a b c x y)) at_).2 != (R2.Target ((R2.Made a b c x y)) at_).2)) (fun w => by kernel_rfl) (by kernel_rfl) ?_
              refine E.W.op (.bool ((R2.Target ((R2.Made a b c x y)) at_).2 != (R2.Target ((R2.Made a b c x y)) at_).2)) (fun w => by kernel_rfl) (by kernel_rfl) ?_
              exact E.W.end_cut ⟨by kernel_rfl, by kernel_rfl⟩
            · skip
              refine E.W.skip (by kernel_rfl) (by kernel_rfl) ?_
              refine E.W.skip (by kernel_rfl) (by kernel_rfl) ?_
              refine E.W.skip (by kernel_rfl) (by kernel_rfl) ?_
              refine E.W.skip (by kernel_rfl) (by kernel_rfl) ?_
              refine E.W.op (.bool true) (fun w => by kernel_rfl) (by kernel_rfl) ?_
              exact E.W.end_cut ⟨by kernel_rfl, by kernel_rfl⟩
          refine E.W.op (.bool ((((R2.Target ((R2.Made a b c x y)) at_).1) != ((R2.Target ((R2.Made a b c x y)) at_).1)) || ((R2.Target ((R2.Made a b c x y)) at_).2 != (R2.Target ((R2.Made a b c x y)) at_).2))) (fun w => by kernel_rfl) (by kernel_rfl) ?_
          refine E.W.cut 10 [(2, .int .u32 at_), (6, .bool false), (7, .bool true), (8, .pointer (some ⟨g3, 0, none⟩)), (9, .int .i64 1), (10, .int .u32 ((R2.Target ((R2.Made a b c x y)) at_).1)), (11, .bool ((R2.Target ((R2.Made a b c x y)) at_).2)), (12, .pointer (some ⟨g10, 0, none⟩)), (18, .int .i64 1), (19, .bool true), (20, .int .i64 0), (21, .int .i64 1), (22, .tuple #[.int .u32 ((R2.Target ((R2.Made a b c x y)) at_).1), .bool ((R2.Target ((R2.Made a b c x y)) at_).2)]), (23, .int .i64 1), (24, .pointer (some ⟨g3, 7, none⟩)), (25, .agg #[.int .i64 (((R2.Made a b c x y)).op), .int .i64 (((R2.Made a b c x y)).d), .int .i64 (((R2.Made a b c x y)).s), .int .i64 (((R2.Made a b c x y)).ix), .int .i64 (((R2.Made a b c x y)).sc), .int .u32 (((R2.Made a b c x y)).imm), .int .i64 (((R2.Made a b c x y)).sz)]), (26, .int .u32 at_), (27, .tuple #[.int .u32 ((R2.Target ((R2.Made a b c x y)) at_).1), .bool ((R2.Target ((R2.Made a b c x y)) at_).2)]), (28, .int .u32 ((R2.Target ((R2.Made a b c x y)) at_).1)), (29, .bool ((R2.Target ((R2.Made a b c x y)) at_).2)), (30, .int .i64 1), (31, .pointer (some ⟨g3, 7, none⟩)), (32, .agg #[.int .i64 (((R2.Made a b c x y)).op), .int .i64 (((R2.Made a b c x y)).d), .int .i64 (((R2.Made a b c x y)).s), .int .i64 (((R2.Made a b c x y)).ix), .int .i64 (((R2.Made a b c x y)).sc), .int .u32 (((R2.Made a b c x y)).imm), .int .i64 (((R2.Made a b c x y)).sz)]), (33, .int .u32 at_), (34, .agg #[.int .u32 ((R2.Target ((R2.Made a b c x y)) at_).1), .bool ((R2.Target ((R2.Made a b c x y)) at_).2)]), (35, .int .u32 ((R2.Target ((R2.Made a b c x y)) at_).1)), (36, .pointer (some ⟨g10, 0, none⟩)), (37, .int .u32 ((R2.Target ((R2.Made a b c x y)) at_).1)), (38, .bool (((R2.Target ((R2.Made a b c x y)) at_).1) != ((R2.Target ((R2.Made a b c x y)) at_).1))), (39, .bool (((R2.Target ((R2.Made a b c x y)) at_).1) != ((R2.Target ((R2.Made a b c x y)) at_).1))), (44, .bool ((((R2.Target ((R2.Made a b c x y)) at_).1) != ((R2.Target ((R2.Made a b c x y)) at_).1)) || ((R2.Target ((R2.Made a b c x y)) at_).2 != (R2.Target ((R2.Made a b c x y)) at_).2))), (45, .bool ((((R2.Target ((R2.Made a b c x y)) at_).1) != ((R2.Target ((R2.Made a b c x y)) at_).1)) || ((R2.Target ((R2.Made a b c x y)) at_).2 != (R2.Target ((R2.Made a b c x y)) at_).2))), (55, .bool (((((R2.Target ((R2.Made a b c x y)) at_).1) != ((R2.Target ((R2.Made a b c x y)) at_).1)) || ((R2.Target ((R2.Made a b c x y)) at_).2 != (R2.Target ((R2.Made a b c x y)) at_).2)) || ((R2.Ends ((R2.Made a b c x y))) != (R2.Ends ((R2.Made a b c x y))))))] ?_ ?_
          · generalize hc13 : ((((R2.Target ((R2.Made a b c x y)) at_).1) != ((R2.Target ((R2.Made a b c x y)) at_).1)) || ((R2.Target ((R2.Made a b c x y)) at_).2 != (R2.Target ((R2.Made a b c x y)) at_).2)) = b14
            cases b14
            · skip
              refine E.W.op (.int .i64 1) (fun w => by kernel_rfl) (by kernel_rfl) ?_
              refine E.W.op (.pointer (some ⟨g3, 7, none⟩)) (fun w => by kernel_rfl) (by kernel_rfl) ?_
              refine E.W.val (.agg #[.int .i64 (((R2.Made a b c x y)).op), .int .i64 (((R2.Made a b c x y)).d), .int .i64 (((R2.Made a b c x y)).s), .int .i64 (((R2.Made a b c x y)).ix), .int .i64 (((R2.Made a b c x y)).sc), .int .u32 (((R2.Made a b c x y)).imm), .int .i64 (((R2.Made a b c x y)).sz)]) (by kernel_rfl) (fun w h => E.run_load h 2 rfl rfl (by kernel_rfl)) ?_
              refine E.W.call (.bool (R2.Ends ((R2.Made a b c x y)))) (fun w h => Ends_r ((R2.Made a b c x y)) w) (fun w _ => by kernel_rfl) (by kernel_rfl) ?_
              refine E.W.op (.int .i64 1) (fun w => by kernel_rfl) (by kernel_rfl) ?_
              refine E.W.op (.pointer (some ⟨g3, 7, none⟩)) (fun w => by kernel_rfl) (by kernel_rfl) ?_
              refine E.W.val (.agg #[.int .i64 (((R2.Made a b c x y)).op), .int .i64 (((R2.Made a b c x y)).d), .int .i64 (((R2.Made a b c x y)).s), .int .i64 (((R2.Made a b c x y)).ix), .int .i64 (((R2.Made a b c x y)).sc), .int .u32 (((R2.Made a b c x y)).imm), .int .i64 (((R2.Made a b c x y)).sz)]) (by kernel_rfl) (fun w h => E.run_load h 2 rfl rfl (by kernel_rfl)) ?_
              refine E.W.call (.bool (R2.Ends ((R2.Made a b c x y)))) (fun w h => R2_Ends ((R2.Made a b c x y)) w) (fun w _ => by kernel_rfl) (by kernel_rfl) ?_
              refine E.W.op (.bool ((R2.Ends ((R2.Made a b c x y))) != (R2.Ends ((R2.Made a b c x y))))) (fun w => by kernel_rfl) (by kernel_rfl) ?_
              refine E.W.op (.bool ((R2.Ends ((R2.Made a b c x y))) != (R2.Ends ((R2.Made a b c x y))))) (fun w => by kernel_rfl) (by kernel_rfl) ?_
              exact E.W.end_cut ⟨by kernel_rfl, by kernel_rfl⟩
            · skip
              refine E.W.skip (by kernel_rfl) (by kernel_rfl) ?_
              refine E.W.skip (by kernel_rfl) (by kernel_rfl) ?_
              refine E.W.skip (by kernel_rfl) (by kernel_rfl) ?_
              refine E.W.skip (by kernel_rfl) (by kernel_rfl) ?_
              refine E.W.skip (by kernel_rfl) (by kernel_rfl) ?_
              refine E.W.skip (by kernel_rfl) (by kernel_rfl) ?_
              refine E.W.skip (by kernel_rfl) (by kernel_rfl) ?_
              refine E.W.skip (by kernel_rfl) (by kernel_rfl) ?_
              refine E.W.skip (by kernel_rfl) (by kernel_rfl) ?_
              refine E.W.op (.bool true) (fun w => by kernel_rfl) (by kernel_rfl) ?_
              exact E.W.end_cut ⟨by kernel_rfl, by kernel_rfl⟩
          refine E.W.done (E.To.code ?_)
          refine E.C.cond (((((R2.Target ((R2.Made a b c x y)) at_).1) != ((R2.Target ((R2.Made a b c x y)) at_).1)) || ((R2.Target ((R2.Made a b c x y)) at_).2 != (R2.Target ((R2.Made a b c x y)) at_).2)) || ((R2.Ends ((R2.Made a b c x y))) != (R2.Ends ((R2.Made a b c x y))))) (by kernel_rfl) (by kernel_rfl) (fun hc15 => ?_) (fun hc15 => ?_)
          · skip
            refine E.C.seq ?_
            refine E.C.region ?_
            refine E.G.op (.bool false) (fun w => by kernel_rfl) (by kernel_rfl) ?_
            refine E.To.code ?_
            refine E.C.ret (E.P.rb (E.P.rt (E.P.rt (E.P.rb (E.P.rt (E.To.body (fn := Try.f10) [.bool false] ?_ ?_))))))
            · exact ⟨⟨by kernel_rfl, by kernel_rfl⟩, trivial⟩
            · intro w h
              exact ⟨by show Ending.returned (.bool false) = _; unfold K.lawTargets; rw [hc9, cond_false, hc15, cond_true], h.ch.bel (fun _ h => h.elim)⟩
          · skip
            refine E.C.skip (E.P.nb (E.To.code ?_))
            refine E.C.region ?_
            refine E.G.op (.int .i64 1) (fun w => by kernel_rfl) (by kernel_rfl) ?_
            refine E.G.op (.int .i64 2) (fun w => by kernel_rfl) (by kernel_rfl) ?_
            refine E.G.op (.int .i64 2) (fun w => by kernel_rfl) (by kernel_rfl) ?_
            refine E.To.rounds 0 ?_
            refine E.C.weak [(2, .int .u32 at_), (6, .bool false), (7, .bool true), (8, .pointer (some ⟨g3, 0, none⟩)), (9, .int .i64 2), (10, .int .u32 ((R2.Target ((R2.Made a b c x y)) at_).1)), (11, .bool ((R2.Target ((R2.Made a b c x y)) at_).2)), (12, .pointer (some ⟨g10, 0, none⟩)), (18, .int .i64 1), (19, .bool true), (20, .int .i64 1), (21, .int .i64 2), (22, .tuple #[.int .u32 ((R2.Target ((R2.Made a b c x y)) at_).1), .bool ((R2.Target ((R2.Made a b c x y)) at_).2)]), (23, .int .i64 1), (24, .pointer (some ⟨g3, 7, none⟩)), (25, .agg #[.int .i64 (((R2.Made a b c x y)).op), .int .i64 (((R2.Made a b c x y)).d), .int .i64 (((R2.Made a b c x y)).s), .int .i64 (((R2.Made a b c x y)).ix), .int .i64 (((R2.Made a b c x y)).sc), .int .u32 (((R2.Made a b c x y)).imm), .int .i64 (((R2.Made a b c x y)).sz)]), (26, .int .u32 at_), (27, .tuple #[.int .u32 ((R2.Target ((R2.Made a b c x y)) at_).1), .bool ((R2.Target ((R2.Made a b c x y)) at_).2)]), (28, .int .u32 ((R2.Target ((R2.Made a b c x y)) at_).1)), (29, .bool ((R2.Target ((R2.Made a b c x y)) at_).2)), (30, .int .i64 1), (31, .pointer (some ⟨g3, 7, none⟩)), (32, .agg #[.int .i64 (((R2.Made a b c x y)).op), .int .i64 (((R2.Made a b c x y)).d), .int .i64 (((R2.Made a b c x y)).s), .int .i64 (((R2.Made a b c x y)).ix), .int .i64 (((R2.Made a b c x y)).sc), .int .u32 (((R2.Made a b c x y)).imm), .int .i64 (((R2.Made a b c x y)).sz)]), (33, .int .u32 at_), (34, .agg #[.int .u32 ((R2.Target ((R2.Made a b c x y)) at_).1), .bool ((R2.Target ((R2.Made a b c x y)) at_).2)]), (35, .int .u32 ((R2.Target ((R2.Made a b c x y)) at_).1)), (36, .pointer (some ⟨g10, 0, none⟩)), (37, .int .u32 ((R2.Target ((R2.Made a b c x y)) at_).1)), (38, .bool (((R2.Target ((R2.Made a b c x y)) at_).1) != ((R2.Target ((R2.Made a b c x y)) at_).1))), (39, .bool (((R2.Target ((R2.Made a b c x y)) at_).1) != ((R2.Target ((R2.Made a b c x y)) at_).1))), (44, .bool ((((R2.Target ((R2.Made a b c x y)) at_).1) != ((R2.Target ((R2.Made a b c x y)) at_).1)) || ((R2.Target ((R2.Made a b c x y)) at_).2 != (R2.Target ((R2.Made a b c x y)) at_).2))), (45, .bool ((((R2.Target ((R2.Made a b c x y)) at_).1) != ((R2.Target ((R2.Made a b c x y)) at_).1)) || ((R2.Target ((R2.Made a b c x y)) at_).2 != (R2.Target ((R2.Made a b c x y)) at_).2))), (55, .bool (((((R2.Target ((R2.Made a b c x y)) at_).1) != ((R2.Target ((R2.Made a b c x y)) at_).1)) || ((R2.Target ((R2.Made a b c x y)) at_).2 != (R2.Target ((R2.Made a b c x y)) at_).2)) || ((R2.Ends ((R2.Made a b c x y))) != (R2.Ends ((R2.Made a b c x y))))))] [(g10, [.int .u32 ((R2.Target ((R2.Made a b c x y)) at_).1), .bool ((R2.Target ((R2.Made a b c x y)) at_).2)]), (g3, [.int .i64 i.op, .int .i64 i.d, .int .i64 i.s, .int .i64 i.ix, .int .i64 i.sc, .int .u32 i.imm, .int .i64 i.sz, .int .i64 (((R2.Made a b c x y)).op), .int .i64 (((R2.Made a b c x y)).d), .int .i64 (((R2.Made a b c x y)).s), .int .i64 (((R2.Made a b c x y)).ix), .int .i64 (((R2.Made a b c x y)).sc), .int .u32 (((R2.Made a b c x y)).imm), .int .i64 (((R2.Made a b c x y)).sz)])] ⟨by kernel_rfl, by kernel_rfl⟩ (List.Sublist.cons_cons _ (List.Sublist.cons _ (List.Sublist.refl _))) ?_
            refine E.C.seq ?_
            refine E.C.seq ?_
            refine E.C.region ?_
            refine E.G.op (.int .i64 2) (fun w => by kernel_rfl) (by kernel_rfl) ?_
            refine E.G.op (.bool false) (fun w => by kernel_rfl) (by kernel_rfl) ?_
            refine E.To.code ?_
            refine E.C.condF (by kernel_rfl) (by kernel_rfl) ?_
            refine E.C.exit (E.P.et (E.P.et (E.P.eh (E.To.code ?_))))
            refine E.C.weak [(6, .bool false), (7, .bool true)] [] ⟨by kernel_rfl, by kernel_rfl⟩ (List.nil_sublist _) ?_
            refine E.C.seq ?_
            refine E.C.region ?_
            refine E.G.op (.bool true) (fun w => by kernel_rfl) (by kernel_rfl) ?_
            refine E.G.op (.bool true) (fun w => by kernel_rfl) (by kernel_rfl) ?_
            refine E.To.code ?_
            refine E.C.ret (E.To.body (fn := Try.f10) [.bool true] ?_ ?_)
            · exact ⟨⟨by kernel_rfl, by kernel_rfl⟩, trivial⟩
            · intro w h
              exact ⟨by show Ending.returned (.bool true) = _; unfold K.lawTargets; rw [hc9, cond_false, hc15, cond_false], h.ch.bel (fun _ h => h.elim)⟩
  · skip
    refine E.G.new (fun g => .pointer (some ⟨g, 0, none⟩)) [.int .i64 0, .int .i64 0, .int .i64 0, .int .i64 0, .int .i64 0, .int .u32 0, .int .i64 0, .int .i64 0, .int .i64 0, .int .i64 0, .int .i64 0, .int .i64 0, .int .u32 0, .int .i64 0] 53 (fun w => by kernel_rfl) (by kernel_rfl) (fun g16 => ?_)
    refine E.H.back (fun w h => h.less (List.Sublist.cons _ (List.Sublist.refl _))) ?_
    refine E.H.all [2] (by kernel_rfl) (by simp) (List.forall_mem_cons.2 ⟨⟨_, rfl, ?_⟩, fun _ h => (List.not_mem_nil h).elim⟩)
    · skip
      refine E.G.call (.agg #[.int .i64 (((R2.Made a b c x y)).op), .int .i64 (((R2.Made a b c x y)).d), .int .i64 (((R2.Made a b c x y)).s), .int .i64 (((R2.Made a b c x y)).ix), .int .i64 (((R2.Made a b c x y)).sc), .int .u32 (((R2.Made a b c x y)).imm), .int .i64 (((R2.Made a b c x y)).sz)]) (fun w h => R2_Made a b c x y w) (fun w _ => by kernel_rfl) (by kernel_rfl) ?_
      refine E.H.back (fun w h => h.less (List.Sublist.cons _ (List.Sublist.refl _))) ?_
      refine E.H.take 3 (.agg #[.int .i64 i.op, .int .i64 i.d, .int .i64 i.s, .int .i64 i.ix, .int .i64 i.sc, .int .u32 i.imm, .int .i64 i.sz, .int .i64 (((R2.Made a b c x y)).op), .int .i64 (((R2.Made a b c x y)).d), .int .i64 (((R2.Made a b c x y)).s), .int .i64 (((R2.Made a b c x y)).ix), .int .i64 (((R2.Made a b c x y)).sc), .int .u32 (((R2.Made a b c x y)).imm), .int .i64 (((R2.Made a b c x y)).sz)]) rfl (by kernel_rfl) (by kernel_rfl) (by kernel_rfl) (fun _ _ _ h => h) (fun w h => h.less (List.Sublist.cons _ (List.Sublist.refl _))) (.inl ⟨by kernel_rfl, by kernel_rfl, fun w h => E.run_build #[.int .i64 i.op, .int .i64 i.d, .int .i64 i.s, .int .i64 i.ix, .int .i64 i.sc, .int .u32 i.imm, .int .i64 i.sz, .int .i64 (((R2.Made a b c x y)).op), .int .i64 (((R2.Made a b c x y)).d), .int .i64 (((R2.Made a b c x y)).s), .int .i64 (((R2.Made a b c x y)).ix), .int .i64 (((R2.Made a b c x y)).sc), .int .u32 (((R2.Made a b c x y)).imm), .int .i64 (((R2.Made a b c x y)).sz)] (by kernel_rfl) w⟩) (by kernel_rfl) ?_
      refine E.H.all [5] (by kernel_rfl) (by simp) (List.forall_mem_cons.2 ⟨⟨_, rfl, ?_⟩, fun _ h => (List.not_mem_nil h).elim⟩)
      · skip
        refine E.G.store 0 [.int .i64 i.op, .int .i64 i.d, .int .i64 i.s, .int .i64 i.ix, .int .i64 i.sc, .int .u32 i.imm, .int .i64 i.sz, .int .i64 (((R2.Made a b c x y)).op), .int .i64 (((R2.Made a b c x y)).d), .int .i64 (((R2.Made a b c x y)).s), .int .i64 (((R2.Made a b c x y)).ix), .int .i64 (((R2.Made a b c x y)).sc), .int .u32 (((R2.Made a b c x y)).imm), .int .i64 (((R2.Made a b c x y)).sz)] rfl rfl (by kernel_rfl) (by kernel_rfl) ?_
        refine E.H.back (fun w h => h.less (List.Sublist.cons _ (List.Sublist.refl _))) ?_
        refine E.H.done (by kernel_rfl) ?_
        refine E.To.code ?_
        refine E.C.weak [(2, .int .u32 at_), (6, .bool false), (7, .bool true), (8, .pointer (some ⟨g16, 0, none⟩))] [(g16, [.int .i64 i.op, .int .i64 i.d, .int .i64 i.s, .int .i64 i.ix, .int .i64 i.sc, .int .u32 i.imm, .int .i64 i.sz, .int .i64 (((R2.Made a b c x y)).op), .int .i64 (((R2.Made a b c x y)).d), .int .i64 (((R2.Made a b c x y)).s), .int .i64 (((R2.Made a b c x y)).ix), .int .i64 (((R2.Made a b c x y)).sc), .int .u32 (((R2.Made a b c x y)).imm), .int .i64 (((R2.Made a b c x y)).sz)])] ⟨by kernel_rfl, by kernel_rfl⟩ (List.Sublist.cons_cons _ (List.nil_sublist _)) ?_
        refine E.C.seq ?_
        refine E.C.seq ?_
        refine E.C.region ?_
        refine E.G.op (.int .i64 0) (fun w => by kernel_rfl) (by kernel_rfl) ?_
        refine E.To.code ?_
        refine E.C.block ?_
        refine E.C.rounds 2 ?_
        refine E.C.seq ?_
        refine E.C.seq ?_
        refine E.C.region ?_
        refine E.G.op (.int .i64 0) (fun w => by kernel_rfl) (by kernel_rfl) ?_
        refine E.G.op (.bool true) (fun w => by kernel_rfl) (by kernel_rfl) ?_
        refine E.To.code ?_
        refine E.C.condT (by kernel_rfl) (by kernel_rfl) ?_
        refine E.C.skip (E.To.code ?_)
        refine E.C.seq ?_
        refine E.C.block ?_
        refine E.C.seq ?_
        refine E.C.region ?_
        refine E.G.op (.int .i64 0) (fun w => by kernel_rfl) (by kernel_rfl) ?_
        refine E.G.op (.pointer (some ⟨g16, 0, none⟩)) (fun w => by kernel_rfl) (by kernel_rfl) ?_
        refine E.G.val (.agg #[.int .i64 i.op, .int .i64 i.d, .int .i64 i.s, .int .i64 i.ix, .int .i64 i.sc, .int .u32 i.imm, .int .i64 i.sz]) (by kernel_rfl) (fun w h => E.run_load h 0 rfl rfl (by kernel_rfl)) ?_
        refine E.G.op (.int .u32 at_) (fun w => by kernel_rfl) (by kernel_rfl) ?_
        refine E.G.call (.tuple #[.int .u32 ((R2.Target i at_).1), .bool ((R2.Target i at_).2)]) (fun w h => Target_r i at_ (by (first | assumption | exact (R2.Made_ok _ _ _ _ _).2 | decide | (refine R2.dec_imm _ ?_; (first | assumption | decide | ((try simp only [ByteArray.size_append, ByteArray.size_extract, strOfNums_size, List.length_cons, List.length_nil, K.mn_eq] at *); unfold maxLen at *; omega) | ((try simp only [ByteArray.size_append, ByteArray.size_extract, strOfNums_size, List.length_cons, List.length_nil, K.mn_eq] at *); omega))) | exact K.wrap32 _ | (show (0 : Int) ≤ 0 ∧ (0 : Int) < 4294967296; decide))) w) (fun w _ => by kernel_rfl) (by kernel_rfl) ?_
        refine E.G.op (.tuple #[.int .u32 ((R2.Target i at_).1), .bool ((R2.Target i at_).2)]) (fun w => by kernel_rfl) (by kernel_rfl) ?_
        refine E.G.op (.int .u32 ((R2.Target i at_).1)) (fun w => by kernel_rfl) (by kernel_rfl) ?_
        refine E.G.op (.bool ((R2.Target i at_).2)) (fun w => by kernel_rfl) (by kernel_rfl) ?_
        refine E.G.op (.int .u32 ((R2.Target i at_).1)) (fun w => by kernel_rfl) (by kernel_rfl) ?_
        refine E.G.op (.bool ((R2.Target i at_).2)) (fun w => by kernel_rfl) (by kernel_rfl) ?_
        refine E.To.code ?_
        refine E.C.seq ?_
        refine E.C.region ?_
        refine E.G.op (.int .i64 0) (fun w => by kernel_rfl) (by kernel_rfl) ?_
        refine E.G.op (.pointer (some ⟨g16, 0, none⟩)) (fun w => by kernel_rfl) (by kernel_rfl) ?_
        refine E.G.val (.agg #[.int .i64 i.op, .int .i64 i.d, .int .i64 i.s, .int .i64 i.ix, .int .i64 i.sc, .int .u32 i.imm, .int .i64 i.sz]) (by kernel_rfl) (fun w h => E.run_load h 0 rfl rfl (by kernel_rfl)) ?_
        refine E.G.op (.int .u32 at_) (fun w => by kernel_rfl) (by kernel_rfl) ?_
        refine E.G.call (.agg #[.int .u32 ((R2.Target i at_).1), .bool ((R2.Target i at_).2)]) (fun w h => R2_Target i at_ w) (fun w _ => by kernel_rfl) (by kernel_rfl) ?_
        refine E.G.new (fun g => .pointer (some ⟨g, 0, none⟩)) [.int .u32 0, .bool false] 57 (fun w => by kernel_rfl) (by kernel_rfl) (fun g17 => ?_)
        refine E.G.store 0 [.int .u32 ((R2.Target i at_).1), .bool ((R2.Target i at_).2)] rfl rfl (by kernel_rfl) (by kernel_rfl) ?_
        refine E.To.code ?_
        refine E.C.seq ?_
        refine E.C.quiet (by kernel_rfl) (by kernel_rfl) ?_
        refine E.W.op (.int .u32 ((R2.Target i at_).1)) (fun w => by kernel_rfl) (by kernel_rfl) ?_
        refine E.W.op (.pointer (some ⟨g17, 0, none⟩)) (fun w => by kernel_rfl) (by kernel_rfl) ?_
        refine E.W.val (.int .u32 ((R2.Target i at_).1)) (by kernel_rfl) (fun w h => E.run_load h 0 rfl rfl (by kernel_rfl)) ?_
        refine E.W.op (.bool (((R2.Target i at_).1) != ((R2.Target i at_).1))) (fun w => by kernel_rfl) (by kernel_rfl) ?_
        refine E.W.op (.bool (((R2.Target i at_).1) != ((R2.Target i at_).1))) (fun w => by kernel_rfl) (by kernel_rfl) ?_
        refine E.W.cut 5 [(2, .int .u32 at_), (6, .bool false), (7, .bool true), (8, .pointer (some ⟨g16, 0, none⟩)), (9, .int .i64 0), (10, .int .u32 ((R2.Target i at_).1)), (11, .bool ((R2.Target i at_).2)), (12, .pointer (some ⟨g17, 0, none⟩)), (18, .int .i64 0), (19, .bool true), (22, .tuple #[.int .u32 ((R2.Target i at_).1), .bool ((R2.Target i at_).2)]), (23, .int .i64 0), (24, .pointer (some ⟨g16, 0, none⟩)), (25, .agg #[.int .i64 i.op, .int .i64 i.d, .int .i64 i.s, .int .i64 i.ix, .int .i64 i.sc, .int .u32 i.imm, .int .i64 i.sz]), (26, .int .u32 at_), (27, .tuple #[.int .u32 ((R2.Target i at_).1), .bool ((R2.Target i at_).2)]), (28, .int .u32 ((R2.Target i at_).1)), (29, .bool ((R2.Target i at_).2)), (30, .int .i64 0), (31, .pointer (some ⟨g16, 0, none⟩)), (32, .agg #[.int .i64 i.op, .int .i64 i.d, .int .i64 i.s, .int .i64 i.ix, .int .i64 i.sc, .int .u32 i.imm, .int .i64 i.sz]), (33, .int .u32 at_), (34, .agg #[.int .u32 ((R2.Target i at_).1), .bool ((R2.Target i at_).2)]), (35, .int .u32 ((R2.Target i at_).1)), (36, .pointer (some ⟨g17, 0, none⟩)), (37, .int .u32 ((R2.Target i at_).1)), (38, .bool (((R2.Target i at_).1) != ((R2.Target i at_).1))), (39, .bool (((R2.Target i at_).1) != ((R2.Target i at_).1))), (44, .bool ((((R2.Target i at_).1) != ((R2.Target i at_).1)) || ((R2.Target i at_).2 != (R2.Target i at_).2)))] ?_ ?_
        · generalize hc18 : (((R2.Target i at_).1) != ((R2.Target i at_).1)) = b19
          cases b19
          · skip
            refine E.W.op (.bool ((R2.Target i at_).2)) (fun w => by kernel_rfl) (by kernel_rfl) ?_
            refine E.W.op (.pointer (some ⟨g17, 1, none⟩)) (fun w => by kernel_rfl) (by kernel_rfl) ?_
            refine E.W.val (.bool ((R2.Target i at_).2)) (by kernel_rfl) (fun w h => E.run_load h 0 rfl rfl (by kernel_rfl)) ?_
            refine E.W.op (.bool ((R2.Target i at_).2 != (R2.Target i at_).2)) (fun w => by kernel_rfl) (by kernel_rfl) ?_
            refine E.W.op (.bool ((R2.Target i at_).2 != (R2.Target i at_).2)) (fun w => by kernel_rfl) (by kernel_rfl) ?_
            exact E.W.end_cut ⟨by kernel_rfl, by kernel_rfl⟩
          · skip
            refine E.W.skip (by kernel_rfl) (by kernel_rfl) ?_
            refine E.W.skip (by kernel_rfl) (by kernel_rfl) ?_
            refine E.W.skip (by kernel_rfl) (by kernel_rfl) ?_
            refine E.W.skip (by kernel_rfl) (by kernel_rfl) ?_
            refine E.W.op (.bool true) (fun w => by kernel_rfl) (by kernel_rfl) ?_
            exact E.W.end_cut ⟨by kernel_rfl, by kernel_rfl⟩
        refine E.W.op (.bool ((((R2.Target i at_).1) != ((R2.Target i at_).1)) || ((R2.Target i at_).2 != (R2.Target i at_).2))) (fun w => by kernel_rfl) (by kernel_rfl) ?_
        refine E.W.cut 10 [(2, .int .u32 at_), (6, .bool false), (7, .bool true), (8, .pointer (some ⟨g16, 0, none⟩)), (9, .int .i64 0), (10, .int .u32 ((R2.Target i at_).1)), (11, .bool ((R2.Target i at_).2)), (12, .pointer (some ⟨g17, 0, none⟩)), (18, .int .i64 0), (19, .bool true), (22, .tuple #[.int .u32 ((R2.Target i at_).1), .bool ((R2.Target i at_).2)]), (23, .int .i64 0), (24, .pointer (some ⟨g16, 0, none⟩)), (25, .agg #[.int .i64 i.op, .int .i64 i.d, .int .i64 i.s, .int .i64 i.ix, .int .i64 i.sc, .int .u32 i.imm, .int .i64 i.sz]), (26, .int .u32 at_), (27, .tuple #[.int .u32 ((R2.Target i at_).1), .bool ((R2.Target i at_).2)]), (28, .int .u32 ((R2.Target i at_).1)), (29, .bool ((R2.Target i at_).2)), (30, .int .i64 0), (31, .pointer (some ⟨g16, 0, none⟩)), (32, .agg #[.int .i64 i.op, .int .i64 i.d, .int .i64 i.s, .int .i64 i.ix, .int .i64 i.sc, .int .u32 i.imm, .int .i64 i.sz]), (33, .int .u32 at_), (34, .agg #[.int .u32 ((R2.Target i at_).1), .bool ((R2.Target i at_).2)]), (35, .int .u32 ((R2.Target i at_).1)), (36, .pointer (some ⟨g17, 0, none⟩)), (37, .int .u32 ((R2.Target i at_).1)), (38, .bool (((R2.Target i at_).1) != ((R2.Target i at_).1))), (39, .bool (((R2.Target i at_).1) != ((R2.Target i at_).1))), (44, .bool ((((R2.Target i at_).1) != ((R2.Target i at_).1)) || ((R2.Target i at_).2 != (R2.Target i at_).2))), (45, .bool ((((R2.Target i at_).1) != ((R2.Target i at_).1)) || ((R2.Target i at_).2 != (R2.Target i at_).2))), (55, .bool (((((R2.Target i at_).1) != ((R2.Target i at_).1)) || ((R2.Target i at_).2 != (R2.Target i at_).2)) || ((R2.Ends i) != (R2.Ends i))))] ?_ ?_
        · generalize hc20 : ((((R2.Target i at_).1) != ((R2.Target i at_).1)) || ((R2.Target i at_).2 != (R2.Target i at_).2)) = b21
          cases b21
          · skip
            refine E.W.op (.int .i64 0) (fun w => by kernel_rfl) (by kernel_rfl) ?_
            refine E.W.op (.pointer (some ⟨g16, 0, none⟩)) (fun w => by kernel_rfl) (by kernel_rfl) ?_
            refine E.W.val (.agg #[.int .i64 i.op, .int .i64 i.d, .int .i64 i.s, .int .i64 i.ix, .int .i64 i.sc, .int .u32 i.imm, .int .i64 i.sz]) (by kernel_rfl) (fun w h => E.run_load h 1 rfl rfl (by kernel_rfl)) ?_
            refine E.W.call (.bool (R2.Ends i)) (fun w h => Ends_r i w) (fun w _ => by kernel_rfl) (by kernel_rfl) ?_
            refine E.W.op (.int .i64 0) (fun w => by kernel_rfl) (by kernel_rfl) ?_
            refine E.W.op (.pointer (some ⟨g16, 0, none⟩)) (fun w => by kernel_rfl) (by kernel_rfl) ?_
            refine E.W.val (.agg #[.int .i64 i.op, .int .i64 i.d, .int .i64 i.s, .int .i64 i.ix, .int .i64 i.sc, .int .u32 i.imm, .int .i64 i.sz]) (by kernel_rfl) (fun w h => E.run_load h 1 rfl rfl (by kernel_rfl)) ?_
            refine E.W.call (.bool (R2.Ends i)) (fun w h => R2_Ends i w) (fun w _ => by kernel_rfl) (by kernel_rfl) ?_
            refine E.W.op (.bool ((R2.Ends i) != (R2.Ends i))) (fun w => by kernel_rfl) (by kernel_rfl) ?_
            refine E.W.op (.bool ((R2.Ends i) != (R2.Ends i))) (fun w => by kernel_rfl) (by kernel_rfl) ?_
            exact E.W.end_cut ⟨by kernel_rfl, by kernel_rfl⟩
          · skip
            refine E.W.skip (by kernel_rfl) (by kernel_rfl) ?_
            refine E.W.skip (by kernel_rfl) (by kernel_rfl) ?_
            refine E.W.skip (by kernel_rfl) (by kernel_rfl) ?_
            refine E.W.skip (by kernel_rfl) (by kernel_rfl) ?_
            refine E.W.skip (by kernel_rfl) (by kernel_rfl) ?_
            refine E.W.skip (by kernel_rfl) (by kernel_rfl) ?_
            refine E.W.skip (by kernel_rfl) (by kernel_rfl) ?_
            refine E.W.skip (by kernel_rfl) (by kernel_rfl) ?_
            refine E.W.skip (by kernel_rfl) (by kernel_rfl) ?_
            refine E.W.op (.bool true) (fun w => by kernel_rfl) (by kernel_rfl) ?_
            exact E.W.end_cut ⟨by kernel_rfl, by kernel_rfl⟩
        refine E.W.done (E.To.code ?_)
        refine E.C.cond (((((R2.Target i at_).1) != ((R2.Target i at_).1)) || ((R2.Target i at_).2 != (R2.Target i at_).2)) || ((R2.Ends i) != (R2.Ends i))) (by kernel_rfl) (by kernel_rfl) (fun hc22 => ?_) (fun hc22 => ?_)
        · skip
          refine E.C.seq ?_
          refine E.C.region ?_
          refine E.G.op (.bool false) (fun w => by kernel_rfl) (by kernel_rfl) ?_
          refine E.To.code ?_
          refine E.C.ret (E.P.rb (E.P.rt (E.P.rt (E.P.rb (E.P.rt (E.To.body (fn := Try.f10) [.bool false] ?_ ?_))))))
          · exact ⟨⟨by kernel_rfl, by kernel_rfl⟩, trivial⟩
          · intro w h
            exact ⟨by show Ending.returned (.bool false) = _; unfold K.lawTargets; rw [hc22, cond_true], h.ch.bel (fun _ h => h.elim)⟩
        · skip
          refine E.C.skip (E.P.nb (E.To.code ?_))
          refine E.C.region ?_
          refine E.G.op (.int .i64 0) (fun w => by kernel_rfl) (by kernel_rfl) ?_
          refine E.G.op (.int .i64 1) (fun w => by kernel_rfl) (by kernel_rfl) ?_
          refine E.G.op (.int .i64 1) (fun w => by kernel_rfl) (by kernel_rfl) ?_
          refine E.To.rounds 1 ?_
          refine E.C.weak [(2, .int .u32 at_), (6, .bool false), (7, .bool true), (8, .pointer (some ⟨g16, 0, none⟩)), (9, .int .i64 1), (10, .int .u32 ((R2.Target i at_).1)), (11, .bool ((R2.Target i at_).2)), (12, .pointer (some ⟨g17, 0, none⟩)), (18, .int .i64 0), (19, .bool true), (20, .int .i64 0), (21, .int .i64 1), (22, .tuple #[.int .u32 ((R2.Target i at_).1), .bool ((R2.Target i at_).2)]), (23, .int .i64 0), (24, .pointer (some ⟨g16, 0, none⟩)), (25, .agg #[.int .i64 i.op, .int .i64 i.d, .int .i64 i.s, .int .i64 i.ix, .int .i64 i.sc, .int .u32 i.imm, .int .i64 i.sz]), (26, .int .u32 at_), (27, .tuple #[.int .u32 ((R2.Target i at_).1), .bool ((R2.Target i at_).2)]), (28, .int .u32 ((R2.Target i at_).1)), (29, .bool ((R2.Target i at_).2)), (30, .int .i64 0), (31, .pointer (some ⟨g16, 0, none⟩)), (32, .agg #[.int .i64 i.op, .int .i64 i.d, .int .i64 i.s, .int .i64 i.ix, .int .i64 i.sc, .int .u32 i.imm, .int .i64 i.sz]), (33, .int .u32 at_), (34, .agg #[.int .u32 ((R2.Target i at_).1), .bool ((R2.Target i at_).2)]), (35, .int .u32 ((R2.Target i at_).1)), (36, .pointer (some ⟨g17, 0, none⟩)), (37, .int .u32 ((R2.Target i at_).1)), (38, .bool (((R2.Target i at_).1) != ((R2.Target i at_).1))), (39, .bool (((R2.Target i at_).1) != ((R2.Target i at_).1))), (44, .bool ((((R2.Target i at_).1) != ((R2.Target i at_).1)) || ((R2.Target i at_).2 != (R2.Target i at_).2))), (45, .bool ((((R2.Target i at_).1) != ((R2.Target i at_).1)) || ((R2.Target i at_).2 != (R2.Target i at_).2))), (55, .bool (((((R2.Target i at_).1) != ((R2.Target i at_).1)) || ((R2.Target i at_).2 != (R2.Target i at_).2)) || ((R2.Ends i) != (R2.Ends i))))] [(g17, [.int .u32 ((R2.Target i at_).1), .bool ((R2.Target i at_).2)]), (g16, [.int .i64 i.op, .int .i64 i.d, .int .i64 i.s, .int .i64 i.ix, .int .i64 i.sc, .int .u32 i.imm, .int .i64 i.sz, .int .i64 (((R2.Made a b c x y)).op), .int .i64 (((R2.Made a b c x y)).d), .int .i64 (((R2.Made a b c x y)).s), .int .i64 (((R2.Made a b c x y)).ix), .int .i64 (((R2.Made a b c x y)).sc), .int .u32 (((R2.Made a b c x y)).imm), .int .i64 (((R2.Made a b c x y)).sz)])] ⟨by kernel_rfl, by kernel_rfl⟩ (List.Sublist.refl _) ?_
          refine E.C.seq ?_
          refine E.C.seq ?_
          refine E.C.region ?_
          refine E.G.op (.int .i64 1) (fun w => by kernel_rfl) (by kernel_rfl) ?_
          refine E.G.op (.bool true) (fun w => by kernel_rfl) (by kernel_rfl) ?_
          refine E.To.code ?_
          refine E.C.condT (by kernel_rfl) (by kernel_rfl) ?_
          refine E.C.skip (E.To.code ?_)
          refine E.C.seq ?_
          refine E.C.block ?_
          refine E.C.seq ?_
          refine E.C.region ?_
          refine E.G.op (.int .i64 1) (fun w => by kernel_rfl) (by kernel_rfl) ?_
          refine E.G.op (.pointer (some ⟨g16, 7, none⟩)) (fun w => by kernel_rfl) (by kernel_rfl) ?_
          refine E.G.val (.agg #[.int .i64 (((R2.Made a b c x y)).op), .int .i64 (((R2.Made a b c x y)).d), .int .i64 (((R2.Made a b c x y)).s), .int .i64 (((R2.Made a b c x y)).ix), .int .i64 (((R2.Made a b c x y)).sc), .int .u32 (((R2.Made a b c x y)).imm), .int .i64 (((R2.Made a b c x y)).sz)]) (by kernel_rfl) (fun w h => E.run_load h 1 rfl rfl (by kernel_rfl)) ?_
          refine E.G.op (.int .u32 at_) (fun w => by kernel_rfl) (by kernel_rfl) ?_
          refine E.G.call (.tuple #[.int .u32 ((R2.Target ((R2.Made a b c x y)) at_).1), .bool ((R2.Target ((R2.Made a b c x y)) at_).2)]) (fun w h => Target_r ((R2.Made a b c x y)) at_ (by (first | assumption | exact (R2.Made_ok _ _ _ _ _).2 | decide | (refine R2.dec_imm _ ?_; (first | assumption | decide | ((try simp only [ByteArray.size_append, ByteArray.size_extract, strOfNums_size, List.length_cons, List.length_nil, K.mn_eq] at *); unfold maxLen at *; omega) | ((try simp only [ByteArray.size_append, ByteArray.size_extract, strOfNums_size, List.length_cons, List.length_nil, K.mn_eq] at *); omega))) | exact K.wrap32 _ | (show (0 : Int) ≤ 0 ∧ (0 : Int) < 4294967296; decide))) w) (fun w _ => by kernel_rfl) (by kernel_rfl) ?_
          refine E.G.op (.tuple #[.int .u32 ((R2.Target ((R2.Made a b c x y)) at_).1), .bool ((R2.Target ((R2.Made a b c x y)) at_).2)]) (fun w => by kernel_rfl) (by kernel_rfl) ?_
          refine E.G.op (.int .u32 ((R2.Target ((R2.Made a b c x y)) at_).1)) (fun w => by kernel_rfl) (by kernel_rfl) ?_
          refine E.G.op (.bool ((R2.Target ((R2.Made a b c x y)) at_).2)) (fun w => by kernel_rfl) (by kernel_rfl) ?_
          refine E.G.op (.int .u32 ((R2.Target ((R2.Made a b c x y)) at_).1)) (fun w => by kernel_rfl) (by kernel_rfl) ?_
          refine E.G.op (.bool ((R2.Target ((R2.Made a b c x y)) at_).2)) (fun w => by kernel_rfl) (by kernel_rfl) ?_
          refine E.To.code ?_
          refine E.C.seq ?_
          refine E.C.region ?_
          refine E.G.op (.int .i64 1) (fun w => by kernel_rfl) (by kernel_rfl) ?_
          refine E.G.op (.pointer (some ⟨g16, 7, none⟩)) (fun w => by kernel_rfl) (by kernel_rfl) ?_
          refine E.G.val (.agg #[.int .i64 (((R2.Made a b c x y)).op), .int .i64 (((R2.Made a b c x y)).d), .int .i64 (((R2.Made a b c x y)).s), .int .i64 (((R2.Made a b c x y)).ix), .int .i64 (((R2.Made a b c x y)).sc), .int .u32 (((R2.Made a b c x y)).imm), .int .i64 (((R2.Made a b c x y)).sz)]) (by kernel_rfl) (fun w h => E.run_load h 1 rfl rfl (by kernel_rfl)) ?_
          refine E.G.op (.int .u32 at_) (fun w => by kernel_rfl) (by kernel_rfl) ?_
          refine E.G.call (.agg #[.int .u32 ((R2.Target ((R2.Made a b c x y)) at_).1), .bool ((R2.Target ((R2.Made a b c x y)) at_).2)]) (fun w h => R2_Target ((R2.Made a b c x y)) at_ w) (fun w _ => by kernel_rfl) (by kernel_rfl) ?_
          refine E.G.new (fun g => .pointer (some ⟨g, 0, none⟩)) [.int .u32 0, .bool false] 57 (fun w => by kernel_rfl) (by kernel_rfl) (fun g23 => ?_)
          refine E.G.store 0 [.int .u32 ((R2.Target ((R2.Made a b c x y)) at_).1), .bool ((R2.Target ((R2.Made a b c x y)) at_).2)] rfl rfl (by kernel_rfl) (by kernel_rfl) ?_
          refine E.To.code ?_
          refine E.C.seq ?_
          refine E.C.quiet (by kernel_rfl) (by kernel_rfl) ?_
          refine E.W.op (.int .u32 ((R2.Target ((R2.Made a b c x y)) at_).1)) (fun w => by kernel_rfl) (by kernel_rfl) ?_
          refine E.W.op (.pointer (some ⟨g23, 0, none⟩)) (fun w => by kernel_rfl) (by kernel_rfl) ?_
          refine E.W.val (.int .u32 ((R2.Target ((R2.Made a b c x y)) at_).1)) (by kernel_rfl) (fun w h => E.run_load h 0 rfl rfl (by kernel_rfl)) ?_
          refine E.W.op (.bool (((R2.Target ((R2.Made a b c x y)) at_).1) != ((R2.Target ((R2.Made a b c x y)) at_).1))) (fun w => by kernel_rfl) (by kernel_rfl) ?_
          refine E.W.op (.bool (((R2.Target ((R2.Made a b c x y)) at_).1) != ((R2.Target ((R2.Made a b c x y)) at_).1))) (fun w => by kernel_rfl) (by kernel_rfl) ?_
          refine E.W.cut 5 [(2, .int .u32 at_), (6, .bool false), (7, .bool true), (8, .pointer (some ⟨g16, 0, none⟩)), (9, .int .i64 1), (10, .int .u32 ((R2.Target ((R2.Made a b c x y)) at_).1)), (11, .bool ((R2.Target ((R2.Made a b c x y)) at_).2)), (12, .pointer (some ⟨g23, 0, none⟩)), (18, .int .i64 1), (19, .bool true), (20, .int .i64 0), (21, .int .i64 1), (22, .tuple #[.int .u32 ((R2.Target ((R2.Made a b c x y)) at_).1), .bool ((R2.Target ((R2.Made a b c x y)) at_).2)]), (23, .int .i64 1), (24, .pointer (some ⟨g16, 7, none⟩)), (25, .agg #[.int .i64 (((R2.Made a b c x y)).op), .int .i64 (((R2.Made a b c x y)).d), .int .i64 (((R2.Made a b c x y)).s), .int .i64 (((R2.Made a b c x y)).ix), .int .i64 (((R2.Made a b c x y)).sc), .int .u32 (((R2.Made a b c x y)).imm), .int .i64 (((R2.Made a b c x y)).sz)]), (26, .int .u32 at_), (27, .tuple #[.int .u32 ((R2.Target ((R2.Made a b c x y)) at_).1), .bool ((R2.Target ((R2.Made a b c x y)) at_).2)]), (28, .int .u32 ((R2.Target ((R2.Made a b c x y)) at_).1)), (29, .bool ((R2.Target ((R2.Made a b c x y)) at_).2)), (30, .int .i64 1), (31, .pointer (some ⟨g16, 7, none⟩)), (32, .agg #[.int .i64 (((R2.Made a b c x y)).op), .int .i64 (((R2.Made a b c x y)).d), .int .i64 (((R2.Made a b c x y)).s), .int .i64 (((R2.Made a b c x y)).ix), .int .i64 (((R2.Made a b c x y)).sc), .int .u32 (((R2.Made a b c x y)).imm), .int .i64 (((R2.Made a b c x y)).sz)]), (33, .int .u32 at_), (34, .agg #[.int .u32 ((R2.Target ((R2.Made a b c x y)) at_).1), .bool ((R2.Target ((R2.Made a b c x y)) at_).2)]), (35, .int .u32 ((R2.Target ((R2.Made a b c x y)) at_).1)), (36, .pointer (some ⟨g23, 0, none⟩)), (37, .int .u32 ((R2.Target ((R2.Made a b c x y)) at_).1)), (38, .bool (((R2.Target ((R2.Made a b c x y)) at_).1) != ((R2.Target ((R2.Made a b c x y)) at_).1))), (39, .bool (((R2.Target ((R2.Made a b c x y)) at_).1) != ((R2.Target ((R2.Made a b c x y)) at_).1))), (44, .bool ((((R2.Target ((R2.Made a b c x y)) at_).1) != ((R2.Target ((R2.Made a b c x y)) at_).1)) || ((R2.Target ((R2.Made a b c x y)) at_).2 != (R2.Target ((R2.Made a b c x y)) at_).2))), (45, .bool ((((R2.Target i at_).1) != ((R2.Target i at_).1)) || ((R2.Target i at_).2 != (R2.Target i at_).2))), (55, .bool (((((R2.Target i at_).1) != ((R2.Target i at_).1)) || ((R2.Target i at_).2 != (R2.Target i at_).2)) || ((R2.Ends i) != (R2.Ends i))))] ?_ ?_
          · generalize hc24 : (((R2.Target ((R2.Made a b c x y)) at_).1) != ((R2.Target ((R2.Made a b c x y)) at_).1)) = b25
            cases b25
            · skip
              refine E.W.op (.bool ((R2.Target ((R2.Made a b c x y)) at_).2)) (fun w => by kernel_rfl) (by kernel_rfl) ?_
              refine E.W.op (.pointer (some ⟨g23, 1, none⟩)) (fun w => by kernel_rfl) (by kernel_rfl) ?_
              refine E.W.val (.bool ((R2.Target ((R2.Made a b c x y)) at_).2)) (by kernel_rfl) (fun w h => E.run_load h 0 rfl rfl (by kernel_rfl)) ?_
              refine E.W.op (.bool ((R2.Target ((R2.Made a b c x y)) at_).2 != (R2.Target ((R2.Made a b c x y)) at_).2)) (fun w => by kernel_rfl) (by kernel_rfl) ?_
              refine E.W.op (.bool ((R2.Target ((R2.Made a b c x y)) at_).2 != (R2.Target ((R2.Made a b c x y)) at_).2)) (fun w => by kernel_rfl) (by kernel_rfl) ?_
              exact E.W.end_cut ⟨by kernel_rfl, by kernel_rfl⟩
            · skip
              refine E.W.skip (by kernel_rfl) (by kernel_rfl) ?_
              refine E.W.skip (by kernel_rfl) (by kernel_rfl) ?_
              refine E.W.skip (by kernel_rfl) (by kernel_rfl) ?_
              refine E.W.skip (by kernel_rfl) (by kernel_rfl) ?_
              refine E.W.op (.bool true) (fun w => by kernel_rfl) (by kernel_rfl) ?_
              exact E.W.end_cut ⟨by kernel_rfl, by kernel_rfl⟩
          refine E.W.op (.bool ((((R2.Target ((R2.Made a b c x y)) at_).1) != ((R2.Target ((R2.Made a b c x y)) at_).1)) || ((R2.Target ((R2.Made a b c x y)) at_).2 != (R2.Target ((R2.Made a b c x y)) at_).2))) (fun w => by kernel_rfl) (by kernel_rfl) ?_
          refine E.W.cut 10 [(2, .int .u32 at_), (6, .bool false), (7, .bool true), (8, .pointer (some ⟨g16, 0, none⟩)), (9, .int .i64 1), (10, .int .u32 ((R2.Target ((R2.Made a b c x y)) at_).1)), (11, .bool ((R2.Target ((R2.Made a b c x y)) at_).2)), (12, .pointer (some ⟨g23, 0, none⟩)), (18, .int .i64 1), (19, .bool true), (20, .int .i64 0), (21, .int .i64 1), (22, .tuple #[.int .u32 ((R2.Target ((R2.Made a b c x y)) at_).1), .bool ((R2.Target ((R2.Made a b c x y)) at_).2)]), (23, .int .i64 1), (24, .pointer (some ⟨g16, 7, none⟩)), (25, .agg #[.int .i64 (((R2.Made a b c x y)).op), .int .i64 (((R2.Made a b c x y)).d), .int .i64 (((R2.Made a b c x y)).s), .int .i64 (((R2.Made a b c x y)).ix), .int .i64 (((R2.Made a b c x y)).sc), .int .u32 (((R2.Made a b c x y)).imm), .int .i64 (((R2.Made a b c x y)).sz)]), (26, .int .u32 at_), (27, .tuple #[.int .u32 ((R2.Target ((R2.Made a b c x y)) at_).1), .bool ((R2.Target ((R2.Made a b c x y)) at_).2)]), (28, .int .u32 ((R2.Target ((R2.Made a b c x y)) at_).1)), (29, .bool ((R2.Target ((R2.Made a b c x y)) at_).2)), (30, .int .i64 1), (31, .pointer (some ⟨g16, 7, none⟩)), (32, .agg #[.int .i64 (((R2.Made a b c x y)).op), .int .i64 (((R2.Made a b c x y)).d), .int .i64 (((R2.Made a b c x y)).s), .int .i64 (((R2.Made a b c x y)).ix), .int .i64 (((R2.Made a b c x y)).sc), .int .u32 (((R2.Made a b c x y)).imm), .int .i64 (((R2.Made a b c x y)).sz)]), (33, .int .u32 at_), (34, .agg #[.int .u32 ((R2.Target ((R2.Made a b c x y)) at_).1), .bool ((R2.Target ((R2.Made a b c x y)) at_).2)]), (35, .int .u32 ((R2.Target ((R2.Made a b c x y)) at_).1)), (36, .pointer (some ⟨g23, 0, none⟩)), (37, .int .u32 ((R2.Target ((R2.Made a b c x y)) at_).1)), (38, .bool (((R2.Target ((R2.Made a b c x y)) at_).1) != ((R2.Target ((R2.Made a b c x y)) at_).1))), (39, .bool (((R2.Target ((R2.Made a b c x y)) at_).1) != ((R2.Target ((R2.Made a b c x y)) at_).1))), (44, .bool ((((R2.Target ((R2.Made a b c x y)) at_).1) != ((R2.Target ((R2.Made a b c x y)) at_).1)) || ((R2.Target ((R2.Made a b c x y)) at_).2 != (R2.Target ((R2.Made a b c x y)) at_).2))), (45, .bool ((((R2.Target ((R2.Made a b c x y)) at_).1) != ((R2.Target ((R2.Made a b c x y)) at_).1)) || ((R2.Target ((R2.Made a b c x y)) at_).2 != (R2.Target ((R2.Made a b c x y)) at_).2))), (55, .bool (((((R2.Target ((R2.Made a b c x y)) at_).1) != ((R2.Target ((R2.Made a b c x y)) at_).1)) || ((R2.Target ((R2.Made a b c x y)) at_).2 != (R2.Target ((R2.Made a b c x y)) at_).2)) || ((R2.Ends ((R2.Made a b c x y))) != (R2.Ends ((R2.Made a b c x y))))))] ?_ ?_
          · generalize hc26 : ((((R2.Target ((R2.Made a b c x y)) at_).1) != ((R2.Target ((R2.Made a b c x y)) at_).1)) || ((R2.Target ((R2.Made a b c x y)) at_).2 != (R2.Target ((R2.Made a b c x y)) at_).2)) = b27
            cases b27
            · skip
              refine E.W.op (.int .i64 1) (fun w => by kernel_rfl) (by kernel_rfl) ?_
              refine E.W.op (.pointer (some ⟨g16, 7, none⟩)) (fun w => by kernel_rfl) (by kernel_rfl) ?_
              refine E.W.val (.agg #[.int .i64 (((R2.Made a b c x y)).op), .int .i64 (((R2.Made a b c x y)).d), .int .i64 (((R2.Made a b c x y)).s), .int .i64 (((R2.Made a b c x y)).ix), .int .i64 (((R2.Made a b c x y)).sc), .int .u32 (((R2.Made a b c x y)).imm), .int .i64 (((R2.Made a b c x y)).sz)]) (by kernel_rfl) (fun w h => E.run_load h 2 rfl rfl (by kernel_rfl)) ?_
              refine E.W.call (.bool (R2.Ends ((R2.Made a b c x y)))) (fun w h => Ends_r ((R2.Made a b c x y)) w) (fun w _ => by kernel_rfl) (by kernel_rfl) ?_
              refine E.W.op (.int .i64 1) (fun w => by kernel_rfl) (by kernel_rfl) ?_
              refine E.W.op (.pointer (some ⟨g16, 7, none⟩)) (fun w => by kernel_rfl) (by kernel_rfl) ?_
              refine E.W.val (.agg #[.int .i64 (((R2.Made a b c x y)).op), .int .i64 (((R2.Made a b c x y)).d), .int .i64 (((R2.Made a b c x y)).s), .int .i64 (((R2.Made a b c x y)).ix), .int .i64 (((R2.Made a b c x y)).sc), .int .u32 (((R2.Made a b c x y)).imm), .int .i64 (((R2.Made a b c x y)).sz)]) (by kernel_rfl) (fun w h => E.run_load h 2 rfl rfl (by kernel_rfl)) ?_
              refine E.W.call (.bool (R2.Ends ((R2.Made a b c x y)))) (fun w h => R2_Ends ((R2.Made a b c x y)) w) (fun w _ => by kernel_rfl) (by kernel_rfl) ?_
              refine E.W.op (.bool ((R2.Ends ((R2.Made a b c x y))) != (R2.Ends ((R2.Made a b c x y))))) (fun w => by kernel_rfl) (by kernel_rfl) ?_
              refine E.W.op (.bool ((R2.Ends ((R2.Made a b c x y))) != (R2.Ends ((R2.Made a b c x y))))) (fun w => by kernel_rfl) (by kernel_rfl) ?_
              exact E.W.end_cut ⟨by kernel_rfl, by kernel_rfl⟩
            · skip
              refine E.W.skip (by kernel_rfl) (by kernel_rfl) ?_
              refine E.W.skip (by kernel_rfl) (by kernel_rfl) ?_
              refine E.W.skip (by kernel_rfl) (by kernel_rfl) ?_
              refine E.W.skip (by kernel_rfl) (by kernel_rfl) ?_
              refine E.W.skip (by kernel_rfl) (by kernel_rfl) ?_
              refine E.W.skip (by kernel_rfl) (by kernel_rfl) ?_
              refine E.W.skip (by kernel_rfl) (by kernel_rfl) ?_
              refine E.W.skip (by kernel_rfl) (by kernel_rfl) ?_
              refine E.W.skip (by kernel_rfl) (by kernel_rfl) ?_
              refine E.W.op (.bool true) (fun w => by kernel_rfl) (by kernel_rfl) ?_
              exact E.W.end_cut ⟨by kernel_rfl, by kernel_rfl⟩
          refine E.W.done (E.To.code ?_)
          refine E.C.cond (((((R2.Target ((R2.Made a b c x y)) at_).1) != ((R2.Target ((R2.Made a b c x y)) at_).1)) || ((R2.Target ((R2.Made a b c x y)) at_).2 != (R2.Target ((R2.Made a b c x y)) at_).2)) || ((R2.Ends ((R2.Made a b c x y))) != (R2.Ends ((R2.Made a b c x y))))) (by kernel_rfl) (by kernel_rfl) (fun hc28 => ?_) (fun hc28 => ?_)
          · skip
            refine E.C.seq ?_
            refine E.C.region ?_
            refine E.G.op (.bool false) (fun w => by kernel_rfl) (by kernel_rfl) ?_
            refine E.To.code ?_
            refine E.C.ret (E.P.rb (E.P.rt (E.P.rt (E.P.rb (E.P.rt (E.To.body (fn := Try.f10) [.bool false] ?_ ?_))))))
            · exact ⟨⟨by kernel_rfl, by kernel_rfl⟩, trivial⟩
            · intro w h
              exact ⟨by show Ending.returned (.bool false) = _; unfold K.lawTargets; rw [hc22, cond_false, hc28, cond_true], h.ch.bel (fun _ h => h.elim)⟩
          · skip
            refine E.C.skip (E.P.nb (E.To.code ?_))
            refine E.C.region ?_
            refine E.G.op (.int .i64 1) (fun w => by kernel_rfl) (by kernel_rfl) ?_
            refine E.G.op (.int .i64 2) (fun w => by kernel_rfl) (by kernel_rfl) ?_
            refine E.G.op (.int .i64 2) (fun w => by kernel_rfl) (by kernel_rfl) ?_
            refine E.To.rounds 0 ?_
            refine E.C.weak [(2, .int .u32 at_), (6, .bool false), (7, .bool true), (8, .pointer (some ⟨g16, 0, none⟩)), (9, .int .i64 2), (10, .int .u32 ((R2.Target ((R2.Made a b c x y)) at_).1)), (11, .bool ((R2.Target ((R2.Made a b c x y)) at_).2)), (12, .pointer (some ⟨g23, 0, none⟩)), (18, .int .i64 1), (19, .bool true), (20, .int .i64 1), (21, .int .i64 2), (22, .tuple #[.int .u32 ((R2.Target ((R2.Made a b c x y)) at_).1), .bool ((R2.Target ((R2.Made a b c x y)) at_).2)]), (23, .int .i64 1), (24, .pointer (some ⟨g16, 7, none⟩)), (25, .agg #[.int .i64 (((R2.Made a b c x y)).op), .int .i64 (((R2.Made a b c x y)).d), .int .i64 (((R2.Made a b c x y)).s), .int .i64 (((R2.Made a b c x y)).ix), .int .i64 (((R2.Made a b c x y)).sc), .int .u32 (((R2.Made a b c x y)).imm), .int .i64 (((R2.Made a b c x y)).sz)]), (26, .int .u32 at_), (27, .tuple #[.int .u32 ((R2.Target ((R2.Made a b c x y)) at_).1), .bool ((R2.Target ((R2.Made a b c x y)) at_).2)]), (28, .int .u32 ((R2.Target ((R2.Made a b c x y)) at_).1)), (29, .bool ((R2.Target ((R2.Made a b c x y)) at_).2)), (30, .int .i64 1), (31, .pointer (some ⟨g16, 7, none⟩)), (32, .agg #[.int .i64 (((R2.Made a b c x y)).op), .int .i64 (((R2.Made a b c x y)).d), .int .i64 (((R2.Made a b c x y)).s), .int .i64 (((R2.Made a b c x y)).ix), .int .i64 (((R2.Made a b c x y)).sc), .int .u32 (((R2.Made a b c x y)).imm), .int .i64 (((R2.Made a b c x y)).sz)]), (33, .int .u32 at_), (34, .agg #[.int .u32 ((R2.Target ((R2.Made a b c x y)) at_).1), .bool ((R2.Target ((R2.Made a b c x y)) at_).2)]), (35, .int .u32 ((R2.Target ((R2.Made a b c x y)) at_).1)), (36, .pointer (some ⟨g23, 0, none⟩)), (37, .int .u32 ((R2.Target ((R2.Made a b c x y)) at_).1)), (38, .bool (((R2.Target ((R2.Made a b c x y)) at_).1) != ((R2.Target ((R2.Made a b c x y)) at_).1))), (39, .bool (((R2.Target ((R2.Made a b c x y)) at_).1) != ((R2.Target ((R2.Made a b c x y)) at_).1))), (44, .bool ((((R2.Target ((R2.Made a b c x y)) at_).1) != ((R2.Target ((R2.Made a b c x y)) at_).1)) || ((R2.Target ((R2.Made a b c x y)) at_).2 != (R2.Target ((R2.Made a b c x y)) at_).2))), (45, .bool ((((R2.Target ((R2.Made a b c x y)) at_).1) != ((R2.Target ((R2.Made a b c x y)) at_).1)) || ((R2.Target ((R2.Made a b c x y)) at_).2 != (R2.Target ((R2.Made a b c x y)) at_).2))), (55, .bool (((((R2.Target ((R2.Made a b c x y)) at_).1) != ((R2.Target ((R2.Made a b c x y)) at_).1)) || ((R2.Target ((R2.Made a b c x y)) at_).2 != (R2.Target ((R2.Made a b c x y)) at_).2)) || ((R2.Ends ((R2.Made a b c x y))) != (R2.Ends ((R2.Made a b c x y))))))] [(g23, [.int .u32 ((R2.Target ((R2.Made a b c x y)) at_).1), .bool ((R2.Target ((R2.Made a b c x y)) at_).2)]), (g16, [.int .i64 i.op, .int .i64 i.d, .int .i64 i.s, .int .i64 i.ix, .int .i64 i.sc, .int .u32 i.imm, .int .i64 i.sz, .int .i64 (((R2.Made a b c x y)).op), .int .i64 (((R2.Made a b c x y)).d), .int .i64 (((R2.Made a b c x y)).s), .int .i64 (((R2.Made a b c x y)).ix), .int .i64 (((R2.Made a b c x y)).sc), .int .u32 (((R2.Made a b c x y)).imm), .int .i64 (((R2.Made a b c x y)).sz)])] ⟨by kernel_rfl, by kernel_rfl⟩ (List.Sublist.cons_cons _ (List.Sublist.cons _ (List.Sublist.refl _))) ?_
            refine E.C.seq ?_
            refine E.C.seq ?_
            refine E.C.region ?_
            refine E.G.op (.int .i64 2) (fun w => by kernel_rfl) (by kernel_rfl) ?_
            refine E.G.op (.bool false) (fun w => by kernel_rfl) (by kernel_rfl) ?_
            refine E.To.code ?_
            refine E.C.condF (by kernel_rfl) (by kernel_rfl) ?_
            refine E.C.exit (E.P.et (E.P.et (E.P.eh (E.To.code ?_))))
            refine E.C.weak [(6, .bool false), (7, .bool true)] [] ⟨by kernel_rfl, by kernel_rfl⟩ (List.nil_sublist _) ?_
            refine E.C.seq ?_
            refine E.C.region ?_
            refine E.G.op (.bool true) (fun w => by kernel_rfl) (by kernel_rfl) ?_
            refine E.G.op (.bool true) (fun w => by kernel_rfl) (by kernel_rfl) ?_
            refine E.To.code ?_
            refine E.C.ret (E.To.body (fn := Try.f10) [.bool true] ?_ ?_)
            · exact ⟨⟨by kernel_rfl, by kernel_rfl⟩, trivial⟩
            · intro w h
              exact ⟨by show Ending.returned (.bool true) = _; unfold K.lawTargets; rw [hc22, cond_false, hc28, cond_false], h.ch.bel (fun _ h => h.elim)⟩
end Go.Proofs.Ytgnekniabedomaa
