/- Walks: the law KcodeSizes, printed by wip/eng. No condition but what is named. -/
import Derived.Test.YtgnekniabedomaaProg
import Derived.Test.YtgnekniabedomaaKw
namespace Go.Proofs.Ytgnekniabedomaa
set_option linter.unusedVariables false
set_option linter.unusedSimpArgs false
open Go.RowKit
theorem E.run_as {P : Program} {d : Option Nat} {op : Op} {T : TypeId} {pos : String} {af : Array Edge} {gd : Option (Nat × Bool)} {fr : E.Fr} {w : World} {a b : Value} (h : (execOp (E.ev fr) ⟨d, op, T, pos, af, gd⟩).run P w = .ok (.value a) w) (e : a = b) : (execOp (E.ev fr) ⟨d, op, T, pos, af, gd⟩).run P w = .ok (.value b) w := e ▸ h
theorem K.wrap8 (n : Int) : 0 ≤ IntKind.wrap .u8 n ∧ IntKind.wrap .u8 n < 256 := by rw [K.wu8]; omega
def K.sizesC (s : ByteArray) (k : Nat) : Bool := ((((R2.Size (IntKind.wrap .u8 ((k : Nat) : Int))) != (R2.Size (IntKind.wrap .u8 ((k : Nat) : Int)))) || ((((R2.Decode ((strOfNums [(IntKind.wrap .u8 ((k : Nat) : Int))]) ++ s)).2) == 0) && (((((R2.Decode ((strOfNums [(IntKind.wrap .u8 ((k : Nat) : Int))]) ++ s)).1)).sz) != (R2.Size (IntKind.wrap .u8 ((k : Nat) : Int)))))) || (((R2.Size (IntKind.wrap .u8 ((k : Nat) : Int))) == 0) && (((R2.Decode ((strOfNums [(IntKind.wrap .u8 ((k : Nat) : Int))]) ++ s)).2) != 12)))
theorem K.size_zero {x : Int} (h : R2.Size x = 0) : K.fmt (IntKind.wrap .i64 x) = none := by
  rcases R2.Size_cases x with ⟨hf2, hz2⟩ | ⟨hf2, hz2⟩ | ⟨hf2, hz2⟩ | ⟨hf2, hz2⟩ | ⟨hf2, hz2⟩ | ⟨hf2, hz2⟩ | ⟨hf2, hz2⟩ | ⟨hf2, hz2⟩ | ⟨hf2, hz2⟩ | ⟨hf2, hz2⟩ | ⟨hf2, hz2⟩ | ⟨hf2, hz2⟩ | ⟨hf2, hz2⟩
  · rcases K.fmt_cases (IntKind.wrap .i64 x) with ⟨hk, hf⟩ | ⟨hk, hf, h1, h2⟩ | ⟨hk, hf, h1, h2⟩ | ⟨hk, hf, h1, h2⟩ | ⟨hk, hf, h1, h2⟩ | ⟨hk, hf, h1, h2⟩ | ⟨hk, hf, h1, h2⟩ | ⟨hk, hf, h1, h2⟩ | ⟨hk, hf, h1, h2⟩ | ⟨hk, hf, h1, h2⟩ | ⟨hk, hf, h1⟩ | ⟨hk, hf, h1⟩ | ⟨hk, hf, h1⟩
    · exact hk
    all_goals omega
  all_goals omega
theorem K.byt_str (b : Int) (h0 : 0 ≤ b) (h1 : b < 256) (s : ByteArray) : W.byt (strOfNums [b] ++ s).data.toList 0 = b := by
  rw [K.byt_app _ _ 0 (by rw [strOfNums_size]; simp)]
  have : W.byt (strOfNums [b]).data.toList 0 = b % 256 := by
    unfold W.byt
    simp [strOfNums]
    omega
  rw [this]; omega
theorem K.sizesC_false (s : ByteArray) (k : Nat) (hs : s.size ≤ 140737488351232) : K.sizesC s k = false := by
  have hb := K.wrap8 ((k : Nat) : Int)
  unfold K.sizesC
  generalize IntKind.wrap .u8 ((k : Nat) : Int) = b at *
  have ht : (strOfNums [b] ++ s).size ≤ maxLen := by (first | assumption | decide | ((try simp only [ByteArray.size_append, ByteArray.size_extract, strOfNums_size, List.length_cons, List.length_nil, K.mn_eq] at *); unfold maxLen at *; omega) | ((try simp only [ByteArray.size_append, ByteArray.size_extract, strOfNums_size, List.length_cons, List.length_nil, K.mn_eq] at *); omega))
  have hy := K.byt_str b hb.1 hb.2 s
  have h0 : 0 < (strOfNums [b] ++ s).size := by rw [ByteArray.size_append, strOfNums_size]; simp only [List.length_cons, List.length_nil]; omega
  generalize strOfNums [b] ++ s = t at *
  have e1 : ∀ x : Int, (x != x) = false := by intro x; simp
  rw [e1]
  have c1 : ((R2.Decode t).2 == 0) = true → ((R2.Decode t).1.sz != R2.Size b) = false := by
    intro h
    rcases K.dec_unique t ht with ⟨-, hg, hz, he⟩ | ⟨hn, -⟩
    · have hv := hg.val
      obtain ⟨m, hm⟩ := K.good_enc hg
      have hpos := K.good_size hg
      have ho : (R2.Decode t).1.op = b := by
        rw [← K.byt_0 hm, ← he, R2.byt_extract t _ 0 (by omega) hz]; exact hy
      have hsz : (R2.Decode t).1.sz = R2.Size (IntKind.wrap .u8 (R2.Decode t).1.op) := by
        unfold R2.Valid at hv
        cases hq : ((R2.Format (R2.Decode t).1.op == 0) || ((R2.Decode t).1.sz != R2.Size (IntKind.wrap .u8 (R2.Decode t).1.op))) with
        | true => rw [hq] at hv; cases hv
        | false => simp only [Bool.or_eq_false_iff, bne_eq_false_iff_eq] at hq; exact hq.2
      rw [hsz, ho, K.w8 b hb.1 hb.2]; simp
    · exact absurd (by simpa using h) hn
  have c2 : (R2.Size b == 0) = true → ((R2.Decode t).2 != 12) = false := by
    intro h
    have hk := K.size_zero (by simpa using h)
    have hd : R2.Decode t = (⟨0, 0, 0, 0, 0, 0, 0⟩, 12) := by
      rw [← K.decode_eq t ht]; unfold K.decode; rw [hy, hk]
      show K.decode0 t = _
      unfold K.decode0; rw [K.not_empty h0]; rfl
    rw [hd]; rfl
  cases h1 : ((R2.Decode t).2 == 0) <;> cases h2 : (R2.Size b == 0) <;> simp [h1, h2, c1, c2]
theorem KcodeSizes_law (s : ByteArray) (hs : s.size ≤ 140737488351232) (w : World) : Calls Try.prog 12 #[.string s] w fun e w' => e = .returned (.bool true) ∧ Bel w w' := by
  refine E.enter (n := 50) (S := fun _ => False) Try.func12 rfl rfl (by kernel_rfl) (E.Hp.start w) ?_
  refine E.C.seq ?_
  refine E.C.region ?_
  refine E.G.op (.bool false) (fun w => by kernel_rfl) (by kernel_rfl) ?_
  refine E.To.code ?_
  refine E.C.seq ?_
  refine E.C.region ?_
  refine E.G.call (.bool true) (fun w h => sanity_ok w) (fun w _ => by kernel_rfl) (by kernel_rfl) ?_
  refine E.G.op (.bool true) (fun w => by kernel_rfl) (by kernel_rfl) ?_
  refine E.To.code ?_
  refine E.C.seq ?_
  refine E.C.seq ?_
  refine E.C.region ?_
  refine E.G.op (.int .i64 0) (fun w => by kernel_rfl) (by kernel_rfl) ?_
  refine E.To.code ?_
  refine E.C.block ?_
  refine E.C.loop (I := Nat) (fun k => 256 - k) (fun k => k ≤ 256) (fun k => [(0, .string s), (2, .bool false), (3, .bool true), (4, .int .i64 ((k : Nat) : Int))]) (fun _ => fun _ => True) (fun _ => []) 0 (Nat.zero_le _) ⟨by kernel_rfl, by kernel_rfl⟩ (List.Sublist.refl _) (fun _ h => h) (fun k hk1 => ?_)
  refine E.C.seq ?_
  refine E.C.seq ?_
  refine E.C.region ?_
  refine E.G.op (.int .i64 ((k : Nat) : Int)) (fun w => by kernel_rfl) (by kernel_rfl) ?_
  refine E.G.op (.bool (decide (((k : Nat) : Int) < 256))) (fun w => by kernel_rfl) (by kernel_rfl) ?_
  refine E.To.code ?_
  refine E.C.cond (decide (((k : Nat) : Int) < 256)) (by kernel_rfl) (by kernel_rfl) (fun hc1 => ?_) (fun hc1 => ?_)
  · skip
    refine E.C.skip (E.To.code ?_)
    refine E.C.seq ?_
    refine E.C.block ?_
    refine E.C.seq ?_
    refine E.C.region ?_
    refine E.G.op (.int .i64 ((k : Nat) : Int)) (fun w => by kernel_rfl) (by kernel_rfl) ?_
    refine E.G.op (.int .u8 (IntKind.wrap .u8 ((k : Nat) : Int))) (fun w => by kernel_rfl) (by kernel_rfl) ?_
    refine E.G.call (.int .i64 (R2.Size (IntKind.wrap .u8 ((k : Nat) : Int)))) (fun w h => Size_r (IntKind.wrap .u8 ((k : Nat) : Int)) (K.wrap8 _).1 (K.wrap8 _).2 w) (fun w _ => by kernel_rfl) (by kernel_rfl) ?_
    refine E.G.op (.int .i64 (R2.Size (IntKind.wrap .u8 ((k : Nat) : Int)))) (fun w => by kernel_rfl) (by kernel_rfl) ?_
    refine E.To.code ?_
    refine E.C.seq ?_
    refine E.C.region ?_
    refine E.G.op (.int .i64 ((k : Nat) : Int)) (fun w => by kernel_rfl) (by kernel_rfl) ?_
    refine E.G.op (.int .u8 (IntKind.wrap .u8 ((k : Nat) : Int))) (fun w => by kernel_rfl) (by kernel_rfl) ?_
    refine E.G.buildSlice [.int .u8 (IntKind.wrap .u8 ((k : Nat) : Int))] (by kernel_rfl) (by kernel_rfl) (fun g2 => ?_)
    refine E.G.val (.string (strOfNums [(IntKind.wrap .u8 ((k : Nat) : Int))])) (by kernel_rfl) (fun w h => E.b2s h 0 g2 0 1 1 [(IntKind.wrap .u8 ((k : Nat) : Int))] (e := 5) (by kernel_rfl) (by kernel_rfl) (by kernel_rfl) (by kernel_rfl) rfl (by kernel_rfl) rfl) ?_
    refine E.G.op (.string s) (fun w => by kernel_rfl) (by kernel_rfl) ?_
    refine E.G.val (.string ((strOfNums [(IntKind.wrap .u8 ((k : Nat) : Int))]) ++ s)) (by kernel_rfl) (fun w h => E.cat (strOfNums [(IntKind.wrap .u8 ((k : Nat) : Int))]) s (by kernel_rfl) (by kernel_rfl) (by (first | assumption | decide | ((try simp only [ByteArray.size_append, ByteArray.size_extract, strOfNums_size, List.length_cons, List.length_nil, K.mn_eq] at *); unfold maxLen at *; omega) | ((try simp only [ByteArray.size_append, ByteArray.size_extract, strOfNums_size, List.length_cons, List.length_nil, K.mn_eq] at *); omega))) w) ?_
    refine E.G.call (.tuple #[.agg #[.int .i64 ((((R2.Decode ((strOfNums [(IntKind.wrap .u8 ((k : Nat) : Int))]) ++ s)).1)).op), .int .i64 ((((R2.Decode ((strOfNums [(IntKind.wrap .u8 ((k : Nat) : Int))]) ++ s)).1)).d), .int .i64 ((((R2.Decode ((strOfNums [(IntKind.wrap .u8 ((k : Nat) : Int))]) ++ s)).1)).s), .int .i64 ((((R2.Decode ((strOfNums [(IntKind.wrap .u8 ((k : Nat) : Int))]) ++ s)).1)).ix), .int .i64 ((((R2.Decode ((strOfNums [(IntKind.wrap .u8 ((k : Nat) : Int))]) ++ s)).1)).sc), .int .u32 ((((R2.Decode ((strOfNums [(IntKind.wrap .u8 ((k : Nat) : Int))]) ++ s)).1)).imm), .int .i64 ((((R2.Decode ((strOfNums [(IntKind.wrap .u8 ((k : Nat) : Int))]) ++ s)).1)).sz)], .int .i64 ((R2.Decode ((strOfNums [(IntKind.wrap .u8 ((k : Nat) : Int))]) ++ s)).2)]) (fun w h => Decode_r ((strOfNums [(IntKind.wrap .u8 ((k : Nat) : Int))]) ++ s) (by (first | assumption | decide | ((try simp only [ByteArray.size_append, ByteArray.size_extract, strOfNums_size, List.length_cons, List.length_nil, K.mn_eq] at *); unfold maxLen at *; omega) | ((try simp only [ByteArray.size_append, ByteArray.size_extract, strOfNums_size, List.length_cons, List.length_nil, K.mn_eq] at *); omega))) w) (fun w _ => by kernel_rfl) (by kernel_rfl) ?_
    refine E.G.op (.tuple #[.agg #[.int .i64 ((((R2.Decode ((strOfNums [(IntKind.wrap .u8 ((k : Nat) : Int))]) ++ s)).1)).op), .int .i64 ((((R2.Decode ((strOfNums [(IntKind.wrap .u8 ((k : Nat) : Int))]) ++ s)).1)).d), .int .i64 ((((R2.Decode ((strOfNums [(IntKind.wrap .u8 ((k : Nat) : Int))]) ++ s)).1)).s), .int .i64 ((((R2.Decode ((strOfNums [(IntKind.wrap .u8 ((k : Nat) : Int))]) ++ s)).1)).ix), .int .i64 ((((R2.Decode ((strOfNums [(IntKind.wrap .u8 ((k : Nat) : Int))]) ++ s)).1)).sc), .int .u32 ((((R2.Decode ((strOfNums [(IntKind.wrap .u8 ((k : Nat) : Int))]) ++ s)).1)).imm), .int .i64 ((((R2.Decode ((strOfNums [(IntKind.wrap .u8 ((k : Nat) : Int))]) ++ s)).1)).sz)], .int .i64 ((R2.Decode ((strOfNums [(IntKind.wrap .u8 ((k : Nat) : Int))]) ++ s)).2)]) (fun w => by kernel_rfl) (by kernel_rfl) ?_
    refine E.G.op (.agg #[.int .i64 ((((R2.Decode ((strOfNums [(IntKind.wrap .u8 ((k : Nat) : Int))]) ++ s)).1)).op), .int .i64 ((((R2.Decode ((strOfNums [(IntKind.wrap .u8 ((k : Nat) : Int))]) ++ s)).1)).d), .int .i64 ((((R2.Decode ((strOfNums [(IntKind.wrap .u8 ((k : Nat) : Int))]) ++ s)).1)).s), .int .i64 ((((R2.Decode ((strOfNums [(IntKind.wrap .u8 ((k : Nat) : Int))]) ++ s)).1)).ix), .int .i64 ((((R2.Decode ((strOfNums [(IntKind.wrap .u8 ((k : Nat) : Int))]) ++ s)).1)).sc), .int .u32 ((((R2.Decode ((strOfNums [(IntKind.wrap .u8 ((k : Nat) : Int))]) ++ s)).1)).imm), .int .i64 ((((R2.Decode ((strOfNums [(IntKind.wrap .u8 ((k : Nat) : Int))]) ++ s)).1)).sz)]) (fun w => by kernel_rfl) (by kernel_rfl) ?_
    refine E.G.op (.int .i64 ((R2.Decode ((strOfNums [(IntKind.wrap .u8 ((k : Nat) : Int))]) ++ s)).2)) (fun w => by kernel_rfl) (by kernel_rfl) ?_
    refine E.G.new (fun g => .pointer (some ⟨g, 0, none⟩)) [.int .i64 0, .int .i64 0, .int .i64 0, .int .i64 0, .int .i64 0, .int .u32 0, .int .i64 0] 27 (fun w => by kernel_rfl) (by kernel_rfl) (fun g3 => ?_)
    refine E.G.store 0 [.int .i64 ((((R2.Decode ((strOfNums [(IntKind.wrap .u8 ((k : Nat) : Int))]) ++ s)).1)).op), .int .i64 ((((R2.Decode ((strOfNums [(IntKind.wrap .u8 ((k : Nat) : Int))]) ++ s)).1)).d), .int .i64 ((((R2.Decode ((strOfNums [(IntKind.wrap .u8 ((k : Nat) : Int))]) ++ s)).1)).s), .int .i64 ((((R2.Decode ((strOfNums [(IntKind.wrap .u8 ((k : Nat) : Int))]) ++ s)).1)).ix), .int .i64 ((((R2.Decode ((strOfNums [(IntKind.wrap .u8 ((k : Nat) : Int))]) ++ s)).1)).sc), .int .u32 ((((R2.Decode ((strOfNums [(IntKind.wrap .u8 ((k : Nat) : Int))]) ++ s)).1)).imm), .int .i64 ((((R2.Decode ((strOfNums [(IntKind.wrap .u8 ((k : Nat) : Int))]) ++ s)).1)).sz)] rfl rfl (by kernel_rfl) (by kernel_rfl) ?_
    refine E.G.op (.int .i64 ((R2.Decode ((strOfNums [(IntKind.wrap .u8 ((k : Nat) : Int))]) ++ s)).2)) (fun w => by kernel_rfl) (by kernel_rfl) ?_
    refine E.To.code ?_
    refine E.C.seq ?_
    refine E.C.region ?_
    refine E.G.op (.int .i64 (R2.Size (IntKind.wrap .u8 ((k : Nat) : Int)))) (fun w => by kernel_rfl) (by kernel_rfl) ?_
    refine E.G.op (.int .i64 ((k : Nat) : Int)) (fun w => by kernel_rfl) (by kernel_rfl) ?_
    refine E.G.op (.int .u8 (IntKind.wrap .u8 ((k : Nat) : Int))) (fun w => by kernel_rfl) (by kernel_rfl) ?_
    refine E.G.call (.int .i64 (R2.Size (IntKind.wrap .u8 ((k : Nat) : Int)))) (fun w h => R2_Size (IntKind.wrap .u8 ((k : Nat) : Int)) w) (fun w _ => by kernel_rfl) (by kernel_rfl) ?_
    refine E.G.op (.bool ((R2.Size (IntKind.wrap .u8 ((k : Nat) : Int))) != (R2.Size (IntKind.wrap .u8 ((k : Nat) : Int))))) (fun w => by kernel_rfl) (by kernel_rfl) ?_
    refine E.G.op (.bool ((R2.Size (IntKind.wrap .u8 ((k : Nat) : Int))) != (R2.Size (IntKind.wrap .u8 ((k : Nat) : Int))))) (fun w => by kernel_rfl) (by kernel_rfl) ?_
    refine E.G.cut 9 [(0, .string s), (2, .bool false), (3, .bool true), (4, .int .i64 ((k : Nat) : Int)), (5, .int .i64 (R2.Size (IntKind.wrap .u8 ((k : Nat) : Int)))), (6, .pointer (some ⟨g3, 0, none⟩)), (7, .int .i64 ((R2.Decode ((strOfNums [(IntKind.wrap .u8 ((k : Nat) : Int))]) ++ s)).2)), (9, .int .i64 ((k : Nat) : Int)), (10, .bool (decide (((k : Nat) : Int) < 256))), (13, .int .i64 ((k : Nat) : Int)), (14, .int .u8 (IntKind.wrap .u8 ((k : Nat) : Int))), (15, .int .i64 (R2.Size (IntKind.wrap .u8 ((k : Nat) : Int)))), (16, .tuple #[.agg #[.int .i64 ((((R2.Decode ((strOfNums [(IntKind.wrap .u8 ((k : Nat) : Int))]) ++ s)).1)).op), .int .i64 ((((R2.Decode ((strOfNums [(IntKind.wrap .u8 ((k : Nat) : Int))]) ++ s)).1)).d), .int .i64 ((((R2.Decode ((strOfNums [(IntKind.wrap .u8 ((k : Nat) : Int))]) ++ s)).1)).s), .int .i64 ((((R2.Decode ((strOfNums [(IntKind.wrap .u8 ((k : Nat) : Int))]) ++ s)).1)).ix), .int .i64 ((((R2.Decode ((strOfNums [(IntKind.wrap .u8 ((k : Nat) : Int))]) ++ s)).1)).sc), .int .u32 ((((R2.Decode ((strOfNums [(IntKind.wrap .u8 ((k : Nat) : Int))]) ++ s)).1)).imm), .int .i64 ((((R2.Decode ((strOfNums [(IntKind.wrap .u8 ((k : Nat) : Int))]) ++ s)).1)).sz)], .int .i64 ((R2.Decode ((strOfNums [(IntKind.wrap .u8 ((k : Nat) : Int))]) ++ s)).2)]), (17, .int .i64 ((k : Nat) : Int)), (18, .int .u8 (IntKind.wrap .u8 ((k : Nat) : Int))), (19, .slice (some ⟨g2, 0, none⟩) 1 1), (20, .string (strOfNums [(IntKind.wrap .u8 ((k : Nat) : Int))])), (21, .string s), (22, .string ((strOfNums [(IntKind.wrap .u8 ((k : Nat) : Int))]) ++ s)), (23, .tuple #[.agg #[.int .i64 ((((R2.Decode ((strOfNums [(IntKind.wrap .u8 ((k : Nat) : Int))]) ++ s)).1)).op), .int .i64 ((((R2.Decode ((strOfNums [(IntKind.wrap .u8 ((k : Nat) : Int))]) ++ s)).1)).d), .int .i64 ((((R2.Decode ((strOfNums [(IntKind.wrap .u8 ((k : Nat) : Int))]) ++ s)).1)).s), .int .i64 ((((R2.Decode ((strOfNums [(IntKind.wrap .u8 ((k : Nat) : Int))]) ++ s)).1)).ix), .int .i64 ((((R2.Decode ((strOfNums [(IntKind.wrap .u8 ((k : Nat) : Int))]) ++ s)).1)).sc), .int .u32 ((((R2.Decode ((strOfNums [(IntKind.wrap .u8 ((k : Nat) : Int))]) ++ s)).1)).imm), .int .i64 ((((R2.Decode ((strOfNums [(IntKind.wrap .u8 ((k : Nat) : Int))]) ++ s)).1)).sz)], .int .i64 ((R2.Decode ((strOfNums [(IntKind.wrap .u8 ((k : Nat) : Int))]) ++ s)).2)]), (24, .agg #[.int .i64 ((((R2.Decode ((strOfNums [(IntKind.wrap .u8 ((k : Nat) : Int))]) ++ s)).1)).op), .int .i64 ((((R2.Decode ((strOfNums [(IntKind.wrap .u8 ((k : Nat) : Int))]) ++ s)).1)).d), .int .i64 ((((R2.Decode ((strOfNums [(IntKind.wrap .u8 ((k : Nat) : Int))]) ++ s)).1)).s), .int .i64 ((((R2.Decode ((strOfNums [(IntKind.wrap .u8 ((k : Nat) : Int))]) ++ s)).1)).ix), .int .i64 ((((R2.Decode ((strOfNums [(IntKind.wrap .u8 ((k : Nat) : Int))]) ++ s)).1)).sc), .int .u32 ((((R2.Decode ((strOfNums [(IntKind.wrap .u8 ((k : Nat) : Int))]) ++ s)).1)).imm), .int .i64 ((((R2.Decode ((strOfNums [(IntKind.wrap .u8 ((k : Nat) : Int))]) ++ s)).1)).sz)]), (25, .int .i64 ((R2.Decode ((strOfNums [(IntKind.wrap .u8 ((k : Nat) : Int))]) ++ s)).2)), (26, .int .i64 (R2.Size (IntKind.wrap .u8 ((k : Nat) : Int)))), (27, .int .i64 ((k : Nat) : Int)), (28, .int .u8 (IntKind.wrap .u8 ((k : Nat) : Int))), (29, .int .i64 (R2.Size (IntKind.wrap .u8 ((k : Nat) : Int)))), (30, .bool ((R2.Size (IntKind.wrap .u8 ((k : Nat) : Int))) != (R2.Size (IntKind.wrap .u8 ((k : Nat) : Int))))), (31, .bool ((R2.Size (IntKind.wrap .u8 ((k : Nat) : Int))) != (R2.Size (IntKind.wrap .u8 ((k : Nat) : Int))))), (40, .bool (((R2.Size (IntKind.wrap .u8 ((k : Nat) : Int))) != (R2.Size (IntKind.wrap .u8 ((k : Nat) : Int)))) || ((((R2.Decode ((strOfNums [(IntKind.wrap .u8 ((k : Nat) : Int))]) ++ s)).2) == 0) && (((((R2.Decode ((strOfNums [(IntKind.wrap .u8 ((k : Nat) : Int))]) ++ s)).1)).sz) != (R2.Size (IntKind.wrap .u8 ((k : Nat) : Int)))))))] (fun _ => True) [(g3, [.int .i64 ((((R2.Decode ((strOfNums [(IntKind.wrap .u8 ((k : Nat) : Int))]) ++ s)).1)).op), .int .i64 ((((R2.Decode ((strOfNums [(IntKind.wrap .u8 ((k : Nat) : Int))]) ++ s)).1)).d), .int .i64 ((((R2.Decode ((strOfNums [(IntKind.wrap .u8 ((k : Nat) : Int))]) ++ s)).1)).s), .int .i64 ((((R2.Decode ((strOfNums [(IntKind.wrap .u8 ((k : Nat) : Int))]) ++ s)).1)).ix), .int .i64 ((((R2.Decode ((strOfNums [(IntKind.wrap .u8 ((k : Nat) : Int))]) ++ s)).1)).sc), .int .u32 ((((R2.Decode ((strOfNums [(IntKind.wrap .u8 ((k : Nat) : Int))]) ++ s)).1)).imm), .int .i64 ((((R2.Decode ((strOfNums [(IntKind.wrap .u8 ((k : Nat) : Int))]) ++ s)).1)).sz)]), (g2, [.int .u8 (IntKind.wrap .u8 ((k : Nat) : Int))])] ?_ ?_
    · generalize hc4 : ((R2.Size (IntKind.wrap .u8 ((k : Nat) : Int))) != (R2.Size (IntKind.wrap .u8 ((k : Nat) : Int)))) = b5
      cases b5
      · skip
        refine E.G.op (.int .i64 ((R2.Decode ((strOfNums [(IntKind.wrap .u8 ((k : Nat) : Int))]) ++ s)).2)) (fun w => by kernel_rfl) (by kernel_rfl) ?_
        refine E.G.op (.bool (((R2.Decode ((strOfNums [(IntKind.wrap .u8 ((k : Nat) : Int))]) ++ s)).2) == 0)) (fun w => by kernel_rfl) (by kernel_rfl) ?_
        refine E.G.op (.bool (((R2.Decode ((strOfNums [(IntKind.wrap .u8 ((k : Nat) : Int))]) ++ s)).2) == 0)) (fun w => by kernel_rfl) (by kernel_rfl) ?_
        refine E.G.cut 5 [(0, .string s), (2, .bool false), (3, .bool true), (4, .int .i64 ((k : Nat) : Int)), (5, .int .i64 (R2.Size (IntKind.wrap .u8 ((k : Nat) : Int)))), (6, .pointer (some ⟨g3, 0, none⟩)), (7, .int .i64 ((R2.Decode ((strOfNums [(IntKind.wrap .u8 ((k : Nat) : Int))]) ++ s)).2)), (9, .int .i64 ((k : Nat) : Int)), (10, .bool (decide (((k : Nat) : Int) < 256))), (13, .int .i64 ((k : Nat) : Int)), (14, .int .u8 (IntKind.wrap .u8 ((k : Nat) : Int))), (15, .int .i64 (R2.Size (IntKind.wrap .u8 ((k : Nat) : Int)))), (16, .tuple #[.agg #[.int .i64 ((((R2.Decode ((strOfNums [(IntKind.wrap .u8 ((k : Nat) : Int))]) ++ s)).1)).op), .int .i64 ((((R2.Decode ((strOfNums [(IntKind.wrap .u8 ((k : Nat) : Int))]) ++ s)).1)).d), .int .i64 ((((R2.Decode ((strOfNums [(IntKind.wrap .u8 ((k : Nat) : Int))]) ++ s)).1)).s), .int .i64 ((((R2.Decode ((strOfNums [(IntKind.wrap .u8 ((k : Nat) : Int))]) ++ s)).1)).ix), .int .i64 ((((R2.Decode ((strOfNums [(IntKind.wrap .u8 ((k : Nat) : Int))]) ++ s)).1)).sc), .int .u32 ((((R2.Decode ((strOfNums [(IntKind.wrap .u8 ((k : Nat) : Int))]) ++ s)).1)).imm), .int .i64 ((((R2.Decode ((strOfNums [(IntKind.wrap .u8 ((k : Nat) : Int))]) ++ s)).1)).sz)], .int .i64 ((R2.Decode ((strOfNums [(IntKind.wrap .u8 ((k : Nat) : Int))]) ++ s)).2)]), (17, .int .i64 ((k : Nat) : Int)), (18, .int .u8 (IntKind.wrap .u8 ((k : Nat) : Int))), (19, .slice (some ⟨g2, 0, none⟩) 1 1), (20, .string (strOfNums [(IntKind.wrap .u8 ((k : Nat) : Int))])), (21, .string s), (22, .string ((strOfNums [(IntKind.wrap .u8 ((k : Nat) : Int))]) ++ s)), (23, .tuple #[.agg #[.int .i64 ((((R2.Decode ((strOfNums [(IntKind.wrap .u8 ((k : Nat) : Int))]) ++ s)).1)).op), .int .i64 ((((R2.Decode ((strOfNums [(IntKind.wrap .u8 ((k : Nat) : Int))]) ++ s)).1)).d), .int .i64 ((((R2.Decode ((strOfNums [(IntKind.wrap .u8 ((k : Nat) : Int))]) ++ s)).1)).s), .int .i64 ((((R2.Decode ((strOfNums [(IntKind.wrap .u8 ((k : Nat) : Int))]) ++ s)).1)).ix), .int .i64 ((((R2.Decode ((strOfNums [(IntKind.wrap .u8 ((k : Nat) : Int))]) ++ s)).1)).sc), .int .u32 ((((R2.Decode ((strOfNums [(IntKind.wrap .u8 ((k : Nat) : Int))]) ++ s)).1)).imm), .int .i64 ((((R2.Decode ((strOfNums [(IntKind.wrap .u8 ((k : Nat) : Int))]) ++ s)).1)).sz)], .int .i64 ((R2.Decode ((strOfNums [(IntKind.wrap .u8 ((k : Nat) : Int))]) ++ s)).2)]), (24, .agg #[.int .i64 ((((R2.Decode ((strOfNums [(IntKind.wrap .u8 ((k : Nat) : Int))]) ++ s)).1)).op), .int .i64 ((((R2.Decode ((strOfNums [(IntKind.wrap .u8 ((k : Nat) : Int))]) ++ s)).1)).d), .int .i64 ((((R2.Decode ((strOfNums [(IntKind.wrap .u8 ((k : Nat) : Int))]) ++ s)).1)).s), .int .i64 ((((R2.Decode ((strOfNums [(IntKind.wrap .u8 ((k : Nat) : Int))]) ++ s)).1)).ix), .int .i64 ((((R2.Decode ((strOfNums [(IntKind.wrap .u8 ((k : Nat) : Int))]) ++ s)).1)).sc), .int .u32 ((((R2.Decode ((strOfNums [(IntKind.wrap .u8 ((k : Nat) : Int))]) ++ s)).1)).imm), .int .i64 ((((R2.Decode ((strOfNums [(IntKind.wrap .u8 ((k : Nat) : Int))]) ++ s)).1)).sz)]), (25, .int .i64 ((R2.Decode ((strOfNums [(IntKind.wrap .u8 ((k : Nat) : Int))]) ++ s)).2)), (26, .int .i64 (R2.Size (IntKind.wrap .u8 ((k : Nat) : Int)))), (27, .int .i64 ((k : Nat) : Int)), (28, .int .u8 (IntKind.wrap .u8 ((k : Nat) : Int))), (29, .int .i64 (R2.Size (IntKind.wrap .u8 ((k : Nat) : Int)))), (30, .bool false), (31, .bool false), (32, .int .i64 ((R2.Decode ((strOfNums [(IntKind.wrap .u8 ((k : Nat) : Int))]) ++ s)).2)), (33, .bool (((R2.Decode ((strOfNums [(IntKind.wrap .u8 ((k : Nat) : Int))]) ++ s)).2) == 0)), (34, .bool (((R2.Decode ((strOfNums [(IntKind.wrap .u8 ((k : Nat) : Int))]) ++ s)).2) == 0)), (39, .bool ((((R2.Decode ((strOfNums [(IntKind.wrap .u8 ((k : Nat) : Int))]) ++ s)).2) == 0) && (((((R2.Decode ((strOfNums [(IntKind.wrap .u8 ((k : Nat) : Int))]) ++ s)).1)).sz) != (R2.Size (IntKind.wrap .u8 ((k : Nat) : Int))))))] (fun _ => True) [(g3, [.int .i64 ((((R2.Decode ((strOfNums [(IntKind.wrap .u8 ((k : Nat) : Int))]) ++ s)).1)).op), .int .i64 ((((R2.Decode ((strOfNums [(IntKind.wrap .u8 ((k : Nat) : Int))]) ++ s)).1)).d), .int .i64 ((((R2.Decode ((strOfNums [(IntKind.wrap .u8 ((k : Nat) : Int))]) ++ s)).1)).s), .int .i64 ((((R2.Decode ((strOfNums [(IntKind.wrap .u8 ((k : Nat) : Int))]) ++ s)).1)).ix), .int .i64 ((((R2.Decode ((strOfNums [(IntKind.wrap .u8 ((k : Nat) : Int))]) ++ s)).1)).sc), .int .u32 ((((R2.Decode ((strOfNums [(IntKind.wrap .u8 ((k : Nat) : Int))]) ++ s)).1)).imm), .int .i64 ((((R2.Decode ((strOfNums [(IntKind.wrap .u8 ((k : Nat) : Int))]) ++ s)).1)).sz)]), (g2, [.int .u8 (IntKind.wrap .u8 ((k : Nat) : Int))])] ?_ ?_
        · generalize hc6 : (((R2.Decode ((strOfNums [(IntKind.wrap .u8 ((k : Nat) : Int))]) ++ s)).2) == 0) = b7
          cases b7
          · skip
            refine E.G.skip (by kernel_rfl) (by kernel_rfl) ?_
            refine E.G.skip (by kernel_rfl) (by kernel_rfl) ?_
            refine E.G.skip (by kernel_rfl) (by kernel_rfl) ?_
            refine E.G.skip (by kernel_rfl) (by kernel_rfl) ?_
            refine E.G.op (.bool false) (fun w => by kernel_rfl) (by kernel_rfl) ?_
            exact E.G.end_pst ⟨by kernel_rfl, by kernel_rfl⟩ (List.Sublist.refl _) (fun _ h => h)
          · skip
            refine E.G.op (.pointer (some ⟨g3, 6, none⟩)) (fun w => by kernel_rfl) (by kernel_rfl) ?_
            refine E.G.val (.int .i64 ((((R2.Decode ((strOfNums [(IntKind.wrap .u8 ((k : Nat) : Int))]) ++ s)).1)).sz)) (by kernel_rfl) (fun w h => E.run_load h 0 rfl rfl (by kernel_rfl)) ?_
            refine E.G.op (.int .i64 (R2.Size (IntKind.wrap .u8 ((k : Nat) : Int)))) (fun w => by kernel_rfl) (by kernel_rfl) ?_
            refine E.G.op (.bool (((((R2.Decode ((strOfNums [(IntKind.wrap .u8 ((k : Nat) : Int))]) ++ s)).1)).sz) != (R2.Size (IntKind.wrap .u8 ((k : Nat) : Int))))) (fun w => by kernel_rfl) (by kernel_rfl) ?_
            refine E.G.op (.bool (((((R2.Decode ((strOfNums [(IntKind.wrap .u8 ((k : Nat) : Int))]) ++ s)).1)).sz) != (R2.Size (IntKind.wrap .u8 ((k : Nat) : Int))))) (fun w => by kernel_rfl) (by kernel_rfl) ?_
            exact E.G.end_pst ⟨by kernel_rfl, by kernel_rfl⟩ (List.Sublist.refl _) (fun _ h => h)
        refine E.G.op (.bool ((((R2.Decode ((strOfNums [(IntKind.wrap .u8 ((k : Nat) : Int))]) ++ s)).2) == 0) && (((((R2.Decode ((strOfNums [(IntKind.wrap .u8 ((k : Nat) : Int))]) ++ s)).1)).sz) != (R2.Size (IntKind.wrap .u8 ((k : Nat) : Int)))))) (fun w => by kernel_rfl) (by kernel_rfl) ?_
        exact E.G.end_pst ⟨by kernel_rfl, by kernel_rfl⟩ (List.Sublist.refl _) (fun _ h => h)
      · skip
        refine E.G.skip (by kernel_rfl) (by kernel_rfl) ?_
        refine E.G.skip (by kernel_rfl) (by kernel_rfl) ?_
        refine E.G.skip (by kernel_rfl) (by kernel_rfl) ?_
        refine E.G.skip (by kernel_rfl) (by kernel_rfl) ?_
        refine E.G.skip (by kernel_rfl) (by kernel_rfl) ?_
        refine E.G.skip (by kernel_rfl) (by kernel_rfl) ?_
        refine E.G.skip (by kernel_rfl) (by kernel_rfl) ?_
        refine E.G.skip (by kernel_rfl) (by kernel_rfl) ?_
        refine E.G.op (.bool true) (fun w => by kernel_rfl) (by kernel_rfl) ?_
        exact E.G.end_pst ⟨by kernel_rfl, by kernel_rfl⟩ (List.Sublist.refl _) (fun _ h => h)
    refine E.G.op (.bool (((R2.Size (IntKind.wrap .u8 ((k : Nat) : Int))) != (R2.Size (IntKind.wrap .u8 ((k : Nat) : Int)))) || ((((R2.Decode ((strOfNums [(IntKind.wrap .u8 ((k : Nat) : Int))]) ++ s)).2) == 0) && (((((R2.Decode ((strOfNums [(IntKind.wrap .u8 ((k : Nat) : Int))]) ++ s)).1)).sz) != (R2.Size (IntKind.wrap .u8 ((k : Nat) : Int))))))) (fun w => by kernel_rfl) (by kernel_rfl) ?_
    refine E.G.cut 7 [(0, .string s), (2, .bool false), (3, .bool true), (4, .int .i64 ((k : Nat) : Int)), (5, .int .i64 (R2.Size (IntKind.wrap .u8 ((k : Nat) : Int)))), (6, .pointer (some ⟨g3, 0, none⟩)), (7, .int .i64 ((R2.Decode ((strOfNums [(IntKind.wrap .u8 ((k : Nat) : Int))]) ++ s)).2)), (9, .int .i64 ((k : Nat) : Int)), (10, .bool (decide (((k : Nat) : Int) < 256))), (13, .int .i64 ((k : Nat) : Int)), (14, .int .u8 (IntKind.wrap .u8 ((k : Nat) : Int))), (15, .int .i64 (R2.Size (IntKind.wrap .u8 ((k : Nat) : Int)))), (16, .tuple #[.agg #[.int .i64 ((((R2.Decode ((strOfNums [(IntKind.wrap .u8 ((k : Nat) : Int))]) ++ s)).1)).op), .int .i64 ((((R2.Decode ((strOfNums [(IntKind.wrap .u8 ((k : Nat) : Int))]) ++ s)).1)).d), .int .i64 ((((R2.Decode ((strOfNums [(IntKind.wrap .u8 ((k : Nat) : Int))]) ++ s)).1)).s), .int .i64 ((((R2.Decode ((strOfNums [(IntKind.wrap .u8 ((k : Nat) : Int))]) ++ s)).1)).ix), .int .i64 ((((R2.Decode ((strOfNums [(IntKind.wrap .u8 ((k : Nat) : Int))]) ++ s)).1)).sc), .int .u32 ((((R2.Decode ((strOfNums [(IntKind.wrap .u8 ((k : Nat) : Int))]) ++ s)).1)).imm), .int .i64 ((((R2.Decode ((strOfNums [(IntKind.wrap .u8 ((k : Nat) : Int))]) ++ s)).1)).sz)], .int .i64 ((R2.Decode ((strOfNums [(IntKind.wrap .u8 ((k : Nat) : Int))]) ++ s)).2)]), (17, .int .i64 ((k : Nat) : Int)), (18, .int .u8 (IntKind.wrap .u8 ((k : Nat) : Int))), (19, .slice (some ⟨g2, 0, none⟩) 1 1), (20, .string (strOfNums [(IntKind.wrap .u8 ((k : Nat) : Int))])), (21, .string s), (22, .string ((strOfNums [(IntKind.wrap .u8 ((k : Nat) : Int))]) ++ s)), (23, .tuple #[.agg #[.int .i64 ((((R2.Decode ((strOfNums [(IntKind.wrap .u8 ((k : Nat) : Int))]) ++ s)).1)).op), .int .i64 ((((R2.Decode ((strOfNums [(IntKind.wrap .u8 ((k : Nat) : Int))]) ++ s)).1)).d), .int .i64 ((((R2.Decode ((strOfNums [(IntKind.wrap .u8 ((k : Nat) : Int))]) ++ s)).1)).s), .int .i64 ((((R2.Decode ((strOfNums [(IntKind.wrap .u8 ((k : Nat) : Int))]) ++ s)).1)).ix), .int .i64 ((((R2.Decode ((strOfNums [(IntKind.wrap .u8 ((k : Nat) : Int))]) ++ s)).1)).sc), .int .u32 ((((R2.Decode ((strOfNums [(IntKind.wrap .u8 ((k : Nat) : Int))]) ++ s)).1)).imm), .int .i64 ((((R2.Decode ((strOfNums [(IntKind.wrap .u8 ((k : Nat) : Int))]) ++ s)).1)).sz)], .int .i64 ((R2.Decode ((strOfNums [(IntKind.wrap .u8 ((k : Nat) : Int))]) ++ s)).2)]), (24, .agg #[.int .i64 ((((R2.Decode ((strOfNums [(IntKind.wrap .u8 ((k : Nat) : Int))]) ++ s)).1)).op), .int .i64 ((((R2.Decode ((strOfNums [(IntKind.wrap .u8 ((k : Nat) : Int))]) ++ s)).1)).d), .int .i64 ((((R2.Decode ((strOfNums [(IntKind.wrap .u8 ((k : Nat) : Int))]) ++ s)).1)).s), .int .i64 ((((R2.Decode ((strOfNums [(IntKind.wrap .u8 ((k : Nat) : Int))]) ++ s)).1)).ix), .int .i64 ((((R2.Decode ((strOfNums [(IntKind.wrap .u8 ((k : Nat) : Int))]) ++ s)).1)).sc), .int .u32 ((((R2.Decode ((strOfNums [(IntKind.wrap .u8 ((k : Nat) : Int))]) ++ s)).1)).imm), .int .i64 ((((R2.Decode ((strOfNums [(IntKind.wrap .u8 ((k : Nat) : Int))]) ++ s)).1)).sz)]), (25, .int .i64 ((R2.Decode ((strOfNums [(IntKind.wrap .u8 ((k : Nat) : Int))]) ++ s)).2)), (26, .int .i64 (R2.Size (IntKind.wrap .u8 ((k : Nat) : Int)))), (27, .int .i64 ((k : Nat) : Int)), (28, .int .u8 (IntKind.wrap .u8 ((k : Nat) : Int))), (29, .int .i64 (R2.Size (IntKind.wrap .u8 ((k : Nat) : Int)))), (30, .bool ((R2.Size (IntKind.wrap .u8 ((k : Nat) : Int))) != (R2.Size (IntKind.wrap .u8 ((k : Nat) : Int))))), (31, .bool ((R2.Size (IntKind.wrap .u8 ((k : Nat) : Int))) != (R2.Size (IntKind.wrap .u8 ((k : Nat) : Int))))), (40, .bool (((R2.Size (IntKind.wrap .u8 ((k : Nat) : Int))) != (R2.Size (IntKind.wrap .u8 ((k : Nat) : Int)))) || ((((R2.Decode ((strOfNums [(IntKind.wrap .u8 ((k : Nat) : Int))]) ++ s)).2) == 0) && (((((R2.Decode ((strOfNums [(IntKind.wrap .u8 ((k : Nat) : Int))]) ++ s)).1)).sz) != (R2.Size (IntKind.wrap .u8 ((k : Nat) : Int))))))), (41, .bool (((R2.Size (IntKind.wrap .u8 ((k : Nat) : Int))) != (R2.Size (IntKind.wrap .u8 ((k : Nat) : Int)))) || ((((R2.Decode ((strOfNums [(IntKind.wrap .u8 ((k : Nat) : Int))]) ++ s)).2) == 0) && (((((R2.Decode ((strOfNums [(IntKind.wrap .u8 ((k : Nat) : Int))]) ++ s)).1)).sz) != (R2.Size (IntKind.wrap .u8 ((k : Nat) : Int))))))), (48, .bool ((((R2.Size (IntKind.wrap .u8 ((k : Nat) : Int))) != (R2.Size (IntKind.wrap .u8 ((k : Nat) : Int)))) || ((((R2.Decode ((strOfNums [(IntKind.wrap .u8 ((k : Nat) : Int))]) ++ s)).2) == 0) && (((((R2.Decode ((strOfNums [(IntKind.wrap .u8 ((k : Nat) : Int))]) ++ s)).1)).sz) != (R2.Size (IntKind.wrap .u8 ((k : Nat) : Int)))))) || (((R2.Size (IntKind.wrap .u8 ((k : Nat) : Int))) == 0) && (((R2.Decode ((strOfNums [(IntKind.wrap .u8 ((k : Nat) : Int))]) ++ s)).2) != 12))))] (fun _ => True) [(g3, [.int .i64 ((((R2.Decode ((strOfNums [(IntKind.wrap .u8 ((k : Nat) : Int))]) ++ s)).1)).op), .int .i64 ((((R2.Decode ((strOfNums [(IntKind.wrap .u8 ((k : Nat) : Int))]) ++ s)).1)).d), .int .i64 ((((R2.Decode ((strOfNums [(IntKind.wrap .u8 ((k : Nat) : Int))]) ++ s)).1)).s), .int .i64 ((((R2.Decode ((strOfNums [(IntKind.wrap .u8 ((k : Nat) : Int))]) ++ s)).1)).ix), .int .i64 ((((R2.Decode ((strOfNums [(IntKind.wrap .u8 ((k : Nat) : Int))]) ++ s)).1)).sc), .int .u32 ((((R2.Decode ((strOfNums [(IntKind.wrap .u8 ((k : Nat) : Int))]) ++ s)).1)).imm), .int .i64 ((((R2.Decode ((strOfNums [(IntKind.wrap .u8 ((k : Nat) : Int))]) ++ s)).1)).sz)]), (g2, [.int .u8 (IntKind.wrap .u8 ((k : Nat) : Int))])] ?_ ?_
    · generalize hc8 : (((R2.Size (IntKind.wrap .u8 ((k : Nat) : Int))) != (R2.Size (IntKind.wrap .u8 ((k : Nat) : Int)))) || ((((R2.Decode ((strOfNums [(IntKind.wrap .u8 ((k : Nat) : Int))]) ++ s)).2) == 0) && (((((R2.Decode ((strOfNums [(IntKind.wrap .u8 ((k : Nat) : Int))]) ++ s)).1)).sz) != (R2.Size (IntKind.wrap .u8 ((k : Nat) : Int)))))) = b9
      cases b9
      · skip
        refine E.G.op (.int .i64 (R2.Size (IntKind.wrap .u8 ((k : Nat) : Int)))) (fun w => by kernel_rfl) (by kernel_rfl) ?_
        refine E.G.op (.bool ((R2.Size (IntKind.wrap .u8 ((k : Nat) : Int))) == 0)) (fun w => by kernel_rfl) (by kernel_rfl) ?_
        refine E.G.op (.bool ((R2.Size (IntKind.wrap .u8 ((k : Nat) : Int))) == 0)) (fun w => by kernel_rfl) (by kernel_rfl) ?_
        refine E.G.cut 3 [(0, .string s), (2, .bool false), (3, .bool true), (4, .int .i64 ((k : Nat) : Int)), (5, .int .i64 (R2.Size (IntKind.wrap .u8 ((k : Nat) : Int)))), (6, .pointer (some ⟨g3, 0, none⟩)), (7, .int .i64 ((R2.Decode ((strOfNums [(IntKind.wrap .u8 ((k : Nat) : Int))]) ++ s)).2)), (9, .int .i64 ((k : Nat) : Int)), (10, .bool (decide (((k : Nat) : Int) < 256))), (13, .int .i64 ((k : Nat) : Int)), (14, .int .u8 (IntKind.wrap .u8 ((k : Nat) : Int))), (15, .int .i64 (R2.Size (IntKind.wrap .u8 ((k : Nat) : Int)))), (16, .tuple #[.agg #[.int .i64 ((((R2.Decode ((strOfNums [(IntKind.wrap .u8 ((k : Nat) : Int))]) ++ s)).1)).op), .int .i64 ((((R2.Decode ((strOfNums [(IntKind.wrap .u8 ((k : Nat) : Int))]) ++ s)).1)).d), .int .i64 ((((R2.Decode ((strOfNums [(IntKind.wrap .u8 ((k : Nat) : Int))]) ++ s)).1)).s), .int .i64 ((((R2.Decode ((strOfNums [(IntKind.wrap .u8 ((k : Nat) : Int))]) ++ s)).1)).ix), .int .i64 ((((R2.Decode ((strOfNums [(IntKind.wrap .u8 ((k : Nat) : Int))]) ++ s)).1)).sc), .int .u32 ((((R2.Decode ((strOfNums [(IntKind.wrap .u8 ((k : Nat) : Int))]) ++ s)).1)).imm), .int .i64 ((((R2.Decode ((strOfNums [(IntKind.wrap .u8 ((k : Nat) : Int))]) ++ s)).1)).sz)], .int .i64 ((R2.Decode ((strOfNums [(IntKind.wrap .u8 ((k : Nat) : Int))]) ++ s)).2)]), (17, .int .i64 ((k : Nat) : Int)), (18, .int .u8 (IntKind.wrap .u8 ((k : Nat) : Int))), (19, .slice (some ⟨g2, 0, none⟩) 1 1), (20, .string (strOfNums [(IntKind.wrap .u8 ((k : Nat) : Int))])), (21, .string s), (22, .string ((strOfNums [(IntKind.wrap .u8 ((k : Nat) : Int))]) ++ s)), (23, .tuple #[.agg #[.int .i64 ((((R2.Decode ((strOfNums [(IntKind.wrap .u8 ((k : Nat) : Int))]) ++ s)).1)).op), .int .i64 ((((R2.Decode ((strOfNums [(IntKind.wrap .u8 ((k : Nat) : Int))]) ++ s)).1)).d), .int .i64 ((((R2.Decode ((strOfNums [(IntKind.wrap .u8 ((k : Nat) : Int))]) ++ s)).1)).s), .int .i64 ((((R2.Decode ((strOfNums [(IntKind.wrap .u8 ((k : Nat) : Int))]) ++ s)).1)).ix), .int .i64 ((((R2.Decode ((strOfNums [(IntKind.wrap .u8 ((k : Nat) : Int))]) ++ s)).1)).sc), .int .u32 ((((R2.Decode ((strOfNums [(IntKind.wrap .u8 ((k : Nat) : Int))]) ++ s)).1)).imm), .int .i64 ((((R2.Decode ((strOfNums [(IntKind.wrap .u8 ((k : Nat) : Int))]) ++ s)).1)).sz)], .int .i64 ((R2.Decode ((strOfNums [(IntKind.wrap .u8 ((k : Nat) : Int))]) ++ s)).2)]), (24, .agg #[.int .i64 ((((R2.Decode ((strOfNums [(IntKind.wrap .u8 ((k : Nat) : Int))]) ++ s)).1)).op), .int .i64 ((((R2.Decode ((strOfNums [(IntKind.wrap .u8 ((k : Nat) : Int))]) ++ s)).1)).d), .int .i64 ((((R2.Decode ((strOfNums [(IntKind.wrap .u8 ((k : Nat) : Int))]) ++ s)).1)).s), .int .i64 ((((R2.Decode ((strOfNums [(IntKind.wrap .u8 ((k : Nat) : Int))]) ++ s)).1)).ix), .int .i64 ((((R2.Decode ((strOfNums [(IntKind.wrap .u8 ((k : Nat) : Int))]) ++ s)).1)).sc), .int .u32 ((((R2.Decode ((strOfNums [(IntKind.wrap .u8 ((k : Nat) : Int))]) ++ s)).1)).imm), .int .i64 ((((R2.Decode ((strOfNums [(IntKind.wrap .u8 ((k : Nat) : Int))]) ++ s)).1)).sz)]), (25, .int .i64 ((R2.Decode ((strOfNums [(IntKind.wrap .u8 ((k : Nat) : Int))]) ++ s)).2)), (26, .int .i64 (R2.Size (IntKind.wrap .u8 ((k : Nat) : Int)))), (27, .int .i64 ((k : Nat) : Int)), (28, .int .u8 (IntKind.wrap .u8 ((k : Nat) : Int))), (29, .int .i64 (R2.Size (IntKind.wrap .u8 ((k : Nat) : Int)))), (30, .bool ((R2.Size (IntKind.wrap .u8 ((k : Nat) : Int))) != (R2.Size (IntKind.wrap .u8 ((k : Nat) : Int))))), (31, .bool ((R2.Size (IntKind.wrap .u8 ((k : Nat) : Int))) != (R2.Size (IntKind.wrap .u8 ((k : Nat) : Int))))), (40, .bool false), (41, .bool false), (42, .int .i64 (R2.Size (IntKind.wrap .u8 ((k : Nat) : Int)))), (43, .bool ((R2.Size (IntKind.wrap .u8 ((k : Nat) : Int))) == 0)), (44, .bool ((R2.Size (IntKind.wrap .u8 ((k : Nat) : Int))) == 0)), (47, .bool (((R2.Size (IntKind.wrap .u8 ((k : Nat) : Int))) == 0) && (((R2.Decode ((strOfNums [(IntKind.wrap .u8 ((k : Nat) : Int))]) ++ s)).2) != 12)))] (fun _ => True) [(g3, [.int .i64 ((((R2.Decode ((strOfNums [(IntKind.wrap .u8 ((k : Nat) : Int))]) ++ s)).1)).op), .int .i64 ((((R2.Decode ((strOfNums [(IntKind.wrap .u8 ((k : Nat) : Int))]) ++ s)).1)).d), .int .i64 ((((R2.Decode ((strOfNums [(IntKind.wrap .u8 ((k : Nat) : Int))]) ++ s)).1)).s), .int .i64 ((((R2.Decode ((strOfNums [(IntKind.wrap .u8 ((k : Nat) : Int))]) ++ s)).1)).ix), .int .i64 ((((R2.Decode ((strOfNums [(IntKind.wrap .u8 ((k : Nat) : Int))]) ++ s)).1)).sc), .int .u32 ((((R2.Decode ((strOfNums [(IntKind.wrap .u8 ((k : Nat) : Int))]) ++ s)).1)).imm), .int .i64 ((((R2.Decode ((strOfNums [(IntKind.wrap .u8 ((k : Nat) : Int))]) ++ s)).1)).sz)]), (g2, [.int .u8 (IntKind.wrap .u8 ((k : Nat) : Int))])] ?_ ?_
        · generalize hc10 : ((R2.Size (IntKind.wrap .u8 ((k : Nat) : Int))) == 0) = b11
          cases b11
          · skip
            refine E.G.skip (by kernel_rfl) (by kernel_rfl) ?_
            refine E.G.skip (by kernel_rfl) (by kernel_rfl) ?_
            refine E.G.op (.bool false) (fun w => by kernel_rfl) (by kernel_rfl) ?_
            exact E.G.end_pst ⟨by kernel_rfl, by kernel_rfl⟩ (List.Sublist.refl _) (fun _ h => h)
          · skip
            refine E.G.op (.int .i64 ((R2.Decode ((strOfNums [(IntKind.wrap .u8 ((k : Nat) : Int))]) ++ s)).2)) (fun w => by kernel_rfl) (by kernel_rfl) ?_
            refine E.G.op (.bool (((R2.Decode ((strOfNums [(IntKind.wrap .u8 ((k : Nat) : Int))]) ++ s)).2) != 12)) (fun w => by kernel_rfl) (by kernel_rfl) ?_
            refine E.G.op (.bool (((R2.Decode ((strOfNums [(IntKind.wrap .u8 ((k : Nat) : Int))]) ++ s)).2) != 12)) (fun w => by kernel_rfl) (by kernel_rfl) ?_
            exact E.G.end_pst ⟨by kernel_rfl, by kernel_rfl⟩ (List.Sublist.refl _) (fun _ h => h)
        refine E.G.op (.bool (((R2.Size (IntKind.wrap .u8 ((k : Nat) : Int))) == 0) && (((R2.Decode ((strOfNums [(IntKind.wrap .u8 ((k : Nat) : Int))]) ++ s)).2) != 12))) (fun w => by kernel_rfl) (by kernel_rfl) ?_
        exact E.G.end_pst ⟨by kernel_rfl, by kernel_rfl⟩ (List.Sublist.refl _) (fun _ h => h)
      · skip
        refine E.G.skip (by kernel_rfl) (by kernel_rfl) ?_
        refine E.G.skip (by kernel_rfl) (by kernel_rfl) ?_
        refine E.G.skip (by kernel_rfl) (by kernel_rfl) ?_
        refine E.G.skip (by kernel_rfl) (by kernel_rfl) ?_
        refine E.G.skip (by kernel_rfl) (by kernel_rfl) ?_
        refine E.G.skip (by kernel_rfl) (by kernel_rfl) ?_
        refine E.G.op (.bool true) (fun w => by kernel_rfl) (by kernel_rfl) ?_
        exact E.G.end_pst ⟨by kernel_rfl, by kernel_rfl⟩ (List.Sublist.refl _) (fun _ h => h)
    refine E.To.code ?_
    refine E.C.cond ((((R2.Size (IntKind.wrap .u8 ((k : Nat) : Int))) != (R2.Size (IntKind.wrap .u8 ((k : Nat) : Int)))) || ((((R2.Decode ((strOfNums [(IntKind.wrap .u8 ((k : Nat) : Int))]) ++ s)).2) == 0) && (((((R2.Decode ((strOfNums [(IntKind.wrap .u8 ((k : Nat) : Int))]) ++ s)).1)).sz) != (R2.Size (IntKind.wrap .u8 ((k : Nat) : Int)))))) || (((R2.Size (IntKind.wrap .u8 ((k : Nat) : Int))) == 0) && (((R2.Decode ((strOfNums [(IntKind.wrap .u8 ((k : Nat) : Int))]) ++ s)).2) != 12))) (by kernel_rfl) (by kernel_rfl) (fun hc12 => ?_) (fun hc12 => ?_)
    · skip
      refine E.C.seq ?_
      refine E.C.region ?_
      refine E.G.op (.bool false) (fun w => by kernel_rfl) (by kernel_rfl) ?_
      refine E.To.code ?_
      refine E.C.ret (E.P.rb (E.P.rt (E.P.rt (E.P.rb (E.P.rt (E.To.body (fn := Try.f12) [.bool false] ?_ ?_))))))
      · exact ⟨⟨by kernel_rfl, by kernel_rfl⟩, trivial⟩
      · intro w h
        exact absurd ((show K.sizesC s k = true from hc12).symm.trans (K.sizesC_false s k hs)) Bool.noConfusion
    · skip
      refine E.C.skip (E.P.nb (E.To.code ?_))
      refine E.C.region ?_
      refine E.G.op (.int .i64 ((k : Nat) : Int)) (fun w => by kernel_rfl) (by kernel_rfl) ?_
      refine E.G.val (.int .i64 ((k + 1 : Nat) : Int)) (by kernel_rfl) (fun w h => E.run_as (a := .int .i64 (IntKind.wrap .i64 (((k : Nat) : Int) + 1))) (by kernel_rfl) (by rw [K.w64 _ (by omega) (by omega)]; rfl)) ?_
      refine E.G.op (.int .i64 ((k + 1 : Nat) : Int)) (fun w => by kernel_rfl) (by kernel_rfl) ?_
      exact E.To.round (k + 1) (by simp only [decide_eq_true_eq] at *; omega) (by simp only [decide_eq_true_eq] at *; omega) ⟨by kernel_rfl, by kernel_rfl⟩ (List.nil_sublist _) (fun _ h => h)
  · skip
    refine E.C.exit (E.P.et (E.P.et (E.P.eh (E.To.code ?_))))
    refine E.C.seq ?_
    refine E.C.region ?_
    refine E.G.op (.bool true) (fun w => by kernel_rfl) (by kernel_rfl) ?_
    refine E.G.op (.bool true) (fun w => by kernel_rfl) (by kernel_rfl) ?_
    refine E.To.code ?_
    refine E.C.ret (E.To.body (fn := Try.f12) [.bool true] ?_ ?_)
    · exact ⟨⟨by kernel_rfl, by kernel_rfl⟩, trivial⟩
    · intro w h
      exact ⟨rfl, h.ch.bel (fun _ h => h.elim)⟩
end Go.Proofs.Ytgnekniabedomaa
