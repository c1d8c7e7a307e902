/- Walks: Valid, Encode, Decode, Target, Ends, Size of kcode, printed by wip/eng. No condition but what is named. -/
import Derived.Test.YtgnekniabedomaaProg
import Derived.Test.YtgnekniabedomaaKm
namespace Go.Proofs.Ytgnekniabedomaa
set_option linter.unusedVariables false
set_option linter.unusedSimpArgs false
open Go.RowKit

theorem K.wr_len (k : Nat) (hk : k < 11) (i : K.Ins) : ((K.wr k i).length : Int) + 1 = K.len k := by
  rcases (by omega : k = 0 ∨ k = 1 ∨ k = 2 ∨ k = 3 ∨ k = 4 ∨ k = 5 ∨ k = 6 ∨ k = 7 ∨ k = 8 ∨ k = 9 ∨ k = 10) with rfl | rfl | rfl | rfl | rfl | rfl | rfl | rfl | rfl | rfl | rfl <;> rfl
theorem K.len_bd (k : Nat) (hk : k < 11) : 1 ≤ K.len k ∧ K.len k ≤ 7 := by
  rcases (by omega : k = 0 ∨ k = 1 ∨ k = 2 ∨ k = 3 ∨ k = 4 ∨ k = 5 ∨ k = 6 ∨ k = 7 ∨ k = 8 ∨ k = 9 ∨ k = 10) with rfl | rfl | rfl | rfl | rfl | rfl | rfl | rfl | rfl | rfl | rfl <;> decide
theorem K.vs (k : Nat) (hk : k < 11) (i : K.Ins) : (strOfNums [IntKind.wrap .u8 i.op] ++ strOfNums (K.wr k i)).size ≤ maxLen ∧ K.len k ≤ ((strOfNums [IntKind.wrap .u8 i.op] ++ strOfNums (K.wr k i)).size : Int) := by
  have h1 := K.wr_len k hk i
  have h2 := K.len_bd k hk
  rw [ByteArray.size_append, strOfNums_size, strOfNums_size]
  unfold maxLen
  simp only [List.length_cons, List.length_nil]
  omega
theorem K.in_of {i : K.Ins} {b : Bool} (hm : 0 ≤ i.imm ∧ i.imm < 4294967296) (h : (b || (!(K.rng i))) = false) : K.In i := by
  have hr : K.rng i = true := by cases hq : K.rng i <;> simp_all
  unfold K.rng at hr
  simp only [K.in_one, Bool.and_eq_true, decide_eq_true_eq] at hr
  obtain ⟨⟨a0, a1⟩, ⟨b0, b1⟩, ⟨c0, c1⟩, d0, d1⟩ := hr
  have hmo : K.most i.op ≤ 7 := by unfold K.most; split <;> (try split) <;> omega
  exact ⟨a0, a1, b0, by omega, c0, c1, d0, d1, hm.1, hm.2⟩

def K.valid0 (i : K.Ins) : Bool := false
theorem Valid_none (i : K.Ins) (hk : K.fmt i.op = none) (w : World) : Calls Try.prog 19 #[.agg #[.int .i64 i.op, .int .i64 i.d, .int .i64 i.s, .int .i64 i.ix, .int .i64 i.sc, .int .u32 i.imm, .int .i64 i.sz]] w fun e w' => e = .returned (.bool (K.valid0 i)) ∧ Bel w w' := by
  refine E.enter (n := 39) (S := fun _ => False) Try.func19 rfl rfl (by kernel_rfl) (E.Hp.start w) ?_
  refine E.C.seq ?_
  refine E.C.region ?_
  refine E.G.new (fun g => .pointer (some ⟨g, 0, none⟩)) [.int .i64 i.op, .int .i64 i.d, .int .i64 i.s, .int .i64 i.ix, .int .i64 i.sc, .int .u32 i.imm, .int .i64 i.sz] 27 (fun w => by kernel_rfl) (by kernel_rfl) (fun g1 => ?_)
  refine E.G.op (.bool false) (fun w => by kernel_rfl) (by kernel_rfl) ?_
  refine E.To.code ?_
  refine E.C.seq ?_
  refine E.C.region ?_
  refine E.G.op (.pointer (some ⟨g1, 0, none⟩)) (fun w => by kernel_rfl) (by kernel_rfl) ?_
  refine E.G.val (.int .i64 i.op) (by kernel_rfl) (fun w h => E.run_load h 0 rfl rfl (by kernel_rfl)) ?_
  refine E.G.call (.tuple #[.agg #[.int .i64 0, .int .i64 0, .int .i64 0, .nilFunc, .nilFunc], .bool false]) (fun w h => find_none hk w) (fun w _ => by kernel_rfl) (by kernel_rfl) ?_
  refine E.G.op (.tuple #[.agg #[.int .i64 0, .int .i64 0, .int .i64 0, .nilFunc, .nilFunc], .bool false]) (fun w => by kernel_rfl) (by kernel_rfl) ?_
  refine E.G.op (.agg #[.int .i64 0, .int .i64 0, .int .i64 0, .nilFunc, .nilFunc]) (fun w => by kernel_rfl) (by kernel_rfl) ?_
  refine E.G.op (.bool false) (fun w => by kernel_rfl) (by kernel_rfl) ?_
  refine E.G.new (fun g => .pointer (some ⟨g, 0, none⟩)) [.int .i64 0, .int .i64 0, .int .i64 0, .nilFunc, .nilFunc] 66 (fun w => by kernel_rfl) (by kernel_rfl) (fun g2 => ?_)
  refine E.G.store 0 [.int .i64 0, .int .i64 0, .int .i64 0, .nilFunc, .nilFunc] rfl rfl (by kernel_rfl) (by kernel_rfl) ?_
  refine E.G.op (.bool false) (fun w => by kernel_rfl) (by kernel_rfl) ?_
  refine E.To.code ?_
  refine E.C.seq ?_
  refine E.C.seq ?_
  refine E.C.region ?_
  refine E.G.op (.bool false) (fun w => by kernel_rfl) (by kernel_rfl) ?_
  refine E.G.op (.bool true) (fun w => by kernel_rfl) (by kernel_rfl) ?_
  refine E.G.op (.bool true) (fun w => by kernel_rfl) (by kernel_rfl) ?_
  refine E.G.skip (by kernel_rfl) (by kernel_rfl) ?_
  refine E.G.skip (by kernel_rfl) (by kernel_rfl) ?_
  refine E.G.skip (by kernel_rfl) (by kernel_rfl) ?_
  refine E.G.skip (by kernel_rfl) (by kernel_rfl) ?_
  refine E.G.skip (by kernel_rfl) (by kernel_rfl) ?_
  refine E.G.op (.bool true) (fun w => by kernel_rfl) (by kernel_rfl) ?_
  refine E.G.op (.bool true) (fun w => by kernel_rfl) (by kernel_rfl) ?_
  refine E.G.skip (by kernel_rfl) (by kernel_rfl) ?_
  refine E.G.skip (by kernel_rfl) (by kernel_rfl) ?_
  refine E.G.skip (by kernel_rfl) (by kernel_rfl) ?_
  refine E.G.op (.bool true) (fun w => by kernel_rfl) (by kernel_rfl) ?_
  refine E.To.code ?_
  refine E.C.weak [(1, .pointer (some ⟨g1, 0, none⟩)), (2, .bool false), (3, .pointer (some ⟨g2, 0, none⟩)), (24, .bool true)] [(g2, [.int .i64 0, .int .i64 0, .int .i64 0, .nilFunc, .nilFunc]), (g1, [.int .i64 i.op, .int .i64 i.d, .int .i64 i.s, .int .i64 i.ix, .int .i64 i.sc, .int .u32 i.imm, .int .i64 i.sz])] ⟨by kernel_rfl, by kernel_rfl⟩ (List.Sublist.refl _) ?_
  refine E.C.condT (by kernel_rfl) (by kernel_rfl) ?_
  refine E.C.seq ?_
  refine E.C.region ?_
  refine E.G.op (.bool false) (fun w => by kernel_rfl) (by kernel_rfl) ?_
  refine E.To.code ?_
  refine E.C.ret (E.P.rt (E.To.body (fn := Try.f19) [.bool false] ?_ ?_))
  · exact ⟨⟨by kernel_rfl, by kernel_rfl⟩, trivial⟩
  · intro w h
    exact ⟨rfl, h.ch.bel (fun _ h => h.elim)⟩

def K.valid1 (k : Nat) (i : K.Ins) : Bool := (bif ((i.sz != (K.len k)) || (!(K.rng i))) then false else ((((K.rd k (((strOfNums [(IntKind.wrap .u8 i.op)]) ++ (strOfNums (K.wr k i)))).data.toList (K.len k))).op == i.op) && (((K.rd k (((strOfNums [(IntKind.wrap .u8 i.op)]) ++ (strOfNums (K.wr k i)))).data.toList (K.len k))).d == i.d) && (((K.rd k (((strOfNums [(IntKind.wrap .u8 i.op)]) ++ (strOfNums (K.wr k i)))).data.toList (K.len k))).s == i.s) && (((K.rd k (((strOfNums [(IntKind.wrap .u8 i.op)]) ++ (strOfNums (K.wr k i)))).data.toList (K.len k))).ix == i.ix) && (((K.rd k (((strOfNums [(IntKind.wrap .u8 i.op)]) ++ (strOfNums (K.wr k i)))).data.toList (K.len k))).sc == i.sc) && (((K.rd k (((strOfNums [(IntKind.wrap .u8 i.op)]) ++ (strOfNums (K.wr k i)))).data.toList (K.len k))).imm == i.imm) && (((K.rd k (((strOfNums [(IntKind.wrap .u8 i.op)]) ++ (strOfNums (K.wr k i)))).data.toList (K.len k))).sz == i.sz)))
theorem Valid_some (k : Nat) (i : K.Ins) (hk : K.fmt i.op = some k) (hm : 0 ≤ i.imm ∧ i.imm < 4294967296) (w : World) : Calls Try.prog 19 #[.agg #[.int .i64 i.op, .int .i64 i.d, .int .i64 i.s, .int .i64 i.ix, .int .i64 i.sc, .int .u32 i.imm, .int .i64 i.sz]] w fun e w' => e = .returned (.bool (K.valid1 k i)) ∧ Bel w w' := by
  refine E.enter (n := 39) (S := fun _ => False) Try.func19 rfl rfl (by kernel_rfl) (E.Hp.start w) ?_
  refine E.C.seq ?_
  refine E.C.region ?_
  refine E.G.new (fun g => .pointer (some ⟨g, 0, none⟩)) [.int .i64 i.op, .int .i64 i.d, .int .i64 i.s, .int .i64 i.ix, .int .i64 i.sc, .int .u32 i.imm, .int .i64 i.sz] 27 (fun w => by kernel_rfl) (by kernel_rfl) (fun g1 => ?_)
  refine E.G.op (.bool false) (fun w => by kernel_rfl) (by kernel_rfl) ?_
  refine E.To.code ?_
  refine E.C.seq ?_
  refine E.C.region ?_
  refine E.G.op (.pointer (some ⟨g1, 0, none⟩)) (fun w => by kernel_rfl) (by kernel_rfl) ?_
  refine E.G.val (.int .i64 i.op) (by kernel_rfl) (fun w h => E.run_load h 0 rfl rfl (by kernel_rfl)) ?_
  refine E.G.callX (I := FuncId × Array Value × FuncId × Array Value) (fun _ => True) (fun i => .tuple #[.agg #[.int .i64 (K.lo k), .int .i64 (K.hi k), .int .i64 (K.len k), .func (.func i.1) #[] i.2.1, .func (.func i.2.2.1) #[] i.2.2.2], .bool true]) (fun i => fun w => (fun _ => True) w ∧ K.Fm k (.func (.func i.1) #[] i.2.1) (.func (.func i.2.2.1) #[] i.2.2.2) w) (fun _ => [(g1, [.int .i64 i.op, .int .i64 i.d, .int .i64 i.s, .int .i64 i.ix, .int .i64 i.sc, .int .u32 i.imm, .int .i64 i.sz])]) (fun w h => find_hp hk (by unfold K.intB; simp) w h) (fun w _ => by kernel_rfl) (by kernel_rfl) (fun i _ => ?_)
  obtain ⟨Fq2, csq2, Gq2, dsq2⟩ := i
  refine E.G.op (.tuple #[.agg #[.int .i64 (K.lo k), .int .i64 (K.hi k), .int .i64 (K.len k), .func (.func Fq2) #[] csq2, .func (.func Gq2) #[] dsq2], .bool true]) (fun w => by kernel_rfl) (by kernel_rfl) ?_
  refine E.G.op (.agg #[.int .i64 (K.lo k), .int .i64 (K.hi k), .int .i64 (K.len k), .func (.func Fq2) #[] csq2, .func (.func Gq2) #[] dsq2]) (fun w => by kernel_rfl) (by kernel_rfl) ?_
  refine E.G.op (.bool true) (fun w => by kernel_rfl) (by kernel_rfl) ?_
  refine E.G.new (fun g => .pointer (some ⟨g, 0, none⟩)) [.int .i64 0, .int .i64 0, .int .i64 0, .nilFunc, .nilFunc] 66 (fun w => by kernel_rfl) (by kernel_rfl) (fun g3 => ?_)
  refine E.G.store 0 [.int .i64 (K.lo k), .int .i64 (K.hi k), .int .i64 (K.len k), .func (.func Fq2) #[] csq2, .func (.func Gq2) #[] dsq2] rfl rfl (by kernel_rfl) (by kernel_rfl) ?_
  refine E.G.op (.bool true) (fun w => by kernel_rfl) (by kernel_rfl) ?_
  refine E.To.code ?_
  refine E.C.seq ?_
  refine E.C.seq ?_
  refine E.C.region ?_
  refine E.G.op (.bool true) (fun w => by kernel_rfl) (by kernel_rfl) ?_
  refine E.G.op (.bool false) (fun w => by kernel_rfl) (by kernel_rfl) ?_
  refine E.G.op (.bool false) (fun w => by kernel_rfl) (by kernel_rfl) ?_
  refine E.G.op (.pointer (some ⟨g1, 6, none⟩)) (fun w => by kernel_rfl) (by kernel_rfl) ?_
  refine E.G.val (.int .i64 i.sz) (by kernel_rfl) (fun w h => E.run_load h 1 rfl rfl (by kernel_rfl)) ?_
  refine E.G.op (.pointer (some ⟨g3, 2, none⟩)) (fun w => by kernel_rfl) (by kernel_rfl) ?_
  refine E.G.val (.int .i64 (K.len k)) (by kernel_rfl) (fun w h => E.run_load h 0 rfl rfl (by kernel_rfl)) ?_
  refine E.G.op (.bool (i.sz != (K.len k))) (fun w => by kernel_rfl) (by kernel_rfl) ?_
  refine E.G.op (.bool (i.sz != (K.len k))) (fun w => by kernel_rfl) (by kernel_rfl) ?_
  refine E.G.op (.bool (i.sz != (K.len k))) (fun w => by kernel_rfl) (by kernel_rfl) ?_
  refine E.G.cut 4 [(1, .pointer (some ⟨g1, 0, none⟩)), (2, .bool false), (3, .pointer (some ⟨g3, 0, none⟩)), (24, .bool ((i.sz != (K.len k)) || (!(K.rng i))))] (fun w => (fun _ => True) w ∧ K.Fm k (.func (.func Fq2) #[] csq2) (.func (.func Gq2) #[] dsq2) w) [(g3, [.int .i64 (K.lo k), .int .i64 (K.hi k), .int .i64 (K.len k), .func (.func Fq2) #[] csq2, .func (.func Gq2) #[] dsq2]), (g1, [.int .i64 i.op, .int .i64 i.d, .int .i64 i.s, .int .i64 i.ix, .int .i64 i.sc, .int .u32 i.imm, .int .i64 i.sz])] ?_ ?_
  · generalize hc4 : (i.sz != (K.len k)) = b5
    cases b5
    · skip
      refine E.G.val (.agg #[.int .i64 i.op, .int .i64 i.d, .int .i64 i.s, .int .i64 i.ix, .int .i64 i.sc, .int .u32 i.imm, .int .i64 i.sz]) (by kernel_rfl) (fun w h => E.run_load h 1 rfl rfl (by kernel_rfl)) ?_
      refine E.G.call (.bool (K.rng i)) (fun w h => ranges_any i w) (fun w _ => by kernel_rfl) (by kernel_rfl) ?_
      refine E.G.op (.bool (!(K.rng i))) (fun w => by kernel_rfl) (by kernel_rfl) ?_
      refine E.G.op (.bool (!(K.rng i))) (fun w => by kernel_rfl) (by kernel_rfl) ?_
      exact E.G.end_pst ⟨by kernel_rfl, by kernel_rfl⟩ (List.Sublist.refl _) (fun _ h => h)
    · skip
      refine E.G.skip (by kernel_rfl) (by kernel_rfl) ?_
      refine E.G.skip (by kernel_rfl) (by kernel_rfl) ?_
      refine E.G.skip (by kernel_rfl) (by kernel_rfl) ?_
      refine E.G.op (.bool true) (fun w => by kernel_rfl) (by kernel_rfl) ?_
      exact E.G.end_pst ⟨by kernel_rfl, by kernel_rfl⟩ (List.Sublist.refl _) (fun _ h => h)
  refine E.To.code ?_
  refine E.C.cond ((i.sz != (K.len k)) || (!(K.rng i))) (by kernel_rfl) (by kernel_rfl) (fun hc6 => ?_) (fun hc6 => ?_)
  · skip
    refine E.C.seq ?_
    refine E.C.region ?_
    refine E.G.op (.bool false) (fun w => by kernel_rfl) (by kernel_rfl) ?_
    refine E.To.code ?_
    refine E.C.ret (E.P.rt (E.To.body (fn := Try.f19) [.bool false] ?_ ?_))
    · exact ⟨⟨by kernel_rfl, by kernel_rfl⟩, trivial⟩
    · intro w h
      exact ⟨by show Ending.returned (.bool false) = _; unfold K.valid1; rw [hc6, cond_true], h.ch.bel (fun _ h => h.elim)⟩
  · skip
    refine E.C.skip (E.To.code ?_)
    refine E.C.seq ?_
    refine E.C.held (E.Hp (fun _ => False) w (fun w => (fun _ => True) w ∧ K.Fm k (.func (.func Fq2) #[] csq2) (.func (.func Gq2) #[] dsq2) w) [(g3, [.int .i64 (K.lo k), .int .i64 (K.hi k), .int .i64 (K.len k), .func (.func Fq2) #[] csq2, .func (.func Gq2) #[] dsq2]), (g1, [.int .i64 i.op, .int .i64 i.d, .int .i64 i.s, .int .i64 i.ix, .int .i64 i.sc, .int .u32 i.imm, .int .i64 i.sz])]) (by kernel_rfl) ?_
    refine E.H.take 0 (.agg #[.int .i64 (K.lo k), .int .i64 (K.hi k), .int .i64 (K.len k), .func (.func Fq2) #[] csq2, .func (.func Gq2) #[] dsq2]) rfl (by kernel_rfl) (by kernel_rfl) (by kernel_rfl) (fun _ _ _ h => h) (fun w h => h) (.inl ⟨by kernel_rfl, by kernel_rfl, fun w h => E.run_load h 0 rfl rfl (by kernel_rfl)⟩) (by kernel_rfl) ?_
    refine E.H.take 1 (.pointer (some ⟨g1, 0, none⟩)) rfl (by kernel_rfl) (by kernel_rfl) (by kernel_rfl) (fun _ _ _ h => h) (fun w h => h) (.inl ⟨by kernel_rfl, by kernel_rfl, fun w h => by kernel_rfl⟩) (by kernel_rfl) ?_
    refine E.H.take 2 (.int .i64 i.op) rfl (by kernel_rfl) (by kernel_rfl) (by kernel_rfl) (fun _ _ _ h => h) (fun w h => h) (.inl ⟨by kernel_rfl, by kernel_rfl, fun w h => E.run_load h 1 rfl rfl (by kernel_rfl)⟩) (by kernel_rfl) ?_
    refine E.H.take 3 (.int .u8 (IntKind.wrap .u8 i.op)) rfl (by kernel_rfl) (by kernel_rfl) (by kernel_rfl) (fun _ _ _ h => h) (fun w h => h) (.inl ⟨by kernel_rfl, by kernel_rfl, fun w h => by kernel_rfl⟩) (by kernel_rfl) ?_
    refine E.H.take 6 (.pointer (some ⟨g3, 4, none⟩)) rfl (by kernel_rfl) (by kernel_rfl) (by kernel_rfl) (fun _ _ _ h => h) (fun w h => h) (.inl ⟨by kernel_rfl, by kernel_rfl, fun w h => by kernel_rfl⟩) (by kernel_rfl) ?_
    refine E.H.take 7 (.func (.func Gq2) #[] dsq2) rfl (by kernel_rfl) (by kernel_rfl) (by kernel_rfl) (fun _ _ _ h => h) (fun w h => h) (.inl ⟨by kernel_rfl, by kernel_rfl, fun w h => E.run_load h 0 rfl rfl (by kernel_rfl)⟩) (by kernel_rfl) ?_
    refine E.H.take 8 (.agg #[.int .i64 i.op, .int .i64 i.d, .int .i64 i.s, .int .i64 i.ix, .int .i64 i.sc, .int .u32 i.imm, .int .i64 i.sz]) rfl (by kernel_rfl) (by kernel_rfl) (by kernel_rfl) (fun _ _ _ h => h) (fun w h => h) (.inl ⟨by kernel_rfl, by kernel_rfl, fun w h => E.run_load h 1 rfl rfl (by kernel_rfl)⟩) (by kernel_rfl) ?_
    refine E.H.take 12 (.agg #[.int .i64 i.op, .int .i64 i.d, .int .i64 i.s, .int .i64 i.ix, .int .i64 i.sc, .int .u32 i.imm, .int .i64 i.sz]) rfl (by kernel_rfl) (by kernel_rfl) (by kernel_rfl) (fun _ _ _ h => h) (fun w h => h) (.inl ⟨by kernel_rfl, by kernel_rfl, fun w h => E.run_load h 1 rfl rfl (by kernel_rfl)⟩) (by kernel_rfl) ?_
    refine E.H.all [4, 9] (by kernel_rfl) (by simp) (List.forall_mem_cons.2 ⟨⟨_, rfl, ?_⟩, List.forall_mem_cons.2 ⟨⟨_, rfl, ?_⟩, fun _ h => (List.not_mem_nil h).elim⟩⟩)
    · skip
      refine E.G.buildSlice [.int .u8 (IntKind.wrap .u8 i.op)] (by kernel_rfl) (by kernel_rfl) (fun g7 => ?_)
      refine E.H.back (fun w h => h.less (List.Sublist.cons _ (List.Sublist.refl _))) ?_
      refine E.H.all [5, 9] (by kernel_rfl) (by simp) (List.forall_mem_cons.2 ⟨⟨_, rfl, ?_⟩, List.forall_mem_cons.2 ⟨⟨_, rfl, ?_⟩, fun _ h => (List.not_mem_nil h).elim⟩⟩)
      · skip
        refine E.G.val (.string (strOfNums [(IntKind.wrap .u8 i.op)])) (by kernel_rfl) (fun w h => E.b2s h 0 g7 0 1 1 [(IntKind.wrap .u8 i.op)] (e := 5) (by kernel_rfl) (by kernel_rfl) (by kernel_rfl) (by kernel_rfl) rfl (by kernel_rfl) rfl) ?_
        refine E.H.back (fun w h => h.less (List.Sublist.cons _ (List.Sublist.refl _))) ?_
        refine E.H.all [9] (by kernel_rfl) (by simp) (List.forall_mem_cons.2 ⟨⟨_, rfl, ?_⟩, fun _ h => (List.not_mem_nil h).elim⟩)
        · skip
          refine E.G.callv (G := Gq2) (ds := dsq2) [.agg #[.int .i64 i.op, .int .i64 i.d, .int .i64 i.s, .int .i64 i.ix, .int .i64 i.sc, .int .u32 i.imm, .int .i64 i.sz]] (.string (strOfNums (K.wr k i))) (by kernel_rfl) (by kernel_rfl) (fun w h => K.enter_at (K.fmt_lt hk) h.x.2 _ _) (fun w h => kput_at (K.fmt_lt hk) h.x.2 (K.in_of hm hc6)) (by kernel_rfl) ?_
          refine E.H.back (fun w h => h.less (List.Sublist.cons _ (List.Sublist.refl _))) ?_
          refine E.H.take 10 (.string ((strOfNums [(IntKind.wrap .u8 i.op)]) ++ (strOfNums (K.wr k i)))) rfl (by kernel_rfl) (by kernel_rfl) (by kernel_rfl) (fun _ _ _ h => h) (fun w h => h.less (List.Sublist.cons _ (List.Sublist.refl _))) (.inl ⟨by kernel_rfl, by kernel_rfl, fun w h => E.cat (strOfNums [(IntKind.wrap .u8 i.op)]) (strOfNums (K.wr k i)) (by kernel_rfl) (by kernel_rfl) (by rw [strOfNums_size, strOfNums_size]; have := K.wr_len k (K.fmt_lt hk) i; have := K.len_bd k (K.fmt_lt hk); simp only [List.length_cons, List.length_nil]; omega) w⟩) (by kernel_rfl) ?_
          refine E.H.all [11] (by kernel_rfl) (by simp) (List.forall_mem_cons.2 ⟨⟨_, rfl, ?_⟩, fun _ h => (List.not_mem_nil h).elim⟩)
          · skip
            refine E.G.call (.agg #[.int .i64 (((K.rd k (((strOfNums [(IntKind.wrap .u8 i.op)]) ++ (strOfNums (K.wr k i)))).data.toList (K.len k))).op), .int .i64 (((K.rd k (((strOfNums [(IntKind.wrap .u8 i.op)]) ++ (strOfNums (K.wr k i)))).data.toList (K.len k))).d), .int .i64 (((K.rd k (((strOfNums [(IntKind.wrap .u8 i.op)]) ++ (strOfNums (K.wr k i)))).data.toList (K.len k))).s), .int .i64 (((K.rd k (((strOfNums [(IntKind.wrap .u8 i.op)]) ++ (strOfNums (K.wr k i)))).data.toList (K.len k))).ix), .int .i64 (((K.rd k (((strOfNums [(IntKind.wrap .u8 i.op)]) ++ (strOfNums (K.wr k i)))).data.toList (K.len k))).sc), .int .u32 (((K.rd k (((strOfNums [(IntKind.wrap .u8 i.op)]) ++ (strOfNums (K.wr k i)))).data.toList (K.len k))).imm), .int .i64 (((K.rd k (((strOfNums [(IntKind.wrap .u8 i.op)]) ++ (strOfNums (K.wr k i)))).data.toList (K.len k))).sz)]) (fun w h => read_any k (K.fmt_lt hk) _ _ w h.x.2 ((strOfNums [(IntKind.wrap .u8 i.op)]) ++ (strOfNums (K.wr k i))) (K.vs k (K.fmt_lt hk) i).1 (K.vs k (K.fmt_lt hk) i).2) (fun w _ => by kernel_rfl) (by kernel_rfl) ?_
            refine E.H.back (fun w h => h.less (List.Sublist.cons _ (List.Sublist.refl _))) ?_
            refine E.H.take 13 (.bool ((((K.rd k (((strOfNums [(IntKind.wrap .u8 i.op)]) ++ (strOfNums (K.wr k i)))).data.toList (K.len k))).op == i.op) && (((K.rd k (((strOfNums [(IntKind.wrap .u8 i.op)]) ++ (strOfNums (K.wr k i)))).data.toList (K.len k))).d == i.d) && (((K.rd k (((strOfNums [(IntKind.wrap .u8 i.op)]) ++ (strOfNums (K.wr k i)))).data.toList (K.len k))).s == i.s) && (((K.rd k (((strOfNums [(IntKind.wrap .u8 i.op)]) ++ (strOfNums (K.wr k i)))).data.toList (K.len k))).ix == i.ix) && (((K.rd k (((strOfNums [(IntKind.wrap .u8 i.op)]) ++ (strOfNums (K.wr k i)))).data.toList (K.len k))).sc == i.sc) && (((K.rd k (((strOfNums [(IntKind.wrap .u8 i.op)]) ++ (strOfNums (K.wr k i)))).data.toList (K.len k))).imm == i.imm) && (((K.rd k (((strOfNums [(IntKind.wrap .u8 i.op)]) ++ (strOfNums (K.wr k i)))).data.toList (K.len k))).sz == i.sz))) rfl (by kernel_rfl) (by kernel_rfl) (by kernel_rfl) (fun _ _ _ h => h) (fun w h => h.less (List.Sublist.cons _ (List.Sublist.refl _))) (.inl ⟨by kernel_rfl, by kernel_rfl, fun w h => E.api_KIns_eql (by kernel_rfl) (by kernel_rfl)⟩) (by kernel_rfl) ?_
            refine E.H.take 14 (.bool ((((K.rd k (((strOfNums [(IntKind.wrap .u8 i.op)]) ++ (strOfNums (K.wr k i)))).data.toList (K.len k))).op == i.op) && (((K.rd k (((strOfNums [(IntKind.wrap .u8 i.op)]) ++ (strOfNums (K.wr k i)))).data.toList (K.len k))).d == i.d) && (((K.rd k (((strOfNums [(IntKind.wrap .u8 i.op)]) ++ (strOfNums (K.wr k i)))).data.toList (K.len k))).s == i.s) && (((K.rd k (((strOfNums [(IntKind.wrap .u8 i.op)]) ++ (strOfNums (K.wr k i)))).data.toList (K.len k))).ix == i.ix) && (((K.rd k (((strOfNums [(IntKind.wrap .u8 i.op)]) ++ (strOfNums (K.wr k i)))).data.toList (K.len k))).sc == i.sc) && (((K.rd k (((strOfNums [(IntKind.wrap .u8 i.op)]) ++ (strOfNums (K.wr k i)))).data.toList (K.len k))).imm == i.imm) && (((K.rd k (((strOfNums [(IntKind.wrap .u8 i.op)]) ++ (strOfNums (K.wr k i)))).data.toList (K.len k))).sz == i.sz))) rfl (by kernel_rfl) (by kernel_rfl) (by kernel_rfl) (fun _ _ _ h => h) (fun w h => h.less (List.Sublist.cons _ (List.Sublist.refl _))) (.inl ⟨by kernel_rfl, by kernel_rfl, fun w h => by kernel_rfl⟩) (by kernel_rfl) ?_
            refine E.H.done (by kernel_rfl) ?_
            refine E.To.code ?_
            refine E.C.weak [(2, .bool ((((K.rd k (((strOfNums [(IntKind.wrap .u8 i.op)]) ++ (strOfNums (K.wr k i)))).data.toList (K.len k))).op == i.op) && (((K.rd k (((strOfNums [(IntKind.wrap .u8 i.op)]) ++ (strOfNums (K.wr k i)))).data.toList (K.len k))).d == i.d) && (((K.rd k (((strOfNums [(IntKind.wrap .u8 i.op)]) ++ (strOfNums (K.wr k i)))).data.toList (K.len k))).s == i.s) && (((K.rd k (((strOfNums [(IntKind.wrap .u8 i.op)]) ++ (strOfNums (K.wr k i)))).data.toList (K.len k))).ix == i.ix) && (((K.rd k (((strOfNums [(IntKind.wrap .u8 i.op)]) ++ (strOfNums (K.wr k i)))).data.toList (K.len k))).sc == i.sc) && (((K.rd k (((strOfNums [(IntKind.wrap .u8 i.op)]) ++ (strOfNums (K.wr k i)))).data.toList (K.len k))).imm == i.imm) && (((K.rd k (((strOfNums [(IntKind.wrap .u8 i.op)]) ++ (strOfNums (K.wr k i)))).data.toList (K.len k))).sz == i.sz)))] [] ⟨by kernel_rfl, by kernel_rfl⟩ (List.nil_sublist _) ?_
            refine E.C.ret (E.To.body (fn := Try.f19) [.bool ((((K.rd k (((strOfNums [(IntKind.wrap .u8 i.op)]) ++ (strOfNums (K.wr k i)))).data.toList (K.len k))).op == i.op) && (((K.rd k (((strOfNums [(IntKind.wrap .u8 i.op)]) ++ (strOfNums (K.wr k i)))).data.toList (K.len k))).d == i.d) && (((K.rd k (((strOfNums [(IntKind.wrap .u8 i.op)]) ++ (strOfNums (K.wr k i)))).data.toList (K.len k))).s == i.s) && (((K.rd k (((strOfNums [(IntKind.wrap .u8 i.op)]) ++ (strOfNums (K.wr k i)))).data.toList (K.len k))).ix == i.ix) && (((K.rd k (((strOfNums [(IntKind.wrap .u8 i.op)]) ++ (strOfNums (K.wr k i)))).data.toList (K.len k))).sc == i.sc) && (((K.rd k (((strOfNums [(IntKind.wrap .u8 i.op)]) ++ (strOfNums (K.wr k i)))).data.toList (K.len k))).imm == i.imm) && (((K.rd k (((strOfNums [(IntKind.wrap .u8 i.op)]) ++ (strOfNums (K.wr k i)))).data.toList (K.len k))).sz == i.sz))] ?_ ?_)
            · exact ⟨⟨by kernel_rfl, by kernel_rfl⟩, trivial⟩
            · intro w h
              exact ⟨by show Ending.returned (.bool ((((K.rd k (((strOfNums [(IntKind.wrap .u8 i.op)]) ++ (strOfNums (K.wr k i)))).data.toList (K.len k))).op == i.op) && (((K.rd k (((strOfNums [(IntKind.wrap .u8 i.op)]) ++ (strOfNums (K.wr k i)))).data.toList (K.len k))).d == i.d) && (((K.rd k (((strOfNums [(IntKind.wrap .u8 i.op)]) ++ (strOfNums (K.wr k i)))).data.toList (K.len k))).s == i.s) && (((K.rd k (((strOfNums [(IntKind.wrap .u8 i.op)]) ++ (strOfNums (K.wr k i)))).data.toList (K.len k))).ix == i.ix) && (((K.rd k (((strOfNums [(IntKind.wrap .u8 i.op)]) ++ (strOfNums (K.wr k i)))).data.toList (K.len k))).sc == i.sc) && (((K.rd k (((strOfNums [(IntKind.wrap .u8 i.op)]) ++ (strOfNums (K.wr k i)))).data.toList (K.len k))).imm == i.imm) && (((K.rd k (((strOfNums [(IntKind.wrap .u8 i.op)]) ++ (strOfNums (K.wr k i)))).data.toList (K.len k))).sz == i.sz))) = _; unfold K.valid1; rw [hc6, cond_false], h.ch.bel (fun _ h => h.elim)⟩
      · skip
        refine E.G.callv (G := Gq2) (ds := dsq2) [.agg #[.int .i64 i.op, .int .i64 i.d, .int .i64 i.s, .int .i64 i.ix, .int .i64 i.sc, .int .u32 i.imm, .int .i64 i.sz]] (.string (strOfNums (K.wr k i))) (by kernel_rfl) (by kernel_rfl) (fun w h => K.enter_at (K.fmt_lt hk) h.x.2 _ _) (fun w h => kput_at (K.fmt_lt hk) h.x.2 (K.in_of hm hc6)) (by kernel_rfl) ?_
        refine E.H.back (fun w h => h.less (List.Sublist.cons _ (List.Sublist.refl _))) ?_
        refine E.H.all [5] (by kernel_rfl) (by simp) (List.forall_mem_cons.2 ⟨⟨_, rfl, ?_⟩, fun _ h => (List.not_mem_nil h).elim⟩)
        · skip
          refine E.G.val (.string (strOfNums [(IntKind.wrap .u8 i.op)])) (by kernel_rfl) (fun w h => E.b2s h 0 g7 0 1 1 [(IntKind.wrap .u8 i.op)] (e := 5) (by kernel_rfl) (by kernel_rfl) (by kernel_rfl) (by kernel_rfl) rfl (by kernel_rfl) rfl) ?_
          refine E.H.back (fun w h => h.less (List.Sublist.cons _ (List.Sublist.refl _))) ?_
          refine E.H.take 10 (.string ((strOfNums [(IntKind.wrap .u8 i.op)]) ++ (strOfNums (K.wr k i)))) rfl (by kernel_rfl) (by kernel_rfl) (by kernel_rfl) (fun _ _ _ h => h) (fun w h => h.less (List.Sublist.cons _ (List.Sublist.refl _))) (.inl ⟨by kernel_rfl, by kernel_rfl, fun w h => E.cat (strOfNums [(IntKind.wrap .u8 i.op)]) (strOfNums (K.wr k i)) (by kernel_rfl) (by kernel_rfl) (by rw [strOfNums_size, strOfNums_size]; have := K.wr_len k (K.fmt_lt hk) i; have := K.len_bd k (K.fmt_lt hk); simp only [List.length_cons, List.length_nil]; omega) w⟩) (by kernel_rfl) ?_
          refine E.H.all [11] (by kernel_rfl) (by simp) (List.forall_mem_cons.2 ⟨⟨_, rfl, ?_⟩, fun _ h => (List.not_mem_nil h).elim⟩)
          · skip
            refine E.G.call (.agg #[.int .i64 (((K.rd k (((strOfNums [(IntKind.wrap .u8 i.op)]) ++ (strOfNums (K.wr k i)))).data.toList (K.len k))).op), .int .i64 (((K.rd k (((strOfNums [(IntKind.wrap .u8 i.op)]) ++ (strOfNums (K.wr k i)))).data.toList (K.len k))).d), .int .i64 (((K.rd k (((strOfNums [(IntKind.wrap .u8 i.op)]) ++ (strOfNums (K.wr k i)))).data.toList (K.len k))).s), .int .i64 (((K.rd k (((strOfNums [(IntKind.wrap .u8 i.op)]) ++ (strOfNums (K.wr k i)))).data.toList (K.len k))).ix), .int .i64 (((K.rd k (((strOfNums [(IntKind.wrap .u8 i.op)]) ++ (strOfNums (K.wr k i)))).data.toList (K.len k))).sc), .int .u32 (((K.rd k (((strOfNums [(IntKind.wrap .u8 i.op)]) ++ (strOfNums (K.wr k i)))).data.toList (K.len k))).imm), .int .i64 (((K.rd k (((strOfNums [(IntKind.wrap .u8 i.op)]) ++ (strOfNums (K.wr k i)))).data.toList (K.len k))).sz)]) (fun w h => read_any k (K.fmt_lt hk) _ _ w h.x.2 ((strOfNums [(IntKind.wrap .u8 i.op)]) ++ (strOfNums (K.wr k i))) (K.vs k (K.fmt_lt hk) i).1 (K.vs k (K.fmt_lt hk) i).2) (fun w _ => by kernel_rfl) (by kernel_rfl) ?_
            refine E.H.back (fun w h => h.less (List.Sublist.cons _ (List.Sublist.refl _))) ?_
            refine E.H.take 13 (.bool ((((K.rd k (((strOfNums [(IntKind.wrap .u8 i.op)]) ++ (strOfNums (K.wr k i)))).data.toList (K.len k))).op == i.op) && (((K.rd k (((strOfNums [(IntKind.wrap .u8 i.op)]) ++ (strOfNums (K.wr k i)))).data.toList (K.len k))).d == i.d) && (((K.rd k (((strOfNums [(IntKind.wrap .u8 i.op)]) ++ (strOfNums (K.wr k i)))).data.toList (K.len k))).s == i.s) && (((K.rd k (((strOfNums [(IntKind.wrap .u8 i.op)]) ++ (strOfNums (K.wr k i)))).data.toList (K.len k))).ix == i.ix) && (((K.rd k (((strOfNums [(IntKind.wrap .u8 i.op)]) ++ (strOfNums (K.wr k i)))).data.toList (K.len k))).sc == i.sc) && (((K.rd k (((strOfNums [(IntKind.wrap .u8 i.op)]) ++ (strOfNums (K.wr k i)))).data.toList (K.len k))).imm == i.imm) && (((K.rd k (((strOfNums [(IntKind.wrap .u8 i.op)]) ++ (strOfNums (K.wr k i)))).data.toList (K.len k))).sz == i.sz))) rfl (by kernel_rfl) (by kernel_rfl) (by kernel_rfl) (fun _ _ _ h => h) (fun w h => h.less (List.Sublist.cons _ (List.Sublist.refl _))) (.inl ⟨by kernel_rfl, by kernel_rfl, fun w h => E.api_KIns_eql (by kernel_rfl) (by kernel_rfl)⟩) (by kernel_rfl) ?_
            refine E.H.take 14 (.bool ((((K.rd k (((strOfNums [(IntKind.wrap .u8 i.op)]) ++ (strOfNums (K.wr k i)))).data.toList (K.len k))).op == i.op) && (((K.rd k (((strOfNums [(IntKind.wrap .u8 i.op)]) ++ (strOfNums (K.wr k i)))).data.toList (K.len k))).d == i.d) && (((K.rd k (((strOfNums [(IntKind.wrap .u8 i.op)]) ++ (strOfNums (K.wr k i)))).data.toList (K.len k))).s == i.s) && (((K.rd k (((strOfNums [(IntKind.wrap .u8 i.op)]) ++ (strOfNums (K.wr k i)))).data.toList (K.len k))).ix == i.ix) && (((K.rd k (((strOfNums [(IntKind.wrap .u8 i.op)]) ++ (strOfNums (K.wr k i)))).data.toList (K.len k))).sc == i.sc) && (((K.rd k (((strOfNums [(IntKind.wrap .u8 i.op)]) ++ (strOfNums (K.wr k i)))).data.toList (K.len k))).imm == i.imm) && (((K.rd k (((strOfNums [(IntKind.wrap .u8 i.op)]) ++ (strOfNums (K.wr k i)))).data.toList (K.len k))).sz == i.sz))) rfl (by kernel_rfl) (by kernel_rfl) (by kernel_rfl) (fun _ _ _ h => h) (fun w h => h.less (List.Sublist.cons _ (List.Sublist.refl _))) (.inl ⟨by kernel_rfl, by kernel_rfl, fun w h => by kernel_rfl⟩) (by kernel_rfl) ?_
            refine E.H.done (by kernel_rfl) ?_
            refine E.To.code ?_
            refine E.C.weak [(2, .bool ((((K.rd k (((strOfNums [(IntKind.wrap .u8 i.op)]) ++ (strOfNums (K.wr k i)))).data.toList (K.len k))).op == i.op) && (((K.rd k (((strOfNums [(IntKind.wrap .u8 i.op)]) ++ (strOfNums (K.wr k i)))).data.toList (K.len k))).d == i.d) && (((K.rd k (((strOfNums [(IntKind.wrap .u8 i.op)]) ++ (strOfNums (K.wr k i)))).data.toList (K.len k))).s == i.s) && (((K.rd k (((strOfNums [(IntKind.wrap .u8 i.op)]) ++ (strOfNums (K.wr k i)))).data.toList (K.len k))).ix == i.ix) && (((K.rd k (((strOfNums [(IntKind.wrap .u8 i.op)]) ++ (strOfNums (K.wr k i)))).data.toList (K.len k))).sc == i.sc) && (((K.rd k (((strOfNums [(IntKind.wrap .u8 i.op)]) ++ (strOfNums (K.wr k i)))).data.toList (K.len k))).imm == i.imm) && (((K.rd k (((strOfNums [(IntKind.wrap .u8 i.op)]) ++ (strOfNums (K.wr k i)))).data.toList (K.len k))).sz == i.sz)))] [] ⟨by kernel_rfl, by kernel_rfl⟩ (List.nil_sublist _) ?_
            refine E.C.ret (E.To.body (fn := Try.f19) [.bool ((((K.rd k (((strOfNums [(IntKind.wrap .u8 i.op)]) ++ (strOfNums (K.wr k i)))).data.toList (K.len k))).op == i.op) && (((K.rd k (((strOfNums [(IntKind.wrap .u8 i.op)]) ++ (strOfNums (K.wr k i)))).data.toList (K.len k))).d == i.d) && (((K.rd k (((strOfNums [(IntKind.wrap .u8 i.op)]) ++ (strOfNums (K.wr k i)))).data.toList (K.len k))).s == i.s) && (((K.rd k (((strOfNums [(IntKind.wrap .u8 i.op)]) ++ (strOfNums (K.wr k i)))).data.toList (K.len k))).ix == i.ix) && (((K.rd k (((strOfNums [(IntKind.wrap .u8 i.op)]) ++ (strOfNums (K.wr k i)))).data.toList (K.len k))).sc == i.sc) && (((K.rd k (((strOfNums [(IntKind.wrap .u8 i.op)]) ++ (strOfNums (K.wr k i)))).data.toList (K.len k))).imm == i.imm) && (((K.rd k (((strOfNums [(IntKind.wrap .u8 i.op)]) ++ (strOfNums (K.wr k i)))).data.toList (K.len k))).sz == i.sz))] ?_ ?_)
            · exact ⟨⟨by kernel_rfl, by kernel_rfl⟩, trivial⟩
            · intro w h
              exact ⟨by show Ending.returned (.bool ((((K.rd k (((strOfNums [(IntKind.wrap .u8 i.op)]) ++ (strOfNums (K.wr k i)))).data.toList (K.len k))).op == i.op) && (((K.rd k (((strOfNums [(IntKind.wrap .u8 i.op)]) ++ (strOfNums (K.wr k i)))).data.toList (K.len k))).d == i.d) && (((K.rd k (((strOfNums [(IntKind.wrap .u8 i.op)]) ++ (strOfNums (K.wr k i)))).data.toList (K.len k))).s == i.s) && (((K.rd k (((strOfNums [(IntKind.wrap .u8 i.op)]) ++ (strOfNums (K.wr k i)))).data.toList (K.len k))).ix == i.ix) && (((K.rd k (((strOfNums [(IntKind.wrap .u8 i.op)]) ++ (strOfNums (K.wr k i)))).data.toList (K.len k))).sc == i.sc) && (((K.rd k (((strOfNums [(IntKind.wrap .u8 i.op)]) ++ (strOfNums (K.wr k i)))).data.toList (K.len k))).imm == i.imm) && (((K.rd k (((strOfNums [(IntKind.wrap .u8 i.op)]) ++ (strOfNums (K.wr k i)))).data.toList (K.len k))).sz == i.sz))) = _; unfold K.valid1; rw [hc6, cond_false], h.ch.bel (fun _ h => h.elim)⟩
    · skip
      refine E.G.callv (G := Gq2) (ds := dsq2) [.agg #[.int .i64 i.op, .int .i64 i.d, .int .i64 i.s, .int .i64 i.ix, .int .i64 i.sc, .int .u32 i.imm, .int .i64 i.sz]] (.string (strOfNums (K.wr k i))) (by kernel_rfl) (by kernel_rfl) (fun w h => K.enter_at (K.fmt_lt hk) h.x.2 _ _) (fun w h => kput_at (K.fmt_lt hk) h.x.2 (K.in_of hm hc6)) (by kernel_rfl) ?_
      refine E.H.back (fun w h => h) ?_
      refine E.H.all [4] (by kernel_rfl) (by simp) (List.forall_mem_cons.2 ⟨⟨_, rfl, ?_⟩, fun _ h => (List.not_mem_nil h).elim⟩)
      · skip
        refine E.G.buildSlice [.int .u8 (IntKind.wrap .u8 i.op)] (by kernel_rfl) (by kernel_rfl) (fun g8 => ?_)
        refine E.H.back (fun w h => h.less (List.Sublist.cons _ (List.Sublist.refl _))) ?_
        refine E.H.all [5] (by kernel_rfl) (by simp) (List.forall_mem_cons.2 ⟨⟨_, rfl, ?_⟩, fun _ h => (List.not_mem_nil h).elim⟩)
        · skip
          refine E.G.val (.string (strOfNums [(IntKind.wrap .u8 i.op)])) (by kernel_rfl) (fun w h => E.b2s h 0 g8 0 1 1 [(IntKind.wrap .u8 i.op)] (e := 5) (by kernel_rfl) (by kernel_rfl) (by kernel_rfl) (by kernel_rfl) rfl (by kernel_rfl) rfl) ?_
          refine E.H.back (fun w h => h.less (List.Sublist.cons _ (List.Sublist.refl _))) ?_
          refine E.H.take 10 (.string ((strOfNums [(IntKind.wrap .u8 i.op)]) ++ (strOfNums (K.wr k i)))) rfl (by kernel_rfl) (by kernel_rfl) (by kernel_rfl) (fun _ _ _ h => h) (fun w h => h.less (List.Sublist.cons _ (List.Sublist.refl _))) (.inl ⟨by kernel_rfl, by kernel_rfl, fun w h => E.cat (strOfNums [(IntKind.wrap .u8 i.op)]) (strOfNums (K.wr k i)) (by kernel_rfl) (by kernel_rfl) (by rw [strOfNums_size, strOfNums_size]; have := K.wr_len k (K.fmt_lt hk) i; have := K.len_bd k (K.fmt_lt hk); simp only [List.length_cons, List.length_nil]; omega) w⟩) (by kernel_rfl) ?_
          refine E.H.all [11] (by kernel_rfl) (by simp) (List.forall_mem_cons.2 ⟨⟨_, rfl, ?_⟩, fun _ h => (List.not_mem_nil h).elim⟩)
          · skip
            refine E.G.call (.agg #[.int .i64 (((K.rd k (((strOfNums [(IntKind.wrap .u8 i.op)]) ++ (strOfNums (K.wr k i)))).data.toList (K.len k))).op), .int .i64 (((K.rd k (((strOfNums [(IntKind.wrap .u8 i.op)]) ++ (strOfNums (K.wr k i)))).data.toList (K.len k))).d), .int .i64 (((K.rd k (((strOfNums [(IntKind.wrap .u8 i.op)]) ++ (strOfNums (K.wr k i)))).data.toList (K.len k))).s), .int .i64 (((K.rd k (((strOfNums [(IntKind.wrap .u8 i.op)]) ++ (strOfNums (K.wr k i)))).data.toList (K.len k))).ix), .int .i64 (((K.rd k (((strOfNums [(IntKind.wrap .u8 i.op)]) ++ (strOfNums (K.wr k i)))).data.toList (K.len k))).sc), .int .u32 (((K.rd k (((strOfNums [(IntKind.wrap .u8 i.op)]) ++ (strOfNums (K.wr k i)))).data.toList (K.len k))).imm), .int .i64 (((K.rd k (((strOfNums [(IntKind.wrap .u8 i.op)]) ++ (strOfNums (K.wr k i)))).data.toList (K.len k))).sz)]) (fun w h => read_any k (K.fmt_lt hk) _ _ w h.x.2 ((strOfNums [(IntKind.wrap .u8 i.op)]) ++ (strOfNums (K.wr k i))) (K.vs k (K.fmt_lt hk) i).1 (K.vs k (K.fmt_lt hk) i).2) (fun w _ => by kernel_rfl) (by kernel_rfl) ?_
            refine E.H.back (fun w h => h.less (List.Sublist.cons _ (List.Sublist.refl _))) ?_
            refine E.H.take 13 (.bool ((((K.rd k (((strOfNums [(IntKind.wrap .u8 i.op)]) ++ (strOfNums (K.wr k i)))).data.toList (K.len k))).op == i.op) && (((K.rd k (((strOfNums [(IntKind.wrap .u8 i.op)]) ++ (strOfNums (K.wr k i)))).data.toList (K.len k))).d == i.d) && (((K.rd k (((strOfNums [(IntKind.wrap .u8 i.op)]) ++ (strOfNums (K.wr k i)))).data.toList (K.len k))).s == i.s) && (((K.rd k (((strOfNums [(IntKind.wrap .u8 i.op)]) ++ (strOfNums (K.wr k i)))).data.toList (K.len k))).ix == i.ix) && (((K.rd k (((strOfNums [(IntKind.wrap .u8 i.op)]) ++ (strOfNums (K.wr k i)))).data.toList (K.len k))).sc == i.sc) && (((K.rd k (((strOfNums [(IntKind.wrap .u8 i.op)]) ++ (strOfNums (K.wr k i)))).data.toList (K.len k))).imm == i.imm) && (((K.rd k (((strOfNums [(IntKind.wrap .u8 i.op)]) ++ (strOfNums (K.wr k i)))).data.toList (K.len k))).sz == i.sz))) rfl (by kernel_rfl) (by kernel_rfl) (by kernel_rfl) (fun _ _ _ h => h) (fun w h => h.less (List.Sublist.cons _ (List.Sublist.refl _))) (.inl ⟨by kernel_rfl, by kernel_rfl, fun w h => E.api_KIns_eql (by kernel_rfl) (by kernel_rfl)⟩) (by kernel_rfl) ?_
            refine E.H.take 14 (.bool ((((K.rd k (((strOfNums [(IntKind.wrap .u8 i.op)]) ++ (strOfNums (K.wr k i)))).data.toList (K.len k))).op == i.op) && (((K.rd k (((strOfNums [(IntKind.wrap .u8 i.op)]) ++ (strOfNums (K.wr k i)))).data.toList (K.len k))).d == i.d) && (((K.rd k (((strOfNums [(IntKind.wrap .u8 i.op)]) ++ (strOfNums (K.wr k i)))).data.toList (K.len k))).s == i.s) && (((K.rd k (((strOfNums [(IntKind.wrap .u8 i.op)]) ++ (strOfNums (K.wr k i)))).data.toList (K.len k))).ix == i.ix) && (((K.rd k (((strOfNums [(IntKind.wrap .u8 i.op)]) ++ (strOfNums (K.wr k i)))).data.toList (K.len k))).sc == i.sc) && (((K.rd k (((strOfNums [(IntKind.wrap .u8 i.op)]) ++ (strOfNums (K.wr k i)))).data.toList (K.len k))).imm == i.imm) && (((K.rd k (((strOfNums [(IntKind.wrap .u8 i.op)]) ++ (strOfNums (K.wr k i)))).data.toList (K.len k))).sz == i.sz))) rfl (by kernel_rfl) (by kernel_rfl) (by kernel_rfl) (fun _ _ _ h => h) (fun w h => h.less (List.Sublist.cons _ (List.Sublist.refl _))) (.inl ⟨by kernel_rfl, by kernel_rfl, fun w h => by kernel_rfl⟩) (by kernel_rfl) ?_
            refine E.H.done (by kernel_rfl) ?_
            refine E.To.code ?_
            refine E.C.weak [(2, .bool ((((K.rd k (((strOfNums [(IntKind.wrap .u8 i.op)]) ++ (strOfNums (K.wr k i)))).data.toList (K.len k))).op == i.op) && (((K.rd k (((strOfNums [(IntKind.wrap .u8 i.op)]) ++ (strOfNums (K.wr k i)))).data.toList (K.len k))).d == i.d) && (((K.rd k (((strOfNums [(IntKind.wrap .u8 i.op)]) ++ (strOfNums (K.wr k i)))).data.toList (K.len k))).s == i.s) && (((K.rd k (((strOfNums [(IntKind.wrap .u8 i.op)]) ++ (strOfNums (K.wr k i)))).data.toList (K.len k))).ix == i.ix) && (((K.rd k (((strOfNums [(IntKind.wrap .u8 i.op)]) ++ (strOfNums (K.wr k i)))).data.toList (K.len k))).sc == i.sc) && (((K.rd k (((strOfNums [(IntKind.wrap .u8 i.op)]) ++ (strOfNums (K.wr k i)))).data.toList (K.len k))).imm == i.imm) && (((K.rd k (((strOfNums [(IntKind.wrap .u8 i.op)]) ++ (strOfNums (K.wr k i)))).data.toList (K.len k))).sz == i.sz)))] [] ⟨by kernel_rfl, by kernel_rfl⟩ (List.nil_sublist _) ?_
            refine E.C.ret (E.To.body (fn := Try.f19) [.bool ((((K.rd k (((strOfNums [(IntKind.wrap .u8 i.op)]) ++ (strOfNums (K.wr k i)))).data.toList (K.len k))).op == i.op) && (((K.rd k (((strOfNums [(IntKind.wrap .u8 i.op)]) ++ (strOfNums (K.wr k i)))).data.toList (K.len k))).d == i.d) && (((K.rd k (((strOfNums [(IntKind.wrap .u8 i.op)]) ++ (strOfNums (K.wr k i)))).data.toList (K.len k))).s == i.s) && (((K.rd k (((strOfNums [(IntKind.wrap .u8 i.op)]) ++ (strOfNums (K.wr k i)))).data.toList (K.len k))).ix == i.ix) && (((K.rd k (((strOfNums [(IntKind.wrap .u8 i.op)]) ++ (strOfNums (K.wr k i)))).data.toList (K.len k))).sc == i.sc) && (((K.rd k (((strOfNums [(IntKind.wrap .u8 i.op)]) ++ (strOfNums (K.wr k i)))).data.toList (K.len k))).imm == i.imm) && (((K.rd k (((strOfNums [(IntKind.wrap .u8 i.op)]) ++ (strOfNums (K.wr k i)))).data.toList (K.len k))).sz == i.sz))] ?_ ?_)
            · exact ⟨⟨by kernel_rfl, by kernel_rfl⟩, trivial⟩
            · intro w h
              exact ⟨by show Ending.returned (.bool ((((K.rd k (((strOfNums [(IntKind.wrap .u8 i.op)]) ++ (strOfNums (K.wr k i)))).data.toList (K.len k))).op == i.op) && (((K.rd k (((strOfNums [(IntKind.wrap .u8 i.op)]) ++ (strOfNums (K.wr k i)))).data.toList (K.len k))).d == i.d) && (((K.rd k (((strOfNums [(IntKind.wrap .u8 i.op)]) ++ (strOfNums (K.wr k i)))).data.toList (K.len k))).s == i.s) && (((K.rd k (((strOfNums [(IntKind.wrap .u8 i.op)]) ++ (strOfNums (K.wr k i)))).data.toList (K.len k))).ix == i.ix) && (((K.rd k (((strOfNums [(IntKind.wrap .u8 i.op)]) ++ (strOfNums (K.wr k i)))).data.toList (K.len k))).sc == i.sc) && (((K.rd k (((strOfNums [(IntKind.wrap .u8 i.op)]) ++ (strOfNums (K.wr k i)))).data.toList (K.len k))).imm == i.imm) && (((K.rd k (((strOfNums [(IntKind.wrap .u8 i.op)]) ++ (strOfNums (K.wr k i)))).data.toList (K.len k))).sz == i.sz))) = _; unfold K.valid1; rw [hc6, cond_false], h.ch.bel (fun _ h => h.elim)⟩

def K.valid (i : K.Ins) : Bool := match K.fmt i.op with
  | none => false
  | some k => K.valid1 k i
theorem Valid_any (i : K.Ins) (hm : 0 ≤ i.imm ∧ i.imm < 4294967296) (w : World) : Calls Try.prog 19 #[.agg #[.int .i64 i.op, .int .i64 i.d, .int .i64 i.s, .int .i64 i.ix, .int .i64 i.sc, .int .u32 i.imm, .int .i64 i.sz]] w fun e w' => e = .returned (.bool (K.valid i)) ∧ Bel w w' := by
  unfold K.valid
  cases hk : K.fmt i.op with
  | none => exact Valid_none i hk w
  | some k => exact Valid_some k i hk hm w
theorem K.in_valid {k : Nat} {i : K.Ins} (hm : 0 ≤ i.imm ∧ i.imm < 4294967296) (h : (!(K.valid1 k i)) = false) : K.In i := by
  unfold K.valid1 at h
  cases hq : ((i.sz != (K.len k)) || (!(K.rng i))) with
  | false => exact K.in_of hm hq
  | true => rw [hq] at h; simp at h

def K.encode0 (i : K.Ins) : ByteArray × Int := ((⟨#[]⟩ : ByteArray), 12)
theorem Encode_none (i : K.Ins) (hk : K.fmt i.op = none) (w : World) : Calls Try.prog 17 #[.agg #[.int .i64 i.op, .int .i64 i.d, .int .i64 i.s, .int .i64 i.ix, .int .i64 i.sc, .int .u32 i.imm, .int .i64 i.sz]] w fun e w' => e = .returned (.tuple #[.string (((K.encode0 i)).1), .int .i64 (((K.encode0 i)).2)]) ∧ Bel w w' := by
  refine E.enter (n := 25) (S := fun _ => False) Try.func17 rfl rfl (by kernel_rfl) (E.Hp.start w) ?_
  refine E.C.seq ?_
  refine E.C.region ?_
  refine E.G.new (fun g => .pointer (some ⟨g, 0, none⟩)) [.int .i64 i.op, .int .i64 i.d, .int .i64 i.s, .int .i64 i.ix, .int .i64 i.sc, .int .u32 i.imm, .int .i64 i.sz] 27 (fun w => by kernel_rfl) (by kernel_rfl) (fun g1 => ?_)
  refine E.G.op (.string (⟨#[]⟩ : ByteArray)) (fun w => by kernel_rfl) (by kernel_rfl) ?_
  refine E.G.op (.int .i64 0) (fun w => by kernel_rfl) (by kernel_rfl) ?_
  refine E.To.code ?_
  refine E.C.seq ?_
  refine E.C.seq ?_
  refine E.C.region ?_
  refine E.G.val (.agg #[.int .i64 i.op, .int .i64 i.d, .int .i64 i.s, .int .i64 i.ix, .int .i64 i.sc, .int .u32 i.imm, .int .i64 i.sz]) (by kernel_rfl) (fun w h => E.run_load h 0 rfl rfl (by kernel_rfl)) ?_
  refine E.G.call (.bool false) (fun w h => Valid_none i hk w) (fun w _ => by kernel_rfl) (by kernel_rfl) ?_
  refine E.G.op (.bool true) (fun w => by kernel_rfl) (by kernel_rfl) ?_
  refine E.To.code ?_
  refine E.C.condT (by kernel_rfl) (by kernel_rfl) ?_
  refine E.C.seq ?_
  refine E.C.region ?_
  refine E.G.op (.string (⟨#[]⟩ : ByteArray)) (fun w => by kernel_rfl) (by kernel_rfl) ?_
  refine E.G.op (.int .i64 12) (fun w => by kernel_rfl) (by kernel_rfl) ?_
  refine E.To.code ?_
  refine E.C.ret (E.P.rt (E.To.body (fn := Try.f17) [.string (⟨#[]⟩ : ByteArray), .int .i64 12] ?_ ?_))
  · exact ⟨⟨by kernel_rfl, by kernel_rfl⟩, ⟨by kernel_rfl, by kernel_rfl⟩, trivial⟩
  · intro w h
    exact ⟨rfl, h.ch.bel (fun _ h => h.elim)⟩

def K.encode1 (k : Nat) (i : K.Ins) : ByteArray × Int := (bif (!(K.valid1 k i)) then ((⟨#[]⟩ : ByteArray), 12) else (((strOfNums [(IntKind.wrap .u8 i.op)]) ++ (strOfNums (K.wr k i))), 0))
theorem Encode_some (k : Nat) (i : K.Ins) (hk : K.fmt i.op = some k) (hm : 0 ≤ i.imm ∧ i.imm < 4294967296) (w : World) : Calls Try.prog 17 #[.agg #[.int .i64 i.op, .int .i64 i.d, .int .i64 i.s, .int .i64 i.ix, .int .i64 i.sc, .int .u32 i.imm, .int .i64 i.sz]] w fun e w' => e = .returned (.tuple #[.string (((K.encode1 k i)).1), .int .i64 (((K.encode1 k i)).2)]) ∧ Bel w w' := by
  refine E.enter (n := 25) (S := fun _ => False) Try.func17 rfl rfl (by kernel_rfl) (E.Hp.start w) ?_
  refine E.C.seq ?_
  refine E.C.region ?_
  refine E.G.new (fun g => .pointer (some ⟨g, 0, none⟩)) [.int .i64 i.op, .int .i64 i.d, .int .i64 i.s, .int .i64 i.ix, .int .i64 i.sc, .int .u32 i.imm, .int .i64 i.sz] 27 (fun w => by kernel_rfl) (by kernel_rfl) (fun g1 => ?_)
  refine E.G.op (.string (⟨#[]⟩ : ByteArray)) (fun w => by kernel_rfl) (by kernel_rfl) ?_
  refine E.G.op (.int .i64 0) (fun w => by kernel_rfl) (by kernel_rfl) ?_
  refine E.To.code ?_
  refine E.C.seq ?_
  refine E.C.seq ?_
  refine E.C.region ?_
  refine E.G.val (.agg #[.int .i64 i.op, .int .i64 i.d, .int .i64 i.s, .int .i64 i.ix, .int .i64 i.sc, .int .u32 i.imm, .int .i64 i.sz]) (by kernel_rfl) (fun w h => E.run_load h 0 rfl rfl (by kernel_rfl)) ?_
  refine E.G.call (.bool (K.valid1 k i)) (fun w h => Valid_some k i hk hm w) (fun w _ => by kernel_rfl) (by kernel_rfl) ?_
  refine E.G.op (.bool (!(K.valid1 k i))) (fun w => by kernel_rfl) (by kernel_rfl) ?_
  refine E.To.code ?_
  refine E.C.cond (!(K.valid1 k i)) (by kernel_rfl) (by kernel_rfl) (fun hc2 => ?_) (fun hc2 => ?_)
  · skip
    refine E.C.seq ?_
    refine E.C.region ?_
    refine E.G.op (.string (⟨#[]⟩ : ByteArray)) (fun w => by kernel_rfl) (by kernel_rfl) ?_
    refine E.G.op (.int .i64 12) (fun w => by kernel_rfl) (by kernel_rfl) ?_
    refine E.To.code ?_
    refine E.C.ret (E.P.rt (E.To.body (fn := Try.f17) [.string (⟨#[]⟩ : ByteArray), .int .i64 12] ?_ ?_))
    · exact ⟨⟨by kernel_rfl, by kernel_rfl⟩, ⟨by kernel_rfl, by kernel_rfl⟩, trivial⟩
    · intro w h
      exact ⟨by show Ending.returned (.tuple #[.string (⟨#[]⟩ : ByteArray), .int .i64 12]) = _; unfold K.encode1; rw [hc2, cond_true], h.ch.bel (fun _ h => h.elim)⟩
  · skip
    refine E.C.skip (E.To.code ?_)
    refine E.C.seq ?_
    refine E.C.region ?_
    refine E.G.op (.pointer (some ⟨g1, 0, none⟩)) (fun w => by kernel_rfl) (by kernel_rfl) ?_
    refine E.G.val (.int .i64 i.op) (by kernel_rfl) (fun w h => E.run_load h 0 rfl rfl (by kernel_rfl)) ?_
    refine E.G.callX (I := FuncId × Array Value × FuncId × Array Value) (fun _ => True) (fun i => .tuple #[.agg #[.int .i64 (K.lo k), .int .i64 (K.hi k), .int .i64 (K.len k), .func (.func i.1) #[] i.2.1, .func (.func i.2.2.1) #[] i.2.2.2], .bool true]) (fun i => fun w => (fun _ => True) w ∧ K.Fm k (.func (.func i.1) #[] i.2.1) (.func (.func i.2.2.1) #[] i.2.2.2) w) (fun _ => [(g1, [.int .i64 i.op, .int .i64 i.d, .int .i64 i.s, .int .i64 i.ix, .int .i64 i.sc, .int .u32 i.imm, .int .i64 i.sz])]) (fun w h => find_hp hk (by unfold K.intB; simp) w h) (fun w _ => by kernel_rfl) (by kernel_rfl) (fun i _ => ?_)
    obtain ⟨Fq3, csq3, Gq3, dsq3⟩ := i
    refine E.G.op (.tuple #[.agg #[.int .i64 (K.lo k), .int .i64 (K.hi k), .int .i64 (K.len k), .func (.func Fq3) #[] csq3, .func (.func Gq3) #[] dsq3], .bool true]) (fun w => by kernel_rfl) (by kernel_rfl) ?_
    refine E.G.op (.agg #[.int .i64 (K.lo k), .int .i64 (K.hi k), .int .i64 (K.len k), .func (.func Fq3) #[] csq3, .func (.func Gq3) #[] dsq3]) (fun w => by kernel_rfl) (by kernel_rfl) ?_
    refine E.G.op (.bool true) (fun w => by kernel_rfl) (by kernel_rfl) ?_
    refine E.G.new (fun g => .pointer (some ⟨g, 0, none⟩)) [.int .i64 0, .int .i64 0, .int .i64 0, .nilFunc, .nilFunc] 66 (fun w => by kernel_rfl) (by kernel_rfl) (fun g4 => ?_)
    refine E.G.store 0 [.int .i64 (K.lo k), .int .i64 (K.hi k), .int .i64 (K.len k), .func (.func Fq3) #[] csq3, .func (.func Gq3) #[] dsq3] rfl rfl (by kernel_rfl) (by kernel_rfl) ?_
    refine E.G.op (.bool true) (fun w => by kernel_rfl) (by kernel_rfl) ?_
    refine E.To.code ?_
    refine E.C.weak [(1, .pointer (some ⟨g1, 0, none⟩)), (2, .string (⟨#[]⟩ : ByteArray)), (3, .int .i64 0), (4, .pointer (some ⟨g4, 0, none⟩))] [(g4, [.int .i64 (K.lo k), .int .i64 (K.hi k), .int .i64 (K.len k), .func (.func Fq3) #[] csq3, .func (.func Gq3) #[] dsq3]), (g1, [.int .i64 i.op, .int .i64 i.d, .int .i64 i.s, .int .i64 i.ix, .int .i64 i.sc, .int .u32 i.imm, .int .i64 i.sz])] ⟨by kernel_rfl, by kernel_rfl⟩ (List.Sublist.refl _) ?_
    refine E.C.seq ?_
    refine E.C.held (E.Hp (fun _ => False) w (fun w => (fun _ => True) w ∧ K.Fm k (.func (.func Fq3) #[] csq3) (.func (.func Gq3) #[] dsq3) w) [(g4, [.int .i64 (K.lo k), .int .i64 (K.hi k), .int .i64 (K.len k), .func (.func Fq3) #[] csq3, .func (.func Gq3) #[] dsq3]), (g1, [.int .i64 i.op, .int .i64 i.d, .int .i64 i.s, .int .i64 i.ix, .int .i64 i.sc, .int .u32 i.imm, .int .i64 i.sz])]) (by kernel_rfl) ?_
    refine E.H.take 0 (.pointer (some ⟨g1, 0, none⟩)) rfl (by kernel_rfl) (by kernel_rfl) (by kernel_rfl) (fun _ _ _ h => h) (fun w h => h) (.inl ⟨by kernel_rfl, by kernel_rfl, fun w h => by kernel_rfl⟩) (by kernel_rfl) ?_
    refine E.H.take 1 (.int .i64 i.op) rfl (by kernel_rfl) (by kernel_rfl) (by kernel_rfl) (fun _ _ _ h => h) (fun w h => h) (.inl ⟨by kernel_rfl, by kernel_rfl, fun w h => E.run_load h 1 rfl rfl (by kernel_rfl)⟩) (by kernel_rfl) ?_
    refine E.H.take 2 (.int .u8 (IntKind.wrap .u8 i.op)) rfl (by kernel_rfl) (by kernel_rfl) (by kernel_rfl) (fun _ _ _ h => h) (fun w h => h) (.inl ⟨by kernel_rfl, by kernel_rfl, fun w h => by kernel_rfl⟩) (by kernel_rfl) ?_
    refine E.H.take 5 (.pointer (some ⟨g4, 4, none⟩)) rfl (by kernel_rfl) (by kernel_rfl) (by kernel_rfl) (fun _ _ _ h => h) (fun w h => h) (.inl ⟨by kernel_rfl, by kernel_rfl, fun w h => by kernel_rfl⟩) (by kernel_rfl) ?_
    refine E.H.take 6 (.func (.func Gq3) #[] dsq3) rfl (by kernel_rfl) (by kernel_rfl) (by kernel_rfl) (fun _ _ _ h => h) (fun w h => h) (.inl ⟨by kernel_rfl, by kernel_rfl, fun w h => E.run_load h 0 rfl rfl (by kernel_rfl)⟩) (by kernel_rfl) ?_
    refine E.H.take 7 (.agg #[.int .i64 i.op, .int .i64 i.d, .int .i64 i.s, .int .i64 i.ix, .int .i64 i.sc, .int .u32 i.imm, .int .i64 i.sz]) rfl (by kernel_rfl) (by kernel_rfl) (by kernel_rfl) (fun _ _ _ h => h) (fun w h => h) (.inl ⟨by kernel_rfl, by kernel_rfl, fun w h => E.run_load h 1 rfl rfl (by kernel_rfl)⟩) (by kernel_rfl) ?_
    refine E.H.all [3, 8] (by kernel_rfl) (by simp) (List.forall_mem_cons.2 ⟨⟨_, rfl, ?_⟩, List.forall_mem_cons.2 ⟨⟨_, rfl, ?_⟩, fun _ h => (List.not_mem_nil h).elim⟩⟩)
    · skip
      refine E.G.buildSlice [.int .u8 (IntKind.wrap .u8 i.op)] (by kernel_rfl) (by kernel_rfl) (fun g5 => ?_)
      refine E.H.back (fun w h => h.less (List.Sublist.cons _ (List.Sublist.refl _))) ?_
      refine E.H.all [4, 8] (by kernel_rfl) (by simp) (List.forall_mem_cons.2 ⟨⟨_, rfl, ?_⟩, List.forall_mem_cons.2 ⟨⟨_, rfl, ?_⟩, fun _ h => (List.not_mem_nil h).elim⟩⟩)
      · skip
        refine E.G.val (.string (strOfNums [(IntKind.wrap .u8 i.op)])) (by kernel_rfl) (fun w h => E.b2s h 0 g5 0 1 1 [(IntKind.wrap .u8 i.op)] (e := 5) (by kernel_rfl) (by kernel_rfl) (by kernel_rfl) (by kernel_rfl) rfl (by kernel_rfl) rfl) ?_
        refine E.H.back (fun w h => h.less (List.Sublist.cons _ (List.Sublist.refl _))) ?_
        refine E.H.all [8] (by kernel_rfl) (by simp) (List.forall_mem_cons.2 ⟨⟨_, rfl, ?_⟩, fun _ h => (List.not_mem_nil h).elim⟩)
        · skip
          refine E.G.callv (G := Gq3) (ds := dsq3) [.agg #[.int .i64 i.op, .int .i64 i.d, .int .i64 i.s, .int .i64 i.ix, .int .i64 i.sc, .int .u32 i.imm, .int .i64 i.sz]] (.string (strOfNums (K.wr k i))) (by kernel_rfl) (by kernel_rfl) (fun w h => K.enter_at (K.fmt_lt hk) h.x.2 _ _) (fun w h => kput_at (K.fmt_lt hk) h.x.2 (K.in_valid hm hc2)) (by kernel_rfl) ?_
          refine E.H.back (fun w h => h.less (List.Sublist.cons _ (List.Sublist.refl _))) ?_
          refine E.H.take 9 (.string ((strOfNums [(IntKind.wrap .u8 i.op)]) ++ (strOfNums (K.wr k i)))) rfl (by kernel_rfl) (by kernel_rfl) (by kernel_rfl) (fun _ _ _ h => h) (fun w h => h.less (List.Sublist.cons _ (List.Sublist.refl _))) (.inl ⟨by kernel_rfl, by kernel_rfl, fun w h => E.cat (strOfNums [(IntKind.wrap .u8 i.op)]) (strOfNums (K.wr k i)) (by kernel_rfl) (by kernel_rfl) (by rw [strOfNums_size, strOfNums_size]; have := K.wr_len k (K.fmt_lt hk) i; have := K.len_bd k (K.fmt_lt hk); simp only [List.length_cons, List.length_nil]; omega) w⟩) (by kernel_rfl) ?_
          refine E.H.take 10 (.string ((strOfNums [(IntKind.wrap .u8 i.op)]) ++ (strOfNums (K.wr k i)))) rfl (by kernel_rfl) (by kernel_rfl) (by kernel_rfl) (fun _ _ _ h => h) (fun w h => h.less (List.Sublist.cons _ (List.Sublist.refl _))) (.inl ⟨by kernel_rfl, by kernel_rfl, fun w h => by kernel_rfl⟩) (by kernel_rfl) ?_
          refine E.H.take 11 (.int .i64 0) rfl (by kernel_rfl) (by kernel_rfl) (by kernel_rfl) (fun _ _ _ h => h) (fun w h => h.less (List.Sublist.cons _ (List.Sublist.refl _))) (.inl ⟨by kernel_rfl, by kernel_rfl, fun w h => by kernel_rfl⟩) (by kernel_rfl) ?_
          refine E.H.done (by kernel_rfl) ?_
          refine E.To.code ?_
          refine E.C.weak [(2, .string ((strOfNums [(IntKind.wrap .u8 i.op)]) ++ (strOfNums (K.wr k i)))), (3, .int .i64 0)] [] ⟨by kernel_rfl, by kernel_rfl⟩ (List.nil_sublist _) ?_
          refine E.C.ret (E.To.body (fn := Try.f17) [.string ((strOfNums [(IntKind.wrap .u8 i.op)]) ++ (strOfNums (K.wr k i))), .int .i64 0] ?_ ?_)
          · exact ⟨⟨by kernel_rfl, by kernel_rfl⟩, ⟨by kernel_rfl, by kernel_rfl⟩, trivial⟩
          · intro w h
            exact ⟨by show Ending.returned (.tuple #[.string ((strOfNums [(IntKind.wrap .u8 i.op)]) ++ (strOfNums (K.wr k i))), .int .i64 0]) = _; unfold K.encode1; rw [hc2, cond_false], h.ch.bel (fun _ h => h.elim)⟩
      · skip
        refine E.G.callv (G := Gq3) (ds := dsq3) [.agg #[.int .i64 i.op, .int .i64 i.d, .int .i64 i.s, .int .i64 i.ix, .int .i64 i.sc, .int .u32 i.imm, .int .i64 i.sz]] (.string (strOfNums (K.wr k i))) (by kernel_rfl) (by kernel_rfl) (fun w h => K.enter_at (K.fmt_lt hk) h.x.2 _ _) (fun w h => kput_at (K.fmt_lt hk) h.x.2 (K.in_valid hm hc2)) (by kernel_rfl) ?_
        refine E.H.back (fun w h => h.less (List.Sublist.cons _ (List.Sublist.refl _))) ?_
        refine E.H.all [4] (by kernel_rfl) (by simp) (List.forall_mem_cons.2 ⟨⟨_, rfl, ?_⟩, fun _ h => (List.not_mem_nil h).elim⟩)
        · skip
          refine E.G.val (.string (strOfNums [(IntKind.wrap .u8 i.op)])) (by kernel_rfl) (fun w h => E.b2s h 0 g5 0 1 1 [(IntKind.wrap .u8 i.op)] (e := 5) (by kernel_rfl) (by kernel_rfl) (by kernel_rfl) (by kernel_rfl) rfl (by kernel_rfl) rfl) ?_
          refine E.H.back (fun w h => h.less (List.Sublist.cons _ (List.Sublist.refl _))) ?_
          refine E.H.take 9 (.string ((strOfNums [(IntKind.wrap .u8 i.op)]) ++ (strOfNums (K.wr k i)))) rfl (by kernel_rfl) (by kernel_rfl) (by kernel_rfl) (fun _ _ _ h => h) (fun w h => h.less (List.Sublist.cons _ (List.Sublist.refl _))) (.inl ⟨by kernel_rfl, by kernel_rfl, fun w h => E.cat (strOfNums [(IntKind.wrap .u8 i.op)]) (strOfNums (K.wr k i)) (by kernel_rfl) (by kernel_rfl) (by rw [strOfNums_size, strOfNums_size]; have := K.wr_len k (K.fmt_lt hk) i; have := K.len_bd k (K.fmt_lt hk); simp only [List.length_cons, List.length_nil]; omega) w⟩) (by kernel_rfl) ?_
          refine E.H.take 10 (.string ((strOfNums [(IntKind.wrap .u8 i.op)]) ++ (strOfNums (K.wr k i)))) rfl (by kernel_rfl) (by kernel_rfl) (by kernel_rfl) (fun _ _ _ h => h) (fun w h => h.less (List.Sublist.cons _ (List.Sublist.refl _))) (.inl ⟨by kernel_rfl, by kernel_rfl, fun w h => by kernel_rfl⟩) (by kernel_rfl) ?_
          refine E.H.take 11 (.int .i64 0) rfl (by kernel_rfl) (by kernel_rfl) (by kernel_rfl) (fun _ _ _ h => h) (fun w h => h.less (List.Sublist.cons _ (List.Sublist.refl _))) (.inl ⟨by kernel_rfl, by kernel_rfl, fun w h => by kernel_rfl⟩) (by kernel_rfl) ?_
          refine E.H.done (by kernel_rfl) ?_
          refine E.To.code ?_
          refine E.C.weak [(2, .string ((strOfNums [(IntKind.wrap .u8 i.op)]) ++ (strOfNums (K.wr k i)))), (3, .int .i64 0)] [] ⟨by kernel_rfl, by kernel_rfl⟩ (List.nil_sublist _) ?_
          refine E.C.ret (E.To.body (fn := Try.f17) [.string ((strOfNums [(IntKind.wrap .u8 i.op)]) ++ (strOfNums (K.wr k i))), .int .i64 0] ?_ ?_)
          · exact ⟨⟨by kernel_rfl, by kernel_rfl⟩, ⟨by kernel_rfl, by kernel_rfl⟩, trivial⟩
          · intro w h
            exact ⟨by show Ending.returned (.tuple #[.string ((strOfNums [(IntKind.wrap .u8 i.op)]) ++ (strOfNums (K.wr k i))), .int .i64 0]) = _; unfold K.encode1; rw [hc2, cond_false], h.ch.bel (fun _ h => h.elim)⟩
    · skip
      refine E.G.callv (G := Gq3) (ds := dsq3) [.agg #[.int .i64 i.op, .int .i64 i.d, .int .i64 i.s, .int .i64 i.ix, .int .i64 i.sc, .int .u32 i.imm, .int .i64 i.sz]] (.string (strOfNums (K.wr k i))) (by kernel_rfl) (by kernel_rfl) (fun w h => K.enter_at (K.fmt_lt hk) h.x.2 _ _) (fun w h => kput_at (K.fmt_lt hk) h.x.2 (K.in_valid hm hc2)) (by kernel_rfl) ?_
      refine E.H.back (fun w h => h) ?_
      refine E.H.all [3] (by kernel_rfl) (by simp) (List.forall_mem_cons.2 ⟨⟨_, rfl, ?_⟩, fun _ h => (List.not_mem_nil h).elim⟩)
      · skip
        refine E.G.buildSlice [.int .u8 (IntKind.wrap .u8 i.op)] (by kernel_rfl) (by kernel_rfl) (fun g6 => ?_)
        refine E.H.back (fun w h => h.less (List.Sublist.cons _ (List.Sublist.refl _))) ?_
        refine E.H.all [4] (by kernel_rfl) (by simp) (List.forall_mem_cons.2 ⟨⟨_, rfl, ?_⟩, fun _ h => (List.not_mem_nil h).elim⟩)
        · skip
          refine E.G.val (.string (strOfNums [(IntKind.wrap .u8 i.op)])) (by kernel_rfl) (fun w h => E.b2s h 0 g6 0 1 1 [(IntKind.wrap .u8 i.op)] (e := 5) (by kernel_rfl) (by kernel_rfl) (by kernel_rfl) (by kernel_rfl) rfl (by kernel_rfl) rfl) ?_
          refine E.H.back (fun w h => h.less (List.Sublist.cons _ (List.Sublist.refl _))) ?_
          refine E.H.take 9 (.string ((strOfNums [(IntKind.wrap .u8 i.op)]) ++ (strOfNums (K.wr k i)))) rfl (by kernel_rfl) (by kernel_rfl) (by kernel_rfl) (fun _ _ _ h => h) (fun w h => h.less (List.Sublist.cons _ (List.Sublist.refl _))) (.inl ⟨by kernel_rfl, by kernel_rfl, fun w h => E.cat (strOfNums [(IntKind.wrap .u8 i.op)]) (strOfNums (K.wr k i)) (by kernel_rfl) (by kernel_rfl) (by rw [strOfNums_size, strOfNums_size]; have := K.wr_len k (K.fmt_lt hk) i; have := K.len_bd k (K.fmt_lt hk); simp only [List.length_cons, List.length_nil]; omega) w⟩) (by kernel_rfl) ?_
          refine E.H.take 10 (.string ((strOfNums [(IntKind.wrap .u8 i.op)]) ++ (strOfNums (K.wr k i)))) rfl (by kernel_rfl) (by kernel_rfl) (by kernel_rfl) (fun _ _ _ h => h) (fun w h => h.less (List.Sublist.cons _ (List.Sublist.refl _))) (.inl ⟨by kernel_rfl, by kernel_rfl, fun w h => by kernel_rfl⟩) (by kernel_rfl) ?_
          refine E.H.take 11 (.int .i64 0) rfl (by kernel_rfl) (by kernel_rfl) (by kernel_rfl) (fun _ _ _ h => h) (fun w h => h.less (List.Sublist.cons _ (List.Sublist.refl _))) (.inl ⟨by kernel_rfl, by kernel_rfl, fun w h => by kernel_rfl⟩) (by kernel_rfl) ?_
          refine E.H.done (by kernel_rfl) ?_
          refine E.To.code ?_
          refine E.C.weak [(2, .string ((strOfNums [(IntKind.wrap .u8 i.op)]) ++ (strOfNums (K.wr k i)))), (3, .int .i64 0)] [] ⟨by kernel_rfl, by kernel_rfl⟩ (List.nil_sublist _) ?_
          refine E.C.ret (E.To.body (fn := Try.f17) [.string ((strOfNums [(IntKind.wrap .u8 i.op)]) ++ (strOfNums (K.wr k i))), .int .i64 0] ?_ ?_)
          · exact ⟨⟨by kernel_rfl, by kernel_rfl⟩, ⟨by kernel_rfl, by kernel_rfl⟩, trivial⟩
          · intro w h
            exact ⟨by show Ending.returned (.tuple #[.string ((strOfNums [(IntKind.wrap .u8 i.op)]) ++ (strOfNums (K.wr k i))), .int .i64 0]) = _; unfold K.encode1; rw [hc2, cond_false], h.ch.bel (fun _ h => h.elim)⟩

def K.encode (i : K.Ins) : ByteArray × Int := match K.fmt i.op with
  | none => K.encode0 i
  | some k => K.encode1 k i
theorem Encode_any (i : K.Ins) (hm : 0 ≤ i.imm ∧ i.imm < 4294967296) (w : World) : Calls Try.prog 17 #[.agg #[.int .i64 i.op, .int .i64 i.d, .int .i64 i.s, .int .i64 i.ix, .int .i64 i.sc, .int .u32 i.imm, .int .i64 i.sz]] w fun e w' => e = .returned (.tuple #[.string (K.encode i).1, .int .i64 (K.encode i).2]) ∧ Bel w w' := by
  unfold K.encode
  cases hk : K.fmt i.op with
  | none => exact Encode_none i hk w
  | some k => exact Encode_some k i hk hm w

def K.size0 (x : Int) : Int := 0
theorem Size_none (x : Int) (hk : K.fmt (IntKind.wrap .i64 x) = none) (w : World) : Calls Try.prog 25 #[.int .u8 x] w fun e w' => e = .returned (.int .i64 (K.size0 x)) ∧ Bel w w' := by
  refine E.enter (n := 13) (S := fun _ => False) Try.func25 rfl rfl (by kernel_rfl) (E.Hp.start w) ?_
  refine E.C.seq ?_
  refine E.C.region ?_
  refine E.G.op (.int .i64 0) (fun w => by kernel_rfl) (by kernel_rfl) ?_
  refine E.To.code ?_
  refine E.C.seq ?_
  refine E.C.region ?_
  refine E.G.op (.int .u8 x) (fun w => by kernel_rfl) (by kernel_rfl) ?_
  refine E.G.op (.int .i64 (IntKind.wrap .i64 x)) (fun w => by kernel_rfl) (by kernel_rfl) ?_
  refine E.G.call (.tuple #[.agg #[.int .i64 0, .int .i64 0, .int .i64 0, .nilFunc, .nilFunc], .bool false]) (fun w h => find_none hk w) (fun w _ => by kernel_rfl) (by kernel_rfl) ?_
  refine E.G.op (.tuple #[.agg #[.int .i64 0, .int .i64 0, .int .i64 0, .nilFunc, .nilFunc], .bool false]) (fun w => by kernel_rfl) (by kernel_rfl) ?_
  refine E.G.op (.agg #[.int .i64 0, .int .i64 0, .int .i64 0, .nilFunc, .nilFunc]) (fun w => by kernel_rfl) (by kernel_rfl) ?_
  refine E.G.op (.bool false) (fun w => by kernel_rfl) (by kernel_rfl) ?_
  refine E.G.new (fun g => .pointer (some ⟨g, 0, none⟩)) [.int .i64 0, .int .i64 0, .int .i64 0, .nilFunc, .nilFunc] 66 (fun w => by kernel_rfl) (by kernel_rfl) (fun g1 => ?_)
  refine E.G.store 0 [.int .i64 0, .int .i64 0, .int .i64 0, .nilFunc, .nilFunc] rfl rfl (by kernel_rfl) (by kernel_rfl) ?_
  refine E.G.op (.bool false) (fun w => by kernel_rfl) (by kernel_rfl) ?_
  refine E.To.code ?_
  refine E.C.weak [(2, .int .i64 0), (3, .pointer (some ⟨g1, 0, none⟩))] [(g1, [.int .i64 0, .int .i64 0, .int .i64 0, .nilFunc, .nilFunc])] ⟨by kernel_rfl, by kernel_rfl⟩ (List.Sublist.refl _) ?_
  refine E.C.seq ?_
  refine E.C.region ?_
  refine E.G.op (.pointer (some ⟨g1, 2, none⟩)) (fun w => by kernel_rfl) (by kernel_rfl) ?_
  refine E.G.val (.int .i64 0) (by kernel_rfl) (fun w h => E.run_load h 0 rfl rfl (by kernel_rfl)) ?_
  refine E.G.op (.int .i64 0) (fun w => by kernel_rfl) (by kernel_rfl) ?_
  refine E.To.code ?_
  refine E.C.ret (E.To.body (fn := Try.f25) [.int .i64 0] ?_ ?_)
  · exact ⟨⟨by kernel_rfl, by kernel_rfl⟩, trivial⟩
  · intro w h
    exact ⟨rfl, h.ch.bel (fun _ h => h.elim)⟩

def K.size1 (k : Nat) (x : Int) : Int := (K.len k)
theorem Size_some (k : Nat) (x : Int) (hk : K.fmt (IntKind.wrap .i64 x) = some k) (w : World) : Calls Try.prog 25 #[.int .u8 x] w fun e w' => e = .returned (.int .i64 (K.size1 k x)) ∧ Bel w w' := by
  refine E.enter (n := 13) (S := fun _ => False) Try.func25 rfl rfl (by kernel_rfl) (E.Hp.start w) ?_
  refine E.C.seq ?_
  refine E.C.region ?_
  refine E.G.op (.int .i64 0) (fun w => by kernel_rfl) (by kernel_rfl) ?_
  refine E.To.code ?_
  refine E.C.seq ?_
  refine E.C.region ?_
  refine E.G.op (.int .u8 x) (fun w => by kernel_rfl) (by kernel_rfl) ?_
  refine E.G.op (.int .i64 (IntKind.wrap .i64 x)) (fun w => by kernel_rfl) (by kernel_rfl) ?_
  refine E.G.callX (I := FuncId × Array Value × FuncId × Array Value) (fun _ => True) (fun i => .tuple #[.agg #[.int .i64 (K.lo k), .int .i64 (K.hi k), .int .i64 (K.len k), .func (.func i.1) #[] i.2.1, .func (.func i.2.2.1) #[] i.2.2.2], .bool true]) (fun i => fun w => (fun _ => True) w ∧ K.Fm k (.func (.func i.1) #[] i.2.1) (.func (.func i.2.2.1) #[] i.2.2.2) w) (fun _ => []) (fun w h => find_hp hk (by unfold K.intB; simp) w h) (fun w _ => by kernel_rfl) (by kernel_rfl) (fun i _ => ?_)
  obtain ⟨Fq1, csq1, Gq1, dsq1⟩ := i
  refine E.G.op (.tuple #[.agg #[.int .i64 (K.lo k), .int .i64 (K.hi k), .int .i64 (K.len k), .func (.func Fq1) #[] csq1, .func (.func Gq1) #[] dsq1], .bool true]) (fun w => by kernel_rfl) (by kernel_rfl) ?_
  refine E.G.op (.agg #[.int .i64 (K.lo k), .int .i64 (K.hi k), .int .i64 (K.len k), .func (.func Fq1) #[] csq1, .func (.func Gq1) #[] dsq1]) (fun w => by kernel_rfl) (by kernel_rfl) ?_
  refine E.G.op (.bool true) (fun w => by kernel_rfl) (by kernel_rfl) ?_
  refine E.G.new (fun g => .pointer (some ⟨g, 0, none⟩)) [.int .i64 0, .int .i64 0, .int .i64 0, .nilFunc, .nilFunc] 66 (fun w => by kernel_rfl) (by kernel_rfl) (fun g2 => ?_)
  refine E.G.store 0 [.int .i64 (K.lo k), .int .i64 (K.hi k), .int .i64 (K.len k), .func (.func Fq1) #[] csq1, .func (.func Gq1) #[] dsq1] rfl rfl (by kernel_rfl) (by kernel_rfl) ?_
  refine E.G.op (.bool true) (fun w => by kernel_rfl) (by kernel_rfl) ?_
  refine E.To.code ?_
  refine E.C.weak [(2, .int .i64 0), (3, .pointer (some ⟨g2, 0, none⟩))] [(g2, [.int .i64 (K.lo k), .int .i64 (K.hi k), .int .i64 (K.len k), .func (.func Fq1) #[] csq1, .func (.func Gq1) #[] dsq1])] ⟨by kernel_rfl, by kernel_rfl⟩ (List.Sublist.refl _) ?_
  refine E.C.seq ?_
  refine E.C.region ?_
  refine E.G.op (.pointer (some ⟨g2, 2, none⟩)) (fun w => by kernel_rfl) (by kernel_rfl) ?_
  refine E.G.val (.int .i64 (K.len k)) (by kernel_rfl) (fun w h => E.run_load h 0 rfl rfl (by kernel_rfl)) ?_
  refine E.G.op (.int .i64 (K.len k)) (fun w => by kernel_rfl) (by kernel_rfl) ?_
  refine E.To.code ?_
  refine E.C.ret (E.To.body (fn := Try.f25) [.int .i64 (K.len k)] ?_ ?_)
  · exact ⟨⟨by kernel_rfl, by kernel_rfl⟩, trivial⟩
  · intro w h
    exact ⟨rfl, h.ch.bel (fun _ h => h.elim)⟩

def K.size (x : Int) : Int := match K.fmt (IntKind.wrap .i64 x) with
  | none => 0
  | some k => K.len k
theorem Size_any (x : Int) (w : World) : Calls Try.prog 25 #[.int .u8 x] w fun e w' => e = .returned (.int .i64 (K.size x)) ∧ Bel w w' := by
  unfold K.size
  cases hk : K.fmt (IntKind.wrap .i64 x) with
  | none => exact Size_none x hk w
  | some k => exact Size_some k x hk w

def K.ends (i : K.Ins) : Bool := (K.inAny i.op [(1, 4), (20, 21), (96, 109), (112, 113), (128, 128)])
theorem Ends_any (i : K.Ins) (w : World) : Calls Try.prog 23 #[.agg #[.int .i64 i.op, .int .i64 i.d, .int .i64 i.s, .int .i64 i.ix, .int .i64 i.sc, .int .u32 i.imm, .int .i64 i.sz]] w fun e w' => e = .returned (.bool (K.ends i)) ∧ Bel w w' := by
  refine E.enter (n := 12) (S := fun _ => False) Try.func23 rfl rfl (by kernel_rfl) (E.Hp.start w) ?_
  refine E.C.seq ?_
  refine E.C.region ?_
  refine E.G.new (fun g => .pointer (some ⟨g, 0, none⟩)) [.int .i64 i.op, .int .i64 i.d, .int .i64 i.s, .int .i64 i.ix, .int .i64 i.sc, .int .u32 i.imm, .int .i64 i.sz] 27 (fun w => by kernel_rfl) (by kernel_rfl) (fun g1 => ?_)
  refine E.G.op (.bool false) (fun w => by kernel_rfl) (by kernel_rfl) ?_
  refine E.To.code ?_
  refine E.C.seq ?_
  refine E.C.region ?_
  refine E.G.op (.pointer (some ⟨g1, 0, none⟩)) (fun w => by kernel_rfl) (by kernel_rfl) ?_
  refine E.G.val (.int .i64 i.op) (by kernel_rfl) (fun w h => E.run_load h 0 rfl rfl (by kernel_rfl)) ?_
  refine E.G.val (.agg #[.int .i64 1, .int .i64 4]) (by kernel_rfl) (fun w h => E.run_build #[.int .i64 1, .int .i64 4] (by kernel_rfl) w) ?_
  refine E.G.val (.agg #[.int .i64 20, .int .i64 21]) (by kernel_rfl) (fun w h => E.run_build #[.int .i64 20, .int .i64 21] (by kernel_rfl) w) ?_
  refine E.G.val (.agg #[.int .i64 96, .int .i64 109]) (by kernel_rfl) (fun w h => E.run_build #[.int .i64 96, .int .i64 109] (by kernel_rfl) w) ?_
  refine E.G.val (.agg #[.int .i64 112, .int .i64 113]) (by kernel_rfl) (fun w h => E.run_build #[.int .i64 112, .int .i64 113] (by kernel_rfl) w) ?_
  refine E.G.val (.agg #[.int .i64 128, .int .i64 128]) (by kernel_rfl) (fun w h => E.run_build #[.int .i64 128, .int .i64 128] (by kernel_rfl) w) ?_
  refine E.G.buildSlice [.int .i64 1, .int .i64 4, .int .i64 20, .int .i64 21, .int .i64 96, .int .i64 109, .int .i64 112, .int .i64 113, .int .i64 128, .int .i64 128] (by kernel_rfl) (by kernel_rfl) (fun g2 => ?_)
  refine E.G.call (.bool (K.inAny i.op [(1, 4), (20, 21), (96, 109), (112, 113), (128, 128)])) (fun w h => within_hp h 0 (cap := 5) i.op [(1, 4), (20, 21), (96, 109), (112, 113), (128, 128)] (by decide) rfl rfl) (fun w _ => by kernel_rfl) (by kernel_rfl) ?_
  refine E.G.op (.bool (K.inAny i.op [(1, 4), (20, 21), (96, 109), (112, 113), (128, 128)])) (fun w => by kernel_rfl) (by kernel_rfl) ?_
  refine E.To.code ?_
  refine E.C.weak [(2, .bool (K.inAny i.op [(1, 4), (20, 21), (96, 109), (112, 113), (128, 128)]))] [] ⟨by kernel_rfl, by kernel_rfl⟩ (List.nil_sublist _) ?_
  refine E.C.ret (E.To.body (fn := Try.f23) [.bool (K.inAny i.op [(1, 4), (20, 21), (96, 109), (112, 113), (128, 128)])] ?_ ?_)
  · exact ⟨⟨by kernel_rfl, by kernel_rfl⟩, trivial⟩
  · intro w h
    exact ⟨rfl, h.ch.bel (fun _ h => h.elim)⟩

def K.target (i : K.Ins) (a : Int) : Int × Bool := (bif ((!(K.valid i)) || (!(K.inAny i.op [(96, 109), (112, 113)]))) then (0, false) else ((IntKind.wrap .u32 ((IntKind.wrap .u32 (a + (IntKind.wrap .u32 i.sz))) + i.imm)), true))
theorem Target_any (i : K.Ins) (a : Int) (hm : 0 ≤ i.imm ∧ i.imm < 4294967296) (w : World) : Calls Try.prog 21 #[.agg #[.int .i64 i.op, .int .i64 i.d, .int .i64 i.s, .int .i64 i.ix, .int .i64 i.sc, .int .u32 i.imm, .int .i64 i.sz], .int .u32 a] w fun e w' => e = .returned (.tuple #[.int .u32 (((K.target i a)).1), .bool (((K.target i a)).2)]) ∧ Bel w w' := by
  refine E.enter (n := 26) (S := fun _ => False) Try.func21 rfl rfl (by kernel_rfl) (E.Hp.start w) ?_
  refine E.C.seq ?_
  refine E.C.region ?_
  refine E.G.new (fun g => .pointer (some ⟨g, 0, none⟩)) [.int .i64 i.op, .int .i64 i.d, .int .i64 i.s, .int .i64 i.ix, .int .i64 i.sc, .int .u32 i.imm, .int .i64 i.sz] 27 (fun w => by kernel_rfl) (by kernel_rfl) (fun g1 => ?_)
  refine E.G.op (.int .u32 0) (fun w => by kernel_rfl) (by kernel_rfl) ?_
  refine E.G.op (.bool false) (fun w => by kernel_rfl) (by kernel_rfl) ?_
  refine E.To.code ?_
  refine E.C.seq ?_
  refine E.C.seq ?_
  refine E.C.region ?_
  refine E.G.val (.agg #[.int .i64 i.op, .int .i64 i.d, .int .i64 i.s, .int .i64 i.ix, .int .i64 i.sc, .int .u32 i.imm, .int .i64 i.sz]) (by kernel_rfl) (fun w h => E.run_load h 0 rfl rfl (by kernel_rfl)) ?_
  refine E.G.call (.bool (K.valid i)) (fun w h => Valid_any i hm w) (fun w _ => by kernel_rfl) (by kernel_rfl) ?_
  refine E.G.op (.bool (!(K.valid i))) (fun w => by kernel_rfl) (by kernel_rfl) ?_
  refine E.G.op (.bool (!(K.valid i))) (fun w => by kernel_rfl) (by kernel_rfl) ?_
  refine E.G.cut 8 [(1, .int .u32 a), (2, .pointer (some ⟨g1, 0, none⟩)), (4, .int .u32 0), (5, .bool false), (17, .bool ((!(K.valid i)) || (!(K.inAny i.op [(96, 109), (112, 113)]))))] (fun _ => True) [(g1, [.int .i64 i.op, .int .i64 i.d, .int .i64 i.s, .int .i64 i.ix, .int .i64 i.sc, .int .u32 i.imm, .int .i64 i.sz])] ?_ ?_
  · generalize hc2 : (!(K.valid i)) = b3
    cases b3
    · skip
      refine E.G.op (.pointer (some ⟨g1, 0, none⟩)) (fun w => by kernel_rfl) (by kernel_rfl) ?_
      refine E.G.val (.int .i64 i.op) (by kernel_rfl) (fun w h => E.run_load h 0 rfl rfl (by kernel_rfl)) ?_
      refine E.G.val (.agg #[.int .i64 96, .int .i64 109]) (by kernel_rfl) (fun w h => E.run_build #[.int .i64 96, .int .i64 109] (by kernel_rfl) w) ?_
      refine E.G.val (.agg #[.int .i64 112, .int .i64 113]) (by kernel_rfl) (fun w h => E.run_build #[.int .i64 112, .int .i64 113] (by kernel_rfl) w) ?_
      refine E.G.buildSlice [.int .i64 96, .int .i64 109, .int .i64 112, .int .i64 113] (by kernel_rfl) (by kernel_rfl) (fun g4 => ?_)
      refine E.G.call (.bool (K.inAny i.op [(96, 109), (112, 113)])) (fun w h => within_hp h 0 (cap := 2) i.op [(96, 109), (112, 113)] (by decide) rfl rfl) (fun w _ => by kernel_rfl) (by kernel_rfl) ?_
      refine E.G.op (.bool (!(K.inAny i.op [(96, 109), (112, 113)]))) (fun w => by kernel_rfl) (by kernel_rfl) ?_
      refine E.G.op (.bool (!(K.inAny i.op [(96, 109), (112, 113)]))) (fun w => by kernel_rfl) (by kernel_rfl) ?_
      exact E.G.end_pst ⟨by kernel_rfl, by kernel_rfl⟩ (List.Sublist.cons _ (List.Sublist.refl _)) (fun _ h => h)
    · skip
      refine E.G.skip (by kernel_rfl) (by kernel_rfl) ?_
      refine E.G.skip (by kernel_rfl) (by kernel_rfl) ?_
      refine E.G.skip (by kernel_rfl) (by kernel_rfl) ?_
      refine E.G.skip (by kernel_rfl) (by kernel_rfl) ?_
      refine E.G.skip (by kernel_rfl) (by kernel_rfl) ?_
      refine E.G.skip (by kernel_rfl) (by kernel_rfl) ?_
      refine E.G.skip (by kernel_rfl) (by kernel_rfl) ?_
      refine E.G.op (.bool true) (fun w => by kernel_rfl) (by kernel_rfl) ?_
      exact E.G.end_pst ⟨by kernel_rfl, by kernel_rfl⟩ (List.Sublist.refl _) (fun _ h => h)
  refine E.To.code ?_
  refine E.C.cond ((!(K.valid i)) || (!(K.inAny i.op [(96, 109), (112, 113)]))) (by kernel_rfl) (by kernel_rfl) (fun hc5 => ?_) (fun hc5 => ?_)
  · skip
    refine E.C.seq ?_
    refine E.C.region ?_
    refine E.G.op (.int .u32 0) (fun w => by kernel_rfl) (by kernel_rfl) ?_
    refine E.G.op (.bool false) (fun w => by kernel_rfl) (by kernel_rfl) ?_
    refine E.To.code ?_
    refine E.C.ret (E.P.rt (E.To.body (fn := Try.f21) [.int .u32 0, .bool false] ?_ ?_))
    · exact ⟨⟨by kernel_rfl, by kernel_rfl⟩, ⟨by kernel_rfl, by kernel_rfl⟩, trivial⟩
    · intro w h
      exact ⟨by show Ending.returned (.tuple #[.int .u32 0, .bool false]) = _; unfold K.target; rw [hc5, cond_true], h.ch.bel (fun _ h => h.elim)⟩
  · skip
    refine E.C.skip (E.To.code ?_)
    refine E.C.seq ?_
    refine E.C.region ?_
    refine E.G.op (.int .u32 a) (fun w => by kernel_rfl) (by kernel_rfl) ?_
    refine E.G.op (.pointer (some ⟨g1, 6, none⟩)) (fun w => by kernel_rfl) (by kernel_rfl) ?_
    refine E.G.val (.int .i64 i.sz) (by kernel_rfl) (fun w h => E.run_load h 0 rfl rfl (by kernel_rfl)) ?_
    refine E.G.op (.int .u32 (IntKind.wrap .u32 i.sz)) (fun w => by kernel_rfl) (by kernel_rfl) ?_
    refine E.G.op (.int .u32 (IntKind.wrap .u32 (a + (IntKind.wrap .u32 i.sz)))) (fun w => by kernel_rfl) (by kernel_rfl) ?_
    refine E.G.op (.pointer (some ⟨g1, 5, none⟩)) (fun w => by kernel_rfl) (by kernel_rfl) ?_
    refine E.G.val (.int .u32 i.imm) (by kernel_rfl) (fun w h => E.run_load h 0 rfl rfl (by kernel_rfl)) ?_
    refine E.G.op (.int .u32 (IntKind.wrap .u32 ((IntKind.wrap .u32 (a + (IntKind.wrap .u32 i.sz))) + i.imm))) (fun w => by kernel_rfl) (by kernel_rfl) ?_
    refine E.G.op (.int .u32 (IntKind.wrap .u32 ((IntKind.wrap .u32 (a + (IntKind.wrap .u32 i.sz))) + i.imm))) (fun w => by kernel_rfl) (by kernel_rfl) ?_
    refine E.G.op (.bool true) (fun w => by kernel_rfl) (by kernel_rfl) ?_
    refine E.To.code ?_
    refine E.C.weak [(4, .int .u32 (IntKind.wrap .u32 ((IntKind.wrap .u32 (a + (IntKind.wrap .u32 i.sz))) + i.imm))), (5, .bool true)] [] ⟨by kernel_rfl, by kernel_rfl⟩ (List.nil_sublist _) ?_
    refine E.C.ret (E.To.body (fn := Try.f21) [.int .u32 (IntKind.wrap .u32 ((IntKind.wrap .u32 (a + (IntKind.wrap .u32 i.sz))) + i.imm)), .bool true] ?_ ?_)
    · exact ⟨⟨by kernel_rfl, by kernel_rfl⟩, ⟨by kernel_rfl, by kernel_rfl⟩, trivial⟩
    · intro w h
      exact ⟨by show Ending.returned (.tuple #[.int .u32 (IntKind.wrap .u32 ((IntKind.wrap .u32 (a + (IntKind.wrap .u32 i.sz))) + i.imm)), .bool true]) = _; unfold K.target; rw [hc5, cond_false], h.ch.bel (fun _ h => h.elim)⟩

theorem K.rd_imm (k : Nat) (hk : k < 11) (l : List UInt8) (sz : Int) : 0 ≤ (K.rd k l sz).imm ∧ (K.rd k l sz).imm < 4294967296 := by
  have hb := fun n => W.byt_bd l n
  have hs : ∀ n, 0 ≤ W.sign (W.byt l n) 8 ∧ W.sign (W.byt l n) 8 < 4294967296 := fun n => W.sign_bd _ _ (hb n).1 (by have := hb n; omega)
  have hf : ∀ n, 0 ≤ K.four l n ∧ K.four l n < 4294967296 := fun n => by
    unfold K.four; have := hb n; have := hb (n + 1); have := hb (n + 2); have := hb (n + 3); omega
  have hix : ∀ n i, (K.t_index l n i).imm = i.imm := fun n i => by unfold K.t_index; split <;> rfl
  rcases (by omega : k = 0 ∨ k = 1 ∨ k = 2 ∨ k = 3 ∨ k = 4 ∨ k = 5 ∨ k = 6 ∨ k = 7 ∨ k = 8 ∨ k = 9 ∨ k = 10) with rfl | rfl | rfl | rfl | rfl | rfl | rfl | rfl | rfl | rfl | rfl
  · exact ⟨by show (0 : Int) ≤ 0; decide, by show (0 : Int) < 4294967296; decide⟩
  · exact ⟨by show (0 : Int) ≤ 0; decide, by show (0 : Int) < 4294967296; decide⟩
  · exact ⟨by show (0 : Int) ≤ 0; decide, by show (0 : Int) < 4294967296; decide⟩
  · exact hs _
  · exact hf _
  · exact hs _
  · exact hf _
  · exact hs _
  · exact hf _
  · have := hb 1; exact ⟨this.1, by show W.byt l 1 < _; omega⟩
  · exact ⟨by show (0 : Int) ≤ 0; decide, by show (0 : Int) < 4294967296; decide⟩

def K.decode0 (s : ByteArray) : K.Ins × Int := (bif (s.toList == (⟨#[]⟩ : ByteArray).toList) then (⟨0, 0, 0, 0, 0, 0, 0⟩, 10) else (⟨0, 0, 0, 0, 0, 0, 0⟩, 12))
theorem Decode_none (s : ByteArray) (hk : K.fmt (IntKind.wrap .i64 (W.byt s.data.toList 0)) = none) (w : World) : Calls Try.prog 14 #[.string s] w fun e w' => e = .returned (.tuple #[.agg #[.int .i64 (((((K.decode0 s)).1)).op), .int .i64 (((((K.decode0 s)).1)).d), .int .i64 (((((K.decode0 s)).1)).s), .int .i64 (((((K.decode0 s)).1)).ix), .int .i64 (((((K.decode0 s)).1)).sc), .int .u32 (((((K.decode0 s)).1)).imm), .int .i64 (((((K.decode0 s)).1)).sz)], .int .i64 (((K.decode0 s)).2)]) ∧ Bel w w' := by
  refine E.enter (n := 37) (S := fun _ => False) Try.func14 rfl rfl (by kernel_rfl) (E.Hp.start w) ?_
  refine E.C.seq ?_
  refine E.C.region ?_
  refine E.G.new (fun g => .pointer (some ⟨g, 0, none⟩)) [.int .i64 0, .int .i64 0, .int .i64 0, .int .i64 0, .int .i64 0, .int .u32 0, .int .i64 0] 27 (fun w => by kernel_rfl) (by kernel_rfl) (fun g1 => ?_)
  refine E.G.op (.int .i64 0) (fun w => by kernel_rfl) (by kernel_rfl) ?_
  refine E.To.code ?_
  refine E.C.seq ?_
  refine E.C.seq ?_
  refine E.C.region ?_
  refine E.G.op (.string s) (fun w => by kernel_rfl) (by kernel_rfl) ?_
  refine E.G.op (.bool (s.toList == (⟨#[]⟩ : ByteArray).toList)) (fun w => by kernel_rfl) (by kernel_rfl) ?_
  refine E.To.code ?_
  refine E.C.cond (s.toList == (⟨#[]⟩ : ByteArray).toList) (by kernel_rfl) (by kernel_rfl) (fun hc2 => ?_) (fun hc2 => ?_)
  · skip
    refine E.C.seq ?_
    refine E.C.region ?_
    refine E.G.val (.agg #[.int .i64 0, .int .i64 0, .int .i64 0, .int .i64 0, .int .i64 0, .int .u32 0, .int .i64 0]) (by kernel_rfl) (fun w h => E.run_build #[.int .i64 0, .int .i64 0, .int .i64 0, .int .i64 0, .int .i64 0, .int .u32 0, .int .i64 0] (by kernel_rfl) w) ?_
    refine E.G.store 0 [.int .i64 0, .int .i64 0, .int .i64 0, .int .i64 0, .int .i64 0, .int .u32 0, .int .i64 0] rfl rfl (by kernel_rfl) (by kernel_rfl) ?_
    refine E.G.op (.int .i64 10) (fun w => by kernel_rfl) (by kernel_rfl) ?_
    refine E.To.code ?_
    refine E.C.ret (E.P.rt (E.To.body (fn := Try.f14) [.agg #[.int .i64 0, .int .i64 0, .int .i64 0, .int .i64 0, .int .i64 0, .int .u32 0, .int .i64 0], .int .i64 10] ?_ ?_))
    · exact ⟨⟨by kernel_rfl, _, _, 0, _, rfl, rfl, by kernel_rfl⟩, ⟨by kernel_rfl, by kernel_rfl⟩, trivial⟩
    · intro w h
      exact ⟨by show Ending.returned (.tuple #[.agg #[.int .i64 0, .int .i64 0, .int .i64 0, .int .i64 0, .int .i64 0, .int .u32 0, .int .i64 0], .int .i64 10]) = _; unfold K.decode0; rw [hc2, cond_true], h.ch.bel (fun _ h => h.elim)⟩
  · skip
    refine E.C.skip (E.To.code ?_)
    refine E.C.seq ?_
    refine E.C.region ?_
    refine E.G.op (.string s) (fun w => by kernel_rfl) (by kernel_rfl) ?_
    refine E.G.val (.int .u8 (W.byt s.data.toList 0)) (by kernel_rfl) (fun w h => E.sidx s .i64 0 (by kernel_rfl) (by kernel_rfl) (by kernel_rfl) (by first | (have hp := E.size_pos (by assumption); (try simp only [beq_iff_eq, bne_iff_ne, ne_eq, Bool.or_eq_true, Bool.and_eq_true, beq_eq_false_iff_ne, decide_eq_true_eq, decide_eq_false_iff_not, Bool.or_eq_false_iff, Bool.not_eq_true, gt_iff_lt] at *); omega) | ((try simp only [beq_iff_eq, bne_iff_ne, ne_eq, Bool.or_eq_true, Bool.and_eq_true, beq_eq_false_iff_ne, decide_eq_true_eq, decide_eq_false_iff_not, Bool.or_eq_false_iff, Bool.not_eq_true, gt_iff_lt] at *); omega)) (by first | (have hp := E.size_pos (by assumption); (try simp only [beq_iff_eq, bne_iff_ne, ne_eq, Bool.or_eq_true, Bool.and_eq_true, beq_eq_false_iff_ne, decide_eq_true_eq, decide_eq_false_iff_not, Bool.or_eq_false_iff, Bool.not_eq_true, gt_iff_lt] at *); omega) | ((try simp only [beq_iff_eq, bne_iff_ne, ne_eq, Bool.or_eq_true, Bool.and_eq_true, beq_eq_false_iff_ne, decide_eq_true_eq, decide_eq_false_iff_not, Bool.or_eq_false_iff, Bool.not_eq_true, gt_iff_lt] at *); omega)) w) ?_
    refine E.G.op (.int .i64 (IntKind.wrap .i64 (W.byt s.data.toList 0))) (fun w => by kernel_rfl) (by kernel_rfl) ?_
    refine E.G.call (.tuple #[.agg #[.int .i64 0, .int .i64 0, .int .i64 0, .nilFunc, .nilFunc], .bool false]) (fun w h => find_none hk w) (fun w _ => by kernel_rfl) (by kernel_rfl) ?_
    refine E.G.op (.tuple #[.agg #[.int .i64 0, .int .i64 0, .int .i64 0, .nilFunc, .nilFunc], .bool false]) (fun w => by kernel_rfl) (by kernel_rfl) ?_
    refine E.G.op (.agg #[.int .i64 0, .int .i64 0, .int .i64 0, .nilFunc, .nilFunc]) (fun w => by kernel_rfl) (by kernel_rfl) ?_
    refine E.G.op (.bool false) (fun w => by kernel_rfl) (by kernel_rfl) ?_
    refine E.G.new (fun g => .pointer (some ⟨g, 0, none⟩)) [.int .i64 0, .int .i64 0, .int .i64 0, .nilFunc, .nilFunc] 66 (fun w => by kernel_rfl) (by kernel_rfl) (fun g3 => ?_)
    refine E.G.store 0 [.int .i64 0, .int .i64 0, .int .i64 0, .nilFunc, .nilFunc] rfl rfl (by kernel_rfl) (by kernel_rfl) ?_
    refine E.G.op (.bool false) (fun w => by kernel_rfl) (by kernel_rfl) ?_
    refine E.To.code ?_
    refine E.C.weak [(0, .string s), (2, .pointer (some ⟨g1, 0, none⟩)), (3, .int .i64 0), (4, .pointer (some ⟨g3, 0, none⟩)), (5, .bool false)] [(g3, [.int .i64 0, .int .i64 0, .int .i64 0, .nilFunc, .nilFunc]), (g1, [.int .i64 0, .int .i64 0, .int .i64 0, .int .i64 0, .int .i64 0, .int .u32 0, .int .i64 0])] ⟨by kernel_rfl, by kernel_rfl⟩ (List.Sublist.refl _) ?_
    refine E.C.seq ?_
    refine E.C.seq ?_
    refine E.C.region ?_
    refine E.G.op (.bool false) (fun w => by kernel_rfl) (by kernel_rfl) ?_
    refine E.G.op (.bool true) (fun w => by kernel_rfl) (by kernel_rfl) ?_
    refine E.To.code ?_
    refine E.C.condT (by kernel_rfl) (by kernel_rfl) ?_
    refine E.C.seq ?_
    refine E.C.region ?_
    refine E.G.val (.agg #[.int .i64 0, .int .i64 0, .int .i64 0, .int .i64 0, .int .i64 0, .int .u32 0, .int .i64 0]) (by kernel_rfl) (fun w h => E.run_build #[.int .i64 0, .int .i64 0, .int .i64 0, .int .i64 0, .int .i64 0, .int .u32 0, .int .i64 0] (by kernel_rfl) w) ?_
    refine E.G.store 1 [.int .i64 0, .int .i64 0, .int .i64 0, .int .i64 0, .int .i64 0, .int .u32 0, .int .i64 0] rfl rfl (by kernel_rfl) (by kernel_rfl) ?_
    refine E.G.op (.int .i64 12) (fun w => by kernel_rfl) (by kernel_rfl) ?_
    refine E.To.code ?_
    refine E.C.ret (E.P.rt (E.To.body (fn := Try.f14) [.agg #[.int .i64 0, .int .i64 0, .int .i64 0, .int .i64 0, .int .i64 0, .int .u32 0, .int .i64 0], .int .i64 12] ?_ ?_))
    · exact ⟨⟨by kernel_rfl, _, _, 1, _, rfl, rfl, by kernel_rfl⟩, ⟨by kernel_rfl, by kernel_rfl⟩, trivial⟩
    · intro w h
      exact ⟨by show Ending.returned (.tuple #[.agg #[.int .i64 0, .int .i64 0, .int .i64 0, .int .i64 0, .int .i64 0, .int .u32 0, .int .i64 0], .int .i64 12]) = _; unfold K.decode0; rw [hc2, cond_false], h.ch.bel (fun _ h => h.elim)⟩

def K.decode1 (k : Nat) (s : ByteArray) : K.Ins × Int := (bif (s.toList == (⟨#[]⟩ : ByteArray).toList) then (⟨0, 0, 0, 0, 0, 0, 0⟩, 10) else (bif (decide (((s.size : Nat) : Int) < (K.len k))) then (⟨0, 0, 0, 0, 0, 0, 0⟩, 10) else (bif (!(K.valid ((K.rd k ((s.extract 0 ((K.len k)).toNat)).data.toList (K.len k))))) then (⟨0, 0, 0, 0, 0, 0, 0⟩, 12) else (((K.rd k ((s.extract 0 ((K.len k)).toNat)).data.toList (K.len k))), 0))))
theorem Decode_some (k : Nat) (s : ByteArray) (hk : K.fmt (IntKind.wrap .i64 (W.byt s.data.toList 0)) = some k) (hs : s.size ≤ maxLen) (w : World) : Calls Try.prog 14 #[.string s] w fun e w' => e = .returned (.tuple #[.agg #[.int .i64 (((((K.decode1 k s)).1)).op), .int .i64 (((((K.decode1 k s)).1)).d), .int .i64 (((((K.decode1 k s)).1)).s), .int .i64 (((((K.decode1 k s)).1)).ix), .int .i64 (((((K.decode1 k s)).1)).sc), .int .u32 (((((K.decode1 k s)).1)).imm), .int .i64 (((((K.decode1 k s)).1)).sz)], .int .i64 (((K.decode1 k s)).2)]) ∧ Bel w w' := by
  have hl := K.len_bd k (K.fmt_lt hk)
  refine E.enter (n := 37) (S := fun _ => False) Try.func14 rfl rfl (by kernel_rfl) (E.Hp.start w) ?_
  refine E.C.seq ?_
  refine E.C.region ?_
  refine E.G.new (fun g => .pointer (some ⟨g, 0, none⟩)) [.int .i64 0, .int .i64 0, .int .i64 0, .int .i64 0, .int .i64 0, .int .u32 0, .int .i64 0] 27 (fun w => by kernel_rfl) (by kernel_rfl) (fun g1 => ?_)
  refine E.G.op (.int .i64 0) (fun w => by kernel_rfl) (by kernel_rfl) ?_
  refine E.To.code ?_
  refine E.C.seq ?_
  refine E.C.seq ?_
  refine E.C.region ?_
  refine E.G.op (.string s) (fun w => by kernel_rfl) (by kernel_rfl) ?_
  refine E.G.op (.bool (s.toList == (⟨#[]⟩ : ByteArray).toList)) (fun w => by kernel_rfl) (by kernel_rfl) ?_
  refine E.To.code ?_
  refine E.C.cond (s.toList == (⟨#[]⟩ : ByteArray).toList) (by kernel_rfl) (by kernel_rfl) (fun hc2 => ?_) (fun hc2 => ?_)
  · skip
    refine E.C.seq ?_
    refine E.C.region ?_
    refine E.G.val (.agg #[.int .i64 0, .int .i64 0, .int .i64 0, .int .i64 0, .int .i64 0, .int .u32 0, .int .i64 0]) (by kernel_rfl) (fun w h => E.run_build #[.int .i64 0, .int .i64 0, .int .i64 0, .int .i64 0, .int .i64 0, .int .u32 0, .int .i64 0] (by kernel_rfl) w) ?_
    refine E.G.store 0 [.int .i64 0, .int .i64 0, .int .i64 0, .int .i64 0, .int .i64 0, .int .u32 0, .int .i64 0] rfl rfl (by kernel_rfl) (by kernel_rfl) ?_
    refine E.G.op (.int .i64 10) (fun w => by kernel_rfl) (by kernel_rfl) ?_
    refine E.To.code ?_
    refine E.C.ret (E.P.rt (E.To.body (fn := Try.f14) [.agg #[.int .i64 0, .int .i64 0, .int .i64 0, .int .i64 0, .int .i64 0, .int .u32 0, .int .i64 0], .int .i64 10] ?_ ?_))
    · exact ⟨⟨by kernel_rfl, _, _, 0, _, rfl, rfl, by kernel_rfl⟩, ⟨by kernel_rfl, by kernel_rfl⟩, trivial⟩
    · intro w h
      exact ⟨by show Ending.returned (.tuple #[.agg #[.int .i64 0, .int .i64 0, .int .i64 0, .int .i64 0, .int .i64 0, .int .u32 0, .int .i64 0], .int .i64 10]) = _; unfold K.decode1; rw [hc2, cond_true], h.ch.bel (fun _ h => h.elim)⟩
  · skip
    refine E.C.skip (E.To.code ?_)
    refine E.C.seq ?_
    refine E.C.region ?_
    refine E.G.op (.string s) (fun w => by kernel_rfl) (by kernel_rfl) ?_
    refine E.G.val (.int .u8 (W.byt s.data.toList 0)) (by kernel_rfl) (fun w h => E.sidx s .i64 0 (by kernel_rfl) (by kernel_rfl) (by kernel_rfl) (by first | (have hp := E.size_pos (by assumption); (try simp only [beq_iff_eq, bne_iff_ne, ne_eq, Bool.or_eq_true, Bool.and_eq_true, beq_eq_false_iff_ne, decide_eq_true_eq, decide_eq_false_iff_not, Bool.or_eq_false_iff, Bool.not_eq_true, gt_iff_lt] at *); omega) | ((try simp only [beq_iff_eq, bne_iff_ne, ne_eq, Bool.or_eq_true, Bool.and_eq_true, beq_eq_false_iff_ne, decide_eq_true_eq, decide_eq_false_iff_not, Bool.or_eq_false_iff, Bool.not_eq_true, gt_iff_lt] at *); omega)) (by first | (have hp := E.size_pos (by assumption); (try simp only [beq_iff_eq, bne_iff_ne, ne_eq, Bool.or_eq_true, Bool.and_eq_true, beq_eq_false_iff_ne, decide_eq_true_eq, decide_eq_false_iff_not, Bool.or_eq_false_iff, Bool.not_eq_true, gt_iff_lt] at *); omega) | ((try simp only [beq_iff_eq, bne_iff_ne, ne_eq, Bool.or_eq_true, Bool.and_eq_true, beq_eq_false_iff_ne, decide_eq_true_eq, decide_eq_false_iff_not, Bool.or_eq_false_iff, Bool.not_eq_true, gt_iff_lt] at *); omega)) w) ?_
    refine E.G.op (.int .i64 (IntKind.wrap .i64 (W.byt s.data.toList 0))) (fun w => by kernel_rfl) (by kernel_rfl) ?_
    refine E.G.callX (I := FuncId × Array Value × FuncId × Array Value) (fun _ => True) (fun i => .tuple #[.agg #[.int .i64 (K.lo k), .int .i64 (K.hi k), .int .i64 (K.len k), .func (.func i.1) #[] i.2.1, .func (.func i.2.2.1) #[] i.2.2.2], .bool true]) (fun i => fun w => (fun _ => True) w ∧ K.Fm k (.func (.func i.1) #[] i.2.1) (.func (.func i.2.2.1) #[] i.2.2.2) w) (fun _ => [(g1, [.int .i64 0, .int .i64 0, .int .i64 0, .int .i64 0, .int .i64 0, .int .u32 0, .int .i64 0])]) (fun w h => find_hp hk (by unfold K.intB; simp) w h) (fun w _ => by kernel_rfl) (by kernel_rfl) (fun i _ => ?_)
    obtain ⟨Fq3, csq3, Gq3, dsq3⟩ := i
    refine E.G.op (.tuple #[.agg #[.int .i64 (K.lo k), .int .i64 (K.hi k), .int .i64 (K.len k), .func (.func Fq3) #[] csq3, .func (.func Gq3) #[] dsq3], .bool true]) (fun w => by kernel_rfl) (by kernel_rfl) ?_
    refine E.G.op (.agg #[.int .i64 (K.lo k), .int .i64 (K.hi k), .int .i64 (K.len k), .func (.func Fq3) #[] csq3, .func (.func Gq3) #[] dsq3]) (fun w => by kernel_rfl) (by kernel_rfl) ?_
    refine E.G.op (.bool true) (fun w => by kernel_rfl) (by kernel_rfl) ?_
    refine E.G.new (fun g => .pointer (some ⟨g, 0, none⟩)) [.int .i64 0, .int .i64 0, .int .i64 0, .nilFunc, .nilFunc] 66 (fun w => by kernel_rfl) (by kernel_rfl) (fun g4 => ?_)
    refine E.G.store 0 [.int .i64 (K.lo k), .int .i64 (K.hi k), .int .i64 (K.len k), .func (.func Fq3) #[] csq3, .func (.func Gq3) #[] dsq3] rfl rfl (by kernel_rfl) (by kernel_rfl) ?_
    refine E.G.op (.bool true) (fun w => by kernel_rfl) (by kernel_rfl) ?_
    refine E.To.code ?_
    refine E.C.weak [(0, .string s), (2, .pointer (some ⟨g1, 0, none⟩)), (3, .int .i64 0), (4, .pointer (some ⟨g4, 0, none⟩)), (5, .bool true)] [(g4, [.int .i64 (K.lo k), .int .i64 (K.hi k), .int .i64 (K.len k), .func (.func Fq3) #[] csq3, .func (.func Gq3) #[] dsq3]), (g1, [.int .i64 0, .int .i64 0, .int .i64 0, .int .i64 0, .int .i64 0, .int .u32 0, .int .i64 0])] ⟨by kernel_rfl, by kernel_rfl⟩ (List.Sublist.refl _) ?_
    refine E.C.seq ?_
    refine E.C.seq ?_
    refine E.C.region ?_
    refine E.G.op (.bool true) (fun w => by kernel_rfl) (by kernel_rfl) ?_
    refine E.G.op (.bool false) (fun w => by kernel_rfl) (by kernel_rfl) ?_
    refine E.To.code ?_
    refine E.C.condF (by kernel_rfl) (by kernel_rfl) ?_
    refine E.C.skip (E.To.code ?_)
    refine E.C.seq ?_
    refine E.C.seq ?_
    refine E.C.region ?_
    refine E.G.op (.string s) (fun w => by kernel_rfl) (by kernel_rfl) ?_
    refine E.G.op (.int .i64 ((s.size : Nat) : Int)) (fun w => by kernel_rfl) (by kernel_rfl) ?_
    refine E.G.op (.pointer (some ⟨g4, 2, none⟩)) (fun w => by kernel_rfl) (by kernel_rfl) ?_
    refine E.G.val (.int .i64 (K.len k)) (by kernel_rfl) (fun w h => E.run_load h 0 rfl rfl (by kernel_rfl)) ?_
    refine E.G.op (.bool (decide (((s.size : Nat) : Int) < (K.len k)))) (fun w => by kernel_rfl) (by kernel_rfl) ?_
    refine E.To.code ?_
    refine E.C.cond (decide (((s.size : Nat) : Int) < (K.len k))) (by kernel_rfl) (by kernel_rfl) (fun hc5 => ?_) (fun hc5 => ?_)
    · skip
      refine E.C.seq ?_
      refine E.C.region ?_
      refine E.G.val (.agg #[.int .i64 0, .int .i64 0, .int .i64 0, .int .i64 0, .int .i64 0, .int .u32 0, .int .i64 0]) (by kernel_rfl) (fun w h => E.run_build #[.int .i64 0, .int .i64 0, .int .i64 0, .int .i64 0, .int .i64 0, .int .u32 0, .int .i64 0] (by kernel_rfl) w) ?_
      refine E.G.store 1 [.int .i64 0, .int .i64 0, .int .i64 0, .int .i64 0, .int .i64 0, .int .u32 0, .int .i64 0] rfl rfl (by kernel_rfl) (by kernel_rfl) ?_
      refine E.G.op (.int .i64 10) (fun w => by kernel_rfl) (by kernel_rfl) ?_
      refine E.To.code ?_
      refine E.C.weak [(0, .string s), (2, .pointer (some ⟨g1, 0, none⟩)), (3, .int .i64 10), (4, .pointer (some ⟨g4, 0, none⟩))] [(g4, [.int .i64 (K.lo k), .int .i64 (K.hi k), .int .i64 (K.len k), .func (.func Fq3) #[] csq3, .func (.func Gq3) #[] dsq3]), (g1, [.int .i64 0, .int .i64 0, .int .i64 0, .int .i64 0, .int .i64 0, .int .u32 0, .int .i64 0])] ⟨by kernel_rfl, by kernel_rfl⟩ (List.Sublist.refl _) ?_
      refine E.C.ret (E.P.rt (E.To.body (fn := Try.f14) [.agg #[.int .i64 0, .int .i64 0, .int .i64 0, .int .i64 0, .int .i64 0, .int .u32 0, .int .i64 0], .int .i64 10] ?_ ?_))
      · exact ⟨⟨by kernel_rfl, _, _, 1, _, rfl, rfl, by kernel_rfl⟩, ⟨by kernel_rfl, by kernel_rfl⟩, trivial⟩
      · intro w h
        exact ⟨by show Ending.returned (.tuple #[.agg #[.int .i64 0, .int .i64 0, .int .i64 0, .int .i64 0, .int .i64 0, .int .u32 0, .int .i64 0], .int .i64 10]) = _; unfold K.decode1; rw [hc2, cond_false, hc5, cond_true], h.ch.bel (fun _ h => h.elim)⟩
    · skip
      refine E.C.skip (E.To.code ?_)
      refine E.C.weak [(0, .string s), (2, .pointer (some ⟨g1, 0, none⟩)), (3, .int .i64 0), (4, .pointer (some ⟨g4, 0, none⟩))] [(g4, [.int .i64 (K.lo k), .int .i64 (K.hi k), .int .i64 (K.len k), .func (.func Fq3) #[] csq3, .func (.func Gq3) #[] dsq3]), (g1, [.int .i64 0, .int .i64 0, .int .i64 0, .int .i64 0, .int .i64 0, .int .u32 0, .int .i64 0])] ⟨by kernel_rfl, by kernel_rfl⟩ (List.Sublist.refl _) ?_
      refine E.C.seq ?_
      refine E.C.held (E.Hp (fun _ => False) w (fun w => (fun _ => True) w ∧ K.Fm k (.func (.func Fq3) #[] csq3) (.func (.func Gq3) #[] dsq3) w) [(g4, [.int .i64 (K.lo k), .int .i64 (K.hi k), .int .i64 (K.len k), .func (.func Fq3) #[] csq3, .func (.func Gq3) #[] dsq3]), (g1, [.int .i64 0, .int .i64 0, .int .i64 0, .int .i64 0, .int .i64 0, .int .u32 0, .int .i64 0])]) (by kernel_rfl) ?_
      refine E.H.take 0 (.agg #[.int .i64 (K.lo k), .int .i64 (K.hi k), .int .i64 (K.len k), .func (.func Fq3) #[] csq3, .func (.func Gq3) #[] dsq3]) rfl (by kernel_rfl) (by kernel_rfl) (by kernel_rfl) (fun _ _ _ h => h) (fun w h => h) (.inl ⟨by kernel_rfl, by kernel_rfl, fun w h => E.run_load h 0 rfl rfl (by kernel_rfl)⟩) (by kernel_rfl) ?_
      refine E.H.take 1 (.string s) rfl (by kernel_rfl) (by kernel_rfl) (by kernel_rfl) (fun _ _ _ h => h) (fun w h => h) (.inl ⟨by kernel_rfl, by kernel_rfl, fun w h => by kernel_rfl⟩) (by kernel_rfl) ?_
      refine E.H.take 2 (.pointer (some ⟨g4, 2, none⟩)) rfl (by kernel_rfl) (by kernel_rfl) (by kernel_rfl) (fun _ _ _ h => h) (fun w h => h) (.inl ⟨by kernel_rfl, by kernel_rfl, fun w h => by kernel_rfl⟩) (by kernel_rfl) ?_
      refine E.H.take 3 (.int .i64 (K.len k)) rfl (by kernel_rfl) (by kernel_rfl) (by kernel_rfl) (fun _ _ _ h => h) (fun w h => h) (.inl ⟨by kernel_rfl, by kernel_rfl, fun w h => E.run_load h 0 rfl rfl (by kernel_rfl)⟩) (by kernel_rfl) ?_
      refine E.H.take 4 (.string (s.extract 0 ((K.len k)).toNat)) rfl (by kernel_rfl) (by kernel_rfl) (by kernel_rfl) (fun _ _ _ h => h) (fun w h => h) (.inl ⟨by kernel_rfl, by kernel_rfl, fun w h => E.slTo s .i64 (K.len k) (by kernel_rfl) (by kernel_rfl) (by kernel_rfl) (by first | (have hp := E.size_pos (by assumption); (try simp only [beq_iff_eq, bne_iff_ne, ne_eq, Bool.or_eq_true, Bool.and_eq_true, beq_eq_false_iff_ne, decide_eq_true_eq, decide_eq_false_iff_not, Bool.or_eq_false_iff, Bool.not_eq_true, gt_iff_lt] at *); omega) | ((try simp only [beq_iff_eq, bne_iff_ne, ne_eq, Bool.or_eq_true, Bool.and_eq_true, beq_eq_false_iff_ne, decide_eq_true_eq, decide_eq_false_iff_not, Bool.or_eq_false_iff, Bool.not_eq_true, gt_iff_lt] at *); omega)) (by first | (have hp := E.size_pos (by assumption); (try simp only [beq_iff_eq, bne_iff_ne, ne_eq, Bool.or_eq_true, Bool.and_eq_true, beq_eq_false_iff_ne, decide_eq_true_eq, decide_eq_false_iff_not, Bool.or_eq_false_iff, Bool.not_eq_true, gt_iff_lt] at *); omega) | ((try simp only [beq_iff_eq, bne_iff_ne, ne_eq, Bool.or_eq_true, Bool.and_eq_true, beq_eq_false_iff_ne, decide_eq_true_eq, decide_eq_false_iff_not, Bool.or_eq_false_iff, Bool.not_eq_true, gt_iff_lt] at *); omega)) w⟩) (by kernel_rfl) ?_
      refine E.H.all [5, 6] (by kernel_rfl) (by simp) (List.forall_mem_cons.2 ⟨⟨_, rfl, ?_⟩, List.forall_mem_cons.2 ⟨⟨_, rfl, ?_⟩, fun _ h => (List.not_mem_nil h).elim⟩⟩)
      · skip
        refine E.G.call (.agg #[.int .i64 (((K.rd k ((s.extract 0 ((K.len k)).toNat)).data.toList (K.len k))).op), .int .i64 (((K.rd k ((s.extract 0 ((K.len k)).toNat)).data.toList (K.len k))).d), .int .i64 (((K.rd k ((s.extract 0 ((K.len k)).toNat)).data.toList (K.len k))).s), .int .i64 (((K.rd k ((s.extract 0 ((K.len k)).toNat)).data.toList (K.len k))).ix), .int .i64 (((K.rd k ((s.extract 0 ((K.len k)).toNat)).data.toList (K.len k))).sc), .int .u32 (((K.rd k ((s.extract 0 ((K.len k)).toNat)).data.toList (K.len k))).imm), .int .i64 (((K.rd k ((s.extract 0 ((K.len k)).toNat)).data.toList (K.len k))).sz)]) (fun w h => read_any k (K.fmt_lt hk) _ _ w h.x.2 (s.extract 0 ((K.len k)).toNat) (by rw [ByteArray.size_extract]; unfold maxLen at *; first | (have hp := E.size_pos (by assumption); (try simp only [beq_iff_eq, bne_iff_ne, ne_eq, Bool.or_eq_true, Bool.and_eq_true, beq_eq_false_iff_ne, decide_eq_true_eq, decide_eq_false_iff_not, Bool.or_eq_false_iff, Bool.not_eq_true, gt_iff_lt] at *); omega) | ((try simp only [beq_iff_eq, bne_iff_ne, ne_eq, Bool.or_eq_true, Bool.and_eq_true, beq_eq_false_iff_ne, decide_eq_true_eq, decide_eq_false_iff_not, Bool.or_eq_false_iff, Bool.not_eq_true, gt_iff_lt] at *); omega)) (by rw [ByteArray.size_extract]; first | (have hp := E.size_pos (by assumption); (try simp only [beq_iff_eq, bne_iff_ne, ne_eq, Bool.or_eq_true, Bool.and_eq_true, beq_eq_false_iff_ne, decide_eq_true_eq, decide_eq_false_iff_not, Bool.or_eq_false_iff, Bool.not_eq_true, gt_iff_lt] at *); omega) | ((try simp only [beq_iff_eq, bne_iff_ne, ne_eq, Bool.or_eq_true, Bool.and_eq_true, beq_eq_false_iff_ne, decide_eq_true_eq, decide_eq_false_iff_not, Bool.or_eq_false_iff, Bool.not_eq_true, gt_iff_lt] at *); omega))) (fun w _ => by kernel_rfl) (by kernel_rfl) ?_
        refine E.H.back (fun w h => h) ?_
        refine E.H.all [6] (by kernel_rfl) (by simp) (List.forall_mem_cons.2 ⟨⟨_, rfl, ?_⟩, fun _ h => (List.not_mem_nil h).elim⟩)
        · skip
          refine E.G.new (fun g => .pointer (some ⟨g, 0, none⟩)) [.int .i64 0, .int .i64 0, .int .i64 0, .int .i64 0, .int .i64 0, .int .u32 0, .int .i64 0] 27 (fun w => by kernel_rfl) (by kernel_rfl) (fun g6 => ?_)
          refine E.H.back (fun w h => h.less (List.Sublist.cons _ (List.Sublist.refl _))) ?_
          refine E.H.all [7] (by kernel_rfl) (by simp) (List.forall_mem_cons.2 ⟨⟨_, rfl, ?_⟩, fun _ h => (List.not_mem_nil h).elim⟩)
          · skip
            refine E.G.store 0 [.int .i64 (((K.rd k ((s.extract 0 ((K.len k)).toNat)).data.toList (K.len k))).op), .int .i64 (((K.rd k ((s.extract 0 ((K.len k)).toNat)).data.toList (K.len k))).d), .int .i64 (((K.rd k ((s.extract 0 ((K.len k)).toNat)).data.toList (K.len k))).s), .int .i64 (((K.rd k ((s.extract 0 ((K.len k)).toNat)).data.toList (K.len k))).ix), .int .i64 (((K.rd k ((s.extract 0 ((K.len k)).toNat)).data.toList (K.len k))).sc), .int .u32 (((K.rd k ((s.extract 0 ((K.len k)).toNat)).data.toList (K.len k))).imm), .int .i64 (((K.rd k ((s.extract 0 ((K.len k)).toNat)).data.toList (K.len k))).sz)] rfl rfl (by kernel_rfl) (by kernel_rfl) ?_
            refine E.H.back (fun w h => h.less (List.Sublist.cons _ (List.Sublist.refl _))) ?_
            refine E.H.done (by kernel_rfl) ?_
            refine E.To.code ?_
            refine E.C.weak [(2, .pointer (some ⟨g1, 0, none⟩)), (3, .int .i64 0), (6, .pointer (some ⟨g6, 0, none⟩))] [(g6, [.int .i64 (((K.rd k ((s.extract 0 ((K.len k)).toNat)).data.toList (K.len k))).op), .int .i64 (((K.rd k ((s.extract 0 ((K.len k)).toNat)).data.toList (K.len k))).d), .int .i64 (((K.rd k ((s.extract 0 ((K.len k)).toNat)).data.toList (K.len k))).s), .int .i64 (((K.rd k ((s.extract 0 ((K.len k)).toNat)).data.toList (K.len k))).ix), .int .i64 (((K.rd k ((s.extract 0 ((K.len k)).toNat)).data.toList (K.len k))).sc), .int .u32 (((K.rd k ((s.extract 0 ((K.len k)).toNat)).data.toList (K.len k))).imm), .int .i64 (((K.rd k ((s.extract 0 ((K.len k)).toNat)).data.toList (K.len k))).sz)]), (g1, [.int .i64 0, .int .i64 0, .int .i64 0, .int .i64 0, .int .i64 0, .int .u32 0, .int .i64 0])] ⟨by kernel_rfl, by kernel_rfl⟩ (List.Sublist.cons_cons _ (List.Sublist.cons _ (List.Sublist.refl _))) ?_
            refine E.C.seq ?_
            refine E.C.seq ?_
            refine E.C.region ?_
            refine E.G.val (.agg #[.int .i64 (((K.rd k ((s.extract 0 ((K.len k)).toNat)).data.toList (K.len k))).op), .int .i64 (((K.rd k ((s.extract 0 ((K.len k)).toNat)).data.toList (K.len k))).d), .int .i64 (((K.rd k ((s.extract 0 ((K.len k)).toNat)).data.toList (K.len k))).s), .int .i64 (((K.rd k ((s.extract 0 ((K.len k)).toNat)).data.toList (K.len k))).ix), .int .i64 (((K.rd k ((s.extract 0 ((K.len k)).toNat)).data.toList (K.len k))).sc), .int .u32 (((K.rd k ((s.extract 0 ((K.len k)).toNat)).data.toList (K.len k))).imm), .int .i64 (((K.rd k ((s.extract 0 ((K.len k)).toNat)).data.toList (K.len k))).sz)]) (by kernel_rfl) (fun w h => E.run_load h 0 rfl rfl (by kernel_rfl)) ?_
            refine E.G.call (.bool (K.valid ((K.rd k ((s.extract 0 ((K.len k)).toNat)).data.toList (K.len k))))) (fun w h => Valid_any ((K.rd k ((s.extract 0 ((K.len k)).toNat)).data.toList (K.len k))) (K.rd_imm k (K.fmt_lt hk) _ _) w) (fun w _ => by kernel_rfl) (by kernel_rfl) ?_
            refine E.G.op (.bool (!(K.valid ((K.rd k ((s.extract 0 ((K.len k)).toNat)).data.toList (K.len k)))))) (fun w => by kernel_rfl) (by kernel_rfl) ?_
            refine E.To.code ?_
            refine E.C.cond (!(K.valid ((K.rd k ((s.extract 0 ((K.len k)).toNat)).data.toList (K.len k))))) (by kernel_rfl) (by kernel_rfl) (fun hc7 => ?_) (fun hc7 => ?_)
            · skip
              refine E.C.seq ?_
              refine E.C.region ?_
              refine E.G.val (.agg #[.int .i64 0, .int .i64 0, .int .i64 0, .int .i64 0, .int .i64 0, .int .u32 0, .int .i64 0]) (by kernel_rfl) (fun w h => E.run_build #[.int .i64 0, .int .i64 0, .int .i64 0, .int .i64 0, .int .i64 0, .int .u32 0, .int .i64 0] (by kernel_rfl) w) ?_
              refine E.G.store 1 [.int .i64 0, .int .i64 0, .int .i64 0, .int .i64 0, .int .i64 0, .int .u32 0, .int .i64 0] rfl rfl (by kernel_rfl) (by kernel_rfl) ?_
              refine E.G.op (.int .i64 12) (fun w => by kernel_rfl) (by kernel_rfl) ?_
              refine E.To.code ?_
              refine E.C.ret (E.P.rt (E.To.body (fn := Try.f14) [.agg #[.int .i64 0, .int .i64 0, .int .i64 0, .int .i64 0, .int .i64 0, .int .u32 0, .int .i64 0], .int .i64 12] ?_ ?_))
              · exact ⟨⟨by kernel_rfl, _, _, 1, _, rfl, rfl, by kernel_rfl⟩, ⟨by kernel_rfl, by kernel_rfl⟩, trivial⟩
              · intro w h
                exact ⟨by show Ending.returned (.tuple #[.agg #[.int .i64 0, .int .i64 0, .int .i64 0, .int .i64 0, .int .i64 0, .int .u32 0, .int .i64 0], .int .i64 12]) = _; unfold K.decode1; rw [hc2, cond_false, hc5, cond_false, hc7, cond_true], h.ch.bel (fun _ h => h.elim)⟩
            · skip
              refine E.C.skip (E.To.code ?_)
              refine E.C.seq ?_
              refine E.C.region ?_
              refine E.G.val (.agg #[.int .i64 (((K.rd k ((s.extract 0 ((K.len k)).toNat)).data.toList (K.len k))).op), .int .i64 (((K.rd k ((s.extract 0 ((K.len k)).toNat)).data.toList (K.len k))).d), .int .i64 (((K.rd k ((s.extract 0 ((K.len k)).toNat)).data.toList (K.len k))).s), .int .i64 (((K.rd k ((s.extract 0 ((K.len k)).toNat)).data.toList (K.len k))).ix), .int .i64 (((K.rd k ((s.extract 0 ((K.len k)).toNat)).data.toList (K.len k))).sc), .int .u32 (((K.rd k ((s.extract 0 ((K.len k)).toNat)).data.toList (K.len k))).imm), .int .i64 (((K.rd k ((s.extract 0 ((K.len k)).toNat)).data.toList (K.len k))).sz)]) (by kernel_rfl) (fun w h => E.run_load h 0 rfl rfl (by kernel_rfl)) ?_
              refine E.G.store 1 [.int .i64 (((K.rd k ((s.extract 0 ((K.len k)).toNat)).data.toList (K.len k))).op), .int .i64 (((K.rd k ((s.extract 0 ((K.len k)).toNat)).data.toList (K.len k))).d), .int .i64 (((K.rd k ((s.extract 0 ((K.len k)).toNat)).data.toList (K.len k))).s), .int .i64 (((K.rd k ((s.extract 0 ((K.len k)).toNat)).data.toList (K.len k))).ix), .int .i64 (((K.rd k ((s.extract 0 ((K.len k)).toNat)).data.toList (K.len k))).sc), .int .u32 (((K.rd k ((s.extract 0 ((K.len k)).toNat)).data.toList (K.len k))).imm), .int .i64 (((K.rd k ((s.extract 0 ((K.len k)).toNat)).data.toList (K.len k))).sz)] rfl rfl (by kernel_rfl) (by kernel_rfl) ?_
              refine E.G.op (.int .i64 0) (fun w => by kernel_rfl) (by kernel_rfl) ?_
              refine E.To.code ?_
              refine E.C.ret (E.To.body (fn := Try.f14) [.agg #[.int .i64 (((K.rd k ((s.extract 0 ((K.len k)).toNat)).data.toList (K.len k))).op), .int .i64 (((K.rd k ((s.extract 0 ((K.len k)).toNat)).data.toList (K.len k))).d), .int .i64 (((K.rd k ((s.extract 0 ((K.len k)).toNat)).data.toList (K.len k))).s), .int .i64 (((K.rd k ((s.extract 0 ((K.len k)).toNat)).data.toList (K.len k))).ix), .int .i64 (((K.rd k ((s.extract 0 ((K.len k)).toNat)).data.toList (K.len k))).sc), .int .u32 (((K.rd k ((s.extract 0 ((K.len k)).toNat)).data.toList (K.len k))).imm), .int .i64 (((K.rd k ((s.extract 0 ((K.len k)).toNat)).data.toList (K.len k))).sz)], .int .i64 0] ?_ ?_)
              · exact ⟨⟨by kernel_rfl, _, _, 1, _, rfl, rfl, by kernel_rfl⟩, ⟨by kernel_rfl, by kernel_rfl⟩, trivial⟩
              · intro w h
                exact ⟨by show Ending.returned (.tuple #[.agg #[.int .i64 (((K.rd k ((s.extract 0 ((K.len k)).toNat)).data.toList (K.len k))).op), .int .i64 (((K.rd k ((s.extract 0 ((K.len k)).toNat)).data.toList (K.len k))).d), .int .i64 (((K.rd k ((s.extract 0 ((K.len k)).toNat)).data.toList (K.len k))).s), .int .i64 (((K.rd k ((s.extract 0 ((K.len k)).toNat)).data.toList (K.len k))).ix), .int .i64 (((K.rd k ((s.extract 0 ((K.len k)).toNat)).data.toList (K.len k))).sc), .int .u32 (((K.rd k ((s.extract 0 ((K.len k)).toNat)).data.toList (K.len k))).imm), .int .i64 (((K.rd k ((s.extract 0 ((K.len k)).toNat)).data.toList (K.len k))).sz)], .int .i64 0]) = _; unfold K.decode1; rw [hc2, cond_false, hc5, cond_false, hc7, cond_false], h.ch.bel (fun _ h => h.elim)⟩
      · skip
        refine E.G.new (fun g => .pointer (some ⟨g, 0, none⟩)) [.int .i64 0, .int .i64 0, .int .i64 0, .int .i64 0, .int .i64 0, .int .u32 0, .int .i64 0] 27 (fun w => by kernel_rfl) (by kernel_rfl) (fun g8 => ?_)
        refine E.H.back (fun w h => h.less (List.Sublist.cons _ (List.Sublist.refl _))) ?_
        refine E.H.all [5] (by kernel_rfl) (by simp) (List.forall_mem_cons.2 ⟨⟨_, rfl, ?_⟩, fun _ h => (List.not_mem_nil h).elim⟩)
        · skip
          refine E.G.call (.agg #[.int .i64 (((K.rd k ((s.extract 0 ((K.len k)).toNat)).data.toList (K.len k))).op), .int .i64 (((K.rd k ((s.extract 0 ((K.len k)).toNat)).data.toList (K.len k))).d), .int .i64 (((K.rd k ((s.extract 0 ((K.len k)).toNat)).data.toList (K.len k))).s), .int .i64 (((K.rd k ((s.extract 0 ((K.len k)).toNat)).data.toList (K.len k))).ix), .int .i64 (((K.rd k ((s.extract 0 ((K.len k)).toNat)).data.toList (K.len k))).sc), .int .u32 (((K.rd k ((s.extract 0 ((K.len k)).toNat)).data.toList (K.len k))).imm), .int .i64 (((K.rd k ((s.extract 0 ((K.len k)).toNat)).data.toList (K.len k))).sz)]) (fun w h => read_any k (K.fmt_lt hk) _ _ w h.x.2 (s.extract 0 ((K.len k)).toNat) (by rw [ByteArray.size_extract]; unfold maxLen at *; first | (have hp := E.size_pos (by assumption); (try simp only [beq_iff_eq, bne_iff_ne, ne_eq, Bool.or_eq_true, Bool.and_eq_true, beq_eq_false_iff_ne, decide_eq_true_eq, decide_eq_false_iff_not, Bool.or_eq_false_iff, Bool.not_eq_true, gt_iff_lt] at *); omega) | ((try simp only [beq_iff_eq, bne_iff_ne, ne_eq, Bool.or_eq_true, Bool.and_eq_true, beq_eq_false_iff_ne, decide_eq_true_eq, decide_eq_false_iff_not, Bool.or_eq_false_iff, Bool.not_eq_true, gt_iff_lt] at *); omega)) (by rw [ByteArray.size_extract]; first | (have hp := E.size_pos (by assumption); (try simp only [beq_iff_eq, bne_iff_ne, ne_eq, Bool.or_eq_true, Bool.and_eq_true, beq_eq_false_iff_ne, decide_eq_true_eq, decide_eq_false_iff_not, Bool.or_eq_false_iff, Bool.not_eq_true, gt_iff_lt] at *); omega) | ((try simp only [beq_iff_eq, bne_iff_ne, ne_eq, Bool.or_eq_true, Bool.and_eq_true, beq_eq_false_iff_ne, decide_eq_true_eq, decide_eq_false_iff_not, Bool.or_eq_false_iff, Bool.not_eq_true, gt_iff_lt] at *); omega))) (fun w _ => by kernel_rfl) (by kernel_rfl) ?_
          refine E.H.back (fun w h => h.less (List.Sublist.cons _ (List.Sublist.refl _))) ?_
          refine E.H.all [7] (by kernel_rfl) (by simp) (List.forall_mem_cons.2 ⟨⟨_, rfl, ?_⟩, fun _ h => (List.not_mem_nil h).elim⟩)
          · skip
            refine E.G.store 0 [.int .i64 (((K.rd k ((s.extract 0 ((K.len k)).toNat)).data.toList (K.len k))).op), .int .i64 (((K.rd k ((s.extract 0 ((K.len k)).toNat)).data.toList (K.len k))).d), .int .i64 (((K.rd k ((s.extract 0 ((K.len k)).toNat)).data.toList (K.len k))).s), .int .i64 (((K.rd k ((s.extract 0 ((K.len k)).toNat)).data.toList (K.len k))).ix), .int .i64 (((K.rd k ((s.extract 0 ((K.len k)).toNat)).data.toList (K.len k))).sc), .int .u32 (((K.rd k ((s.extract 0 ((K.len k)).toNat)).data.toList (K.len k))).imm), .int .i64 (((K.rd k ((s.extract 0 ((K.len k)).toNat)).data.toList (K.len k))).sz)] rfl rfl (by kernel_rfl) (by kernel_rfl) ?_
            refine E.H.back (fun w h => h.less (List.Sublist.cons _ (List.Sublist.refl _))) ?_
            refine E.H.done (by kernel_rfl) ?_
            refine E.To.code ?_
            refine E.C.weak [(2, .pointer (some ⟨g1, 0, none⟩)), (3, .int .i64 0), (6, .pointer (some ⟨g8, 0, none⟩))] [(g8, [.int .i64 (((K.rd k ((s.extract 0 ((K.len k)).toNat)).data.toList (K.len k))).op), .int .i64 (((K.rd k ((s.extract 0 ((K.len k)).toNat)).data.toList (K.len k))).d), .int .i64 (((K.rd k ((s.extract 0 ((K.len k)).toNat)).data.toList (K.len k))).s), .int .i64 (((K.rd k ((s.extract 0 ((K.len k)).toNat)).data.toList (K.len k))).ix), .int .i64 (((K.rd k ((s.extract 0 ((K.len k)).toNat)).data.toList (K.len k))).sc), .int .u32 (((K.rd k ((s.extract 0 ((K.len k)).toNat)).data.toList (K.len k))).imm), .int .i64 (((K.rd k ((s.extract 0 ((K.len k)).toNat)).data.toList (K.len k))).sz)]), (g1, [.int .i64 0, .int .i64 0, .int .i64 0, .int .i64 0, .int .i64 0, .int .u32 0, .int .i64 0])] ⟨by kernel_rfl, by kernel_rfl⟩ (List.Sublist.cons_cons _ (List.Sublist.cons _ (List.Sublist.refl _))) ?_
            refine E.C.seq ?_
            refine E.C.seq ?_
            refine E.C.region ?_
            refine E.G.val (.agg #[.int .i64 (((K.rd k ((s.extract 0 ((K.len k)).toNat)).data.toList (K.len k))).op), .int .i64 (((K.rd k ((s.extract 0 ((K.len k)).toNat)).data.toList (K.len k))).d), .int .i64 (((K.rd k ((s.extract 0 ((K.len k)).toNat)).data.toList (K.len k))).s), .int .i64 (((K.rd k ((s.extract 0 ((K.len k)).toNat)).data.toList (K.len k))).ix), .int .i64 (((K.rd k ((s.extract 0 ((K.len k)).toNat)).data.toList (K.len k))).sc), .int .u32 (((K.rd k ((s.extract 0 ((K.len k)).toNat)).data.toList (K.len k))).imm), .int .i64 (((K.rd k ((s.extract 0 ((K.len k)).toNat)).data.toList (K.len k))).sz)]) (by kernel_rfl) (fun w h => E.run_load h 0 rfl rfl (by kernel_rfl)) ?_
            refine E.G.call (.bool (K.valid ((K.rd k ((s.extract 0 ((K.len k)).toNat)).data.toList (K.len k))))) (fun w h => Valid_any ((K.rd k ((s.extract 0 ((K.len k)).toNat)).data.toList (K.len k))) (K.rd_imm k (K.fmt_lt hk) _ _) w) (fun w _ => by kernel_rfl) (by kernel_rfl) ?_
            refine E.G.op (.bool (!(K.valid ((K.rd k ((s.extract 0 ((K.len k)).toNat)).data.toList (K.len k)))))) (fun w => by kernel_rfl) (by kernel_rfl) ?_
            refine E.To.code ?_
            refine E.C.cond (!(K.valid ((K.rd k ((s.extract 0 ((K.len k)).toNat)).data.toList (K.len k))))) (by kernel_rfl) (by kernel_rfl) (fun hc9 => ?_) (fun hc9 => ?_)
            · skip
              refine E.C.seq ?_
              refine E.C.region ?_
              refine E.G.val (.agg #[.int .i64 0, .int .i64 0, .int .i64 0, .int .i64 0, .int .i64 0, .int .u32 0, .int .i64 0]) (by kernel_rfl) (fun w h => E.run_build #[.int .i64 0, .int .i64 0, .int .i64 0, .int .i64 0, .int .i64 0, .int .u32 0, .int .i64 0] (by kernel_rfl) w) ?_
              refine E.G.store 1 [.int .i64 0, .int .i64 0, .int .i64 0, .int .i64 0, .int .i64 0, .int .u32 0, .int .i64 0] rfl rfl (by kernel_rfl) (by kernel_rfl) ?_
              refine E.G.op (.int .i64 12) (fun w => by kernel_rfl) (by kernel_rfl) ?_
              refine E.To.code ?_
              refine E.C.ret (E.P.rt (E.To.body (fn := Try.f14) [.agg #[.int .i64 0, .int .i64 0, .int .i64 0, .int .i64 0, .int .i64 0, .int .u32 0, .int .i64 0], .int .i64 12] ?_ ?_))
              · exact ⟨⟨by kernel_rfl, _, _, 1, _, rfl, rfl, by kernel_rfl⟩, ⟨by kernel_rfl, by kernel_rfl⟩, trivial⟩
              · intro w h
                exact ⟨by show Ending.returned (.tuple #[.agg #[.int .i64 0, .int .i64 0, .int .i64 0, .int .i64 0, .int .i64 0, .int .u32 0, .int .i64 0], .int .i64 12]) = _; unfold K.decode1; rw [hc2, cond_false, hc5, cond_false, hc9, cond_true], h.ch.bel (fun _ h => h.elim)⟩
            · skip
              refine E.C.skip (E.To.code ?_)
              refine E.C.seq ?_
              refine E.C.region ?_
              refine E.G.val (.agg #[.int .i64 (((K.rd k ((s.extract 0 ((K.len k)).toNat)).data.toList (K.len k))).op), .int .i64 (((K.rd k ((s.extract 0 ((K.len k)).toNat)).data.toList (K.len k))).d), .int .i64 (((K.rd k ((s.extract 0 ((K.len k)).toNat)).data.toList (K.len k))).s), .int .i64 (((K.rd k ((s.extract 0 ((K.len k)).toNat)).data.toList (K.len k))).ix), .int .i64 (((K.rd k ((s.extract 0 ((K.len k)).toNat)).data.toList (K.len k))).sc), .int .u32 (((K.rd k ((s.extract 0 ((K.len k)).toNat)).data.toList (K.len k))).imm), .int .i64 (((K.rd k ((s.extract 0 ((K.len k)).toNat)).data.toList (K.len k))).sz)]) (by kernel_rfl) (fun w h => E.run_load h 0 rfl rfl (by kernel_rfl)) ?_
              refine E.G.store 1 [.int .i64 (((K.rd k ((s.extract 0 ((K.len k)).toNat)).data.toList (K.len k))).op), .int .i64 (((K.rd k ((s.extract 0 ((K.len k)).toNat)).data.toList (K.len k))).d), .int .i64 (((K.rd k ((s.extract 0 ((K.len k)).toNat)).data.toList (K.len k))).s), .int .i64 (((K.rd k ((s.extract 0 ((K.len k)).toNat)).data.toList (K.len k))).ix), .int .i64 (((K.rd k ((s.extract 0 ((K.len k)).toNat)).data.toList (K.len k))).sc), .int .u32 (((K.rd k ((s.extract 0 ((K.len k)).toNat)).data.toList (K.len k))).imm), .int .i64 (((K.rd k ((s.extract 0 ((K.len k)).toNat)).data.toList (K.len k))).sz)] rfl rfl (by kernel_rfl) (by kernel_rfl) ?_
              refine E.G.op (.int .i64 0) (fun w => by kernel_rfl) (by kernel_rfl) ?_
              refine E.To.code ?_
              refine E.C.ret (E.To.body (fn := Try.f14) [.agg #[.int .i64 (((K.rd k ((s.extract 0 ((K.len k)).toNat)).data.toList (K.len k))).op), .int .i64 (((K.rd k ((s.extract 0 ((K.len k)).toNat)).data.toList (K.len k))).d), .int .i64 (((K.rd k ((s.extract 0 ((K.len k)).toNat)).data.toList (K.len k))).s), .int .i64 (((K.rd k ((s.extract 0 ((K.len k)).toNat)).data.toList (K.len k))).ix), .int .i64 (((K.rd k ((s.extract 0 ((K.len k)).toNat)).data.toList (K.len k))).sc), .int .u32 (((K.rd k ((s.extract 0 ((K.len k)).toNat)).data.toList (K.len k))).imm), .int .i64 (((K.rd k ((s.extract 0 ((K.len k)).toNat)).data.toList (K.len k))).sz)], .int .i64 0] ?_ ?_)
              · exact ⟨⟨by kernel_rfl, _, _, 1, _, rfl, rfl, by kernel_rfl⟩, ⟨by kernel_rfl, by kernel_rfl⟩, trivial⟩
              · intro w h
                exact ⟨by show Ending.returned (.tuple #[.agg #[.int .i64 (((K.rd k ((s.extract 0 ((K.len k)).toNat)).data.toList (K.len k))).op), .int .i64 (((K.rd k ((s.extract 0 ((K.len k)).toNat)).data.toList (K.len k))).d), .int .i64 (((K.rd k ((s.extract 0 ((K.len k)).toNat)).data.toList (K.len k))).s), .int .i64 (((K.rd k ((s.extract 0 ((K.len k)).toNat)).data.toList (K.len k))).ix), .int .i64 (((K.rd k ((s.extract 0 ((K.len k)).toNat)).data.toList (K.len k))).sc), .int .u32 (((K.rd k ((s.extract 0 ((K.len k)).toNat)).data.toList (K.len k))).imm), .int .i64 (((K.rd k ((s.extract 0 ((K.len k)).toNat)).data.toList (K.len k))).sz)], .int .i64 0]) = _; unfold K.decode1; rw [hc2, cond_false, hc5, cond_false, hc9, cond_false], h.ch.bel (fun _ h => h.elim)⟩

def K.decode (s : ByteArray) : K.Ins × Int := match K.fmt (IntKind.wrap .i64 (W.byt s.data.toList 0)) with
  | none => K.decode0 s
  | some k => K.decode1 k s
theorem Decode_any (s : ByteArray) (hs : s.size ≤ maxLen) (w : World) : Calls Try.prog 14 #[.string s] w fun e w' => e = .returned (.tuple #[.agg #[.int .i64 (K.decode s).1.op, .int .i64 (K.decode s).1.d, .int .i64 (K.decode s).1.s, .int .i64 (K.decode s).1.ix, .int .i64 (K.decode s).1.sc, .int .u32 (K.decode s).1.imm, .int .i64 (K.decode s).1.sz], .int .i64 (K.decode s).2]) ∧ Bel w w' := by
  unfold K.decode
  cases hk : K.fmt (IntKind.wrap .i64 (W.byt s.data.toList 0)) with
  | none => exact Decode_none s hk w
  | some k => exact Decode_some k s hk hs w
end Go.Proofs.Ytgnekniabedomaa
