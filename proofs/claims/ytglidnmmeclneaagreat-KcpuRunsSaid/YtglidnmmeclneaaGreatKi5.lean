/- Texts of the walk, merged (5): see the remark ahead of each. -/
import Derived.Test.YtglidnmmeclneaaGreatKi4
import Derived.Test.YtglidnmmeclneaaGreatProg
import Derived.ChangeKeysEq
namespace Go.Proofs.YtglidnmmeclneaaGreat
set_option linter.unusedVariables false
set_option linter.unusedSimpArgs false
open Go.RowKit
theorem K.wr_len (k : Nat) (hk : k < 11) (i : K.Ins) : ((K.wr k i).length : Int) + 1 = K.len k := by
  rcases (by omega : k = 0 ∨ k = 1 ∨ k = 2 ∨ k = 3 ∨ k = 4 ∨ k = 5 ∨ k = 6 ∨ k = 7 ∨ k = 8 ∨ k = 9 ∨ k = 10) with rfl | rfl | rfl | rfl | rfl | rfl | rfl | rfl | rfl | rfl | rfl <;> rfl
theorem K.len_bd (k : Nat) (hk : k < 11) : 1 ≤ K.len k ∧ K.len k ≤ 7 := by
  rcases (by omega : k = 0 ∨ k = 1 ∨ k = 2 ∨ k = 3 ∨ k = 4 ∨ k = 5 ∨ k = 6 ∨ k = 7 ∨ k = 8 ∨ k = 9 ∨ k = 10) with rfl | rfl | rfl | rfl | rfl | rfl | rfl | rfl | rfl | rfl | rfl <;> decide
theorem K.vs (k : Nat) (hk : k < 11) (i : K.Ins) : (strOfNums [IntKind.wrap .u8 i.op] ++ strOfNums (K.wr k i)).size ≤ maxLen ∧ K.len k ≤ ((strOfNums [IntKind.wrap .u8 i.op] ++ strOfNums (K.wr k i)).size : Int) := by
  have h1 := K.wr_len k hk i
  have h2 := K.len_bd k hk
  rw [ByteArray.size_append, strOfNums_size, strOfNums_size]
  unfold maxLen
  simp only [List.length_cons, List.length_nil]
  omega
theorem K.in_of {i : K.Ins} {b : Bool} (hm : 0 ≤ i.imm ∧ i.imm < 4294967296) (h : (b || (!(K.rng i))) = false) : K.In i := by
  have hr : K.rng i = true := by cases hq : K.rng i <;> simp_all
  unfold K.rng at hr
  simp only [K.in_one, Bool.and_eq_true, decide_eq_true_eq] at hr
  obtain ⟨⟨a0, a1⟩, ⟨b0, b1⟩, ⟨c0, c1⟩, d0, d1⟩ := hr
  have hmo : K.most i.op ≤ 7 := by unfold K.most; split <;> (try split) <;> omega
  exact ⟨a0, a1, b0, by omega, c0, c1, d0, d1, hm.1, hm.2⟩

def K.valid0 (i : K.Ins) : Bool := false
theorem Valid_none (i : K.Ins) (hk : K.fmt i.op = none) (w : World) : Calls Tryz.prog 108 #[.agg #[.int .i64 i.op, .int .i64 i.d, .int .i64 i.s, .int .i64 i.ix, .int .i64 i.sc, .int .u32 i.imm, .int .i64 i.sz]] w fun e w' => e = .returned (.bool (K.valid0 i)) ∧ Bel w w' := by
 refine E.enter (n := 39) (S := fun _ => False) Tryz.func108 rfl rfl Nz.k (E.Hp.start w) (E.sr (E.nw [E.i i.op, E.i i.d, E.i i.s, E.i i.ix, E.i i.sc, E.u i.imm, E.i i.sz] 66 (fun g1 => E.op (.bool false) (E.tr (E.op (E.pt g1) (E.li (E.i i.op) 0 rfl rfl (E.ca (.tuple #[.agg #[E.i 0, E.i 0, E.i 0, .nilFunc, .nilFunc], .bool false]) (fun w h => find_none hk w) (E.op (.tuple #[.agg #[E.i 0, E.i 0, E.i 0, .nilFunc, .nilFunc], .bool false]) (E.op (.agg #[E.i 0, E.i 0, E.i 0, .nilFunc, .nilFunc]) (E.op (.bool false) (E.nw [E.i 0, E.i 0, E.i 0, .nilFunc, .nilFunc] 174 (fun g2 => ?_))))))))))))
 refine E.st 0 [E.i 0, E.i 0, E.i 0, .nilFunc, .nilFunc] rfl rfl (E.op (.bool false) (E.To.code (E.C.seq (E.sr (E.op (.bool false) (E.op (.bool true) (E.op (.bool true) (E.sk (E.sk (E.sk (E.sk ?_)))))))))))
 refine E.sk (E.op (.bool true) (E.op (.bool true) (E.sk (E.sk (E.sk (E.op (.bool true) (E.To.code (E.wk [(1, E.pt g1), (2, .bool false), (3, E.pt g2), (24, .bool true)] [(g2, [E.i 0, E.i 0, E.i 0, .nilFunc, .nilFunc]), (g1, [E.i i.op, E.i i.d, E.i i.s, E.i i.ix, E.i i.sc, E.u i.imm, E.i i.sz])] Nz.sub (E.C.condT Nz.k Nz.k (E.sr (E.op (.bool false) ?_)))))))))))
 exact E.To.code (E.C.ret (E.P.rt (E.bd Tryz.f108 [.bool false] (fun w h => ⟨rfl, h.ch.bel (fun _ h => h.elim)⟩))))

def K.valid1 (k : Nat) (i : K.Ins) : Bool := (bif ((i.sz != (K.len k)) || (!(K.rng i))) then false else ((((K.rd k (((strOfNums [(IntKind.wrap .u8 i.op)]) ++ (strOfNums (K.wr k i)))).data.toList (K.len k))).op == i.op) && (((K.rd k (((strOfNums [(IntKind.wrap .u8 i.op)]) ++ (strOfNums (K.wr k i)))).data.toList (K.len k))).d == i.d) && (((K.rd k (((strOfNums [(IntKind.wrap .u8 i.op)]) ++ (strOfNums (K.wr k i)))).data.toList (K.len k))).s == i.s) && (((K.rd k (((strOfNums [(IntKind.wrap .u8 i.op)]) ++ (strOfNums (K.wr k i)))).data.toList (K.len k))).ix == i.ix) && (((K.rd k (((strOfNums [(IntKind.wrap .u8 i.op)]) ++ (strOfNums (K.wr k i)))).data.toList (K.len k))).sc == i.sc) && (((K.rd k (((strOfNums [(IntKind.wrap .u8 i.op)]) ++ (strOfNums (K.wr k i)))).data.toList (K.len k))).imm == i.imm) && (((K.rd k (((strOfNums [(IntKind.wrap .u8 i.op)]) ++ (strOfNums (K.wr k i)))).data.toList (K.len k))).sz == i.sz)))
abbrev Zktja (k : Nat) (i : K.Ins) := (((K.rd k (((strOfNums [(IntKind.wrap .u8 i.op)]) ++ (strOfNums (K.wr k i)))).data.toList (K.len k))).op == i.op) && (((K.rd k (((strOfNums [(IntKind.wrap .u8 i.op)]) ++ (strOfNums (K.wr k i)))).data.toList (K.len k))).d == i.d) && (((K.rd k (((strOfNums [(IntKind.wrap .u8 i.op)]) ++ (strOfNums (K.wr k i)))).data.toList (K.len k))).s == i.s) && (((K.rd k (((strOfNums [(IntKind.wrap .u8 i.op)]) ++ (strOfNums (K.wr k i)))).data.toList (K.len k))).ix == i.ix) && (((K.rd k (((strOfNums [(IntKind.wrap .u8 i.op)]) ++ (strOfNums (K.wr k i)))).data.toList (K.len k))).sc == i.sc) && (((K.rd k (((strOfNums [(IntKind.wrap .u8 i.op)]) ++ (strOfNums (K.wr k i)))).data.toList (K.len k))).imm == i.imm) && (((K.rd k (((strOfNums [(IntKind.wrap .u8 i.op)]) ++ (strOfNums (K.wr k i)))).data.toList (K.len k))).sz == i.sz)
abbrev Zktjb (k : Nat) (i : K.Ins) : Value := (.agg #[E.i (((K.rd k (((strOfNums [(IntKind.wrap .u8 i.op)]) ++ (strOfNums (K.wr k i)))).data.toList (K.len k))).op), E.i (((K.rd k (((strOfNums [(IntKind.wrap .u8 i.op)]) ++ (strOfNums (K.wr k i)))).data.toList (K.len k))).d), E.i (((K.rd k (((strOfNums [(IntKind.wrap .u8 i.op)]) ++ (strOfNums (K.wr k i)))).data.toList (K.len k))).s), E.i (((K.rd k (((strOfNums [(IntKind.wrap .u8 i.op)]) ++ (strOfNums (K.wr k i)))).data.toList (K.len k))).ix), E.i (((K.rd k (((strOfNums [(IntKind.wrap .u8 i.op)]) ++ (strOfNums (K.wr k i)))).data.toList (K.len k))).sc), E.u (((K.rd k (((strOfNums [(IntKind.wrap .u8 i.op)]) ++ (strOfNums (K.wr k i)))).data.toList (K.len k))).imm), E.i (((K.rd k (((strOfNums [(IntKind.wrap .u8 i.op)]) ++ (strOfNums (K.wr k i)))).data.toList (K.len k))).sz)])
abbrev Zktjc (i : K.Ins) : Array Value := #[E.i i.op, E.i i.d, E.i i.s, E.i i.ix, E.i i.sc, E.u i.imm, E.i i.sz]
abbrev Zktjd (i : K.Ins) : List Value := [E.i i.op, E.i i.d, E.i i.s, E.i i.ix, E.i i.sc, E.u i.imm, E.i i.sz]
abbrev Zktje (i : K.Ins) (k : Nat) : Value := (.string ((strOfNums [(IntKind.wrap .u8 i.op)]) ++ (strOfNums (K.wr k i))))
set_option maxHeartbeats 1000000 in
theorem Valid_some (k : Nat) (i : K.Ins) (hk : K.fmt i.op = some k) (hm : 0 ≤ i.imm ∧ i.imm < 4294967296) (w : World) : Calls Tryz.prog 108 #[.agg #[.int .i64 i.op, .int .i64 i.d, .int .i64 i.s, .int .i64 i.ix, .int .i64 i.sc, .int .u32 i.imm, .int .i64 i.sz]] w fun e w' => e = .returned (.bool (K.valid1 k i)) ∧ Bel w w' := by
 refine E.enter (n := 39) (S := fun _ => False) Tryz.func108 rfl rfl Nz.k (E.Hp.start w) (E.sr (E.nw (Zktjd i) 66 (fun g1 => E.op (.bool false) (E.tr (E.op (E.pt g1) (E.li (E.i i.op) 0 rfl rfl (E.G.callX (I := FuncId × Array Value × FuncId × Array Value) (fun _ => True) (fun i => .tuple #[.agg #[E.i (K.lo k), E.i (K.hi k), E.i (K.len k), .func (.func i.1) #[] i.2.1, .func (.func i.2.2.1) #[] i.2.2.2], .bool true]) (fun i => fun w => (fun _ => True) w ∧ K.Fm k (.func (.func i.1) #[] i.2.1) (.func (.func i.2.2.1) #[] i.2.2.2) w) (fun _ => [(g1, (Zktjd i))]) (fun w h => find_hp hk (by unfold K.intB; simp [E.i]) w h) (fun w _ => Nz.k) Nz.k (fun i _ => ?_))))))))
 obtain ⟨Fq2, csq2, Gq2, dsq2⟩ := i
 refine E.op (.tuple #[.agg #[E.i (K.lo k), E.i (K.hi k), E.i (K.len k), .func (.func Fq2) #[] csq2, .func (.func Gq2) #[] dsq2], .bool true]) (E.op (.agg #[E.i (K.lo k), E.i (K.hi k), E.i (K.len k), .func (.func Fq2) #[] csq2, .func (.func Gq2) #[] dsq2]) (E.op (.bool true) (E.nw [E.i 0, E.i 0, E.i 0, .nilFunc, .nilFunc] 174 (fun g3 => E.st 0 [E.i (K.lo k), E.i (K.hi k), E.i (K.len k), .func (.func Fq2) #[] csq2, .func (.func Gq2) #[] dsq2] rfl rfl (E.op (.bool true) (E.To.code (E.C.seq (E.sr (E.op (.bool true) (E.op (.bool false) (E.op (.bool false) ?_)))))))))))
 refine E.op (E.pj g1 6) (E.li (E.i i.sz) 1 rfl rfl (E.op (E.pj g3 2) (E.li (E.i (K.len k)) 0 rfl rfl (E.op (.bool (i.sz != (K.len k))) (E.op (.bool (i.sz != (K.len k))) (E.op (.bool (i.sz != (K.len k))) (E.G.cut 4 [(1, E.pt g1), (2, .bool false), (3, E.pt g3), (24, .bool ((i.sz != (K.len k)) || (!(K.rng i))))] (fun w => (fun _ => True) w ∧ K.Fm k (.func (.func Fq2) #[] csq2) (.func (.func Gq2) #[] dsq2) w) [(g3, [E.i (K.lo k), E.i (K.hi k), E.i (K.len k), .func (.func Fq2) #[] csq2, .func (.func Gq2) #[] dsq2]), (g1, (Zktjd i))] ?_ ?_)))))))
 ·
  generalize hc4 : (i.sz != (K.len k)) = b5
  cases b5
  ·
   exact E.li (.agg (Zktjc i)) 1 rfl rfl (E.ca (.bool (K.rng i)) (fun w h => ranges_any i w) (E.op (.bool (!(K.rng i))) (E.op (.bool (!(K.rng i))) E.ep)))
  exact E.sk (E.sk (E.sk (E.op (.bool true) E.ep)))
 refine E.To.code (E.cd ((i.sz != (K.len k)) || (!(K.rng i))) (fun hc6 => ?_) (fun hc6 => ?_))
 ·
  exact E.sr (E.op (.bool false) (E.To.code (E.C.ret (E.P.rt (E.bd Tryz.f108 [.bool false] (fun w h => ⟨by unfold K.valid1; rw [hc6, N1] <;> rfl, h.ch.bel (fun _ h => h.elim)⟩))))))
 refine E.C.skip (E.To.code (E.C.seq (E.C.held (E.Hp (fun _ => False) w (fun w => (fun _ => True) w ∧ K.Fm k (.func (.func Fq2) #[] csq2) (.func (.func Gq2) #[] dsq2) w) [(g3, [E.i (K.lo k), E.i (K.hi k), E.i (K.len k), .func (.func Fq2) #[] csq2, .func (.func Gq2) #[] dsq2]), (g1, (Zktjd i))]) Nz.k (E.tj 0 (.agg #[E.i (K.lo k), E.i (K.hi k), E.i (K.len k), .func (.func Fq2) #[] csq2, .func (.func Gq2) #[] dsq2]) rfl (fun w h => h) (fun w h => E.run_load h 0 rfl rfl Nz.k) (E.tk 1 (E.pt g1) rfl (fun w h => h) (E.tj 2 (E.i i.op) rfl (fun w h => h) (fun w h => E.run_load h 1 rfl rfl Nz.k) (E.tk 3 (.int .u8 (IntKind.wrap .u8 i.op)) rfl (fun w h => h) (E.tk 6 (E.pj g3 4) rfl (fun w h => h) (E.tj 7 (.func (.func Gq2) #[] dsq2) rfl (fun w h => h) (fun w h => E.run_load h 0 rfl rfl Nz.k) (E.tj 8 (.agg (Zktjc i)) rfl (fun w h => h) (fun w h => E.run_load h 1 rfl rfl Nz.k) (E.tj 12 (.agg (Zktjc i)) rfl (fun w h => h) (fun w h => E.run_load h 1 rfl rfl Nz.k) (E.al2 4 9 rfl rfl ?_ ?_))))))))))))
 ·
  refine E.G.buildSlice [.int .u8 (IntKind.wrap .u8 i.op)] Nz.k Nz.k (fun g7 => E.bk (E.al2 5 9 rfl rfl ?_ ?_))
  ·
   refine E.vl (.string (strOfNums [(IntKind.wrap .u8 i.op)])) (fun w h => E.b2s h 0 g7 0 1 1 [(IntKind.wrap .u8 i.op)] (e := 5) Nz.k Nz.k Nz.k Nz.k rfl Nz.k rfl) (E.bk (E.al 9 rfl (E.G.callv (G := Gq2) (ds := dsq2) [.agg (Zktjc i)] (.string (strOfNums (K.wr k i))) Nz.k Nz.k (fun w h => K.enter_at (K.fmt_lt hk) h.x.2 _ _) (fun w h => kput_at (K.fmt_lt hk) h.x.2 (K.in_of hm hc6)) Nz.k (E.bk (E.tb 10 (Zktje i k) rfl (fun w h => E.cat (strOfNums [(IntKind.wrap .u8 i.op)]) (strOfNums (K.wr k i)) Nz.k Nz.k (by rw [strOfNums_size, strOfNums_size]; have := K.wr_len k (K.fmt_lt hk) i; have := K.len_bd k (K.fmt_lt hk); simp only [List.length_cons, List.length_nil]; omega) w) (E.al 11 rfl (E.ca (Zktjb k i) (fun w h => read_any k (K.fmt_lt hk) _ _ w h.x.2 ((strOfNums [(IntKind.wrap .u8 i.op)]) ++ (strOfNums (K.wr k i))) (K.vs k (K.fmt_lt hk) i).1 (K.vs k (K.fmt_lt hk) i).2) (E.bk (E.tb 13 (.bool (Zktja k i)) rfl (fun w h => E.api_KIns_eql Nz.k Nz.k) (E.ta 14 (.bool (Zktja k i)) rfl (E.H.done Nz.k ?_)))))))))))
   exact E.To.code (E.wk [(2, .bool (Zktja k i))] [] Nz.sub (E.C.ret (E.bd Tryz.f108 [.bool (Zktja k i)] (fun w h => ⟨by unfold K.valid1; rw [hc6, N0] <;> rfl, h.ch.bel (fun _ h => h.elim)⟩))))
  refine E.G.callv (G := Gq2) (ds := dsq2) [.agg (Zktjc i)] (.string (strOfNums (K.wr k i))) Nz.k Nz.k (fun w h => K.enter_at (K.fmt_lt hk) h.x.2 _ _) (fun w h => kput_at (K.fmt_lt hk) h.x.2 (K.in_of hm hc6)) Nz.k (E.bk (E.al 5 rfl (E.vl (.string (strOfNums [(IntKind.wrap .u8 i.op)])) (fun w h => E.b2s h 0 g7 0 1 1 [(IntKind.wrap .u8 i.op)] (e := 5) Nz.k Nz.k Nz.k Nz.k rfl Nz.k rfl) (E.bk (E.tb 10 (Zktje i k) rfl (fun w h => E.cat (strOfNums [(IntKind.wrap .u8 i.op)]) (strOfNums (K.wr k i)) Nz.k Nz.k (by rw [strOfNums_size, strOfNums_size]; have := K.wr_len k (K.fmt_lt hk) i; have := K.len_bd k (K.fmt_lt hk); simp only [List.length_cons, List.length_nil]; omega) w) (E.al 11 rfl (E.ca (Zktjb k i) (fun w h => read_any k (K.fmt_lt hk) _ _ w h.x.2 ((strOfNums [(IntKind.wrap .u8 i.op)]) ++ (strOfNums (K.wr k i))) (K.vs k (K.fmt_lt hk) i).1 (K.vs k (K.fmt_lt hk) i).2) (E.bk (E.tb 13 (.bool (Zktja k i)) rfl (fun w h => E.api_KIns_eql Nz.k Nz.k) (E.ta 14 (.bool (Zktja k i)) rfl (E.H.done Nz.k ?_)))))))))))
  exact E.To.code (E.wk [(2, .bool (Zktja k i))] [] Nz.sub (E.C.ret (E.bd Tryz.f108 [.bool (Zktja k i)] (fun w h => ⟨by unfold K.valid1; rw [hc6, N0] <;> rfl, h.ch.bel (fun _ h => h.elim)⟩))))
 refine E.G.callv (G := Gq2) (ds := dsq2) [.agg (Zktjc i)] (.string (strOfNums (K.wr k i))) Nz.k Nz.k (fun w h => K.enter_at (K.fmt_lt hk) h.x.2 _ _) (fun w h => kput_at (K.fmt_lt hk) h.x.2 (K.in_of hm hc6)) Nz.k (E.H.back (fun w h => h) (E.al 4 rfl (E.G.buildSlice [.int .u8 (IntKind.wrap .u8 i.op)] Nz.k Nz.k (fun g8 => E.bk (E.al 5 rfl (E.vl (.string (strOfNums [(IntKind.wrap .u8 i.op)])) (fun w h => E.b2s h 0 g8 0 1 1 [(IntKind.wrap .u8 i.op)] (e := 5) Nz.k Nz.k Nz.k Nz.k rfl Nz.k rfl) (E.bk (E.tb 10 (Zktje i k) rfl (fun w h => E.cat (strOfNums [(IntKind.wrap .u8 i.op)]) (strOfNums (K.wr k i)) Nz.k Nz.k (by rw [strOfNums_size, strOfNums_size]; have := K.wr_len k (K.fmt_lt hk) i; have := K.len_bd k (K.fmt_lt hk); simp only [List.length_cons, List.length_nil]; omega) w) (E.al 11 rfl (E.ca (Zktjb k i) (fun w h => read_any k (K.fmt_lt hk) _ _ w h.x.2 ((strOfNums [(IntKind.wrap .u8 i.op)]) ++ (strOfNums (K.wr k i))) (K.vs k (K.fmt_lt hk) i).1 (K.vs k (K.fmt_lt hk) i).2) (E.bk ?_)))))))))))
 exact E.tb 13 (.bool (Zktja k i)) rfl (fun w h => E.api_KIns_eql Nz.k Nz.k) (E.ta 14 (.bool (Zktja k i)) rfl (E.H.done Nz.k (E.To.code (E.wk [(2, .bool (Zktja k i))] [] Nz.sub (E.C.ret (E.bd Tryz.f108 [.bool (Zktja k i)] (fun w h => ⟨by unfold K.valid1; rw [hc6, N0] <;> rfl, h.ch.bel (fun _ h => h.elim)⟩)))))))

def K.valid (i : K.Ins) : Bool := match K.fmt i.op with
  | none => false
  | some k => K.valid1 k i
theorem Valid_any (i : K.Ins) (hm : 0 ≤ i.imm ∧ i.imm < 4294967296) (w : World) : Calls Tryz.prog 108 #[.agg #[.int .i64 i.op, .int .i64 i.d, .int .i64 i.s, .int .i64 i.ix, .int .i64 i.sc, .int .u32 i.imm, .int .i64 i.sz]] w fun e w' => e = .returned (.bool (K.valid i)) ∧ Bel w w' := by
  unfold K.valid
  cases hk : K.fmt i.op with
  | none => exact Valid_none i hk w
  | some k => exact Valid_some k i hk hm w
def K.size0 (x : Int) : Int := 0
theorem Size_none (x : Int) (hk : K.fmt (IntKind.wrap .i64 x) = none) (w : World) : Calls Tryz.prog 78 #[.int .u8 x] w fun e w' => e = .returned (.int .i64 (K.size0 x)) ∧ Bel w w' := by
 refine E.enter (n := 13) (S := fun _ => False) Tryz.func78 rfl rfl Nz.k (E.Hp.start w) (E.sr (E.op (E.i 0) (E.tr (E.op (.int .u8 x) (E.op (E.i (IntKind.wrap .i64 x)) (E.ca (.tuple #[.agg #[E.i 0, E.i 0, E.i 0, .nilFunc, .nilFunc], .bool false]) (fun w h => find_none hk w) (E.op (.tuple #[.agg #[E.i 0, E.i 0, E.i 0, .nilFunc, .nilFunc], .bool false]) (E.op (.agg #[E.i 0, E.i 0, E.i 0, .nilFunc, .nilFunc]) (E.op (.bool false) (E.nw [E.i 0, E.i 0, E.i 0, .nilFunc, .nilFunc] 174 (fun g1 => E.st 0 [E.i 0, E.i 0, E.i 0, .nilFunc, .nilFunc] rfl rfl ?_)))))))))))
 exact E.op (.bool false) (E.To.code (E.wk [(2, E.i 0), (3, E.pt g1)] [(g1, [E.i 0, E.i 0, E.i 0, .nilFunc, .nilFunc])] Nz.sub (E.sr (E.op (.pointer (some ⟨g1, 2, none⟩)) (E.li (E.i 0) 0 rfl rfl (E.op (E.i 0) (E.To.code (E.C.ret (E.bd Tryz.f78 [E.i 0] (fun w h => ⟨rfl, h.ch.bel (fun _ h => h.elim)⟩))))))))))

def K.size1 (k : Nat) (x : Int) : Int := (K.len k)
theorem Size_some (k : Nat) (x : Int) (hk : K.fmt (IntKind.wrap .i64 x) = some k) (w : World) : Calls Tryz.prog 78 #[.int .u8 x] w fun e w' => e = .returned (.int .i64 (K.size1 k x)) ∧ Bel w w' := by
 refine E.enter (n := 13) (S := fun _ => False) Tryz.func78 rfl rfl Nz.k (E.Hp.start w) (E.sr (E.op (E.i 0) (E.tr (E.op (.int .u8 x) (E.op (E.i (IntKind.wrap .i64 x)) (E.G.callX (I := FuncId × Array Value × FuncId × Array Value) (fun _ => True) (fun i => .tuple #[.agg #[E.i (K.lo k), E.i (K.hi k), E.i (K.len k), .func (.func i.1) #[] i.2.1, .func (.func i.2.2.1) #[] i.2.2.2], .bool true]) (fun i => fun w => (fun _ => True) w ∧ K.Fm k (.func (.func i.1) #[] i.2.1) (.func (.func i.2.2.1) #[] i.2.2.2) w) (fun _ => []) (fun w h => find_hp hk (by unfold K.intB; simp [E.i]) w h) (fun w _ => Nz.k) Nz.k (fun i _ => ?_)))))))
 obtain ⟨Fq1, csq1, Gq1, dsq1⟩ := i
 refine E.op (.tuple #[.agg #[E.i (K.lo k), E.i (K.hi k), E.i (K.len k), .func (.func Fq1) #[] csq1, .func (.func Gq1) #[] dsq1], .bool true]) (E.op (.agg #[E.i (K.lo k), E.i (K.hi k), E.i (K.len k), .func (.func Fq1) #[] csq1, .func (.func Gq1) #[] dsq1]) (E.op (.bool true) (E.nw [E.i 0, E.i 0, E.i 0, .nilFunc, .nilFunc] 174 (fun g2 => E.st 0 [E.i (K.lo k), E.i (K.hi k), E.i (K.len k), .func (.func Fq1) #[] csq1, .func (.func Gq1) #[] dsq1] rfl rfl (E.op (.bool true) (E.To.code (E.wk [(2, E.i 0), (3, E.pt g2)] [(g2, [E.i (K.lo k), E.i (K.hi k), E.i (K.len k), .func (.func Fq1) #[] csq1, .func (.func Gq1) #[] dsq1])] Nz.sub (E.sr (E.op (.pointer (some ⟨g2, 2, none⟩)) (E.li (E.i (K.len k)) 0 rfl rfl (E.op (E.i (K.len k)) ?_)))))))))))
 exact E.To.code (E.C.ret (E.bd Tryz.f78 [E.i (K.len k)] (fun w h => ⟨rfl, h.ch.bel (fun _ h => h.elim)⟩)))

def K.size (x : Int) : Int := match K.fmt (IntKind.wrap .i64 x) with
  | none => 0
  | some k => K.len k
theorem Size_any (x : Int) (w : World) : Calls Tryz.prog 78 #[.int .u8 x] w fun e w' => e = .returned (.int .i64 (K.size x)) ∧ Bel w w' := by
  unfold K.size
  cases hk : K.fmt (IntKind.wrap .i64 x) with
  | none => exact Size_none x hk w
  | some k => exact Size_some k x hk w

def K.target (i : K.Ins) (a : Int) : Int × Bool := (bif ((!(K.valid i)) || (!(K.inAny i.op [(96, 109), (112, 113)]))) then (0, false) else ((IntKind.wrap .u32 ((IntKind.wrap .u32 (a + (IntKind.wrap .u32 i.sz))) + i.imm)), true))
theorem K.rd_imm (k : Nat) (hk : k < 11) (l : List UInt8) (sz : Int) : 0 ≤ (K.rd k l sz).imm ∧ (K.rd k l sz).imm < 4294967296 := by
  have hb := fun n => W.byt_bd l n
  have hs : ∀ n, 0 ≤ W.sign (W.byt l n) 8 ∧ W.sign (W.byt l n) 8 < 4294967296 := fun n => W.sign_bd _ _ (hb n).1 (by have := hb n; omega)
  have hf : ∀ n, 0 ≤ K.four l n ∧ K.four l n < 4294967296 := fun n => by
    unfold K.four; have := hb n; have := hb (n + 1); have := hb (n + 2); have := hb (n + 3); omega
  have hix : ∀ n i, (K.t_index l n i).imm = i.imm := fun n i => by unfold K.t_index; split <;> rfl
  rcases (by omega : k = 0 ∨ k = 1 ∨ k = 2 ∨ k = 3 ∨ k = 4 ∨ k = 5 ∨ k = 6 ∨ k = 7 ∨ k = 8 ∨ k = 9 ∨ k = 10) with rfl | rfl | rfl | rfl | rfl | rfl | rfl | rfl | rfl | rfl | rfl
  · exact ⟨by show (0 : Int) ≤ 0; decide, by show (0 : Int) < 4294967296; decide⟩
  · exact ⟨by show (0 : Int) ≤ 0; decide, by show (0 : Int) < 4294967296; decide⟩
  · exact ⟨by show (0 : Int) ≤ 0; decide, by show (0 : Int) < 4294967296; decide⟩
  · exact hs _
  · exact hf _
  · exact hs _
  · exact hf _
  · exact hs _
  · exact hf _
  · have := hb 1; exact ⟨this.1, by show W.byt l 1 < _; omega⟩
  · exact ⟨by show (0 : Int) ≤ 0; decide, by show (0 : Int) < 4294967296; decide⟩

def K.decode0 (s : ByteArray) : K.Ins × Int := (bif (s.toList == (⟨#[]⟩ : ByteArray).toList) then (⟨0, 0, 0, 0, 0, 0, 0⟩, 10) else (⟨0, 0, 0, 0, 0, 0, 0⟩, 12))
abbrev Zdaga : Array Value := #[E.i 0, E.i 0, E.i 0, E.i 0, E.i 0, E.u 0, E.i 0]
abbrev Zdagb : List Value := [E.i 0, E.i 0, E.i 0, E.i 0, E.i 0, E.u 0, E.i 0]
theorem Decode_none (s : ByteArray) (hk : K.fmt (IntKind.wrap .i64 (W.byt s.data.toList 0)) = none) (w : World) : Calls Tryz.prog 79 #[.string s] w fun e w' => e = .returned (.tuple #[.agg #[.int .i64 (((((K.decode0 s)).1)).op), .int .i64 (((((K.decode0 s)).1)).d), .int .i64 (((((K.decode0 s)).1)).s), .int .i64 (((((K.decode0 s)).1)).ix), .int .i64 (((((K.decode0 s)).1)).sc), .int .u32 (((((K.decode0 s)).1)).imm), .int .i64 (((((K.decode0 s)).1)).sz)], .int .i64 (((K.decode0 s)).2)]) ∧ Bel w w' := by
 refine E.enter (n := 37) (S := fun _ => False) Tryz.func79 rfl rfl Nz.k (E.Hp.start w) (E.sr (E.nw Zdagb 66 (fun g1 => E.op (E.i 0) (E.To.code (E.C.seq (E.sr (E.op (.string s) (E.op (.bool (s.toList == (⟨#[]⟩ : ByteArray).toList)) (E.To.code (E.cd (s.toList == (⟨#[]⟩ : ByteArray).toList) (fun hc2 => ?_) (fun hc2 => ?_)))))))))))
 ·
  refine E.sr (E.vl (.agg Zdaga) (fun w h => E.run_build Zdaga Nz.k w) (E.st 0 Zdagb rfl rfl (E.op (E.i 10) (E.To.code (E.C.ret (E.P.rt (E.To.body (fn := Tryz.f79) [.agg Zdaga, E.i 10] ?_ ?_)))))))
  · exact ⟨⟨Nz.k, _, _, 0, _, rfl, rfl, Nz.k⟩, ⟨Nz.k, Nz.k⟩, trivial⟩
  intro w h
  exact ⟨by unfold K.decode0; rw [hc2, N1] <;> rfl, h.ch.bel (fun _ h => h.elim)⟩
 refine E.C.skip (E.To.code (E.sr (E.op (.string s) (E.vl (.int .u8 (W.byt s.data.toList 0)) (fun w h => E.sidx s .i64 0 Nz.k Nz.k Nz.k Nz.szm Nz.szm w) (E.op (E.i (IntKind.wrap .i64 (W.byt s.data.toList 0))) (E.ca (.tuple #[.agg #[E.i 0, E.i 0, E.i 0, .nilFunc, .nilFunc], .bool false]) (fun w h => find_none hk w) (E.op (.tuple #[.agg #[E.i 0, E.i 0, E.i 0, .nilFunc, .nilFunc], .bool false]) (E.op (.agg #[E.i 0, E.i 0, E.i 0, .nilFunc, .nilFunc]) (E.op (.bool false) (E.nw [E.i 0, E.i 0, E.i 0, .nilFunc, .nilFunc] 174 (fun g3 => E.st 0 [E.i 0, E.i 0, E.i 0, .nilFunc, .nilFunc] rfl rfl (E.op (.bool false) ?_))))))))))))
 refine E.To.code (E.wk [(0, .string s), (2, E.pt g1), (3, E.i 0), (4, E.pt g3), (5, .bool false)] [(g3, [E.i 0, E.i 0, E.i 0, .nilFunc, .nilFunc]), (g1, Zdagb)] Nz.sub (E.C.seq (E.sr (E.op (.bool false) (E.op (.bool true) (E.To.code (E.C.condT Nz.k Nz.k (E.sr (E.vl (.agg Zdaga) (fun w h => E.run_build Zdaga Nz.k w) (E.st 1 Zdagb rfl rfl (E.op (E.i 12) ?_)))))))))))
 refine E.To.code (E.C.ret (E.P.rt (E.To.body (fn := Tryz.f79) [.agg Zdaga, E.i 12] ?_ ?_)))
 · exact ⟨⟨Nz.k, _, _, 1, _, rfl, rfl, Nz.k⟩, ⟨Nz.k, Nz.k⟩, trivial⟩
 intro w h
 exact ⟨by unfold K.decode0; rw [hc2, N0] <;> rfl, h.ch.bel (fun _ h => h.elim)⟩

def K.decode1 (k : Nat) (s : ByteArray) : K.Ins × Int := (bif (s.toList == (⟨#[]⟩ : ByteArray).toList) then (⟨0, 0, 0, 0, 0, 0, 0⟩, 10) else (bif (decide (((s.size : Nat) : Int) < (K.len k))) then (⟨0, 0, 0, 0, 0, 0, 0⟩, 10) else (bif (!(K.valid ((K.rd k ((s.extract 0 ((K.len k)).toNat)).data.toList (K.len k))))) then (⟨0, 0, 0, 0, 0, 0, 0⟩, 12) else (((K.rd k ((s.extract 0 ((K.len k)).toNat)).data.toList (K.len k))), 0))))
abbrev Z3uwa (k : Nat) (s : ByteArray) : Array Value := #[E.i (((K.rd k ((s.extract 0 ((K.len k)).toNat)).data.toList (K.len k))).op), E.i (((K.rd k ((s.extract 0 ((K.len k)).toNat)).data.toList (K.len k))).d), E.i (((K.rd k ((s.extract 0 ((K.len k)).toNat)).data.toList (K.len k))).s), E.i (((K.rd k ((s.extract 0 ((K.len k)).toNat)).data.toList (K.len k))).ix), E.i (((K.rd k ((s.extract 0 ((K.len k)).toNat)).data.toList (K.len k))).sc), E.u (((K.rd k ((s.extract 0 ((K.len k)).toNat)).data.toList (K.len k))).imm), E.i (((K.rd k ((s.extract 0 ((K.len k)).toNat)).data.toList (K.len k))).sz)]
abbrev Z3uwb (k : Nat) (s : ByteArray) : List Value := [E.i (((K.rd k ((s.extract 0 ((K.len k)).toNat)).data.toList (K.len k))).op), E.i (((K.rd k ((s.extract 0 ((K.len k)).toNat)).data.toList (K.len k))).d), E.i (((K.rd k ((s.extract 0 ((K.len k)).toNat)).data.toList (K.len k))).s), E.i (((K.rd k ((s.extract 0 ((K.len k)).toNat)).data.toList (K.len k))).ix), E.i (((K.rd k ((s.extract 0 ((K.len k)).toNat)).data.toList (K.len k))).sc), E.u (((K.rd k ((s.extract 0 ((K.len k)).toNat)).data.toList (K.len k))).imm), E.i (((K.rd k ((s.extract 0 ((K.len k)).toNat)).data.toList (K.len k))).sz)]
abbrev Z3uwc : List Value := [E.i 0, E.i 0, E.i 0, E.i 0, E.i 0, E.u 0, E.i 0]
abbrev Z3uwd : Array Value := #[E.i 0, E.i 0, E.i 0, E.i 0, E.i 0, E.u 0, E.i 0]
abbrev Z3uwe (k : Nat) (s : ByteArray) := K.valid ((K.rd k ((s.extract 0 ((K.len k)).toNat)).data.toList (K.len k)))
set_option maxHeartbeats 1000000 in
theorem Decode_some (k : Nat) (s : ByteArray) (hk : K.fmt (IntKind.wrap .i64 (W.byt s.data.toList 0)) = some k) (hs : s.size ≤ maxLen) (w : World) : Calls Tryz.prog 79 #[.string s] w fun e w' => e = .returned (.tuple #[.agg #[.int .i64 (((((K.decode1 k s)).1)).op), .int .i64 (((((K.decode1 k s)).1)).d), .int .i64 (((((K.decode1 k s)).1)).s), .int .i64 (((((K.decode1 k s)).1)).ix), .int .i64 (((((K.decode1 k s)).1)).sc), .int .u32 (((((K.decode1 k s)).1)).imm), .int .i64 (((((K.decode1 k s)).1)).sz)], .int .i64 (((K.decode1 k s)).2)]) ∧ Bel w w' := by
 have hl := K.len_bd k (K.fmt_lt hk)
 refine E.enter (n := 37) (S := fun _ => False) Tryz.func79 rfl rfl Nz.k (E.Hp.start w) (E.sr (E.nw Z3uwc 66 (fun g1 => E.op (E.i 0) (E.To.code (E.C.seq (E.sr (E.op (.string s) (E.op (.bool (s.toList == (⟨#[]⟩ : ByteArray).toList)) (E.To.code (E.cd (s.toList == (⟨#[]⟩ : ByteArray).toList) (fun hc2 => ?_) (fun hc2 => ?_)))))))))))
 ·
  refine E.sr (E.vl (.agg Z3uwd) (fun w h => E.run_build Z3uwd Nz.k w) (E.st 0 Z3uwc rfl rfl (E.op (E.i 10) (E.To.code (E.C.ret (E.P.rt (E.To.body (fn := Tryz.f79) [.agg Z3uwd, E.i 10] ?_ ?_)))))))
  · exact ⟨⟨Nz.k, _, _, 0, _, rfl, rfl, Nz.k⟩, ⟨Nz.k, Nz.k⟩, trivial⟩
  intro w h
  exact ⟨by unfold K.decode1; rw [hc2, N1] <;> rfl, h.ch.bel (fun _ h => h.elim)⟩
 refine E.C.skip (E.To.code (E.sr (E.op (.string s) (E.vl (.int .u8 (W.byt s.data.toList 0)) (fun w h => E.sidx s .i64 0 Nz.k Nz.k Nz.k Nz.szm Nz.szm w) (E.op (E.i (IntKind.wrap .i64 (W.byt s.data.toList 0))) (E.G.callX (I := FuncId × Array Value × FuncId × Array Value) (fun _ => True) (fun i => .tuple #[.agg #[E.i (K.lo k), E.i (K.hi k), E.i (K.len k), .func (.func i.1) #[] i.2.1, .func (.func i.2.2.1) #[] i.2.2.2], .bool true]) (fun i => fun w => (fun _ => True) w ∧ K.Fm k (.func (.func i.1) #[] i.2.1) (.func (.func i.2.2.1) #[] i.2.2.2) w) (fun _ => [(g1, Z3uwc)]) (fun w h => find_hp hk (by unfold K.intB; simp [E.i]) w h) (fun w _ => Nz.k) Nz.k (fun i _ => ?_)))))))
 obtain ⟨Fq3, csq3, Gq3, dsq3⟩ := i
 refine E.op (.tuple #[.agg #[E.i (K.lo k), E.i (K.hi k), E.i (K.len k), .func (.func Fq3) #[] csq3, .func (.func Gq3) #[] dsq3], .bool true]) (E.op (.agg #[E.i (K.lo k), E.i (K.hi k), E.i (K.len k), .func (.func Fq3) #[] csq3, .func (.func Gq3) #[] dsq3]) (E.op (.bool true) (E.nw [E.i 0, E.i 0, E.i 0, .nilFunc, .nilFunc] 174 (fun g4 => E.st 0 [E.i (K.lo k), E.i (K.hi k), E.i (K.len k), .func (.func Fq3) #[] csq3, .func (.func Gq3) #[] dsq3] rfl rfl (E.op (.bool true) (E.To.code (E.wk [(0, .string s), (2, E.pt g1), (3, E.i 0), (4, E.pt g4), (5, .bool true)] [(g4, [E.i (K.lo k), E.i (K.hi k), E.i (K.len k), .func (.func Fq3) #[] csq3, .func (.func Gq3) #[] dsq3]), (g1, Z3uwc)] Nz.sub (E.C.seq (E.sr (E.op (.bool true) (E.op (.bool false) ?_)))))))))))
 refine E.To.code (E.C.condF Nz.k Nz.k (E.C.skip (E.To.code (E.C.seq (E.sr (E.op (.string s) (E.op (E.i ((s.size : Nat) : Int)) (E.op (E.pj g4 2) (E.li (E.i (K.len k)) 0 rfl rfl (E.op (.bool (decide (((s.size : Nat) : Int) < (K.len k)))) (E.To.code (E.cd (decide (((s.size : Nat) : Int) < (K.len k))) (fun hc5 => ?_) (fun hc5 => ?_)))))))))))))
 ·
  refine E.sr (E.vl (.agg Z3uwd) (fun w h => E.run_build Z3uwd Nz.k w) (E.st 1 Z3uwc rfl rfl (E.op (E.i 10) (E.To.code (E.wk [(0, .string s), (2, E.pt g1), (3, E.i 10), (4, E.pt g4)] [(g4, [E.i (K.lo k), E.i (K.hi k), E.i (K.len k), .func (.func Fq3) #[] csq3, .func (.func Gq3) #[] dsq3]), (g1, Z3uwc)] Nz.sub (E.C.ret (E.P.rt (E.To.body (fn := Tryz.f79) [.agg Z3uwd, E.i 10] ?_ ?_))))))))
  · exact ⟨⟨Nz.k, _, _, 1, _, rfl, rfl, Nz.k⟩, ⟨Nz.k, Nz.k⟩, trivial⟩
  intro w h
  exact ⟨by unfold K.decode1; rw [hc2, N0, hc5, N1] <;> rfl, h.ch.bel (fun _ h => h.elim)⟩
 refine E.C.skip (E.To.code (E.wk [(0, .string s), (2, E.pt g1), (3, E.i 0), (4, E.pt g4)] [(g4, [E.i (K.lo k), E.i (K.hi k), E.i (K.len k), .func (.func Fq3) #[] csq3, .func (.func Gq3) #[] dsq3]), (g1, Z3uwc)] Nz.sub (E.C.seq (E.C.held (E.Hp (fun _ => False) w (fun w => (fun _ => True) w ∧ K.Fm k (.func (.func Fq3) #[] csq3) (.func (.func Gq3) #[] dsq3) w) [(g4, [E.i (K.lo k), E.i (K.hi k), E.i (K.len k), .func (.func Fq3) #[] csq3, .func (.func Gq3) #[] dsq3]), (g1, Z3uwc)]) Nz.k (E.tj 0 (.agg #[E.i (K.lo k), E.i (K.hi k), E.i (K.len k), .func (.func Fq3) #[] csq3, .func (.func Gq3) #[] dsq3]) rfl (fun w h => h) (fun w h => E.run_load h 0 rfl rfl Nz.k) (E.tk 1 (.string s) rfl (fun w h => h) (E.tk 2 (E.pj g4 2) rfl (fun w h => h) (E.tj 3 (E.i (K.len k)) rfl (fun w h => h) (fun w h => E.run_load h 0 rfl rfl Nz.k) (E.tj 4 (.string (s.extract 0 ((K.len k)).toNat)) rfl (fun w h => h) (fun w h => E.slTo s .i64 (K.len k) Nz.k Nz.k Nz.k Nz.szm Nz.szm w) (E.al2 5 6 rfl rfl ?_ ?_))))))))))
 ·
  refine E.ca (.agg (Z3uwa k s)) (fun w h => read_any k (K.fmt_lt hk) _ _ w h.x.2 (s.extract 0 ((K.len k)).toNat) (by rw [ByteArray.size_extract]; unfold maxLen at *; first | (have hp := E.size_pos (by assumption); (try simp only [beq_iff_eq, bne_iff_ne, ne_eq, Bool.or_eq_true, Bool.and_eq_true, beq_eq_false_iff_ne, decide_eq_true_eq, decide_eq_false_iff_not, Bool.or_eq_false_iff, Bool.not_eq_true, gt_iff_lt] at *); omega) | ((try simp only [beq_iff_eq, bne_iff_ne, ne_eq, Bool.or_eq_true, Bool.and_eq_true, beq_eq_false_iff_ne, decide_eq_true_eq, decide_eq_false_iff_not, Bool.or_eq_false_iff, Bool.not_eq_true, gt_iff_lt] at *); omega)) (by rw [ByteArray.size_extract]; first | (have hp := E.size_pos (by assumption); (try simp only [beq_iff_eq, bne_iff_ne, ne_eq, Bool.or_eq_true, Bool.and_eq_true, beq_eq_false_iff_ne, decide_eq_true_eq, decide_eq_false_iff_not, Bool.or_eq_false_iff, Bool.not_eq_true, gt_iff_lt] at *); omega) | ((try simp only [beq_iff_eq, bne_iff_ne, ne_eq, Bool.or_eq_true, Bool.and_eq_true, beq_eq_false_iff_ne, decide_eq_true_eq, decide_eq_false_iff_not, Bool.or_eq_false_iff, Bool.not_eq_true, gt_iff_lt] at *); omega))) (E.H.back (fun w h => h) (E.al 6 rfl (E.nw Z3uwc 66 (fun g6 => E.bk (E.al 7 rfl (E.st 0 (Z3uwb k s) rfl rfl (E.bk (E.H.done Nz.k (E.To.code (E.wk [(2, E.pt g1), (3, E.i 0), (6, E.pt g6)] [(g6, (Z3uwb k s)), (g1, Z3uwc)] Nz.sub (E.C.seq ?_)))))))))))
  refine E.sr (E.li (.agg (Z3uwa k s)) 0 rfl rfl (E.ca (.bool (Z3uwe k s)) (fun w h => Valid_any ((K.rd k ((s.extract 0 ((K.len k)).toNat)).data.toList (K.len k))) (K.rd_imm k (K.fmt_lt hk) _ _) w) (E.op (.bool (!(Z3uwe k s))) (E.To.code (E.cd (!(K.valid ((K.rd k ((s.extract 0 ((K.len k)).toNat)).data.toList (K.len k))))) (fun hc7 => ?_) (fun hc7 => ?_))))))
  ·
   refine E.sr (E.vl (.agg Z3uwd) (fun w h => E.run_build Z3uwd Nz.k w) (E.st 1 Z3uwc rfl rfl (E.op (E.i 12) (E.To.code (E.C.ret (E.P.rt (E.To.body (fn := Tryz.f79) [.agg Z3uwd, E.i 12] ?_ ?_)))))))
   · exact ⟨⟨Nz.k, _, _, 1, _, rfl, rfl, Nz.k⟩, ⟨Nz.k, Nz.k⟩, trivial⟩
   intro w h
   exact ⟨by unfold K.decode1; rw [hc2, N0, hc5, N0, hc7, N1] <;> rfl, h.ch.bel (fun _ h => h.elim)⟩
  refine E.C.skip (E.To.code (E.sr (E.li (.agg (Z3uwa k s)) 0 rfl rfl (E.st 1 (Z3uwb k s) rfl rfl (E.op (E.i 0) (E.To.code (E.C.ret (E.To.body (fn := Tryz.f79) [.agg (Z3uwa k s), E.i 0] ?_ ?_))))))))
  · exact ⟨⟨Nz.k, _, _, 1, _, rfl, rfl, Nz.k⟩, ⟨Nz.k, Nz.k⟩, trivial⟩
  intro w h
  exact ⟨by unfold K.decode1; rw [hc2, N0, hc5, N0, hc7, N0] <;> rfl, h.ch.bel (fun _ h => h.elim)⟩
 refine E.nw Z3uwc 66 (fun g8 => E.bk (E.al 5 rfl (E.ca (.agg (Z3uwa k s)) (fun w h => read_any k (K.fmt_lt hk) _ _ w h.x.2 (s.extract 0 ((K.len k)).toNat) (by rw [ByteArray.size_extract]; unfold maxLen at *; first | (have hp := E.size_pos (by assumption); (try simp only [beq_iff_eq, bne_iff_ne, ne_eq, Bool.or_eq_true, Bool.and_eq_true, beq_eq_false_iff_ne, decide_eq_true_eq, decide_eq_false_iff_not, Bool.or_eq_false_iff, Bool.not_eq_true, gt_iff_lt] at *); omega) | ((try simp only [beq_iff_eq, bne_iff_ne, ne_eq, Bool.or_eq_true, Bool.and_eq_true, beq_eq_false_iff_ne, decide_eq_true_eq, decide_eq_false_iff_not, Bool.or_eq_false_iff, Bool.not_eq_true, gt_iff_lt] at *); omega)) (by rw [ByteArray.size_extract]; first | (have hp := E.size_pos (by assumption); (try simp only [beq_iff_eq, bne_iff_ne, ne_eq, Bool.or_eq_true, Bool.and_eq_true, beq_eq_false_iff_ne, decide_eq_true_eq, decide_eq_false_iff_not, Bool.or_eq_false_iff, Bool.not_eq_true, gt_iff_lt] at *); omega) | ((try simp only [beq_iff_eq, bne_iff_ne, ne_eq, Bool.or_eq_true, Bool.and_eq_true, beq_eq_false_iff_ne, decide_eq_true_eq, decide_eq_false_iff_not, Bool.or_eq_false_iff, Bool.not_eq_true, gt_iff_lt] at *); omega))) (E.bk (E.al 7 rfl (E.st 0 (Z3uwb k s) rfl rfl (E.bk (E.H.done Nz.k (E.To.code (E.wk [(2, E.pt g1), (3, E.i 0), (6, E.pt g8)] [(g8, (Z3uwb k s)), (g1, Z3uwc)] Nz.sub (E.C.seq ?_)))))))))))
 refine E.sr (E.li (.agg (Z3uwa k s)) 0 rfl rfl (E.ca (.bool (Z3uwe k s)) (fun w h => Valid_any ((K.rd k ((s.extract 0 ((K.len k)).toNat)).data.toList (K.len k))) (K.rd_imm k (K.fmt_lt hk) _ _) w) (E.op (.bool (!(Z3uwe k s))) (E.To.code (E.cd (!(K.valid ((K.rd k ((s.extract 0 ((K.len k)).toNat)).data.toList (K.len k))))) (fun hc9 => ?_) (fun hc9 => ?_))))))
 ·
  refine E.sr (E.vl (.agg Z3uwd) (fun w h => E.run_build Z3uwd Nz.k w) (E.st 1 Z3uwc rfl rfl (E.op (E.i 12) (E.To.code (E.C.ret (E.P.rt (E.To.body (fn := Tryz.f79) [.agg Z3uwd, E.i 12] ?_ ?_)))))))
  · exact ⟨⟨Nz.k, _, _, 1, _, rfl, rfl, Nz.k⟩, ⟨Nz.k, Nz.k⟩, trivial⟩
  intro w h
  exact ⟨by unfold K.decode1; rw [hc2, N0, hc5, N0, hc9, N1] <;> rfl, h.ch.bel (fun _ h => h.elim)⟩
 refine E.C.skip (E.To.code (E.sr (E.li (.agg (Z3uwa k s)) 0 rfl rfl (E.st 1 (Z3uwb k s) rfl rfl (E.op (E.i 0) (E.To.code (E.C.ret (E.To.body (fn := Tryz.f79) [.agg (Z3uwa k s), E.i 0] ?_ ?_))))))))
 · exact ⟨⟨Nz.k, _, _, 1, _, rfl, rfl, Nz.k⟩, ⟨Nz.k, Nz.k⟩, trivial⟩
 intro w h
 exact ⟨by unfold K.decode1; rw [hc2, N0, hc5, N0, hc9, N0] <;> rfl, h.ch.bel (fun _ h => h.elim)⟩

def K.decode (s : ByteArray) : K.Ins × Int := match K.fmt (IntKind.wrap .i64 (W.byt s.data.toList 0)) with
  | none => K.decode0 s
  | some k => K.decode1 k s
theorem Decode_any (s : ByteArray) (hs : s.size ≤ maxLen) (w : World) : Calls Tryz.prog 79 #[.string s] w fun e w' => e = .returned (.tuple #[.agg #[.int .i64 (K.decode s).1.op, .int .i64 (K.decode s).1.d, .int .i64 (K.decode s).1.s, .int .i64 (K.decode s).1.ix, .int .i64 (K.decode s).1.sc, .int .u32 (K.decode s).1.imm, .int .i64 (K.decode s).1.sz], .int .i64 (K.decode s).2]) ∧ Bel w w' := by
  unfold K.decode
  cases hk : K.fmt (IntKind.wrap .i64 (W.byt s.data.toList 0)) with
  | none => exact Decode_none s hk w
  | some k => exact Decode_some k s hk hs w
/-- The bytes at p. -/
def K.b0 (V : M.V) (p : Int) : Int := (V.fetch (p).toNat).1
def K.o0 (V : M.V) (p : Int) : Bool := (V.fetch (p).toNat).2
def K.b (V : M.V) (p k : Int) : Int := (V.fetch ((IntKind.wrap .u32 (p + k))).toNat).1
def K.o (V : M.V) (p k : Int) : Bool := (V.fetch ((IntKind.wrap .u32 (p + k))).toNat).2
def K.bl (V : M.V) (p : Int) (n : Nat) : List Int := (K.b0 V p :: [K.b V p 1, K.b V p 2, K.b V p 3, K.b V p 4, K.b V p 5, K.b V p 6]).take n
/-- The instruction of the first n of them. -/
def K.dc (V : M.V) (p : Int) (n : Nat) : K.Ins × Int := K.decode (strOfNums (K.bl V p n))
theorem K.size_le (x : Int) : K.size x ≤ 7 := by
  unfold K.size
  split
  · decide
  · next k hk => exact (K.len_bd k (K.fmt_lt hk)).2
def K.fetch (V : M.V) (p : Int) : K.Ins × Int × Int := (bif (!(K.o0 V p)) then (⟨0, 0, 0, 0, 0, 0, 0⟩, 5, p) else (bif ((K.size (K.b0 V p)) == 0) then (⟨0, 0, 0, 0, 0, 0, 0⟩, 7, 0) else (bif (decide (1 < (K.size (K.b0 V p)))) then (bif (!(K.o V p 1)) then (⟨0, 0, 0, 0, 0, 0, 0⟩, 5, (IntKind.wrap .u32 (p + 1))) else (bif (decide (2 < (K.size (K.b0 V p)))) then (bif (!(K.o V p 2)) then (⟨0, 0, 0, 0, 0, 0, 0⟩, 5, (IntKind.wrap .u32 (p + 2))) else (bif (decide (3 < (K.size (K.b0 V p)))) then (bif (!(K.o V p 3)) then (⟨0, 0, 0, 0, 0, 0, 0⟩, 5, (IntKind.wrap .u32 (p + 3))) else (bif (decide (4 < (K.size (K.b0 V p)))) then (bif (!(K.o V p 4)) then (⟨0, 0, 0, 0, 0, 0, 0⟩, 5, (IntKind.wrap .u32 (p + 4))) else (bif (decide (5 < (K.size (K.b0 V p)))) then (bif (!(K.o V p 5)) then (⟨0, 0, 0, 0, 0, 0, 0⟩, 5, (IntKind.wrap .u32 (p + 5))) else (bif (decide (6 < (K.size (K.b0 V p)))) then (bif (!(K.o V p 6)) then (⟨0, 0, 0, 0, 0, 0, 0⟩, 5, (IntKind.wrap .u32 (p + 6))) else (bif (((K.dc V p 7).2) != 0) then (((K.dc V p 7).1), 7, 0) else (((K.dc V p 7).1), 0, 0))) else (bif (((K.dc V p 6).2) != 0) then (((K.dc V p 6).1), 7, 0) else (((K.dc V p 6).1), 0, 0)))) else (bif (((K.dc V p 5).2) != 0) then (((K.dc V p 5).1), 7, 0) else (((K.dc V p 5).1), 0, 0)))) else (bif (((K.dc V p 4).2) != 0) then (((K.dc V p 4).1), 7, 0) else (((K.dc V p 4).1), 0, 0)))) else (bif (((K.dc V p 3).2) != 0) then (((K.dc V p 3).1), 7, 0) else (((K.dc V p 3).1), 0, 0)))) else (bif (((K.dc V p 2).2) != 0) then (((K.dc V p 2).1), 7, 0) else (((K.dc V p 2).1), 0, 0)))) else (bif (((K.dc V p 1).2) != 0) then (((K.dc V p 1).1), 7, 0) else (((K.dc V p 1).1), 0, 0)))))
/-- The bytes as cells. -/
def K.bv (V : M.V) (p : Int) (n : Nat) : List Value := (K.bl V p n).map (Value.int .u8)
theorem K.bl_len (V : M.V) (p : Int) {k : Nat} (h : k ≤ 7) : (K.bl V p k).length = k := by
  unfold K.bl; rw [List.length_take]; show min k 7 = k; omega
theorem K.bv_len (V : M.V) (p : Int) {k : Nat} (h : k ≤ 7) : (K.bv V p k).length = k * 1 := by unfold K.bv; rw [List.length_map, K.bl_len V p h, Nat.mul_one]
theorem K.bv_take (V : M.V) (p : Int) {k : Nat} (h : k ≤ 7) (r : List Value) : ((K.bv V p k ++ r).drop 0).take k = (K.bl V p k).map (Value.int .u8) := by
  rw [List.drop_zero, List.take_append_of_le_length (by rw [K.bv_len V p h]; omega), List.take_of_length_le (by rw [K.bv_len V p h]; omega)]; rfl
theorem K.bv_s (V : M.V) (p : Int) {k : Nat} (h1 : 1 ≤ k) (h : k < 7) : K.bv V p k ++ [Value.int .u8 (K.b V p ((k : Nat) : Int))] = K.bv V p (k + 1) := by
  rcases (by omega : k = 1 ∨ k = 2 ∨ k = 3 ∨ k = 4 ∨ k = 5 ∨ k = 6) with rfl | rfl | rfl | rfl | rfl | rfl <;> rfl
theorem K.bl_max (V : M.V) (p : Int) {k : Nat} (h : k ≤ 7) : (strOfNums (K.bl V p k)).size ≤ maxLen := by
  rw [strOfNums_size, K.bl_len V p h]; have : (7 : Nat) ≤ maxLen := (by decide); omega
theorem K.wk7 {k : Nat} (h : k ≤ 7) : IntKind.wrap .u32 ((k : Nat) : Int) = ((k : Nat) : Int) := by show ((k : Nat) : Int) % 4294967296 = _; omega
/-- What is fetched where k bytes have been read. -/
def K.fd (V : M.V) (p : Int) (k : Nat) : K.Ins × Int × Int := bif ((K.dc V p k).2 != 0) then ((K.dc V p k).1, 7, 0) else ((K.dc V p k).1, 0, 0)
def K.floop (V : M.V) (p : Int) : Nat → Nat → K.Ins × Int × Int
  | 0, k => K.fd V p k
  | f + 1, k => bif (decide (((k : Nat) : Int) < (K.size (K.b0 V p)))) then (bif (!(K.o V p ((k : Nat) : Int))) then (⟨0, 0, 0, 0, 0, 0, 0⟩, 5, IntKind.wrap .u32 (p + ((k : Nat) : Int))) else K.floop V p f (k + 1)) else K.fd V p k
theorem K.fetch_loop {V : M.V} {p : Int} (h1 : (!(K.o0 V p)) = false) (h2 : ((K.size (K.b0 V p)) == 0) = false) : K.fetch V p = K.floop V p 6 1 := by
  unfold K.fetch; rw [h1, h2, cond_false, cond_false]; rfl
theorem K.lt7 {k : Nat} {x : Int} (h : (decide (((k : Nat) : Int) < (K.size x))) = true) : k < 7 := by
  have := of_decide_eq_true h; have := K.size_le x; omega
section
variable {V : M.V} {p : Int} {k : Nat}
theorem K.fl_t (h1 : (decide (((k : Nat) : Int) < (K.size (K.b0 V p)))) = true) (h2 : (!(K.o V p ((k : Nat) : Int))) = false) : K.floop V p (7 - k) k = K.floop V p (7 - (k + 1)) (k + 1) := by
  have := K.lt7 h1
  rw [show 7 - k = (7 - (k + 1)) + 1 by omega, K.floop, h1, h2, cond_true, cond_false]
theorem K.fl_f (h1 : (decide (((k : Nat) : Int) < (K.size (K.b0 V p)))) = true) (h2 : (!(K.o V p ((k : Nat) : Int))) = true) : K.floop V p (7 - k) k = (⟨0, 0, 0, 0, 0, 0, 0⟩, 5, IntKind.wrap .u32 (p + ((k : Nat) : Int))) := by
  have := K.lt7 h1
  rw [show 7 - k = (7 - (k + 1)) + 1 by omega, K.floop, h1, h2, cond_true, cond_true]
theorem K.fl_d (h1 : (decide (((k : Nat) : Int) < (K.size (K.b0 V p)))) = false) : K.floop V p (7 - k) k = K.fd V p k := by
  cases e : 7 - k with
  | zero => rfl
  | succ f => rw [K.floop, h1, cond_false]
theorem K.fl_e (h1 : (decide (((k : Nat) : Int) < (K.size (K.b0 V p)))) = false) (h : ((K.dc V p k).2 != 0) = true) : K.floop V p (7 - k) k = ((K.dc V p k).1, 7, 0) := by rw [K.fl_d h1]; unfold K.fd; rw [h, cond_true]
theorem K.fl_g (h1 : (decide (((k : Nat) : Int) < (K.size (K.b0 V p)))) = false) (h : ((K.dc V p k).2 != 0) = false) : K.floop V p (7 - k) k = ((K.dc V p k).1, 0, 0) := by rw [K.fl_d h1]; unfold K.fd; rw [h, cond_false]
end
abbrev Zipha : Array Value := #[E.i 0, E.i 0, E.i 0, E.i 0, E.i 0, E.u 0, E.i 0]
set_option maxHeartbeats 1000000 in
theorem Fetch_rd {m : Nat} {xs : List Value} (V : M.V) (p : Int) (hp : 0 ≤ p ∧ p < 4294967296) : A.Rd Tryz.prog 52 #[.int .u32 p, .func (.method "Fetch") #[.iface 35 (.pointer (some ⟨m, 0, none⟩))] #[]] [M.It m V xs] (.tuple #[.agg #[.int .i64 (((K.fetch V p).1).op), .int .i64 (((K.fetch V p).1).d), .int .i64 (((K.fetch V p).1).s), .int .i64 (((K.fetch V p).1).ix), .int .i64 (((K.fetch V p).1).sc), .int .u32 (((K.fetch V p).1).imm), .int .i64 (((K.fetch V p).1).sz)], .agg #[.int .i64 ((K.fetch V p).2.1), .int .u32 ((K.fetch V p).2.2)]]) := by
 intro w oo aa hh
 refine E.enter (n := 68) (S := fun _ => False) Tryz.func52 rfl rfl Nz.k (A.startY hh) (E.sr (E.nw [E.i 0, E.i 0, E.i 0, E.i 0, E.i 0, E.u 0, E.i 0] 66 (fun g1 => E.nw [E.i 0, E.u 0] 47 (fun g2 => E.tr (E.op (.func (.method "Fetch") #[.iface 35 (E.pt m)] #[]) (E.op (E.u p) (E.ca (.tuple #[.int .u8 (K.b0 V p), .bool (K.o0 V p)]) (fun w h => A.Y.rd [] (I_Fetch p hp (m := m) (V := V) (xs := xs)) h.x (A.pn [0])) (E.op (.tuple #[.int .u8 (K.b0 V p), .bool (K.o0 V p)]) (E.op (.int .u8 (K.b0 V p)) (E.op (.bool (K.o0 V p)) (E.op (.int .u8 (K.b0 V p)) ?_)))))))))))
 refine E.op (.bool (K.o0 V p)) (E.To.code (E.C.seq (E.sr (E.op (.bool (K.o0 V p)) (E.op (.bool (!(K.o0 V p))) (E.To.code (E.cd (!(K.o0 V p)) (fun hc3 => ?_) (fun hc3 => ?_))))))))
 ·
  refine E.sr (E.vl (.agg Zipha) (fun w h => E.run_build Zipha Nz.k w) (E.op (E.u p) (E.vl (.agg #[E.i 5, E.u p]) (fun w h => E.run_build #[E.i 5, E.u p] Nz.k w) (E.st 1 [E.i 0, E.i 0, E.i 0, E.i 0, E.i 0, E.u 0, E.i 0] rfl rfl (E.st 0 [E.i 5, E.u p] rfl rfl (E.To.code (E.wk [(0, E.u p), (1, .func (.method "Fetch") #[.iface 35 (E.pt m)] #[]), (4, E.pt g1), (5, E.pt g2), (6, .int .u8 (K.b0 V p)), (7, .bool (K.o0 V p))] [(g2, [E.i 5, E.u p]), (g1, [E.i 0, E.i 0, E.i 0, E.i 0, E.i 0, E.u 0, E.i 0])] Nz.sub (E.C.ret (E.P.rt (E.To.body (fn := Tryz.f52) [.agg Zipha, .agg #[E.i 5, E.u p]] ?_ ?_))))))))))
  · exact ⟨⟨Nz.k, _, _, 1, _, rfl, rfl, Nz.k⟩, ⟨Nz.k, _, _, 0, _, rfl, rfl, Nz.k⟩, trivial⟩
  intro w h
  exact ⟨by unfold K.fetch; rw [hc3, N1] <;> rfl, h.ch.bel (fun _ h => h.elim)⟩
 refine E.C.skip (E.To.code (E.wk [(0, E.u p), (1, .func (.method "Fetch") #[.iface 35 (E.pt m)] #[]), (4, E.pt g1), (5, E.pt g2), (6, .int .u8 (K.b0 V p)), (7, .bool (K.o0 V p))] [(g2, [E.i 0, E.u 0]), (g1, [E.i 0, E.i 0, E.i 0, E.i 0, E.i 0, E.u 0, E.i 0])] Nz.sub (E.sr (E.op (.int .u8 (K.b0 V p)) (E.ca (E.i (K.size (K.b0 V p))) (fun w h => Size_any (K.b0 V p) w) (E.op (E.i (K.size (K.b0 V p))) (E.To.code (E.C.seq (E.sr (E.op (E.i (K.size (K.b0 V p))) (E.op (.bool ((K.size (K.b0 V p)) == 0)) (E.To.code ?_))))))))))))
 refine E.cd ((K.size (K.b0 V p)) == 0) (fun hc4 => ?_) (fun hc4 => ?_)
 ·
  refine E.sr (E.vl (.agg Zipha) (fun w h => E.run_build Zipha Nz.k w) (E.vl (.agg #[E.i 7, E.u 0]) (fun w h => E.run_build #[E.i 7, E.u 0] Nz.k w) (E.st 1 [E.i 0, E.i 0, E.i 0, E.i 0, E.i 0, E.u 0, E.i 0] rfl rfl (E.st 0 [E.i 7, E.u 0] rfl rfl (E.To.code (E.C.ret (E.P.rt (E.To.body (fn := Tryz.f52) [.agg Zipha, .agg #[E.i 7, E.u 0]] ?_ ?_))))))))
  · exact ⟨⟨Nz.k, _, _, 1, _, rfl, rfl, Nz.k⟩, ⟨Nz.k, _, _, 0, _, rfl, rfl, Nz.k⟩, trivial⟩
  intro w h
  exact ⟨by unfold K.fetch; rw [hc3, hc4, N0, N1] <;> rfl, h.ch.bel (fun _ h => h.elim)⟩
 refine E.C.skip (E.To.code (E.sr (E.op (.int .u8 (K.b0 V p)) (E.G.buildSlice [.int .u8 (K.b0 V p)] Nz.k Nz.k (fun g5 => E.op (.slice (some ⟨g5, 0, none⟩) 1 1) (E.To.code (E.C.seq (E.C.block (E.C.loop (I := Nat × Nat × Nat × List Value) (fun i => 7 - i.1) (fun i => 1 ≤ i.1 ∧ i.1 ≤ 7 ∧ i.1 ≤ i.2.2.1 ∧ i.2.2.2.length = (i.2.2.1 - i.1) * 1 ∧ K.fetch V p = K.floop V p (7 - i.1) i.1) (fun i => [(0, .int .u32 p), (1, .func (.method "Fetch") #[.iface 35 (E.pj m 0)] #[]), (4, E.pj g1 0), (5, E.pj g2 0), (8, .int .i64 (K.size (K.b0 V p))), (9, .slice (some ⟨i.2.1, 0, none⟩) i.1 i.2.2.1)]) (fun i => A.Y [M.It m V xs]) (fun i => [(i.2.1, (K.bv V p i.1 ++ i.2.2.2)), (g2, [.int .i64 0, .int .u32 0]), (g1, [.int .i64 0, .int .i64 0, .int .i64 0, .int .i64 0, .int .i64 0, .int .u32 0, .int .i64 0])]) (1, g5, 1, []) (⟨Nat.le_refl _, by show 1 ≤ 7; decide, Nat.le_refl _, rfl, K.fetch_loop hc3 hc4⟩) ⟨Nz.k, Nz.k⟩ Nz.sub (fun _ h => h) (fun i hk1 => E.C.seq (E.sr (E.op (.slice (some ⟨i.2.1, 0, none⟩) i.1 i.2.2.1) ?_))))))))))))
 refine E.op (E.i ((i.1 : Nat) : Int)) (E.op (E.i (K.size (K.b0 V p))) (E.op (.bool (decide (((i.1 : Nat) : Int) < (K.size (K.b0 V p))))) (E.To.code (E.cd (decide (((i.1 : Nat) : Int) < (K.size (K.b0 V p)))) (fun hc6 => ?_) (fun hc6 => ?_)))))
 ·
  refine E.C.skip (E.To.code (E.C.block (E.sr (E.op (E.u p) (E.op (.slice (some ⟨i.2.1, 0, none⟩) i.1 i.2.2.1) (E.op (E.i ((i.1 : Nat) : Int)) (E.vl (E.u ((i.1 : Nat) : Int)) (fun w h => E.run_as (a := E.u (IntKind.wrap .u32 ((i.1 : Nat) : Int))) Nz.k (congrArg (Value.int .u32) (K.wk7 hk1.2.1))) (E.op (E.u (IntKind.wrap .u32 (p + ((i.1 : Nat) : Int)))) (E.op (E.u (IntKind.wrap .u32 (p + ((i.1 : Nat) : Int)))) (E.tr (E.op (.func (.method "Fetch") #[.iface 35 (E.pt m)] #[]) (E.op (E.u (IntKind.wrap .u32 (p + ((i.1 : Nat) : Int)))) ?_))))))))))))
  refine E.ca (.tuple #[.int .u8 (K.b V p ((i.1 : Nat) : Int)), .bool (K.o V p ((i.1 : Nat) : Int))]) (fun w h => A.Y.rd [] (I_Fetch (IntKind.wrap .u32 (p + ((i.1 : Nat) : Int))) (Q.wrap_bd _) (m := m) (V := V) (xs := xs)) h.x (A.pn [0])) (E.op (.tuple #[.int .u8 (K.b V p ((i.1 : Nat) : Int)), .bool (K.o V p ((i.1 : Nat) : Int))]) (E.op (.int .u8 (K.b V p ((i.1 : Nat) : Int))) (E.op (.bool (K.o V p ((i.1 : Nat) : Int))) (E.op (.int .u8 (K.b V p ((i.1 : Nat) : Int))) (E.op (.bool (K.o V p ((i.1 : Nat) : Int))) (E.To.code (E.C.seq (E.sr (E.op (.bool (K.o V p ((i.1 : Nat) : Int))) (E.op (.bool (!(K.o V p ((i.1 : Nat) : Int)))) (E.To.code ?_)))))))))))
  refine E.cd (!(K.o V p ((i.1 : Nat) : Int))) (fun hc7 => ?_) (fun hc7 => ?_)
  ·
   refine E.sr (E.vl (.agg Zipha) (fun w h => E.run_build Zipha Nz.k w) (E.op (E.u (IntKind.wrap .u32 (p + ((i.1 : Nat) : Int)))) (E.vl (.agg #[E.i 5, E.u (IntKind.wrap .u32 (p + ((i.1 : Nat) : Int)))]) (fun w h => E.run_build #[E.i 5, E.u (IntKind.wrap .u32 (p + ((i.1 : Nat) : Int)))] Nz.k w) (E.st 2 [E.i 0, E.i 0, E.i 0, E.i 0, E.i 0, E.u 0, E.i 0] rfl rfl (E.st 1 [E.i 5, E.u (IntKind.wrap .u32 (p + ((i.1 : Nat) : Int)))] rfl rfl (E.To.code (E.C.ret (E.P.rt (E.P.rb (E.P.rt (E.P.rb (E.P.rt (E.To.body (fn := Tryz.f52) [.agg Zipha, .agg #[E.i 5, E.u (IntKind.wrap .u32 (p + ((i.1 : Nat) : Int)))]] ?_ ?_)))))))))))))
   · exact ⟨⟨Nz.k, _, _, 2, _, rfl, rfl, Nz.k⟩, ⟨Nz.k, _, _, 1, _, rfl, rfl, Nz.k⟩, trivial⟩
   intro w h
   exact ⟨by rw [hk1.2.2.2.2, K.fl_f hc6 hc7] <;> rfl, h.ch.bel (fun _ h => h.elim)⟩
  exact E.C.skip (E.To.code (E.C.region (E.op (.slice (some ⟨i.2.1, 0, none⟩) i.1 i.2.2.1) (E.op (.int .u8 (K.b V p ((i.1 : Nat) : Int))) (E.G.buildSlice [.int .u8 (K.b V p ((i.1 : Nat) : Int))] Nz.k Nz.k (fun g8 => E.G.append (e := 5) 1 i.2.1 i.1 i.2.2.1 0 g8 0 1 1 1 1 (K.bv V p i.1) i.2.2.2 [.int .u8 (K.b V p ((i.1 : Nat) : Int))] _ Nz.k Nz.k Nz.k rfl (K.bv_len V p hk1.2.1) hk1.2.2.2.1 hk1.2.2.1 Nz.k rfl Nz.k rfl (by rfl) (by omega) (by omega) (by omega) Nz.k (fun g9 c10 r11 hc12 hr13 => E.G.relist [(g9, (K.bv V p (i.1 + 1) ++ r11)), (g8, [.int .u8 (K.b V p ((i.1 : Nat) : Int))]), (g2, [E.i 0, E.u 0]), (g1, [E.i 0, E.i 0, E.i 0, E.i 0, E.i 0, E.u 0, E.i 0])] (by rw [← K.bv_s V p hk1.1 (K.lt7 hc6)] <;> rfl) (E.op (.slice (some ⟨g9, 0, none⟩) (i.1 + 1) c10) (E.P.nb (E.To.round (i.1 + 1, g9, c10, r11) (by show 7 - (i.1 + 1) < 7 - i.1; have := K.lt7 hc6; omega) (⟨by omega, by have := K.lt7 hc6; omega, hc12, hr13, hk1.2.2.2.2.trans (K.fl_t hc6 hc7)⟩) ⟨Nz.k, Nz.k⟩ Nz.sub (fun _ h => h)))))))))))
 refine E.C.exit (E.P.et (E.P.et (E.P.eh (E.To.code (E.sr (E.op (.slice (some ⟨i.2.1, 0, none⟩) i.1 i.2.2.1) (E.vl (.string (strOfNums (K.bl V p i.1))) (fun w h => E.b2s h 0 i.2.1 0 i.1 i.2.2.1 (K.bl V p i.1) (e := 5) Nz.k Nz.k Nz.k Nz.k rfl (K.bv_take V p hk1.2.1 _) (K.bl_len V p hk1.2.1)) (E.ca (.tuple #[.agg #[E.i (((K.dc V p i.1).1).op), E.i (((K.dc V p i.1).1).d), E.i (((K.dc V p i.1).1).s), E.i (((K.dc V p i.1).1).ix), E.i (((K.dc V p i.1).1).sc), E.u (((K.dc V p i.1).1).imm), E.i (((K.dc V p i.1).1).sz)], E.i ((K.dc V p i.1).2)]) (fun w h => Decode_any (strOfNums (K.bl V p i.1)) (K.bl_max V p hk1.2.1) w) (E.op (.tuple #[.agg #[E.i (((K.dc V p i.1).1).op), E.i (((K.dc V p i.1).1).d), E.i (((K.dc V p i.1).1).s), E.i (((K.dc V p i.1).1).ix), E.i (((K.dc V p i.1).1).sc), E.u (((K.dc V p i.1).1).imm), E.i (((K.dc V p i.1).1).sz)], E.i ((K.dc V p i.1).2)]) (E.op (.agg #[E.i (((K.dc V p i.1).1).op), E.i (((K.dc V p i.1).1).d), E.i (((K.dc V p i.1).1).s), E.i (((K.dc V p i.1).1).ix), E.i (((K.dc V p i.1).1).sc), E.u (((K.dc V p i.1).1).imm), E.i (((K.dc V p i.1).1).sz)]) (E.op (E.i ((K.dc V p i.1).2)) (E.nw [E.i 0, E.i 0, E.i 0, E.i 0, E.i 0, E.u 0, E.i 0] 66 (fun g14 => E.st 0 [E.i (((K.dc V p i.1).1).op), E.i (((K.dc V p i.1).1).d), E.i (((K.dc V p i.1).1).s), E.i (((K.dc V p i.1).1).ix), E.i (((K.dc V p i.1).1).sc), E.u (((K.dc V p i.1).1).imm), E.i (((K.dc V p i.1).1).sz)] rfl rfl (E.op (E.i ((K.dc V p i.1).2)) (E.To.code ?_)))))))))))))))
 refine E.wk [(4, E.pt g1), (5, E.pt g2), (11, E.pt g14), (12, E.i ((K.dc V p i.1).2))] [(g14, [E.i (((K.dc V p i.1).1).op), E.i (((K.dc V p i.1).1).d), E.i (((K.dc V p i.1).1).s), E.i (((K.dc V p i.1).1).ix), E.i (((K.dc V p i.1).1).sc), E.u (((K.dc V p i.1).1).imm), E.i (((K.dc V p i.1).1).sz)]), (g2, [E.i 0, E.u 0]), (g1, [E.i 0, E.i 0, E.i 0, E.i 0, E.i 0, E.u 0, E.i 0])] Nz.sub (E.C.seq (E.sr (E.op (E.i ((K.dc V p i.1).2)) (E.op (.bool (((K.dc V p i.1).2) != 0)) (E.To.code (E.cd (((K.dc V p i.1).2) != 0) (fun hc15 => ?_) (fun hc15 => ?_)))))))
 ·
  refine E.sr (E.li (.agg #[E.i (((K.dc V p i.1).1).op), E.i (((K.dc V p i.1).1).d), E.i (((K.dc V p i.1).1).s), E.i (((K.dc V p i.1).1).ix), E.i (((K.dc V p i.1).1).sc), E.u (((K.dc V p i.1).1).imm), E.i (((K.dc V p i.1).1).sz)]) 0 rfl rfl (E.vl (.agg #[E.i 7, E.u 0]) (fun w h => E.run_build #[E.i 7, E.u 0] Nz.k w) (E.st 2 [E.i (((K.dc V p i.1).1).op), E.i (((K.dc V p i.1).1).d), E.i (((K.dc V p i.1).1).s), E.i (((K.dc V p i.1).1).ix), E.i (((K.dc V p i.1).1).sc), E.u (((K.dc V p i.1).1).imm), E.i (((K.dc V p i.1).1).sz)] rfl rfl (E.st 1 [E.i 7, E.u 0] rfl rfl (E.To.code (E.C.ret (E.P.rt (E.To.body (fn := Tryz.f52) [.agg #[E.i (((K.dc V p i.1).1).op), E.i (((K.dc V p i.1).1).d), E.i (((K.dc V p i.1).1).s), E.i (((K.dc V p i.1).1).ix), E.i (((K.dc V p i.1).1).sc), E.u (((K.dc V p i.1).1).imm), E.i (((K.dc V p i.1).1).sz)], .agg #[E.i 7, E.u 0]] ?_ ?_))))))))
  · exact ⟨⟨Nz.k, _, _, 2, _, rfl, rfl, Nz.k⟩, ⟨Nz.k, _, _, 1, _, rfl, rfl, Nz.k⟩, trivial⟩
  intro w h
  exact ⟨by rw [hk1.2.2.2.2, K.fl_e hc6 hc15] <;> rfl, h.ch.bel (fun _ h => h.elim)⟩
 refine E.C.skip (E.To.code (E.sr (E.li (.agg #[E.i (((K.dc V p i.1).1).op), E.i (((K.dc V p i.1).1).d), E.i (((K.dc V p i.1).1).s), E.i (((K.dc V p i.1).1).ix), E.i (((K.dc V p i.1).1).sc), E.u (((K.dc V p i.1).1).imm), E.i (((K.dc V p i.1).1).sz)]) 0 rfl rfl (E.vl (.agg #[E.i 0, E.u 0]) (fun w h => E.run_build #[E.i 0, E.u 0] Nz.k w) (E.st 2 [E.i (((K.dc V p i.1).1).op), E.i (((K.dc V p i.1).1).d), E.i (((K.dc V p i.1).1).s), E.i (((K.dc V p i.1).1).ix), E.i (((K.dc V p i.1).1).sc), E.u (((K.dc V p i.1).1).imm), E.i (((K.dc V p i.1).1).sz)] rfl rfl (E.st 1 [E.i 0, E.u 0] rfl rfl (E.To.code (E.C.ret (E.To.body (fn := Tryz.f52) [.agg #[E.i (((K.dc V p i.1).1).op), E.i (((K.dc V p i.1).1).d), E.i (((K.dc V p i.1).1).s), E.i (((K.dc V p i.1).1).ix), E.i (((K.dc V p i.1).1).sc), E.u (((K.dc V p i.1).1).imm), E.i (((K.dc V p i.1).1).sz)], .agg #[E.i 0, E.u 0]] ?_ ?_)))))))))
 · exact ⟨⟨Nz.k, _, _, 2, _, rfl, rfl, Nz.k⟩, ⟨Nz.k, _, _, 1, _, rfl, rfl, Nz.k⟩, trivial⟩
 intro w h
 exact ⟨by rw [hk1.2.2.2.2, K.fl_g hc6 hc15] <;> rfl, h.ch.bel (fun _ h => h.elim)⟩
theorem wnames_any (w : World) : Calls Tryz.prog 91 #[] w fun e w' => e = .returned (.agg #[.string ⟨#[101, 113]⟩, .string ⟨#[110, 101]⟩, .string ⟨#[99, 115]⟩, .string ⟨#[99, 99]⟩, .string ⟨#[109, 105]⟩, .string ⟨#[112, 108]⟩, .string ⟨#[118, 115]⟩, .string ⟨#[118, 99]⟩, .string ⟨#[104, 105]⟩, .string ⟨#[108, 115]⟩, .string ⟨#[103, 101]⟩, .string ⟨#[108, 116]⟩, .string ⟨#[103, 116]⟩, .string ⟨#[108, 101]⟩]) ∧ Bel w w' := by
  go_enter Tryz.func91, Tryz.ntmps91
  go_wp2
  exact bodyPost_ret (v := .agg #[.string ⟨#[101, 113]⟩, .string ⟨#[110, 101]⟩, .string ⟨#[99, 115]⟩, .string ⟨#[99, 99]⟩, .string ⟨#[109, 105]⟩, .string ⟨#[112, 108]⟩, .string ⟨#[118, 115]⟩, .string ⟨#[118, 99]⟩, .string ⟨#[104, 105]⟩, .string ⟨#[108, 115]⟩, .string ⟨#[103, 101]⟩, .string ⟨#[108, 116]⟩, .string ⟨#[103, 116]⟩, .string ⟨#[108, 101]⟩]) (by simp [results, Tryz.results91, go_sem]) rfl ⟨rfl, Nz.bel⟩
theorem Cond_0 (f : Int) (w : World) : Calls Tryz.prog 56 #[.int .i64 0, .int .u32 f] w fun e w' => e = .returned (.bool (W.cond 0 f)) ∧ Bel w w' := by
  have hn : (bits .and .u32 f 8 != 0) = W.fN f := rfl
  have hz : (bits .and .u32 f 4 != 0) = W.fZ f := rfl
  have hc : (bits .and .u32 f 2 != 0) = W.fC f := rfl
  have hv : (bits .and .u32 f 1 != 0) = W.fV f := rfl
  go_enter Tryz.func56, Tryz.ntmps56
  go_wp2_with (go_at_call 91; refine (wnames_any _).mono ?_; rintro e w' ⟨rfl, hb⟩)
  all_goals
    go_ret
    exact ⟨ret_bool (by simp_all [W.cond, W.condB] <;> cases W.fN f <;> cases W.fV f <;> rfl), Nz.bel⟩
theorem Cond_1 (f : Int) (w : World) : Calls Tryz.prog 56 #[.int .i64 1, .int .u32 f] w fun e w' => e = .returned (.bool (W.cond 1 f)) ∧ Bel w w' := by
  have hn : (bits .and .u32 f 8 != 0) = W.fN f := rfl
  have hz : (bits .and .u32 f 4 != 0) = W.fZ f := rfl
  have hc : (bits .and .u32 f 2 != 0) = W.fC f := rfl
  have hv : (bits .and .u32 f 1 != 0) = W.fV f := rfl
  go_enter Tryz.func56, Tryz.ntmps56
  go_wp2_with (go_at_call 91; refine (wnames_any _).mono ?_; rintro e w' ⟨rfl, hb⟩)
  all_goals
    go_ret
    exact ⟨ret_bool (by simp_all [W.cond, W.condB] <;> cases W.fN f <;> cases W.fV f <;> rfl), Nz.bel⟩
theorem Cond_2 (f : Int) (w : World) : Calls Tryz.prog 56 #[.int .i64 2, .int .u32 f] w fun e w' => e = .returned (.bool (W.cond 2 f)) ∧ Bel w w' := by
  have hn : (bits .and .u32 f 8 != 0) = W.fN f := rfl
  have hz : (bits .and .u32 f 4 != 0) = W.fZ f := rfl
  have hc : (bits .and .u32 f 2 != 0) = W.fC f := rfl
  have hv : (bits .and .u32 f 1 != 0) = W.fV f := rfl
  go_enter Tryz.func56, Tryz.ntmps56
  go_wp2_with (go_at_call 91; refine (wnames_any _).mono ?_; rintro e w' ⟨rfl, hb⟩)
  all_goals
    go_ret
    exact ⟨ret_bool (by simp_all [W.cond, W.condB] <;> cases W.fN f <;> cases W.fV f <;> rfl), Nz.bel⟩
theorem Cond_3 (f : Int) (w : World) : Calls Tryz.prog 56 #[.int .i64 3, .int .u32 f] w fun e w' => e = .returned (.bool (W.cond 3 f)) ∧ Bel w w' := by
  have hn : (bits .and .u32 f 8 != 0) = W.fN f := rfl
  have hz : (bits .and .u32 f 4 != 0) = W.fZ f := rfl
  have hc : (bits .and .u32 f 2 != 0) = W.fC f := rfl
  have hv : (bits .and .u32 f 1 != 0) = W.fV f := rfl
  go_enter Tryz.func56, Tryz.ntmps56
  go_wp2_with (go_at_call 91; refine (wnames_any _).mono ?_; rintro e w' ⟨rfl, hb⟩)
  all_goals
    go_ret
    exact ⟨ret_bool (by simp_all [W.cond, W.condB] <;> cases W.fN f <;> cases W.fV f <;> rfl), Nz.bel⟩
theorem Cond_4 (f : Int) (w : World) : Calls Tryz.prog 56 #[.int .i64 4, .int .u32 f] w fun e w' => e = .returned (.bool (W.cond 4 f)) ∧ Bel w w' := by
  have hn : (bits .and .u32 f 8 != 0) = W.fN f := rfl
  have hz : (bits .and .u32 f 4 != 0) = W.fZ f := rfl
  have hc : (bits .and .u32 f 2 != 0) = W.fC f := rfl
  have hv : (bits .and .u32 f 1 != 0) = W.fV f := rfl
  go_enter Tryz.func56, Tryz.ntmps56
  go_wp2_with (go_at_call 91; refine (wnames_any _).mono ?_; rintro e w' ⟨rfl, hb⟩)
  all_goals
    go_ret
    exact ⟨ret_bool (by simp_all [W.cond, W.condB] <;> cases W.fN f <;> cases W.fV f <;> rfl), Nz.bel⟩
theorem Cond_5 (f : Int) (w : World) : Calls Tryz.prog 56 #[.int .i64 5, .int .u32 f] w fun e w' => e = .returned (.bool (W.cond 5 f)) ∧ Bel w w' := by
  have hn : (bits .and .u32 f 8 != 0) = W.fN f := rfl
  have hz : (bits .and .u32 f 4 != 0) = W.fZ f := rfl
  have hc : (bits .and .u32 f 2 != 0) = W.fC f := rfl
  have hv : (bits .and .u32 f 1 != 0) = W.fV f := rfl
  go_enter Tryz.func56, Tryz.ntmps56
  go_wp2_with (go_at_call 91; refine (wnames_any _).mono ?_; rintro e w' ⟨rfl, hb⟩)
  all_goals
    go_ret
    exact ⟨ret_bool (by simp_all [W.cond, W.condB] <;> cases W.fN f <;> cases W.fV f <;> rfl), Nz.bel⟩
theorem Cond_6 (f : Int) (w : World) : Calls Tryz.prog 56 #[.int .i64 6, .int .u32 f] w fun e w' => e = .returned (.bool (W.cond 6 f)) ∧ Bel w w' := by
  have hn : (bits .and .u32 f 8 != 0) = W.fN f := rfl
  have hz : (bits .and .u32 f 4 != 0) = W.fZ f := rfl
  have hc : (bits .and .u32 f 2 != 0) = W.fC f := rfl
  have hv : (bits .and .u32 f 1 != 0) = W.fV f := rfl
  go_enter Tryz.func56, Tryz.ntmps56
  go_wp2_with (go_at_call 91; refine (wnames_any _).mono ?_; rintro e w' ⟨rfl, hb⟩)
  all_goals
    go_ret
    exact ⟨ret_bool (by simp_all [W.cond, W.condB] <;> cases W.fN f <;> cases W.fV f <;> rfl), Nz.bel⟩
theorem Cond_7 (f : Int) (w : World) : Calls Tryz.prog 56 #[.int .i64 7, .int .u32 f] w fun e w' => e = .returned (.bool (W.cond 7 f)) ∧ Bel w w' := by
  have hn : (bits .and .u32 f 8 != 0) = W.fN f := rfl
  have hz : (bits .and .u32 f 4 != 0) = W.fZ f := rfl
  have hc : (bits .and .u32 f 2 != 0) = W.fC f := rfl
  have hv : (bits .and .u32 f 1 != 0) = W.fV f := rfl
  go_enter Tryz.func56, Tryz.ntmps56
  go_wp2_with (go_at_call 91; refine (wnames_any _).mono ?_; rintro e w' ⟨rfl, hb⟩)
  all_goals
    go_ret
    exact ⟨ret_bool (by simp_all [W.cond, W.condB] <;> cases W.fN f <;> cases W.fV f <;> rfl), Nz.bel⟩
theorem Cond_8 (f : Int) (w : World) : Calls Tryz.prog 56 #[.int .i64 8, .int .u32 f] w fun e w' => e = .returned (.bool (W.cond 8 f)) ∧ Bel w w' := by
  have hn : (bits .and .u32 f 8 != 0) = W.fN f := rfl
  have hz : (bits .and .u32 f 4 != 0) = W.fZ f := rfl
  have hc : (bits .and .u32 f 2 != 0) = W.fC f := rfl
  have hv : (bits .and .u32 f 1 != 0) = W.fV f := rfl
  go_enter Tryz.func56, Tryz.ntmps56
  go_wp2_with (go_at_call 91; refine (wnames_any _).mono ?_; rintro e w' ⟨rfl, hb⟩)
  all_goals
    go_ret
    exact ⟨ret_bool (by simp_all [W.cond, W.condB] <;> cases W.fN f <;> cases W.fV f <;> rfl), Nz.bel⟩
theorem Cond_9 (f : Int) (w : World) : Calls Tryz.prog 56 #[.int .i64 9, .int .u32 f] w fun e w' => e = .returned (.bool (W.cond 9 f)) ∧ Bel w w' := by
  have hn : (bits .and .u32 f 8 != 0) = W.fN f := rfl
  have hz : (bits .and .u32 f 4 != 0) = W.fZ f := rfl
  have hc : (bits .and .u32 f 2 != 0) = W.fC f := rfl
  have hv : (bits .and .u32 f 1 != 0) = W.fV f := rfl
  go_enter Tryz.func56, Tryz.ntmps56
  go_wp2_with (go_at_call 91; refine (wnames_any _).mono ?_; rintro e w' ⟨rfl, hb⟩)
  all_goals
    go_ret
    exact ⟨ret_bool (by simp_all [W.cond, W.condB] <;> cases W.fN f <;> cases W.fV f <;> rfl), Nz.bel⟩
theorem Cond_10 (f : Int) (w : World) : Calls Tryz.prog 56 #[.int .i64 10, .int .u32 f] w fun e w' => e = .returned (.bool (W.cond 10 f)) ∧ Bel w w' := by
  have hn : (bits .and .u32 f 8 != 0) = W.fN f := rfl
  have hz : (bits .and .u32 f 4 != 0) = W.fZ f := rfl
  have hc : (bits .and .u32 f 2 != 0) = W.fC f := rfl
  have hv : (bits .and .u32 f 1 != 0) = W.fV f := rfl
  go_enter Tryz.func56, Tryz.ntmps56
  go_wp2_with (go_at_call 91; refine (wnames_any _).mono ?_; rintro e w' ⟨rfl, hb⟩)
  all_goals
    go_ret
    exact ⟨ret_bool (by simp_all [W.cond, W.condB] <;> cases W.fN f <;> cases W.fV f <;> rfl), Nz.bel⟩
theorem Cond_11 (f : Int) (w : World) : Calls Tryz.prog 56 #[.int .i64 11, .int .u32 f] w fun e w' => e = .returned (.bool (W.cond 11 f)) ∧ Bel w w' := by
  have hn : (bits .and .u32 f 8 != 0) = W.fN f := rfl
  have hz : (bits .and .u32 f 4 != 0) = W.fZ f := rfl
  have hc : (bits .and .u32 f 2 != 0) = W.fC f := rfl
  have hv : (bits .and .u32 f 1 != 0) = W.fV f := rfl
  go_enter Tryz.func56, Tryz.ntmps56
  go_wp2_with (go_at_call 91; refine (wnames_any _).mono ?_; rintro e w' ⟨rfl, hb⟩)
  all_goals
    go_ret
    exact ⟨ret_bool (by simp_all [W.cond, W.condB] <;> cases W.fN f <;> cases W.fV f <;> rfl), Nz.bel⟩
theorem Cond_12 (f : Int) (w : World) : Calls Tryz.prog 56 #[.int .i64 12, .int .u32 f] w fun e w' => e = .returned (.bool (W.cond 12 f)) ∧ Bel w w' := by
  have hn : (bits .and .u32 f 8 != 0) = W.fN f := rfl
  have hz : (bits .and .u32 f 4 != 0) = W.fZ f := rfl
  have hc : (bits .and .u32 f 2 != 0) = W.fC f := rfl
  have hv : (bits .and .u32 f 1 != 0) = W.fV f := rfl
  go_enter Tryz.func56, Tryz.ntmps56
  go_wp2_with (go_at_call 91; refine (wnames_any _).mono ?_; rintro e w' ⟨rfl, hb⟩)
  all_goals
    go_ret
    exact ⟨ret_bool (by simp_all [W.cond, W.condB] <;> cases W.fN f <;> cases W.fV f <;> rfl), Nz.bel⟩
theorem Cond_13 (f : Int) (w : World) : Calls Tryz.prog 56 #[.int .i64 13, .int .u32 f] w fun e w' => e = .returned (.bool (W.cond 13 f)) ∧ Bel w w' := by
  have hn : (bits .and .u32 f 8 != 0) = W.fN f := rfl
  have hz : (bits .and .u32 f 4 != 0) = W.fZ f := rfl
  have hc : (bits .and .u32 f 2 != 0) = W.fC f := rfl
  have hv : (bits .and .u32 f 1 != 0) = W.fV f := rfl
  go_enter Tryz.func56, Tryz.ntmps56
  go_wp2_with (go_at_call 91; refine (wnames_any _).mono ?_; rintro e w' ⟨rfl, hb⟩)
  all_goals
    go_ret
    exact ⟨ret_bool (by simp_all [W.cond, W.condB] <;> cases W.fN f <;> cases W.fV f <;> rfl), Nz.bel⟩
theorem Cond_n (cc f : Int) (hk : cc < 0 ∨ 13 < cc) (w : World) : Calls Tryz.prog 56 #[.int .i64 cc, .int .u32 f] w fun e w' => e = .returned (.bool (W.cond cc f)) ∧ Bel w w' := by
  have HF := hid (W.cond_n cc f hk)
  rcases hk with h | h
  · have d : decide (cc < 0) = true := by simp; omega
    go_enter Tryz.func56, Tryz.ntmps56
    go_wp2_with fail
    go_ret
    exact ⟨ret_bool (by rw [HF.out]), Nz.bel⟩
  · have d : decide (cc < 0) = false := by simp; omega
    have d2 : decide (14 ≤ cc) = true := by simp; omega
    go_enter Tryz.func56, Tryz.ntmps56
    go_wp2_with (go_at_call 91; refine (wnames_any _).mono ?_; rintro e w' ⟨rfl, hb⟩)
    go_ret
    exact ⟨ret_bool (by rw [HF.out]), Nz.bel⟩
theorem Cond_any (cc f : Int) (w : World) : Calls Tryz.prog 56 #[.int .i64 cc, .int .u32 f] w fun e w' => e = .returned (.bool (W.cond cc f)) ∧ Bel w w' := by
  rcases (by omega : cc = 0 ∨ cc = 1 ∨ cc = 2 ∨ cc = 3 ∨ cc = 4 ∨ cc = 5 ∨ cc = 6 ∨ cc = 7 ∨ cc = 8 ∨ cc = 9 ∨ cc = 10 ∨ cc = 11 ∨ cc = 12 ∨ cc = 13 ∨ (cc < 0 ∨ 13 < cc)) with rfl | rfl | rfl | rfl | rfl | rfl | rfl | rfl | rfl | rfl | rfl | rfl | rfl | rfl | h
  · exact Cond_0 f w
  · exact Cond_1 f w
  · exact Cond_2 f w
  · exact Cond_3 f w
  · exact Cond_4 f w
  · exact Cond_5 f w
  · exact Cond_6 f w
  · exact Cond_7 f w
  · exact Cond_8 f w
  · exact Cond_9 f w
  · exact Cond_10 f w
  · exact Cond_11 f w
  · exact Cond_12 f w
  · exact Cond_13 f w
  · exact Cond_n cc f h w

end Go.Proofs.YtglidnmmeclneaaGreat
namespace Go.Proofs.YtglidnmmeclneaaGreat
set_option linter.unusedVariables false
set_option linter.unusedSimpArgs false
open Go.RowKit
/-- A row of marks. -/
def E.bits (n k : Nat) : Array Bool := ((List.range n).map (Nat.testBit k)).toArray
section
variable {P : Program} {n : Nat} {ops : Array Oper} {Q : Exit → Act → World → Prop} {S : Nat → Prop} {w0 : World} {X : World → Prop} {L : List (Nat × List Value)} {fr : E.Fr} {D : World → Prop} {fuel : Nat} {listed : Array Bool}
/-- Nodes of a region that draws its order. -/
theorem E.H.gen (h : ∀ (H : Nat → Array Bool → E.Fr → (World → Prop) → List (Nat × List Value) → Prop), (∀ f l fr X L, E.H P n ops Q D f l fr S w0 X L → H f l fr X L) → (∀ f l fr X L, H f l fr X L → E.H P n ops Q D f l fr S w0 X L) → H fuel listed fr X L) : E.H P n ops Q D fuel listed fr S w0 X L :=
  h (fun f l fr X L => E.H P n ops Q D f l fr S w0 X L) (fun _ _ _ _ _ h => h) (fun _ _ _ _ _ h => h)
theorem E.H.to (listed' : Array Bool) (fr' : E.Fr) (L' : List (Nat × List Value)) (he : listed = listed') (hs : E.sub fr' fr) (hl : L'.Sublist L) (k : E.H P n ops Q D fuel listed' fr' S w0 X L') : E.H P n ops Q D fuel listed fr S w0 X L :=
  he ▸ E.H.weak fr' L' hs hl k
theorem E.H.toP (listed' : Array Bool) (fr' : E.Fr) (L' : List (Nat × List Value)) (he : listed = listed') (hs : E.sub fr' fr) (hl : L.Perm L') (k : E.H P n ops Q D fuel listed' fr' S w0 X L') : E.H P n ops Q D fuel listed fr S w0 X L :=
  he ▸ fun a w h1 h2 => k a w (h1.sub hs) (h2.perm hl.symm)
end
theorem A.hpY0 {w0 w : World} {o0 a0 : Nat → Prop} {its : List A.It} {L : List (Nat × List Value)} (h : E.Hp o0 w0 (A.X w0 o0 a0 its) L w) (hne : A.ne L = true) : A.Y (A.bl L) w :=
  A.hpY (p := A.bl L) (r := its) h hne (List.Perm.refl _)
end Go.Proofs.YtglidnmmeclneaaGreat

/- Nodes: what is found by itself. -/
namespace Go.Proofs.YtglidnmmeclneaaGreat
section
variable {P : Program} {n : Nat} {ops : Array Oper} {Q : Exit → Act → World → Prop} {S : Nat → Prop} {w0 : World} {X : World → Prop} {L : List (Nat × List Value)} {fr : E.Fr} {D : World → Prop} {fuel : Nat} {listed : Array Bool}
theorem E.ho {listed' : Array Bool} {fr' : E.Fr} {L' : List (Nat × List Value)} (k : E.H P n ops Q D fuel listed' fr' S w0 X L') (he : listed = listed' := by kernel_rfl) (hs : E.sub fr' fr := by exact ⟨by kernel_rfl, by kernel_rfl⟩) (hl : L'.Sublist L := by exact Nz.sub) : E.H P n ops Q D fuel listed fr S w0 X L := E.H.to _ _ _ he hs hl k
theorem E.hb {listed' : Array Bool} {fr' : E.Fr} {L' : List (Nat × List Value)} (k : E.H P n ops Q D fuel listed' fr' S w0 X L') (he : listed = listed' := by kernel_rfl) (hs : E.sub fr' fr := by exact ⟨by kernel_rfl, by kernel_rfl⟩) (hl : L'.Sublist L := by exact Nz.sub) (hD : ∀ w, E.Hp S w0 X L w → D w := by exact (fun w h => A.hpY0 h (by kernel_rfl))) : E.G P n ops (Exit.then (fun a' w' => D w' ∧ wpAnyH P .any ops Q D fuel listed a' w') Q) [] fr S w0 X L := E.H.back hD (E.H.to _ _ _ he hs hl k)
end
end Go.Proofs.YtglidnmmeclneaaGreat
namespace Go.Proofs.YtglidnmmeclneaaGreat
set_option linter.unusedVariables false
set_option linter.unusedSimpArgs false
open Go.RowKit
/-- The step as it begins. -/
def K.w0 (s : Q.S) (i : K.Ins) : K.W := ⟨s, ⟨(IntKind.wrap .u32 (s.pc + (IntKind.wrap .u32 i.sz))), s.r, s.f, s.c, (IntKind.wrap .i64 (s.st + 1)), s.du⟩, i, 0, 0⟩
theorem K.w0_wf {s : Q.S} {i : K.Ins} (h : Q.wf s) : K.wf (K.w0 s i) := ⟨h, ⟨Q.wrap_bd _, h.r, h.c⟩⟩
theorem K.eq0 {k : Int} (h : (k != 0) = false) : (k == 0) = true := by rw [bne] at h; cases e : (k == 0) with
  | true => rfl
  | false => rw [e] at h; cases h
theorem K.rg0 {o : Int} (h : ((decide (o ≥ 32)) && (decide (o ≤ 46))) = true) : 32 ≤ o ∧ o ≤ 46 := by
  rw [Bool.and_eq_true, decide_eq_true_eq, decide_eq_true_eq] at h; exact h
theorem K.rng16 {o : Int} (h : ((decide (o ≥ 48)) && (decide (o ≤ 62))) = true) : 32 ≤ IntKind.wrap .i64 (o - 16) ∧ IntKind.wrap .i64 (o - 16) ≤ 46 := by
  rw [Bool.and_eq_true, decide_eq_true_eq, decide_eq_true_eq] at h
  rw [IntWalk.i64_in _ (by omega)]; omega
theorem K.rng32 {o : Int} (h : ((decide (o ≥ 64)) && (decide (o ≤ 78))) = true) : 32 ≤ IntKind.wrap .i64 (o - 32) ∧ IntKind.wrap .i64 (o - 32) ≤ 46 := by
  rw [Bool.and_eq_true, decide_eq_true_eq, decide_eq_true_eq] at h
  rw [IntWalk.i64_in _ (by omega)]; omega
theorem A.rdAs {P : Program} {f : FuncId} {args : Array Value} {p : List A.It} {v v' : Value} (h : A.Rd P f args p v) (e : v = v') : A.Rd P f args p v' := e ▸ h
def K.stepI (i : K.Ins) (k t : Int) (s : Q.S) (V : M.V) : Q.S × Int × Int × M.V := (bif (k != 0) then (s, k, t, V) else (bif ((decide (i.op ≥ 32)) && (decide (i.op ≤ 46))) then (bif (((K.arith (K.w0 s i) i.op (s.r ((i.s).toNat))).k) != 0) then (s, (K.arith (K.w0 s i) i.op (s.r ((i.s).toNat))).k, (K.arith (K.w0 s i) i.op (s.r ((i.s).toNat))).t, V) else (((K.arith (K.w0 s i) i.op (s.r ((i.s).toNat))).s), (K.arith (K.w0 s i) i.op (s.r ((i.s).toNat))).k, (K.arith (K.w0 s i) i.op (s.r ((i.s).toNat))).t, V)) else (bif ((decide (i.op ≥ 48)) && (decide (i.op ≤ 62))) then (bif (((K.arith (K.w0 s i) (IntKind.wrap .i64 (i.op - 16)) i.imm).k) != 0) then (s, (K.arith (K.w0 s i) (IntKind.wrap .i64 (i.op - 16)) i.imm).k, (K.arith (K.w0 s i) (IntKind.wrap .i64 (i.op - 16)) i.imm).t, V) else (((K.arith (K.w0 s i) (IntKind.wrap .i64 (i.op - 16)) i.imm).s), (K.arith (K.w0 s i) (IntKind.wrap .i64 (i.op - 16)) i.imm).k, (K.arith (K.w0 s i) (IntKind.wrap .i64 (i.op - 16)) i.imm).t, V)) else (bif ((decide (i.op ≥ 64)) && (decide (i.op ≤ 78))) then (bif (((K.arith (K.w0 s i) (IntKind.wrap .i64 (i.op - 32)) i.imm).k) != 0) then (s, (K.arith (K.w0 s i) (IntKind.wrap .i64 (i.op - 32)) i.imm).k, (K.arith (K.w0 s i) (IntKind.wrap .i64 (i.op - 32)) i.imm).t, V) else (((K.arith (K.w0 s i) (IntKind.wrap .i64 (i.op - 32)) i.imm).s), (K.arith (K.w0 s i) (IntKind.wrap .i64 (i.op - 32)) i.imm).k, (K.arith (K.w0 s i) (IntKind.wrap .i64 (i.op - 32)) i.imm).t, V)) else (bif ((decide (i.op ≥ 80)) && (decide (i.op ≤ 86))) then (bif ((((K.access (K.w0 s i) V i.op).1).k) != 0) then (s, ((K.access (K.w0 s i) V i.op).1).k, ((K.access (K.w0 s i) V i.op).1).t, (K.access (K.w0 s i) V i.op).2) else ((((K.access (K.w0 s i) V i.op).1).s), ((K.access (K.w0 s i) V i.op).1).k, ((K.access (K.w0 s i) V i.op).1).t, (K.access (K.w0 s i) V i.op).2)) else (bif ((decide (i.op ≥ 88)) && (decide (i.op ≤ 94))) then (bif ((((K.access (K.w0 s i) V (IntKind.wrap .i64 (i.op - 8))).1).k) != 0) then (s, ((K.access (K.w0 s i) V (IntKind.wrap .i64 (i.op - 8))).1).k, ((K.access (K.w0 s i) V (IntKind.wrap .i64 (i.op - 8))).1).t, (K.access (K.w0 s i) V (IntKind.wrap .i64 (i.op - 8))).2) else ((((K.access (K.w0 s i) V (IntKind.wrap .i64 (i.op - 8))).1).s), ((K.access (K.w0 s i) V (IntKind.wrap .i64 (i.op - 8))).1).k, ((K.access (K.w0 s i) V (IntKind.wrap .i64 (i.op - 8))).1).t, (K.access (K.w0 s i) V (IntKind.wrap .i64 (i.op - 8))).2)) else (bif ((decide (i.op ≥ 16)) && (decide (i.op ≤ 21))) then (bif ((((K.single (K.w0 s i) V).1).k) != 0) then (s, ((K.single (K.w0 s i) V).1).k, ((K.single (K.w0 s i) V).1).t, (K.single (K.w0 s i) V).2) else ((((K.single (K.w0 s i) V).1).s), ((K.single (K.w0 s i) V).1).k, ((K.single (K.w0 s i) V).1).t, (K.single (K.w0 s i) V).2)) else (bif ((decide (i.op ≥ 96)) && (decide (i.op < 110))) then (bif (W.cond (IntKind.wrap .i64 (i.op - 96)) s.f) then (bif (((K.w0 s i).k) != 0) then (s, (K.w0 s i).k, (K.w0 s i).t, V) else (⟨(IntKind.wrap .u32 ((((K.w0 s i).s).pc) + i.imm)), ((K.w0 s i).s).r, ((K.w0 s i).s).f, ((K.w0 s i).s).c, ((K.w0 s i).s).st, ((K.w0 s i).s).du⟩, (K.w0 s i).k, (K.w0 s i).t, V)) else (bif (((K.w0 s i).k) != 0) then (s, (K.w0 s i).k, (K.w0 s i).t, V) else (((K.w0 s i).s), (K.w0 s i).k, (K.w0 s i).t, V))) else (bif ((((K.control (K.w0 s i) V).1).k) != 0) then (s, ((K.control (K.w0 s i) V).1).k, ((K.control (K.w0 s i) V).1).t, (K.control (K.w0 s i) V).2) else ((((K.control (K.w0 s i) V).1).s), ((K.control (K.w0 s i) V).1).k, ((K.control (K.w0 s i) V).1).t, (K.control (K.w0 s i) V).2))))))))))
abbrev Zo5za (i : K.Ins) : List Value := [E.i i.op, E.i i.d, E.i i.s, E.i i.ix, E.i i.sc, E.u i.imm, E.i i.sz]
abbrev Zo5zb (i : K.Ins) : Array Value := #[E.i i.op, E.i i.d, E.i i.s, E.i i.ix, E.i i.sc, E.u i.imm, E.i i.sz]
abbrev Zo5zc : List Value := [E.i 0, E.i 0, E.i 0, E.i 0, E.i 0, E.u 0, E.i 0]
abbrev Zo5zd (i : K.Ins) := IntKind.wrap .i64 (i.op - 8)
set_option maxHeartbeats 4000000 in
theorem Step_i {m : Nat} {xs : List Value} (i : K.Ins) (k t : Int) (s : Q.S) (V : M.V) (hf : K.fetch V s.pc = (i, k, t)) (hi : (k == 0) = true → K.iok i) (hs : Q.wf s) (hV : R.Wf V) : A.Tr Tryz.prog 20 #[Q.S.val s, .iface 35 (.pointer (some ⟨m, 0, none⟩))] [M.It m V xs] (I := Unit) (fun _ => True) (fun _ => .tuple #[Q.S.val ((K.stepI i k t s V).1), .agg #[.int .i64 ((K.stepI i k t s V).2.1), .int .u32 ((K.stepI i k t s V).2.2.1)]]) (fun _ => [M.It m (K.stepI i k t s V).2.2.2 xs]) := by
 intro w oo aa hh
 refine E.enter (n := 173) (S := oo) Tryz.func20 rfl rfl Nz.k (A.start (L := []) hh) (E.sr (E.nw (Q.S.cells s) 26 (fun g1 => E.nw (Q.S.cells Q.z0) 26 (fun g2 => E.nw [E.i 0, E.u 0] 47 (fun g3 => E.To.code (E.C.seq (E.C.held (A.Y [A.blk g3 ([E.i 0, E.u 0]), A.blk g2 (Q.S.cells Q.z0), A.blk g1 (Q.S.cells s)]) Nz.k (E.H.gen (fun H up dn => ?_)))))))))
 have nd4 : ∀ (α β : Nat), H 0 (E.bits 13 8191) [(1, .iface 35 (E.pt m)), (2, E.pt g1), (4, E.pt g2), (5, E.pt g3), (6, E.pt α), (7, E.pt β)] (A.X w oo aa [M.It m V xs]) [(α, (Zo5za i)), (β, [E.i k, E.u t]), (g3, [E.i 0, E.u 0]), (g2, (Q.S.cells Q.z0)), (g1, (Q.S.cells s))] := by
  intro α β
  refine up _ _ _ _ _ (E.H.done Nz.k (E.To.code (E.C.seq (E.sr (E.op (E.pt β) (E.li (E.i k) 1 rfl rfl (E.op (.bool (k != 0)) (E.To.code (E.cd (k != 0) (fun hc4 => ?_) (fun hc4 => ?_))))))))))
  ·
   refine E.C.seq (E.C.held (E.Hp (oo) w (A.X w oo aa [M.It m V xs]) [(α, (Zo5za i)), (β, [E.i k, E.u t]), (g1, (Q.S.cells s))]) Nz.k (E.tb 0 (Q.S.val s) rfl (fun w h => E.run_load h 2 rfl rfl Nz.k) (E.tb 1 (.agg #[E.i k, E.u t]) rfl (fun w h => E.run_load h 1 rfl rfl Nz.k) (E.al 2 rfl (E.st 3 (Q.S.cells s) rfl rfl (E.bk (E.al 3 rfl (E.st 2 [E.i k, E.u t] rfl rfl (E.bk (E.H.done Nz.k (E.To.code ?_)))))))))))
   refine E.C.ret (E.P.rt (E.To.body (fn := Tryz.f20) [Q.S.val s, .agg #[E.i k, E.u t]] ?_ ?_))
   · exact ⟨⟨Nz.k, _, _, 3, _, rfl, rfl, Nz.k⟩, ⟨Nz.k, _, _, 2, _, rfl, rfl, Nz.k⟩, trivial⟩
   intro w h
   have e : (K.stepI i k t s V) = (s, k, t, V) := by unfold K.stepI; rw [hc4, N1] <;> rfl
   rw [e]
   exact ⟨(), trivial, rfl, A.dq [5] [0, 1, 2, 3, 4] h⟩
  refine E.C.skip (E.To.code (E.C.seq (E.C.held (E.Hp (oo) w (A.X w oo aa [M.It m V xs]) [(α, (Zo5za i)), (β, [E.i k, E.u t]), (g3, [E.i 0, E.u 0]), (g2, (Q.S.cells Q.z0)), (g1, (Q.S.cells s))]) Nz.k (E.tj 0 (Q.S.val s) rfl (fun w h => h) (fun w h => E.run_load h 4 rfl rfl Nz.k) (E.tj 1 (Q.S.val s) rfl (fun w h => h) (fun w h => E.run_load h 4 rfl rfl Nz.k) (E.tj 2 (.agg (Zo5zb i)) rfl (fun w h => h) (fun w h => E.run_load h 0 rfl rfl Nz.k) (E.tk 3 (.iface 35 (E.pt m)) rfl (fun w h => h) (E.tk 4 (.iface 35 (E.pt m)) rfl (fun w h => h) (E.tk 5 (.func (.method "Load") #[.iface 35 (E.pt m)] #[]) rfl (fun w h => h) (E.tk 6 (.iface 35 (E.pt m)) rfl (fun w h => h) (E.tk 7 (.iface 35 (E.pt m)) rfl (fun w h => h) (E.tk 8 (.func (.method "Store") #[.iface 35 (E.pt m)] #[]) rfl (fun w h => h) ?_))))))))))))
  refine E.tj 9 (.agg (K.wk (⟨s, s, i, 0, 0⟩) m).toArray) rfl (fun w h => h) (fun w h => E.run_build (K.wk (⟨s, s, i, 0, 0⟩) m).toArray Nz.k w) (E.al 10 rfl (E.nw (K.wk (⟨s, s, i, 0, 0⟩) m) 117 (fun g5 => E.bk (E.ta 11 (E.pt g5) rfl (E.H.done Nz.k (E.To.code (E.wk [(2, E.pt g1), (4, E.pt g2), (5, E.pt g3), (6, E.pt α), (8, E.pt g5)] [(g5, (K.wk (⟨s, s, i, 0, 0⟩) m)), (α, (Zo5za i)), (g3, [E.i 0, E.u 0]), (g2, (Q.S.cells Q.z0)), (g1, (Q.S.cells s))] Nz.sub (E.C.seq (E.C.held (E.Hp (oo) w (A.X w oo aa [M.It m V xs]) [(α, (Zo5za i)), (g3, [E.i 0, E.u 0]), (g2, (Q.S.cells Q.z0)), (g1, (Q.S.cells s))]) Nz.k (E.ta 0 (E.pt g5) rfl (E.ta 1 (E.pt g5) rfl ?_)))))))))))
  refine E.ta 2 (E.pj g5 24) rfl (E.ta 3 (E.pj g5 24) rfl (E.ta 5 (E.pj α 6) rfl (E.tb 6 (E.i i.sz) rfl (fun w h => E.run_load h 0 rfl rfl Nz.k) (E.ta 7 (E.u (IntKind.wrap .u32 i.sz)) rfl (E.al 4 rfl (E.li (E.u s.pc) 0 rfl rfl (E.bk (E.ta 8 (E.u (IntKind.wrap .u32 (s.pc + (IntKind.wrap .u32 i.sz)))) rfl (E.ta 9 (E.pt g5) rfl (E.ta 10 (E.pj g5 24) rfl (E.ta 11 (E.pj g5 24) rfl ?_)))))))))))
  refine E.al 12 rfl (E.st 0 (K.wk (⟨s, ⟨(IntKind.wrap .u32 (s.pc + (IntKind.wrap .u32 i.sz))), s.r, s.f, s.c, s.st, s.du⟩, i, 0, 0⟩) m) rfl rfl (E.bk (E.H.done Nz.k (E.To.code (E.wk [(2, E.pt g1), (4, E.pt g2), (5, E.pt g3), (6, E.pt α), (8, E.pt g5)] [(g5, (K.wk (⟨s, ⟨(IntKind.wrap .u32 (s.pc + (IntKind.wrap .u32 i.sz))), s.r, s.f, s.c, s.st, s.du⟩, i, 0, 0⟩) m)), (α, (Zo5za i)), (g3, [E.i 0, E.u 0]), (g2, (Q.S.cells Q.z0)), (g1, (Q.S.cells s))] Nz.sub (E.sr (E.op (E.pt g5) (E.op (E.pt g5) (E.op (E.pj g5 24) (E.op (E.pj g5 46) (E.li (E.i s.st) 0 rfl rfl ?_)))))))))))
  refine E.op (E.i (IntKind.wrap .i64 (s.st + 1))) (E.op (E.pt g5) (E.op (E.pj g5 24) (E.op (E.pj g5 46) (E.st 0 (K.wk (K.w0 s i) m) rfl rfl (E.To.code (E.wk [(2, E.pt g1), (4, E.pt g2), (5, E.pt g3), (6, E.pt α), (8, E.pt g5)] [(g5, (K.wk (K.w0 s i) m)), (α, (Zo5za i)), (g3, [E.i 0, E.u 0]), (g2, (Q.S.cells Q.z0)), (g1, (Q.S.cells s))] Nz.sub (E.C.seq (E.sr (E.op (E.pt α) (E.li (E.i i.op) 1 rfl rfl (E.op (E.i i.op) ?_)))))))))))
  refine E.To.code (E.C.jn (fun J up dn => ?_))
  have rest : ∀ (y : K.W × M.V), K.stepI i k t s V = (bif (y.1.k != 0) then (s, y.1.k, y.1.t, y.2) else (y.1.s, y.1.k, y.1.t, y.2)) → J [(2, E.pt g1), (4, E.pt g2), (5, E.pt g3), (8, E.pt g5)] (A.X w oo aa [M.It m y.2 xs]) [(g5, (K.wk y.1 m)), (g3, [E.i 0, E.u 0]), (g2, (Q.S.cells Q.z0)), (g1, (Q.S.cells s))] := by
   intro y hy
   refine up _ _ _ (E.C.seq (E.sr (E.op (E.pt g5) (E.op (E.pt g5) (E.op (E.pj g5 55) (E.op (E.pj g5 55) (E.li (E.i y.1.k) 0 rfl rfl (E.op (.bool (y.1.k != 0)) (E.To.code (E.cd (y.1.k != 0) (fun hc6 => ?_) (fun hc6 => ?_)))))))))))
   ·
    refine E.C.seq (E.C.held (E.Hp (oo) w (A.X w oo aa [M.It m y.2 xs]) [(g5, (K.wk y.1 m)), (g1, (Q.S.cells s))]) Nz.k (E.tb 0 (Q.S.val s) rfl (fun w h => E.run_load h 1 rfl rfl Nz.k) (E.ta 1 (E.pt g5) rfl (E.ta 2 (E.pt g5) rfl (E.ta 3 (E.pj g5 55) rfl (E.tb 4 (.agg #[E.i y.1.k, E.u y.1.t]) rfl (fun w h => E.run_load h 0 rfl rfl Nz.k) (E.al 5 rfl (E.st 2 (Q.S.cells s) rfl rfl (E.bk (E.al 6 rfl (E.st 1 [E.i y.1.k, E.u y.1.t] rfl rfl ?_)))))))))))
    refine E.bk (E.H.done Nz.k (E.To.code (E.wk [(4, E.pt g2), (5, E.pt g3), (8, E.pt g5)] [(g5, (K.wk y.1 m)), (g3, [E.i y.1.k, E.u y.1.t]), (g2, (Q.S.cells s))] Nz.sub (E.C.ret (E.P.rt (E.To.body (fn := Tryz.f20) [Q.S.val s, .agg #[E.i y.1.k, E.u y.1.t]] ?_ ?_))))))
    · exact ⟨⟨Nz.k, _, _, 2, _, rfl, rfl, Nz.k⟩, ⟨Nz.k, _, _, 1, _, rfl, rfl, Nz.k⟩, trivial⟩
    intro w h
    have e : (K.stepI i k t s V) = (s, y.1.k, y.1.t, y.2) := by rw [hy, hc6, N1]
    rw [e]
    exact ⟨(), trivial, rfl, A.dq [3] [0, 1, 2] h⟩
   refine E.C.skip (E.To.code (E.C.seq (E.C.held (E.Hp (oo) w (A.X w oo aa [M.It m y.2 xs]) [(g5, (K.wk y.1 m)), (g1, (Q.S.cells s))]) Nz.k (E.ta 0 (E.pt g5) rfl (E.ta 1 (E.pt g5) rfl (E.ta 2 (E.pj g5 24) rfl (E.tb 3 (Q.S.val y.1.s) rfl (fun w h => E.run_load h 0 rfl rfl Nz.k) (E.ta 4 (E.pt g5) rfl (E.ta 5 (E.pt g5) rfl (E.ta 6 (E.pj g5 55) rfl (E.tb 7 (.agg #[E.i y.1.k, E.u y.1.t]) rfl (fun w h => E.run_load h 0 rfl rfl Nz.k) (E.al 8 rfl ?_))))))))))))
   refine E.st 2 (Q.S.cells y.1.s) rfl rfl (E.bk (E.al 9 rfl (E.st 1 [E.i y.1.k, E.u y.1.t] rfl rfl (E.bk (E.H.done Nz.k (E.To.code (E.wk [(4, E.pt g2), (5, E.pt g3)] [(g3, [E.i y.1.k, E.u y.1.t]), (g2, (Q.S.cells y.1.s))] Nz.sub (E.C.ret (E.To.body (fn := Tryz.f20) [Q.S.val y.1.s, .agg #[E.i y.1.k, E.u y.1.t]] ?_ ?_)))))))))
   · exact ⟨⟨Nz.k, _, _, 1, _, rfl, rfl, Nz.k⟩, ⟨Nz.k, _, _, 0, _, rfl, rfl, Nz.k⟩, trivial⟩
   intro w h
   have e : (K.stepI i k t s V) = (y.1.s, y.1.k, y.1.t, y.2) := by rw [hy, hc6, N0]
   rw [e]
   exact ⟨(), trivial, rfl, A.dq [2] [0, 1] h⟩
  refine E.C.block (E.sr (E.op (E.i i.op) (E.op (.bool (decide (i.op ≥ 32))) (E.op (.bool (decide (i.op ≥ 32))) (E.G.cut 3 [(2, E.pt g1), (4, E.pt g2), (5, E.pt g3), (6, E.pt α), (8, E.pt g5), (9, E.i i.op), (66, .bool ((decide (i.op ≥ 32)) && (decide (i.op ≤ 46))))] (A.X w oo aa [M.It m V xs]) [(g5, (K.wk (K.w0 s i) m)), (α, (Zo5za i)), (g3, [E.i 0, E.u 0]), (g2, (Q.S.cells Q.z0)), (g1, (Q.S.cells s))] ?_ ?_)))))
  ·
   generalize hc7 : (decide (i.op ≥ 32)) = b8
   cases b8
   ·
    exact E.sk (E.sk (E.op (.bool false) E.ep))
   exact E.op (E.i i.op) (E.op (.bool (decide (i.op ≤ 46))) (E.op (.bool (decide (i.op ≤ 46))) E.ep))
  refine E.op (.bool ((decide (i.op ≥ 32)) && (decide (i.op ≤ 46)))) (E.To.code (E.cd ((decide (i.op ≥ 32)) && (decide (i.op ≤ 46))) (fun hc9 => ?_) (fun hc9 => ?_)))
  ·
   exact E.C.region (E.op (E.pt g5) (E.op (E.i i.op) (E.op (E.pj α 2) (E.li (E.i i.s) 1 rfl rfl (E.op (E.pj g1 1) (E.vl (E.pj g1 (1 + (i.s).toNat)) (fun w h => E.idxI (e := 22) g1 1 16 .i64 i.s Nz.k Nz.k Nz.k Nz.k (by have := (hi (K.eq0 hc4)).s; omega) w) (E.vl (E.u (s.r ((i.s).toNat))) (fun w h => E.run_load h 4 rfl rfl (Q.ld_r Nz.k (by have := (hi (K.eq0 hc4)).s; omega))) (A.gc (fun _ => .tuple #[]) (Arith_w (b := g5) (m := m) (K.w0 s i) i.op (s.r ((i.s).toNat)) (K.rg0 hc9) (hs.r _) (K.w0_wf hs) (hi (K.eq0 hc4))) [0] [1, 2, 3, 4, 5] [0, 1, 2, 3, 4, 5] (fun _ => [(g5, (K.wk (K.arith (K.w0 s i) i.op (s.r ((i.s).toNat))) m)), (α, (Zo5za i)), (g3, [E.i 0, E.u 0]), (g2, (Q.S.cells Q.z0)), (g1, (Q.S.cells s))]) (fun _ => [M.It m V xs]) (fun _ hd10 => E.P.nb (fun a w h1 h2 => dn _ _ _ (rest (K.arith (K.w0 s i) i.op (s.r ((i.s).toNat)), V) (by unfold K.stepI; rw [hc4, N0, hc9, N1] <;> rfl)) a w (h1.sub ⟨Nz.k, Nz.k⟩) (h2.less Nz.sub)))))))))))
  refine E.sr (E.op (E.i i.op) (E.op (.bool (decide (i.op ≥ 48))) (E.op (.bool (decide (i.op ≥ 48))) (E.G.cut 3 [(2, E.pt g1), (4, E.pt g2), (5, E.pt g3), (6, E.pt α), (8, E.pt g5), (9, E.i i.op), (81, .bool ((decide (i.op ≥ 48)) && (decide (i.op ≤ 62))))] (A.X w oo aa [M.It m V xs]) [(g5, (K.wk (K.w0 s i) m)), (α, (Zo5za i)), (g3, [E.i 0, E.u 0]), (g2, (Q.S.cells Q.z0)), (g1, (Q.S.cells s))] ?_ ?_))))
  ·
   generalize hc11 : (decide (i.op ≥ 48)) = b12
   cases b12
   ·
    exact E.sk (E.sk (E.op (.bool false) E.ep))
   exact E.op (E.i i.op) (E.op (.bool (decide (i.op ≤ 62))) (E.op (.bool (decide (i.op ≤ 62))) E.ep))
  refine E.op (.bool ((decide (i.op ≥ 48)) && (decide (i.op ≤ 62)))) (E.To.code (E.cd ((decide (i.op ≥ 48)) && (decide (i.op ≤ 62))) (fun hc13 => ?_) (fun hc13 => ?_)))
  ·
   exact E.C.region (E.op (E.pt g5) (E.op (E.i i.op) (E.op (E.i (IntKind.wrap .i64 (i.op - 16))) (E.op (E.pj α 5) (E.li (E.u i.imm) 1 rfl rfl (A.gc (fun _ => .tuple #[]) (Arith_w (b := g5) (m := m) (K.w0 s i) (IntKind.wrap .i64 (i.op - 16)) i.imm (K.rng16 hc13) (hi (K.eq0 hc4)).imm (K.w0_wf hs) (hi (K.eq0 hc4))) [0] [1, 2, 3, 4, 5] [0, 1, 2, 3, 4, 5] (fun _ => [(g5, (K.wk (K.arith (K.w0 s i) (IntKind.wrap .i64 (i.op - 16)) i.imm) m)), (α, (Zo5za i)), (g3, [E.i 0, E.u 0]), (g2, (Q.S.cells Q.z0)), (g1, (Q.S.cells s))]) (fun _ => [M.It m V xs]) (fun _ hd14 => E.P.nb (fun a w h1 h2 => dn _ _ _ (rest (K.arith (K.w0 s i) (IntKind.wrap .i64 (i.op - 16)) i.imm, V) (by unfold K.stepI; rw [hc4, N0, hc9, N0, hc13, N1] <;> rfl)) a w (h1.sub ⟨Nz.k, Nz.k⟩) (h2.less Nz.sub)))))))))
  refine E.sr (E.op (E.i i.op) (E.op (.bool (decide (i.op ≥ 64))) (E.op (.bool (decide (i.op ≥ 64))) (E.G.cut 3 [(2, E.pt g1), (4, E.pt g2), (5, E.pt g3), (6, E.pt α), (8, E.pt g5), (9, E.i i.op), (94, .bool ((decide (i.op ≥ 64)) && (decide (i.op ≤ 78))))] (A.X w oo aa [M.It m V xs]) [(g5, (K.wk (K.w0 s i) m)), (α, (Zo5za i)), (g3, [E.i 0, E.u 0]), (g2, (Q.S.cells Q.z0)), (g1, (Q.S.cells s))] ?_ ?_))))
  ·
   generalize hc15 : (decide (i.op ≥ 64)) = b16
   cases b16
   ·
    exact E.sk (E.sk (E.op (.bool false) E.ep))
   exact E.op (E.i i.op) (E.op (.bool (decide (i.op ≤ 78))) (E.op (.bool (decide (i.op ≤ 78))) E.ep))
  refine E.op (.bool ((decide (i.op ≥ 64)) && (decide (i.op ≤ 78)))) (E.To.code (E.cd ((decide (i.op ≥ 64)) && (decide (i.op ≤ 78))) (fun hc17 => ?_) (fun hc17 => ?_)))
  ·
   exact E.C.region (E.op (E.pt g5) (E.op (E.i i.op) (E.op (E.i (IntKind.wrap .i64 (i.op - 32))) (E.op (E.pj α 5) (E.li (E.u i.imm) 1 rfl rfl (A.gc (fun _ => .tuple #[]) (Arith_w (b := g5) (m := m) (K.w0 s i) (IntKind.wrap .i64 (i.op - 32)) i.imm (K.rng32 hc17) (hi (K.eq0 hc4)).imm (K.w0_wf hs) (hi (K.eq0 hc4))) [0] [1, 2, 3, 4, 5] [0, 1, 2, 3, 4, 5] (fun _ => [(g5, (K.wk (K.arith (K.w0 s i) (IntKind.wrap .i64 (i.op - 32)) i.imm) m)), (α, (Zo5za i)), (g3, [E.i 0, E.u 0]), (g2, (Q.S.cells Q.z0)), (g1, (Q.S.cells s))]) (fun _ => [M.It m V xs]) (fun _ hd18 => E.P.nb (fun a w h1 h2 => dn _ _ _ (rest (K.arith (K.w0 s i) (IntKind.wrap .i64 (i.op - 32)) i.imm, V) (by unfold K.stepI; rw [hc4, N0, hc9, N0, hc13, N0, hc17, N1] <;> rfl)) a w (h1.sub ⟨Nz.k, Nz.k⟩) (h2.less Nz.sub)))))))))
  refine E.sr (E.op (E.i i.op) (E.op (.bool (decide (i.op ≥ 80))) (E.op (.bool (decide (i.op ≥ 80))) (E.G.cut 3 [(2, E.pt g1), (4, E.pt g2), (5, E.pt g3), (6, E.pt α), (8, E.pt g5), (9, E.i i.op), (107, .bool ((decide (i.op ≥ 80)) && (decide (i.op ≤ 86))))] (A.X w oo aa [M.It m V xs]) [(g5, (K.wk (K.w0 s i) m)), (α, (Zo5za i)), (g3, [E.i 0, E.u 0]), (g2, (Q.S.cells Q.z0)), (g1, (Q.S.cells s))] ?_ ?_))))
  ·
   generalize hc19 : (decide (i.op ≥ 80)) = b20
   cases b20
   ·
    exact E.sk (E.sk (E.op (.bool false) E.ep))
   exact E.op (E.i i.op) (E.op (.bool (decide (i.op ≤ 86))) (E.op (.bool (decide (i.op ≤ 86))) E.ep))
  refine E.op (.bool ((decide (i.op ≥ 80)) && (decide (i.op ≤ 86)))) (E.To.code (E.cd ((decide (i.op ≥ 80)) && (decide (i.op ≤ 86))) (fun hc21 => ?_) (fun hc21 => ?_)))
  ·
   exact E.C.region (E.op (E.pt g5) (E.op (E.i i.op) (A.gc (fun _ => .tuple #[]) (Access_w (b := g5) (m := m) (xs := xs) (K.w0 s i) V i.op (K.w0_wf hs) (hi (K.eq0 hc4)) hV) [0, 5] [1, 2, 3, 4] [0, 2, 3, 4, 5, 1] (fun _ => [(g5, (K.wk ((K.access (K.w0 s i) V i.op).1) m)), (α, (Zo5za i)), (g3, [E.i 0, E.u 0]), (g2, (Q.S.cells Q.z0)), (g1, (Q.S.cells s))]) (fun _ => [M.It m ((K.access (K.w0 s i) V i.op).2) xs]) (fun _ hd22 => E.P.nb (fun a w h1 h2 => dn _ _ _ (rest ((K.access (K.w0 s i) V i.op).1, (K.access (K.w0 s i) V i.op).2) (by unfold K.stepI; rw [hc4, N0, hc9, N0, hc13, N0, hc17, N0, hc21, N1] <;> rfl)) a w (h1.sub ⟨Nz.k, Nz.k⟩) (h2.less Nz.sub))))))
  refine E.sr (E.op (E.i i.op) (E.op (.bool (decide (i.op ≥ 88))) (E.op (.bool (decide (i.op ≥ 88))) (E.G.cut 3 [(2, E.pt g1), (4, E.pt g2), (5, E.pt g3), (6, E.pt α), (8, E.pt g5), (9, E.i i.op), (117, .bool ((decide (i.op ≥ 88)) && (decide (i.op ≤ 94))))] (A.X w oo aa [M.It m V xs]) [(g5, (K.wk (K.w0 s i) m)), (α, (Zo5za i)), (g3, [E.i 0, E.u 0]), (g2, (Q.S.cells Q.z0)), (g1, (Q.S.cells s))] ?_ ?_))))
  ·
   generalize hc23 : (decide (i.op ≥ 88)) = b24
   cases b24
   ·
    exact E.sk (E.sk (E.op (.bool false) E.ep))
   exact E.op (E.i i.op) (E.op (.bool (decide (i.op ≤ 94))) (E.op (.bool (decide (i.op ≤ 94))) E.ep))
  refine E.op (.bool ((decide (i.op ≥ 88)) && (decide (i.op ≤ 94)))) (E.To.code (E.cd ((decide (i.op ≥ 88)) && (decide (i.op ≤ 94))) (fun hc25 => ?_) (fun hc25 => ?_)))
  ·
   exact E.C.region (E.op (E.pt g5) (E.op (E.i i.op) (E.op (E.i (Zo5zd i)) (A.gc (fun _ => .tuple #[]) (Access_w (b := g5) (m := m) (xs := xs) (K.w0 s i) V (Zo5zd i) (K.w0_wf hs) (hi (K.eq0 hc4)) hV) [0, 5] [1, 2, 3, 4] [0, 2, 3, 4, 5, 1] (fun _ => [(g5, (K.wk ((K.access (K.w0 s i) V (Zo5zd i)).1) m)), (α, (Zo5za i)), (g3, [E.i 0, E.u 0]), (g2, (Q.S.cells Q.z0)), (g1, (Q.S.cells s))]) (fun _ => [M.It m ((K.access (K.w0 s i) V (Zo5zd i)).2) xs]) (fun _ hd26 => E.P.nb (fun a w h1 h2 => dn _ _ _ (rest ((K.access (K.w0 s i) V (Zo5zd i)).1, (K.access (K.w0 s i) V (Zo5zd i)).2) (by unfold K.stepI; rw [hc4, N0, hc9, N0, hc13, N0, hc17, N0, hc21, N0, hc25, N1] <;> rfl)) a w (h1.sub ⟨Nz.k, Nz.k⟩) (h2.less Nz.sub)))))))
  refine E.sr (E.op (E.i i.op) (E.op (.bool (decide (i.op ≥ 16))) (E.op (.bool (decide (i.op ≥ 16))) (E.G.cut 3 [(2, E.pt g1), (4, E.pt g2), (5, E.pt g3), (6, E.pt α), (8, E.pt g5), (9, E.i i.op), (128, .bool ((decide (i.op ≥ 16)) && (decide (i.op ≤ 21))))] (A.X w oo aa [M.It m V xs]) [(g5, (K.wk (K.w0 s i) m)), (α, (Zo5za i)), (g3, [E.i 0, E.u 0]), (g2, (Q.S.cells Q.z0)), (g1, (Q.S.cells s))] ?_ ?_))))
  ·
   generalize hc27 : (decide (i.op ≥ 16)) = b28
   cases b28
   ·
    exact E.sk (E.sk (E.op (.bool false) E.ep))
   exact E.op (E.i i.op) (E.op (.bool (decide (i.op ≤ 21))) (E.op (.bool (decide (i.op ≤ 21))) E.ep))
  refine E.op (.bool ((decide (i.op ≥ 16)) && (decide (i.op ≤ 21)))) (E.To.code (E.cd ((decide (i.op ≥ 16)) && (decide (i.op ≤ 21))) (fun hc29 => ?_) (fun hc29 => ?_)))
  ·
   exact E.C.region (E.op (E.pt g5) (A.gc (fun _ => .tuple #[]) (Single_w (b := g5) (m := m) (xs := xs) (K.w0 s i) V (K.w0_wf hs) (hi (K.eq0 hc4)) hV) [0, 5] [1, 2, 3, 4] [0, 2, 3, 4, 5, 1] (fun _ => [(g5, (K.wk ((K.single (K.w0 s i) V).1) m)), (α, (Zo5za i)), (g3, [E.i 0, E.u 0]), (g2, (Q.S.cells Q.z0)), (g1, (Q.S.cells s))]) (fun _ => [M.It m ((K.single (K.w0 s i) V).2) xs]) (fun _ hd30 => E.P.nb (fun a w h1 h2 => dn _ _ _ (rest ((K.single (K.w0 s i) V).1, (K.single (K.w0 s i) V).2) (by unfold K.stepI; rw [hc4, N0, hc9, N0, hc13, N0, hc17, N0, hc21, N0, hc25, N0, hc29, N1] <;> rfl)) a w (h1.sub ⟨Nz.k, Nz.k⟩) (h2.less Nz.sub)))))
  refine E.sr (E.op (E.i i.op) (E.op (.bool (decide (i.op ≥ 96))) (E.op (.bool (decide (i.op ≥ 96))) (E.G.cut 3 [(2, E.pt g1), (4, E.pt g2), (5, E.pt g3), (6, E.pt α), (8, E.pt g5), (9, E.i i.op), (137, .bool ((decide (i.op ≥ 96)) && (decide (i.op < 110))))] (A.X w oo aa [M.It m V xs]) [(g5, (K.wk (K.w0 s i) m)), (α, (Zo5za i)), (g3, [E.i 0, E.u 0]), (g2, (Q.S.cells Q.z0)), (g1, (Q.S.cells s))] ?_ ?_))))
  ·
   generalize hc31 : (decide (i.op ≥ 96)) = b32
   cases b32
   ·
    exact E.sk (E.sk (E.op (.bool false) E.ep))
   exact E.op (E.i i.op) (E.op (.bool (decide (i.op < 110))) (E.op (.bool (decide (i.op < 110))) E.ep))
  refine E.op (.bool ((decide (i.op ≥ 96)) && (decide (i.op < 110)))) (E.To.code (E.cd ((decide (i.op ≥ 96)) && (decide (i.op < 110))) (fun hc33 => ?_) (fun hc33 => ?_)))
  ·
   refine E.sr (E.op (E.i i.op) (E.op (E.i (IntKind.wrap .i64 (i.op - 96))) (E.op (E.pj g1 17) (E.li (E.u s.f) 4 rfl rfl (E.ca (.bool (W.cond (IntKind.wrap .i64 (i.op - 96)) s.f)) (fun w h => Cond_any (IntKind.wrap .i64 (i.op - 96)) s.f w) (E.To.code (E.cd (W.cond (IntKind.wrap .i64 (i.op - 96)) s.f) (fun hc34 => ?_) (fun hc34 => ?_))))))))
   ·
    refine E.C.held (E.Hp (oo) w (A.X w oo aa [M.It m V xs]) [(α, (Zo5za i)), (g3, [E.i 0, E.u 0]), (g2, (Q.S.cells Q.z0)), (g1, (Q.S.cells s))]) Nz.k (E.ta 0 (E.pt g5) rfl (E.ta 1 (E.pt g5) rfl (E.ta 2 (E.pj g5 24) rfl (E.ta 3 (E.pj g5 24) rfl (E.ta 5 (E.pj α 5) rfl (E.tb 6 (E.u i.imm) rfl (fun w h => E.run_load h 0 rfl rfl Nz.k) (E.al 4 rfl (E.li (E.u (((K.w0 s i).s).pc)) 0 rfl rfl (E.bk (E.ta 7 (E.u (IntKind.wrap .u32 ((((K.w0 s i).s).pc) + i.imm))) rfl (E.ta 8 (E.pt g5) rfl ?_)))))))))))
    exact E.ta 9 (E.pj g5 24) rfl (E.ta 10 (E.pj g5 24) rfl (E.al 11 rfl (E.st 0 (K.wk (⟨((K.w0 s i).u), ⟨(IntKind.wrap .u32 ((((K.w0 s i).s).pc) + i.imm)), ((K.w0 s i).s).r, ((K.w0 s i).s).f, ((K.w0 s i).s).c, ((K.w0 s i).s).st, ((K.w0 s i).s).du⟩, ((K.w0 s i).i), (K.w0 s i).k, (K.w0 s i).t⟩) m) rfl rfl (E.bk (E.H.done Nz.k (E.P.nb (fun a w h1 h2 => dn _ _ _ (rest (⟨((K.w0 s i).u), ⟨(IntKind.wrap .u32 ((((K.w0 s i).s).pc) + i.imm)), ((K.w0 s i).s).r, ((K.w0 s i).s).f, ((K.w0 s i).s).c, ((K.w0 s i).s).st, ((K.w0 s i).s).du⟩, ((K.w0 s i).i), (K.w0 s i).k, (K.w0 s i).t⟩, V) (by unfold K.stepI; rw [hc4, N0, hc9, N0, hc13, N0, hc17, N0, hc21, N0, hc25, N0, hc29, N0, hc33, N1, hc34, N1] <;> rfl)) a w (h1.sub ⟨Nz.k, Nz.k⟩) (h2.less Nz.sub))))))))
   exact E.C.skip (E.P.nb (fun a w h1 h2 => dn _ _ _ (rest (K.w0 s i, V) (by unfold K.stepI; rw [hc4, N0, hc9, N0, hc13, N0, hc17, N0, hc21, N0, hc25, N0, hc29, N0, hc33, N1, hc34, N0] <;> rfl)) a w (h1.sub ⟨Nz.k, Nz.k⟩) (h2.less Nz.sub)))
  exact E.C.region (E.op (E.pt g5) (A.gc (fun _ => .tuple #[]) (Control_w (b := g5) (m := m) (xs := xs) (K.w0 s i) V (K.w0_wf hs) (hi (K.eq0 hc4)) hV) [0, 5] [1, 2, 3, 4] [0, 2, 3, 4, 5, 1] (fun _ => [(g5, (K.wk ((K.control (K.w0 s i) V).1) m)), (α, (Zo5za i)), (g3, [E.i 0, E.u 0]), (g2, (Q.S.cells Q.z0)), (g1, (Q.S.cells s))]) (fun _ => [M.It m ((K.control (K.w0 s i) V).2) xs]) (fun _ hd35 => E.P.nb (fun a w h1 h2 => dn _ _ _ (rest ((K.control (K.w0 s i) V).1, (K.control (K.w0 s i) V).2) (by unfold K.stepI; rw [hc4, N0, hc9, N0, hc13, N0, hc17, N0, hc21, N0, hc25, N0, hc29, N0, hc33, N0] <;> rfl)) a w (h1.sub ⟨Nz.k, Nz.k⟩) (h2.less Nz.sub)))))
 have nd3 : ∀ (α β : Nat), H 1 (E.bits 13 4095) [(1, .iface 35 (E.pt m)), (2, E.pt g1), (4, E.pt g2), (5, E.pt g3), (6, E.pt α), (7, E.pt β), (18, .agg #[E.i k, E.u t])] (A.X w oo aa [M.It m V xs]) [(α, (Zo5za i)), (β, [E.i 0, E.u 0]), (g3, [E.i 0, E.u 0]), (g2, (Q.S.cells Q.z0)), (g1, (Q.S.cells s))] := by
  intro α β
  exact up _ _ _ _ _ (E.al 12 rfl (E.st 1 [E.i k, E.u t] rfl rfl (E.H.back (fun w h => A.hq [2, 3, 4] [0, 1, 5] h) (E.ho (dn _ _ _ _ _ (nd4 α β))))))
 have nd2 : ∀ (α β : Nat), H 2 (E.bits 13 2047) [(1, .iface 35 (E.pt m)), (2, E.pt g1), (4, E.pt g2), (5, E.pt g3), (6, E.pt α), (7, E.pt β), (17, .agg (Zo5zb i)), (18, .agg #[E.i k, E.u t])] (A.X w oo aa [M.It m V xs]) [(α, Zo5zc), (β, [E.i 0, E.u 0]), (g3, [E.i 0, E.u 0]), (g2, (Q.S.cells Q.z0)), (g1, (Q.S.cells s))] := by
  intro α β
  exact up _ _ _ _ _ (E.al 11 rfl (E.st 0 (Zo5za i) rfl rfl (E.H.back (fun w h => A.hq [2, 3, 4] [0, 1, 5] h) (E.ho (dn _ _ _ _ _ (nd3 α β))))))
 have nd1 : ∀ (α : Nat), H 3 (E.bits 13 1023) [(1, .iface 35 (E.pt m)), (2, E.pt g1), (4, E.pt g2), (5, E.pt g3), (6, E.pt α), (17, .agg (Zo5zb i)), (18, .agg #[E.i k, E.u t])] (A.X w oo aa [M.It m V xs]) [(α, Zo5zc), (g3, [E.i 0, E.u 0]), (g2, (Q.S.cells Q.z0)), (g1, (Q.S.cells s))] := by
  intro α
  exact up _ _ _ _ _ (E.al 10 rfl (E.nw [E.i 0, E.u 0] 47 (fun β => E.H.back (fun w h => A.hq [2, 3, 4] [0, 1, 5] h) (E.H.toP _ _ [(α, Zo5zc), (β, [E.i 0, E.u 0]), (g3, [E.i 0, E.u 0]), (g2, (Q.S.cells Q.z0)), (g1, (Q.S.cells s))] Nz.k ⟨Nz.k, Nz.k⟩ (A.pn [1, 0, 2, 3, 4]) (dn _ _ _ _ _ (nd2 α β))))))
 have nd5 : ∀ (β : Nat), H 3 (E.bits 13 1535) [(1, .iface 35 (E.pt m)), (2, E.pt g1), (4, E.pt g2), (5, E.pt g3), (7, E.pt β), (17, .agg (Zo5zb i)), (18, .agg #[E.i k, E.u t])] (A.X w oo aa [M.It m V xs]) [(β, [E.i 0, E.u 0]), (g3, [E.i 0, E.u 0]), (g2, (Q.S.cells Q.z0)), (g1, (Q.S.cells s))] := by
  intro β
  exact up _ _ _ _ _ (E.al 9 rfl (E.nw Zo5zc 66 (fun α => E.H.back (fun w h => A.hq [2, 3, 4] [0, 1, 5] h) (E.ho (dn _ _ _ _ _ (nd2 α β))))))
 have nd0 : H 7 (E.bits 13 63) [(1, .iface 35 (E.pt m)), (2, E.pt g1), (4, E.pt g2), (5, E.pt g3), (16, .tuple #[.agg (Zo5zb i), .agg #[E.i k, E.u t]])] (A.X w oo aa [M.It m V xs]) [(g3, [E.i 0, E.u 0]), (g2, (Q.S.cells Q.z0)), (g1, (Q.S.cells s))] := by
  refine up _ _ _ _ _ (E.tk 6 (.tuple #[.agg (Zo5zb i), .agg #[E.i k, E.u t]]) rfl (fun w h => A.hpY0 h Nz.k) (E.tk 7 (.agg (Zo5zb i)) rfl (fun w h => A.hpY0 h Nz.k) (E.tk 8 (.agg #[E.i k, E.u t]) rfl (fun w h => A.hpY0 h Nz.k) (E.al2 9 10 rfl rfl ?_ ?_))))
  ·
   exact E.nw Zo5zc 66 (fun α => E.H.back (fun w h => A.hq [1, 2, 3] [0, 4] h) (E.ho (dn _ _ _ _ _ (nd1 α))))
  exact E.nw [E.i 0, E.u 0] 47 (fun β => E.H.back (fun w h => A.hq [1, 2, 3] [0, 4] h) (E.ho (dn _ _ _ _ _ (nd5 β))))
 have nd7 : ∀ (α : Nat), H 6 (E.bits 13 575) [(1, .iface 35 (E.pt m)), (2, E.pt g1), (4, E.pt g2), (5, E.pt g3), (6, E.pt α), (16, .tuple #[.agg (Zo5zb i), .agg #[E.i k, E.u t]])] (A.X w oo aa [M.It m V xs]) [(α, Zo5zc), (g3, [E.i 0, E.u 0]), (g2, (Q.S.cells Q.z0)), (g1, (Q.S.cells s))] := by
  intro α
  exact up _ _ _ _ _ (E.tk 6 (.tuple #[.agg (Zo5zb i), .agg #[E.i k, E.u t]]) rfl (fun w h => A.hq [1, 2, 3] [0, 4] h) (E.tk 7 (.agg (Zo5zb i)) rfl (fun w h => A.hq [1, 2, 3] [0, 4] h) (E.tk 8 (.agg #[E.i k, E.u t]) rfl (fun w h => A.hq [1, 2, 3] [0, 4] h) (E.al 10 rfl (E.nw [E.i 0, E.u 0] 47 (fun β => E.H.back (fun w h => A.hq [2, 3, 4] [0, 1, 5] h) (E.H.toP _ _ [(α, Zo5zc), (β, [E.i 0, E.u 0]), (g3, [E.i 0, E.u 0]), (g2, (Q.S.cells Q.z0)), (g1, (Q.S.cells s))] Nz.k ⟨Nz.k, Nz.k⟩ (A.pn [1, 0, 2, 3, 4]) (dn _ _ _ _ _ (nd2 α β)))))))))
 have nd9 : ∀ (α β : Nat), H 5 (E.bits 13 1599) [(1, .iface 35 (E.pt m)), (2, E.pt g1), (4, E.pt g2), (5, E.pt g3), (6, E.pt α), (7, E.pt β), (16, .tuple #[.agg (Zo5zb i), .agg #[E.i k, E.u t]])] (A.X w oo aa [M.It m V xs]) [(α, Zo5zc), (β, [E.i 0, E.u 0]), (g3, [E.i 0, E.u 0]), (g2, (Q.S.cells Q.z0)), (g1, (Q.S.cells s))] := by
  intro α β
  exact up _ _ _ _ _ (E.tk 6 (.tuple #[.agg (Zo5zb i), .agg #[E.i k, E.u t]]) rfl (fun w h => A.hq [2, 3, 4] [0, 1, 5] h) (E.tk 7 (.agg (Zo5zb i)) rfl (fun w h => A.hq [2, 3, 4] [0, 1, 5] h) (E.tk 8 (.agg #[E.i k, E.u t]) rfl (fun w h => A.hq [2, 3, 4] [0, 1, 5] h) (E.al 11 rfl (E.st 0 (Zo5za i) rfl rfl (E.H.back (fun w h => A.hq [2, 3, 4] [0, 1, 5] h) (E.ho (dn _ _ _ _ _ (nd3 α β)))))))))
 have nd8 : ∀ (α β : Nat), H 6 (E.bits 13 1567) [(1, .iface 35 (E.pt m)), (2, E.pt g1), (4, E.pt g2), (5, E.pt g3), (6, E.pt α), (7, E.pt β), (12, E.u s.pc), (15, .func (.method "Fetch") #[.iface 35 (E.pt m)] #[])] (A.X w oo aa [M.It m V xs]) [(α, Zo5zc), (β, [E.i 0, E.u 0]), (g3, [E.i 0, E.u 0]), (g2, (Q.S.cells Q.z0)), (g1, (Q.S.cells s))] := by
  intro α β
  exact up _ _ _ _ _ (E.al 5 rfl (E.ca (.tuple #[.agg (Zo5zb i), .agg #[E.i k, E.u t]]) (fun w h => A.cq [5] [0, 1, 2, 3, 4] (A.rdAs (v' := .tuple #[.agg (Zo5zb i), .agg #[E.i k, E.u t]]) (Fetch_rd (m := m) (xs := xs) V s.pc hs.pc) (by rw [hf] <;> rfl)) h) (E.H.back (fun w h => A.hq [2, 3, 4] [0, 1, 5] h) (E.ho (dn _ _ _ _ _ (nd9 α β))))))
 have nd6 : ∀ (α : Nat), H 7 (E.bits 13 543) [(1, .iface 35 (E.pt m)), (2, E.pt g1), (4, E.pt g2), (5, E.pt g3), (6, E.pt α), (12, E.u s.pc), (15, .func (.method "Fetch") #[.iface 35 (E.pt m)] #[])] (A.X w oo aa [M.It m V xs]) [(α, Zo5zc), (g3, [E.i 0, E.u 0]), (g2, (Q.S.cells Q.z0)), (g1, (Q.S.cells s))] := by
  intro α
  refine up _ _ _ _ _ (E.al2 5 10 rfl rfl ?_ ?_)
  ·
   exact E.ca (.tuple #[.agg (Zo5zb i), .agg #[E.i k, E.u t]]) (fun w h => A.cq [4] [0, 1, 2, 3] (A.rdAs (v' := .tuple #[.agg (Zo5zb i), .agg #[E.i k, E.u t]]) (Fetch_rd (m := m) (xs := xs) V s.pc hs.pc) (by rw [hf] <;> rfl)) h) (E.H.back (fun w h => A.hq [1, 2, 3] [0, 4] h) (E.ho (dn _ _ _ _ _ (nd7 α))))
  exact E.nw [E.i 0, E.u 0] 47 (fun β => E.H.back (fun w h => A.hq [2, 3, 4] [0, 1, 5] h) (E.H.toP _ _ [(α, Zo5zc), (β, [E.i 0, E.u 0]), (g3, [E.i 0, E.u 0]), (g2, (Q.S.cells Q.z0)), (g1, (Q.S.cells s))] Nz.k ⟨Nz.k, Nz.k⟩ (A.pn [1, 0, 2, 3, 4]) (dn _ _ _ _ _ (nd8 α β))))
 have nd11 : ∀ (β : Nat), H 6 (E.bits 13 1087) [(1, .iface 35 (E.pt m)), (2, E.pt g1), (4, E.pt g2), (5, E.pt g3), (7, E.pt β), (16, .tuple #[.agg (Zo5zb i), .agg #[E.i k, E.u t]])] (A.X w oo aa [M.It m V xs]) [(β, [E.i 0, E.u 0]), (g3, [E.i 0, E.u 0]), (g2, (Q.S.cells Q.z0)), (g1, (Q.S.cells s))] := by
  intro β
  exact up _ _ _ _ _ (E.tk 6 (.tuple #[.agg (Zo5zb i), .agg #[E.i k, E.u t]]) rfl (fun w h => A.hq [1, 2, 3] [0, 4] h) (E.tk 7 (.agg (Zo5zb i)) rfl (fun w h => A.hq [1, 2, 3] [0, 4] h) (E.tk 8 (.agg #[E.i k, E.u t]) rfl (fun w h => A.hq [1, 2, 3] [0, 4] h) (E.al 9 rfl (E.nw Zo5zc 66 (fun α => E.H.back (fun w h => A.hq [2, 3, 4] [0, 1, 5] h) (E.ho (dn _ _ _ _ _ (nd2 α β)))))))))
 have nd10 : ∀ (β : Nat), H 7 (E.bits 13 1055) [(1, .iface 35 (E.pt m)), (2, E.pt g1), (4, E.pt g2), (5, E.pt g3), (7, E.pt β), (12, E.u s.pc), (15, .func (.method "Fetch") #[.iface 35 (E.pt m)] #[])] (A.X w oo aa [M.It m V xs]) [(β, [E.i 0, E.u 0]), (g3, [E.i 0, E.u 0]), (g2, (Q.S.cells Q.z0)), (g1, (Q.S.cells s))] := by
  intro β
  refine up _ _ _ _ _ (E.al2 5 9 rfl rfl ?_ ?_)
  ·
   exact E.ca (.tuple #[.agg (Zo5zb i), .agg #[E.i k, E.u t]]) (fun w h => A.cq [4] [0, 1, 2, 3] (A.rdAs (v' := .tuple #[.agg (Zo5zb i), .agg #[E.i k, E.u t]]) (Fetch_rd (m := m) (xs := xs) V s.pc hs.pc) (by rw [hf] <;> rfl)) h) (E.H.back (fun w h => A.hq [1, 2, 3] [0, 4] h) (E.ho (dn _ _ _ _ _ (nd11 β))))
  exact E.nw Zo5zc 66 (fun α => E.H.back (fun w h => A.hq [2, 3, 4] [0, 1, 5] h) (E.ho (dn _ _ _ _ _ (nd8 α β))))
 refine up _ _ _ _ _ (E.tk 0 (E.pt g1) rfl (fun w h => A.hpY0 h Nz.k) (E.tj 1 (E.u s.pc) rfl (fun w h => A.hpY0 h Nz.k) (fun w h => A.Y.bld h (k := 2) (j := 0) rfl Nz.k Nz.k) (E.tk 2 (.iface 35 (E.pt m)) rfl (fun w h => A.hpY0 h Nz.k) (E.tk 3 (.iface 35 (E.pt m)) rfl (fun w h => A.hpY0 h Nz.k) (E.tk 4 (.func (.method "Fetch") #[.iface 35 (E.pt m)] #[]) rfl (fun w h => A.hpY0 h Nz.k) (E.al3 5 9 10 rfl rfl rfl ?_ ?_ ?_))))))
 ·
  exact E.ca (.tuple #[.agg (Zo5zb i), .agg #[E.i k, E.u t]]) (fun w h => A.cq [3] [0, 1, 2] (A.rdAs (v' := .tuple #[.agg (Zo5zb i), .agg #[E.i k, E.u t]]) (Fetch_rd (m := m) (xs := xs) V s.pc hs.pc) (by rw [hf] <;> rfl)) h) (E.hb (dn _ _ _ _ _ (nd0)))
 ·
  exact E.nw Zo5zc 66 (fun α => E.H.back (fun w h => A.hq [1, 2, 3] [0, 4] h) (E.ho (dn _ _ _ _ _ (nd6 α))))
 exact E.nw [E.i 0, E.u 0] 47 (fun β => E.H.back (fun w h => A.hq [1, 2, 3] [0, 4] h) (E.ho (dn _ _ _ _ _ (nd10 β))))
theorem K.valid_ok {i : K.Ins} (hm : 0 ≤ i.imm ∧ i.imm < 4294967296) (h : K.valid i = true) : K.iok i := by
  have hr : K.rng i = true := by
    unfold K.valid at h
    split at h
    · exact Bool.noConfusion (show false = true from h)
    · unfold K.valid1 at h
      cases hq : K.rng i
      · rw [hq] at h; simp at h
      · rfl
  unfold K.rng at hr
  simp only [K.in_one, Bool.and_eq_true, decide_eq_true_eq] at hr
  obtain ⟨⟨a0, a1⟩, ⟨b0, b1⟩, ⟨c0, c1⟩, d0, d1⟩ := hr
  have hmo : K.most i.op ≤ 7 := by unfold K.most; split <;> (try split) <;> omega
  refine ⟨⟨a0, by omega⟩, ⟨b0, by omega⟩, ⟨c0, by omega⟩, ⟨d0, by omega⟩, hm, fun hg => ?_⟩
  have e : i.op = 129 := by simpa using hg
  rw [e] at b1
  have : K.most 129 = 3 := rfl
  omega
theorem K.decode_ok {s : ByteArray} (h : ((K.decode s).2 != 0) = false) : K.iok (K.decode s).1 := by
  unfold K.decode at h ⊢
  split at h
  · unfold K.decode0 at h
    cases hb : (s.toList == (⟨#[]⟩ : ByteArray).toList) <;> rw [hb] at h <;> cases h
  · next k hk =>
    show K.iok (K.decode1 k s).1
    unfold K.decode1 at h ⊢
    revert h
    refine Q.bifP (p := fun x : K.Ins × Int => (x.2 != 0) = false → K.iok x.1) (fun _ h => nomatch h) fun _ => ?_
    refine Q.bifP (p := fun x : K.Ins × Int => (x.2 != 0) = false → K.iok x.1) (fun _ h => nomatch h) fun _ => ?_
    refine Q.bifP (p := fun x : K.Ins × Int => (x.2 != 0) = false → K.iok x.1) (fun _ h => nomatch h) fun hv _ => ?_
    exact K.valid_ok (K.rd_imm k (K.fmt_lt hk) _ _) (by rw [Bool.not_eq_false'] at hv; exact hv)
theorem K.fetch_ok {V : M.V} {p : Int} (h : ((K.fetch V p).2.1 == 0) = true) : K.iok (K.fetch V p).1 := by
  unfold K.fetch at h ⊢
  revert h
  repeat' (first
    | (exact fun h => absurd h (by decide : ¬ (((5 : Int) == 0) = true)))
    | (exact fun h => absurd h (by decide : ¬ (((7 : Int) == 0) = true)))
    | (refine Q.bifP (p := fun x : K.Ins × Int × Int => (x.2.1 == 0) = true → K.iok x.1) (fun _ h => absurd h (by decide : ¬ (((7 : Int) == 0) = true))) (fun hd _ => K.decode_ok hd))
    | (refine Q.bifP (p := fun x : K.Ins × Int × Int => (x.2.1 == 0) = true → K.iok x.1) (fun _ => ?_) (fun _ => ?_)))
theorem Q.wf_sto {V : M.V} (h : R.Wf V) (a : Nat) (n v : Int) : R.Wf (V.sto a n v) := by
  unfold M.V.sto; split
  · exact h.put _ _ _
  · exact h
abbrev K.wf2 (y : K.W × M.V) : Prop := K.wf y.1 ∧ R.Wf y.2
section
variable {x : K.W} {V : M.V} (hx : K.wf x) (hV : R.Wf V)
theorem K.wf.pc (hx : K.wf x) {p : Int} (hp : 0 ≤ p ∧ p < 4294967296) {f st du k t : Int} {i : K.Ins} : K.wf ⟨x.u, ⟨p, x.s.r, f, x.s.c, st, du⟩, i, k, t⟩ := ⟨hx.u, ⟨hp, hx.s.r, hx.s.c⟩⟩
theorem K.wf.up (hx : K.wf x) {D : Nat} {v : Int} (hv : 0 ≤ v ∧ v < 4294967296) {f st du k t : Int} {i : K.Ins} : K.wf ⟨x.u, ⟨x.s.pc, Q.up x.s.r D v, f, x.s.c, st, du⟩, i, k, t⟩ := ⟨hx.u, ⟨hx.s.pc, Q.up_bd hx.s.r hv, hx.s.c⟩⟩
theorem K.wf.uc (hx : K.wf x) {D : Nat} {v : Int} (hv : 0 ≤ v ∧ v < 4294967296) {f st du k t : Int} {i : K.Ins} : K.wf ⟨x.u, ⟨x.s.pc, x.s.r, f, Q.up x.s.c D v, st, du⟩, i, k, t⟩ := ⟨hx.u, ⟨hx.s.pc, hx.s.r, Q.up_bd hx.s.c hv⟩⟩
theorem K.wf.any (hx : K.wf x) {f st du k t : Int} {i : K.Ins} : K.wf ⟨x.u, ⟨x.s.pc, x.s.r, f, x.s.c, st, du⟩, i, k, t⟩ := ⟨hx.u, ⟨hx.s.pc, hx.s.r, hx.s.c⟩⟩
theorem K.wf.fl (hx : K.wf x) (k p q : Int) : K.wf (K.flags x k p q) := ⟨hx.u, ⟨hx.s.pc, hx.s.r, hx.s.c⟩⟩
include hx hV
theorem K.put_wf (a n v : Int) : K.wf2 (K.put x V a n v) := Q.bifP (p := K.wf2) (fun _ => ⟨⟨hx.u, hx.s⟩, Q.wf_sto hV _ _ _⟩) (fun _ => ⟨hx, Q.wf_sto hV _ _ _⟩)
theorem K.ga1_wf (a n D : Int) : K.wf2 (K.ga1 x V a n D) := Q.bifP (p := K.wf2) (fun _ => ⟨⟨hx.u, hx.s⟩, hV⟩) (fun _ => ⟨hx.up (M.load_bd hV _ _), hV⟩)
theorem K.ga2_wf (a n D : Int) : K.wf2 (K.ga2 x V a n D) := Q.bifP (p := K.wf2) (fun _ => ⟨⟨hx.u, hx.s⟩, hV⟩) (fun _ => ⟨hx.up (M.load_bd hV _ _), hV⟩)
theorem K.gs1_wf (a n D : Int) : K.wf2 (K.gs1 x V a n D) := Q.bifP (p := K.wf2) (fun _ => ⟨⟨hx.u, hx.s⟩, hV⟩) (fun _ => ⟨hx.up (M.load_bd hV _ _), hV⟩)
theorem K.gc1_wf (a n : Int) : K.wf2 (K.gc1 x V a n) := Q.bifP (p := K.wf2) (fun _ => ⟨⟨hx.u, hx.s⟩, hV⟩) (fun _ => ⟨hx.pc (M.load_bd hV _ _), hV⟩)
theorem K.ga3_wf (a n D p : Int) : K.wf2 (K.ga3 x V a n D p) := Q.bifP (p := K.wf2) (fun _ => ⟨⟨hx.u, hx.s⟩, hV⟩) (fun _ => ⟨hx.up (Q.wrap_bd _), hV⟩)
theorem K.ga4_wf (a n p : Int) : K.wf2 (K.ga4 x V a n p) := Q.bifP (p := K.wf2) (fun _ => ⟨⟨hx.u, hx.s⟩, hV⟩) (fun _ => K.put_wf (hx.fl _ _ _) hV _ _ _)
theorem K.push_wf (v : Int) : K.wf2 (K.push x V v) := K.put_wf (hx.up (Q.wrap_bd _)) hV _ _ _
theorem K.ps1_wf (D : Int) : K.wf2 (K.ps1 x V D) := K.gs1_wf (hx.up (Q.wrap_bd _)) hV _ _ _
theorem K.pc1_wf : K.wf2 (K.pc1 x V) := K.gc1_wf (hx.up (Q.wrap_bd _)) hV _ _
theorem K.single_wf : K.wf2 (K.single x V) := by
  unfold K.single
  refine Q.bifP (p := K.wf2) (fun _ => K.push_wf hx hV _) fun _ => ?_
  refine Q.bifP (p := K.wf2) (fun _ => K.ps1_wf hx hV _) fun _ => ?_
  refine Q.bifP (p := K.wf2) (fun _ => ⟨hx.up (Q.wrap_bd _), hV⟩) fun _ => ?_
  refine Q.bifP (p := K.wf2) (fun _ => ⟨hx.up (W.bits_bd _ _ _), hV⟩) fun _ => ?_
  refine Q.bifP (p := K.wf2) (fun _ => ⟨(K.push_wf hx hV _).1.pc (hx.s.r _), (K.push_wf hx hV _).2⟩) fun _ => ?_
  exact Q.bifP (p := K.wf2) (fun _ => ⟨hx.pc (hx.s.r _), hV⟩) fun _ => ⟨hx, hV⟩
theorem K.control_wf (hi : K.iok x.i) : K.wf2 (K.control x V) := by
  unfold K.control
  refine Q.bifP (p := K.wf2) (fun _ => K.pc1_wf hx hV) fun _ => ?_
  refine Q.bifP (p := K.wf2) (fun _ => ⟨hx.any, hV⟩) fun _ => ?_
  refine Q.bifP (p := K.wf2) (fun _ => ⟨hx.any, hV⟩) fun _ => ?_
  refine Q.bifP (p := K.wf2) (fun _ => ⟨hx.pc (hx.s.c _), hV⟩) fun _ => ?_
  refine Q.bifP (p := K.wf2) (fun _ => ⟨(K.push_wf hx hV _).1.pc (Q.wrap_bd _), (K.push_wf hx hV _).2⟩) fun _ => ?_
  refine Q.bifP (p := K.wf2) (fun _ => ⟨hx.pc (Q.wrap_bd _), hV⟩) fun _ => ?_
  refine Q.bifP (p := K.wf2) (fun _ => ⟨hx.any, hV⟩) fun _ => ?_
  refine Q.bifP (p := K.wf2) (fun _ => ⟨hx.up (hx.s.c _), hV⟩) fun _ => ?_
  refine Q.bifP (p := K.wf2) (fun _ => ?_) fun _ => ⟨hx, hV⟩
  refine Q.bifP (p := K.wf2) (fun _ => ⟨hx.uc (hx.s.r _), hV⟩) fun _ => ?_
  refine Q.bifP (p := K.wf2) (fun _ => ⟨hx.uc (hx.s.r _), hV⟩) fun _ => ?_
  refine Q.bifP (p := K.wf2) (fun _ => ?_) fun _ => ⟨hx, hV⟩
  exact Q.bifP (p := K.wf2) (fun _ => ⟨hx.any, hV⟩) fun _ => ⟨hx.any, hV⟩
theorem K.access_wf (o : Int) : K.wf2 (K.access x V o) := by
  unfold K.access
  refine Q.bifP (p := K.wf2) (fun _ => K.ga1_wf hx hV _ _ _) fun _ => ?_
  refine Q.bifP (p := K.wf2) (fun _ => K.ga2_wf hx hV _ _ _) fun _ => ?_
  refine Q.bifP (p := K.wf2) (fun _ => K.put_wf hx hV _ _ _) fun _ => ?_
  refine Q.bifP (p := K.wf2) (fun _ => K.put_wf hx hV _ _ _) fun _ => ?_
  refine Q.bifP (p := K.wf2) (fun _ => ⟨hx.up (Q.bif_bd (Q.wrap_bd _) (Q.wrap_bd _)), hV⟩) fun _ => ?_
  refine Q.bifP (p := K.wf2) (fun _ => K.ga3_wf hx hV _ _ _ _) fun _ => ?_
  exact Q.bifP (p := K.wf2) (fun _ => K.ga4_wf hx hV _ _ _) fun _ => ⟨hx, hV⟩
omit hV hx in
theorem K.res_v {o a b q : Int} (ha : 0 ≤ a ∧ a < 4294967296) (hb : 0 ≤ b ∧ b < 4294967296) : 0 ≤ (K.res o a b q).v ∧ (K.res o a b q).v < 4294967296 := by
  let p : K.R → Prop := fun r => 0 ≤ r.v ∧ r.v < 4294967296
  have it : ∀ {c : Prop} [Decidable c] {x y : K.R}, p x → p y → p (if c then x else y) := fun hx hy => by split <;> assumption
  show p (K.res o a b q)
  unfold K.res
  exact it hb (it (Q.wrap_bd _) (it (Q.wrap_bd _) (it (Q.wrap_bd _) (it (Q.wrap_bd _) (it ha (it ha (W.op_bd _ _ _ ha.1 ha.2 hb.1)))))))
omit hV in
theorem K.arith_wf {o b : Int} (hb : 0 ≤ b ∧ b < 4294967296) : K.wf (K.arith x o b) := by
  unfold K.arith
  refine Q.bifP (p := K.wf) (fun _ => ⟨hx.u, hx.s⟩) fun _ => ?_
  refine Q.bifP (p := K.wf) (fun _ => ?_) fun _ => ?_
  · exact Q.bifP (p := K.wf) (fun _ => (hx.up (K.res_v (hx.s.r _) hb)).fl _ _ _) fun _ => hx.up (K.res_v (hx.s.r _) hb)
  · exact Q.bifP (p := K.wf) (fun _ => hx.fl _ _ _) fun _ => hx
end
theorem K.stepI_wf {i : K.Ins} {k t : Int} {s : Q.S} {V : M.V} (hi : (k == 0) = true → K.iok i) (hs : Q.wf s) (hV : R.Wf V) : Q.wf (K.stepI i k t s V).1 ∧ R.Wf (K.stepI i k t s V).2.2.2 := by
  let p : Q.S × Int × Int × M.V → Prop := fun x => Q.wf x.1 ∧ R.Wf x.2.2.2
  show p (K.stepI i k t s V)
  unfold K.stepI
  have hx : K.wf (K.w0 s i) := K.w0_wf hs
  refine Q.bifP (p := p) (fun _ => ⟨hs, hV⟩) fun hk => ?_
  have hI := hi (K.eq0 hk)
  have hA := fun o b (hb : 0 ≤ b ∧ b < 4294967296) => (K.arith_wf (o := o) hx hb).s
  have hb2 : ∀ {c : Bool} {y : K.W × M.V}, K.wf2 y → p (bif c then (s, y.1.k, y.1.t, y.2) else (y.1.s, y.1.k, y.1.t, y.2)) := fun h => Q.bifP (p := p) (fun _ => ⟨hs, h.2⟩) fun _ => ⟨h.1.s, h.2⟩
  refine Q.bifP (p := p) (fun _ => Q.bifP (p := p) (fun _ => ⟨hs, hV⟩) fun _ => ⟨hA _ _ (hs.r _), hV⟩) fun _ => ?_
  refine Q.bifP (p := p) (fun _ => Q.bifP (p := p) (fun _ => ⟨hs, hV⟩) fun _ => ⟨hA _ _ hI.imm, hV⟩) fun _ => ?_
  refine Q.bifP (p := p) (fun _ => Q.bifP (p := p) (fun _ => ⟨hs, hV⟩) fun _ => ⟨hA _ _ hI.imm, hV⟩) fun _ => ?_
  refine Q.bifP (p := p) (fun _ => hb2 (K.access_wf hx hV _)) fun _ => ?_
  refine Q.bifP (p := p) (fun _ => hb2 (K.access_wf hx hV _)) fun _ => ?_
  refine Q.bifP (p := p) (fun _ => hb2 (K.single_wf hx hV)) fun _ => ?_
  refine Q.bifP (p := p) (fun _ => ?_) fun _ => hb2 (K.control_wf hx hV hI)
  refine Q.bifP (p := p) (fun _ => Q.bifP (p := p) (fun _ => ⟨hs, hV⟩) fun _ => ⟨⟨Q.wrap_bd _, hx.s.r, hx.s.c⟩, hV⟩) fun _ => ?_
  exact Q.bifP (p := p) (fun _ => ⟨hs, hV⟩) fun _ => ⟨hx.s, hV⟩
/-- One step: the state behind it, the trap, the memory. -/
def K.step (s : Q.S) (V : M.V) : Q.S × Int × Int × M.V := K.stepI (K.fetch V s.pc).1 (K.fetch V s.pc).2.1 (K.fetch V s.pc).2.2 s V
theorem K.step_wf {s : Q.S} {V : M.V} (hs : Q.wf s) (hV : R.Wf V) : Q.wf (K.step s V).1 ∧ R.Wf (K.step s V).2.2.2 := K.stepI_wf K.fetch_ok hs hV
/-- A run: at n instructions of most, with fuel. -/
def K.run (most : Int) : Nat → Nat → Q.S → M.V → Q.S × Int × Int × M.V
  | 0, _, s, V => (s, 1, 0, V)
  | f + 1, n, s, V => bif (decide (s.du > 0) && decide (s.st ≥ s.du)) then (s, 8, 0, V) else bif (decide (((n : Nat) : Int) ≥ most)) then (s, 1, 0, V) else
    bif ((K.step s V).2.1 != 0) then (s, (K.step s V).2.1, (K.step s V).2.2.1, (K.step s V).2.2.2) else K.run most f (n + 1) (K.step s V).1 (K.step s V).2.2.2
/-- All of a run. -/
def K.runs (most : Int) (s : Q.S) (V : M.V) : Q.S × Int × Int × M.V := K.run most (most.toNat + 1) 0 s V
theorem Step_any {m : Nat} {xs : List Value} (s : Q.S) (V : M.V) (hs : Q.wf s) (hV : R.Wf V) : A.Tr Tryz.prog 20 #[Q.S.val s, .iface 35 (.pointer (some ⟨m, 0, none⟩))] [M.It m V xs] (I := Unit) (fun _ => True) (fun _ => .tuple #[Q.S.val ((K.step s V).1), .agg #[.int .i64 ((K.step s V).2.1), .int .u32 ((K.step s V).2.2.1)]]) (fun _ => [M.It m (K.step s V).2.2.2 xs]) := Step_i _ _ _ s V rfl K.fetch_ok hs hV
section
variable {most : Int} {F n : Nat} {s : Q.S} {V : M.V}
theorem K.run_f (h : n < F) : ∃ f, F - n = f + 1 ∧ F - (n + 1) = f := ⟨F - (n + 1), by omega, rfl⟩
theorem K.run_t (h : n < F) (h1 : (decide (s.du > 0) && decide (s.st ≥ s.du)) = true) : K.run most (F - n) n s V = (s, 8, 0, V) := by
  obtain ⟨f, e, _⟩ := K.run_f h
  rw [e, K.run, h1]; rfl
theorem K.run_b (h : n < F) (h1 : (decide (s.du > 0) && decide (s.st ≥ s.du)) = false) (h2 : decide (((n : Nat) : Int) ≥ most) = true) : K.run most (F - n) n s V = (s, 1, 0, V) := by
  obtain ⟨f, e, _⟩ := K.run_f h
  rw [e, K.run, h1, h2]; rfl
theorem K.run_s (h : n < F) (h1 : (decide (s.du > 0) && decide (s.st ≥ s.du)) = false) (h2 : decide (((n : Nat) : Int) ≥ most) = false) (h3 : ((K.step s V).2.1 != 0) = true) : K.run most (F - n) n s V = (s, (K.step s V).2.1, (K.step s V).2.2.1, (K.step s V).2.2.2) := by
  obtain ⟨f, e, _⟩ := K.run_f h
  rw [e, K.run, h1, h2, h3]; rfl
theorem K.run_n (h : n < F) (h1 : (decide (s.du > 0) && decide (s.st ≥ s.du)) = false) (h2 : decide (((n : Nat) : Int) ≥ most) = false) (h3 : ((K.step s V).2.1 != 0) = false) : K.run most (F - n) n s V = K.run most (F - (n + 1)) (n + 1) (K.step s V).1 (K.step s V).2.2.2 := by
  obtain ⟨f, e, e2⟩ := K.run_f h
  rw [e2, e, K.run, h1, h2, h3]; rfl
theorem K.run_lt (hm : most < 9223372036854775808) (h2 : decide (((n : Nat) : Int) ≥ most) = false) : n + 1 < most.toNat + 1 ∧ IntKind.wrap .i64 (((n : Nat) : Int) + 1) = ((n + 1 : Nat) : Int) := by
  have := of_decide_eq_false h2
  rw [IntKind.wrap_i64]
  omega
end
theorem CNew (n : Int) : A.Tr Tryz.prog 23 #[.int .i64 n] [] (I := Nat × Nat) (fun _ => True) (fun i => .pointer (some ⟨i.1, 0, none⟩)) (fun i => [A.blk i.1 (.pointer (some ⟨i.2, 0, none⟩) :: Q.S.cells Q.z0), M.It i.2 (M.V.new (M.np n) true) []]) := by
 intro w oo aa hh
 exact E.enter (n := 7) (S := oo) Tryz.func23 rfl rfl Nz.k (A.start (L := []) hh) (E.sr (E.op (.pointer none) (E.tr (E.op (E.i n) (A.gc (I := Nat) (fun m1 => E.pt m1) (A_New n true) [] [] [0] (fun m1 => []) (fun m1 => [M.It m1 (M.V.new (M.np n) true) ([])]) (fun m1 hd2 => E.vl (.agg #[E.pt m1, E.u 0, E.u 0, E.u 0, E.u 0, E.u 0, E.u 0, E.u 0, E.u 0, E.u 0, E.u 0, E.u 0, E.u 0, E.u 0, E.u 0, E.u 0, E.u 0, E.u 0, E.u 0, E.u 0, E.u 0, E.u 0, E.u 0, E.i 0, E.i 0]) (fun w h => E.run_build #[E.pt m1, E.u 0, E.u 0, E.u 0, E.u 0, E.u 0, E.u 0, E.u 0, E.u 0, E.u 0, E.u 0, E.u 0, E.u 0, E.u 0, E.u 0, E.u 0, E.u 0, E.u 0, E.u 0, E.u 0, E.u 0, E.u 0, E.u 0, E.i 0, E.i 0] Nz.k w) (E.nw (E.pt m1 :: Q.S.cells Q.z0) 129 (fun c3 => E.op (E.pt c3) (E.To.code (E.C.ret (E.bd Tryz.f23 [E.pt c3] (fun w h => ⟨(c3, m1), trivial, rfl, A.dq [0, 1] [] h⟩))))))))))))
theorem CState {c m : Nat} (s : Q.S) : A.Rd Tryz.prog 27 #[.pointer (some ⟨c, 0, none⟩)] [A.blk c (.pointer (some ⟨m, 0, none⟩) :: Q.S.cells s)] (Q.S.val s) := by
 intro w oo aa hh
 refine E.enter (n := 10) (S := fun _ => False) Tryz.func27 rfl rfl Nz.k (A.startY hh) (E.sr (E.nw (Q.S.cells Q.z0) 26 (fun g1 => E.To.code (E.C.seq (E.sr (E.op (E.pt c) (E.op (.bool false) (E.To.code (E.C.condF Nz.k Nz.k (E.C.skip (E.To.code (E.sr ?_))))))))))))
 exact E.op (E.pt c) (E.op (E.pt c) (E.op (.pointer (some ⟨c, 1, none⟩)) (E.vl (Q.S.val s) (fun w h => A.Y.bld h.x (k := 0) (j := 1) rfl Nz.k Nz.k) (E.st 0 (Q.S.cells s) rfl rfl (E.To.code (E.C.ret (E.b0 Tryz.f27 [Q.S.val s] (fun w h => ⟨rfl, h.ch.bel (fun _ h => h.elim)⟩))))))))
theorem CMem {c m : Nat} {s : Q.S} : A.Rd Tryz.prog 65 #[.pointer (some ⟨c, 0, none⟩)] [A.blk c (.pointer (some ⟨m, 0, none⟩) :: Q.S.cells s)] (.pointer (some ⟨m, 0, none⟩)) := by
 intro w oo aa hh
 refine E.enter (n := 9) (S := fun _ => False) Tryz.func65 rfl rfl Nz.k (A.startY hh) (E.sr (E.op (.pointer none) (E.To.code (E.C.seq (E.sr (E.op (E.pt c) (E.op (.bool false) (E.To.code (E.C.condF Nz.k Nz.k (E.C.skip (E.To.code (E.sr ?_))))))))))))
 exact E.op (E.pt c) (E.op (E.pt c) (E.op (E.pt c) (E.vl (E.pt m) (fun w h => A.Y.bld h.x (k := 0) (j := 0) rfl Nz.k Nz.k) (E.op (E.pt m) (E.To.code (E.C.ret (E.bd Tryz.f65 [E.pt m] (fun w h => ⟨rfl, h.ch.bel (fun _ h => h.elim)⟩))))))))
def K.norm (s : Q.S) : Q.S := ⟨s.pc, (Q.up (Q.up (Q.up (Q.up (Q.up (Q.up (Q.up (Q.up s.r 8 0) 9 0) 10 0) 11 0) 12 0) 13 0) 14 0) 15 0), (bits .and .u32 s.f 15), s.c, (if 0 > s.st then 0 else s.st), (if 0 > s.du then 0 else s.du)⟩
abbrev Zszob (s : Q.S) := Q.up (Q.up (Q.up (Q.up s.r 8 0) 9 0) 10 0) 11 0
abbrev Zszoa (s : Q.S) := Q.up (Q.up (Q.up (Zszob s) 12 0) 13 0) 14 0
abbrev Zszoc (m : Nat) (s0 : Q.S) := E.pt m :: Q.S.cells s0
set_option maxHeartbeats 1000000 in
theorem CSet {c m : Nat} {s0 : Q.S} (s : Q.S)  : A.Tr Tryz.prog 25 #[.pointer (some ⟨c, 0, none⟩), Q.S.val s] [A.blk c (.pointer (some ⟨m, 0, none⟩) :: Q.S.cells s0)] (I := Unit) (fun _ => True) (fun _ => .tuple #[]) (fun _ => [A.blk c (.pointer (some ⟨m, 0, none⟩) :: Q.S.cells (K.norm s))]) := by
 intro w oo aa hh
 refine E.enter (n := 30) (S := oo) Tryz.func25 rfl rfl Nz.k (A.start (L := [(c, (Zszoc m s0))]) hh) (E.sr (E.nw (Q.S.cells s) 26 (fun g1 => E.To.code (E.C.seq (E.sr (E.op (E.pt c) (E.op (.bool false) (E.To.code (E.C.condF Nz.k Nz.k (E.C.skip (E.To.code (E.C.seq ?_))))))))))))
 refine E.sr (E.op (E.i 8) (E.To.code (E.C.block (E.C.rounds 9 (E.C.seq (E.sr (E.op (E.i 8) (E.op (.bool true) (E.To.code (E.C.condT Nz.k Nz.k (E.C.skip (E.To.code ?_))))))))))))
 refine E.C.seq (E.C.block (E.C.region (E.op (E.i 8) (E.op (E.pj g1 1) (E.op (E.pj g1 9) (E.st 0 (Q.S.cells (⟨s.pc, (Q.up s.r 8 0), s.f, s.c, s.st, s.du⟩)) rfl rfl (E.P.nb (E.To.code (E.C.region (E.op (E.i 8) (E.op (E.i 9) (E.op (E.i 9) ?_))))))))))))
 refine E.To.rounds 8 (E.wk [(0, E.pt c), (3, E.pt g1), (4, E.i 9), (7, E.i 8), (8, .bool true), (9, E.i 8), (10, E.i 9), (11, E.i 8), (12, E.pj g1 1), (13, E.pj g1 9)] [(g1, (Q.S.cells (⟨s.pc, (Q.up s.r 8 0), s.f, s.c, s.st, s.du⟩))), (c, (Zszoc m s0))] Nz.sub (E.C.seq (E.sr (E.op (E.i 9) (E.op (.bool true) (E.To.code (E.C.condT Nz.k Nz.k (E.C.skip (E.To.code (E.C.seq (E.C.block (E.C.region ?_))))))))))))
 refine E.op (E.i 9) (E.op (E.pj g1 1) (E.op (E.pj g1 10) (E.st 0 (Q.S.cells (⟨s.pc, (Q.up (Q.up s.r 8 0) 9 0), s.f, s.c, s.st, s.du⟩)) rfl rfl (E.P.nb (E.To.code (E.C.region (E.op (E.i 9) (E.op (E.i 10) (E.op (E.i 10) (E.To.rounds 7 (E.wk [(0, E.pt c), (3, E.pt g1), (4, E.i 10), (7, E.i 9), (8, .bool true), (9, E.i 9), (10, E.i 10), (11, E.i 9), (12, E.pj g1 1), (13, E.pj g1 10)] [(g1, (Q.S.cells (⟨s.pc, (Q.up (Q.up s.r 8 0) 9 0), s.f, s.c, s.st, s.du⟩))), (c, (Zszoc m s0))] Nz.sub (E.C.seq ?_))))))))))))
 refine E.sr (E.op (E.i 10) (E.op (.bool true) (E.To.code (E.C.condT Nz.k Nz.k (E.C.skip (E.To.code (E.C.seq (E.C.block (E.C.region (E.op (E.i 10) (E.op (E.pj g1 1) (E.op (E.pj g1 11) ?_))))))))))))
 refine E.st 0 (Q.S.cells (⟨s.pc, (Q.up (Q.up (Q.up s.r 8 0) 9 0) 10 0), s.f, s.c, s.st, s.du⟩)) rfl rfl (E.P.nb (E.To.code (E.C.region (E.op (E.i 10) (E.op (E.i 11) (E.op (E.i 11) (E.To.rounds 6 (E.wk [(0, E.pt c), (3, E.pt g1), (4, E.i 11), (7, E.i 10), (8, .bool true), (9, E.i 10), (10, E.i 11), (11, E.i 10), (12, E.pj g1 1), (13, E.pj g1 11)] [(g1, (Q.S.cells (⟨s.pc, (Q.up (Q.up (Q.up s.r 8 0) 9 0) 10 0), s.f, s.c, s.st, s.du⟩))), (c, (Zszoc m s0))] Nz.sub (E.C.seq (E.sr (E.op (E.i 11) (E.op (.bool true) ?_))))))))))))
 refine E.To.code (E.C.condT Nz.k Nz.k (E.C.skip (E.To.code (E.C.seq (E.C.block (E.C.region (E.op (E.i 11) (E.op (E.pj g1 1) (E.op (E.pj g1 12) (E.st 0 (Q.S.cells (⟨s.pc, (Zszob s), s.f, s.c, s.st, s.du⟩)) rfl rfl (E.P.nb (E.To.code (E.C.region ?_)))))))))))))
 refine E.op (E.i 11) (E.op (E.i 12) (E.op (E.i 12) (E.To.rounds 5 (E.wk [(0, E.pt c), (3, E.pt g1), (4, E.i 12), (7, E.i 11), (8, .bool true), (9, E.i 11), (10, E.i 12), (11, E.i 11), (12, E.pj g1 1), (13, E.pj g1 12)] [(g1, (Q.S.cells (⟨s.pc, (Zszob s), s.f, s.c, s.st, s.du⟩))), (c, (Zszoc m s0))] Nz.sub (E.C.seq (E.sr (E.op (E.i 12) (E.op (.bool true) (E.To.code (E.C.condT Nz.k Nz.k (E.C.skip (E.To.code ?_))))))))))))
 refine E.C.seq (E.C.block (E.C.region (E.op (E.i 12) (E.op (E.pj g1 1) (E.op (E.pj g1 13) (E.st 0 (Q.S.cells (⟨s.pc, (Q.up (Zszob s) 12 0), s.f, s.c, s.st, s.du⟩)) rfl rfl (E.P.nb (E.To.code (E.C.region (E.op (E.i 12) (E.op (E.i 13) (E.op (E.i 13) ?_))))))))))))
 refine E.To.rounds 4 (E.wk [(0, E.pt c), (3, E.pt g1), (4, E.i 13), (7, E.i 12), (8, .bool true), (9, E.i 12), (10, E.i 13), (11, E.i 12), (12, E.pj g1 1), (13, E.pj g1 13)] [(g1, (Q.S.cells (⟨s.pc, (Q.up (Zszob s) 12 0), s.f, s.c, s.st, s.du⟩))), (c, (Zszoc m s0))] Nz.sub (E.C.seq (E.sr (E.op (E.i 13) (E.op (.bool true) (E.To.code (E.C.condT Nz.k Nz.k (E.C.skip (E.To.code (E.C.seq (E.C.block (E.C.region ?_))))))))))))
 refine E.op (E.i 13) (E.op (E.pj g1 1) (E.op (E.pj g1 14) (E.st 0 (Q.S.cells (⟨s.pc, (Q.up (Q.up (Zszob s) 12 0) 13 0), s.f, s.c, s.st, s.du⟩)) rfl rfl (E.P.nb (E.To.code (E.C.region (E.op (E.i 13) (E.op (E.i 14) (E.op (E.i 14) (E.To.rounds 3 (E.wk [(0, E.pt c), (3, E.pt g1), (4, E.i 14), (7, E.i 13), (8, .bool true), (9, E.i 13), (10, E.i 14), (11, E.i 13), (12, E.pj g1 1), (13, E.pj g1 14)] [(g1, (Q.S.cells (⟨s.pc, (Q.up (Q.up (Zszob s) 12 0) 13 0), s.f, s.c, s.st, s.du⟩))), (c, (Zszoc m s0))] Nz.sub (E.C.seq ?_))))))))))))
 refine E.sr (E.op (E.i 14) (E.op (.bool true) (E.To.code (E.C.condT Nz.k Nz.k (E.C.skip (E.To.code (E.C.seq (E.C.block (E.C.region (E.op (E.i 14) (E.op (E.pj g1 1) (E.op (E.pj g1 15) ?_))))))))))))
 refine E.st 0 (Q.S.cells (⟨s.pc, (Zszoa s), s.f, s.c, s.st, s.du⟩)) rfl rfl (E.P.nb (E.To.code (E.C.region (E.op (E.i 14) (E.op (E.i 15) (E.op (E.i 15) (E.To.rounds 2 (E.wk [(0, E.pt c), (3, E.pt g1), (4, E.i 15), (7, E.i 14), (8, .bool true), (9, E.i 14), (10, E.i 15), (11, E.i 14), (12, E.pj g1 1), (13, E.pj g1 15)] [(g1, (Q.S.cells (⟨s.pc, (Zszoa s), s.f, s.c, s.st, s.du⟩))), (c, (Zszoc m s0))] Nz.sub (E.C.seq (E.sr (E.op (E.i 15) (E.op (.bool true) ?_))))))))))))
 refine E.To.code (E.C.condT Nz.k Nz.k (E.C.skip (E.To.code (E.C.seq (E.C.block (E.C.region (E.op (E.i 15) (E.op (E.pj g1 1) (E.op (E.pj g1 16) (E.st 0 (Q.S.cells (⟨s.pc, (Q.up (Zszoa s) 15 0), s.f, s.c, s.st, s.du⟩)) rfl rfl (E.P.nb (E.To.code (E.C.region ?_)))))))))))))
 refine E.op (E.i 15) (E.op (E.i 16) (E.op (E.i 16) (E.To.rounds 1 (E.wk [(0, E.pt c), (3, E.pt g1), (4, E.i 16), (7, E.i 15), (8, .bool true), (9, E.i 15), (10, E.i 16), (11, E.i 15), (12, E.pj g1 1), (13, E.pj g1 16)] [(g1, (Q.S.cells (⟨s.pc, (Q.up (Zszoa s) 15 0), s.f, s.c, s.st, s.du⟩))), (c, (Zszoc m s0))] Nz.sub (E.C.seq (E.sr (E.op (E.i 16) (E.op (.bool false) (E.To.code (E.C.condF Nz.k Nz.k (E.C.exit (E.P.et (E.P.et (E.P.eh (E.To.code ?_)))))))))))))))
 refine E.wk [(0, E.pt c), (3, E.pt g1)] [(g1, (Q.S.cells (⟨s.pc, (Q.up (Zszoa s) 15 0), s.f, s.c, s.st, s.du⟩))), (c, (Zszoc m s0))] Nz.sub (E.sr (E.op (E.pj g1 17) (E.li (E.u s.f) 0 rfl rfl (E.op (E.u (bits .and .u32 s.f 15)) (E.op (E.pj g1 17) (E.st 0 (Q.S.cells (⟨s.pc, (Q.up (Zszoa s) 15 0), (bits .and .u32 s.f 15), s.c, s.st, s.du⟩)) rfl rfl (E.tr (E.op (E.pj g1 22) (E.li (E.i s.st) 0 rfl rfl (E.op (E.i (if 0 > s.st then 0 else s.st)) (E.op (E.pj g1 23) ?_)))))))))))
 refine E.li (E.i s.du) 0 rfl rfl (E.op (E.i (if 0 > s.du then 0 else s.du)) (E.op (E.pj g1 22) (E.st 0 (Q.S.cells (⟨s.pc, (Q.up (Zszoa s) 15 0), (bits .and .u32 s.f 15), s.c, (if 0 > s.st then 0 else s.st), s.du⟩)) rfl rfl (E.op (E.pj g1 23) (E.st 0 (Q.S.cells (⟨s.pc, (Q.up (Zszoa s) 15 0), (bits .and .u32 s.f 15), s.c, (if 0 > s.st then 0 else s.st), (if 0 > s.du then 0 else s.du)⟩)) rfl rfl (E.To.code (E.wk [(0, E.pt c), (3, E.pt g1)] [(g1, (Q.S.cells (⟨s.pc, (Q.up (Zszoa s) 15 0), (bits .and .u32 s.f 15), s.c, (if 0 > s.st then 0 else s.st), (if 0 > s.du then 0 else s.du)⟩))), (c, (Zszoc m s0))] Nz.sub (E.C.region (E.op (E.pt c) (E.li (Q.S.val (⟨s.pc, (Q.up (Zszoa s) 15 0), (bits .and .u32 s.f 15), s.c, (if 0 > s.st then 0 else s.st), (if 0 > s.du then 0 else s.du)⟩)) 0 rfl rfl (E.op (E.pt c) ?_)))))))))))
 refine E.op (E.pj c 1) (E.st 1 (E.pt m :: Q.S.cells (⟨s.pc, (Q.up (Zszoa s) 15 0), (bits .and .u32 s.f 15), s.c, (if 0 > s.st then 0 else s.st), (if 0 > s.du then 0 else s.du)⟩)) rfl rfl (E.To.bodyN (fn := Tryz.f25) [] ?_ ?_))
 · exact trivial
 intro w h
 have e : (K.norm s) = ⟨s.pc, (Q.up (Zszoa s) 15 0), (bits .and .u32 s.f 15), s.c, (if 0 > s.st then 0 else s.st), (if 0 > s.du then 0 else s.du)⟩ := by unfold K.norm; rfl
 rw [e]
 exact ⟨(), trivial, rfl, A.dq [1] [0] h⟩
set_option maxHeartbeats 4000000 in
theorem CRun {c m : Nat} (most : Int) (s : Q.S) (V : M.V) (hm : -9223372036854775808 ≤ most ∧ most < 9223372036854775808) (hs : Q.wf s) (hV : R.Wf V) : A.Tr Tryz.prog 26 #[.pointer (some ⟨c, 0, none⟩), .int .i64 most] [A.blk c (.pointer (some ⟨m, 0, none⟩) :: Q.S.cells s), M.It m V []] (I := Unit) (fun _ => True) (fun _ => .agg #[.int .i64 (K.runs most s V).2.1, .int .u32 (K.runs most s V).2.2.1]) (fun _ => [A.blk c (.pointer (some ⟨m, 0, none⟩) :: Q.S.cells ((K.runs most s V).1)), M.It m (K.runs most s V).2.2.2 []]) := by
 intro w oo aa hh
 refine E.enter (n := 47) (S := oo) Tryz.func26 rfl rfl Nz.k (A.start (L := [(c, (E.pt m :: Q.S.cells s))]) hh) (E.sr (E.nw [E.i 0, E.u 0] 47 (fun g1 => E.tr (E.op (E.pt c) (E.ca (Q.S.val s) (fun w h => A.cq [1] [0, 2] (CState (c := c) (m := m) s) h) (E.nw (Q.S.cells Q.z0) 26 (fun g2 => E.st 0 (Q.S.cells s) rfl rfl (E.tr (E.op (E.i 0) (E.To.code (E.C.block ?_)))))))))))
 refine E.C.loop (I := Nat × Q.S × M.V) (fun i => (most.toNat + 1) - i.1) (fun i => i.1 < (most.toNat + 1) ∧ Q.wf i.2.1 ∧ R.Wf i.2.2 ∧ K.run most ((most.toNat + 1) - i.1) i.1 i.2.1 i.2.2 = (K.runs most s V)) (fun i => [(0, E.pt c), (1, E.i most), (4, E.pt g1), (5, E.pt g2), (6, E.i ((i.1 : Nat) : Int))]) (fun i => A.X w oo aa [M.It m i.2.2 ([])]) (fun i => [(g2, (Q.S.cells i.2.1)), (g1, [E.i 0, E.u 0]), (c, (E.pt m :: Q.S.cells i.2.1))]) (0, s, V) (⟨Nat.succ_pos _, hs, hV, rfl⟩) ⟨Nz.k, Nz.k⟩ Nz.sub (fun _ h => h) (fun i hk1 => E.C.seq (E.C.block (E.C.seq (E.sr (E.op (E.pj g2 23) (E.li (E.i i.2.1.du) 0 rfl rfl (E.op (.bool (decide (i.2.1.du > 0))) (E.op (.bool (decide (i.2.1.du > 0))) (E.G.cut 6 [(0, E.pt c), (1, E.i most), (4, E.pt g1), (5, E.pt g2), (6, E.i ((i.1 : Nat) : Int)), (13, E.pj g2 23), (14, E.i i.2.1.du), (15, .bool (decide (i.2.1.du > 0))), (16, .bool (decide (i.2.1.du > 0))), (22, .bool ((decide (i.2.1.du > 0)) && (decide (i.2.1.st ≥ i.2.1.du))))] (A.X w oo aa [M.It m i.2.2 ([])]) [(g2, (Q.S.cells i.2.1)), (g1, [E.i 0, E.u 0]), (c, (E.pt m :: Q.S.cells i.2.1))] ?_ ?_)))))))))
 ·
  generalize hc3 : (decide (i.2.1.du > 0)) = b4
  cases b4
  ·
   exact E.sk (E.sk (E.sk (E.sk (E.sk (E.op (.bool false) E.ep)))))
  exact E.op (E.pj g2 22) (E.li (E.i i.2.1.st) 0 rfl rfl (E.op (E.pj g2 23) (E.li (E.i i.2.1.du) 0 rfl rfl (E.op (.bool (decide (i.2.1.st ≥ i.2.1.du))) (E.op (.bool (decide (i.2.1.st ≥ i.2.1.du))) E.ep)))))
 refine E.To.code (E.cd ((decide (i.2.1.du > 0)) && (decide (i.2.1.st ≥ i.2.1.du))) (fun hc5 => ?_) (fun hc5 => ?_))
 ·
  refine E.sr (E.vl (.agg #[E.i 8, E.u 0]) (fun w h => E.run_build #[E.i 8, E.u 0] Nz.k w) (E.st 1 [E.i 8, E.u 0] rfl rfl (E.To.code (E.C.ret (E.P.rt (E.P.rb (E.P.rt (E.P.rt (E.P.rb (E.b1 Tryz.f26 [.agg #[E.i 8, E.u 0]] ?_))))))))))
  intro w h
  have e := hk1.2.2.2
  rw [K.run_t hk1.1 hc5] at e
  rw [← e]
  exact ⟨(), trivial, rfl, A.dq [2, 3] [0, 1] h⟩
 refine E.C.skip (E.To.code (E.C.seq (E.sr (E.op (E.i ((i.1 : Nat) : Int)) (E.op (E.i most) (E.op (.bool (decide (((i.1 : Nat) : Int) ≥ most))) (E.To.code (E.cd (decide (((i.1 : Nat) : Int) ≥ most)) (fun hc6 => ?_) (fun hc6 => ?_)))))))))
 ·
  refine E.sr (E.vl (.agg #[E.i 1, E.u 0]) (fun w h => E.run_build #[E.i 1, E.u 0] Nz.k w) (E.st 1 [E.i 1, E.u 0] rfl rfl (E.To.code (E.C.ret (E.P.rt (E.P.rb (E.P.rt (E.P.rt (E.P.rb (E.b1 Tryz.f26 [.agg #[E.i 1, E.u 0]] ?_))))))))))
  intro w h
  have e := hk1.2.2.2
  rw [K.run_b hk1.1 hc5 hc6] at e
  rw [← e]
  exact ⟨(), trivial, rfl, A.dq [2, 3] [0, 1] h⟩
 refine E.C.skip (E.To.code (E.C.seq (E.C.held (A.Y [A.blk g2 (Q.S.cells i.2.1), A.blk g1 ([E.i 0, E.u 0]), A.blk c (E.pt m :: Q.S.cells i.2.1)]) Nz.k (E.H.gen (fun H up dn => ?_)))))
 have nd5 : ∀ (β α : Nat), H 0 (E.bits 12 4095) [(0, E.pt c), (1, E.i most), (4, E.pt g1), (5, E.pt g2), (6, E.i ((i.1 : Nat) : Int)), (7, E.pt β), (8, E.pt α), (13, E.pj g2 23), (14, E.i i.2.1.du), (15, .bool (decide (i.2.1.du > 0))), (16, .bool (decide (i.2.1.du > 0))), (22, .bool ((decide (i.2.1.du > 0)) && (decide (i.2.1.st ≥ i.2.1.du)))), (24, E.i ((i.1 : Nat) : Int)), (25, E.i most), (26, .bool (decide (((i.1 : Nat) : Int) ≥ most))), (28, .tuple #[Q.S.val ((K.step i.2.1 i.2.2).1), .agg #[E.i ((K.step i.2.1 i.2.2).2.1), E.u ((K.step i.2.1 i.2.2).2.2.1)]]), (29, Q.S.val i.2.1), (30, E.pt c), (31, E.pt m), (32, .iface 35 (E.pt m)), (33, .tuple #[Q.S.val ((K.step i.2.1 i.2.2).1), .agg #[E.i ((K.step i.2.1 i.2.2).2.1), E.u ((K.step i.2.1 i.2.2).2.2.1)]]), (34, Q.S.val ((K.step i.2.1 i.2.2).1)), (35, .agg #[E.i ((K.step i.2.1 i.2.2).2.1), E.u ((K.step i.2.1 i.2.2).2.2.1)])] (A.X w oo aa [M.It m ((K.step i.2.1 i.2.2).2.2.2) ([])]) [(β, (Q.S.cells ((K.step i.2.1 i.2.2).1))), (α, [E.i ((K.step i.2.1 i.2.2).2.1), E.u ((K.step i.2.1 i.2.2).2.2.1)]), (g2, (Q.S.cells i.2.1)), (g1, [E.i 0, E.u 0]), (c, (E.pt m :: Q.S.cells i.2.1))] := by
  intro β α
  refine up _ _ _ _ _ (E.H.done Nz.k (E.To.code (E.C.seq (E.sr (E.op (E.pt α) (E.li (E.i ((K.step i.2.1 i.2.2).2.1)) 1 rfl rfl (E.op (.bool (((K.step i.2.1 i.2.2).2.1) != 0)) (E.To.code (E.cd (((K.step i.2.1 i.2.2).2.1) != 0) (fun hc7 => ?_) (fun hc7 => ?_))))))))))
  ·
   refine E.sr (E.li (.agg #[E.i ((K.step i.2.1 i.2.2).2.1), E.u ((K.step i.2.1 i.2.2).2.2.1)]) 1 rfl rfl (E.st 3 [E.i ((K.step i.2.1 i.2.2).2.1), E.u ((K.step i.2.1 i.2.2).2.2.1)] rfl rfl (E.To.code (E.C.ret (E.P.rt (E.P.rb (E.P.rt (E.P.rt (E.P.rb (E.b3 Tryz.f26 [.agg #[E.i ((K.step i.2.1 i.2.2).2.1), E.u ((K.step i.2.1 i.2.2).2.2.1)]] ?_))))))))))
   intro w h
   have e := hk1.2.2.2
   rw [K.run_s hk1.1 hc5 hc6 hc7] at e
   rw [← e]
   exact ⟨(), trivial, rfl, A.dq [4, 5] [0, 1, 2, 3] h⟩
  refine E.C.skip (E.To.code (E.sr (E.li (Q.S.val ((K.step i.2.1 i.2.2).1)) 0 rfl rfl (E.st 2 (Q.S.cells ((K.step i.2.1 i.2.2).1)) rfl rfl (E.tr (E.op (E.pt c) (E.op (.bool true) (E.To.code (E.C.condT Nz.k Nz.k (E.C.region (E.op (E.pt c) (E.li (Q.S.val ((K.step i.2.1 i.2.2).1)) 0 rfl rfl ?_))))))))))))
  exact E.op (E.pt c) (E.op (E.pj c 1) (E.st 4 (E.pt m :: Q.S.cells ((K.step i.2.1 i.2.2).1)) rfl rfl (E.P.nb (E.To.code (E.C.region (E.op (E.i ((i.1 : Nat) : Int)) (E.vl (E.i ((i.1 + 1 : Nat) : Int)) (fun w h => E.run_as (a := E.i (IntKind.wrap .i64 (((i.1 : Nat) : Int) + 1))) Nz.k (congrArg (Value.int .i64) (K.run_lt hm.2 hc6).2)) (E.op (E.i ((i.1 + 1 : Nat) : Int)) (E.To.round (i.1 + 1, (K.step i.2.1 i.2.2).1, (K.step i.2.1 i.2.2).2.2.2) (by show (most.toNat + 1) - (i.1 + 1) < (most.toNat + 1) - i.1; have := hk1.1; omega) (⟨(K.run_lt hm.2 hc6).1, (K.step_wf hk1.2.1 hk1.2.2.1).1, (K.step_wf hk1.2.1 hk1.2.2.1).2, (K.run_n hk1.1 hc5 hc6 hc7).symm.trans hk1.2.2.2⟩) ⟨Nz.k, Nz.k⟩ Nz.sub (fun _ h => h))))))))))
 have nd4 : ∀ (β α : Nat), H 1 (E.bits 12 2047) [(0, E.pt c), (1, E.i most), (4, E.pt g1), (5, E.pt g2), (6, E.i ((i.1 : Nat) : Int)), (7, E.pt β), (8, E.pt α), (13, E.pj g2 23), (14, E.i i.2.1.du), (15, .bool (decide (i.2.1.du > 0))), (16, .bool (decide (i.2.1.du > 0))), (22, .bool ((decide (i.2.1.du > 0)) && (decide (i.2.1.st ≥ i.2.1.du)))), (24, E.i ((i.1 : Nat) : Int)), (25, E.i most), (26, .bool (decide (((i.1 : Nat) : Int) ≥ most))), (28, .tuple #[Q.S.val ((K.step i.2.1 i.2.2).1), .agg #[E.i ((K.step i.2.1 i.2.2).2.1), E.u ((K.step i.2.1 i.2.2).2.2.1)]]), (29, Q.S.val i.2.1), (30, E.pt c), (31, E.pt m), (32, .iface 35 (E.pt m)), (33, .tuple #[Q.S.val ((K.step i.2.1 i.2.2).1), .agg #[E.i ((K.step i.2.1 i.2.2).2.1), E.u ((K.step i.2.1 i.2.2).2.2.1)]]), (34, Q.S.val ((K.step i.2.1 i.2.2).1)), (35, .agg #[E.i ((K.step i.2.1 i.2.2).2.1), E.u ((K.step i.2.1 i.2.2).2.2.1)])] (A.X w oo aa [M.It m ((K.step i.2.1 i.2.2).2.2.2) ([])]) [(β, (Q.S.cells ((K.step i.2.1 i.2.2).1))), (α, [E.i 0, E.u 0]), (g2, (Q.S.cells i.2.1)), (g1, [E.i 0, E.u 0]), (c, (E.pt m :: Q.S.cells i.2.1))] := by
  intro β α
  exact up _ _ _ _ _ (E.al 11 rfl (E.st 1 [E.i ((K.step i.2.1 i.2.2).2.1), E.u ((K.step i.2.1 i.2.2).2.2.1)] rfl rfl (E.H.back (fun w h => A.hq [2, 3, 4] [0, 1, 5] h) (E.ho (dn _ _ _ _ _ (nd5 β α))))))
 have nd3 : ∀ (β α : Nat), H 2 (E.bits 12 1023) [(0, E.pt c), (1, E.i most), (4, E.pt g1), (5, E.pt g2), (6, E.i ((i.1 : Nat) : Int)), (7, E.pt β), (8, E.pt α), (13, E.pj g2 23), (14, E.i i.2.1.du), (15, .bool (decide (i.2.1.du > 0))), (16, .bool (decide (i.2.1.du > 0))), (22, .bool ((decide (i.2.1.du > 0)) && (decide (i.2.1.st ≥ i.2.1.du)))), (24, E.i ((i.1 : Nat) : Int)), (25, E.i most), (26, .bool (decide (((i.1 : Nat) : Int) ≥ most))), (28, .tuple #[Q.S.val ((K.step i.2.1 i.2.2).1), .agg #[E.i ((K.step i.2.1 i.2.2).2.1), E.u ((K.step i.2.1 i.2.2).2.2.1)]]), (29, Q.S.val i.2.1), (30, E.pt c), (31, E.pt m), (32, .iface 35 (E.pt m)), (33, .tuple #[Q.S.val ((K.step i.2.1 i.2.2).1), .agg #[E.i ((K.step i.2.1 i.2.2).2.1), E.u ((K.step i.2.1 i.2.2).2.2.1)]]), (34, Q.S.val ((K.step i.2.1 i.2.2).1)), (35, .agg #[E.i ((K.step i.2.1 i.2.2).2.1), E.u ((K.step i.2.1 i.2.2).2.2.1)])] (A.X w oo aa [M.It m ((K.step i.2.1 i.2.2).2.2.2) ([])]) [(β, (Q.S.cells Q.z0)), (α, [E.i 0, E.u 0]), (g2, (Q.S.cells i.2.1)), (g1, [E.i 0, E.u 0]), (c, (E.pt m :: Q.S.cells i.2.1))] := by
  intro β α
  exact up _ _ _ _ _ (E.al 10 rfl (E.st 0 (Q.S.cells ((K.step i.2.1 i.2.2).1)) rfl rfl (E.H.back (fun w h => A.hq [2, 3, 4] [0, 1, 5] h) (E.ho (dn _ _ _ _ _ (nd4 β α))))))
 have nd2 : ∀ (β : Nat), H 3 (E.bits 12 511) [(0, E.pt c), (1, E.i most), (4, E.pt g1), (5, E.pt g2), (6, E.i ((i.1 : Nat) : Int)), (7, E.pt β), (13, E.pj g2 23), (14, E.i i.2.1.du), (15, .bool (decide (i.2.1.du > 0))), (16, .bool (decide (i.2.1.du > 0))), (22, .bool ((decide (i.2.1.du > 0)) && (decide (i.2.1.st ≥ i.2.1.du)))), (24, E.i ((i.1 : Nat) : Int)), (25, E.i most), (26, .bool (decide (((i.1 : Nat) : Int) ≥ most))), (28, .tuple #[Q.S.val ((K.step i.2.1 i.2.2).1), .agg #[E.i ((K.step i.2.1 i.2.2).2.1), E.u ((K.step i.2.1 i.2.2).2.2.1)]]), (29, Q.S.val i.2.1), (30, E.pt c), (31, E.pt m), (32, .iface 35 (E.pt m)), (33, .tuple #[Q.S.val ((K.step i.2.1 i.2.2).1), .agg #[E.i ((K.step i.2.1 i.2.2).2.1), E.u ((K.step i.2.1 i.2.2).2.2.1)]]), (34, Q.S.val ((K.step i.2.1 i.2.2).1)), (35, .agg #[E.i ((K.step i.2.1 i.2.2).2.1), E.u ((K.step i.2.1 i.2.2).2.2.1)])] (A.X w oo aa [M.It m ((K.step i.2.1 i.2.2).2.2.2) ([])]) [(β, (Q.S.cells Q.z0)), (g2, (Q.S.cells i.2.1)), (g1, [E.i 0, E.u 0]), (c, (E.pt m :: Q.S.cells i.2.1))] := by
  intro β
  exact up _ _ _ _ _ (E.al 9 rfl (E.nw [E.i 0, E.u 0] 47 (fun α => E.H.back (fun w h => A.hq [2, 3, 4] [0, 1, 5] h) (E.H.toP _ _ [(β, (Q.S.cells Q.z0)), (α, [E.i 0, E.u 0]), (g2, (Q.S.cells i.2.1)), (g1, [E.i 0, E.u 0]), (c, (E.pt m :: Q.S.cells i.2.1))] Nz.k ⟨Nz.k, Nz.k⟩ (A.pn [1, 0, 2, 3, 4]) (dn _ _ _ _ _ (nd3 β α))))))
 have nd6 : ∀ (α : Nat), H 3 (E.bits 12 767) [(0, E.pt c), (1, E.i most), (4, E.pt g1), (5, E.pt g2), (6, E.i ((i.1 : Nat) : Int)), (8, E.pt α), (13, E.pj g2 23), (14, E.i i.2.1.du), (15, .bool (decide (i.2.1.du > 0))), (16, .bool (decide (i.2.1.du > 0))), (22, .bool ((decide (i.2.1.du > 0)) && (decide (i.2.1.st ≥ i.2.1.du)))), (24, E.i ((i.1 : Nat) : Int)), (25, E.i most), (26, .bool (decide (((i.1 : Nat) : Int) ≥ most))), (28, .tuple #[Q.S.val ((K.step i.2.1 i.2.2).1), .agg #[E.i ((K.step i.2.1 i.2.2).2.1), E.u ((K.step i.2.1 i.2.2).2.2.1)]]), (29, Q.S.val i.2.1), (30, E.pt c), (31, E.pt m), (32, .iface 35 (E.pt m)), (33, .tuple #[Q.S.val ((K.step i.2.1 i.2.2).1), .agg #[E.i ((K.step i.2.1 i.2.2).2.1), E.u ((K.step i.2.1 i.2.2).2.2.1)]]), (34, Q.S.val ((K.step i.2.1 i.2.2).1)), (35, .agg #[E.i ((K.step i.2.1 i.2.2).2.1), E.u ((K.step i.2.1 i.2.2).2.2.1)])] (A.X w oo aa [M.It m ((K.step i.2.1 i.2.2).2.2.2) ([])]) [(α, [E.i 0, E.u 0]), (g2, (Q.S.cells i.2.1)), (g1, [E.i 0, E.u 0]), (c, (E.pt m :: Q.S.cells i.2.1))] := by
  intro α
  exact up _ _ _ _ _ (E.al 8 rfl (E.nw (Q.S.cells Q.z0) 26 (fun β => E.H.back (fun w h => A.hq [2, 3, 4] [0, 1, 5] h) (E.ho (dn _ _ _ _ _ (nd3 β α))))))
 have nd1 : H 7 (E.bits 12 31) [(0, E.pt c), (1, E.i most), (4, E.pt g1), (5, E.pt g2), (6, E.i ((i.1 : Nat) : Int)), (13, E.pj g2 23), (14, E.i i.2.1.du), (15, .bool (decide (i.2.1.du > 0))), (16, .bool (decide (i.2.1.du > 0))), (22, .bool ((decide (i.2.1.du > 0)) && (decide (i.2.1.st ≥ i.2.1.du)))), (24, E.i ((i.1 : Nat) : Int)), (25, E.i most), (26, .bool (decide (((i.1 : Nat) : Int) ≥ most))), (29, Q.S.val i.2.1), (30, E.pt c), (31, E.pt m), (32, .iface 35 (E.pt m)), (33, .tuple #[Q.S.val ((K.step i.2.1 i.2.2).1), .agg #[E.i ((K.step i.2.1 i.2.2).2.1), E.u ((K.step i.2.1 i.2.2).2.2.1)]])] (A.X w oo aa [M.It m ((K.step i.2.1 i.2.2).2.2.2) ([])]) [(g2, (Q.S.cells i.2.1)), (g1, [E.i 0, E.u 0]), (c, (E.pt m :: Q.S.cells i.2.1))] := by
  refine up _ _ _ _ _ (E.tk 5 (.tuple #[Q.S.val ((K.step i.2.1 i.2.2).1), .agg #[E.i ((K.step i.2.1 i.2.2).2.1), E.u ((K.step i.2.1 i.2.2).2.2.1)]]) rfl (fun w h => A.hpY0 h Nz.k) (E.tk 6 (Q.S.val ((K.step i.2.1 i.2.2).1)) rfl (fun w h => A.hpY0 h Nz.k) (E.tk 7 (.agg #[E.i ((K.step i.2.1 i.2.2).2.1), E.u ((K.step i.2.1 i.2.2).2.2.1)]) rfl (fun w h => A.hpY0 h Nz.k) (E.al2 8 9 rfl rfl ?_ ?_))))
  ·
   exact E.nw (Q.S.cells Q.z0) 26 (fun β => E.H.back (fun w h => A.hq [1, 2, 3] [0, 4] h) (E.ho (dn _ _ _ _ _ (nd2 β))))
  exact E.nw [E.i 0, E.u 0] 47 (fun α => E.H.back (fun w h => A.hq [1, 2, 3] [0, 4] h) (E.ho (dn _ _ _ _ _ (nd6 α))))
 have nd8 : ∀ (β : Nat), H 6 (E.bits 12 287) [(0, E.pt c), (1, E.i most), (4, E.pt g1), (5, E.pt g2), (6, E.i ((i.1 : Nat) : Int)), (7, E.pt β), (13, E.pj g2 23), (14, E.i i.2.1.du), (15, .bool (decide (i.2.1.du > 0))), (16, .bool (decide (i.2.1.du > 0))), (22, .bool ((decide (i.2.1.du > 0)) && (decide (i.2.1.st ≥ i.2.1.du)))), (24, E.i ((i.1 : Nat) : Int)), (25, E.i most), (26, .bool (decide (((i.1 : Nat) : Int) ≥ most))), (29, Q.S.val i.2.1), (30, E.pt c), (31, E.pt m), (32, .iface 35 (E.pt m)), (33, .tuple #[Q.S.val ((K.step i.2.1 i.2.2).1), .agg #[E.i ((K.step i.2.1 i.2.2).2.1), E.u ((K.step i.2.1 i.2.2).2.2.1)]])] (A.X w oo aa [M.It m ((K.step i.2.1 i.2.2).2.2.2) ([])]) [(β, (Q.S.cells Q.z0)), (g2, (Q.S.cells i.2.1)), (g1, [E.i 0, E.u 0]), (c, (E.pt m :: Q.S.cells i.2.1))] := by
  intro β
  exact up _ _ _ _ _ (E.tk 5 (.tuple #[Q.S.val ((K.step i.2.1 i.2.2).1), .agg #[E.i ((K.step i.2.1 i.2.2).2.1), E.u ((K.step i.2.1 i.2.2).2.2.1)]]) rfl (fun w h => A.hq [1, 2, 3] [0, 4] h) (E.tk 6 (Q.S.val ((K.step i.2.1 i.2.2).1)) rfl (fun w h => A.hq [1, 2, 3] [0, 4] h) (E.tk 7 (.agg #[E.i ((K.step i.2.1 i.2.2).2.1), E.u ((K.step i.2.1 i.2.2).2.2.1)]) rfl (fun w h => A.hq [1, 2, 3] [0, 4] h) (E.al 9 rfl (E.nw [E.i 0, E.u 0] 47 (fun α => E.H.back (fun w h => A.hq [2, 3, 4] [0, 1, 5] h) (E.H.toP _ _ [(β, (Q.S.cells Q.z0)), (α, [E.i 0, E.u 0]), (g2, (Q.S.cells i.2.1)), (g1, [E.i 0, E.u 0]), (c, (E.pt m :: Q.S.cells i.2.1))] Nz.k ⟨Nz.k, Nz.k⟩ (A.pn [1, 0, 2, 3, 4]) (dn _ _ _ _ _ (nd3 β α)))))))))
 have nd10 : ∀ (β α : Nat), H 5 (E.bits 12 799) [(0, E.pt c), (1, E.i most), (4, E.pt g1), (5, E.pt g2), (6, E.i ((i.1 : Nat) : Int)), (7, E.pt β), (8, E.pt α), (13, E.pj g2 23), (14, E.i i.2.1.du), (15, .bool (decide (i.2.1.du > 0))), (16, .bool (decide (i.2.1.du > 0))), (22, .bool ((decide (i.2.1.du > 0)) && (decide (i.2.1.st ≥ i.2.1.du)))), (24, E.i ((i.1 : Nat) : Int)), (25, E.i most), (26, .bool (decide (((i.1 : Nat) : Int) ≥ most))), (29, Q.S.val i.2.1), (30, E.pt c), (31, E.pt m), (32, .iface 35 (E.pt m)), (33, .tuple #[Q.S.val ((K.step i.2.1 i.2.2).1), .agg #[E.i ((K.step i.2.1 i.2.2).2.1), E.u ((K.step i.2.1 i.2.2).2.2.1)]])] (A.X w oo aa [M.It m ((K.step i.2.1 i.2.2).2.2.2) ([])]) [(β, (Q.S.cells Q.z0)), (α, [E.i 0, E.u 0]), (g2, (Q.S.cells i.2.1)), (g1, [E.i 0, E.u 0]), (c, (E.pt m :: Q.S.cells i.2.1))] := by
  intro β α
  exact up _ _ _ _ _ (E.tk 5 (.tuple #[Q.S.val ((K.step i.2.1 i.2.2).1), .agg #[E.i ((K.step i.2.1 i.2.2).2.1), E.u ((K.step i.2.1 i.2.2).2.2.1)]]) rfl (fun w h => A.hq [2, 3, 4] [0, 1, 5] h) (E.tk 6 (Q.S.val ((K.step i.2.1 i.2.2).1)) rfl (fun w h => A.hq [2, 3, 4] [0, 1, 5] h) (E.tk 7 (.agg #[E.i ((K.step i.2.1 i.2.2).2.1), E.u ((K.step i.2.1 i.2.2).2.2.1)]) rfl (fun w h => A.hq [2, 3, 4] [0, 1, 5] h) (E.al 10 rfl (E.st 0 (Q.S.cells ((K.step i.2.1 i.2.2).1)) rfl rfl (E.H.back (fun w h => A.hq [2, 3, 4] [0, 1, 5] h) (E.ho (dn _ _ _ _ _ (nd4 β α)))))))))
 have nd9 : ∀ (β α : Nat), H 6 (E.bits 12 783) [(0, E.pt c), (1, E.i most), (4, E.pt g1), (5, E.pt g2), (6, E.i ((i.1 : Nat) : Int)), (7, E.pt β), (8, E.pt α), (13, E.pj g2 23), (14, E.i i.2.1.du), (15, .bool (decide (i.2.1.du > 0))), (16, .bool (decide (i.2.1.du > 0))), (22, .bool ((decide (i.2.1.du > 0)) && (decide (i.2.1.st ≥ i.2.1.du)))), (24, E.i ((i.1 : Nat) : Int)), (25, E.i most), (26, .bool (decide (((i.1 : Nat) : Int) ≥ most))), (29, Q.S.val i.2.1), (30, E.pt c), (31, E.pt m), (32, .iface 35 (E.pt m))] (A.X w oo aa [M.It m i.2.2 ([])]) [(β, (Q.S.cells Q.z0)), (α, [E.i 0, E.u 0]), (g2, (Q.S.cells i.2.1)), (g1, [E.i 0, E.u 0]), (c, (E.pt m :: Q.S.cells i.2.1))] := by
  intro β α
  exact up _ _ _ _ _ (E.al 4 rfl (A.gc (fun _ => .tuple #[Q.S.val ((K.step i.2.1 i.2.2).1), .agg #[E.i ((K.step i.2.1 i.2.2).2.1), E.u ((K.step i.2.1 i.2.2).2.2.1)]]) (Step_any (m := m) (xs := []) i.2.1 i.2.2 hk1.2.1 hk1.2.2.1) [5] [0, 1, 2, 3, 4] [1, 2, 3, 4, 5, 0] (fun _ => [(β, (Q.S.cells Q.z0)), (α, [E.i 0, E.u 0]), (g2, (Q.S.cells i.2.1)), (g1, [E.i 0, E.u 0]), (c, (E.pt m :: Q.S.cells i.2.1))]) (fun _ => [M.It m ((K.step i.2.1 i.2.2).2.2.2) ([])]) (fun _ δ => E.H.back (fun w h => A.hq [2, 3, 4] [0, 1, 5] h) (E.ho (dn _ _ _ _ _ (nd10 β α))))))
 have nd7 : ∀ (β : Nat), H 7 (E.bits 12 271) [(0, E.pt c), (1, E.i most), (4, E.pt g1), (5, E.pt g2), (6, E.i ((i.1 : Nat) : Int)), (7, E.pt β), (13, E.pj g2 23), (14, E.i i.2.1.du), (15, .bool (decide (i.2.1.du > 0))), (16, .bool (decide (i.2.1.du > 0))), (22, .bool ((decide (i.2.1.du > 0)) && (decide (i.2.1.st ≥ i.2.1.du)))), (24, E.i ((i.1 : Nat) : Int)), (25, E.i most), (26, .bool (decide (((i.1 : Nat) : Int) ≥ most))), (29, Q.S.val i.2.1), (30, E.pt c), (31, E.pt m), (32, .iface 35 (E.pt m))] (A.X w oo aa [M.It m i.2.2 ([])]) [(β, (Q.S.cells Q.z0)), (g2, (Q.S.cells i.2.1)), (g1, [E.i 0, E.u 0]), (c, (E.pt m :: Q.S.cells i.2.1))] := by
  intro β
  refine up _ _ _ _ _ (E.al2 4 9 rfl rfl ?_ ?_)
  ·
   exact A.gc (fun _ => .tuple #[Q.S.val ((K.step i.2.1 i.2.2).1), .agg #[E.i ((K.step i.2.1 i.2.2).2.1), E.u ((K.step i.2.1 i.2.2).2.2.1)]]) (Step_any (m := m) (xs := []) i.2.1 i.2.2 hk1.2.1 hk1.2.2.1) [4] [0, 1, 2, 3] [1, 2, 3, 4, 0] (fun _ => [(β, (Q.S.cells Q.z0)), (g2, (Q.S.cells i.2.1)), (g1, [E.i 0, E.u 0]), (c, (E.pt m :: Q.S.cells i.2.1))]) (fun _ => [M.It m ((K.step i.2.1 i.2.2).2.2.2) ([])]) (fun _ δ => E.H.back (fun w h => A.hq [1, 2, 3] [0, 4] h) (E.ho (dn _ _ _ _ _ (nd8 β))))
  exact E.nw [E.i 0, E.u 0] 47 (fun α => E.H.back (fun w h => A.hq [2, 3, 4] [0, 1, 5] h) (E.H.toP _ _ [(β, (Q.S.cells Q.z0)), (α, [E.i 0, E.u 0]), (g2, (Q.S.cells i.2.1)), (g1, [E.i 0, E.u 0]), (c, (E.pt m :: Q.S.cells i.2.1))] Nz.k ⟨Nz.k, Nz.k⟩ (A.pn [1, 0, 2, 3, 4]) (dn _ _ _ _ _ (nd9 β α))))
 have nd12 : ∀ (α : Nat), H 6 (E.bits 12 543) [(0, E.pt c), (1, E.i most), (4, E.pt g1), (5, E.pt g2), (6, E.i ((i.1 : Nat) : Int)), (8, E.pt α), (13, E.pj g2 23), (14, E.i i.2.1.du), (15, .bool (decide (i.2.1.du > 0))), (16, .bool (decide (i.2.1.du > 0))), (22, .bool ((decide (i.2.1.du > 0)) && (decide (i.2.1.st ≥ i.2.1.du)))), (24, E.i ((i.1 : Nat) : Int)), (25, E.i most), (26, .bool (decide (((i.1 : Nat) : Int) ≥ most))), (29, Q.S.val i.2.1), (30, E.pt c), (31, E.pt m), (32, .iface 35 (E.pt m)), (33, .tuple #[Q.S.val ((K.step i.2.1 i.2.2).1), .agg #[E.i ((K.step i.2.1 i.2.2).2.1), E.u ((K.step i.2.1 i.2.2).2.2.1)]])] (A.X w oo aa [M.It m ((K.step i.2.1 i.2.2).2.2.2) ([])]) [(α, [E.i 0, E.u 0]), (g2, (Q.S.cells i.2.1)), (g1, [E.i 0, E.u 0]), (c, (E.pt m :: Q.S.cells i.2.1))] := by
  intro α
  exact up _ _ _ _ _ (E.tk 5 (.tuple #[Q.S.val ((K.step i.2.1 i.2.2).1), .agg #[E.i ((K.step i.2.1 i.2.2).2.1), E.u ((K.step i.2.1 i.2.2).2.2.1)]]) rfl (fun w h => A.hq [1, 2, 3] [0, 4] h) (E.tk 6 (Q.S.val ((K.step i.2.1 i.2.2).1)) rfl (fun w h => A.hq [1, 2, 3] [0, 4] h) (E.tk 7 (.agg #[E.i ((K.step i.2.1 i.2.2).2.1), E.u ((K.step i.2.1 i.2.2).2.2.1)]) rfl (fun w h => A.hq [1, 2, 3] [0, 4] h) (E.al 8 rfl (E.nw (Q.S.cells Q.z0) 26 (fun β => E.H.back (fun w h => A.hq [2, 3, 4] [0, 1, 5] h) (E.ho (dn _ _ _ _ _ (nd3 β α)))))))))
 have nd11 : ∀ (α : Nat), H 7 (E.bits 12 527) [(0, E.pt c), (1, E.i most), (4, E.pt g1), (5, E.pt g2), (6, E.i ((i.1 : Nat) : Int)), (8, E.pt α), (13, E.pj g2 23), (14, E.i i.2.1.du), (15, .bool (decide (i.2.1.du > 0))), (16, .bool (decide (i.2.1.du > 0))), (22, .bool ((decide (i.2.1.du > 0)) && (decide (i.2.1.st ≥ i.2.1.du)))), (24, E.i ((i.1 : Nat) : Int)), (25, E.i most), (26, .bool (decide (((i.1 : Nat) : Int) ≥ most))), (29, Q.S.val i.2.1), (30, E.pt c), (31, E.pt m), (32, .iface 35 (E.pt m))] (A.X w oo aa [M.It m i.2.2 ([])]) [(α, [E.i 0, E.u 0]), (g2, (Q.S.cells i.2.1)), (g1, [E.i 0, E.u 0]), (c, (E.pt m :: Q.S.cells i.2.1))] := by
  intro α
  refine up _ _ _ _ _ (E.al2 4 8 rfl rfl ?_ ?_)
  ·
   exact A.gc (fun _ => .tuple #[Q.S.val ((K.step i.2.1 i.2.2).1), .agg #[E.i ((K.step i.2.1 i.2.2).2.1), E.u ((K.step i.2.1 i.2.2).2.2.1)]]) (Step_any (m := m) (xs := []) i.2.1 i.2.2 hk1.2.1 hk1.2.2.1) [4] [0, 1, 2, 3] [1, 2, 3, 4, 0] (fun _ => [(α, [E.i 0, E.u 0]), (g2, (Q.S.cells i.2.1)), (g1, [E.i 0, E.u 0]), (c, (E.pt m :: Q.S.cells i.2.1))]) (fun _ => [M.It m ((K.step i.2.1 i.2.2).2.2.2) ([])]) (fun _ δ => E.H.back (fun w h => A.hq [1, 2, 3] [0, 4] h) (E.ho (dn _ _ _ _ _ (nd12 α))))
  exact E.nw (Q.S.cells Q.z0) 26 (fun β => E.H.back (fun w h => A.hq [2, 3, 4] [0, 1, 5] h) (E.ho (dn _ _ _ _ _ (nd9 β α))))
 have nd0 : H 9 (E.bits 12 7) [(0, E.pt c), (1, E.i most), (4, E.pt g1), (5, E.pt g2), (6, E.i ((i.1 : Nat) : Int)), (13, E.pj g2 23), (14, E.i i.2.1.du), (15, .bool (decide (i.2.1.du > 0))), (16, .bool (decide (i.2.1.du > 0))), (22, .bool ((decide (i.2.1.du > 0)) && (decide (i.2.1.st ≥ i.2.1.du)))), (24, E.i ((i.1 : Nat) : Int)), (25, E.i most), (26, .bool (decide (((i.1 : Nat) : Int) ≥ most))), (29, Q.S.val i.2.1), (30, E.pt c), (31, E.pt m)] (A.X w oo aa [M.It m i.2.2 ([])]) [(g2, (Q.S.cells i.2.1)), (g1, [E.i 0, E.u 0]), (c, (E.pt m :: Q.S.cells i.2.1))] := by
  refine up _ _ _ _ _ (E.tk 3 (.iface 35 (E.pt m)) rfl (fun w h => A.hpY0 h Nz.k) (E.al3 4 8 9 rfl rfl rfl ?_ ?_ ?_))
  ·
   exact A.gc (fun _ => .tuple #[Q.S.val ((K.step i.2.1 i.2.2).1), .agg #[E.i ((K.step i.2.1 i.2.2).2.1), E.u ((K.step i.2.1 i.2.2).2.2.1)]]) (Step_any (m := m) (xs := []) i.2.1 i.2.2 hk1.2.1 hk1.2.2.1) [3] [0, 1, 2] [1, 2, 3, 0] (fun _ => [(g2, (Q.S.cells i.2.1)), (g1, [E.i 0, E.u 0]), (c, (E.pt m :: Q.S.cells i.2.1))]) (fun _ => [M.It m ((K.step i.2.1 i.2.2).2.2.2) ([])]) (fun _ δ => E.hb (dn _ _ _ _ _ (nd1)))
  ·
   exact E.nw (Q.S.cells Q.z0) 26 (fun β => E.H.back (fun w h => A.hq [1, 2, 3] [0, 4] h) (E.ho (dn _ _ _ _ _ (nd7 β))))
  exact E.nw [E.i 0, E.u 0] 47 (fun α => E.H.back (fun w h => A.hq [1, 2, 3] [0, 4] h) (E.ho (dn _ _ _ _ _ (nd11 α))))
 have nd14 : ∀ (β : Nat), H 8 (E.bits 12 263) [(0, E.pt c), (1, E.i most), (4, E.pt g1), (5, E.pt g2), (6, E.i ((i.1 : Nat) : Int)), (7, E.pt β), (13, E.pj g2 23), (14, E.i i.2.1.du), (15, .bool (decide (i.2.1.du > 0))), (16, .bool (decide (i.2.1.du > 0))), (22, .bool ((decide (i.2.1.du > 0)) && (decide (i.2.1.st ≥ i.2.1.du)))), (24, E.i ((i.1 : Nat) : Int)), (25, E.i most), (26, .bool (decide (((i.1 : Nat) : Int) ≥ most))), (29, Q.S.val i.2.1), (30, E.pt c), (31, E.pt m)] (A.X w oo aa [M.It m i.2.2 ([])]) [(β, (Q.S.cells Q.z0)), (g2, (Q.S.cells i.2.1)), (g1, [E.i 0, E.u 0]), (c, (E.pt m :: Q.S.cells i.2.1))] := by
  intro β
  refine up _ _ _ _ _ (E.tk 3 (.iface 35 (E.pt m)) rfl (fun w h => A.hq [1, 2, 3] [0, 4] h) (E.al2 4 9 rfl rfl ?_ ?_))
  ·
   exact A.gc (fun _ => .tuple #[Q.S.val ((K.step i.2.1 i.2.2).1), .agg #[E.i ((K.step i.2.1 i.2.2).2.1), E.u ((K.step i.2.1 i.2.2).2.2.1)]]) (Step_any (m := m) (xs := []) i.2.1 i.2.2 hk1.2.1 hk1.2.2.1) [4] [0, 1, 2, 3] [1, 2, 3, 4, 0] (fun _ => [(β, (Q.S.cells Q.z0)), (g2, (Q.S.cells i.2.1)), (g1, [E.i 0, E.u 0]), (c, (E.pt m :: Q.S.cells i.2.1))]) (fun _ => [M.It m ((K.step i.2.1 i.2.2).2.2.2) ([])]) (fun _ δ => E.H.back (fun w h => A.hq [1, 2, 3] [0, 4] h) (E.ho (dn _ _ _ _ _ (nd8 β))))
  exact E.nw [E.i 0, E.u 0] 47 (fun α => E.H.back (fun w h => A.hq [2, 3, 4] [0, 1, 5] h) (E.H.toP _ _ [(β, (Q.S.cells Q.z0)), (α, [E.i 0, E.u 0]), (g2, (Q.S.cells i.2.1)), (g1, [E.i 0, E.u 0]), (c, (E.pt m :: Q.S.cells i.2.1))] Nz.k ⟨Nz.k, Nz.k⟩ (A.pn [1, 0, 2, 3, 4]) (dn _ _ _ _ _ (nd9 β α))))
 have nd16 : ∀ (β α : Nat), H 7 (E.bits 12 775) [(0, E.pt c), (1, E.i most), (4, E.pt g1), (5, E.pt g2), (6, E.i ((i.1 : Nat) : Int)), (7, E.pt β), (8, E.pt α), (13, E.pj g2 23), (14, E.i i.2.1.du), (15, .bool (decide (i.2.1.du > 0))), (16, .bool (decide (i.2.1.du > 0))), (22, .bool ((decide (i.2.1.du > 0)) && (decide (i.2.1.st ≥ i.2.1.du)))), (24, E.i ((i.1 : Nat) : Int)), (25, E.i most), (26, .bool (decide (((i.1 : Nat) : Int) ≥ most))), (29, Q.S.val i.2.1), (30, E.pt c), (31, E.pt m)] (A.X w oo aa [M.It m i.2.2 ([])]) [(β, (Q.S.cells Q.z0)), (α, [E.i 0, E.u 0]), (g2, (Q.S.cells i.2.1)), (g1, [E.i 0, E.u 0]), (c, (E.pt m :: Q.S.cells i.2.1))] := by
  intro β α
  exact up _ _ _ _ _ (E.tk 3 (.iface 35 (E.pt m)) rfl (fun w h => A.hq [2, 3, 4] [0, 1, 5] h) (E.al 4 rfl (A.gc (fun _ => .tuple #[Q.S.val ((K.step i.2.1 i.2.2).1), .agg #[E.i ((K.step i.2.1 i.2.2).2.1), E.u ((K.step i.2.1 i.2.2).2.2.1)]]) (Step_any (m := m) (xs := []) i.2.1 i.2.2 hk1.2.1 hk1.2.2.1) [5] [0, 1, 2, 3, 4] [1, 2, 3, 4, 5, 0] (fun _ => [(β, (Q.S.cells Q.z0)), (α, [E.i 0, E.u 0]), (g2, (Q.S.cells i.2.1)), (g1, [E.i 0, E.u 0]), (c, (E.pt m :: Q.S.cells i.2.1))]) (fun _ => [M.It m ((K.step i.2.1 i.2.2).2.2.2) ([])]) (fun _ δ => E.H.back (fun w h => A.hq [2, 3, 4] [0, 1, 5] h) (E.ho (dn _ _ _ _ _ (nd10 β α)))))))
 have nd15 : ∀ (β α : Nat), H 8 (E.bits 12 771) [(0, E.pt c), (1, E.i most), (4, E.pt g1), (5, E.pt g2), (6, E.i ((i.1 : Nat) : Int)), (7, E.pt β), (8, E.pt α), (13, E.pj g2 23), (14, E.i i.2.1.du), (15, .bool (decide (i.2.1.du > 0))), (16, .bool (decide (i.2.1.du > 0))), (22, .bool ((decide (i.2.1.du > 0)) && (decide (i.2.1.st ≥ i.2.1.du)))), (24, E.i ((i.1 : Nat) : Int)), (25, E.i most), (26, .bool (decide (((i.1 : Nat) : Int) ≥ most))), (29, Q.S.val i.2.1), (30, E.pt c)] (A.X w oo aa [M.It m i.2.2 ([])]) [(β, (Q.S.cells Q.z0)), (α, [E.i 0, E.u 0]), (g2, (Q.S.cells i.2.1)), (g1, [E.i 0, E.u 0]), (c, (E.pt m :: Q.S.cells i.2.1))] := by
  intro β α
  exact up _ _ _ _ _ (E.al 2 rfl (E.ca (E.pt m) (fun w h => A.cq [4] [0, 1, 2, 3, 5] (CMem (c := c) (m := m) (s := i.2.1)) h) (E.H.back (fun w h => A.hq [2, 3, 4] [0, 1, 5] h) (E.ho (dn _ _ _ _ _ (nd16 β α))))))
 have nd13 : ∀ (β : Nat), H 9 (E.bits 12 259) [(0, E.pt c), (1, E.i most), (4, E.pt g1), (5, E.pt g2), (6, E.i ((i.1 : Nat) : Int)), (7, E.pt β), (13, E.pj g2 23), (14, E.i i.2.1.du), (15, .bool (decide (i.2.1.du > 0))), (16, .bool (decide (i.2.1.du > 0))), (22, .bool ((decide (i.2.1.du > 0)) && (decide (i.2.1.st ≥ i.2.1.du)))), (24, E.i ((i.1 : Nat) : Int)), (25, E.i most), (26, .bool (decide (((i.1 : Nat) : Int) ≥ most))), (29, Q.S.val i.2.1), (30, E.pt c)] (A.X w oo aa [M.It m i.2.2 ([])]) [(β, (Q.S.cells Q.z0)), (g2, (Q.S.cells i.2.1)), (g1, [E.i 0, E.u 0]), (c, (E.pt m :: Q.S.cells i.2.1))] := by
  intro β
  refine up _ _ _ _ _ (E.al2 2 9 rfl rfl ?_ ?_)
  ·
   exact E.ca (E.pt m) (fun w h => A.cq [3] [0, 1, 2, 4] (CMem (c := c) (m := m) (s := i.2.1)) h) (E.H.back (fun w h => A.hq [1, 2, 3] [0, 4] h) (E.ho (dn _ _ _ _ _ (nd14 β))))
  exact E.nw [E.i 0, E.u 0] 47 (fun α => E.H.back (fun w h => A.hq [2, 3, 4] [0, 1, 5] h) (E.H.toP _ _ [(β, (Q.S.cells Q.z0)), (α, [E.i 0, E.u 0]), (g2, (Q.S.cells i.2.1)), (g1, [E.i 0, E.u 0]), (c, (E.pt m :: Q.S.cells i.2.1))] Nz.k ⟨Nz.k, Nz.k⟩ (A.pn [1, 0, 2, 3, 4]) (dn _ _ _ _ _ (nd15 β α))))
 have nd18 : ∀ (α : Nat), H 8 (E.bits 12 519) [(0, E.pt c), (1, E.i most), (4, E.pt g1), (5, E.pt g2), (6, E.i ((i.1 : Nat) : Int)), (8, E.pt α), (13, E.pj g2 23), (14, E.i i.2.1.du), (15, .bool (decide (i.2.1.du > 0))), (16, .bool (decide (i.2.1.du > 0))), (22, .bool ((decide (i.2.1.du > 0)) && (decide (i.2.1.st ≥ i.2.1.du)))), (24, E.i ((i.1 : Nat) : Int)), (25, E.i most), (26, .bool (decide (((i.1 : Nat) : Int) ≥ most))), (29, Q.S.val i.2.1), (30, E.pt c), (31, E.pt m)] (A.X w oo aa [M.It m i.2.2 ([])]) [(α, [E.i 0, E.u 0]), (g2, (Q.S.cells i.2.1)), (g1, [E.i 0, E.u 0]), (c, (E.pt m :: Q.S.cells i.2.1))] := by
  intro α
  refine up _ _ _ _ _ (E.tk 3 (.iface 35 (E.pt m)) rfl (fun w h => A.hq [1, 2, 3] [0, 4] h) (E.al2 4 8 rfl rfl ?_ ?_))
  ·
   exact A.gc (fun _ => .tuple #[Q.S.val ((K.step i.2.1 i.2.2).1), .agg #[E.i ((K.step i.2.1 i.2.2).2.1), E.u ((K.step i.2.1 i.2.2).2.2.1)]]) (Step_any (m := m) (xs := []) i.2.1 i.2.2 hk1.2.1 hk1.2.2.1) [4] [0, 1, 2, 3] [1, 2, 3, 4, 0] (fun _ => [(α, [E.i 0, E.u 0]), (g2, (Q.S.cells i.2.1)), (g1, [E.i 0, E.u 0]), (c, (E.pt m :: Q.S.cells i.2.1))]) (fun _ => [M.It m ((K.step i.2.1 i.2.2).2.2.2) ([])]) (fun _ δ => E.H.back (fun w h => A.hq [1, 2, 3] [0, 4] h) (E.ho (dn _ _ _ _ _ (nd12 α))))
  exact E.nw (Q.S.cells Q.z0) 26 (fun β => E.H.back (fun w h => A.hq [2, 3, 4] [0, 1, 5] h) (E.ho (dn _ _ _ _ _ (nd9 β α))))
 have nd17 : ∀ (α : Nat), H 9 (E.bits 12 515) [(0, E.pt c), (1, E.i most), (4, E.pt g1), (5, E.pt g2), (6, E.i ((i.1 : Nat) : Int)), (8, E.pt α), (13, E.pj g2 23), (14, E.i i.2.1.du), (15, .bool (decide (i.2.1.du > 0))), (16, .bool (decide (i.2.1.du > 0))), (22, .bool ((decide (i.2.1.du > 0)) && (decide (i.2.1.st ≥ i.2.1.du)))), (24, E.i ((i.1 : Nat) : Int)), (25, E.i most), (26, .bool (decide (((i.1 : Nat) : Int) ≥ most))), (29, Q.S.val i.2.1), (30, E.pt c)] (A.X w oo aa [M.It m i.2.2 ([])]) [(α, [E.i 0, E.u 0]), (g2, (Q.S.cells i.2.1)), (g1, [E.i 0, E.u 0]), (c, (E.pt m :: Q.S.cells i.2.1))] := by
  intro α
  refine up _ _ _ _ _ (E.al2 2 8 rfl rfl ?_ ?_)
  ·
   exact E.ca (E.pt m) (fun w h => A.cq [3] [0, 1, 2, 4] (CMem (c := c) (m := m) (s := i.2.1)) h) (E.H.back (fun w h => A.hq [1, 2, 3] [0, 4] h) (E.ho (dn _ _ _ _ _ (nd18 α))))
  exact E.nw (Q.S.cells Q.z0) 26 (fun β => E.H.back (fun w h => A.hq [2, 3, 4] [0, 1, 5] h) (E.ho (dn _ _ _ _ _ (nd15 β α))))
 refine up _ _ _ _ _ (E.tj 0 (Q.S.val i.2.1) rfl (fun w h => A.hpY0 h Nz.k) (fun w h => A.Y.bld h (k := 0) (j := 0) rfl Nz.k Nz.k) (E.tk 1 (E.pt c) rfl (fun w h => A.hpY0 h Nz.k) (E.al3 2 8 9 rfl rfl rfl ?_ ?_ ?_)))
 ·
  exact E.ca (E.pt m) (fun w h => A.cq [2] [0, 1, 3] (CMem (c := c) (m := m) (s := i.2.1)) h) (E.hb (dn _ _ _ _ _ (nd0)))
 ·
  exact E.nw (Q.S.cells Q.z0) 26 (fun β => E.H.back (fun w h => A.hq [1, 2, 3] [0, 4] h) (E.ho (dn _ _ _ _ _ (nd13 β))))
 exact E.nw [E.i 0, E.u 0] 47 (fun α => E.H.back (fun w h => A.hq [1, 2, 3] [0, 4] h) (E.ho (dn _ _ _ _ _ (nd17 α))))
theorem KPeek {c m : Nat} {s : Q.S} {V : M.V} (x : Int) (hx : 0 ≤ x ∧ x < 4294967296) : A.Rd Tryz.prog 35 #[.pointer (some ⟨c, 0, none⟩), .int .u32 x] [A.blk c (.pointer (some ⟨m, 0, none⟩) :: Q.S.cells s), M.It m V []] (.int .u8 (V.peek (x).toNat)) := by
 intro w oo aa hh
 exact E.enter (n := 9) (S := fun _ => False) Tryz.func35 rfl rfl Nz.k (A.startY hh) (E.sr (E.op (.int .u8 0) (E.tr (E.op (E.pt c) (E.ca (E.pt m) (fun w h => A.Y.rd [M.It m V ([])] (CMem (c := c) (m := m) (s := s)) h.x (A.pn [0, 1])) (E.op (E.u x) (E.ca (.int .u8 (V.peek (x).toNat)) (fun w h => A.Y.rd [A.blk c (E.pt m :: Q.S.cells s)] (I_Peek x hx (m := m) (V := V) (xs := [])) h.x (A.pn [1, 0])) (E.op (.int .u8 (V.peek (x).toNat)) (E.To.code (E.C.ret (E.bd Tryz.f35 [.int .u8 (V.peek (x).toNat)] (fun w h => ⟨rfl, h.ch.bel (fun _ h => h.elim)⟩))))))))))))
theorem KPoke {c m : Nat} {s : Q.S} {V : M.V} (x : Int) (hx : 0 ≤ x ∧ x < 4294967296) (t : ByteArray) (hs : t.size < 4294967296) : A.Tr Tryz.prog 34 #[.pointer (some ⟨c, 0, none⟩), .int .u32 x, .string t] [A.blk c (.pointer (some ⟨m, 0, none⟩) :: Q.S.cells s), M.It m V []] (I := Unit) (fun _ => True) (fun _ => .tuple #[]) (fun _ => [A.blk c (.pointer (some ⟨m, 0, none⟩) :: Q.S.cells s), M.It m (V.poke (x).toNat t t.size) []]) := by
  intro w oo aa hh
  refine E.enter (n := 11) (S := oo) Tryz.func34 rfl rfl Nz.k (A.start (L := [(c, (.pointer (some ⟨m, 0, none⟩) :: Q.S.cells s))]) hh) ?_
  refine E.C.region ?_
  refine E.op (.pointer (some ⟨c, 0, none⟩)) ?_
  refine E.ca (.pointer (some ⟨m, 0, none⟩)) (fun w h => A.cq [0] [1] (CMem (c := c) (m := m) (s := s)) h) ?_
  refine E.op (.int .u32 x) ?_
  refine E.op (.string t) ?_
  refine A.gc (fun _ => .tuple #[]) (I_Poke x t hx hs (m := m) (V := V) (xs := [])) [1] [0] [1, 0] (fun _ => [(c, (.pointer (some ⟨m, 0, none⟩) :: Q.S.cells s))]) (fun _ => [M.It m (V.poke (x).toNat t t.size) ([])]) (fun _ hd1 => ?_)
  refine E.To.bodyN (fn := Tryz.f34) [] ?_ ?_
  · exact trivial
  · intro w h
    exact ⟨(), trivial, rfl, A.dq [0, 1] [] h⟩
theorem KProtect {c m : Nat} {s : Q.S} {V : M.V} (n z : Int) : A.Tr Tryz.prog 24 #[.pointer (some ⟨c, 0, none⟩), .int .i64 n, .int .i64 z] [A.blk c (.pointer (some ⟨m, 0, none⟩) :: Q.S.cells s), M.It m V []] (I := Unit) (fun _ => True) (fun _ => .tuple #[]) (fun _ => [A.blk c (.pointer (some ⟨m, 0, none⟩) :: Q.S.cells s), M.It m (V.prot n z) []]) := by
  intro w oo aa hh
  refine E.enter (n := 11) (S := oo) Tryz.func24 rfl rfl Nz.k (A.start (L := [(c, (.pointer (some ⟨m, 0, none⟩) :: Q.S.cells s))]) hh) ?_
  refine E.C.region ?_
  refine E.op (.pointer (some ⟨c, 0, none⟩)) ?_
  refine E.ca (.pointer (some ⟨m, 0, none⟩)) (fun w h => A.cq [0] [1] (CMem (c := c) (m := m) (s := s)) h) ?_
  refine E.op (.int .i64 n) ?_
  refine E.op (.int .i64 z) ?_
  refine A.gc (fun _ => .tuple #[]) (A_Protect n z (m := m) (V := V) (xs := [])) [1] [0] [1, 0] (fun _ => [(c, (.pointer (some ⟨m, 0, none⟩) :: Q.S.cells s))]) (fun _ => [M.It m (V.prot n z) ([])]) (fun _ hd1 => ?_)
  refine E.To.bodyN (fn := Tryz.f24) [] ?_ ?_
  · exact trivial
  · intro w h
    exact ⟨(), trivial, rfl, A.dq [0, 1] [] h⟩
theorem E.api_Trap_eql {fr : E.Fr} {x y : Operand} {u T : TypeId} {d : Option Nat} {pos : String} {af : Array Edge} {gd : Option (Nat × Bool)} {a0 a1 b0 b1 : Int} {w : World}
    (hx : E.ev fr x = .agg #[.int .i64 a0, .int .u32 a1]) (hy : E.ev fr y = .agg #[.int .i64 b0, .int .u32 b1]) :
    (execOp (E.ev fr) ⟨d, .binOp .eql 47 x y u, T, pos, af, gd⟩).run Tryz.prog w = .ok (.value (.bool (a0 == b0 && a1 == b1))) w := by
  show (do let r ← (do eqGuard .eql 47 x y (E.ev fr x) (E.ev fr y); binOp .eql 47 (E.ev fr x) (E.ev fr y)); pure (Next.value r) : Sem Next).run Tryz.prog w = _
  rw [hx, hy]
  go_simp
  (repeat' split) <;> simp_all
theorem E.api_Trap_neq {fr : E.Fr} {x y : Operand} {u T : TypeId} {d : Option Nat} {pos : String} {af : Array Edge} {gd : Option (Nat × Bool)} {a0 a1 b0 b1 : Int} {w : World}
    (hx : E.ev fr x = .agg #[.int .i64 a0, .int .u32 a1]) (hy : E.ev fr y = .agg #[.int .i64 b0, .int .u32 b1]) :
    (execOp (E.ev fr) ⟨d, .binOp .neq 47 x y u, T, pos, af, gd⟩).run Tryz.prog w = .ok (.value (.bool (!(a0 == b0 && a1 == b1)))) w := by
  show (do let r ← (do eqGuard .neq 47 x y (E.ev fr x) (E.ev fr y); binOp .neq 47 (E.ev fr x) (E.ev fr y)); pure (Next.value r) : Sem Next).run Tryz.prog w = _
  rw [hx, hy]
  go_simp
  (repeat' split) <;> simp_all
theorem Q.run_items (w : World) (d : Nat) (l : List Value) (hl : ∀ (i : Nat) (v : Value), l[i]? = some v → ∃ x : Int, v = Value.int .u32 x) : ∀ (is : List Nat), (∀ i ∈ is, i < l.length) → (Op.eqItems (d + 1) 22 1 l.toArray l.toArray is).run Tryz.prog w = .ok true w
  | [], _ => by simp [Op.eqItems]
  | i :: is, h => by
    have hi : i < l.length := h i (by simp)
    have ih := Q.run_items w d l hl is fun j hj => h j (by simp [hj])
    have ha : (isAgg 22).run Tryz.prog w = .ok false w := M.one Tryz.underlying22 rfl
    obtain ⟨x, hx⟩ := hl i _ (List.getElem?_eq_getElem hi)
    have p : (part 22 l.toArray (i * 1)).run Tryz.prog w = .ok (.int .u32 x) w := by
      have hg : l[i]? = some (.int .u32 x) := by rw [List.getElem?_eq_getElem hi, hx]
      simp [part, ha, hg]
    have e := run_equalIn_int (P := Tryz.prog) w d 22 .u32 .u32 x x Tryz.underlying22
    simp only [Op.eqItems, Sem.run_bind, p, e, Result.andThen_ok]
    simpa using ih
theorem Q.run_row (w : World) {t : TypeId} (n : Nat) (l : List Value) (ht : Tryz.prog.underlying t = some (.array n 22)) (hn : l.length = n) (hl : ∀ (i : Nat) (v : Value), l[i]? = some v → ∃ x : Int, v = Value.int .u32 x) : (Op.equalIn 9999 t (.agg l.toArray) (.agg l.toArray)).run Tryz.prog w = .ok true w := by
  subst hn
  have hi : ∃ i, Tryz.prog.info? 22 = some i := by
    cases h : Tryz.prog.info? 22 with
    | some i => exact ⟨i, rfl⟩
    | none => have : (Tryz.prog.info? 22).isSome = true := by kernel_rfl
              rw [h] at this; cases this
  obtain ⟨i, hi⟩ := hi
  have h := run_equalIn_array (P := Tryz.prog) w 9998 l.toArray l.toArray ht hi
  have hc : Tryz.prog.cellsOf 22 = 1 := by kernel_rfl
  rw [hc, Q.run_items w 9997 l hl (List.range l.length) (by simp)] at h
  exact h
theorem Q.all_u32 {l : List Int} : ∀ (i : Nat) (v : Value), (l.map (Value.int .u32))[i]? = some v → ∃ x : Int, v = Value.int .u32 x := fun i v h => by
  rw [List.getElem?_map] at h
  cases hq : l[i]? with
  | none => rw [hq] at h; cases h
  | some x => rw [hq] at h; exact ⟨x, (Option.some.inj h).symm⟩
theorem E.api_State_self {fr : E.Fr} {x y : Operand} {u T : TypeId} {d : Option Nat} {pos : String} {af : Array Edge} {gd : Option (Nat × Bool)} (s : Q.S) {w : World}
    (hx : E.ev fr x = s.val) (hy : E.ev fr y = s.val) :
    (execOp (E.ev fr) ⟨d, .binOp .eql 26 x y u, T, pos, af, gd⟩).run Tryz.prog w = .ok (.value (.bool true)) w := by
  show (do let r ← (do eqGuard .eql 26 x y (E.ev fr x) (E.ev fr y); binOp .eql 26 (E.ev fr x) (E.ev fr y)); pure (Next.value r) : Sem Next).run Tryz.prog w = _
  have h1 := Q.run_row w 16 ([s.r 0, s.r 1, s.r 2, s.r 3, s.r 4, s.r 5, s.r 6, s.r 7, s.r 8, s.r 9, s.r 10, s.r 11, s.r 12, s.r 13, s.r 14, s.r 15].map (Value.int .u32)) Tryz.underlying23 rfl Q.all_u32
  have h2 := Q.run_row w 4 ([s.c 0, s.c 1, s.c 2, s.c 3].map (Value.int .u32)) Tryz.underlying24 rfl Q.all_u32
  simp only [List.map_cons, List.map_nil] at h1 h2
  rw [hx, hy]
  unfold Q.S.val
  go_simp
theorem E.api_State_same {fr : E.Fr} {x y : Operand} {u T : TypeId} {d : Option Nat} {pos : String} {af : Array Edge} {gd : Option (Nat × Bool)} {s t : Q.S} {w : World} (e : s = t)
    (hx : E.ev fr x = s.val) (hy : E.ev fr y = t.val) :
    (execOp (E.ev fr) ⟨d, .binOp .eql 26 x y u, T, pos, af, gd⟩).run Tryz.prog w = .ok (.value (.bool true)) w := by
  subst e; exact E.api_State_self s hx hy
theorem Q.z0_wf : Q.wf Q.z0 := ⟨by decide, fun _ => by show (0 : Int) ≤ 0 ∧ (0 : Int) < 4294967296; decide, fun _ => by show (0 : Int) ≤ 0 ∧ (0 : Int) < 4294967296; decide⟩
theorem K.norm_wf {s : Q.S} (h : Q.wf s) : Q.wf (K.norm s) := ⟨h.pc, (Q.up_bd (Q.up_bd (Q.up_bd (Q.up_bd (Q.up_bd (Q.up_bd (Q.up_bd (Q.up_bd h.r (by decide)) (by decide)) (by decide)) (by decide)) (by decide)) (by decide)) (by decide)) (by decide)), h.c⟩
theorem K.run_wf {most : Int} : ∀ (f n : Nat) {s : Q.S} {V : M.V}, Q.wf s → R.Wf V → Q.wf (K.run most f n s V).1 ∧ R.Wf (K.run most f n s V).2.2.2
  | 0, _, _, _, hs, hV => ⟨hs, hV⟩
  | f + 1, n, s, V, hs, hV => by
    have h1 := K.step_wf hs hV
    rw [K.run]
    refine Q.bifP (p := fun x : Q.S × Int × Int × M.V => Q.wf x.1 ∧ R.Wf x.2.2.2) (fun _ => ⟨hs, hV⟩) fun _ => Q.bifP (p := fun x : Q.S × Int × Int × M.V => Q.wf x.1 ∧ R.Wf x.2.2.2) (fun _ => ⟨hs, hV⟩) fun _ => Q.bifP (p := fun x : Q.S × Int × Int × M.V => Q.wf x.1 ∧ R.Wf x.2.2.2) (fun _ => ⟨hs, h1.2⟩) fun _ => K.run_wf f (n + 1) h1.1 h1.2
theorem K.runs_wf {most : Int} {s : Q.S} {V : M.V} (hs : Q.wf s) (hV : R.Wf V) : Q.wf (K.runs most s V).1 ∧ R.Wf (K.runs most s V).2.2.2 := K.run_wf _ _ hs hV
def K.snA : M.V := (((M.V.new (M.np 1) true).prot 0 7).poke (0 : Int).toNat ⟨#[65, 1, 5, 0, 0, 0, 2]⟩ 7)
def K.snB : M.V := (((M.V.new (M.np 1) true).prot 0 7).poke (0 : Int).toNat ⟨#[16, 1]⟩ 2)
theorem K.lst_bd : ∀ (l : List Int), (∀ x, x ∈ l → 0 ≤ x ∧ x < 4294967296) → ∀ k, 0 ≤ l.getD k 0 ∧ l.getD k 0 < 4294967296
  | [], _, k => by show (0 : Int) ≤ 0 ∧ (0 : Int) < 4294967296; decide
  | x :: l, h, 0 => h x (List.mem_cons_self ..)
  | x :: l, h, k + 1 => K.lst_bd l (fun y hy => h y (List.mem_cons_of_mem _ hy)) k
theorem K.zero_bd (k : Nat) : 0 ≤ (fun _ => 0 : Nat → Int) k ∧ (fun _ => 0 : Nat → Int) k < 4294967296 := by show (0 : Int) ≤ 0 ∧ (0 : Int) < 4294967296; decide
def K.sn1 : Q.S × Int × Int × M.V := K.runs 10 Q.z0 K.snA
def K.snS : Q.S := K.norm ⟨0, (fun k => [0, 0, 0, 0, 0, 0, 0, 2, 0, 0, 0, 0, 0, 0, 0, 0].getD k 0), 0, (fun _ => 0), 0, 0⟩
theorem K.snS_wf : Q.wf K.snS := K.norm_wf ⟨by show (0 : Int) ≤ 0 ∧ (0 : Int) < 4294967296; decide, K.lst_bd _ (by decide), K.zero_bd⟩
def K.sn2 : Q.S × Int × Int × M.V := K.runs 1 K.snS K.snB
theorem K.sn2_st : K.sn2.1 = ⟨0, (fun k => [0, 0, 0, 0, 0, 0, 0, 2, 0, 0, 0, 0, 0, 0, 0, 0].getD k 0), 0, (fun _ => 0), 0, 0⟩ := by
  have e : K.sn2.1 = K.snS := by kernel_rfl
  rw [e]; unfold K.snS K.norm
  have hr : ∀ k, (Q.up (Q.up (Q.up (Q.up (Q.up (Q.up (Q.up (Q.up (fun k => [0, 0, 0, 0, 0, 0, 0, 2, 0, 0, 0, 0, 0, 0, 0, 0].getD k 0) 8 0) 9 0) 10 0) 11 0) 12 0) 13 0) 14 0) 15 0) k = ([0, 0, 0, 0, 0, 0, 0, 2, 0, 0, 0, 0, 0, 0, 0, 0] : List Int).getD k 0 := fun k => by
    rcases Nat.lt_or_ge k 16 with h | h
    · rcases (by omega : k = 0 ∨ k = 1 ∨ k = 2 ∨ k = 3 ∨ k = 4 ∨ k = 5 ∨ k = 6 ∨ k = 7 ∨ k = 8 ∨ k = 9 ∨ k = 10 ∨ k = 11 ∨ k = 12 ∨ k = 13 ∨ k = 14 ∨ k = 15) with rfl | rfl | rfl | rfl | rfl | rfl | rfl | rfl | rfl | rfl | rfl | rfl | rfl | rfl | rfl | rfl <;> rfl
    · unfold Q.up
      simp only [if_neg (by omega : ¬ k = 8), if_neg (by omega : ¬ k = 9), if_neg (by omega : ¬ k = 10), if_neg (by omega : ¬ k = 11), if_neg (by omega : ¬ k = 12), if_neg (by omega : ¬ k = 13), if_neg (by omega : ¬ k = 14), if_neg (by omega : ¬ k = 15)]
  rw [funext hr]; rfl
abbrev Zflza : Array Value := #[E.u 0, E.u 0, E.u 0, E.u 0, E.u 0, E.u 0, E.u 0, E.u 2, E.u 0, E.u 0, E.u 0, E.u 0, E.u 0, E.u 0, E.u 0, E.u 0]
abbrev Zflzb := (M.V.new (M.np 1) true).prot 0 7
set_option maxHeartbeats 1000000 in
theorem San5  : A.Rd Tryz.prog 15 #[] [] (.bool true) := by
 intro w oo aa hh
 refine E.enter (n := 64) (S := oo) Tryz.func15 rfl rfl Nz.k (A.start (L := []) hh) (E.sr (E.op (.bool false) (E.tr (A.gc (I := Nat × Nat) (fun i1 => E.pt i1.1) (CNew 1) [] [] [0, 1] (fun i1 => [(i1.1, (E.pt i1.2 :: Q.S.cells Q.z0))]) (fun i1 => [M.It i1.2 (M.V.new (M.np 1) true) ([])]) (fun i1 hd2 => E.op (E.pt i1.1) (E.tr (E.op (E.pt i1.1) (A.gc (fun _ => .tuple #[]) (KProtect 0 7 (c := i1.1) (m := i1.2) (s := Q.z0) (V := (M.V.new (M.np 1) true))) [0, 1] [] [0, 1] (fun _ => [(i1.1, (E.pt i1.2 :: Q.S.cells Q.z0))]) (fun _ => [M.It i1.2 Zflzb ([])]) (fun _ hd3 => E.tr (E.op (E.pt i1.1) (A.gc (q := fun _ => [A.blk i1.1 (E.pt i1.2 :: Q.S.cells Q.z0), M.It i1.2 K.snA ([])]) (fun _ => .tuple #[]) (KPoke 0 (by decide) (⟨#[65, 1, 5, 0, 0, 0, 2]⟩ : ByteArray) (by decide) (c := i1.1) (m := i1.2) (s := Q.z0) (V := Zflzb)) [0, 1] [] [0, 1] (fun _ => [(i1.1, (E.pt i1.2 :: Q.S.cells Q.z0))]) (fun _ => [M.It i1.2 K.snA ([])]) (fun _ hd4 => ?_))))))))))))
 refine E.tr (E.op (E.pt i1.1) (A.gc (q := fun _ => [A.blk i1.1 (E.pt i1.2 :: Q.S.cells K.sn1.1), M.It i1.2 K.sn1.2.2.2 ([])]) (fun _ => .agg #[E.i K.sn1.2.1, E.u K.sn1.2.2.1]) (CRun (c := i1.1) (m := i1.2) 10 Q.z0 K.snA (by decide) Q.z0_wf (R.Wf.poke (R.Wf.prot (R.Wf.new (M.np_le _) _) _ _) _ _ _)) [0, 1] [] [0, 1] (fun _ => [(i1.1, (E.pt i1.2 :: Q.S.cells K.sn1.1))]) (fun _ => [M.It i1.2 K.sn1.2.2.2 ([])]) (fun _ hd5 => E.nw [E.i 0, E.u 0] 47 (fun g6 => E.st 0 [E.i K.sn1.2.1, E.u K.sn1.2.2.1] rfl rfl (E.tr (E.op (E.pt i1.1) (E.ca (Q.S.val K.sn1.1) (fun w h => A.cq [1] [0, 2] (CState (c := i1.1) (m := i1.2) K.sn1.1) h) (E.nw (Q.S.cells Q.z0) 26 (fun g7 => E.st 0 (Q.S.cells K.sn1.1) rfl rfl (E.To.code (E.wk [(0, .bool false), (2, E.pt g6), (3, E.pt g7)] [(g7, (Q.S.cells K.sn1.1)), (g6, [E.i K.sn1.2.1, E.u K.sn1.2.2.1])] Nz.sub ?_)))))))))))
 refine E.sr (E.li (.agg #[E.i K.sn1.2.1, E.u K.sn1.2.2.1]) 1 rfl rfl (E.vl (.agg #[E.i 2, E.u 0]) (fun w h => E.run_build #[E.i 2, E.u 0] Nz.k w) (E.vl (.bool true) (fun w h => E.run_as (a := .bool ((K.sn1.2.1 == 2) && (K.sn1.2.2.1 == 0))) (E.api_Trap_eql Nz.k Nz.k) (congrArg Value.bool Nz.k)) (E.op (.bool true) (E.op (E.pj g7 1) (E.op (E.pj g7 2) (E.li (E.u (K.sn1.1.r 1)) 0 rfl rfl (E.vl (.bool true) (fun w h => E.run_as (a := .bool ((K.sn1.1.r 1) == 5)) Nz.k (congrArg Value.bool Nz.k)) (E.op (.bool true) (E.op (.bool true) (E.op (E.pj g7 17) ?_)))))))))))
 refine E.li (E.u K.sn1.1.f) 0 rfl rfl (E.vl (.bool true) (fun w h => E.run_as (a := .bool (K.sn1.1.f == 0)) Nz.k (congrArg Value.bool Nz.k)) (E.op (.bool true) (E.op (.bool true) (E.op (E.pt g7) (E.li (E.u K.sn1.1.pc) 0 rfl rfl (E.vl (.bool true) (fun w h => E.run_as (a := .bool (K.sn1.1.pc == 6)) Nz.k (congrArg Value.bool Nz.k)) (E.op (.bool true) (E.op (.bool true) (E.op (E.pj g7 22) (E.li (E.i K.sn1.1.st) 0 rfl rfl (E.vl (.bool true) (fun w h => E.run_as (a := .bool (K.sn1.1.st == 1)) Nz.k (congrArg Value.bool Nz.k)) ?_)))))))))))
 refine E.op (.bool true) (E.op (.bool true) (E.To.code (E.wk [(0, .bool false), (4, .bool true)] [] Nz.sub (E.sr (A.gc (I := Nat × Nat) (fun i8 => E.pt i8.1) (CNew 1) [] [0] [0, 1, 2] (fun i8 => [(i8.1, (E.pt i8.2 :: Q.S.cells Q.z0))]) (fun i8 => [M.It i8.2 (M.V.new (M.np 1) true) ([]), M.It i1.2 K.sn1.2.2.2 ([])]) (fun i8 hd9 => E.op (E.pt i8.1) (E.tr (E.op (E.pt i8.1) (A.gc (fun _ => .tuple #[]) (KProtect 0 7 (c := i8.1) (m := i8.2) (s := Q.z0) (V := (M.V.new (M.np 1) true))) [0, 1] [2] [0, 1, 2] (fun _ => [(i8.1, (E.pt i8.2 :: Q.S.cells Q.z0))]) (fun _ => [M.It i8.2 Zflzb ([]), M.It i1.2 K.sn1.2.2.2 ([])]) (fun _ hd10 => E.tr (E.op (E.pt i8.1) ?_)))))))))))
 refine A.gc (q := fun _ => [A.blk i8.1 (E.pt i8.2 :: Q.S.cells Q.z0), M.It i8.2 K.snB ([])]) (fun _ => .tuple #[]) (KPoke 0 (by decide) (⟨#[16, 1]⟩ : ByteArray) (by decide) (c := i8.1) (m := i8.2) (s := Q.z0) (V := Zflzb)) [0, 1] [2] [0, 1, 2] (fun _ => [(i8.1, (E.pt i8.2 :: Q.S.cells Q.z0))]) (fun _ => [M.It i8.2 K.snB ([]), M.It i1.2 K.sn1.2.2.2 ([])]) (fun _ hd11 => E.tr (E.op (E.pt i8.1) (E.vl (.agg Zflza) (fun w h => E.run_build Zflza Nz.k w) (E.vl (Q.S.val (⟨0, (fun k => [0, 0, 0, 0, 0, 0, 0, 2, 0, 0, 0, 0, 0, 0, 0, 0].getD k 0), 0, (fun _ => 0), 0, 0⟩)) (fun w h => E.run_build (Q.S.cells ⟨0, (fun k => [0, 0, 0, 0, 0, 0, 0, 2, 0, 0, 0, 0, 0, 0, 0, 0].getD k 0), 0, (fun _ => 0), 0, 0⟩).toArray Nz.k w) (A.gc (fun _ => .tuple #[]) (CSet (c := i8.1) (m := i8.2) (s0 := Q.z0) (⟨0, (fun k => [0, 0, 0, 0, 0, 0, 0, 2, 0, 0, 0, 0, 0, 0, 0, 0].getD k 0), 0, (fun _ => 0), 0, 0⟩ : Q.S)) [0] [1, 2] [0, 1, 2] (fun _ => [(i8.1, (E.pt i8.2 :: Q.S.cells K.snS))]) (fun _ => [M.It i8.2 K.snB ([]), M.It i1.2 K.sn1.2.2.2 ([])]) (fun _ hd12 => E.To.code (E.wk [(0, .bool false), (4, .bool true), (5, E.pt i8.1)] [(i8.1, (E.pt i8.2 :: Q.S.cells K.snS))] Nz.sub (E.sr (E.op (E.pt i8.1) (A.gc (q := fun _ => [A.blk i8.1 (E.pt i8.2 :: Q.S.cells K.sn2.1), M.It i8.2 K.sn2.2.2.2 ([])]) (fun _ => .agg #[E.i K.sn2.2.1, E.u K.sn2.2.2.1]) (CRun (c := i8.1) (m := i8.2) 1 K.snS K.snB (by decide) K.snS_wf (R.Wf.poke (R.Wf.prot (R.Wf.new (M.np_le _) _) _ _) _ _ _)) [0, 1] [2] [0, 1, 2] (fun _ => [(i8.1, (E.pt i8.2 :: Q.S.cells K.sn2.1))]) (fun _ => [M.It i8.2 K.sn2.2.2.2 ([]), M.It i1.2 K.sn1.2.2.2 ([])]) (fun _ hd13 => E.nw [E.i 0, E.u 0] 47 (fun g14 => ?_))))))))))))
 refine E.st 0 [E.i K.sn2.2.1, E.u K.sn2.2.2.1] rfl rfl (E.tr (E.op (.bool true) (E.op (.bool true) (E.li (.agg #[E.i K.sn2.2.1, E.u K.sn2.2.2.1]) 0 rfl rfl (E.vl (.agg #[E.i 5, E.u 4294967294]) (fun w h => E.run_build #[E.i 5, E.u 4294967294] Nz.k w) (E.vl (.bool true) (fun w h => E.run_as (a := .bool ((K.sn2.2.1 == 5) && (K.sn2.2.2.1 == 4294967294))) (E.api_Trap_eql Nz.k Nz.k) (congrArg Value.bool Nz.k)) (E.op (.bool true) (E.op (.bool true) (E.op (E.pt i8.1) (E.ca (Q.S.val K.sn2.1) (fun w h => A.cq [1] [0, 2, 3] (CState (c := i8.1) (m := i8.2) K.sn2.1) h) (E.vl (.agg Zflza) (fun w h => E.run_build Zflza Nz.k w) ?_)))))))))))
 exact E.vl (Q.S.val (⟨0, (fun k => [0, 0, 0, 0, 0, 0, 0, 2, 0, 0, 0, 0, 0, 0, 0, 0].getD k 0), 0, (fun _ => 0), 0, 0⟩)) (fun w h => E.run_build (Q.S.cells ⟨0, (fun k => [0, 0, 0, 0, 0, 0, 0, 2, 0, 0, 0, 0, 0, 0, 0, 0].getD k 0), 0, (fun _ => 0), 0, 0⟩).toArray Nz.k w) (E.vl (.bool true) (fun w h => E.api_State_same K.sn2_st Nz.k Nz.k) (E.op (.bool true) (E.op (.bool true) (E.To.code (E.wk [(0, .bool true)] [] Nz.sub (E.C.ret (E.bd Tryz.f15 [.bool true] (fun w h => ⟨rfl, h.ch.bel (fun x hx => (hh.1 x hx).elim)⟩))))))))
end Go.Proofs.YtglidnmmeclneaaGreat
namespace Go.Proofs.YtglidnmmeclneaaGreat
set_option linter.unusedVariables false
set_option linter.unusedSimpArgs false
open Go.Joins Go.ChangeShapes Go.WideShapes Go.ChangeAt Go.RowKit Go.Deep
section
variable {H : Type} {enc : TypeId × Value → H} {P : Program} {w : World} {base : Nat} {spare : Nat → Bool} {held : Bool} {fuel : Nat} {t e : TypeId} {k : IntKind} {n : Nat} {cs : List Value} {x : DataW H × List MemPlace}
theorem K.trod_row (ht : P.underlying t = some (.array n e)) (he : P.underlying e = some (.int k)) (hc : P.cellsOf e = 1) (hct : P.cellsOf t = n) (h : DataW.trod enc P w base spare held fuel t cs = some x) : ∃ l : List Int, l.length = n ∧ cs = l.map (.int k) ∧ ∀ x ∈ l, (Lit.int k x).wf = true := by
  obtain ⟨xs, m, _, _, hl, hx, hel⟩ := DataW.trod_array ht h
  rw [hct] at hl
  have key : ∀ i, i < n → ∃ a, cs[i]? = some (.int k a) ∧ (Lit.int k a).wf = true := by
    intro i hi
    have h0 := hel i hi
    rw [hc, Nat.mul_one, List.getElem?_eq_getElem (by omega)] at h0
    obtain ⟨a, ea, _, wa⟩ := DataW.trod_int he h0
    refine ⟨a, ?_, wa⟩
    have hsz : i < cs.length := by omega
    have h2 : (cs.drop i).take 1 = [cs[i]] := by
      rw [List.drop_eq_getElem_cons hsz, List.take_succ_cons, List.take_zero]
    rw [h2] at ea
    rw [List.getElem?_eq_getElem hsz]
    exact congrArg some (List.cons.inj ea).1
  have key2 : ∃ f : Nat → Int, ∀ i, i < n → cs[i]? = some (.int k (f i)) ∧ (Lit.int k (f i)).wf = true := by
    refine ⟨fun i => if h : i < n then (key i h).choose else 0, fun i h => ?_⟩
    have := (key i h).choose_spec
    simp only [h, dif_pos]
    exact this
  obtain ⟨f, hf⟩ := key2
  refine ⟨(List.range n).map f, by simp, ?_, fun x hx => ?_⟩
  · apply List.ext_getElem?
    intro i
    by_cases hi : i < n
    · rw [(hf i hi).1]; simp [List.getElem?_range, hi]
    · rw [List.getElem?_eq_none (by omega)]; simp [hi]
  · obtain ⟨i, hi, rfl⟩ := List.mem_map.1 hx
    exact (hf i (List.mem_range.1 hi)).2
theorem K.cut_at {α : Type} (l : List α) (a k : Nat) : l.drop a = (l.drop a).take k ++ l.drop (a + k) := by rw [← List.drop_drop, List.take_append_drop]
end
theorem K.bu32 {n : Int} (h : (Lit.int .u32 n).wf = true) : 0 ≤ n ∧ n < 4294967296 := by have := bounds_u32 h; omega
theorem K.bi64 {n : Int} (h : (Lit.int .i64 n).wf = true) : -9223372036854775808 ≤ n ∧ n < 9223372036854775808 := by have := bounds_i64 h; omega
theorem K.bu8 {n : Int} (h : (Lit.int .u8 n).wf = true) : 0 ≤ n ∧ n < 256 := by have := bounds_u8 h; omega
/-- A state's facts. -/
structure K.sok (s : Q.S) : Prop where
  wf : Q.wf s
  f : 0 ≤ s.f ∧ s.f < 4294967296
  st : -9223372036854775808 ≤ s.st ∧ s.st < 9223372036854775808
  du : -9223372036854775808 ≤ s.du ∧ s.du < 9223372036854775808
section
variable {H : Type} {enc : TypeId × Value → H} {w : World} {base : Nat} {spare : Nat → Bool} {held : Bool} {fuel : Nat} {x : DataW H × List MemPlace}
theorem K.trod_state {cs : List Value} (h : DataW.trod enc Tryz.prog w base spare held fuel 26 cs = some x) : ∃ s : Q.S, cs = Q.S.cells s ∧ K.sok s := by
  obtain ⟨xs, n, _, _, hl, hx, hg⟩ := DataW.trod_struct Tryz.underlying26 h
  have hl : cs.length = 24 := hl.trans (by kernel_rfl)
  have c1 : Tryz.prog.cellsOf 22 = 1 := by kernel_rfl
  have c2 : Tryz.prog.cellsOf 3 = 1 := by kernel_rfl
  have c3 : Tryz.prog.cellsOf 23 = 16 := by kernel_rfl
  have c4 : Tryz.prog.cellsOf 24 = 4 := by kernel_rfl
  have hx : xs.length = 6 := hx
  have gx : ∀ i, i < 6 → ∃ y, xs[i]? = some y := fun i hi => ⟨_, List.getElem?_eq_getElem (by omega)⟩
  obtain ⟨y0, e0⟩ := gx 0 (by decide)
  obtain ⟨y1, e1⟩ := gx 1 (by decide)
  obtain ⟨y2, e2⟩ := gx 2 (by decide)
  obtain ⟨y3, e3⟩ := gx 3 (by decide)
  obtain ⟨y4, e4⟩ := gx 4 (by decide)
  obtain ⟨y5, e5⟩ := gx 5 (by decide)
  have g0 : DataW.trod enc Tryz.prog w base spare held n 22 ((cs.drop 0).take (Tryz.prog.cellsOf 22)) = some y0 := (hg 0 _ rfl).trans e0
  have g1 : DataW.trod enc Tryz.prog w base spare held n 23 ((cs.drop 1).take (Tryz.prog.cellsOf 23)) = some y1 := (hg 1 _ rfl).trans e1
  have g2 : DataW.trod enc Tryz.prog w base spare held n 22 ((cs.drop 17).take (Tryz.prog.cellsOf 22)) = some y2 := (hg 2 _ rfl).trans e2
  have g3 : DataW.trod enc Tryz.prog w base spare held n 24 ((cs.drop 18).take (Tryz.prog.cellsOf 24)) = some y3 := (hg 3 _ rfl).trans e3
  have g4 : DataW.trod enc Tryz.prog w base spare held n 3 ((cs.drop 22).take (Tryz.prog.cellsOf 3)) = some y4 := (hg 4 _ rfl).trans e4
  have g5 : DataW.trod enc Tryz.prog w base spare held n 3 ((cs.drop 23).take (Tryz.prog.cellsOf 3)) = some y5 := (hg 5 _ rfl).trans e5
  rw [c1] at g0 g2
  rw [c2] at g4 g5
  rw [c3] at g1
  rw [c4] at g3
  obtain ⟨p, p1, -, p2⟩ := DataW.trod_int Tryz.underlying22 g0
  obtain ⟨r, r0, r1, r2⟩ := K.trod_row Tryz.underlying23 Tryz.underlying22 c1 c3 g1
  obtain ⟨f, f1, -, f2⟩ := DataW.trod_int Tryz.underlying22 g2
  obtain ⟨c, c0, c1', c2'⟩ := K.trod_row Tryz.underlying24 Tryz.underlying22 c1 c4 g3
  obtain ⟨st, st1, -, st2⟩ := DataW.trod_int Tryz.underlying3 g4
  obtain ⟨du, du1, -, du2⟩ := DataW.trod_int Tryz.underlying3 g5
  have e : cs = [Value.int .u32 p] ++ (r.map (Value.int .u32) ++ ([Value.int .u32 f] ++ (c.map (Value.int .u32) ++ ([Value.int .i64 st] ++ ([Value.int .i64 du] ++ []))))) := by
    have h0 := K.cut_at cs 0 1
    have h1 := K.cut_at cs 1 16
    have h2 := K.cut_at cs 17 1
    have h3 := K.cut_at cs 18 4
    have h4 := K.cut_at cs 22 1
    have h5 := K.cut_at cs 23 1
    have h6 : cs.drop 24 = [] := List.drop_eq_nil_of_le (by omega)
    rw [p1] at h0; rw [r1] at h1; rw [f1] at h2; rw [c1'] at h3; rw [st1] at h4; rw [du1] at h5
    exact h0.trans (congrArg (_ ++ ·) (h1.trans (congrArg (_ ++ ·) (h2.trans (congrArg (_ ++ ·) (h3.trans (congrArg (_ ++ ·) (h4.trans (congrArg (_ ++ ·) (h5.trans (congrArg (_ ++ ·) h6)))))))))))
  match r, r0, c, c0 with
  | [a0, a1, a2, a3, a4, a5, a6, a7, a8, a9, a10, a11, a12, a13, a14, a15], _, [b0, b1, b2, b3], _ =>
    exact ⟨⟨p, fun k => [a0, a1, a2, a3, a4, a5, a6, a7, a8, a9, a10, a11, a12, a13, a14, a15].getD k 0, f, fun k => [b0, b1, b2, b3].getD k 0, st, du⟩, e, ⟨⟨K.bu32 p2, K.lst_bd _ fun x hx => K.bu32 (r2 x hx), K.lst_bd _ fun x hx => K.bu32 (c2' x hx)⟩, K.bu32 f2, K.bi64 st2, K.bi64 du2⟩⟩
set_option maxRecDepth 100000 in
theorem open_start {v : Value} {d : DataW H} {ps : List MemPlace} {r : Reach} {b0 : Nat} (hval : Value.okWide Tryz.prog w r b0 29 v) (hd : DataW.Trod enc Tryz.prog w base spare held 29 v d ps) :
    ∃ (s : Q.S) (x0 x1 x2 x3 z a : Int) (code : ByteArray), v = .agg (Q.S.cells s ++ [Value.int .u8 x0, Value.int .u8 x1, Value.int .u8 x2, Value.int .u8 x3, Value.int .u32 z, Value.int .u32 a, Value.string code]).toArray ∧ K.sok s ∧ (0 ≤ x0 ∧ x0 < 256) ∧ (0 ≤ x1 ∧ x1 < 256) ∧ (0 ≤ x2 ∧ x2 < 256) ∧ (0 ≤ x3 ∧ x3 < 256) ∧ (0 ≤ z ∧ z < 4294967296) ∧ (0 ≤ a ∧ a < 4294967296) ∧ code.size ≤ maxLen := by
  obtain ⟨cs, rfl, _⟩ := okWide_struct Tryz.underlying29 hval
  obtain ⟨fuel, hf⟩ := hd
  obtain ⟨xs, n, _, _, hl, hx, hg⟩ := DataW.trod_struct Tryz.underlying29 hf
  have hl : cs.toList.length = 31 := hl.trans (by kernel_rfl)
  have c1 : Tryz.prog.cellsOf 22 = 1 := by kernel_rfl
  have c2 : Tryz.prog.cellsOf 5 = 1 := by kernel_rfl
  have c3 : Tryz.prog.cellsOf 26 = 24 := by kernel_rfl
  have c4 : Tryz.prog.cellsOf 27 = 4 := by kernel_rfl
  have c5 : Tryz.prog.cellsOf 9 = 1 := by kernel_rfl
  have hx : xs.length = 5 := hx
  have gx : ∀ i, i < 5 → ∃ y, xs[i]? = some y := fun i hi => ⟨_, List.getElem?_eq_getElem (by omega)⟩
  obtain ⟨y0, e0⟩ := gx 0 (by decide)
  obtain ⟨y1, e1⟩ := gx 1 (by decide)
  obtain ⟨y2, e2⟩ := gx 2 (by decide)
  obtain ⟨y3, e3⟩ := gx 3 (by decide)
  obtain ⟨y4, e4⟩ := gx 4 (by decide)
  have g0 : DataW.trod enc Tryz.prog w base spare held n 26 ((cs.toList.drop 0).take (Tryz.prog.cellsOf 26)) = some y0 := (hg 0 _ rfl).trans e0
  have g1 : DataW.trod enc Tryz.prog w base spare held n 27 ((cs.toList.drop 24).take (Tryz.prog.cellsOf 27)) = some y1 := (hg 1 _ rfl).trans e1
  have g2 : DataW.trod enc Tryz.prog w base spare held n 22 ((cs.toList.drop 28).take (Tryz.prog.cellsOf 22)) = some y2 := (hg 2 _ rfl).trans e2
  have g3 : DataW.trod enc Tryz.prog w base spare held n 22 ((cs.toList.drop 29).take (Tryz.prog.cellsOf 22)) = some y3 := (hg 3 _ rfl).trans e3
  have g4 : DataW.trod enc Tryz.prog w base spare held n 9 ((cs.toList.drop 30).take (Tryz.prog.cellsOf 9)) = some y4 := (hg 4 _ rfl).trans e4
  rw [c3] at g0
  rw [c4] at g1
  rw [c1] at g2 g3
  rw [c5] at g4
  obtain ⟨s, s1, s2⟩ := K.trod_state g0
  obtain ⟨l, l0, l1, l2⟩ := K.trod_row Tryz.underlying27 Tryz.underlying5 c2 c4 g1
  obtain ⟨z, z1, -, z2⟩ := DataW.trod_int Tryz.underlying22 g2
  obtain ⟨a, a1, -, a2⟩ := DataW.trod_int Tryz.underlying22 g3
  obtain ⟨code, d1, -, d2⟩ := DataW.trod_string Tryz.underlying9 g4
  have e : cs.toList = Q.S.cells s ++ (l.map (Value.int .u8) ++ ([Value.int .u32 z] ++ ([Value.int .u32 a] ++ ([Value.string code] ++ [])))) := by
    have h0 := K.cut_at cs.toList 0 24
    have h1 := K.cut_at cs.toList 24 4
    have h2 := K.cut_at cs.toList 28 1
    have h3 := K.cut_at cs.toList 29 1
    have h4 := K.cut_at cs.toList 30 1
    have h5 : cs.toList.drop 31 = [] := List.drop_eq_nil_of_le (by omega)
    rw [s1] at h0; rw [l1] at h1; rw [z1] at h2; rw [a1] at h3; rw [d1] at h4
    exact h0.trans (congrArg (_ ++ ·) (h1.trans (congrArg (_ ++ ·) (h2.trans (congrArg (_ ++ ·) (h3.trans (congrArg (_ ++ ·) (h4.trans (congrArg (_ ++ ·) h5)))))))))
  match l, l0 with
  | [x0, x1, x2, x3], _ =>
    have l2 : ∀ x, x ∈ [x0, x1, x2, x3] → 0 ≤ x ∧ x < 256 := fun x hx => K.bu8 (l2 x hx)
    exact ⟨s, x0, x1, x2, x3, z, a, code, congrArg Value.agg (Array.toList_inj.1 e), s2, l2 _ (by simp), l2 _ (by simp), l2 _ (by simp), l2 _ (by simp), K.bu32 z2, K.bu32 a2, d2⟩
end
end Go.Proofs.YtglidnmmeclneaaGreat
namespace Go.Proofs.YtglidnmmeclneaaGreat
set_option linter.unusedVariables false
set_option linter.unusedSimpArgs false
open Go.RowKit
/-- The cells of a slice of rows of K integers. -/
def M.rowF (K : Nat) (ad : Addr) (n : Nat) (q : Nat → Nat → Int) : Addr → Value → Prop := fun a v => ∃ i j, i < n ∧ j < K ∧ a = (ad.add (i * K)).add j ∧ v = .int .i64 (q i j)
section
variable {fr : E.Fr} {d : Option Nat} {T : TypeId} {pos : String} {af : Array Edge} {gd : Option (Nat × Bool)} {P : Program} {w : World} {its : List A.It}
theorem A.idxR {t e : TypeId} {x ix : Operand} (ad : Addr) (ao : Option Addr) (len cap esz : Nat) (k : IntKind) (i : Nat) (hao : 0 < len → ao = some ad) (hu : P.underlying t = some (.slice e)) (hs : (P.info? e).map (·.size) = some esz) (hx : E.ev fr x = .slice ao len cap) (hi : E.ev fr ix = .int k ((i : Nat) : Int))
    (h1 : i < len) (w : World) : (execOp (E.ev fr) ⟨d, .indexAddr t x ix, T, pos, af, gd⟩).run P w = .ok (.value (.pointer (some (ad.add (i * esz))))) w := by
  obtain rfl := hao (by omega)
  cases hi0 : P.info? e with
  | none => rw [hi0] at hs; cases hs
  | some ie =>
    rw [hi0] at hs
    simp only [Option.map_some, Option.some.injEq] at hs
    subst hs
    show (do let r ← Instr.indexAt t (E.ev fr x) (E.ev fr ix); pure (Next.value r) : Sem Next).run P w = _
    rw [hx, hi]
    simp [Instr.indexAt, asIntOf, underlying, hu, Instr.sureAddr, sizeOf, typeInfo, hi0, h1]
theorem A.loadRI {t : TypeId} {x : Operand} {K n k i j : Nat} {ad : Addr} {q : Nat → Nat → Int} (h : A.Y its w) (hk : its[k]? = some (A.facts (M.rowF K ad n q))) (hu : P.underlying t = some (.int .i64)) (hx : E.ev fr x = .pointer (some ((ad.add (i * K)).add j))) (hi : i < n) (hj : j < K) :
    (execOp (E.ev fr) ⟨d, .load t x, T, pos, af, gd⟩).run P w = .ok (.value (.int .i64 (q i j))) w := by
  have hc := h.fact hk (ad := (ad.add (i * K)).add j) (v := .int .i64 (q i j)) ⟨i, j, hi, hj, rfl, rfl⟩
  have ha : (isAgg t).run P w = .ok false w := by simp [isAgg, underlying, hu]
  show (do let r ← Instr.loadAt t (E.ev fr x); pure (Next.value r) : Sem Next).run P w = _
  rw [hx]
  simp [Instr.loadAt, Instr.sureAddr, loadVar, ha, Go.load, Sem.run, hc]
end
theorem A.none1 {F : Addr → Value → Prop} {w : World} {o a : Nat → Prop} (h : A.Has [A.facts F] w o a) (x : Nat) : ¬ o x := fun hx => by
  obtain ⟨p1, q1, p2, q2, h1, h2, _, _, ho, _⟩ := h
  rcases (ho x).1 hx with k | k
  · exact h1.2.1 x k
  · exact h2.1 x k
end Go.Proofs.YtglidnmmeclneaaGreat
namespace Go.Proofs.YtglidnmmeclneaaGreat
set_option linter.unusedVariables false
set_option linter.unusedSimpArgs false
open Go.Joins Go.ChangeShapes Go.WideShapes Go.ChangeAt Go.RowKit Go.Deep
theorem M.arg_ints {H : Type} {enc : TypeId × Value → H} {P : Program} {w : World} {base : Nat} {spare : Nat → Bool} {held : Bool} {r : Reach} {b0 : Nat} {t u : TypeId} {v : Value} {d : DataW H} {ps : List MemPlace}
    (ht : P.underlying t = some (.slice u)) (hu : P.underlying u = some (.int .i64)) (hc : P.cellsOf u = 1) (hval : Value.okWide P w r b0 t v) (hd : DataW.Trod enc P w base spare held t v d ps) :
    ∃ ao ad n cap q, v = .slice ao n cap ∧ (0 < n → ao = some ad) ∧ (∀ i j, -9223372036854775808 ≤ q i j ∧ q i j < 9223372036854775808) ∧ ∀ a x, M.rowF 1 ad n q a x → w.cell? a = some x := by
  obtain ⟨fuel, hf⟩ := hd
  obtain ⟨a, len, cap, rfl⟩ := okWide_slice ht hval
  rcases open_slice ht hf with ⟨hcs, _⟩ | ⟨ad, len', cap', m, n, D, Pl, hcs, hb, hl, hm, hmm, _, hi⟩
  · exact ⟨none, ⟨0, 0, none⟩, 0, 0, fun _ _ => 0, by simpa [Value.cells] using hcs, fun h => absurd h (by omega), fun _ _ => by show (-9223372036854775808 : Int) ≤ 0 ∧ (0 : Int) < 9223372036854775808; decide, fun a x ⟨i, j, hi, _⟩ => absurd hi (by omega)⟩
  · have e1 : (.slice a len cap : Value) = .slice (some ad) len' cap' := by simpa [Value.cells] using hcs
    have key : ∀ i, i < len' → ∃ f : Nat → Int, (∀ j, -9223372036854775808 ≤ f j ∧ f j < 9223372036854775808) ∧ ∀ j, j < 1 → w.cell? ((ad.add (i * 1)).add j) = some (.int .i64 (f j)) := by
      intro i hil
      obtain ⟨cs', hc', ht'⟩ := hi i (by rw [hmm]; split <;> omega)
      rw [hc] at hc'
      obtain ⟨_, hlen, hat⟩ := World.cells?_some hc'
      obtain ⟨x, ex, _, wx⟩ := DataW.trod_int hu ht'
      have bx := bounds_i64 wx
      refine ⟨fun _ => x, fun _ => ⟨bx.1, by have := bx.2; show x < 9223372036854775808; omega⟩, fun j hj => ?_⟩
      obtain rfl : j = 0 := by omega
      rw [hat 0 (by omega), ex]
      rfl
    refine ⟨some ad, ad, len', cap', fun i => if h : i < len' then (key i h).choose else fun _ => 0, e1, fun _ => rfl, fun i j => ?_, fun a x ⟨i, j, hil, hj, ha, hv⟩ => ?_⟩
    · by_cases h : i < len'
      · have := (key i h).choose_spec.1 j
        simp only [h, dif_pos]; exact this
      · simp only [h, dif_neg, not_false_eq_true]; decide
    · subst ha; subst hv
      have := (key i hil).choose_spec.2 j hj
      simp only [hil, dif_pos]; exact this
end Go.Proofs.YtglidnmmeclneaaGreat
namespace Go.Proofs.YtglidnmmeclneaaGreat
set_option linter.unusedVariables false
set_option linter.unusedSimpArgs false
open Go.RowKit
theorem rCond_0 (f : Int) (w : World) : Calls Tryz.prog 30 #[.int .i64 0, .int .u32 f] w fun e w' => e = .returned (.bool (W.cond 0 f)) ∧ Bel w w' := by
  have hn : (bits .and .u32 f 8 != 0) = W.fN f := rfl
  have hz : (bits .and .u32 f 4 != 0) = W.fZ f := rfl
  have hc : (bits .and .u32 f 2 != 0) = W.fC f := rfl
  have hv : (bits .and .u32 f 1 != 0) = W.fV f := rfl
  go_enter Tryz.func30, Tryz.ntmps30
  go_wp2_with fail
  all_goals
    go_ret
    exact ⟨ret_bool (by simp_all [W.cond, W.condB] <;> cases W.fN f <;> cases W.fV f <;> rfl), Nz.bel⟩
theorem rCond_1 (f : Int) (w : World) : Calls Tryz.prog 30 #[.int .i64 1, .int .u32 f] w fun e w' => e = .returned (.bool (W.cond 1 f)) ∧ Bel w w' := by
  have hn : (bits .and .u32 f 8 != 0) = W.fN f := rfl
  have hz : (bits .and .u32 f 4 != 0) = W.fZ f := rfl
  have hc : (bits .and .u32 f 2 != 0) = W.fC f := rfl
  have hv : (bits .and .u32 f 1 != 0) = W.fV f := rfl
  go_enter Tryz.func30, Tryz.ntmps30
  go_wp2_with fail
  all_goals
    go_ret
    exact ⟨ret_bool (by simp_all [W.cond, W.condB] <;> cases W.fN f <;> cases W.fV f <;> rfl), Nz.bel⟩
theorem rCond_2 (f : Int) (w : World) : Calls Tryz.prog 30 #[.int .i64 2, .int .u32 f] w fun e w' => e = .returned (.bool (W.cond 2 f)) ∧ Bel w w' := by
  have hn : (bits .and .u32 f 8 != 0) = W.fN f := rfl
  have hz : (bits .and .u32 f 4 != 0) = W.fZ f := rfl
  have hc : (bits .and .u32 f 2 != 0) = W.fC f := rfl
  have hv : (bits .and .u32 f 1 != 0) = W.fV f := rfl
  go_enter Tryz.func30, Tryz.ntmps30
  go_wp2_with fail
  all_goals
    go_ret
    exact ⟨ret_bool (by simp_all [W.cond, W.condB] <;> cases W.fN f <;> cases W.fV f <;> rfl), Nz.bel⟩
theorem rCond_3 (f : Int) (w : World) : Calls Tryz.prog 30 #[.int .i64 3, .int .u32 f] w fun e w' => e = .returned (.bool (W.cond 3 f)) ∧ Bel w w' := by
  have hn : (bits .and .u32 f 8 != 0) = W.fN f := rfl
  have hz : (bits .and .u32 f 4 != 0) = W.fZ f := rfl
  have hc : (bits .and .u32 f 2 != 0) = W.fC f := rfl
  have hv : (bits .and .u32 f 1 != 0) = W.fV f := rfl
  go_enter Tryz.func30, Tryz.ntmps30
  go_wp2_with fail
  all_goals
    go_ret
    exact ⟨ret_bool (by simp_all [W.cond, W.condB] <;> cases W.fN f <;> cases W.fV f <;> rfl), Nz.bel⟩
theorem rCond_4 (f : Int) (w : World) : Calls Tryz.prog 30 #[.int .i64 4, .int .u32 f] w fun e w' => e = .returned (.bool (W.cond 4 f)) ∧ Bel w w' := by
  have hn : (bits .and .u32 f 8 != 0) = W.fN f := rfl
  have hz : (bits .and .u32 f 4 != 0) = W.fZ f := rfl
  have hc : (bits .and .u32 f 2 != 0) = W.fC f := rfl
  have hv : (bits .and .u32 f 1 != 0) = W.fV f := rfl
  go_enter Tryz.func30, Tryz.ntmps30
  go_wp2_with fail
  all_goals
    go_ret
    exact ⟨ret_bool (by simp_all [W.cond, W.condB] <;> cases W.fN f <;> cases W.fV f <;> rfl), Nz.bel⟩
theorem rCond_5 (f : Int) (w : World) : Calls Tryz.prog 30 #[.int .i64 5, .int .u32 f] w fun e w' => e = .returned (.bool (W.cond 5 f)) ∧ Bel w w' := by
  have hn : (bits .and .u32 f 8 != 0) = W.fN f := rfl
  have hz : (bits .and .u32 f 4 != 0) = W.fZ f := rfl
  have hc : (bits .and .u32 f 2 != 0) = W.fC f := rfl
  have hv : (bits .and .u32 f 1 != 0) = W.fV f := rfl
  go_enter Tryz.func30, Tryz.ntmps30
  go_wp2_with fail
  all_goals
    go_ret
    exact ⟨ret_bool (by simp_all [W.cond, W.condB] <;> cases W.fN f <;> cases W.fV f <;> rfl), Nz.bel⟩
theorem rCond_6 (f : Int) (w : World) : Calls Tryz.prog 30 #[.int .i64 6, .int .u32 f] w fun e w' => e = .returned (.bool (W.cond 6 f)) ∧ Bel w w' := by
  have hn : (bits .and .u32 f 8 != 0) = W.fN f := rfl
  have hz : (bits .and .u32 f 4 != 0) = W.fZ f := rfl
  have hc : (bits .and .u32 f 2 != 0) = W.fC f := rfl
  have hv : (bits .and .u32 f 1 != 0) = W.fV f := rfl
  go_enter Tryz.func30, Tryz.ntmps30
  go_wp2_with fail
  all_goals
    go_ret
    exact ⟨ret_bool (by simp_all [W.cond, W.condB] <;> cases W.fN f <;> cases W.fV f <;> rfl), Nz.bel⟩
theorem rCond_7 (f : Int) (w : World) : Calls Tryz.prog 30 #[.int .i64 7, .int .u32 f] w fun e w' => e = .returned (.bool (W.cond 7 f)) ∧ Bel w w' := by
  have hn : (bits .and .u32 f 8 != 0) = W.fN f := rfl
  have hz : (bits .and .u32 f 4 != 0) = W.fZ f := rfl
  have hc : (bits .and .u32 f 2 != 0) = W.fC f := rfl
  have hv : (bits .and .u32 f 1 != 0) = W.fV f := rfl
  go_enter Tryz.func30, Tryz.ntmps30
  go_wp2_with fail
  all_goals
    go_ret
    exact ⟨ret_bool (by simp_all [W.cond, W.condB] <;> cases W.fN f <;> cases W.fV f <;> rfl), Nz.bel⟩
theorem rCond_8 (f : Int) (w : World) : Calls Tryz.prog 30 #[.int .i64 8, .int .u32 f] w fun e w' => e = .returned (.bool (W.cond 8 f)) ∧ Bel w w' := by
  have hn : (bits .and .u32 f 8 != 0) = W.fN f := rfl
  have hz : (bits .and .u32 f 4 != 0) = W.fZ f := rfl
  have hc : (bits .and .u32 f 2 != 0) = W.fC f := rfl
  have hv : (bits .and .u32 f 1 != 0) = W.fV f := rfl
  go_enter Tryz.func30, Tryz.ntmps30
  go_wp2_with fail
  all_goals
    go_ret
    exact ⟨ret_bool (by simp_all [W.cond, W.condB] <;> cases W.fN f <;> cases W.fV f <;> rfl), Nz.bel⟩
theorem rCond_9 (f : Int) (w : World) : Calls Tryz.prog 30 #[.int .i64 9, .int .u32 f] w fun e w' => e = .returned (.bool (W.cond 9 f)) ∧ Bel w w' := by
  have hn : (bits .and .u32 f 8 != 0) = W.fN f := rfl
  have hz : (bits .and .u32 f 4 != 0) = W.fZ f := rfl
  have hc : (bits .and .u32 f 2 != 0) = W.fC f := rfl
  have hv : (bits .and .u32 f 1 != 0) = W.fV f := rfl
  go_enter Tryz.func30, Tryz.ntmps30
  go_wp2_with fail
  all_goals
    go_ret
    exact ⟨ret_bool (by simp_all [W.cond, W.condB] <;> cases W.fN f <;> cases W.fV f <;> rfl), Nz.bel⟩
theorem rCond_10 (f : Int) (w : World) : Calls Tryz.prog 30 #[.int .i64 10, .int .u32 f] w fun e w' => e = .returned (.bool (W.cond 10 f)) ∧ Bel w w' := by
  have hn : (bits .and .u32 f 8 != 0) = W.fN f := rfl
  have hz : (bits .and .u32 f 4 != 0) = W.fZ f := rfl
  have hc : (bits .and .u32 f 2 != 0) = W.fC f := rfl
  have hv : (bits .and .u32 f 1 != 0) = W.fV f := rfl
  go_enter Tryz.func30, Tryz.ntmps30
  go_wp2_with fail
  all_goals
    go_ret
    exact ⟨ret_bool (by simp_all [W.cond, W.condB] <;> cases W.fN f <;> cases W.fV f <;> rfl), Nz.bel⟩
theorem rCond_11 (f : Int) (w : World) : Calls Tryz.prog 30 #[.int .i64 11, .int .u32 f] w fun e w' => e = .returned (.bool (W.cond 11 f)) ∧ Bel w w' := by
  have hn : (bits .and .u32 f 8 != 0) = W.fN f := rfl
  have hz : (bits .and .u32 f 4 != 0) = W.fZ f := rfl
  have hc : (bits .and .u32 f 2 != 0) = W.fC f := rfl
  have hv : (bits .and .u32 f 1 != 0) = W.fV f := rfl
  go_enter Tryz.func30, Tryz.ntmps30
  go_wp2_with fail
  all_goals
    go_ret
    exact ⟨ret_bool (by simp_all [W.cond, W.condB] <;> cases W.fN f <;> cases W.fV f <;> rfl), Nz.bel⟩
theorem rCond_12 (f : Int) (w : World) : Calls Tryz.prog 30 #[.int .i64 12, .int .u32 f] w fun e w' => e = .returned (.bool (W.cond 12 f)) ∧ Bel w w' := by
  have hn : (bits .and .u32 f 8 != 0) = W.fN f := rfl
  have hz : (bits .and .u32 f 4 != 0) = W.fZ f := rfl
  have hc : (bits .and .u32 f 2 != 0) = W.fC f := rfl
  have hv : (bits .and .u32 f 1 != 0) = W.fV f := rfl
  go_enter Tryz.func30, Tryz.ntmps30
  go_wp2_with fail
  all_goals
    go_ret
    exact ⟨ret_bool (by simp_all [W.cond, W.condB] <;> cases W.fN f <;> cases W.fV f <;> rfl), Nz.bel⟩
theorem rCond_13 (f : Int) (w : World) : Calls Tryz.prog 30 #[.int .i64 13, .int .u32 f] w fun e w' => e = .returned (.bool (W.cond 13 f)) ∧ Bel w w' := by
  have hn : (bits .and .u32 f 8 != 0) = W.fN f := rfl
  have hz : (bits .and .u32 f 4 != 0) = W.fZ f := rfl
  have hc : (bits .and .u32 f 2 != 0) = W.fC f := rfl
  have hv : (bits .and .u32 f 1 != 0) = W.fV f := rfl
  go_enter Tryz.func30, Tryz.ntmps30
  go_wp2_with fail
  all_goals
    go_ret
    exact ⟨ret_bool (by simp_all [W.cond, W.condB] <;> cases W.fN f <;> cases W.fV f <;> rfl), Nz.bel⟩
theorem rCond_n (cc f : Int) (hk : cc < 0 ∨ 13 < cc) (w : World) : Calls Tryz.prog 30 #[.int .i64 cc, .int .u32 f] w fun e w' => e = .returned (.bool (W.cond cc f)) ∧ Bel w w' := by
  have HF := hid (W.cond_n cc f hk)
  have h0 : (cc == 0) = false := by simp; omega
  have h1 : (cc == 1) = false := by simp; omega
  have h2 : (cc == 2) = false := by simp; omega
  have h3 : (cc == 3) = false := by simp; omega
  have h4 : (cc == 4) = false := by simp; omega
  have h5 : (cc == 5) = false := by simp; omega
  have h6 : (cc == 6) = false := by simp; omega
  have h7 : (cc == 7) = false := by simp; omega
  have h8 : (cc == 8) = false := by simp; omega
  have h9 : (cc == 9) = false := by simp; omega
  have h10 : (cc == 10) = false := by simp; omega
  have h11 : (cc == 11) = false := by simp; omega
  have h12 : (cc == 12) = false := by simp; omega
  have h13 : (cc == 13) = false := by simp; omega
  go_enter Tryz.func30, Tryz.ntmps30
  go_wp2_with fail
  go_ret
  exact ⟨ret_bool (by rw [HF.out]), Nz.bel⟩
theorem rCond_any (cc f : Int) (w : World) : Calls Tryz.prog 30 #[.int .i64 cc, .int .u32 f] w fun e w' => e = .returned (.bool (W.cond cc f)) ∧ Bel w w' := by
  rcases (by omega : cc = 0 ∨ cc = 1 ∨ cc = 2 ∨ cc = 3 ∨ cc = 4 ∨ cc = 5 ∨ cc = 6 ∨ cc = 7 ∨ cc = 8 ∨ cc = 9 ∨ cc = 10 ∨ cc = 11 ∨ cc = 12 ∨ cc = 13 ∨ (cc < 0 ∨ 13 < cc)) with rfl | rfl | rfl | rfl | rfl | rfl | rfl | rfl | rfl | rfl | rfl | rfl | rfl | rfl | h
  · exact rCond_0 f w
  · exact rCond_1 f w
  · exact rCond_2 f w
  · exact rCond_3 f w
  · exact rCond_4 f w
  · exact rCond_5 f w
  · exact rCond_6 f w
  · exact rCond_7 f w
  · exact rCond_8 f w
  · exact rCond_9 f w
  · exact rCond_10 f w
  · exact rCond_11 f w
  · exact rCond_12 f w
  · exact rCond_13 f w
  · exact rCond_n cc f h w
theorem rOp_3 (a b : Int) (ha : 0 ≤ a) (ha' : a < 4294967296) (hb : 0 ≤ b) (hb' : b < 4294967296) (w : World) :
    Calls Tryz.prog 68 #[.int .i64 3, .int .u32 a, .int .u32 b] w fun e w' => e = .returned (.int .u32 (W.op 3 a b)) ∧ Bel w w' := by
  go_enter Tryz.func68, Tryz.ntmps68
  go_wp2_with (first | (go_at_call 103; refine (rbit_any _ _).mono ?_; rintro e w' ⟨rfl, hb⟩) | (go_at_call 102; refine (rsigned_any _ (by assumption) (by assumption) _).mono ?_; rintro e w' ⟨rfl, hb⟩))
  go_ret
  exact ⟨ret_int (by rw [W.op_3]), Nz.bel⟩
theorem rOp_4 (a b : Int) (ha : 0 ≤ a) (ha' : a < 4294967296) (hb : 0 ≤ b) (hb' : b < 4294967296) (w : World) :
    Calls Tryz.prog 68 #[.int .i64 4, .int .u32 a, .int .u32 b] w fun e w' => e = .returned (.int .u32 (W.op 4 a b)) ∧ Bel w w' := by
  go_enter Tryz.func68, Tryz.ntmps68
  go_wp2_with (first | (go_at_call 103; refine (rbit_any _ _).mono ?_; rintro e w' ⟨rfl, hb⟩) | (go_at_call 102; refine (rsigned_any _ (by assumption) (by assumption) _).mono ?_; rintro e w' ⟨rfl, hb⟩))
  go_ret
  exact ⟨ret_int (by rw [W.op_4]), Nz.bel⟩
theorem rOp_5 (a b : Int) (ha : 0 ≤ a) (ha' : a < 4294967296) (hb : 0 ≤ b) (hb' : b < 4294967296) (w : World) :
    Calls Tryz.prog 68 #[.int .i64 5, .int .u32 a, .int .u32 b] w fun e w' => e = .returned (.int .u32 (W.op 5 a b)) ∧ Bel w w' := by
  go_enter Tryz.func68, Tryz.ntmps68
  go_wp2_with (first | (go_at_call 103; refine (rbit_any _ _).mono ?_; rintro e w' ⟨rfl, hb⟩) | (go_at_call 102; refine (rsigned_any _ (by assumption) (by assumption) _).mono ?_; rintro e w' ⟨rfl, hb⟩))
  go_ret
  exact ⟨ret_int (by rw [W.op_5]), Nz.bel⟩
theorem rOp_6 (a b : Int) (ha : 0 ≤ a) (ha' : a < 4294967296) (hb : 0 ≤ b) (hb' : b < 4294967296) (w : World) :
    Calls Tryz.prog 68 #[.int .i64 6, .int .u32 a, .int .u32 b] w fun e w' => e = .returned (.int .u32 (W.op 6 a b)) ∧ Bel w w' := by
  go_enter Tryz.func68, Tryz.ntmps68
  go_wp2_with (first | (go_at_call 103; refine (rbit_any _ _).mono ?_; rintro e w' ⟨rfl, hb⟩) | (go_at_call 102; refine (rsigned_any _ (by assumption) (by assumption) _).mono ?_; rintro e w' ⟨rfl, hb⟩))
  go_ret
  exact ⟨ret_int (by rw [W.op_6]), Nz.bel⟩
theorem rOp_7 (a b : Int) (ha : 0 ≤ a) (ha' : a < 4294967296) (hb : 0 ≤ b) (hb' : b < 4294967296) (w : World) :
    Calls Tryz.prog 68 #[.int .i64 7, .int .u32 a, .int .u32 b] w fun e w' => e = .returned (.int .u32 (W.op 7 a b)) ∧ Bel w w' := by
  go_enter Tryz.func68, Tryz.ntmps68
  go_wp2_with (first | (go_at_call 103; refine (rbit_any _ _).mono ?_; rintro e w' ⟨rfl, hb⟩) | (go_at_call 102; refine (rsigned_any _ (by assumption) (by assumption) _).mono ?_; rintro e w' ⟨rfl, hb⟩))
  go_ret
  exact ⟨ret_int (by rw [W.op_7]), Nz.bel⟩
theorem rOp_8 (a b : Int) (ha : 0 ≤ a) (ha' : a < 4294967296) (hb : 0 ≤ b) (hb' : b < 4294967296) (w : World) :
    Calls Tryz.prog 68 #[.int .i64 8, .int .u32 a, .int .u32 b] w fun e w' => e = .returned (.int .u32 (W.op 8 a b)) ∧ Bel w w' := by
  have hd : 0 ≤ b % 32 ∧ b % 32 < 32 := by omega
  go_enter Tryz.func68, Tryz.ntmps68
  go_wp2_with (first | (go_at_call 103; refine (rbit_any _ _).mono ?_; rintro e w' ⟨rfl, hb⟩) | (go_at_call 102; refine (rsigned_any _ (by assumption) (by assumption) _).mono ?_; rintro e w' ⟨rfl, hb⟩))
  go_ret
  exact ⟨ret_int (by rw [W.op_8]), Nz.bel⟩
theorem rOp_9 (a b : Int) (ha : 0 ≤ a) (ha' : a < 4294967296) (hb : 0 ≤ b) (hb' : b < 4294967296) (w : World) :
    Calls Tryz.prog 68 #[.int .i64 9, .int .u32 a, .int .u32 b] w fun e w' => e = .returned (.int .u32 (W.op 9 a b)) ∧ Bel w w' := by
  have hd : 0 ≤ b % 32 ∧ b % 32 < 32 := by omega
  go_enter Tryz.func68, Tryz.ntmps68
  go_wp2_with (first | (go_at_call 103; refine (rbit_any _ _).mono ?_; rintro e w' ⟨rfl, hb⟩) | (go_at_call 102; refine (rsigned_any _ (by assumption) (by assumption) _).mono ?_; rintro e w' ⟨rfl, hb⟩))
  go_ret
  exact ⟨ret_int (by rw [W.op_9]), Nz.bel⟩
theorem rOp_10 (a b : Int) (ha : 0 ≤ a) (ha' : a < 4294967296) (hb : 0 ≤ b) (hb' : b < 4294967296) (w : World) :
    Calls Tryz.prog 68 #[.int .i64 10, .int .u32 a, .int .u32 b] w fun e w' => e = .returned (.int .u32 (W.op 10 a b)) ∧ Bel w w' := by
  have hd : 0 ≤ b % 32 ∧ b % 32 < 32 := by omega
  have hs := W.sg_bd a ha ha'
  have hs' := W.sg_bd b hb hb'
  go_enter Tryz.func68, Tryz.ntmps68
  go_wp2_with (first | (go_at_call 103; refine (rbit_any _ _).mono ?_; rintro e w' ⟨rfl, hb⟩) | (go_at_call 102; refine (rsigned_any _ (by assumption) (by assumption) _).mono ?_; rintro e w' ⟨rfl, hb⟩))
  go_ret
  exact ⟨ret_int (by rw [W.op_10]), Nz.bel⟩
theorem rOp_11 (a b : Int) (ha : 0 ≤ a) (ha' : a < 4294967296) (hb : 0 ≤ b) (hb' : b < 4294967296) (w : World) :
    Calls Tryz.prog 68 #[.int .i64 11, .int .u32 a, .int .u32 b] w fun e w' => e = .returned (.int .u32 (W.op 11 a b)) ∧ Bel w w' := by
  go_enter Tryz.func68, Tryz.ntmps68
  go_wp2_with (first | (go_at_call 103; refine (rbit_any _ _).mono ?_; rintro e w' ⟨rfl, hb⟩) | (go_at_call 102; refine (rsigned_any _ (by assumption) (by assumption) _).mono ?_; rintro e w' ⟨rfl, hb⟩))
  go_ret
  exact ⟨ret_int (by rw [W.op_11]), Nz.bel⟩
theorem rOp_12 (a b : Int) (ha : 0 ≤ a) (ha' : a < 4294967296) (hb : 0 ≤ b) (hb' : b < 4294967296) (w : World) :
    Calls Tryz.prog 68 #[.int .i64 12, .int .u32 a, .int .u32 b] w fun e w' => e = .returned (.int .u32 (W.op 12 a b)) ∧ Bel w w' := by
  by_cases h : b = 0
  · subst h
    go_enter Tryz.func68, Tryz.ntmps68
    go_wp2_with (first | (go_at_call 103; refine (rbit_any _ _).mono ?_; rintro e w' ⟨rfl, hb⟩) | (go_at_call 102; refine (rsigned_any _ (by assumption) (by assumption) _).mono ?_; rintro e w' ⟨rfl, hb⟩))
    go_ret
    exact ⟨ret_int (by rw [W.op_12]; simp), Nz.bel⟩
  · have h0 : (b == 0) = false := by simp [h]
    go_enter Tryz.func68, Tryz.ntmps68
    go_wp2_with (first | (go_at_call 103; refine (rbit_any _ _).mono ?_; rintro e w' ⟨rfl, hb⟩) | (go_at_call 102; refine (rsigned_any _ (by assumption) (by assumption) _).mono ?_; rintro e w' ⟨rfl, hb⟩))
    go_ret
    exact ⟨ret_int (by rw [W.op_12]), Nz.bel⟩
theorem rOp_13 (a b : Int) (ha : 0 ≤ a) (ha' : a < 4294967296) (hb : 0 ≤ b) (hb' : b < 4294967296) (w : World) :
    Calls Tryz.prog 68 #[.int .i64 13, .int .u32 a, .int .u32 b] w fun e w' => e = .returned (.int .u32 (W.op 13 a b)) ∧ Bel w w' := by
  go_enter Tryz.func68, Tryz.ntmps68
  go_wp2_with (first | (go_at_call 103; refine (rbit_any _ _).mono ?_; rintro e w' ⟨rfl, hb⟩) | (go_at_call 102; refine (rsigned_any _ (by assumption) (by assumption) _).mono ?_; rintro e w' ⟨rfl, hb⟩))
  go_ret
  exact ⟨ret_int (by rw [W.op_13]), Nz.bel⟩
theorem rOp_14 (a b : Int) (ha : 0 ≤ a) (ha' : a < 4294967296) (hb : 0 ≤ b) (hb' : b < 4294967296) (w : World) :
    Calls Tryz.prog 68 #[.int .i64 14, .int .u32 a, .int .u32 b] w fun e w' => e = .returned (.int .u32 (W.op 14 a b)) ∧ Bel w w' := by
  go_enter Tryz.func68, Tryz.ntmps68
  go_wp2_with (first | (go_at_call 103; refine (rbit_any _ _).mono ?_; rintro e w' ⟨rfl, hb⟩) | (go_at_call 102; refine (rsigned_any _ (by assumption) (by assumption) _).mono ?_; rintro e w' ⟨rfl, hb⟩))
  go_ret
  exact ⟨ret_int (by rw [W.op_14]), Nz.bel⟩
theorem rOp_15 (a b : Int) (ha : 0 ≤ a) (ha' : a < 4294967296) (hb : 0 ≤ b) (hb' : b < 4294967296) (w : World) :
    Calls Tryz.prog 68 #[.int .i64 15, .int .u32 a, .int .u32 b] w fun e w' => e = .returned (.int .u32 (W.op 15 a b)) ∧ Bel w w' := by
  have hs := W.sg_bd a ha ha'
  have hs' := W.sg_bd b hb hb'
  go_enter Tryz.func68, Tryz.ntmps68
  go_wp2_with (first | (go_at_call 103; refine (rbit_any _ _).mono ?_; rintro e w' ⟨rfl, hb⟩) | (go_at_call 102; refine (rsigned_any _ (by assumption) (by assumption) _).mono ?_; rintro e w' ⟨rfl, hb⟩))
  go_ret
  exact ⟨ret_int (by rw [W.op_15]), Nz.bel⟩
theorem rOp_n (c a b : Int) (hc : c < 3 ∨ 15 < c) (w : World) :
    Calls Tryz.prog 68 #[.int .i64 c, .int .u32 a, .int .u32 b] w fun e w' => e = .returned (.int .u32 (W.op c a b)) ∧ Bel w w' := by
  have HN := hid (W.op_n c a b hc)
  have h3 : (c == 3) = false := by simp; omega
  have h4 : (c == 4) = false := by simp; omega
  have h5 : (c == 5) = false := by simp; omega
  have h6 : (c == 6) = false := by simp; omega
  have h7 : (c == 7) = false := by simp; omega
  have h8 : (c == 8) = false := by simp; omega
  have h9 : (c == 9) = false := by simp; omega
  have h10 : (c == 10) = false := by simp; omega
  have h11 : (c == 11) = false := by simp; omega
  have h12 : (c == 12) = false := by simp; omega
  have h13 : (c == 13) = false := by simp; omega
  have h14 : (c == 14) = false := by simp; omega
  have h15 : (c == 15) = false := by simp; omega
  go_enter Tryz.func68, Tryz.ntmps68
  go_wp2_with fail
  go_ret
  exact ⟨ret_int (by rw [HN.out]), Nz.bel⟩
theorem rOp_any (c a b : Int) (ha : 0 ≤ a) (ha' : a < 4294967296) (hb : 0 ≤ b) (hb' : b < 4294967296) (w : World) :
    Calls Tryz.prog 68 #[.int .i64 c, .int .u32 a, .int .u32 b] w fun e w' => e = .returned (.int .u32 (W.op c a b)) ∧ Bel w w' := by
  rcases (by omega : c = 3 ∨ c = 4 ∨ c = 5 ∨ c = 6 ∨ c = 7 ∨ c = 8 ∨ c = 9 ∨ c = 10 ∨ c = 11 ∨ c = 12 ∨ c = 13 ∨ c = 14 ∨ c = 15 ∨ (c < 3 ∨ 15 < c)) with rfl | rfl | rfl | rfl | rfl | rfl | rfl | rfl | rfl | rfl | rfl | rfl | rfl | h
  · exact rOp_3 a b ha ha' hb hb' w
  · exact rOp_4 a b ha ha' hb hb' w
  · exact rOp_5 a b ha ha' hb hb' w
  · exact rOp_6 a b ha ha' hb hb' w
  · exact rOp_7 a b ha ha' hb hb' w
  · exact rOp_8 a b ha ha' hb hb' w
  · exact rOp_9 a b ha ha' hb hb' w
  · exact rOp_10 a b ha ha' hb hb' w
  · exact rOp_11 a b ha ha' hb hb' w
  · exact rOp_12 a b ha ha' hb hb' w
  · exact rOp_13 a b ha ha' hb hb' w
  · exact rOp_14 a b ha ha' hb hb' w
  · exact rOp_15 a b ha ha' hb hb' w
  · exact rOp_n c a b h w
/-- The cells of a step of the reference in progress. -/
def K5.tail (i : K.Ins) (k t : Int) (m : Nat) : List Value := [.pointer (some ⟨m, 0, none⟩), .int .i64 i.op, .int .i64 i.d, .int .i64 i.s, .int .i64 i.ix, .int .i64 i.sc, .int .u32 i.imm, .int .i64 i.sz, .int .i64 k, .int .u32 t]
def K5.wk (x : K.W) (m : Nat) : List Value := Q.S.cells x.u ++ (Q.S.cells x.s ++ K5.tail x.i x.k x.t m)
theorem K5.ld_u {P : Program} {t : TypeId} {x : K.W} {m D : Nat} (hu : P.underlying t = some (.int .u32)) (h : D < 16) : E.ld P t (K5.wk x m) (1 + D) = some (.int .u32 (x.u.r D)) := by
  rw [E.ld_one hu]
  rcases (by omega : D = 0 ∨ D = 1 ∨ D = 2 ∨ D = 3 ∨ D = 4 ∨ D = 5 ∨ D = 6 ∨ D = 7 ∨ D = 8 ∨ D = 9 ∨ D = 10 ∨ D = 11 ∨ D = 12 ∨ D = 13 ∨ D = 14 ∨ D = 15) with rfl | rfl | rfl | rfl | rfl | rfl | rfl | rfl | rfl | rfl | rfl | rfl | rfl | rfl | rfl | rfl <;> rfl
theorem K5.ld_uc {P : Program} {t : TypeId} {x : K.W} {m D : Nat} (hu : P.underlying t = some (.int .u32)) (h : D < 4) : E.ld P t (K5.wk x m) (18 + D) = some (.int .u32 (x.u.c D)) := by
  rw [E.ld_one hu]
  rcases (by omega : D = 0 ∨ D = 1 ∨ D = 2 ∨ D = 3) with rfl | rfl | rfl | rfl <;> rfl
theorem K5.sto_s {P : Program} {t : TypeId} {x : K.W} {m D : Nat} {v : Int} (hi : (P.info? t).map (·.size) = some 1) (h : D < 16) : E.sto P t (K5.wk x m) (25 + D) (.int .u32 v) = some (K5.wk { x with s := { x.s with r := Q.up x.s.r D v } } m) := by
  rw [E.sto_one hi (by show 25 + D < 58; omega)]
  rcases (by omega : D = 0 ∨ D = 1 ∨ D = 2 ∨ D = 3 ∨ D = 4 ∨ D = 5 ∨ D = 6 ∨ D = 7 ∨ D = 8 ∨ D = 9 ∨ D = 10 ∨ D = 11 ∨ D = 12 ∨ D = 13 ∨ D = 14 ∨ D = 15) with rfl | rfl | rfl | rfl | rfl | rfl | rfl | rfl | rfl | rfl | rfl | rfl | rfl | rfl | rfl | rfl <;> rfl
theorem K5.sto_c {P : Program} {t : TypeId} {x : K.W} {m D : Nat} {v : Int} (hi : (P.info? t).map (·.size) = some 1) (h : D < 4) : E.sto P t (K5.wk x m) (42 + D) (.int .u32 v) = some (K5.wk { x with s := { x.s with c := Q.up x.s.c D v } } m) := by
  rw [E.sto_one hi (by show 42 + D < 58; omega)]
  rcases (by omega : D = 0 ∨ D = 1 ∨ D = 2 ∨ D = 3) with rfl | rfl | rfl | rfl <;> rfl
def K5.lk (x : K.W) (V : M.V) (a n : Int) : Int × Int := (bif (!((V.load (a).toNat n).2.2)) then (5, (V.load (a).toNat n).2.1) else (x.k, x.t))
abbrev Z330a (V : M.V) (a : Int) (n : Int) : List Value := [E.u ((V.load (a).toNat n).1), E.u ((V.load (a).toNat n).2.1), .bool ((V.load (a).toNat n).2.2)]
theorem Load5 {b m : Nat} (x : K.W) (V : M.V) (a n : Int) (ha : 0 ≤ a ∧ a < 4294967296) : A.Tr Tryz.prog 96 #[.pointer (some ⟨b, 0, none⟩), .int .u32 a, .int .i64 n] [A.blk b (K5.wk x m), R.It m V] (I := Unit) (fun _ => True) (fun _ => .int .u32 ((V.load (a).toNat n).1)) (fun _ => [A.blk b (K5.wk (⟨x.u, x.s, x.i, (K5.lk x V a n).1, (K5.lk x V a n).2⟩ : K.W) m), R.It m V]) := by
 intro w oo aa hh
 refine E.enter (n := 26) (S := oo) Tryz.func96 rfl rfl Nz.k (A.start (L := [(b, (K5.wk x m))]) hh) (E.sr (E.op (E.u 0) (E.tr (E.op (E.pt b) (E.op (E.pt b) (E.op (E.pj b 48) (E.li (E.pt m) 0 rfl rfl (E.op (E.u a) (E.op (E.i n) (E.ca (.agg #[E.u ((V.load (a).toNat n).1), E.u ((V.load (a).toNat n).2.1), .bool ((V.load (a).toNat n).2.2)]) (fun w h => A.cq [1] [0] (J_Load (m := m) (V := V) a n ha) h) (E.nw [E.u 0, E.u 0, .bool false] 158 (fun g1 => ?_))))))))))))
 refine E.st 0 (Z330a V a n) rfl rfl (E.To.code (E.wk [(0, E.pt b), (6, E.u 0), (7, E.pt g1)] [(g1, (Z330a V a n)), (b, (K5.wk x m))] Nz.sub (E.C.seq (E.sr (E.op (E.pj g1 2) (E.li (.bool ((V.load (a).toNat n).2.2)) 0 rfl rfl (E.op (.bool (!((V.load (a).toNat n).2.2))) (E.To.code (E.cd (!((V.load (a).toNat n).2.2)) (fun hc2 => ?_) (fun hc2 => ?_))))))))))
 ·
  refine E.C.region (E.op (E.pt b) (E.op (E.pj g1 1) (E.li (E.u ((V.load (a).toNat n).2.1)) 0 rfl rfl (E.vl (.agg #[E.i 5, E.u ((V.load (a).toNat n).2.1)]) (fun w h => E.run_build #[E.i 5, E.u ((V.load (a).toNat n).2.1)] Nz.k w) (E.op (E.pt b) (E.op (E.pj b 56) (E.st 1 (K5.wk (⟨x.u, x.s, x.i, 5, (V.load (a).toNat n).2.1⟩) m) rfl rfl (E.To.code (E.wk [(6, E.u 0), (7, E.pt g1)] [(g1, (Z330a V a n)), (b, (K5.wk (⟨x.u, x.s, x.i, 5, (V.load (a).toNat n).2.1⟩) m))] Nz.sub (E.sr (E.op (E.pt g1) ?_)))))))))))
  refine E.li (E.u ((V.load (a).toNat n).1)) 0 rfl rfl (E.op (E.u ((V.load (a).toNat n).1)) (E.To.code (E.C.ret (E.bd Tryz.f96 [E.u ((V.load (a).toNat n).1)] ?_))))
  intro w h
  have e : (K5.lk x V a n) = (5, (V.load (a).toNat n).2.1) := by unfold K5.lk; rw [hc2, N1] <;> rfl
  rw [e]
  exact ⟨(), trivial, rfl, A.dq [1, 2] [0] h⟩
 refine E.C.skip (E.To.code (E.sr (E.op (E.pt g1) (E.li (E.u ((V.load (a).toNat n).1)) 0 rfl rfl (E.op (E.u ((V.load (a).toNat n).1)) (E.To.code (E.C.ret (E.bd Tryz.f96 [E.u ((V.load (a).toNat n).1)] ?_))))))))
 intro w h
 have e : (K5.lk x V a n) = (x.k, x.t) := by unfold K5.lk; rw [hc2, N0] <;> rfl
 rw [e]
 exact ⟨(), trivial, rfl, A.dq [1, 2] [0] h⟩
def K5.sk (x : K.W) (V : M.V) (a n v : Int) : Int × Int × M.V := (bif (x.k != 0) then (x.k, x.t, V) else (bif (!((V.chk (a).toNat 2 n).2)) then (5, (V.chk (a).toNat 2 n).1, (V.sto (a).toNat n v)) else (x.k, x.t, (V.sto (a).toNat n v))))
theorem Store5 {b m : Nat} (x : K.W) (V : M.V) (a n v : Int) (ha : 0 ≤ a ∧ a < 4294967296) (hv : 0 ≤ v ∧ v < 4294967296) : A.Tr Tryz.prog 97 #[.pointer (some ⟨b, 0, none⟩), .int .u32 a, .int .i64 n, .int .u32 v] [A.blk b (K5.wk x m), R.It m V] (I := Unit) (fun _ => True) (fun _ => .tuple #[]) (fun _ => [A.blk b (K5.wk (⟨x.u, x.s, x.i, (K5.sk x V a n v).1, (K5.sk x V a n v).2.1⟩ : K.W) m), R.It m (K5.sk x V a n v).2.2]) := by
 intro w oo aa hh
 refine E.enter (n := 32) (S := oo) Tryz.func97 rfl rfl Nz.k (A.start (L := [(b, (K5.wk x m))]) hh) (E.C.seq (E.sr (E.op (E.pt b) (E.op (E.pt b) (E.op (E.pj b 56) (E.op (E.pj b 56) (E.li (E.i x.k) 0 rfl rfl (E.op (.bool (x.k != 0)) (E.To.code (E.cd (x.k != 0) (fun hc1 => ?_) (fun hc1 => ?_)))))))))))
 ·
  refine E.C.ret (E.P.rt (E.To.body (fn := Tryz.f97) [] ?_ ?_))
  · exact trivial
  intro w h
  have e : (K5.sk x V a n v) = (x.k, x.t, V) := by unfold K5.sk; rw [hc1, N1] <;> rfl
  rw [e]
  exact ⟨(), trivial, rfl, A.dq [0, 1] [] h⟩
 refine E.C.skip (E.To.code (E.sr (E.op (E.pt b) (E.op (E.pt b) (E.op (E.pj b 48) (E.li (E.pt m) 0 rfl rfl (E.op (E.u a) (E.op (E.i n) (E.op (E.u v) (A.gc (fun _ => .agg #[E.u 0, E.u ((V.chk (a).toNat 2 n).1), .bool ((V.chk (a).toNat 2 n).2)]) (J_Store (m := m) (V := V) a n v ha hv) [1] [0] [1, 0] (fun _ => [(b, (K5.wk x m))]) (fun _ => [R.It m (V.sto (a).toNat n v)]) (fun _ hd2 => E.nw [E.u 0, E.u 0, .bool false] 158 (fun g3 => E.st 0 [E.u 0, E.u ((V.chk (a).toNat 2 n).1), .bool ((V.chk (a).toNat 2 n).2)] rfl rfl ?_))))))))))))
 refine E.To.code (E.wk [(0, E.pt b), (8, E.pt g3)] [(g3, [E.u 0, E.u ((V.chk (a).toNat 2 n).1), .bool ((V.chk (a).toNat 2 n).2)]), (b, (K5.wk x m))] Nz.sub (E.sr (E.op (E.pj g3 2) (E.li (.bool ((V.chk (a).toNat 2 n).2)) 0 rfl rfl (E.op (.bool (!((V.chk (a).toNat 2 n).2))) (E.To.code (E.cd (!((V.chk (a).toNat 2 n).2)) (fun hc4 => ?_) (fun hc4 => ?_))))))))
 ·
  refine E.C.region (E.op (E.pt b) (E.op (E.pj g3 1) (E.li (E.u ((V.chk (a).toNat 2 n).1)) 0 rfl rfl (E.vl (.agg #[E.i 5, E.u ((V.chk (a).toNat 2 n).1)]) (fun w h => E.run_build #[E.i 5, E.u ((V.chk (a).toNat 2 n).1)] Nz.k w) (E.op (E.pt b) (E.op (E.pj b 56) (E.st 1 (K5.wk (⟨x.u, x.s, x.i, 5, (V.chk (a).toNat 2 n).1⟩) m) rfl rfl (E.To.bodyN (fn := Tryz.f97) [] ?_ ?_))))))))
  · exact trivial
  intro w h
  have e : (K5.sk x V a n v) = (5, (V.chk (a).toNat 2 n).1, (V.sto (a).toNat n v)) := by unfold K5.sk; rw [hc1, N0, hc4, N1] <;> rfl
  rw [e]
  exact ⟨(), trivial, rfl, A.dq [1, 2] [0] h⟩
 refine E.C.skip (E.To.bodyN (fn := Tryz.f97) [] ?_ ?_)
 · exact trivial
 intro w h
 have e : (K5.sk x V a n v) = (x.k, x.t, (V.sto (a).toNat n v)) := by unfold K5.sk; rw [hc1, N0, hc4, N0] <;> rfl
 rw [e]
 exact ⟨(), trivial, rfl, A.dq [1, 2] [0] h⟩
def K5.puk (x : K.W) (V : M.V) (v : Int) : Int × Int × M.V := ((K5.sk x V (IntKind.wrap .u32 ((x.u.r 7) - 4)) 4 v).1, (K5.sk x V (IntKind.wrap .u32 ((x.u.r 7) - 4)) 4 v).2.1, (K5.sk x V (IntKind.wrap .u32 ((x.u.r 7) - 4)) 4 v).2.2)
abbrev Z7e5a (x : K.W) := IntKind.wrap .u32 ((x.u.r 7) - 4)
theorem Push5 {b m : Nat} (x : K.W) (V : M.V) (v : Int) (hv : 0 ≤ v ∧ v < 4294967296) : A.Tr Tryz.prog 98 #[.pointer (some ⟨b, 0, none⟩), .int .u32 v] [A.blk b (K5.wk x m), R.It m V] (I := Unit) (fun _ => True) (fun _ => .tuple #[]) (fun _ => [A.blk b (K5.wk (⟨x.u, ⟨x.s.pc, (Q.up x.s.r 7 (IntKind.wrap .u32 ((x.u.r 7) - 4))), x.s.f, x.s.c, x.s.st, x.s.du⟩, x.i, (K5.puk x V v).1, (K5.puk x V v).2.1⟩ : K.W) m), R.It m (K5.puk x V v).2.2]) := by
 intro w oo aa hh
 refine E.enter (n := 26) (S := oo) Tryz.func98 rfl rfl Nz.k (A.start (L := [(b, (K5.wk x m))]) hh) (E.sr (E.op (E.pt b) (E.op (E.pt b) (E.op (E.pt b) (E.op (E.pt b) (E.op (E.pj b 1) (E.op (E.pj b 8) (E.li (E.u (x.u.r 7)) 0 rfl rfl (E.op (E.u (Z7e5a x)) (E.op (E.u v) (A.gc (fun _ => .tuple #[]) (Store5 (b := b) (m := m) x V (Z7e5a x) 4 v (Q.wrap_bd _) hv) [0, 1] [] [0, 1] (fun _ => [(b, (K5.wk (⟨x.u, x.s, x.i, (K5.sk x V (Z7e5a x) 4 v).1, (K5.sk x V (Z7e5a x) 4 v).2.1⟩) m))]) (fun _ => [R.It m ((K5.sk x V (Z7e5a x) 4 v).2.2)]) (fun _ hd1 => ?_))))))))))))
 refine E.To.code (E.wk [(0, E.pt b)] [(b, (K5.wk (⟨x.u, x.s, x.i, (K5.sk x V (Z7e5a x) 4 v).1, (K5.sk x V (Z7e5a x) 4 v).2.1⟩) m))] Nz.sub (E.C.held (E.Hp (oo) w (A.X w oo aa [R.It m ((K5.sk x V (Z7e5a x) 4 v).2.2)]) []) Nz.k (E.ta 0 (E.pt b) rfl (E.ta 1 (E.pt b) rfl (E.ta 2 (E.pt b) rfl (E.ta 3 (E.pt b) rfl (E.ta 4 (E.pj b 1) rfl (E.ta 5 (E.pj b 8) rfl (E.ta 8 (E.pt b) rfl (E.ta 9 (E.pj b 24) rfl (E.ta 10 (E.pj b 25) rfl ?_)))))))))))
 refine E.al 6 rfl (E.li (E.u (x.u.r 7)) 0 rfl rfl (E.bk (E.ta 7 (E.u (Z7e5a x)) rfl (E.ta 11 (E.pj b 32) rfl (E.al 12 rfl (E.st 0 (K5.wk (⟨x.u, ⟨x.s.pc, (Q.up x.s.r 7 (Z7e5a x)), x.s.f, x.s.c, x.s.st, x.s.du⟩, x.i, (K5.sk x V (Z7e5a x) 4 v).1, (K5.sk x V (Z7e5a x) 4 v).2.1⟩) m) rfl rfl (E.bk (E.H.done Nz.k (E.To.bodyN (fn := Tryz.f98) [] ?_ ?_)))))))))
 · exact trivial
 intro w h
 have e : (K5.puk x V v) = ((K5.sk x V (Z7e5a x) 4 v).1, (K5.sk x V (Z7e5a x) 4 v).2.1, (K5.sk x V (Z7e5a x) 4 v).2.2) := by unfold K5.puk; rfl
 rw [e]
 exact ⟨(), trivial, rfl, A.dq [0, 1] [] h⟩
def K5.pok (x : K.W) (V : M.V)  : Int × Int := ((K5.lk x V (x.u.r 7) 4).1, (K5.lk x V (x.u.r 7) 4).2)
abbrev Zt67a (x : K.W) (V : M.V) (m : Nat) := K5.wk (⟨x.u, ⟨x.s.pc, (Q.up x.s.r 7 (IntKind.wrap .u32 ((x.u.r 7) + 4))), x.s.f, x.s.c, x.s.st, x.s.du⟩, x.i, (K5.lk x V (x.u.r 7) 4).1, (K5.lk x V (x.u.r 7) 4).2⟩) m
abbrev Zt67b (V : M.V) (x : K.W) := (V.load ((x.u.r 7)).toNat 4).1
theorem Pop5 {b m : Nat} (x : K.W) (V : M.V)  (hx : K.wf x) : A.Tr Tryz.prog 99 #[.pointer (some ⟨b, 0, none⟩)] [A.blk b (K5.wk x m), R.It m V] (I := Unit) (fun _ => True) (fun _ => .int .u32 ((V.load (x.u.r 7).toNat 4).1)) (fun _ => [A.blk b (K5.wk (⟨x.u, ⟨x.s.pc, (Q.up x.s.r 7 (IntKind.wrap .u32 ((x.u.r 7) + 4))), x.s.f, x.s.c, x.s.st, x.s.du⟩, x.i, (K5.pok x V).1, (K5.pok x V).2⟩ : K.W) m), R.It m V]) := by
 intro w oo aa hh
 refine E.enter (n := 25) (S := oo) Tryz.func99 rfl rfl Nz.k (A.start (L := [(b, (K5.wk x m))]) hh) (E.sr (E.op (E.u 0) (E.tr (E.op (E.pt b) (E.op (E.pt b) (E.op (E.pt b) (E.op (E.pt b) (E.op (E.pj b 1) (E.op (E.pj b 8) (E.li (E.u (x.u.r 7)) 0 rfl rfl (A.gc (fun _ => E.u (Zt67b V x)) (Load5 (b := b) (m := m) x V (x.u.r 7) 4 (hx.u.r _)) [0, 1] [] [0, 1] (fun _ => [(b, (K5.wk (⟨x.u, x.s, x.i, (K5.lk x V (x.u.r 7) 4).1, (K5.lk x V (x.u.r 7) 4).2⟩) m))]) (fun _ => [R.It m V]) (fun _ hd1 => ?_))))))))))))
 refine E.op (E.u (Zt67b V x)) (E.To.code (E.wk [(0, E.pt b), (2, E.u 0), (3, E.u (Zt67b V x))] [(b, (K5.wk (⟨x.u, x.s, x.i, (K5.lk x V (x.u.r 7) 4).1, (K5.lk x V (x.u.r 7) 4).2⟩) m))] Nz.sub (E.C.seq (E.C.held (E.Hp (oo) w (A.X w oo aa [R.It m V]) []) Nz.k (E.ta 0 (E.pt b) rfl (E.ta 1 (E.pt b) rfl (E.ta 2 (E.pt b) rfl (E.ta 3 (E.pt b) rfl (E.ta 4 (E.pj b 1) rfl (E.ta 5 (E.pj b 8) rfl (E.ta 8 (E.pt b) rfl ?_)))))))))))
 refine E.ta 9 (E.pj b 24) rfl (E.ta 10 (E.pj b 25) rfl (E.al 6 rfl (E.li (E.u (x.u.r 7)) 0 rfl rfl (E.bk (E.ta 7 (E.u (IntKind.wrap .u32 ((x.u.r 7) + 4))) rfl (E.ta 11 (E.pj b 32) rfl (E.al 12 rfl (E.st 0 (Zt67a x V m) rfl rfl (E.bk (E.H.done Nz.k (E.To.code ?_)))))))))))
 refine E.wk [(2, E.u 0), (3, E.u (Zt67b V x))] [(b, (Zt67a x V m))] Nz.sub (E.sr (E.op (E.u (Zt67b V x)) (E.op (E.u (Zt67b V x)) (E.To.code (E.C.ret (E.bd Tryz.f99 [E.u (Zt67b V x)] ?_))))))
 intro w h
 have e : (K5.pok x V) = ((K5.lk x V (x.u.r 7) 4).1, (K5.lk x V (x.u.r 7) 4).2) := by unfold K5.pok; rfl
 rw [e]
 exact ⟨(), trivial, rfl, A.dq [0, 1] [] h⟩
/-- A quotient of integers. -/
theorem E.quoI {P : Program} {fr : E.Fr} {T : TypeId} {d : Option Nat} {pos : String} {af : Array Edge} {gd : Option (Nat × Bool)} {t u : TypeId} {x y : Operand} {k : IntKind} (a b : Int) (hx : E.ev fr x = .int k a) (hy : E.ev fr y = .int k b) (hb : b ≠ 0) (w : World) :
    (execOp (E.ev fr) ⟨d, .binOp .quo t x y u, T, pos, af, gd⟩).run P w = .ok (.value (.int k (k.wrap (Int.tdiv a b)))) w := by
  show (do let r ← (do eqGuard .quo t x y (E.ev fr x) (E.ev fr y); binOp .quo t (E.ev fr x) (E.ev fr y)); pure (Next.value r) : Sem Next).run P w = _
  rw [hx, hy]
  simp [eqGuard, binOp, Op.intDiv, hb]
theorem rFlags_all (k a b : Int) (ha : 0 ≤ a ∧ a < 4294967296) (hb : 0 ≤ b ∧ b < 4294967296) (w : World) : Calls Tryz.prog 66 #[.int .i64 k, .int .u32 a, .int .u32 b] w fun e w' => e = .returned (.int .u32 (W.flags k a b)) ∧ Bel w w' := rFlags_any k a b ha.1 ha.2 hb.1 hb.2 w
theorem rOp_all (c a b : Int) (ha : 0 ≤ a ∧ a < 4294967296) (hb : 0 ≤ b ∧ b < 4294967296) (w : World) : Calls Tryz.prog 68 #[.int .i64 c, .int .u32 a, .int .u32 b] w fun e w' => e = .returned (.int .u32 (W.op c a b)) ∧ Bel w w' := rOp_any c a b ha.1 ha.2 hb.1 hb.2 w
structure K5.A where
  v : Int
  f : Int
  st : Bool
  se : Bool
  z : Bool
def K5.logic (v : Int) (t : Bool) : K5.A := ⟨v, (W.flags 5 v 0), t, true, false⟩
theorem Logic5 (v : Int) (t : Bool) (hv : 0 ≤ v ∧ v < 4294967296) (w : World) : Calls Tryz.prog 67 #[.int .u32 v, .bool t] w fun e w' => e = .returned (.agg #[.int .u32 ((K5.logic v t).v), .int .u32 ((K5.logic v t).f), .bool ((K5.logic v t).st), .bool ((K5.logic v t).se), .bool ((K5.logic v t).z)]) ∧ Bel w w' := by
 exact E.enter (n := 10) (S := fun _ => False) Tryz.func67 rfl rfl Nz.k (E.Hp.start w) (E.sr (E.nw [E.u 0, E.u 0, .bool false, .bool false, .bool false] 63 (fun g1 => E.tr (E.op (E.u v) (E.op (E.u v) (E.ca (E.u (W.flags 5 v 0)) (fun w h => rFlags_all 5 v 0 (by assumption) (by decide) w) (E.op (.bool t) (E.vl (.agg #[E.u v, E.u (W.flags 5 v 0), .bool t, .bool true, .bool false]) (fun w h => E.run_build #[E.u v, E.u (W.flags 5 v 0), .bool t, .bool true, .bool false] Nz.k w) (E.st 0 [E.u v, E.u (W.flags 5 v 0), .bool t, .bool true, .bool false] rfl rfl (E.To.code (E.C.ret (E.b0 Tryz.f67 [.agg #[E.u v, E.u (W.flags 5 v 0), .bool t, .bool true, .bool false]] (fun w h => ⟨rfl, h.ch.bel (fun _ h => h.elim)⟩)))))))))))))
def K5.alu (op a b f : Int) : K5.A := (bif (op == 32) then ⟨b, 0, true, false, false⟩ else (bif (op == 33) then ⟨(IntKind.wrap .u32 (a + b)), (W.flags 1 a b), true, true, false⟩ else (bif (op == 35) then ⟨(IntKind.wrap .u32 ((IntKind.wrap .u32 (a + b)) + (Int.tmod (IntKind.wrap .u32 (Int.tdiv f 2)) 2))), (W.flags (IntKind.wrap .i64 (1 + (IntKind.wrap .i64 (Int.tmod (IntKind.wrap .u32 (Int.tdiv f 2)) 2)))) a b), true, true, false⟩ else (bif ((op == 34) || (op == 40)) then ⟨(IntKind.wrap .u32 (a - b)), (W.flags 3 a b), (op == 34), true, false⟩ else (bif (op == 36) then ⟨(IntKind.wrap .u32 ((IntKind.wrap .u32 (a - b)) - (IntKind.wrap .u32 (1 - (Int.tmod (IntKind.wrap .u32 (Int.tdiv f 2)) 2))))), (W.flags (IntKind.wrap .i64 (4 - (IntKind.wrap .i64 (Int.tmod (IntKind.wrap .u32 (Int.tdiv f 2)) 2)))) a b), true, true, false⟩ else (bif ((op == 37) || (op == 41)) then (K5.logic (bits .and .u32 a b) (op == 37)) else (bif (op == 38) then (K5.logic (bits .or .u32 a b) true) else (bif (op == 39) then (K5.logic (bits .xor .u32 a b) true) else (bif (op == 42) then (K5.logic (IntKind.wrap .u32 (a * b)) true) else (bif (op == 43) then (bif (b == 0) then ⟨0, 0, false, false, true⟩ else (K5.logic (IntKind.wrap .u32 (Int.tdiv a b)) true)) else (bif (op == 44) then (K5.logic (W.op 8 a b) true) else (bif (op == 45) then (K5.logic (W.op 9 a b) true) else (K5.logic (W.op 10 a b) true)))))))))))))
abbrev Zzfma (f : Int) := Int.tmod (IntKind.wrap .u32 (Int.tdiv f 2)) 2
abbrev Zzfmb (a : Int) (b : Int) (op : Int) : List Value := [E.u ((K5.logic (bits .and .u32 a b) (op == 37)).v), E.u ((K5.logic (bits .and .u32 a b) (op == 37)).f), .bool ((K5.logic (bits .and .u32 a b) (op == 37)).st), .bool ((K5.logic (bits .and .u32 a b) (op == 37)).se), .bool ((K5.logic (bits .and .u32 a b) (op == 37)).z)]
abbrev Zzfmc (a : Int) (b : Int) := IntKind.wrap .u32 (Int.tdiv a b)
abbrev Zzfmd (a : Int) (b : Int) := IntKind.wrap .u32 (a * b)
abbrev Zzfmf (a : Int) (b : Int) (op : Int) : Array Value := #[E.u ((K5.logic (bits .and .u32 a b) (op == 37)).v), E.u ((K5.logic (bits .and .u32 a b) (op == 37)).f), .bool ((K5.logic (bits .and .u32 a b) (op == 37)).st), .bool ((K5.logic (bits .and .u32 a b) (op == 37)).se), .bool ((K5.logic (bits .and .u32 a b) (op == 37)).z)]
abbrev Zzfmg (a : Int) (b : Int) : Array Value := #[E.u ((K5.logic (bits .xor .u32 a b) true).v), E.u ((K5.logic (bits .xor .u32 a b) true).f), .bool ((K5.logic (bits .xor .u32 a b) true).st), .bool ((K5.logic (bits .xor .u32 a b) true).se), .bool ((K5.logic (bits .xor .u32 a b) true).z)]
abbrev Zzfmh (a : Int) (b : Int) : List Value := [E.u ((K5.logic (bits .xor .u32 a b) true).v), E.u ((K5.logic (bits .xor .u32 a b) true).f), .bool ((K5.logic (bits .xor .u32 a b) true).st), .bool ((K5.logic (bits .xor .u32 a b) true).se), .bool ((K5.logic (bits .xor .u32 a b) true).z)]
abbrev Zzfmi (a : Int) (b : Int) : Array Value := #[E.u ((K5.logic (bits .or .u32 a b) true).v), E.u ((K5.logic (bits .or .u32 a b) true).f), .bool ((K5.logic (bits .or .u32 a b) true).st), .bool ((K5.logic (bits .or .u32 a b) true).se), .bool ((K5.logic (bits .or .u32 a b) true).z)]
abbrev Zzfmj (a : Int) (b : Int) : List Value := [E.u ((K5.logic (bits .or .u32 a b) true).v), E.u ((K5.logic (bits .or .u32 a b) true).f), .bool ((K5.logic (bits .or .u32 a b) true).st), .bool ((K5.logic (bits .or .u32 a b) true).se), .bool ((K5.logic (bits .or .u32 a b) true).z)]
abbrev Zzfmk : List Value := [E.u 0, E.u 0, .bool false, .bool false, .bool false]
abbrev Zzfml (a : Int) (b : Int) := IntKind.wrap .u32 (a + b)
abbrev Zzfmm (a : Int) (b : Int) : Array Value := #[E.u ((K5.logic (W.op 10 a b) true).v), E.u ((K5.logic (W.op 10 a b) true).f), .bool ((K5.logic (W.op 10 a b) true).st), .bool ((K5.logic (W.op 10 a b) true).se), .bool ((K5.logic (W.op 10 a b) true).z)]
abbrev Zzfmn (a : Int) (b : Int) : List Value := [E.u ((K5.logic (W.op 10 a b) true).v), E.u ((K5.logic (W.op 10 a b) true).f), .bool ((K5.logic (W.op 10 a b) true).st), .bool ((K5.logic (W.op 10 a b) true).se), .bool ((K5.logic (W.op 10 a b) true).z)]
abbrev Zzfmo (a : Int) (b : Int) : Array Value := #[E.u ((K5.logic (W.op 8 a b) true).v), E.u ((K5.logic (W.op 8 a b) true).f), .bool ((K5.logic (W.op 8 a b) true).st), .bool ((K5.logic (W.op 8 a b) true).se), .bool ((K5.logic (W.op 8 a b) true).z)]
abbrev Zzfmp (a : Int) (b : Int) : List Value := [E.u ((K5.logic (W.op 8 a b) true).v), E.u ((K5.logic (W.op 8 a b) true).f), .bool ((K5.logic (W.op 8 a b) true).st), .bool ((K5.logic (W.op 8 a b) true).se), .bool ((K5.logic (W.op 8 a b) true).z)]
abbrev Zzfmq (a : Int) (b : Int) : Array Value := #[E.u ((K5.logic (W.op 9 a b) true).v), E.u ((K5.logic (W.op 9 a b) true).f), .bool ((K5.logic (W.op 9 a b) true).st), .bool ((K5.logic (W.op 9 a b) true).se), .bool ((K5.logic (W.op 9 a b) true).z)]
abbrev Zzfmr (a : Int) (b : Int) : List Value := [E.u ((K5.logic (W.op 9 a b) true).v), E.u ((K5.logic (W.op 9 a b) true).f), .bool ((K5.logic (W.op 9 a b) true).st), .bool ((K5.logic (W.op 9 a b) true).se), .bool ((K5.logic (W.op 9 a b) true).z)]
abbrev Zzfms (a : Int) (b : Int) := IntKind.wrap .u32 (a - b)
abbrev Zzfme (a : Int) (b : Int) (op : Int) : List Value := [E.u (Zzfms a b), E.u (W.flags 3 a b), .bool (op == 34), .bool true, .bool false]
abbrev Zzfmt : Array Value := #[E.u 0, E.u 0, .bool false, .bool false, .bool true]
set_option maxHeartbeats 1000000 in
theorem Alu5 (op a b f : Int) (ha : 0 ≤ a ∧ a < 4294967296) (hb : 0 ≤ b ∧ b < 4294967296) (w : World) : Calls Tryz.prog 28 #[.int .i64 op, .int .u32 a, .int .u32 b, .int .u32 f] w fun e w' => e = .returned (.agg #[.int .u32 ((K5.alu op a b f).v), .int .u32 ((K5.alu op a b f).f), .bool ((K5.alu op a b f).st), .bool ((K5.alu op a b f).se), .bool ((K5.alu op a b f).z)]) ∧ Bel w w' := by
 refine E.enter (n := 120) (S := fun _ => False) Tryz.func28 rfl rfl Nz.k (E.Hp.start w) (E.sr (E.nw Zzfmk 63 (fun g1 => E.tr (E.op (E.u f) (E.op (E.u (IntKind.wrap .u32 (Int.tdiv f 2))) (E.op (E.u (Zzfma f)) (E.op (E.u (Zzfma f)) (E.To.code (E.C.seq (E.sr (E.op (E.i op) ?_)))))))))))
 refine E.To.code (E.C.block (E.sr (E.op (.bool (op == 32)) (E.op (.bool (op == 32)) (E.To.code (E.cd (op == 32) (fun hc2 => ?_) (fun hc2 => ?_)))))))
 ·
  exact E.sr (E.op (E.u b) (E.vl (.agg #[E.u b, E.u 0, .bool true, .bool false, .bool false]) (fun w h => E.run_build #[E.u b, E.u 0, .bool true, .bool false, .bool false] Nz.k w) (E.st 0 [E.u b, E.u 0, .bool true, .bool false, .bool false] rfl rfl (E.To.code (E.wk [(1, E.u a), (2, E.u b), (8, E.pt g1)] [(g1, [E.u b, E.u 0, .bool true, .bool false, .bool false])] Nz.sub (E.C.ret (E.P.rb (E.P.rt (E.b0 Tryz.f28 [.agg #[E.u b, E.u 0, .bool true, .bool false, .bool false]] (fun w h => ⟨by unfold K5.alu; rw [hc2, N1] <;> rfl, h.ch.bel (fun _ h => h.elim)⟩))))))))))
 refine E.sr (E.op (.bool (op == 33)) (E.op (.bool (op == 33)) (E.To.code (E.cd (op == 33) (fun hc3 => ?_) (fun hc3 => ?_)))))
 ·
  exact E.sr (E.op (E.u a) (E.op (E.u b) (E.op (E.u (Zzfml a b)) (E.op (E.u a) (E.op (E.u b) (E.ca (E.u (W.flags 1 a b)) (fun w h => rFlags_all 1 a b (by assumption) (by assumption) w) (E.vl (.agg #[E.u (Zzfml a b), E.u (W.flags 1 a b), .bool true, .bool true, .bool false]) (fun w h => E.run_build #[E.u (Zzfml a b), E.u (W.flags 1 a b), .bool true, .bool true, .bool false] Nz.k w) (E.st 0 [E.u (Zzfml a b), E.u (W.flags 1 a b), .bool true, .bool true, .bool false] rfl rfl (E.To.code (E.wk [(1, E.u a), (2, E.u b), (8, E.pt g1)] [(g1, [E.u (Zzfml a b), E.u (W.flags 1 a b), .bool true, .bool true, .bool false])] Nz.sub (E.C.ret (E.P.rb (E.P.rt (E.b0 Tryz.f28 [.agg #[E.u (Zzfml a b), E.u (W.flags 1 a b), .bool true, .bool true, .bool false]] (fun w h => ⟨by unfold K5.alu; rw [hc2, N0, hc3, N1] <;> rfl, h.ch.bel (fun _ h => h.elim)⟩)))))))))))))))
 refine E.sr (E.op (.bool (op == 35)) (E.op (.bool (op == 35)) (E.To.code (E.wk [(0, E.i op), (1, E.u a), (2, E.u b), (8, E.pt g1), (9, E.u (Zzfma f)), (13, E.i op), (27, .bool (op == 35))] [(g1, Zzfmk)] Nz.sub (E.cd (op == 35) (fun hc4 => ?_) (fun hc4 => ?_))))))
 ·
  refine E.sr (E.op (E.u a) (E.op (E.u b) (E.op (E.u (Zzfml a b)) (E.op (E.u (Zzfma f)) (E.op (E.u (IntKind.wrap .u32 ((Zzfml a b) + (Zzfma f)))) (E.op (E.u (Zzfma f)) (E.op (E.i (IntKind.wrap .i64 (Zzfma f))) (E.op (E.i (IntKind.wrap .i64 (1 + (IntKind.wrap .i64 (Zzfma f))))) (E.op (E.u a) (E.op (E.u b) (E.ca (E.u (W.flags (IntKind.wrap .i64 (1 + (IntKind.wrap .i64 (Zzfma f)))) a b)) (fun w h => rFlags_all (IntKind.wrap .i64 (1 + (IntKind.wrap .i64 (Zzfma f)))) a b (by assumption) (by assumption) w) ?_)))))))))))
  exact E.vl (.agg #[E.u (IntKind.wrap .u32 ((Zzfml a b) + (Zzfma f))), E.u (W.flags (IntKind.wrap .i64 (1 + (IntKind.wrap .i64 (Zzfma f)))) a b), .bool true, .bool true, .bool false]) (fun w h => E.run_build #[E.u (IntKind.wrap .u32 ((Zzfml a b) + (Zzfma f))), E.u (W.flags (IntKind.wrap .i64 (1 + (IntKind.wrap .i64 (Zzfma f)))) a b), .bool true, .bool true, .bool false] Nz.k w) (E.st 0 [E.u (IntKind.wrap .u32 ((Zzfml a b) + (Zzfma f))), E.u (W.flags (IntKind.wrap .i64 (1 + (IntKind.wrap .i64 (Zzfma f)))) a b), .bool true, .bool true, .bool false] rfl rfl (E.To.code (E.wk [(1, E.u a), (2, E.u b), (8, E.pt g1)] [(g1, [E.u (IntKind.wrap .u32 ((Zzfml a b) + (Zzfma f))), E.u (W.flags (IntKind.wrap .i64 (1 + (IntKind.wrap .i64 (Zzfma f)))) a b), .bool true, .bool true, .bool false])] Nz.sub (E.C.ret (E.P.rb (E.P.rt (E.b0 Tryz.f28 [.agg #[E.u (IntKind.wrap .u32 ((Zzfml a b) + (Zzfma f))), E.u (W.flags (IntKind.wrap .i64 (1 + (IntKind.wrap .i64 (Zzfma f)))) a b), .bool true, .bool true, .bool false]] (fun w h => ⟨by unfold K5.alu; rw [hc2, N0, hc3, N0, hc4, N1] <;> rfl, h.ch.bel (fun _ h => h.elim)⟩))))))))
 refine E.C.seq (E.sr (E.op (.bool (op == 34)) (E.op (.bool (op == 34)) (E.To.code (E.C.thencut [(0, E.i op), (1, E.u a), (2, E.u b), (8, E.pt g1), (9, E.u (Zzfma f)), (13, E.i op), (41, .bool ((op == 34) || (op == 40)))] (fun _ => True) [(g1, Zzfmk)] ?_ ?_)))))
 ·
  generalize hc5 : (op == 34) = b6
  cases b6
  ·
   exact E.C.condF Nz.k Nz.k (E.C.region (E.op (.bool (op == 40)) (E.op (.bool (op == 40)) (E.To.pst ⟨Nz.k, Nz.k⟩ Nz.sub (fun _ h => h)))))
  exact E.C.condT Nz.k Nz.k (E.C.skip (E.To.pst ⟨Nz.k, Nz.k⟩ Nz.sub (fun _ h => h)))
 refine E.cd ((op == 34) || (op == 40)) (fun hc7 => ?_) (fun hc7 => ?_)
 ·
  refine E.sr (E.op (E.u a) (E.op (E.u b) (E.op (E.u (Zzfms a b)) (E.op (E.u a) (E.op (E.u b) (E.ca (E.u (W.flags 3 a b)) (fun w h => rFlags_all 3 a b (by assumption) (by assumption) w) (E.op (E.i op) (E.op (.bool (op == 34)) (E.vl (.agg #[E.u (Zzfms a b), E.u (W.flags 3 a b), .bool (op == 34), .bool true, .bool false]) (fun w h => E.run_build #[E.u (Zzfms a b), E.u (W.flags 3 a b), .bool (op == 34), .bool true, .bool false] Nz.k w) (E.st 0 (Zzfme a b op) rfl rfl (E.To.code ?_)))))))))))
  exact E.wk [(1, E.u a), (2, E.u b), (8, E.pt g1)] [(g1, (Zzfme a b op))] Nz.sub (E.C.ret (E.P.rb (E.P.rt (E.b0 Tryz.f28 [.agg #[E.u (Zzfms a b), E.u (W.flags 3 a b), .bool (op == 34), .bool true, .bool false]] (fun w h => ⟨by unfold K5.alu; rw [hc2, N0, hc3, N0, hc4, N0, hc7, N1] <;> rfl, h.ch.bel (fun _ h => h.elim)⟩)))))
 refine E.sr (E.op (.bool (op == 36)) (E.op (.bool (op == 36)) (E.To.code (E.cd (op == 36) (fun hc8 => ?_) (fun hc8 => ?_)))))
 ·
  refine E.sr (E.op (E.u a) (E.op (E.u b) (E.op (E.u (Zzfms a b)) (E.op (E.u (Zzfma f)) (E.op (E.u (IntKind.wrap .u32 (1 - (Zzfma f)))) (E.op (E.u (IntKind.wrap .u32 ((Zzfms a b) - (IntKind.wrap .u32 (1 - (Zzfma f)))))) (E.op (E.u (Zzfma f)) (E.op (E.i (IntKind.wrap .i64 (Zzfma f))) (E.op (E.i (IntKind.wrap .i64 (4 - (IntKind.wrap .i64 (Zzfma f))))) (E.op (E.u a) (E.op (E.u b) ?_)))))))))))
  exact E.ca (E.u (W.flags (IntKind.wrap .i64 (4 - (IntKind.wrap .i64 (Zzfma f)))) a b)) (fun w h => rFlags_all (IntKind.wrap .i64 (4 - (IntKind.wrap .i64 (Zzfma f)))) a b (by assumption) (by assumption) w) (E.vl (.agg #[E.u (IntKind.wrap .u32 ((Zzfms a b) - (IntKind.wrap .u32 (1 - (Zzfma f))))), E.u (W.flags (IntKind.wrap .i64 (4 - (IntKind.wrap .i64 (Zzfma f)))) a b), .bool true, .bool true, .bool false]) (fun w h => E.run_build #[E.u (IntKind.wrap .u32 ((Zzfms a b) - (IntKind.wrap .u32 (1 - (Zzfma f))))), E.u (W.flags (IntKind.wrap .i64 (4 - (IntKind.wrap .i64 (Zzfma f)))) a b), .bool true, .bool true, .bool false] Nz.k w) (E.st 0 [E.u (IntKind.wrap .u32 ((Zzfms a b) - (IntKind.wrap .u32 (1 - (Zzfma f))))), E.u (W.flags (IntKind.wrap .i64 (4 - (IntKind.wrap .i64 (Zzfma f)))) a b), .bool true, .bool true, .bool false] rfl rfl (E.To.code (E.wk [(1, E.u a), (2, E.u b), (8, E.pt g1)] [(g1, [E.u (IntKind.wrap .u32 ((Zzfms a b) - (IntKind.wrap .u32 (1 - (Zzfma f))))), E.u (W.flags (IntKind.wrap .i64 (4 - (IntKind.wrap .i64 (Zzfma f)))) a b), .bool true, .bool true, .bool false])] Nz.sub (E.C.ret (E.P.rb (E.P.rt (E.b0 Tryz.f28 [.agg #[E.u (IntKind.wrap .u32 ((Zzfms a b) - (IntKind.wrap .u32 (1 - (Zzfma f))))), E.u (W.flags (IntKind.wrap .i64 (4 - (IntKind.wrap .i64 (Zzfma f)))) a b), .bool true, .bool true, .bool false]] (fun w h => ⟨by unfold K5.alu; rw [hc2, N0, hc3, N0, hc4, N0, hc7, N0, hc8, N1] <;> rfl, h.ch.bel (fun _ h => h.elim)⟩)))))))))
 refine E.C.seq (E.sr (E.op (.bool (op == 37)) (E.op (.bool (op == 37)) (E.To.code (E.C.thencut [(0, E.i op), (1, E.u a), (2, E.u b), (8, E.pt g1), (13, E.i op), (68, .bool ((op == 37) || (op == 41)))] (fun _ => True) [(g1, Zzfmk)] ?_ ?_)))))
 ·
  generalize hc9 : (op == 37) = b10
  cases b10
  ·
   exact E.C.condF Nz.k Nz.k (E.C.region (E.op (.bool (op == 41)) (E.op (.bool (op == 41)) (E.To.pst ⟨Nz.k, Nz.k⟩ Nz.sub (fun _ h => h)))))
  exact E.C.condT Nz.k Nz.k (E.C.skip (E.To.pst ⟨Nz.k, Nz.k⟩ Nz.sub (fun _ h => h)))
 refine E.cd ((op == 37) || (op == 41)) (fun hc11 => ?_) (fun hc11 => ?_)
 ·
  exact E.sr (E.op (E.u a) (E.op (E.u b) (E.op (E.u (bits .and .u32 a b)) (E.op (E.i op) (E.op (.bool (op == 37)) (E.ca (.agg (Zzfmf a b op)) (fun w h => Logic5 (bits .and .u32 a b) (op == 37) (W.bits_bd _ _ _) w) (E.st 0 (Zzfmb a b op) rfl rfl (E.To.code (E.wk [(1, E.u a), (2, E.u b), (8, E.pt g1)] [(g1, (Zzfmb a b op))] Nz.sub (E.C.ret (E.P.rb (E.P.rt (E.b0 Tryz.f28 [.agg (Zzfmf a b op)] (fun w h => ⟨by unfold K5.alu; rw [hc2, N0, hc3, N0, hc4, N0, hc7, N0, hc8, N0, hc11, N1] <;> rfl, h.ch.bel (fun _ h => h.elim)⟩))))))))))))))
 refine E.sr (E.op (.bool (op == 38)) (E.op (.bool (op == 38)) (E.To.code (E.cd (op == 38) (fun hc12 => ?_) (fun hc12 => ?_)))))
 ·
  exact E.sr (E.op (E.u a) (E.op (E.u b) (E.op (E.u (bits .or .u32 a b)) (E.ca (.agg (Zzfmi a b)) (fun w h => Logic5 (bits .or .u32 a b) true (W.bits_bd _ _ _) w) (E.st 0 (Zzfmj a b) rfl rfl (E.To.code (E.wk [(1, E.u a), (2, E.u b), (8, E.pt g1)] [(g1, (Zzfmj a b))] Nz.sub (E.C.ret (E.P.rb (E.P.rt (E.b0 Tryz.f28 [.agg (Zzfmi a b)] (fun w h => ⟨by unfold K5.alu; rw [hc2, N0, hc3, N0, hc4, N0, hc7, N0, hc8, N0, hc11, N0, hc12, N1] <;> rfl, h.ch.bel (fun _ h => h.elim)⟩))))))))))))
 refine E.sr (E.op (.bool (op == 39)) (E.op (.bool (op == 39)) (E.To.code (E.cd (op == 39) (fun hc13 => ?_) (fun hc13 => ?_)))))
 ·
  exact E.sr (E.op (E.u a) (E.op (E.u b) (E.op (E.u (bits .xor .u32 a b)) (E.ca (.agg (Zzfmg a b)) (fun w h => Logic5 (bits .xor .u32 a b) true (W.bits_bd _ _ _) w) (E.st 0 (Zzfmh a b) rfl rfl (E.To.code (E.wk [(1, E.u a), (2, E.u b), (8, E.pt g1)] [(g1, (Zzfmh a b))] Nz.sub (E.C.ret (E.P.rb (E.P.rt (E.b0 Tryz.f28 [.agg (Zzfmg a b)] (fun w h => ⟨by unfold K5.alu; rw [hc2, N0, hc3, N0, hc4, N0, hc7, N0, hc8, N0, hc11, N0, hc12, N0, hc13, N1] <;> rfl, h.ch.bel (fun _ h => h.elim)⟩))))))))))))
 refine E.sr (E.op (.bool (op == 42)) (E.op (.bool (op == 42)) (E.To.code (E.cd (op == 42) (fun hc14 => ?_) (fun hc14 => ?_)))))
 ·
  exact E.sr (E.op (E.u a) (E.op (E.u b) (E.op (E.u (Zzfmd a b)) (E.ca (.agg #[E.u ((K5.logic (Zzfmd a b) true).v), E.u ((K5.logic (Zzfmd a b) true).f), .bool ((K5.logic (Zzfmd a b) true).st), .bool ((K5.logic (Zzfmd a b) true).se), .bool ((K5.logic (Zzfmd a b) true).z)]) (fun w h => Logic5 (Zzfmd a b) true (Q.wrap_bd _) w) (E.st 0 [E.u ((K5.logic (Zzfmd a b) true).v), E.u ((K5.logic (Zzfmd a b) true).f), .bool ((K5.logic (Zzfmd a b) true).st), .bool ((K5.logic (Zzfmd a b) true).se), .bool ((K5.logic (Zzfmd a b) true).z)] rfl rfl (E.To.code (E.wk [(1, E.u a), (2, E.u b), (8, E.pt g1)] [(g1, [E.u ((K5.logic (Zzfmd a b) true).v), E.u ((K5.logic (Zzfmd a b) true).f), .bool ((K5.logic (Zzfmd a b) true).st), .bool ((K5.logic (Zzfmd a b) true).se), .bool ((K5.logic (Zzfmd a b) true).z)])] Nz.sub (E.C.ret (E.P.rb (E.P.rt (E.b0 Tryz.f28 [.agg #[E.u ((K5.logic (Zzfmd a b) true).v), E.u ((K5.logic (Zzfmd a b) true).f), .bool ((K5.logic (Zzfmd a b) true).st), .bool ((K5.logic (Zzfmd a b) true).se), .bool ((K5.logic (Zzfmd a b) true).z)]] (fun w h => ⟨by unfold K5.alu; rw [hc2, N0, hc3, N0, hc4, N0, hc7, N0, hc8, N0, hc11, N0, hc12, N0, hc13, N0, hc14, N1] <;> rfl, h.ch.bel (fun _ h => h.elim)⟩))))))))))))
 refine E.sr (E.op (.bool (op == 43)) (E.op (.bool (op == 43)) (E.To.code (E.wk [(1, E.u a), (2, E.u b), (8, E.pt g1), (13, E.i op), (95, .bool (op == 43))] [(g1, Zzfmk)] Nz.sub (E.cd (op == 43) (fun hc15 => ?_) (fun hc15 => ?_))))))
 ·
  refine E.C.seq (E.sr (E.op (E.u b) (E.op (.bool (b == 0)) (E.To.code (E.cd (b == 0) (fun hc16 => ?_) (fun hc16 => ?_))))))
  ·
   exact E.sr (E.vl (.agg Zzfmt) (fun w h => E.run_build Zzfmt Nz.k w) (E.st 0 [E.u 0, E.u 0, .bool false, .bool false, .bool true] rfl rfl (E.To.code (E.C.ret (E.P.rt (E.P.rb (E.P.rt (E.b0 Tryz.f28 [.agg Zzfmt] (fun w h => ⟨by unfold K5.alu; rw [hc2, N0, hc3, N0, hc4, N0, hc7, N0, hc8, N0, hc11, N0, hc12, N0, hc13, N0, hc14, N0, hc15, N1, hc16, N1] <;> rfl, h.ch.bel (fun _ h => h.elim)⟩)))))))))
  exact E.C.skip (E.To.code (E.sr (E.op (E.u a) (E.op (E.u b) (E.vl (E.u (Zzfmc a b)) (fun w h => E.quoI a b Nz.k Nz.k (by intro e; rw [e] at hc16; cases hc16) w) (E.ca (.agg #[E.u ((K5.logic (Zzfmc a b) true).v), E.u ((K5.logic (Zzfmc a b) true).f), .bool ((K5.logic (Zzfmc a b) true).st), .bool ((K5.logic (Zzfmc a b) true).se), .bool ((K5.logic (Zzfmc a b) true).z)]) (fun w h => Logic5 (Zzfmc a b) true (Q.wrap_bd _) w) (E.st 0 [E.u ((K5.logic (Zzfmc a b) true).v), E.u ((K5.logic (Zzfmc a b) true).f), .bool ((K5.logic (Zzfmc a b) true).st), .bool ((K5.logic (Zzfmc a b) true).se), .bool ((K5.logic (Zzfmc a b) true).z)] rfl rfl (E.To.code (E.wk [(1, E.u a), (2, E.u b), (8, E.pt g1)] [(g1, [E.u ((K5.logic (Zzfmc a b) true).v), E.u ((K5.logic (Zzfmc a b) true).f), .bool ((K5.logic (Zzfmc a b) true).st), .bool ((K5.logic (Zzfmc a b) true).se), .bool ((K5.logic (Zzfmc a b) true).z)])] Nz.sub (E.C.ret (E.P.rb (E.P.rt (E.b0 Tryz.f28 [.agg #[E.u ((K5.logic (Zzfmc a b) true).v), E.u ((K5.logic (Zzfmc a b) true).f), .bool ((K5.logic (Zzfmc a b) true).st), .bool ((K5.logic (Zzfmc a b) true).se), .bool ((K5.logic (Zzfmc a b) true).z)]] (fun w h => ⟨by unfold K5.alu; rw [hc2, N0, hc3, N0, hc4, N0, hc7, N0, hc8, N0, hc11, N0, hc12, N0, hc13, N0, hc14, N0, hc15, N1, hc16, N0] <;> rfl, h.ch.bel (fun _ h => h.elim)⟩))))))))))))))
 refine E.sr (E.op (.bool (op == 44)) (E.op (.bool (op == 44)) (E.To.code (E.cd (op == 44) (fun hc17 => ?_) (fun hc17 => ?_)))))
 ·
  exact E.sr (E.op (E.u a) (E.op (E.u b) (E.ca (E.u (W.op 8 a b)) (fun w h => rOp_all 8 a b (by assumption) (by assumption) w) (E.ca (.agg (Zzfmo a b)) (fun w h => Logic5 (W.op 8 a b) true (W.op_bd _ _ _ ha.1 ha.2 hb.1) w) (E.st 0 (Zzfmp a b) rfl rfl (E.To.code (E.wk [(1, E.u a), (2, E.u b), (8, E.pt g1)] [(g1, (Zzfmp a b))] Nz.sub (E.C.ret (E.P.rb (E.P.rt (E.b0 Tryz.f28 [.agg (Zzfmo a b)] (fun w h => ⟨by unfold K5.alu; rw [hc2, N0, hc3, N0, hc4, N0, hc7, N0, hc8, N0, hc11, N0, hc12, N0, hc13, N0, hc14, N0, hc15, N0, hc17, N1] <;> rfl, h.ch.bel (fun _ h => h.elim)⟩))))))))))))
 refine E.sr (E.op (.bool (op == 45)) (E.op (.bool (op == 45)) (E.To.code (E.cd (op == 45) (fun hc18 => ?_) (fun hc18 => ?_)))))
 ·
  exact E.sr (E.op (E.u a) (E.op (E.u b) (E.ca (E.u (W.op 9 a b)) (fun w h => rOp_all 9 a b (by assumption) (by assumption) w) (E.ca (.agg (Zzfmq a b)) (fun w h => Logic5 (W.op 9 a b) true (W.op_bd _ _ _ ha.1 ha.2 hb.1) w) (E.st 0 (Zzfmr a b) rfl rfl (E.To.code (E.wk [(1, E.u a), (2, E.u b), (8, E.pt g1)] [(g1, (Zzfmr a b))] Nz.sub (E.C.ret (E.P.rb (E.P.rt (E.b0 Tryz.f28 [.agg (Zzfmq a b)] (fun w h => ⟨by unfold K5.alu; rw [hc2, N0, hc3, N0, hc4, N0, hc7, N0, hc8, N0, hc11, N0, hc12, N0, hc13, N0, hc14, N0, hc15, N0, hc17, N0, hc18, N1] <;> rfl, h.ch.bel (fun _ h => h.elim)⟩))))))))))))
 exact E.C.skip (E.P.nb (E.To.code (E.sr (E.op (E.u a) (E.op (E.u b) (E.ca (E.u (W.op 10 a b)) (fun w h => rOp_all 10 a b (by assumption) (by assumption) w) (E.ca (.agg (Zzfmm a b)) (fun w h => Logic5 (W.op 10 a b) true (W.op_bd _ _ _ ha.1 ha.2 hb.1) w) (E.st 0 (Zzfmn a b) rfl rfl (E.To.code (E.wk [(8, E.pt g1)] [(g1, (Zzfmn a b))] Nz.sub (E.C.ret (E.b0 Tryz.f28 [.agg (Zzfmm a b)] (fun w h => ⟨by unfold K5.alu; rw [hc2, N0, hc3, N0, hc4, N0, hc7, N0, hc8, N0, hc11, N0, hc12, N0, hc13, N0, hc14, N0, hc15, N0, hc17, N0, hc18, N0] <;> rfl, h.ch.bel (fun _ h => h.elim)⟩)))))))))))))
end Go.Proofs.YtglidnmmeclneaaGreat
