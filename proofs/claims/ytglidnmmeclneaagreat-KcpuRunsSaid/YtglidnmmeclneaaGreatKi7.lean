/- Texts of the walk, merged (7): see the remark ahead of each. -/
import Derived.Test.YtglidnmmeclneaaGreatKi6
import Derived.Test.YtglidnmmeclneaaGreatProg
namespace Go.Proofs.YtglidnmmeclneaaGreat
set_option linter.unusedVariables false
set_option linter.unusedSimpArgs false
open Go.RowKit
theorem Step5_p {m : Nat} (s : Q.S) (V : M.V) (hs : Q.wf s) (hf : K.fb s) (hV : R.Wf V) : A.Tr Tryz.prog 21 #[Q.S.val s, .pointer (some ⟨m, 0, none⟩)] [R.It m V] (I := Unit) (fun _ => True) (fun _ => Q.out (K.step s V).1 (K.step s V).2.1 (K.step s V).2.2.1) (fun _ => [R.It m (K.step s V).2.2.2]) := Step5_any s V hs hf hV rfl
theorem K.run_fb {most : Int} : ∀ (f n : Nat) {s : Q.S} {V : M.V}, K.fb s → K.Ext V → K.fb (K.run most f n s V).1 ∧ K.Ext (K.run most f n s V).2.2.2
  | 0, _, s, V, hs, hV => ⟨hs, hV⟩
  | f + 1, n, s, V, hs, hV => by
    let p : Q.S × Int × Int × M.V → Prop := fun x => K.fb x.1 ∧ K.Ext x.2.2.2
    show p (K.run most (f + 1) n s V)
    unfold K.run
    refine Q.bifP (p := p) (fun _ => ⟨hs, hV⟩) fun _ => ?_
    refine Q.bifP (p := p) (fun _ => ⟨hs, hV⟩) fun _ => ?_
    refine Q.bifP (p := p) (fun _ => ⟨hs, K.step_ext hV⟩) fun _ => ?_
    exact K.run_fb f (n + 1) (K.step_fb hs) (K.step_ext hV)
/-- The content as content and as the reference's bytes. -/
theorem K.cl_get (V : M.V) : ∀ k : Nat, k ≤ 1024 → ∀ y : Nat, y < 1024 → (K.cl V k).getD y 0 = if y < k then V.peek y else 0
  | 0, _, y, hy => by
    rw [K.cl, List.getD_eq_getElem?_getD, List.getElem?_replicate, if_pos hy, if_neg (by omega)]; rfl
  | k + 1, hk, y, hy => by
    have ih := K.cl_get V k (by omega) y hy
    rw [List.getD_eq_getElem?_getD] at ih
    rw [K.cl, List.getD_eq_getElem?_getD, List.getElem?_set, K.cl_len]
    by_cases e : k = y
    · subst e
      rw [if_pos rfl, if_pos (by omega), if_pos (by omega)]; rfl
    · rw [if_neg e, ih]
      by_cases h : y < k
      · rw [if_pos h, if_pos (by omega)]
      · rw [if_neg h, if_neg (by omega)]
theorem K.cs_flat {V : M.V} (hn : V.n = 4) (hw : R.Wf V) : strOfNums (R.flat V.d V.n) = K.cs V := by
  have h1 : (R.flat V.d V.n).length = 1024 := K.data_len hn
  have h2 := K.cl_len V 1024
  have h3 : ∀ y, y < 1024 → (R.flat V.d V.n).getD y 0 = (K.cl V 1024).getD y 0 := fun y hy => by
    rw [K.data_get hn hy, K.cl_get V 1024 (Nat.le_refl _) y hy, if_pos hy, Int.toNat_natCast]
  show strOfNums (R.flat V.d V.n) = strOfNums (K.cl V 1024)
  generalize K.cl V 1024 = l at h2 h3 ⊢
  generalize R.flat V.d V.n = m at h1 h3 ⊢
  refine congrArg strOfNums (List.ext_getElem (h1.trans h2.symm) fun y hy hy2 => ?_)
  have := h3 y (by omega)
  rw [List.getD_eq_getElem?_getD, List.getD_eq_getElem?_getD, List.getElem?_eq_getElem hy, List.getElem?_eq_getElem hy2] at this
  exact this
abbrev Zexfa := Q.S.cells Q.z0 ++ [E.i 0, E.u 0]
set_option maxHeartbeats 1000000 in
theorem CRun5 {r m : Nat} (most : Int) (s : Q.S) (V : M.V) (hm : -9223372036854775808 ≤ most ∧ most < 9223372036854775808) (hs : Q.wf s) (hf : K.fb s) (hV : R.Wf V) : A.Tr Tryz.prog 31 #[.pointer (some ⟨r, 0, none⟩), .int .i64 most] [A.blk r (Q.S.cells s ++ [.pointer (some ⟨m, 0, none⟩)]), R.It m V] (I := Unit) (fun _ => True) (fun _ => .agg #[.int .i64 (K.runs most s V).2.1, .int .u32 (K.runs most s V).2.2.1]) (fun _ => [A.blk r (Q.S.cells ((K.runs most s V).1) ++ [.pointer (some ⟨m, 0, none⟩)]), R.It m (K.runs most s V).2.2.2]) := by
 intro w oo aa hh
 refine E.enter (n := 53) (S := oo) Tryz.func31 rfl rfl Nz.k (A.start (L := [(r, (Q.S.cells s ++ [E.pt m]))]) hh) (E.sr (E.nw [E.i 0, E.u 0] 47 (fun g1 => E.tr (E.op (E.i 0) (E.To.code (E.C.block (E.C.loop (I := Nat × Q.S × M.V) (fun i => (most.toNat + 1) - i.1) (fun i => i.1 < (most.toNat + 1) ∧ Q.wf i.2.1 ∧ K.fb i.2.1 ∧ R.Wf i.2.2 ∧ K.run most ((most.toNat + 1) - i.1) i.1 i.2.1 i.2.2 = (K.runs most s V)) (fun i => [(0, E.pt r), (1, E.i most), (4, E.pt g1), (5, E.i ((i.1 : Nat) : Int))]) (fun i => A.X w oo aa [R.It m i.2.2]) (fun i => [(g1, [E.i 0, E.u 0]), (r, (Q.S.cells i.2.1 ++ [E.pt m]))]) (0, s, V) (⟨Nat.succ_pos _, hs, hf, hV, rfl⟩) ⟨Nz.k, Nz.k⟩ Nz.sub (fun _ h => h) (fun i hk1 => E.C.seq (E.C.block (E.C.seq (E.C.seq ?_)))))))))))
 refine E.C.quiet Nz.k Nz.k (E.wo (E.pt r) (E.wo (E.pt r) (E.wo (E.pt r) (E.wo (E.pj r 23) (E.wv (E.i i.2.1.du) (fun w h => E.run_load h 1 rfl rfl Nz.k) (E.wo (.bool (decide (i.2.1.du > 0))) (E.wo (.bool (decide (i.2.1.du > 0))) (E.W.cut 12 [(0, E.pt r), (1, E.i most), (4, E.pt g1), (5, E.i ((i.1 : Nat) : Int)), (9, E.pt r), (10, E.pt r), (11, E.pt r), (12, E.pj r 23), (13, E.i i.2.1.du), (14, .bool (decide (i.2.1.du > 0))), (15, .bool (decide (i.2.1.du > 0))), (27, .bool ((decide (i.2.1.du > 0)) && (decide (i.2.1.st ≥ i.2.1.du))))] ?_ ?_))))))))
 ·
  generalize hc2 : (decide (i.2.1.du > 0)) = b3
  cases b3
  ·
   refine E.ws (E.ws (E.ws (E.ws (E.ws (E.ws (E.ws (E.ws (E.ws (E.ws (E.ws (E.wo (.bool false) ?_)))))))))))
   exact E.W.end_cut ⟨Nz.k, Nz.k⟩
  refine E.wo (E.pt r) (E.wo (E.pt r) (E.wo (E.pt r) (E.wo (E.pj r 22) (E.wv (E.i i.2.1.st) (fun w h => E.run_load h 1 rfl rfl Nz.k) (E.wo (E.pt r) (E.wo (E.pt r) (E.wo (E.pt r) (E.wo (E.pj r 23) (E.wv (E.i i.2.1.du) (fun w h => E.run_load h 1 rfl rfl Nz.k) (E.wo (.bool (decide (i.2.1.st ≥ i.2.1.du))) (E.wo (.bool (decide (i.2.1.st ≥ i.2.1.du))) ?_)))))))))))
  exact E.W.end_cut ⟨Nz.k, Nz.k⟩
 refine E.W.done (E.To.code (E.cd ((decide (i.2.1.du > 0)) && (decide (i.2.1.st ≥ i.2.1.du))) (fun hc4 => ?_) (fun hc4 => ?_)))
 ·
  refine E.sr (E.vl (.agg #[E.i 8, E.u 0]) (fun w h => E.run_build #[E.i 8, E.u 0] Nz.k w) (E.st 0 [E.i 8, E.u 0] rfl rfl (E.To.code (E.C.ret (E.P.rt (E.P.rb (E.P.rt (E.P.rt (E.P.rb (E.b0 Tryz.f31 [.agg #[E.i 8, E.u 0]] ?_))))))))))
  intro w h
  have e := hk1.2.2.2.2
  rw [K.run_t hk1.1 hc4] at e
  rw [← e]
  exact ⟨(), trivial, rfl, A.dq [1, 2] [0] h⟩
 refine E.C.skip (E.To.code (E.C.seq (E.sr (E.op (E.i ((i.1 : Nat) : Int)) (E.op (E.i most) (E.op (.bool (decide (((i.1 : Nat) : Int) ≥ most))) (E.To.code (E.cd (decide (((i.1 : Nat) : Int) ≥ most)) (fun hc5 => ?_) (fun hc5 => ?_)))))))))
 ·
  refine E.sr (E.vl (.agg #[E.i 1, E.u 0]) (fun w h => E.run_build #[E.i 1, E.u 0] Nz.k w) (E.st 0 [E.i 1, E.u 0] rfl rfl (E.To.code (E.C.ret (E.P.rt (E.P.rb (E.P.rt (E.P.rt (E.P.rb (E.b0 Tryz.f31 [.agg #[E.i 1, E.u 0]] ?_))))))))))
  intro w h
  have e := hk1.2.2.2.2
  rw [K.run_b hk1.1 hc4 hc5] at e
  rw [← e]
  exact ⟨(), trivial, rfl, A.dq [1, 2] [0] h⟩
 refine E.C.skip (E.To.code (E.C.seq (E.C.held (A.Y [A.blk g1 ([E.i 0, E.u 0]), A.blk r (Q.S.cells i.2.1 ++ [E.pt m])]) Nz.k (E.H.gen (fun H up dn => ?_)))))
 have nd2 : ∀ (α : Nat), H 0 (E.bits 11 2047) [(0, E.pt r), (1, E.i most), (4, E.pt g1), (5, E.i ((i.1 : Nat) : Int)), (6, E.pt α), (9, E.pt r), (10, E.pt r), (11, E.pt r), (12, E.pj r 23), (13, E.i i.2.1.du), (14, .bool (decide (i.2.1.du > 0))), (15, .bool (decide (i.2.1.du > 0))), (27, .bool ((decide (i.2.1.du > 0)) && (decide (i.2.1.st ≥ i.2.1.du)))), (29, E.i ((i.1 : Nat) : Int)), (30, E.i most), (31, .bool (decide (((i.1 : Nat) : Int) ≥ most))), (33, E.pt r), (34, E.pt r), (35, E.pt r), (36, Q.S.val i.2.1), (37, E.pt r), (38, E.pt r), (39, E.pj r 24), (40, E.pt m), (41, Q.out ((K.step i.2.1 i.2.2).1) ((K.step i.2.1 i.2.2).2.1) ((K.step i.2.1 i.2.2).2.2.1))] (A.X w oo aa [R.It m ((K.step i.2.1 i.2.2).2.2.2)]) [(α, (Q.S.cells ((K.step i.2.1 i.2.2).1) ++ [E.i ((K.step i.2.1 i.2.2).2.1), E.u ((K.step i.2.1 i.2.2).2.2.1)])), (g1, [E.i 0, E.u 0]), (r, (Q.S.cells i.2.1 ++ [E.pt m]))] := by
  intro α
  refine up _ _ _ _ _ (E.H.done Nz.k (E.To.code (E.C.seq (E.sr (E.op (E.pj α 24) (E.op (E.pj α 24) (E.li (E.i ((K.step i.2.1 i.2.2).2.1)) 0 rfl rfl (E.op (.bool (((K.step i.2.1 i.2.2).2.1) != 0)) (E.To.code (E.cd (((K.step i.2.1 i.2.2).2.1) != 0) (fun hc6 => ?_) (fun hc6 => ?_)))))))))))
  ·
   refine E.sr (E.op (E.pj α 24) (E.li (.agg #[E.i ((K.step i.2.1 i.2.2).2.1), E.u ((K.step i.2.1 i.2.2).2.2.1)]) 0 rfl rfl (E.st 1 [E.i ((K.step i.2.1 i.2.2).2.1), E.u ((K.step i.2.1 i.2.2).2.2.1)] rfl rfl (E.To.code (E.C.ret (E.P.rt (E.P.rb (E.P.rt (E.P.rt (E.P.rb (E.b1 Tryz.f31 [.agg #[E.i ((K.step i.2.1 i.2.2).2.1), E.u ((K.step i.2.1 i.2.2).2.2.1)]] ?_)))))))))))
   intro w h
   have e := hk1.2.2.2.2
   rw [K.run_s hk1.1 hc4 hc5 hc6] at e
   rw [← e]
   exact ⟨(), trivial, rfl, A.dq [2, 3] [0, 1] h⟩
  refine E.C.skip (E.To.code (E.C.region (E.op (E.pt r) (E.op (E.pt α) (E.li (Q.S.val ((K.step i.2.1 i.2.2).1)) 0 rfl rfl (E.op (E.pt r) (E.op (E.pt r) (E.st 2 (Q.S.cells ((K.step i.2.1 i.2.2).1) ++ [E.pt m]) rfl rfl (E.P.nb (E.To.code (E.C.region (E.op (E.i ((i.1 : Nat) : Int)) (E.vl (E.i ((i.1 + 1 : Nat) : Int)) (fun w h => E.run_as (a := E.i (IntKind.wrap .i64 (((i.1 : Nat) : Int) + 1))) Nz.k (congrArg (Value.int .i64) (K.run_lt hm.2 hc5).2)) ?_)))))))))))))
  exact E.op (E.i ((i.1 + 1 : Nat) : Int)) (E.To.round (i.1 + 1, (K.step i.2.1 i.2.2).1, (K.step i.2.1 i.2.2).2.2.2) (by show (most.toNat + 1) - (i.1 + 1) < (most.toNat + 1) - i.1; have := hk1.1; omega) (⟨(K.run_lt hm.2 hc5).1, (K.step_wf hk1.2.1 hk1.2.2.2.1).1, K.step_fb hk1.2.2.1, (K.step_wf hk1.2.1 hk1.2.2.2.1).2, (K.run_n hk1.1 hc4 hc5 hc6).symm.trans hk1.2.2.2.2⟩) ⟨Nz.k, Nz.k⟩ Nz.sub (fun _ h => h))
 have nd1 : ∀ (α : Nat), H 1 (E.bits 11 1023) [(0, E.pt r), (1, E.i most), (4, E.pt g1), (5, E.i ((i.1 : Nat) : Int)), (6, E.pt α), (9, E.pt r), (10, E.pt r), (11, E.pt r), (12, E.pj r 23), (13, E.i i.2.1.du), (14, .bool (decide (i.2.1.du > 0))), (15, .bool (decide (i.2.1.du > 0))), (27, .bool ((decide (i.2.1.du > 0)) && (decide (i.2.1.st ≥ i.2.1.du)))), (29, E.i ((i.1 : Nat) : Int)), (30, E.i most), (31, .bool (decide (((i.1 : Nat) : Int) ≥ most))), (33, E.pt r), (34, E.pt r), (35, E.pt r), (36, Q.S.val i.2.1), (37, E.pt r), (38, E.pt r), (39, E.pj r 24), (40, E.pt m), (41, Q.out ((K.step i.2.1 i.2.2).1) ((K.step i.2.1 i.2.2).2.1) ((K.step i.2.1 i.2.2).2.2.1))] (A.X w oo aa [R.It m ((K.step i.2.1 i.2.2).2.2.2)]) [(α, Zexfa), (g1, [E.i 0, E.u 0]), (r, (Q.S.cells i.2.1 ++ [E.pt m]))] := by
  intro α
  exact up _ _ _ _ _ (E.al 10 rfl (E.st 0 (Q.S.cells ((K.step i.2.1 i.2.2).1) ++ [E.i ((K.step i.2.1 i.2.2).2.1), E.u ((K.step i.2.1 i.2.2).2.2.1)]) rfl rfl (E.H.back (fun w h => A.hq [1, 2] [0, 3] h) (E.ho (dn _ _ _ _ _ (nd2 α))))))
 have nd0 : H 2 (E.bits 11 511) [(0, E.pt r), (1, E.i most), (4, E.pt g1), (5, E.i ((i.1 : Nat) : Int)), (9, E.pt r), (10, E.pt r), (11, E.pt r), (12, E.pj r 23), (13, E.i i.2.1.du), (14, .bool (decide (i.2.1.du > 0))), (15, .bool (decide (i.2.1.du > 0))), (27, .bool ((decide (i.2.1.du > 0)) && (decide (i.2.1.st ≥ i.2.1.du)))), (29, E.i ((i.1 : Nat) : Int)), (30, E.i most), (31, .bool (decide (((i.1 : Nat) : Int) ≥ most))), (33, E.pt r), (34, E.pt r), (35, E.pt r), (36, Q.S.val i.2.1), (37, E.pt r), (38, E.pt r), (39, E.pj r 24), (40, E.pt m), (41, Q.out ((K.step i.2.1 i.2.2).1) ((K.step i.2.1 i.2.2).2.1) ((K.step i.2.1 i.2.2).2.2.1))] (A.X w oo aa [R.It m ((K.step i.2.1 i.2.2).2.2.2)]) [(g1, [E.i 0, E.u 0]), (r, (Q.S.cells i.2.1 ++ [E.pt m]))] := by
  exact up _ _ _ _ _ (E.al 9 rfl (E.nw Zexfa 51 (fun α => E.H.back (fun w h => A.hq [1, 2] [0, 3] h) (E.ho (dn _ _ _ _ _ (nd1 α))))))
 have nd3 : ∀ (α : Nat), H 2 (E.bits 11 767) [(0, E.pt r), (1, E.i most), (4, E.pt g1), (5, E.i ((i.1 : Nat) : Int)), (6, E.pt α), (9, E.pt r), (10, E.pt r), (11, E.pt r), (12, E.pj r 23), (13, E.i i.2.1.du), (14, .bool (decide (i.2.1.du > 0))), (15, .bool (decide (i.2.1.du > 0))), (27, .bool ((decide (i.2.1.du > 0)) && (decide (i.2.1.st ≥ i.2.1.du)))), (29, E.i ((i.1 : Nat) : Int)), (30, E.i most), (31, .bool (decide (((i.1 : Nat) : Int) ≥ most))), (33, E.pt r), (34, E.pt r), (35, E.pt r), (36, Q.S.val i.2.1), (37, E.pt r), (38, E.pt r), (39, E.pj r 24), (40, E.pt m)] (A.X w oo aa [R.It m i.2.2]) [(α, Zexfa), (g1, [E.i 0, E.u 0]), (r, (Q.S.cells i.2.1 ++ [E.pt m]))] := by
  intro α
  exact up _ _ _ _ _ (E.al 8 rfl (A.gc (fun _ => Q.out ((K.step i.2.1 i.2.2).1) ((K.step i.2.1 i.2.2).2.1) ((K.step i.2.1 i.2.2).2.2.1)) (Step5_p (m := m) i.2.1 i.2.2 hk1.2.1 hk1.2.2.1 hk1.2.2.2.1) [3] [0, 1, 2] [1, 2, 3, 0] (fun _ => [(α, Zexfa), (g1, [E.i 0, E.u 0]), (r, (Q.S.cells i.2.1 ++ [E.pt m]))]) (fun _ => [R.It m ((K.step i.2.1 i.2.2).2.2.2)]) (fun _ β => E.H.back (fun w h => A.hq [1, 2] [0, 3] h) (E.ho (dn _ _ _ _ _ (nd1 α))))))
 refine up _ _ _ _ _ (E.tk 0 (E.pt r) rfl (fun w h => A.hpY0 h Nz.k) (E.tk 1 (E.pt r) rfl (fun w h => A.hpY0 h Nz.k) (E.tk 2 (E.pt r) rfl (fun w h => A.hpY0 h Nz.k) (E.tj 3 (Q.S.val i.2.1) rfl (fun w h => A.hpY0 h Nz.k) (fun w h => A.Y.bld h (k := 1) (j := 0) rfl Nz.k Nz.k) (E.tk 4 (E.pt r) rfl (fun w h => A.hpY0 h Nz.k) (E.tk 5 (E.pt r) rfl (fun w h => A.hpY0 h Nz.k) (E.tk 6 (E.pj r 24) rfl (fun w h => A.hpY0 h Nz.k) (E.tj 7 (E.pt m) rfl (fun w h => A.hpY0 h Nz.k) (fun w h => A.Y.bld h (k := 1) (j := 24) rfl Nz.k Nz.k) (E.al2 8 9 rfl rfl ?_ ?_)))))))))
 ·
  exact A.gc (fun _ => Q.out ((K.step i.2.1 i.2.2).1) ((K.step i.2.1 i.2.2).2.1) ((K.step i.2.1 i.2.2).2.2.1)) (Step5_p (m := m) i.2.1 i.2.2 hk1.2.1 hk1.2.2.1 hk1.2.2.2.1) [2] [0, 1] [1, 2, 0] (fun _ => [(g1, [E.i 0, E.u 0]), (r, (Q.S.cells i.2.1 ++ [E.pt m]))]) (fun _ => [R.It m ((K.step i.2.1 i.2.2).2.2.2)]) (fun _ β => E.hb (dn _ _ _ _ _ (nd0)))
 exact E.nw Zexfa 51 (fun α => E.H.back (fun w h => A.hq [1, 2] [0, 3] h) (E.ho (dn _ _ _ _ _ (nd3 α))))
theorem Same5 {c m r q : Nat} {s : Q.S} {V : M.V} (hE : K.Ext V) (hV : R.Wf V) : A.Tr Tryz.prog 32 #[.pointer (some ⟨c, 0, none⟩), .pointer (some ⟨r, 0, none⟩)] [A.blk c (.pointer (some ⟨m, 0, none⟩) :: Q.S.cells s), A.blk r (Q.S.cells s ++ [.pointer (some ⟨q, 0, none⟩)]), M.It m V [], R.It q V] (I := Unit) (fun _ => True) (fun _ => .bool true) (fun _ => [A.blk c (.pointer (some ⟨m, 0, none⟩) :: Q.S.cells s), A.blk r (Q.S.cells s ++ [.pointer (some ⟨q, 0, none⟩)]), M.It m V [], R.It q V]) := by
 intro w oo aa hh
 refine E.enter (n := 27) (S := oo) Tryz.func32 rfl rfl Nz.k (A.start (L := [(c, (E.pt m :: Q.S.cells s)), (r, (Q.S.cells s ++ [E.pt q]))]) hh) (E.sr (E.op (.bool false) (E.tr (E.op (E.pt c) (A.gc (q := fun _ => [A.blk c (E.pt m :: Q.S.cells s), M.It m V ([])]) (fun _ => .string (strOfNums (R.flat V.d V.n))) (A.trAs (Content (c := c) (m := m) (s := s) (V := V)) (by rw [K.cs_flat hE.n hV] <;> rfl) rfl) [0, 2] [1, 3] [0, 2, 1, 3] (fun _ => [(c, (E.pt m :: Q.S.cells s)), (r, (Q.S.cells s ++ [E.pt q]))]) (fun _ => [M.It m V ([]), R.It q V]) (fun _ hd1 => E.op (.string (strOfNums (R.flat V.d V.n))) (E.To.code (E.C.seq (A.C.openR (r := q) (V := V) [M.It m V ([])] Nz.k (A.pn [1, 0]) (fun sl2 => [A.blk q [.slice sl2.a0 (256 * V.n) sl2.c0, .slice sl2.a1 (256 * R.len V) sl2.c1, .slice sl2.a2 (256 * V.n) sl2.c2, .slice sl2.a3 (256 * R.len V) sl2.c3, .slice sl2.a4 V.n sl2.c4, .bool V.coh], A.vec .u8 sl2.a0 sl2.c0 (R.flat V.d V.n), A.vec .u8 sl2.a1 sl2.c1 (R.flat V.i (R.len V)), A.vec .u8 sl2.a2 sl2.c2 (R.flat V.cd V.n), A.vec .u8 sl2.a3 sl2.c3 (R.flat V.ci (R.len V)), A.vec .i64 sl2.a4 sl2.c4 (R.rts V.r V.n), M.It m V ([])]) (fun sl2 => A.pn [0, 1, 2, 3, 4, 5, 6]) (fun sl2 _ => E.C.held (A.Y [A.blk r (Q.S.cells s ++ [E.pt q]), A.blk q [.slice sl2.a0 (256 * V.n) sl2.c0, .slice sl2.a1 (256 * R.len V) sl2.c1, .slice sl2.a2 (256 * V.n) sl2.c2, .slice sl2.a3 (256 * R.len V) sl2.c3, .slice sl2.a4 V.n sl2.c4, .bool V.coh], A.vec .u8 sl2.a0 sl2.c0 (R.flat V.d V.n)]) Nz.k (E.tk 0 (E.pt c) rfl (fun w h => A.hq [1, 2, 3] [0, 4, 5, 6, 7, 8] h) ?_)))))))))))
 refine E.tk 2 (E.pt r) rfl (fun w h => A.hq [1, 2, 3] [0, 4, 5, 6, 7, 8] h) (E.tk 3 (E.pt r) rfl (fun w h => A.hq [1, 2, 3] [0, 4, 5, 6, 7, 8] h) (E.tk 4 (E.pt r) rfl (fun w h => A.hq [1, 2, 3] [0, 4, 5, 6, 7, 8] h) (E.tj 5 (Q.S.val s) rfl (fun w h => A.hq [1, 2, 3] [0, 4, 5, 6, 7, 8] h) (fun w h => A.Y.bld h (k := 0) (j := 0) rfl Nz.k Nz.k) (E.al 1 rfl (E.ca (Q.S.val s) (fun w h => A.cq [0] [1, 2, 3, 4, 5, 6, 7, 8] (CState (c := c) (m := m) s) h) (E.H.back (fun w h => A.hq [1, 2, 3] [0, 4, 5, 6, 7, 8] h) (E.al 6 rfl (E.vl (.bool true) (fun w h => E.run_as (a := .bool true) (E.api_State_self s Nz.k Nz.k) (rfl)) (E.H.back (fun w h => A.hq [1, 2, 3] [0, 4, 5, 6, 7, 8] h) (E.tk 7 (.bool true) rfl (fun w h => A.hq [1, 2, 3] [0, 4, 5, 6, 7, 8] h) (E.tk 8 (.string (strOfNums (R.flat V.d V.n))) rfl (fun w h => A.hq [1, 2, 3] [0, 4, 5, 6, 7, 8] h) ?_)))))))))))
 refine E.tk 9 (E.pt r) rfl (fun w h => A.hq [1, 2, 3] [0, 4, 5, 6, 7, 8] h) (E.tk 10 (E.pt r) rfl (fun w h => A.hq [1, 2, 3] [0, 4, 5, 6, 7, 8] h) (E.tk 11 (E.pj r 24) rfl (fun w h => A.hq [1, 2, 3] [0, 4, 5, 6, 7, 8] h) (E.tj 12 (E.pt q) rfl (fun w h => A.hq [1, 2, 3] [0, 4, 5, 6, 7, 8] h) (fun w h => A.Y.bld h (k := 0) (j := 24) rfl Nz.k Nz.k) (E.tk 13 (E.pt q) rfl (fun w h => A.hq [1, 2, 3] [0, 4, 5, 6, 7, 8] h) (E.tk 14 (E.pt q) rfl (fun w h => A.hq [1, 2, 3] [0, 4, 5, 6, 7, 8] h) (E.tj 15 (.slice sl2.a0 (256 * V.n) sl2.c0) rfl (fun w h => A.hq [1, 2, 3] [0, 4, 5, 6, 7, 8] h) (fun w h => A.Y.bld h (k := 1) (j := 0) rfl Nz.k Nz.k) (E.tj 16 (.string (strOfNums (R.flat V.d V.n))) rfl (fun w h => A.hq [1, 2, 3] [0, 4, 5, 6, 7, 8] h) (fun w h => A.Y.strN (e := 5) (n := (256 * V.n)) (c2 := sl2.c0) h (k := 2) rfl Nz.k Nz.k Nz.k Nz.k (R.flat_len _ _) (by rw [hE.n]; decide)) (E.tj 17 (.bool true) rfl (fun w h => A.hq [1, 2, 3] [0, 4, 5, 6, 7, 8] h) (fun w h => E.run_as (a := .bool ((strOfNums (R.flat V.d V.n)).toList == (strOfNums (R.flat V.d V.n)).toList)) Nz.k (congrArg Value.bool (beq_self_eq_true _))) (E.tk 18 (.bool true) rfl (fun w h => A.hq [1, 2, 3] [0, 4, 5, 6, 7, 8] h) (E.tk 19 (.bool true) rfl (fun w h => A.hq [1, 2, 3] [0, 4, 5, 6, 7, 8] h) (E.H.done Nz.k ?_)))))))))))
 exact E.To.code (E.wk [(4, .bool true)] [(c, (E.pt m :: Q.S.cells s)), (r, (Q.S.cells s ++ [E.pt q]))] Nz.sub (A.C.closeR (r := q) (V := V) (s := sl2) (its2 := [R.It q V, M.It m V ([])]) [M.It m V ([])] hV (A.pn [0, 1, 2, 3, 4, 5, 6]) (A.pn [0, 1]) (E.C.ret (E.bd Tryz.f32 [.bool true] (fun w h => ⟨(), trivial, rfl, A.dq [0, 1, 3, 2] [] h⟩)))))
theorem K.and8 {i n : Nat} (h : ((decide (((i : Nat) : Int) < ((n : Nat) : Int))) && (decide (((i : Nat) : Int) < 8))) = true) : i < n ∧ i < 8 := by
  rw [Bool.and_eq_true, decide_eq_true_eq, decide_eq_true_eq] at h; omega
theorem K.inc8 {i n : Nat} (h : ((decide (((i : Nat) : Int) < ((n : Nat) : Int))) && (decide (((i : Nat) : Int) < 8))) = true) : IntKind.wrap .i64 (((i : Nat) : Int) + 1) = ((i + 1 : Nat) : Int) := by
  have := K.and8 h
  rw [IntWalk.i64_in _ (by omega)]; omega
theorem K.min300 {m : Int} (h : -9223372036854775808 ≤ m ∧ m < 9223372036854775808) : -9223372036854775808 ≤ (if 300 < m then 300 else m) ∧ (if 300 < m then 300 else m) < 9223372036854775808 := by split <;> omega
theorem K.trap_nself (a b : Int) : (!((a == a) && (b == b))) = false := by rw [beq_self_eq_true, beq_self_eq_true]; rfl
set_option maxHeartbeats 4000000 in
theorem KcpuRuns_rd {ao : Option Addr} {ad : Addr} {n cap : Nat} {q : Nat → Nat → Int} (hao : 0 < n → ao = some ad) (hq : ∀ i j, -9223372036854775808 ≤ q i j ∧ q i j < 9223372036854775808) (s : Q.S) (x0 x1 x2 x3 z a : Int) (code : ByteArray) (ha : 0 ≤ a ∧ a < 4294967296) (hx0 : 0 ≤ x0 ∧ x0 < 256) (hx1 : 0 ≤ x1 ∧ x1 < 256) (hx2 : 0 ≤ x2 ∧ x2 < 256) (hx3 : 0 ≤ x3 ∧ x3 < 256) (S : Q.S) (V : M.V) (hS : K.norm s = S) (hS5 : K5.norm s = S) (hV : K.bV x0 x1 x2 x3 z a code = V) (hwS : Q.wf S) (hfS : K.fb S) (hwV : R.Wf V) (hEV : K.Ext V) : A.Rd Tryz.prog 9 #[.agg (Q.S.cells s ++ [Value.int .u8 x0, Value.int .u8 x1, Value.int .u8 x2, Value.int .u8 x3, Value.int .u32 z, Value.int .u32 a, Value.string code]).toArray, .slice ao n cap] [A.facts (M.rowF 1 ad n q)] (.bool true) := by
 intro w oo aa hh
 refine E.enter (n := 50) (S := oo) Tryz.func9 rfl rfl Nz.k (A.start (L := []) hh) (E.sr (E.nw (Q.S.cells s ++ [.int .u8 x0, .int .u8 x1, .int .u8 x2, .int .u8 x3, E.u z, E.u a, .string code]) 29 (fun g1 => E.op (.bool false) (E.tr (E.ca (.bool true) (fun w h => A.cq [] [0, 1] (San5) h) (E.op (.bool true) (E.tr (E.li (.agg (Q.S.cells s ++ [Value.int .u8 x0, Value.int .u8 x1, Value.int .u8 x2, Value.int .u8 x3, Value.int .u32 z, Value.int .u32 a, Value.string code]).toArray) 0 rfl rfl (A.gc (I := (Nat × Nat) × (Nat × Nat)) (q := fun i2 => [A.blk i2.1.1 (E.pt i2.1.2 :: Q.S.cells S), M.It i2.1.2 V ([]), A.blk i2.2.1 (Q.S.cells S ++ [E.pt i2.2.2]), R.It i2.2.2 V]) (fun i2 => .tuple #[E.pt i2.1.1, E.pt i2.2.1]) (Both2 s x0 x1 x2 x3 z a code (by assumption) hx0 hx1 hx2 hx3 hS hS5 hV) [] [0, 1] [0, 2, 4, 1, 3, 5] (fun i2 => [(i2.1.1, (E.pt i2.1.2 :: Q.S.cells S)), (i2.2.1, (Q.S.cells S ++ [E.pt i2.2.2])), (g1, (Q.S.cells s ++ [.int .u8 x0, .int .u8 x1, .int .u8 x2, .int .u8 x3, E.u z, E.u a, .string code]))]) (fun i2 => [M.It i2.1.2 V ([]), R.It i2.2.2 V, A.facts (M.rowF 1 ad n q)]) (fun i2 hd3 => E.op (.tuple #[E.pt i2.1.1, E.pt i2.2.1]) (E.op (E.pt i2.1.1) ?_)))))))))))
 refine E.op (E.pt i2.2.1) (E.op (E.pt i2.1.1) (E.op (E.pt i2.2.1) (E.To.code (E.wk [(1, .slice ao n cap), (4, .bool false), (5, .bool true), (6, E.pt i2.1.1), (7, E.pt i2.2.1)] [(i2.1.1, (E.pt i2.1.2 :: Q.S.cells S)), (i2.2.1, (Q.S.cells S ++ [E.pt i2.2.2]))] Nz.sub (E.C.seq (E.sr (E.op (E.i 0) (E.To.code (E.C.block (E.C.loop (I := Nat × Q.S × M.V) (fun i => 8 - i.1) (fun i => i.1 ≤ n ∧ i.1 ≤ 8 ∧ Q.wf i.2.1 ∧ K.fb i.2.1 ∧ R.Wf i.2.2 ∧ K.Ext i.2.2) (fun i => [(1, .slice ao n cap), (4, .bool false), (5, .bool true), (6, E.pt i2.1.1), (7, E.pt i2.2.1), (8, E.i ((i.1 : Nat) : Int))]) (fun i => A.X w oo aa [M.It i2.1.2 i.2.2 ([]), R.It i2.2.2 i.2.2, A.facts (M.rowF 1 ad n q)]) (fun i => [(i2.1.1, (E.pt i2.1.2 :: Q.S.cells i.2.1)), (i2.2.1, (Q.S.cells i.2.1 ++ [E.pt i2.2.2]))]) (0, S, V) (⟨Nat.zero_le _, Nat.zero_le _, hwS, hfS, hwV, hEV⟩) ⟨Nz.k, Nz.k⟩ Nz.sub (fun _ h => h) (fun i hk1 => E.C.seq ?_)))))))))))
 refine E.sr (E.op (E.i ((i.1 : Nat) : Int)) (E.op (.slice ao n cap) (E.op (E.i ((n : Nat) : Int)) (E.op (.bool (decide (((i.1 : Nat) : Int) < ((n : Nat) : Int)))) (E.op (.bool (decide (((i.1 : Nat) : Int) < ((n : Nat) : Int)))) (E.G.cut 3 [(1, .slice ao n cap), (4, .bool false), (5, .bool true), (6, E.pt i2.1.1), (7, E.pt i2.2.1), (8, E.i ((i.1 : Nat) : Int)), (16, E.i ((i.1 : Nat) : Int)), (17, .slice ao n cap), (18, E.i ((n : Nat) : Int)), (19, .bool (decide (((i.1 : Nat) : Int) < ((n : Nat) : Int)))), (20, .bool (decide (((i.1 : Nat) : Int) < ((n : Nat) : Int)))), (23, .bool ((decide (((i.1 : Nat) : Int) < ((n : Nat) : Int))) && (decide (((i.1 : Nat) : Int) < 8))))] (A.X w oo aa [M.It i2.1.2 i.2.2 ([]), R.It i2.2.2 i.2.2, A.facts (M.rowF 1 ad n q)]) [(i2.1.1, (E.pt i2.1.2 :: Q.S.cells i.2.1)), (i2.2.1, (Q.S.cells i.2.1 ++ [E.pt i2.2.2]))] ?_ ?_))))))
 ·
  generalize hc4 : (decide (((i.1 : Nat) : Int) < ((n : Nat) : Int))) = b5
  cases b5
  ·
   exact E.sk (E.sk (E.op (.bool false) E.ep))
  exact E.op (E.i ((i.1 : Nat) : Int)) (E.op (.bool (decide (((i.1 : Nat) : Int) < 8))) (E.op (.bool (decide (((i.1 : Nat) : Int) < 8))) E.ep))
 refine E.To.code (E.cd ((decide (((i.1 : Nat) : Int) < ((n : Nat) : Int))) && (decide (((i.1 : Nat) : Int) < 8))) (fun hc6 => ?_) (fun hc6 => ?_))
 ·
  refine E.C.skip (E.To.code (E.C.seq (E.C.block (E.C.seq ?_))))
  obtain ⟨mn, hmn, hmb⟩ : ∃ mn, (if 300 < q i.1 0 then 300 else q i.1 0) = mn ∧ -9223372036854775808 ≤ mn ∧ mn < 9223372036854775808 := ⟨_, rfl, K.min300 (hq i.1 0)⟩
  obtain ⟨rn, hrn⟩ : ∃ rn, K.runs mn i.2.1 i.2.2 = rn := ⟨_, rfl⟩
  have hw := K.runs_wf (most := mn) hk1.2.2.1 hk1.2.2.2.2.1
  have hx : K.fb (K.runs mn i.2.1 i.2.2).1 ∧ K.Ext (K.runs mn i.2.1 i.2.2).2.2.2 := K.run_fb _ _ hk1.2.2.2.1 hk1.2.2.2.2.2
  rw [hrn] at hw hx
  refine E.C.region (E.op (.slice ao n cap) (E.op (E.i ((i.1 : Nat) : Int)) (E.vl (.pointer (some (ad.add (i.1 * 1)))) (fun w h => A.idxR (e := 3) ad ao n cap 1 .i64 i.1 hao Nz.k Nz.k Nz.k Nz.k (K.and8 hc6).1 w) (E.vl (E.i (q i.1 0)) (fun w h => A.loadRI (K := 1) (ad := ad) (n := n) (i := i.1) (j := 0) (q := q) (A.X.y h.x) (k := 2) rfl Nz.k Nz.k (K.and8 hc6).1 (by decide)) (E.vl (E.i mn) (fun w h => E.run_as (a := E.i (if 300 < (q i.1 0) then 300 else (q i.1 0))) Nz.k (congrArg (Value.int .i64) hmn)) (E.op (E.i mn) (E.tr (E.op (E.pt i2.1.1) (E.op (E.i mn) (A.gc (q := fun _ => [A.blk i2.1.1 (E.pt i2.1.2 :: Q.S.cells rn.1), M.It i2.1.2 rn.2.2.2 ([])]) (fun _ => .agg #[E.i rn.2.1, E.u rn.2.2.1]) (A.trAs (CRun (c := i2.1.1) (m := i2.1.2) mn i.2.1 i.2.2 hmb hk1.2.2.1 hk1.2.2.2.2.1) (by rw [hrn] <;> rfl) (by rw [hrn] <;> rfl)) [0, 2] [1, 3, 4] [0, 2, 1, 3, 4] (fun _ => [(i2.1.1, (E.pt i2.1.2 :: Q.S.cells rn.1)), (i2.2.1, (Q.S.cells i.2.1 ++ [E.pt i2.2.2]))]) (fun _ => [M.It i2.1.2 rn.2.2.2 ([]), R.It i2.2.2 i.2.2, A.facts (M.rowF 1 ad n q)]) (fun _ hd7 => E.op (E.pt i2.2.1) ?_)))))))))))
  refine E.op (E.i mn) (A.gc (q := fun _ => [A.blk i2.2.1 (Q.S.cells rn.1 ++ [E.pt i2.2.2]), R.It i2.2.2 rn.2.2.2]) (fun _ => .agg #[E.i rn.2.1, E.u rn.2.2.1]) (A.trAs (CRun5 (r := i2.2.1) (m := i2.2.2) mn i.2.1 i.2.2 hmb hk1.2.2.1 hk1.2.2.2.1 hk1.2.2.2.2.1) (by rw [hrn] <;> rfl) (by rw [hrn] <;> rfl)) [1, 3] [0, 2, 4] [0, 2, 3, 1, 4] (fun _ => [(i2.2.1, (Q.S.cells rn.1 ++ [E.pt i2.2.2])), (i2.1.1, (E.pt i2.1.2 :: Q.S.cells rn.1))]) (fun _ => [M.It i2.1.2 rn.2.2.2 ([]), R.It i2.2.2 rn.2.2.2, A.facts (M.rowF 1 ad n q)]) (fun _ hd8 => E.vl (.bool false) (fun w h => E.run_as (a := .bool (!((rn.2.1 == rn.2.1) && (rn.2.2.1 == rn.2.2.1)))) (E.api_Trap_neq Nz.k Nz.k) (congrArg Value.bool (K.trap_nself _ _))) (E.op (.bool false) (E.op (E.pt i2.1.1) (E.op (E.pt i2.2.1) (A.gc (fun _ => .bool true) (Same5 (c := i2.1.1) (m := i2.1.2) (r := i2.2.1) (q := i2.2.2) (s := rn.1) (V := rn.2.2.2) hx.2 hw.2) [1, 0, 2, 3] [4] [0, 1, 2, 3, 4] (fun _ => [(i2.1.1, (E.pt i2.1.2 :: Q.S.cells rn.1)), (i2.2.1, (Q.S.cells rn.1 ++ [E.pt i2.2.2]))]) (fun _ => [M.It i2.1.2 rn.2.2.2 ([]), R.It i2.2.2 rn.2.2.2, A.facts (M.rowF 1 ad n q)]) (fun _ hd9 => E.op (.bool false) (E.op (.bool false) (E.To.code (E.C.condF Nz.k Nz.k (E.C.skip (E.P.nb (E.To.code ?_)))))))))))))
  exact E.C.region (E.op (E.i ((i.1 : Nat) : Int)) (E.vl (E.i ((i.1 + 1 : Nat) : Int)) (fun w h => E.run_as (a := E.i (IntKind.wrap .i64 (((i.1 : Nat) : Int) + 1))) Nz.k (congrArg (Value.int .i64) (K.inc8 hc6))) (E.op (E.i ((i.1 + 1 : Nat) : Int)) (E.To.round (i.1 + 1, rn.1, rn.2.2.2) (by have := K.and8 hc6; show 8 - (i.1 + 1) < 8 - i.1; omega) (⟨by have := (K.and8 hc6).1; show i.1 + 1 ≤ n; omega, by have := (K.and8 hc6).2; show i.1 + 1 ≤ 8; omega, hw.1, hx.1, hw.2, hx.2⟩) ⟨Nz.k, Nz.k⟩ Nz.sub (fun _ h => h)))))
 refine E.C.exit (E.P.et (E.P.et (E.P.eh (E.To.code (E.wk [(4, .bool false), (5, .bool true), (6, E.pt i2.1.1), (7, E.pt i2.2.1)] [(i2.1.1, (E.pt i2.1.2 :: Q.S.cells i.2.1)), (i2.2.1, (Q.S.cells i.2.1 ++ [E.pt i2.2.2]))] Nz.sub (E.sr (E.op (.bool true) (E.op (.bool true) (E.op (E.pt i2.1.1) (E.op (E.pt i2.2.1) (A.gc (fun _ => .bool true) (Same5 (c := i2.1.1) (m := i2.1.2) (r := i2.2.1) (q := i2.2.2) (s := i.2.1) (V := i.2.2) hk1.2.2.2.2.2 hk1.2.2.2.2.1) [0, 1, 2, 3] [4] [0, 1, 2, 3, 4] (fun _ => [(i2.1.1, (E.pt i2.1.2 :: Q.S.cells i.2.1)), (i2.2.1, (Q.S.cells i.2.1 ++ [E.pt i2.2.2]))]) (fun _ => [M.It i2.1.2 i.2.2 ([]), R.It i2.2.2 i.2.2, A.facts (M.rowF 1 ad n q)]) (fun _ hd10 => E.op (.bool true) (E.op (.bool true) (E.To.code (E.wk [(4, .bool true)] [] Nz.sub ?_)))))))))))))))
 exact E.C.ret (E.bd Tryz.f9 [.bool true] (fun w h => ⟨rfl, h.ch.bel (fun x hx => (A.none1 hh x hx).elim)⟩))
theorem K5.norm_eq {s : Q.S} (h : K.fb s) : K5.norm s = K.norm s := by
  have e : Int.tmod s.f 16 = bits .and .u32 s.f 15 := by
    have h0 := h.1; have h1 := h.2
    rw [Int.tmod_eq_emod_of_nonneg h.1]
    exact (W.and15 s.f h.1 h.2).symm
  unfold K5.norm K.norm
  rw [e]
theorem K.norm_fb {s : Q.S} (h : K.fb s) : K.fb (K.norm s) := by
  have h0 := h.1; have h1 := h.2
  show 0 ≤ bits .and .u32 s.f 15 ∧ bits .and .u32 s.f 15 < 4294967296
  rw [show bits .and .u32 s.f 15 = s.f % 16 from W.and15 s.f h.1 h.2]
  omega
theorem KcpuRuns_law {ao : Option Addr} {ad : Addr} {n cap : Nat} {q : Nat → Nat → Int} (hao : 0 < n → ao = some ad) (hq : ∀ i j, -9223372036854775808 ≤ q i j ∧ q i j < 9223372036854775808) (s : Q.S) (x0 x1 x2 x3 z a : Int) (code : ByteArray) (hs0 : K.sok s) (hx0 : 0 ≤ x0 ∧ x0 < 256) (hx1 : 0 ≤ x1 ∧ x1 < 256) (hx2 : 0 ≤ x2 ∧ x2 < 256) (hx3 : 0 ≤ x3 ∧ x3 < 256) (hz : 0 ≤ z ∧ z < 4294967296) (ha : 0 ≤ a ∧ a < 4294967296) (hcode : code.size ≤ maxLen) {w : World} (f0 : ∀ a u, M.rowF 1 ad n q a u → w.cell? a = some u) : Calls Tryz.prog 9 #[.agg (Q.S.cells s ++ [Value.int .u8 x0, Value.int .u8 x1, Value.int .u8 x2, Value.int .u8 x3, Value.int .u32 z, Value.int .u32 a, Value.string code]).toArray, .slice ao n cap] w fun e w' => e = .returned (.bool true) ∧ Bel w w' := by
  have hS := K.norm_wf hs0.wf
  have hf := K.norm_fb hs0.f
  have h5 := K5.norm_eq hs0.f
  have hV := K.bV_wf x0 x1 x2 x3 z a code
  have hE := K.bV_ext x0 x1 x2 x3 z a code
  obtain ⟨V, hVe⟩ : ∃ V, K.bV x0 x1 x2 x3 z a code = V := ⟨_, rfl⟩
  obtain ⟨S, hSe⟩ : ∃ S, K.norm s = S := ⟨_, rfl⟩
  rw [hVe] at hV hE
  rw [hSe] at hS hf h5
  exact KcpuRuns_rd (cap := cap) hao hq s x0 x1 x2 x3 z a code ha hx0 hx1 hx2 hx3 S V hSe h5 hVe hS hf hV hE w _ _ (A.facts_has f0)
end Go.Proofs.YtglidnmmeclneaaGreat
