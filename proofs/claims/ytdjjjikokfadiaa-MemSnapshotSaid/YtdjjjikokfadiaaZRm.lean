/- Walks: the reference memory, Copy, printed by wip/eng. No condition but what is named. -/
import Derived.Test.YtdjjjikokfadiaaProg
import Derived.Test.YtdjjjikokfadiaaZNm
namespace Go.Proofs.Ytdjjjikokfadiaa
set_option linter.unusedVariables false
set_option linter.unusedSimpArgs false
open Go.RowKit
/-- A row of marks. -/
def E.bits (n k : Nat) : Array Bool := ((List.range n).map (Nat.testBit k)).toArray
section
variable {P : Program} {n : Nat} {ops : Array Oper} {Q : Exit → Act → World → Prop} {S : Nat → Prop} {w0 : World} {X : World → Prop} {L : List (Nat × List Value)} {fr : E.Fr} {D : World → Prop} {fuel : Nat} {listed : Array Bool}
/-- Nodes of a region that draws its order. -/
theorem E.H.gen (h : ∀ (H : Nat → Array Bool → E.Fr → (World → Prop) → List (Nat × List Value) → Prop), (∀ f l fr X L, E.H P n ops Q D f l fr S w0 X L → H f l fr X L) → (∀ f l fr X L, H f l fr X L → E.H P n ops Q D f l fr S w0 X L) → H fuel listed fr X L) : E.H P n ops Q D fuel listed fr S w0 X L :=
  h (fun f l fr X L => E.H P n ops Q D f l fr S w0 X L) (fun _ _ _ _ _ h => h) (fun _ _ _ _ _ h => h)
theorem E.H.to (listed' : Array Bool) (fr' : E.Fr) (L' : List (Nat × List Value)) (he : listed = listed') (hs : E.sub fr' fr) (hl : L'.Sublist L) (k : E.H P n ops Q D fuel listed' fr' S w0 X L') : E.H P n ops Q D fuel listed fr S w0 X L :=
  he ▸ E.H.weak fr' L' hs hl k
end
theorem A.hpY0 {w0 w : World} {o0 a0 : Nat → Prop} {its : List A.It} {L : List (Nat × List Value)} (h : E.Hp o0 w0 (A.X w0 o0 a0 its) L w) (hne : A.ne L = true) : A.Y (A.bl L) w :=
  A.hpY (p := A.bl L) (r := its) h hne (List.Perm.refl _)
theorem R.copy_it {P : Program} {f : FuncId} {args : Array Value} {p : List A.It} {r : Nat} {V : M.V} (hp : ∀ s, R.Wf V → A.Tr P f args (R.its r s V) (I := Nat × R.Sl) (fun _ => True) (fun i => .pointer (some ⟨i.1, 0, none⟩)) (fun i => R.its i.1 i.2 V ++ R.its r s V)) : A.Tr P f args [R.It r V] (I := Nat) (fun _ => True) (fun g => .pointer (some ⟨g, 0, none⟩)) (fun g => [R.It r V, R.It g V]) := by
  intro w o a hh
  obtain ⟨o1, a1, ⟨hw, s, hs⟩, e3, e4⟩ := A.Has.one' hh
  have hs' := hs.iff (o' := o) (a' := a) (fun x => (e3 x).symm) (fun x => (e4 x).symm)
  refine (hp s hw w o a hs').mono fun e w' ⟨i, hD, he, o', a', hq, hc, hg⟩ => ?_
  obtain ⟨p1, q1, p2, q2, k1, k2, d1, d2, go, ga⟩ := hq.append
  refine ⟨i.1, trivial, he, o', a', ?_, hc, hg⟩
  have j1 : A.Has [R.It i.1 V] w' p1 q1 := A.Has.one ⟨hw, i.2, k1⟩
  have j2 : A.Has [R.It r V] w' p2 q2 := A.Has.one ⟨hw, s, k2⟩
  exact ((j2.join j1 d2 d1).iff (o' := o') (a' := a') (fun x => (go x).trans or_comm) (fun x => (ga x).trans or_comm))
set_option maxHeartbeats 8000000 in
theorem R_Copy_s {r : Nat} {s : R.Sl} {V : M.V} (hw : R.Wf V) : A.Tr Try.prog 37 #[.pointer (some ⟨r, 0, none⟩)] (R.its r s V) (I := Nat × R.Sl) (fun _ => True) (fun i => .pointer (some ⟨i.1, 0, none⟩)) (fun i => R.its i.1 i.2 V ++ R.its r s V) := by
  intro w oo aa hh
  refine E.enter (n := 39) (S := oo) Try.func37 rfl rfl (by kernel_rfl) (A.start (L := [(r, R.cells s V)]) hh) ?_
  refine E.C.seq ?_
  refine E.C.region ?_
  refine E.G.op (.pointer none) (fun w => by kernel_rfl) (by kernel_rfl) ?_
  refine E.To.code ?_
  refine E.C.seq ?_
  refine E.C.held (A.Y [A.blk r (R.cells s V)]) (by kernel_rfl) ?_
  refine E.H.gen (fun H up dn => ?_)
  have nd11 : ∀ (v1_ao_14_1 : Option Addr) (v1_ao_20_1 : Option Addr) (v1_ao_26_1 : Option Addr) (v1_ao_32_1 : Option Addr) (v1_ao_8_1 : Option Addr) (v1_cp_14_2 : Nat) (v1_cp_20_2 : Nat) (v1_cp_26_2 : Nat) (v1_cp_32_2 : Nat) (v1_cp_8_2 : Nat) (v1_g_38_1 : Nat), H 1 (E.bits 37 68719476735) [(2, .pointer none), (38, .pointer (some ⟨v1_g_38_1, 0, none⟩))] (A.X w oo aa ([A.vec .i64 v1_ao_32_1 v1_cp_32_2 (R.rts V.r V.n), A.vec .u8 v1_ao_26_1 v1_cp_26_2 (R.flat V.ci (R.len V)), A.vec .u8 v1_ao_20_1 v1_cp_20_2 (R.flat V.cd V.n), A.vec .u8 v1_ao_14_1 v1_cp_14_2 (R.flat V.i (R.len V)), A.vec .u8 v1_ao_8_1 v1_cp_8_2 (R.flat V.d V.n)] ++ R.vs s V)) [(v1_g_38_1, [.slice v1_ao_8_1 (256 * V.n) v1_cp_8_2, .slice v1_ao_14_1 (256 * R.len V) v1_cp_14_2, .slice v1_ao_20_1 (256 * V.n) v1_cp_20_2, .slice v1_ao_26_1 (256 * R.len V) v1_cp_26_2, .slice v1_ao_32_1 V.n v1_cp_32_2, .bool V.coh]), (r, R.cells s V)] := by
    intro v1_ao_14_1 v1_ao_20_1 v1_ao_26_1 v1_ao_32_1 v1_ao_8_1 v1_cp_14_2 v1_cp_20_2 v1_cp_26_2 v1_cp_32_2 v1_cp_8_2 v1_g_38_1
    refine up _ _ _ _ _ ?_
    refine E.H.take 36 (.pointer (some ⟨v1_g_38_1, 0, none⟩)) rfl (by kernel_rfl) (by kernel_rfl) (by kernel_rfl) (fun _ _ _ h => h) (fun w h => A.hpY (p := [A.blk r (R.cells s V)]) (r := [A.blk v1_g_38_1 ([.slice v1_ao_8_1 (256 * V.n) v1_cp_8_2, .slice v1_ao_14_1 (256 * R.len V) v1_cp_14_2, .slice v1_ao_20_1 (256 * V.n) v1_cp_20_2, .slice v1_ao_26_1 (256 * R.len V) v1_cp_26_2, .slice v1_ao_32_1 V.n v1_cp_32_2, .bool V.coh]), A.vec .i64 v1_ao_32_1 v1_cp_32_2 (R.rts V.r V.n), A.vec .u8 v1_ao_26_1 v1_cp_26_2 (R.flat V.ci (R.len V)), A.vec .u8 v1_ao_20_1 v1_cp_20_2 (R.flat V.cd V.n), A.vec .u8 v1_ao_14_1 v1_cp_14_2 (R.flat V.i (R.len V)), A.vec .u8 v1_ao_8_1 v1_cp_8_2 (R.flat V.d V.n), A.vec .u8 s.a0 s.c0 (R.flat V.d V.n), A.vec .u8 s.a1 s.c1 (R.flat V.i (R.len V)), A.vec .u8 s.a2 s.c2 (R.flat V.cd V.n), A.vec .u8 s.a3 s.c3 (R.flat V.ci (R.len V)), A.vec .i64 s.a4 s.c4 (R.rts V.r V.n)]) h (by kernel_rfl) (A.pm [1, 0, 2, 3, 4, 5, 6, 7, 8, 9, 10, 11] (by kernel_rfl) (by kernel_rfl))) (.inl ⟨by kernel_rfl, by kernel_rfl, fun w h => by kernel_rfl⟩) (by kernel_rfl) ?_
    refine E.H.done (by kernel_rfl) ?_
    refine E.To.code ?_
    refine E.C.ret (E.To.body (fn := Try.f37) [.pointer (some ⟨v1_g_38_1, 0, none⟩)] ?_ ?_)
    · exact ⟨⟨by kernel_rfl, by kernel_rfl⟩, trivial⟩
    · intro w h
      have hq := A.done (q := [A.blk v1_g_38_1 ([.slice v1_ao_8_1 (256 * V.n) v1_cp_8_2, .slice v1_ao_14_1 (256 * R.len V) v1_cp_14_2, .slice v1_ao_20_1 (256 * V.n) v1_cp_20_2, .slice v1_ao_26_1 (256 * R.len V) v1_cp_26_2, .slice v1_ao_32_1 V.n v1_cp_32_2, .bool V.coh]), A.vec .u8 v1_ao_8_1 v1_cp_8_2 (R.flat V.d V.n), A.vec .u8 v1_ao_14_1 v1_cp_14_2 (R.flat V.i (R.len V)), A.vec .u8 v1_ao_20_1 v1_cp_20_2 (R.flat V.cd V.n), A.vec .u8 v1_ao_26_1 v1_cp_26_2 (R.flat V.ci (R.len V)), A.vec .i64 v1_ao_32_1 v1_cp_32_2 (R.rts V.r V.n), A.blk r (R.cells s V), A.vec .u8 s.a0 s.c0 (R.flat V.d V.n), A.vec .u8 s.a1 s.c1 (R.flat V.i (R.len V)), A.vec .u8 s.a2 s.c2 (R.flat V.cd V.n), A.vec .u8 s.a3 s.c3 (R.flat V.ci (R.len V)), A.vec .i64 s.a4 s.c4 (R.rts V.r V.n)]) (r := []) h (by kernel_rfl) (A.pm [0, 6, 5, 4, 3, 2, 1, 7, 8, 9, 10, 11] (by kernel_rfl) (by kernel_rfl))
      exact ⟨(v1_g_38_1, ⟨v1_ao_8_1, v1_ao_14_1, v1_ao_20_1, v1_ao_26_1, v1_ao_32_1, v1_cp_8_2, v1_cp_14_2, v1_cp_20_2, v1_cp_26_2, v1_cp_32_2⟩), trivial, rfl, hq⟩
  have nd10 : ∀ (v1_ao_14_1 : Option Addr) (v1_ao_20_1 : Option Addr) (v1_ao_26_1 : Option Addr) (v1_ao_32_1 : Option Addr) (v1_ao_8_1 : Option Addr) (v1_cp_14_2 : Nat) (v1_cp_20_2 : Nat) (v1_cp_26_2 : Nat) (v1_cp_32_2 : Nat) (v1_cp_8_2 : Nat), H 2 (E.bits 37 34359738367) [(2, .pointer none), (37, .agg #[.slice v1_ao_8_1 (256 * V.n) v1_cp_8_2, .slice v1_ao_14_1 (256 * R.len V) v1_cp_14_2, .slice v1_ao_20_1 (256 * V.n) v1_cp_20_2, .slice v1_ao_26_1 (256 * R.len V) v1_cp_26_2, .slice v1_ao_32_1 V.n v1_cp_32_2, .bool V.coh])] (A.X w oo aa ([A.vec .i64 v1_ao_32_1 v1_cp_32_2 (R.rts V.r V.n), A.vec .u8 v1_ao_26_1 v1_cp_26_2 (R.flat V.ci (R.len V)), A.vec .u8 v1_ao_20_1 v1_cp_20_2 (R.flat V.cd V.n), A.vec .u8 v1_ao_14_1 v1_cp_14_2 (R.flat V.i (R.len V)), A.vec .u8 v1_ao_8_1 v1_cp_8_2 (R.flat V.d V.n)] ++ R.vs s V)) [(r, R.cells s V)] := by
    intro v1_ao_14_1 v1_ao_20_1 v1_ao_26_1 v1_ao_32_1 v1_ao_8_1 v1_cp_14_2 v1_cp_20_2 v1_cp_26_2 v1_cp_32_2 v1_cp_8_2
    refine up _ _ _ _ _ ?_
    refine E.H.all [35] (by kernel_rfl) (by simp) (List.forall_mem_cons.2 ⟨⟨_, rfl, ?_⟩, fun _ h => (List.not_mem_nil h).elim⟩)
    · skip
      refine E.G.new (fun g => .pointer (some ⟨g, 0, none⟩)) [.slice v1_ao_8_1 (256 * V.n) v1_cp_8_2, .slice v1_ao_14_1 (256 * R.len V) v1_cp_14_2, .slice v1_ao_20_1 (256 * V.n) v1_cp_20_2, .slice v1_ao_26_1 (256 * R.len V) v1_cp_26_2, .slice v1_ao_32_1 V.n v1_cp_32_2, .bool V.coh] 89 (fun w => by kernel_rfl) (by kernel_rfl) (fun v1_g_38_1 => ?_)
      refine E.H.back (fun w h => A.hpY (p := [A.blk r (R.cells s V)]) (r := [A.blk v1_g_38_1 ([.slice v1_ao_8_1 (256 * V.n) v1_cp_8_2, .slice v1_ao_14_1 (256 * R.len V) v1_cp_14_2, .slice v1_ao_20_1 (256 * V.n) v1_cp_20_2, .slice v1_ao_26_1 (256 * R.len V) v1_cp_26_2, .slice v1_ao_32_1 V.n v1_cp_32_2, .bool V.coh]), A.vec .i64 v1_ao_32_1 v1_cp_32_2 (R.rts V.r V.n), A.vec .u8 v1_ao_26_1 v1_cp_26_2 (R.flat V.ci (R.len V)), A.vec .u8 v1_ao_20_1 v1_cp_20_2 (R.flat V.cd V.n), A.vec .u8 v1_ao_14_1 v1_cp_14_2 (R.flat V.i (R.len V)), A.vec .u8 v1_ao_8_1 v1_cp_8_2 (R.flat V.d V.n), A.vec .u8 s.a0 s.c0 (R.flat V.d V.n), A.vec .u8 s.a1 s.c1 (R.flat V.i (R.len V)), A.vec .u8 s.a2 s.c2 (R.flat V.cd V.n), A.vec .u8 s.a3 s.c3 (R.flat V.ci (R.len V)), A.vec .i64 s.a4 s.c4 (R.rts V.r V.n)]) h (by kernel_rfl) (A.pm [1, 0, 2, 3, 4, 5, 6, 7, 8, 9, 10, 11] (by kernel_rfl) (by kernel_rfl))) ?_
      exact E.H.to _ _ _ (by kernel_rfl) ⟨by kernel_rfl, by kernel_rfl⟩ (List.Sublist.refl _) (dn _ _ _ _ _ (nd11 v1_ao_14_1 v1_ao_20_1 v1_ao_26_1 v1_ao_32_1 v1_ao_8_1 v1_cp_14_2 v1_cp_20_2 v1_cp_26_2 v1_cp_32_2 v1_cp_8_2 v1_g_38_1))
  have nd9 : ∀ (v1_ao_14_1 : Option Addr) (v1_ao_20_1 : Option Addr) (v1_ao_26_1 : Option Addr) (v1_ao_32_1 : Option Addr) (v1_ao_8_1 : Option Addr) (v1_cp_14_2 : Nat) (v1_cp_20_2 : Nat) (v1_cp_26_2 : Nat) (v1_cp_32_2 : Nat) (v1_cp_8_2 : Nat), H 3 (E.bits 37 17179869183) [(2, .pointer none), (8, .slice v1_ao_8_1 (256 * V.n) v1_cp_8_2), (14, .slice v1_ao_14_1 (256 * R.len V) v1_cp_14_2), (20, .slice v1_ao_20_1 (256 * V.n) v1_cp_20_2), (26, .slice v1_ao_26_1 (256 * R.len V) v1_cp_26_2), (32, .slice v1_ao_32_1 V.n v1_cp_32_2), (36, .bool V.coh)] (A.X w oo aa ([A.vec .i64 v1_ao_32_1 v1_cp_32_2 (R.rts V.r V.n), A.vec .u8 v1_ao_26_1 v1_cp_26_2 (R.flat V.ci (R.len V)), A.vec .u8 v1_ao_20_1 v1_cp_20_2 (R.flat V.cd V.n), A.vec .u8 v1_ao_14_1 v1_cp_14_2 (R.flat V.i (R.len V)), A.vec .u8 v1_ao_8_1 v1_cp_8_2 (R.flat V.d V.n)] ++ R.vs s V)) [(r, R.cells s V)] := by
    intro v1_ao_14_1 v1_ao_20_1 v1_ao_26_1 v1_ao_32_1 v1_ao_8_1 v1_cp_14_2 v1_cp_20_2 v1_cp_26_2 v1_cp_32_2 v1_cp_8_2
    refine up _ _ _ _ _ ?_
    refine E.H.all [34] (by kernel_rfl) (by simp) (List.forall_mem_cons.2 ⟨⟨_, rfl, ?_⟩, fun _ h => (List.not_mem_nil h).elim⟩)
    · skip
      refine E.G.val (.agg #[.slice v1_ao_8_1 (256 * V.n) v1_cp_8_2, .slice v1_ao_14_1 (256 * R.len V) v1_cp_14_2, .slice v1_ao_20_1 (256 * V.n) v1_cp_20_2, .slice v1_ao_26_1 (256 * R.len V) v1_cp_26_2, .slice v1_ao_32_1 V.n v1_cp_32_2, .bool V.coh]) (by kernel_rfl) (fun w h => E.run_build #[.slice v1_ao_8_1 (256 * V.n) v1_cp_8_2, .slice v1_ao_14_1 (256 * R.len V) v1_cp_14_2, .slice v1_ao_20_1 (256 * V.n) v1_cp_20_2, .slice v1_ao_26_1 (256 * R.len V) v1_cp_26_2, .slice v1_ao_32_1 V.n v1_cp_32_2, .bool V.coh] (by kernel_rfl) w) ?_
      refine E.H.back (fun w h => A.hpY0 h (by kernel_rfl)) ?_
      exact E.H.to _ _ _ (by kernel_rfl) ⟨by kernel_rfl, by kernel_rfl⟩ (List.Sublist.refl _) (dn _ _ _ _ _ (nd10 v1_ao_14_1 v1_ao_20_1 v1_ao_26_1 v1_ao_32_1 v1_ao_8_1 v1_cp_14_2 v1_cp_20_2 v1_cp_26_2 v1_cp_32_2 v1_cp_8_2))
  have nd8 : ∀ (v1_ao_14_1 : Option Addr) (v1_ao_20_1 : Option Addr) (v1_ao_26_1 : Option Addr) (v1_ao_8_1 : Option Addr) (v1_cp_14_2 : Nat) (v1_cp_20_2 : Nat) (v1_cp_26_2 : Nat) (v1_cp_8_2 : Nat) (v1_g_27_1 : Nat), H 4 (E.bits 37 16642998271) [(2, .pointer none), (8, .slice v1_ao_8_1 (256 * V.n) v1_cp_8_2), (14, .slice v1_ao_14_1 (256 * R.len V) v1_cp_14_2), (20, .slice v1_ao_20_1 (256 * V.n) v1_cp_20_2), (26, .slice v1_ao_26_1 (256 * R.len V) v1_cp_26_2), (27, .slice (some ⟨v1_g_27_1, 0, none⟩) 0 0), (31, .slice s.a4 V.n s.c4), (36, .bool V.coh)] (A.X w oo aa ([A.vec .u8 v1_ao_26_1 v1_cp_26_2 (R.flat V.ci (R.len V)), A.vec .u8 v1_ao_20_1 v1_cp_20_2 (R.flat V.cd V.n), A.vec .u8 v1_ao_14_1 v1_cp_14_2 (R.flat V.i (R.len V)), A.vec .u8 v1_ao_8_1 v1_cp_8_2 (R.flat V.d V.n)] ++ R.vs s V)) [(r, R.cells s V)] := by
    intro v1_ao_14_1 v1_ao_20_1 v1_ao_26_1 v1_ao_8_1 v1_cp_14_2 v1_cp_20_2 v1_cp_26_2 v1_cp_8_2 v1_g_27_1
    refine up _ _ _ _ _ ?_
    refine E.H.all [29] (by kernel_rfl) (by simp) (List.forall_mem_cons.2 ⟨⟨_, rfl, ?_⟩, fun _ h => (List.not_mem_nil h).elim⟩)
    · skip
      refine A.G.dup (e := 3) (a0' := ⟨v1_g_27_1, 0, none⟩) (c2 := s.c4) 8 8 (R.rts V.r V.n) rfl (by kernel_rfl) (by kernel_rfl) (by rw [R.rts_len]) (by kernel_rfl) (by kernel_rfl) (by rw [R.rts_len]; have := hw.n; have := R.len_le V; omega) (by rw [R.rts_len]; have := hw.n; have := R.len_le V; omega) (by kernel_rfl) (fun v1_ao_32_1 v1_cp_32_2 => ?_)
      refine E.H.back (fun w h => A.hpY0 h (by kernel_rfl)) ?_
      exact E.H.to _ _ _ (by kernel_rfl) ⟨by kernel_rfl, by kernel_rfl⟩ (List.Sublist.refl _) (dn _ _ _ _ _ (nd9 v1_ao_14_1 v1_ao_20_1 v1_ao_26_1 v1_ao_32_1 v1_ao_8_1 v1_cp_14_2 v1_cp_20_2 v1_cp_26_2 v1_cp_32_2 v1_cp_8_2))
  have nd7 : ∀ (v1_ao_14_1 : Option Addr) (v1_ao_20_1 : Option Addr) (v1_ao_26_1 : Option Addr) (v1_ao_8_1 : Option Addr) (v1_cp_14_2 : Nat) (v1_cp_20_2 : Nat) (v1_cp_26_2 : Nat) (v1_cp_8_2 : Nat), H 5 (E.bits 37 16626221055) [(2, .pointer none), (8, .slice v1_ao_8_1 (256 * V.n) v1_cp_8_2), (14, .slice v1_ao_14_1 (256 * R.len V) v1_cp_14_2), (20, .slice v1_ao_20_1 (256 * V.n) v1_cp_20_2), (26, .slice v1_ao_26_1 (256 * R.len V) v1_cp_26_2), (31, .slice s.a4 V.n s.c4), (36, .bool V.coh)] (A.X w oo aa ([A.vec .u8 v1_ao_26_1 v1_cp_26_2 (R.flat V.ci (R.len V)), A.vec .u8 v1_ao_20_1 v1_cp_20_2 (R.flat V.cd V.n), A.vec .u8 v1_ao_14_1 v1_cp_14_2 (R.flat V.i (R.len V)), A.vec .u8 v1_ao_8_1 v1_cp_8_2 (R.flat V.d V.n)] ++ R.vs s V)) [(r, R.cells s V)] := by
    intro v1_ao_14_1 v1_ao_20_1 v1_ao_26_1 v1_ao_8_1 v1_cp_14_2 v1_cp_20_2 v1_cp_26_2 v1_cp_8_2
    refine up _ _ _ _ _ ?_
    refine E.H.all [24] (by kernel_rfl) (by simp) (List.forall_mem_cons.2 ⟨⟨_, rfl, ?_⟩, fun _ h => (List.not_mem_nil h).elim⟩)
    · skip
      refine A.G.empty (e := 3) (sz := 1) (by kernel_rfl) (by kernel_rfl) (by kernel_rfl) (fun v1_g_27_1 => ?_)
      refine E.H.back (fun w h => A.hpY0 h (by kernel_rfl)) ?_
      exact E.H.to _ _ _ (by kernel_rfl) ⟨by kernel_rfl, by kernel_rfl⟩ (List.Sublist.refl _) (dn _ _ _ _ _ (nd8 v1_ao_14_1 v1_ao_20_1 v1_ao_26_1 v1_ao_8_1 v1_cp_14_2 v1_cp_20_2 v1_cp_26_2 v1_cp_8_2 v1_g_27_1))
  have nd12 : ∀ (v1_ao_14_1 : Option Addr) (v1_ao_20_1 : Option Addr) (v1_ao_8_1 : Option Addr) (v1_cp_14_2 : Nat) (v1_cp_20_2 : Nat) (v1_cp_8_2 : Nat) (v1_g_21_1 : Nat) (v1_g_27_1 : Nat), H 5 (E.bits 37 16634609663) [(2, .pointer none), (8, .slice v1_ao_8_1 (256 * V.n) v1_cp_8_2), (14, .slice v1_ao_14_1 (256 * R.len V) v1_cp_14_2), (20, .slice v1_ao_20_1 (256 * V.n) v1_cp_20_2), (21, .slice (some ⟨v1_g_21_1, 0, none⟩) 0 0), (25, .slice s.a3 (256 * R.len V) s.c3), (27, .slice (some ⟨v1_g_27_1, 0, none⟩) 0 0), (31, .slice s.a4 V.n s.c4), (36, .bool V.coh)] (A.X w oo aa ([A.vec .u8 v1_ao_20_1 v1_cp_20_2 (R.flat V.cd V.n), A.vec .u8 v1_ao_14_1 v1_cp_14_2 (R.flat V.i (R.len V)), A.vec .u8 v1_ao_8_1 v1_cp_8_2 (R.flat V.d V.n)] ++ R.vs s V)) [(r, R.cells s V)] := by
    intro v1_ao_14_1 v1_ao_20_1 v1_ao_8_1 v1_cp_14_2 v1_cp_20_2 v1_cp_8_2 v1_g_21_1 v1_g_27_1
    refine up _ _ _ _ _ ?_
    refine E.H.all [23] (by kernel_rfl) (by simp) (List.forall_mem_cons.2 ⟨⟨_, rfl, ?_⟩, fun _ h => (List.not_mem_nil h).elim⟩)
    · skip
      refine A.G.dup (e := 5) (a0' := ⟨v1_g_21_1, 0, none⟩) (c2 := s.c3) 6 1 (R.flat V.ci (R.len V)) rfl (by kernel_rfl) (by kernel_rfl) (R.flat_len _ _).symm (by kernel_rfl) (by kernel_rfl) (by rw [R.flat_len]; have := hw.n; have := R.len_le V; omega) (by rw [R.flat_len]; have := hw.n; have := R.len_le V; omega) (by kernel_rfl) (fun v1_ao_26_1 v1_cp_26_2 => ?_)
      refine E.H.back (fun w h => A.hpY0 h (by kernel_rfl)) ?_
      exact E.H.to _ _ _ (by kernel_rfl) ⟨by kernel_rfl, by kernel_rfl⟩ (List.Sublist.refl _) (dn _ _ _ _ _ (nd8 v1_ao_14_1 v1_ao_20_1 v1_ao_26_1 v1_ao_8_1 v1_cp_14_2 v1_cp_20_2 v1_cp_26_2 v1_cp_8_2 v1_g_27_1))
  have nd6 : ∀ (v1_ao_14_1 : Option Addr) (v1_ao_20_1 : Option Addr) (v1_ao_8_1 : Option Addr) (v1_cp_14_2 : Nat) (v1_cp_20_2 : Nat) (v1_cp_8_2 : Nat) (v1_g_21_1 : Nat), H 6 (E.bits 37 16617832447) [(2, .pointer none), (8, .slice v1_ao_8_1 (256 * V.n) v1_cp_8_2), (14, .slice v1_ao_14_1 (256 * R.len V) v1_cp_14_2), (20, .slice v1_ao_20_1 (256 * V.n) v1_cp_20_2), (21, .slice (some ⟨v1_g_21_1, 0, none⟩) 0 0), (25, .slice s.a3 (256 * R.len V) s.c3), (31, .slice s.a4 V.n s.c4), (36, .bool V.coh)] (A.X w oo aa ([A.vec .u8 v1_ao_20_1 v1_cp_20_2 (R.flat V.cd V.n), A.vec .u8 v1_ao_14_1 v1_cp_14_2 (R.flat V.i (R.len V)), A.vec .u8 v1_ao_8_1 v1_cp_8_2 (R.flat V.d V.n)] ++ R.vs s V)) [(r, R.cells s V)] := by
    intro v1_ao_14_1 v1_ao_20_1 v1_ao_8_1 v1_cp_14_2 v1_cp_20_2 v1_cp_8_2 v1_g_21_1
    refine up _ _ _ _ _ ?_
    refine E.H.all [23, 24] (by kernel_rfl) (by simp) (List.forall_mem_cons.2 ⟨⟨_, rfl, ?_⟩, List.forall_mem_cons.2 ⟨⟨_, rfl, ?_⟩, fun _ h => (List.not_mem_nil h).elim⟩⟩)
    · skip
      refine A.G.dup (e := 5) (a0' := ⟨v1_g_21_1, 0, none⟩) (c2 := s.c3) 6 1 (R.flat V.ci (R.len V)) rfl (by kernel_rfl) (by kernel_rfl) (R.flat_len _ _).symm (by kernel_rfl) (by kernel_rfl) (by rw [R.flat_len]; have := hw.n; have := R.len_le V; omega) (by rw [R.flat_len]; have := hw.n; have := R.len_le V; omega) (by kernel_rfl) (fun v1_ao_26_1 v1_cp_26_2 => ?_)
      refine E.H.back (fun w h => A.hpY0 h (by kernel_rfl)) ?_
      exact E.H.to _ _ _ (by kernel_rfl) ⟨by kernel_rfl, by kernel_rfl⟩ (List.Sublist.refl _) (dn _ _ _ _ _ (nd7 v1_ao_14_1 v1_ao_20_1 v1_ao_26_1 v1_ao_8_1 v1_cp_14_2 v1_cp_20_2 v1_cp_26_2 v1_cp_8_2))
    · skip
      refine A.G.empty (e := 3) (sz := 1) (by kernel_rfl) (by kernel_rfl) (by kernel_rfl) (fun v1_g_27_1 => ?_)
      refine E.H.back (fun w h => A.hpY0 h (by kernel_rfl)) ?_
      exact E.H.to _ _ _ (by kernel_rfl) ⟨by kernel_rfl, by kernel_rfl⟩ (List.Sublist.refl _) (dn _ _ _ _ _ (nd12 v1_ao_14_1 v1_ao_20_1 v1_ao_8_1 v1_cp_14_2 v1_cp_20_2 v1_cp_8_2 v1_g_21_1 v1_g_27_1))
  have nd13 : ∀ (v1_ao_14_1 : Option Addr) (v1_ao_20_1 : Option Addr) (v1_ao_8_1 : Option Addr) (v1_cp_14_2 : Nat) (v1_cp_20_2 : Nat) (v1_cp_8_2 : Nat) (v1_g_27_1 : Nat), H 6 (E.bits 37 16634347519) [(2, .pointer none), (8, .slice v1_ao_8_1 (256 * V.n) v1_cp_8_2), (14, .slice v1_ao_14_1 (256 * R.len V) v1_cp_14_2), (20, .slice v1_ao_20_1 (256 * V.n) v1_cp_20_2), (25, .slice s.a3 (256 * R.len V) s.c3), (27, .slice (some ⟨v1_g_27_1, 0, none⟩) 0 0), (31, .slice s.a4 V.n s.c4), (36, .bool V.coh)] (A.X w oo aa ([A.vec .u8 v1_ao_20_1 v1_cp_20_2 (R.flat V.cd V.n), A.vec .u8 v1_ao_14_1 v1_cp_14_2 (R.flat V.i (R.len V)), A.vec .u8 v1_ao_8_1 v1_cp_8_2 (R.flat V.d V.n)] ++ R.vs s V)) [(r, R.cells s V)] := by
    intro v1_ao_14_1 v1_ao_20_1 v1_ao_8_1 v1_cp_14_2 v1_cp_20_2 v1_cp_8_2 v1_g_27_1
    refine up _ _ _ _ _ ?_
    refine E.H.all [18] (by kernel_rfl) (by simp) (List.forall_mem_cons.2 ⟨⟨_, rfl, ?_⟩, fun _ h => (List.not_mem_nil h).elim⟩)
    · skip
      refine A.G.empty (e := 5) (sz := 1) (by kernel_rfl) (by kernel_rfl) (by kernel_rfl) (fun v1_g_21_1 => ?_)
      refine E.H.back (fun w h => A.hpY0 h (by kernel_rfl)) ?_
      exact E.H.to _ _ _ (by kernel_rfl) ⟨by kernel_rfl, by kernel_rfl⟩ (List.Sublist.refl _) (dn _ _ _ _ _ (nd12 v1_ao_14_1 v1_ao_20_1 v1_ao_8_1 v1_cp_14_2 v1_cp_20_2 v1_cp_8_2 v1_g_21_1 v1_g_27_1))
  have nd5 : ∀ (v1_ao_14_1 : Option Addr) (v1_ao_20_1 : Option Addr) (v1_ao_8_1 : Option Addr) (v1_cp_14_2 : Nat) (v1_cp_20_2 : Nat) (v1_cp_8_2 : Nat), H 7 (E.bits 37 16617570303) [(2, .pointer none), (8, .slice v1_ao_8_1 (256 * V.n) v1_cp_8_2), (14, .slice v1_ao_14_1 (256 * R.len V) v1_cp_14_2), (20, .slice v1_ao_20_1 (256 * V.n) v1_cp_20_2), (25, .slice s.a3 (256 * R.len V) s.c3), (31, .slice s.a4 V.n s.c4), (36, .bool V.coh)] (A.X w oo aa ([A.vec .u8 v1_ao_20_1 v1_cp_20_2 (R.flat V.cd V.n), A.vec .u8 v1_ao_14_1 v1_cp_14_2 (R.flat V.i (R.len V)), A.vec .u8 v1_ao_8_1 v1_cp_8_2 (R.flat V.d V.n)] ++ R.vs s V)) [(r, R.cells s V)] := by
    intro v1_ao_14_1 v1_ao_20_1 v1_ao_8_1 v1_cp_14_2 v1_cp_20_2 v1_cp_8_2
    refine up _ _ _ _ _ ?_
    refine E.H.all [18, 24] (by kernel_rfl) (by simp) (List.forall_mem_cons.2 ⟨⟨_, rfl, ?_⟩, List.forall_mem_cons.2 ⟨⟨_, rfl, ?_⟩, fun _ h => (List.not_mem_nil h).elim⟩⟩)
    · skip
      refine A.G.empty (e := 5) (sz := 1) (by kernel_rfl) (by kernel_rfl) (by kernel_rfl) (fun v1_g_21_1 => ?_)
      refine E.H.back (fun w h => A.hpY0 h (by kernel_rfl)) ?_
      exact E.H.to _ _ _ (by kernel_rfl) ⟨by kernel_rfl, by kernel_rfl⟩ (List.Sublist.refl _) (dn _ _ _ _ _ (nd6 v1_ao_14_1 v1_ao_20_1 v1_ao_8_1 v1_cp_14_2 v1_cp_20_2 v1_cp_8_2 v1_g_21_1))
    · skip
      refine A.G.empty (e := 3) (sz := 1) (by kernel_rfl) (by kernel_rfl) (by kernel_rfl) (fun v1_g_27_1 => ?_)
      refine E.H.back (fun w h => A.hpY0 h (by kernel_rfl)) ?_
      exact E.H.to _ _ _ (by kernel_rfl) ⟨by kernel_rfl, by kernel_rfl⟩ (List.Sublist.refl _) (dn _ _ _ _ _ (nd13 v1_ao_14_1 v1_ao_20_1 v1_ao_8_1 v1_cp_14_2 v1_cp_20_2 v1_cp_8_2 v1_g_27_1))
  have nd15 : ∀ (v1_ao_14_1 : Option Addr) (v1_ao_8_1 : Option Addr) (v1_cp_14_2 : Nat) (v1_cp_8_2 : Nat) (v1_g_15_1 : Nat) (v1_g_21_1 : Nat) (v1_g_27_1 : Nat), H 6 (E.bits 37 16634478591) [(2, .pointer none), (8, .slice v1_ao_8_1 (256 * V.n) v1_cp_8_2), (14, .slice v1_ao_14_1 (256 * R.len V) v1_cp_14_2), (15, .slice (some ⟨v1_g_15_1, 0, none⟩) 0 0), (19, .slice s.a2 (256 * V.n) s.c2), (21, .slice (some ⟨v1_g_21_1, 0, none⟩) 0 0), (25, .slice s.a3 (256 * R.len V) s.c3), (27, .slice (some ⟨v1_g_27_1, 0, none⟩) 0 0), (31, .slice s.a4 V.n s.c4), (36, .bool V.coh)] (A.X w oo aa ([A.vec .u8 v1_ao_14_1 v1_cp_14_2 (R.flat V.i (R.len V)), A.vec .u8 v1_ao_8_1 v1_cp_8_2 (R.flat V.d V.n)] ++ R.vs s V)) [(r, R.cells s V)] := by
    intro v1_ao_14_1 v1_ao_8_1 v1_cp_14_2 v1_cp_8_2 v1_g_15_1 v1_g_21_1 v1_g_27_1
    refine up _ _ _ _ _ ?_
    refine E.H.all [17] (by kernel_rfl) (by simp) (List.forall_mem_cons.2 ⟨⟨_, rfl, ?_⟩, fun _ h => (List.not_mem_nil h).elim⟩)
    · skip
      refine A.G.dup (e := 5) (a0' := ⟨v1_g_15_1, 0, none⟩) (c2 := s.c2) 4 1 (R.flat V.cd V.n) rfl (by kernel_rfl) (by kernel_rfl) (R.flat_len _ _).symm (by kernel_rfl) (by kernel_rfl) (by rw [R.flat_len]; have := hw.n; have := R.len_le V; omega) (by rw [R.flat_len]; have := hw.n; have := R.len_le V; omega) (by kernel_rfl) (fun v1_ao_20_1 v1_cp_20_2 => ?_)
      refine E.H.back (fun w h => A.hpY0 h (by kernel_rfl)) ?_
      exact E.H.to _ _ _ (by kernel_rfl) ⟨by kernel_rfl, by kernel_rfl⟩ (List.Sublist.refl _) (dn _ _ _ _ _ (nd12 v1_ao_14_1 v1_ao_20_1 v1_ao_8_1 v1_cp_14_2 v1_cp_20_2 v1_cp_8_2 v1_g_21_1 v1_g_27_1))
  have nd14 : ∀ (v1_ao_14_1 : Option Addr) (v1_ao_8_1 : Option Addr) (v1_cp_14_2 : Nat) (v1_cp_8_2 : Nat) (v1_g_15_1 : Nat) (v1_g_21_1 : Nat), H 7 (E.bits 37 16617701375) [(2, .pointer none), (8, .slice v1_ao_8_1 (256 * V.n) v1_cp_8_2), (14, .slice v1_ao_14_1 (256 * R.len V) v1_cp_14_2), (15, .slice (some ⟨v1_g_15_1, 0, none⟩) 0 0), (19, .slice s.a2 (256 * V.n) s.c2), (21, .slice (some ⟨v1_g_21_1, 0, none⟩) 0 0), (25, .slice s.a3 (256 * R.len V) s.c3), (31, .slice s.a4 V.n s.c4), (36, .bool V.coh)] (A.X w oo aa ([A.vec .u8 v1_ao_14_1 v1_cp_14_2 (R.flat V.i (R.len V)), A.vec .u8 v1_ao_8_1 v1_cp_8_2 (R.flat V.d V.n)] ++ R.vs s V)) [(r, R.cells s V)] := by
    intro v1_ao_14_1 v1_ao_8_1 v1_cp_14_2 v1_cp_8_2 v1_g_15_1 v1_g_21_1
    refine up _ _ _ _ _ ?_
    refine E.H.all [17, 24] (by kernel_rfl) (by simp) (List.forall_mem_cons.2 ⟨⟨_, rfl, ?_⟩, List.forall_mem_cons.2 ⟨⟨_, rfl, ?_⟩, fun _ h => (List.not_mem_nil h).elim⟩⟩)
    · skip
      refine A.G.dup (e := 5) (a0' := ⟨v1_g_15_1, 0, none⟩) (c2 := s.c2) 4 1 (R.flat V.cd V.n) rfl (by kernel_rfl) (by kernel_rfl) (R.flat_len _ _).symm (by kernel_rfl) (by kernel_rfl) (by rw [R.flat_len]; have := hw.n; have := R.len_le V; omega) (by rw [R.flat_len]; have := hw.n; have := R.len_le V; omega) (by kernel_rfl) (fun v1_ao_20_1 v1_cp_20_2 => ?_)
      refine E.H.back (fun w h => A.hpY0 h (by kernel_rfl)) ?_
      exact E.H.to _ _ _ (by kernel_rfl) ⟨by kernel_rfl, by kernel_rfl⟩ (List.Sublist.refl _) (dn _ _ _ _ _ (nd6 v1_ao_14_1 v1_ao_20_1 v1_ao_8_1 v1_cp_14_2 v1_cp_20_2 v1_cp_8_2 v1_g_21_1))
    · skip
      refine A.G.empty (e := 3) (sz := 1) (by kernel_rfl) (by kernel_rfl) (by kernel_rfl) (fun v1_g_27_1 => ?_)
      refine E.H.back (fun w h => A.hpY0 h (by kernel_rfl)) ?_
      exact E.H.to _ _ _ (by kernel_rfl) ⟨by kernel_rfl, by kernel_rfl⟩ (List.Sublist.refl _) (dn _ _ _ _ _ (nd15 v1_ao_14_1 v1_ao_8_1 v1_cp_14_2 v1_cp_8_2 v1_g_15_1 v1_g_21_1 v1_g_27_1))
  have nd16 : ∀ (v1_ao_14_1 : Option Addr) (v1_ao_8_1 : Option Addr) (v1_cp_14_2 : Nat) (v1_cp_8_2 : Nat) (v1_g_15_1 : Nat) (v1_g_27_1 : Nat), H 7 (E.bits 37 16634216447) [(2, .pointer none), (8, .slice v1_ao_8_1 (256 * V.n) v1_cp_8_2), (14, .slice v1_ao_14_1 (256 * R.len V) v1_cp_14_2), (15, .slice (some ⟨v1_g_15_1, 0, none⟩) 0 0), (19, .slice s.a2 (256 * V.n) s.c2), (25, .slice s.a3 (256 * R.len V) s.c3), (27, .slice (some ⟨v1_g_27_1, 0, none⟩) 0 0), (31, .slice s.a4 V.n s.c4), (36, .bool V.coh)] (A.X w oo aa ([A.vec .u8 v1_ao_14_1 v1_cp_14_2 (R.flat V.i (R.len V)), A.vec .u8 v1_ao_8_1 v1_cp_8_2 (R.flat V.d V.n)] ++ R.vs s V)) [(r, R.cells s V)] := by
    intro v1_ao_14_1 v1_ao_8_1 v1_cp_14_2 v1_cp_8_2 v1_g_15_1 v1_g_27_1
    refine up _ _ _ _ _ ?_
    refine E.H.all [17, 18] (by kernel_rfl) (by simp) (List.forall_mem_cons.2 ⟨⟨_, rfl, ?_⟩, List.forall_mem_cons.2 ⟨⟨_, rfl, ?_⟩, fun _ h => (List.not_mem_nil h).elim⟩⟩)
    · skip
      refine A.G.dup (e := 5) (a0' := ⟨v1_g_15_1, 0, none⟩) (c2 := s.c2) 4 1 (R.flat V.cd V.n) rfl (by kernel_rfl) (by kernel_rfl) (R.flat_len _ _).symm (by kernel_rfl) (by kernel_rfl) (by rw [R.flat_len]; have := hw.n; have := R.len_le V; omega) (by rw [R.flat_len]; have := hw.n; have := R.len_le V; omega) (by kernel_rfl) (fun v1_ao_20_1 v1_cp_20_2 => ?_)
      refine E.H.back (fun w h => A.hpY0 h (by kernel_rfl)) ?_
      exact E.H.to _ _ _ (by kernel_rfl) ⟨by kernel_rfl, by kernel_rfl⟩ (List.Sublist.refl _) (dn _ _ _ _ _ (nd13 v1_ao_14_1 v1_ao_20_1 v1_ao_8_1 v1_cp_14_2 v1_cp_20_2 v1_cp_8_2 v1_g_27_1))
    · skip
      refine A.G.empty (e := 5) (sz := 1) (by kernel_rfl) (by kernel_rfl) (by kernel_rfl) (fun v1_g_21_1 => ?_)
      refine E.H.back (fun w h => A.hpY0 h (by kernel_rfl)) ?_
      exact E.H.to _ _ _ (by kernel_rfl) ⟨by kernel_rfl, by kernel_rfl⟩ (List.Sublist.refl _) (dn _ _ _ _ _ (nd15 v1_ao_14_1 v1_ao_8_1 v1_cp_14_2 v1_cp_8_2 v1_g_15_1 v1_g_21_1 v1_g_27_1))
  have nd4 : ∀ (v1_ao_14_1 : Option Addr) (v1_ao_8_1 : Option Addr) (v1_cp_14_2 : Nat) (v1_cp_8_2 : Nat) (v1_g_15_1 : Nat), H 8 (E.bits 37 16617439231) [(2, .pointer none), (8, .slice v1_ao_8_1 (256 * V.n) v1_cp_8_2), (14, .slice v1_ao_14_1 (256 * R.len V) v1_cp_14_2), (15, .slice (some ⟨v1_g_15_1, 0, none⟩) 0 0), (19, .slice s.a2 (256 * V.n) s.c2), (25, .slice s.a3 (256 * R.len V) s.c3), (31, .slice s.a4 V.n s.c4), (36, .bool V.coh)] (A.X w oo aa ([A.vec .u8 v1_ao_14_1 v1_cp_14_2 (R.flat V.i (R.len V)), A.vec .u8 v1_ao_8_1 v1_cp_8_2 (R.flat V.d V.n)] ++ R.vs s V)) [(r, R.cells s V)] := by
    intro v1_ao_14_1 v1_ao_8_1 v1_cp_14_2 v1_cp_8_2 v1_g_15_1
    refine up _ _ _ _ _ ?_
    refine E.H.all [17, 18, 24] (by kernel_rfl) (by simp) (List.forall_mem_cons.2 ⟨⟨_, rfl, ?_⟩, List.forall_mem_cons.2 ⟨⟨_, rfl, ?_⟩, List.forall_mem_cons.2 ⟨⟨_, rfl, ?_⟩, fun _ h => (List.not_mem_nil h).elim⟩⟩⟩)
    · skip
      refine A.G.dup (e := 5) (a0' := ⟨v1_g_15_1, 0, none⟩) (c2 := s.c2) 4 1 (R.flat V.cd V.n) rfl (by kernel_rfl) (by kernel_rfl) (R.flat_len _ _).symm (by kernel_rfl) (by kernel_rfl) (by rw [R.flat_len]; have := hw.n; have := R.len_le V; omega) (by rw [R.flat_len]; have := hw.n; have := R.len_le V; omega) (by kernel_rfl) (fun v1_ao_20_1 v1_cp_20_2 => ?_)
      refine E.H.back (fun w h => A.hpY0 h (by kernel_rfl)) ?_
      exact E.H.to _ _ _ (by kernel_rfl) ⟨by kernel_rfl, by kernel_rfl⟩ (List.Sublist.refl _) (dn _ _ _ _ _ (nd5 v1_ao_14_1 v1_ao_20_1 v1_ao_8_1 v1_cp_14_2 v1_cp_20_2 v1_cp_8_2))
    · skip
      refine A.G.empty (e := 5) (sz := 1) (by kernel_rfl) (by kernel_rfl) (by kernel_rfl) (fun v1_g_21_1 => ?_)
      refine E.H.back (fun w h => A.hpY0 h (by kernel_rfl)) ?_
      exact E.H.to _ _ _ (by kernel_rfl) ⟨by kernel_rfl, by kernel_rfl⟩ (List.Sublist.refl _) (dn _ _ _ _ _ (nd14 v1_ao_14_1 v1_ao_8_1 v1_cp_14_2 v1_cp_8_2 v1_g_15_1 v1_g_21_1))
    · skip
      refine A.G.empty (e := 3) (sz := 1) (by kernel_rfl) (by kernel_rfl) (by kernel_rfl) (fun v1_g_27_1 => ?_)
      refine E.H.back (fun w h => A.hpY0 h (by kernel_rfl)) ?_
      exact E.H.to _ _ _ (by kernel_rfl) ⟨by kernel_rfl, by kernel_rfl⟩ (List.Sublist.refl _) (dn _ _ _ _ _ (nd16 v1_ao_14_1 v1_ao_8_1 v1_cp_14_2 v1_cp_8_2 v1_g_15_1 v1_g_27_1))
  have nd18 : ∀ (v1_ao_14_1 : Option Addr) (v1_ao_8_1 : Option Addr) (v1_cp_14_2 : Nat) (v1_cp_8_2 : Nat) (v1_g_21_1 : Nat) (v1_g_27_1 : Nat), H 7 (E.bits 37 16634474495) [(2, .pointer none), (8, .slice v1_ao_8_1 (256 * V.n) v1_cp_8_2), (14, .slice v1_ao_14_1 (256 * R.len V) v1_cp_14_2), (19, .slice s.a2 (256 * V.n) s.c2), (21, .slice (some ⟨v1_g_21_1, 0, none⟩) 0 0), (25, .slice s.a3 (256 * R.len V) s.c3), (27, .slice (some ⟨v1_g_27_1, 0, none⟩) 0 0), (31, .slice s.a4 V.n s.c4), (36, .bool V.coh)] (A.X w oo aa ([A.vec .u8 v1_ao_14_1 v1_cp_14_2 (R.flat V.i (R.len V)), A.vec .u8 v1_ao_8_1 v1_cp_8_2 (R.flat V.d V.n)] ++ R.vs s V)) [(r, R.cells s V)] := by
    intro v1_ao_14_1 v1_ao_8_1 v1_cp_14_2 v1_cp_8_2 v1_g_21_1 v1_g_27_1
    refine up _ _ _ _ _ ?_
    refine E.H.all [12] (by kernel_rfl) (by simp) (List.forall_mem_cons.2 ⟨⟨_, rfl, ?_⟩, fun _ h => (List.not_mem_nil h).elim⟩)
    · skip
      refine A.G.empty (e := 5) (sz := 1) (by kernel_rfl) (by kernel_rfl) (by kernel_rfl) (fun v1_g_15_1 => ?_)
      refine E.H.back (fun w h => A.hpY0 h (by kernel_rfl)) ?_
      exact E.H.to _ _ _ (by kernel_rfl) ⟨by kernel_rfl, by kernel_rfl⟩ (List.Sublist.refl _) (dn _ _ _ _ _ (nd15 v1_ao_14_1 v1_ao_8_1 v1_cp_14_2 v1_cp_8_2 v1_g_15_1 v1_g_21_1 v1_g_27_1))
  have nd17 : ∀ (v1_ao_14_1 : Option Addr) (v1_ao_8_1 : Option Addr) (v1_cp_14_2 : Nat) (v1_cp_8_2 : Nat) (v1_g_21_1 : Nat), H 8 (E.bits 37 16617697279) [(2, .pointer none), (8, .slice v1_ao_8_1 (256 * V.n) v1_cp_8_2), (14, .slice v1_ao_14_1 (256 * R.len V) v1_cp_14_2), (19, .slice s.a2 (256 * V.n) s.c2), (21, .slice (some ⟨v1_g_21_1, 0, none⟩) 0 0), (25, .slice s.a3 (256 * R.len V) s.c3), (31, .slice s.a4 V.n s.c4), (36, .bool V.coh)] (A.X w oo aa ([A.vec .u8 v1_ao_14_1 v1_cp_14_2 (R.flat V.i (R.len V)), A.vec .u8 v1_ao_8_1 v1_cp_8_2 (R.flat V.d V.n)] ++ R.vs s V)) [(r, R.cells s V)] := by
    intro v1_ao_14_1 v1_ao_8_1 v1_cp_14_2 v1_cp_8_2 v1_g_21_1
    refine up _ _ _ _ _ ?_
    refine E.H.all [12, 24] (by kernel_rfl) (by simp) (List.forall_mem_cons.2 ⟨⟨_, rfl, ?_⟩, List.forall_mem_cons.2 ⟨⟨_, rfl, ?_⟩, fun _ h => (List.not_mem_nil h).elim⟩⟩)
    · skip
      refine A.G.empty (e := 5) (sz := 1) (by kernel_rfl) (by kernel_rfl) (by kernel_rfl) (fun v1_g_15_1 => ?_)
      refine E.H.back (fun w h => A.hpY0 h (by kernel_rfl)) ?_
      exact E.H.to _ _ _ (by kernel_rfl) ⟨by kernel_rfl, by kernel_rfl⟩ (List.Sublist.refl _) (dn _ _ _ _ _ (nd14 v1_ao_14_1 v1_ao_8_1 v1_cp_14_2 v1_cp_8_2 v1_g_15_1 v1_g_21_1))
    · skip
      refine A.G.empty (e := 3) (sz := 1) (by kernel_rfl) (by kernel_rfl) (by kernel_rfl) (fun v1_g_27_1 => ?_)
      refine E.H.back (fun w h => A.hpY0 h (by kernel_rfl)) ?_
      exact E.H.to _ _ _ (by kernel_rfl) ⟨by kernel_rfl, by kernel_rfl⟩ (List.Sublist.refl _) (dn _ _ _ _ _ (nd18 v1_ao_14_1 v1_ao_8_1 v1_cp_14_2 v1_cp_8_2 v1_g_21_1 v1_g_27_1))
  have nd19 : ∀ (v1_ao_14_1 : Option Addr) (v1_ao_8_1 : Option Addr) (v1_cp_14_2 : Nat) (v1_cp_8_2 : Nat) (v1_g_27_1 : Nat), H 8 (E.bits 37 16634212351) [(2, .pointer none), (8, .slice v1_ao_8_1 (256 * V.n) v1_cp_8_2), (14, .slice v1_ao_14_1 (256 * R.len V) v1_cp_14_2), (19, .slice s.a2 (256 * V.n) s.c2), (25, .slice s.a3 (256 * R.len V) s.c3), (27, .slice (some ⟨v1_g_27_1, 0, none⟩) 0 0), (31, .slice s.a4 V.n s.c4), (36, .bool V.coh)] (A.X w oo aa ([A.vec .u8 v1_ao_14_1 v1_cp_14_2 (R.flat V.i (R.len V)), A.vec .u8 v1_ao_8_1 v1_cp_8_2 (R.flat V.d V.n)] ++ R.vs s V)) [(r, R.cells s V)] := by
    intro v1_ao_14_1 v1_ao_8_1 v1_cp_14_2 v1_cp_8_2 v1_g_27_1
    refine up _ _ _ _ _ ?_
    refine E.H.all [12, 18] (by kernel_rfl) (by simp) (List.forall_mem_cons.2 ⟨⟨_, rfl, ?_⟩, List.forall_mem_cons.2 ⟨⟨_, rfl, ?_⟩, fun _ h => (List.not_mem_nil h).elim⟩⟩)
    · skip
      refine A.G.empty (e := 5) (sz := 1) (by kernel_rfl) (by kernel_rfl) (by kernel_rfl) (fun v1_g_15_1 => ?_)
      refine E.H.back (fun w h => A.hpY0 h (by kernel_rfl)) ?_
      exact E.H.to _ _ _ (by kernel_rfl) ⟨by kernel_rfl, by kernel_rfl⟩ (List.Sublist.refl _) (dn _ _ _ _ _ (nd16 v1_ao_14_1 v1_ao_8_1 v1_cp_14_2 v1_cp_8_2 v1_g_15_1 v1_g_27_1))
    · skip
      refine A.G.empty (e := 5) (sz := 1) (by kernel_rfl) (by kernel_rfl) (by kernel_rfl) (fun v1_g_21_1 => ?_)
      refine E.H.back (fun w h => A.hpY0 h (by kernel_rfl)) ?_
      exact E.H.to _ _ _ (by kernel_rfl) ⟨by kernel_rfl, by kernel_rfl⟩ (List.Sublist.refl _) (dn _ _ _ _ _ (nd18 v1_ao_14_1 v1_ao_8_1 v1_cp_14_2 v1_cp_8_2 v1_g_21_1 v1_g_27_1))
  have nd3 : ∀ (v1_ao_14_1 : Option Addr) (v1_ao_8_1 : Option Addr) (v1_cp_14_2 : Nat) (v1_cp_8_2 : Nat), H 9 (E.bits 37 16617435135) [(2, .pointer none), (8, .slice v1_ao_8_1 (256 * V.n) v1_cp_8_2), (14, .slice v1_ao_14_1 (256 * R.len V) v1_cp_14_2), (19, .slice s.a2 (256 * V.n) s.c2), (25, .slice s.a3 (256 * R.len V) s.c3), (31, .slice s.a4 V.n s.c4), (36, .bool V.coh)] (A.X w oo aa ([A.vec .u8 v1_ao_14_1 v1_cp_14_2 (R.flat V.i (R.len V)), A.vec .u8 v1_ao_8_1 v1_cp_8_2 (R.flat V.d V.n)] ++ R.vs s V)) [(r, R.cells s V)] := by
    intro v1_ao_14_1 v1_ao_8_1 v1_cp_14_2 v1_cp_8_2
    refine up _ _ _ _ _ ?_
    refine E.H.all [12, 18, 24] (by kernel_rfl) (by simp) (List.forall_mem_cons.2 ⟨⟨_, rfl, ?_⟩, List.forall_mem_cons.2 ⟨⟨_, rfl, ?_⟩, List.forall_mem_cons.2 ⟨⟨_, rfl, ?_⟩, fun _ h => (List.not_mem_nil h).elim⟩⟩⟩)
    · skip
      refine A.G.empty (e := 5) (sz := 1) (by kernel_rfl) (by kernel_rfl) (by kernel_rfl) (fun v1_g_15_1 => ?_)
      refine E.H.back (fun w h => A.hpY0 h (by kernel_rfl)) ?_
      exact E.H.to _ _ _ (by kernel_rfl) ⟨by kernel_rfl, by kernel_rfl⟩ (List.Sublist.refl _) (dn _ _ _ _ _ (nd4 v1_ao_14_1 v1_ao_8_1 v1_cp_14_2 v1_cp_8_2 v1_g_15_1))
    · skip
      refine A.G.empty (e := 5) (sz := 1) (by kernel_rfl) (by kernel_rfl) (by kernel_rfl) (fun v1_g_21_1 => ?_)
      refine E.H.back (fun w h => A.hpY0 h (by kernel_rfl)) ?_
      exact E.H.to _ _ _ (by kernel_rfl) ⟨by kernel_rfl, by kernel_rfl⟩ (List.Sublist.refl _) (dn _ _ _ _ _ (nd17 v1_ao_14_1 v1_ao_8_1 v1_cp_14_2 v1_cp_8_2 v1_g_21_1))
    · skip
      refine A.G.empty (e := 3) (sz := 1) (by kernel_rfl) (by kernel_rfl) (by kernel_rfl) (fun v1_g_27_1 => ?_)
      refine E.H.back (fun w h => A.hpY0 h (by kernel_rfl)) ?_
      exact E.H.to _ _ _ (by kernel_rfl) ⟨by kernel_rfl, by kernel_rfl⟩ (List.Sublist.refl _) (dn _ _ _ _ _ (nd19 v1_ao_14_1 v1_ao_8_1 v1_cp_14_2 v1_cp_8_2 v1_g_27_1))
  have nd22 : ∀ (v1_ao_8_1 : Option Addr) (v1_cp_8_2 : Nat) (v1_g_15_1 : Nat) (v1_g_21_1 : Nat) (v1_g_27_1 : Nat) (v1_g_9_1 : Nat), H 7 (E.bits 37 16634476543) [(2, .pointer none), (8, .slice v1_ao_8_1 (256 * V.n) v1_cp_8_2), (9, .slice (some ⟨v1_g_9_1, 0, none⟩) 0 0), (13, .slice s.a1 (256 * R.len V) s.c1), (15, .slice (some ⟨v1_g_15_1, 0, none⟩) 0 0), (19, .slice s.a2 (256 * V.n) s.c2), (21, .slice (some ⟨v1_g_21_1, 0, none⟩) 0 0), (25, .slice s.a3 (256 * R.len V) s.c3), (27, .slice (some ⟨v1_g_27_1, 0, none⟩) 0 0), (31, .slice s.a4 V.n s.c4), (36, .bool V.coh)] (A.X w oo aa ([A.vec .u8 v1_ao_8_1 v1_cp_8_2 (R.flat V.d V.n)] ++ R.vs s V)) [(r, R.cells s V)] := by
    intro v1_ao_8_1 v1_cp_8_2 v1_g_15_1 v1_g_21_1 v1_g_27_1 v1_g_9_1
    refine up _ _ _ _ _ ?_
    refine E.H.all [11] (by kernel_rfl) (by simp) (List.forall_mem_cons.2 ⟨⟨_, rfl, ?_⟩, fun _ h => (List.not_mem_nil h).elim⟩)
    · skip
      refine A.G.dup (e := 5) (a0' := ⟨v1_g_9_1, 0, none⟩) (c2 := s.c1) 2 1 (R.flat V.i (R.len V)) rfl (by kernel_rfl) (by kernel_rfl) (R.flat_len _ _).symm (by kernel_rfl) (by kernel_rfl) (by rw [R.flat_len]; have := hw.n; have := R.len_le V; omega) (by rw [R.flat_len]; have := hw.n; have := R.len_le V; omega) (by kernel_rfl) (fun v1_ao_14_1 v1_cp_14_2 => ?_)
      refine E.H.back (fun w h => A.hpY0 h (by kernel_rfl)) ?_
      exact E.H.to _ _ _ (by kernel_rfl) ⟨by kernel_rfl, by kernel_rfl⟩ (List.Sublist.refl _) (dn _ _ _ _ _ (nd15 v1_ao_14_1 v1_ao_8_1 v1_cp_14_2 v1_cp_8_2 v1_g_15_1 v1_g_21_1 v1_g_27_1))
  have nd21 : ∀ (v1_ao_8_1 : Option Addr) (v1_cp_8_2 : Nat) (v1_g_15_1 : Nat) (v1_g_21_1 : Nat) (v1_g_9_1 : Nat), H 8 (E.bits 37 16617699327) [(2, .pointer none), (8, .slice v1_ao_8_1 (256 * V.n) v1_cp_8_2), (9, .slice (some ⟨v1_g_9_1, 0, none⟩) 0 0), (13, .slice s.a1 (256 * R.len V) s.c1), (15, .slice (some ⟨v1_g_15_1, 0, none⟩) 0 0), (19, .slice s.a2 (256 * V.n) s.c2), (21, .slice (some ⟨v1_g_21_1, 0, none⟩) 0 0), (25, .slice s.a3 (256 * R.len V) s.c3), (31, .slice s.a4 V.n s.c4), (36, .bool V.coh)] (A.X w oo aa ([A.vec .u8 v1_ao_8_1 v1_cp_8_2 (R.flat V.d V.n)] ++ R.vs s V)) [(r, R.cells s V)] := by
    intro v1_ao_8_1 v1_cp_8_2 v1_g_15_1 v1_g_21_1 v1_g_9_1
    refine up _ _ _ _ _ ?_
    refine E.H.all [11, 24] (by kernel_rfl) (by simp) (List.forall_mem_cons.2 ⟨⟨_, rfl, ?_⟩, List.forall_mem_cons.2 ⟨⟨_, rfl, ?_⟩, fun _ h => (List.not_mem_nil h).elim⟩⟩)
    · skip
      refine A.G.dup (e := 5) (a0' := ⟨v1_g_9_1, 0, none⟩) (c2 := s.c1) 2 1 (R.flat V.i (R.len V)) rfl (by kernel_rfl) (by kernel_rfl) (R.flat_len _ _).symm (by kernel_rfl) (by kernel_rfl) (by rw [R.flat_len]; have := hw.n; have := R.len_le V; omega) (by rw [R.flat_len]; have := hw.n; have := R.len_le V; omega) (by kernel_rfl) (fun v1_ao_14_1 v1_cp_14_2 => ?_)
      refine E.H.back (fun w h => A.hpY0 h (by kernel_rfl)) ?_
      exact E.H.to _ _ _ (by kernel_rfl) ⟨by kernel_rfl, by kernel_rfl⟩ (List.Sublist.refl _) (dn _ _ _ _ _ (nd14 v1_ao_14_1 v1_ao_8_1 v1_cp_14_2 v1_cp_8_2 v1_g_15_1 v1_g_21_1))
    · skip
      refine A.G.empty (e := 3) (sz := 1) (by kernel_rfl) (by kernel_rfl) (by kernel_rfl) (fun v1_g_27_1 => ?_)
      refine E.H.back (fun w h => A.hpY0 h (by kernel_rfl)) ?_
      exact E.H.to _ _ _ (by kernel_rfl) ⟨by kernel_rfl, by kernel_rfl⟩ (List.Sublist.refl _) (dn _ _ _ _ _ (nd22 v1_ao_8_1 v1_cp_8_2 v1_g_15_1 v1_g_21_1 v1_g_27_1 v1_g_9_1))
  have nd23 : ∀ (v1_ao_8_1 : Option Addr) (v1_cp_8_2 : Nat) (v1_g_15_1 : Nat) (v1_g_27_1 : Nat) (v1_g_9_1 : Nat), H 8 (E.bits 37 16634214399) [(2, .pointer none), (8, .slice v1_ao_8_1 (256 * V.n) v1_cp_8_2), (9, .slice (some ⟨v1_g_9_1, 0, none⟩) 0 0), (13, .slice s.a1 (256 * R.len V) s.c1), (15, .slice (some ⟨v1_g_15_1, 0, none⟩) 0 0), (19, .slice s.a2 (256 * V.n) s.c2), (25, .slice s.a3 (256 * R.len V) s.c3), (27, .slice (some ⟨v1_g_27_1, 0, none⟩) 0 0), (31, .slice s.a4 V.n s.c4), (36, .bool V.coh)] (A.X w oo aa ([A.vec .u8 v1_ao_8_1 v1_cp_8_2 (R.flat V.d V.n)] ++ R.vs s V)) [(r, R.cells s V)] := by
    intro v1_ao_8_1 v1_cp_8_2 v1_g_15_1 v1_g_27_1 v1_g_9_1
    refine up _ _ _ _ _ ?_
    refine E.H.all [11, 18] (by kernel_rfl) (by simp) (List.forall_mem_cons.2 ⟨⟨_, rfl, ?_⟩, List.forall_mem_cons.2 ⟨⟨_, rfl, ?_⟩, fun _ h => (List.not_mem_nil h).elim⟩⟩)
    · skip
      refine A.G.dup (e := 5) (a0' := ⟨v1_g_9_1, 0, none⟩) (c2 := s.c1) 2 1 (R.flat V.i (R.len V)) rfl (by kernel_rfl) (by kernel_rfl) (R.flat_len _ _).symm (by kernel_rfl) (by kernel_rfl) (by rw [R.flat_len]; have := hw.n; have := R.len_le V; omega) (by rw [R.flat_len]; have := hw.n; have := R.len_le V; omega) (by kernel_rfl) (fun v1_ao_14_1 v1_cp_14_2 => ?_)
      refine E.H.back (fun w h => A.hpY0 h (by kernel_rfl)) ?_
      exact E.H.to _ _ _ (by kernel_rfl) ⟨by kernel_rfl, by kernel_rfl⟩ (List.Sublist.refl _) (dn _ _ _ _ _ (nd16 v1_ao_14_1 v1_ao_8_1 v1_cp_14_2 v1_cp_8_2 v1_g_15_1 v1_g_27_1))
    · skip
      refine A.G.empty (e := 5) (sz := 1) (by kernel_rfl) (by kernel_rfl) (by kernel_rfl) (fun v1_g_21_1 => ?_)
      refine E.H.back (fun w h => A.hpY0 h (by kernel_rfl)) ?_
      exact E.H.to _ _ _ (by kernel_rfl) ⟨by kernel_rfl, by kernel_rfl⟩ (List.Sublist.refl _) (dn _ _ _ _ _ (nd22 v1_ao_8_1 v1_cp_8_2 v1_g_15_1 v1_g_21_1 v1_g_27_1 v1_g_9_1))
  have nd20 : ∀ (v1_ao_8_1 : Option Addr) (v1_cp_8_2 : Nat) (v1_g_15_1 : Nat) (v1_g_9_1 : Nat), H 9 (E.bits 37 16617437183) [(2, .pointer none), (8, .slice v1_ao_8_1 (256 * V.n) v1_cp_8_2), (9, .slice (some ⟨v1_g_9_1, 0, none⟩) 0 0), (13, .slice s.a1 (256 * R.len V) s.c1), (15, .slice (some ⟨v1_g_15_1, 0, none⟩) 0 0), (19, .slice s.a2 (256 * V.n) s.c2), (25, .slice s.a3 (256 * R.len V) s.c3), (31, .slice s.a4 V.n s.c4), (36, .bool V.coh)] (A.X w oo aa ([A.vec .u8 v1_ao_8_1 v1_cp_8_2 (R.flat V.d V.n)] ++ R.vs s V)) [(r, R.cells s V)] := by
    intro v1_ao_8_1 v1_cp_8_2 v1_g_15_1 v1_g_9_1
    refine up _ _ _ _ _ ?_
    refine E.H.all [11, 18, 24] (by kernel_rfl) (by simp) (List.forall_mem_cons.2 ⟨⟨_, rfl, ?_⟩, List.forall_mem_cons.2 ⟨⟨_, rfl, ?_⟩, List.forall_mem_cons.2 ⟨⟨_, rfl, ?_⟩, fun _ h => (List.not_mem_nil h).elim⟩⟩⟩)
    · skip
      refine A.G.dup (e := 5) (a0' := ⟨v1_g_9_1, 0, none⟩) (c2 := s.c1) 2 1 (R.flat V.i (R.len V)) rfl (by kernel_rfl) (by kernel_rfl) (R.flat_len _ _).symm (by kernel_rfl) (by kernel_rfl) (by rw [R.flat_len]; have := hw.n; have := R.len_le V; omega) (by rw [R.flat_len]; have := hw.n; have := R.len_le V; omega) (by kernel_rfl) (fun v1_ao_14_1 v1_cp_14_2 => ?_)
      refine E.H.back (fun w h => A.hpY0 h (by kernel_rfl)) ?_
      exact E.H.to _ _ _ (by kernel_rfl) ⟨by kernel_rfl, by kernel_rfl⟩ (List.Sublist.refl _) (dn _ _ _ _ _ (nd4 v1_ao_14_1 v1_ao_8_1 v1_cp_14_2 v1_cp_8_2 v1_g_15_1))
    · skip
      refine A.G.empty (e := 5) (sz := 1) (by kernel_rfl) (by kernel_rfl) (by kernel_rfl) (fun v1_g_21_1 => ?_)
      refine E.H.back (fun w h => A.hpY0 h (by kernel_rfl)) ?_
      exact E.H.to _ _ _ (by kernel_rfl) ⟨by kernel_rfl, by kernel_rfl⟩ (List.Sublist.refl _) (dn _ _ _ _ _ (nd21 v1_ao_8_1 v1_cp_8_2 v1_g_15_1 v1_g_21_1 v1_g_9_1))
    · skip
      refine A.G.empty (e := 3) (sz := 1) (by kernel_rfl) (by kernel_rfl) (by kernel_rfl) (fun v1_g_27_1 => ?_)
      refine E.H.back (fun w h => A.hpY0 h (by kernel_rfl)) ?_
      exact E.H.to _ _ _ (by kernel_rfl) ⟨by kernel_rfl, by kernel_rfl⟩ (List.Sublist.refl _) (dn _ _ _ _ _ (nd23 v1_ao_8_1 v1_cp_8_2 v1_g_15_1 v1_g_27_1 v1_g_9_1))
  have nd25 : ∀ (v1_ao_8_1 : Option Addr) (v1_cp_8_2 : Nat) (v1_g_21_1 : Nat) (v1_g_27_1 : Nat) (v1_g_9_1 : Nat), H 8 (E.bits 37 16634472447) [(2, .pointer none), (8, .slice v1_ao_8_1 (256 * V.n) v1_cp_8_2), (9, .slice (some ⟨v1_g_9_1, 0, none⟩) 0 0), (13, .slice s.a1 (256 * R.len V) s.c1), (19, .slice s.a2 (256 * V.n) s.c2), (21, .slice (some ⟨v1_g_21_1, 0, none⟩) 0 0), (25, .slice s.a3 (256 * R.len V) s.c3), (27, .slice (some ⟨v1_g_27_1, 0, none⟩) 0 0), (31, .slice s.a4 V.n s.c4), (36, .bool V.coh)] (A.X w oo aa ([A.vec .u8 v1_ao_8_1 v1_cp_8_2 (R.flat V.d V.n)] ++ R.vs s V)) [(r, R.cells s V)] := by
    intro v1_ao_8_1 v1_cp_8_2 v1_g_21_1 v1_g_27_1 v1_g_9_1
    refine up _ _ _ _ _ ?_
    refine E.H.all [11, 12] (by kernel_rfl) (by simp) (List.forall_mem_cons.2 ⟨⟨_, rfl, ?_⟩, List.forall_mem_cons.2 ⟨⟨_, rfl, ?_⟩, fun _ h => (List.not_mem_nil h).elim⟩⟩)
    · skip
      refine A.G.dup (e := 5) (a0' := ⟨v1_g_9_1, 0, none⟩) (c2 := s.c1) 2 1 (R.flat V.i (R.len V)) rfl (by kernel_rfl) (by kernel_rfl) (R.flat_len _ _).symm (by kernel_rfl) (by kernel_rfl) (by rw [R.flat_len]; have := hw.n; have := R.len_le V; omega) (by rw [R.flat_len]; have := hw.n; have := R.len_le V; omega) (by kernel_rfl) (fun v1_ao_14_1 v1_cp_14_2 => ?_)
      refine E.H.back (fun w h => A.hpY0 h (by kernel_rfl)) ?_
      exact E.H.to _ _ _ (by kernel_rfl) ⟨by kernel_rfl, by kernel_rfl⟩ (List.Sublist.refl _) (dn _ _ _ _ _ (nd18 v1_ao_14_1 v1_ao_8_1 v1_cp_14_2 v1_cp_8_2 v1_g_21_1 v1_g_27_1))
    · skip
      refine A.G.empty (e := 5) (sz := 1) (by kernel_rfl) (by kernel_rfl) (by kernel_rfl) (fun v1_g_15_1 => ?_)
      refine E.H.back (fun w h => A.hpY0 h (by kernel_rfl)) ?_
      exact E.H.to _ _ _ (by kernel_rfl) ⟨by kernel_rfl, by kernel_rfl⟩ (List.Sublist.refl _) (dn _ _ _ _ _ (nd22 v1_ao_8_1 v1_cp_8_2 v1_g_15_1 v1_g_21_1 v1_g_27_1 v1_g_9_1))
  have nd24 : ∀ (v1_ao_8_1 : Option Addr) (v1_cp_8_2 : Nat) (v1_g_21_1 : Nat) (v1_g_9_1 : Nat), H 9 (E.bits 37 16617695231) [(2, .pointer none), (8, .slice v1_ao_8_1 (256 * V.n) v1_cp_8_2), (9, .slice (some ⟨v1_g_9_1, 0, none⟩) 0 0), (13, .slice s.a1 (256 * R.len V) s.c1), (19, .slice s.a2 (256 * V.n) s.c2), (21, .slice (some ⟨v1_g_21_1, 0, none⟩) 0 0), (25, .slice s.a3 (256 * R.len V) s.c3), (31, .slice s.a4 V.n s.c4), (36, .bool V.coh)] (A.X w oo aa ([A.vec .u8 v1_ao_8_1 v1_cp_8_2 (R.flat V.d V.n)] ++ R.vs s V)) [(r, R.cells s V)] := by
    intro v1_ao_8_1 v1_cp_8_2 v1_g_21_1 v1_g_9_1
    refine up _ _ _ _ _ ?_
    refine E.H.all [11, 12, 24] (by kernel_rfl) (by simp) (List.forall_mem_cons.2 ⟨⟨_, rfl, ?_⟩, List.forall_mem_cons.2 ⟨⟨_, rfl, ?_⟩, List.forall_mem_cons.2 ⟨⟨_, rfl, ?_⟩, fun _ h => (List.not_mem_nil h).elim⟩⟩⟩)
    · skip
      refine A.G.dup (e := 5) (a0' := ⟨v1_g_9_1, 0, none⟩) (c2 := s.c1) 2 1 (R.flat V.i (R.len V)) rfl (by kernel_rfl) (by kernel_rfl) (R.flat_len _ _).symm (by kernel_rfl) (by kernel_rfl) (by rw [R.flat_len]; have := hw.n; have := R.len_le V; omega) (by rw [R.flat_len]; have := hw.n; have := R.len_le V; omega) (by kernel_rfl) (fun v1_ao_14_1 v1_cp_14_2 => ?_)
      refine E.H.back (fun w h => A.hpY0 h (by kernel_rfl)) ?_
      exact E.H.to _ _ _ (by kernel_rfl) ⟨by kernel_rfl, by kernel_rfl⟩ (List.Sublist.refl _) (dn _ _ _ _ _ (nd17 v1_ao_14_1 v1_ao_8_1 v1_cp_14_2 v1_cp_8_2 v1_g_21_1))
    · skip
      refine A.G.empty (e := 5) (sz := 1) (by kernel_rfl) (by kernel_rfl) (by kernel_rfl) (fun v1_g_15_1 => ?_)
      refine E.H.back (fun w h => A.hpY0 h (by kernel_rfl)) ?_
      exact E.H.to _ _ _ (by kernel_rfl) ⟨by kernel_rfl, by kernel_rfl⟩ (List.Sublist.refl _) (dn _ _ _ _ _ (nd21 v1_ao_8_1 v1_cp_8_2 v1_g_15_1 v1_g_21_1 v1_g_9_1))
    · skip
      refine A.G.empty (e := 3) (sz := 1) (by kernel_rfl) (by kernel_rfl) (by kernel_rfl) (fun v1_g_27_1 => ?_)
      refine E.H.back (fun w h => A.hpY0 h (by kernel_rfl)) ?_
      exact E.H.to _ _ _ (by kernel_rfl) ⟨by kernel_rfl, by kernel_rfl⟩ (List.Sublist.refl _) (dn _ _ _ _ _ (nd25 v1_ao_8_1 v1_cp_8_2 v1_g_21_1 v1_g_27_1 v1_g_9_1))
  have nd26 : ∀ (v1_ao_8_1 : Option Addr) (v1_cp_8_2 : Nat) (v1_g_27_1 : Nat) (v1_g_9_1 : Nat), H 9 (E.bits 37 16634210303) [(2, .pointer none), (8, .slice v1_ao_8_1 (256 * V.n) v1_cp_8_2), (9, .slice (some ⟨v1_g_9_1, 0, none⟩) 0 0), (13, .slice s.a1 (256 * R.len V) s.c1), (19, .slice s.a2 (256 * V.n) s.c2), (25, .slice s.a3 (256 * R.len V) s.c3), (27, .slice (some ⟨v1_g_27_1, 0, none⟩) 0 0), (31, .slice s.a4 V.n s.c4), (36, .bool V.coh)] (A.X w oo aa ([A.vec .u8 v1_ao_8_1 v1_cp_8_2 (R.flat V.d V.n)] ++ R.vs s V)) [(r, R.cells s V)] := by
    intro v1_ao_8_1 v1_cp_8_2 v1_g_27_1 v1_g_9_1
    refine up _ _ _ _ _ ?_
    refine E.H.all [11, 12, 18] (by kernel_rfl) (by simp) (List.forall_mem_cons.2 ⟨⟨_, rfl, ?_⟩, List.forall_mem_cons.2 ⟨⟨_, rfl, ?_⟩, List.forall_mem_cons.2 ⟨⟨_, rfl, ?_⟩, fun _ h => (List.not_mem_nil h).elim⟩⟩⟩)
    · skip
      refine A.G.dup (e := 5) (a0' := ⟨v1_g_9_1, 0, none⟩) (c2 := s.c1) 2 1 (R.flat V.i (R.len V)) rfl (by kernel_rfl) (by kernel_rfl) (R.flat_len _ _).symm (by kernel_rfl) (by kernel_rfl) (by rw [R.flat_len]; have := hw.n; have := R.len_le V; omega) (by rw [R.flat_len]; have := hw.n; have := R.len_le V; omega) (by kernel_rfl) (fun v1_ao_14_1 v1_cp_14_2 => ?_)
      refine E.H.back (fun w h => A.hpY0 h (by kernel_rfl)) ?_
      exact E.H.to _ _ _ (by kernel_rfl) ⟨by kernel_rfl, by kernel_rfl⟩ (List.Sublist.refl _) (dn _ _ _ _ _ (nd19 v1_ao_14_1 v1_ao_8_1 v1_cp_14_2 v1_cp_8_2 v1_g_27_1))
    · skip
      refine A.G.empty (e := 5) (sz := 1) (by kernel_rfl) (by kernel_rfl) (by kernel_rfl) (fun v1_g_15_1 => ?_)
      refine E.H.back (fun w h => A.hpY0 h (by kernel_rfl)) ?_
      exact E.H.to _ _ _ (by kernel_rfl) ⟨by kernel_rfl, by kernel_rfl⟩ (List.Sublist.refl _) (dn _ _ _ _ _ (nd23 v1_ao_8_1 v1_cp_8_2 v1_g_15_1 v1_g_27_1 v1_g_9_1))
    · skip
      refine A.G.empty (e := 5) (sz := 1) (by kernel_rfl) (by kernel_rfl) (by kernel_rfl) (fun v1_g_21_1 => ?_)
      refine E.H.back (fun w h => A.hpY0 h (by kernel_rfl)) ?_
      exact E.H.to _ _ _ (by kernel_rfl) ⟨by kernel_rfl, by kernel_rfl⟩ (List.Sublist.refl _) (dn _ _ _ _ _ (nd25 v1_ao_8_1 v1_cp_8_2 v1_g_21_1 v1_g_27_1 v1_g_9_1))
  have nd2 : ∀ (v1_ao_8_1 : Option Addr) (v1_cp_8_2 : Nat) (v1_g_9_1 : Nat), H 10 (E.bits 37 16617433087) [(2, .pointer none), (8, .slice v1_ao_8_1 (256 * V.n) v1_cp_8_2), (9, .slice (some ⟨v1_g_9_1, 0, none⟩) 0 0), (13, .slice s.a1 (256 * R.len V) s.c1), (19, .slice s.a2 (256 * V.n) s.c2), (25, .slice s.a3 (256 * R.len V) s.c3), (31, .slice s.a4 V.n s.c4), (36, .bool V.coh)] (A.X w oo aa ([A.vec .u8 v1_ao_8_1 v1_cp_8_2 (R.flat V.d V.n)] ++ R.vs s V)) [(r, R.cells s V)] := by
    intro v1_ao_8_1 v1_cp_8_2 v1_g_9_1
    refine up _ _ _ _ _ ?_
    refine E.H.all [11, 12, 18, 24] (by kernel_rfl) (by simp) (List.forall_mem_cons.2 ⟨⟨_, rfl, ?_⟩, List.forall_mem_cons.2 ⟨⟨_, rfl, ?_⟩, List.forall_mem_cons.2 ⟨⟨_, rfl, ?_⟩, List.forall_mem_cons.2 ⟨⟨_, rfl, ?_⟩, fun _ h => (List.not_mem_nil h).elim⟩⟩⟩⟩)
    · skip
      refine A.G.dup (e := 5) (a0' := ⟨v1_g_9_1, 0, none⟩) (c2 := s.c1) 2 1 (R.flat V.i (R.len V)) rfl (by kernel_rfl) (by kernel_rfl) (R.flat_len _ _).symm (by kernel_rfl) (by kernel_rfl) (by rw [R.flat_len]; have := hw.n; have := R.len_le V; omega) (by rw [R.flat_len]; have := hw.n; have := R.len_le V; omega) (by kernel_rfl) (fun v1_ao_14_1 v1_cp_14_2 => ?_)
      refine E.H.back (fun w h => A.hpY0 h (by kernel_rfl)) ?_
      exact E.H.to _ _ _ (by kernel_rfl) ⟨by kernel_rfl, by kernel_rfl⟩ (List.Sublist.refl _) (dn _ _ _ _ _ (nd3 v1_ao_14_1 v1_ao_8_1 v1_cp_14_2 v1_cp_8_2))
    · skip
      refine A.G.empty (e := 5) (sz := 1) (by kernel_rfl) (by kernel_rfl) (by kernel_rfl) (fun v1_g_15_1 => ?_)
      refine E.H.back (fun w h => A.hpY0 h (by kernel_rfl)) ?_
      exact E.H.to _ _ _ (by kernel_rfl) ⟨by kernel_rfl, by kernel_rfl⟩ (List.Sublist.refl _) (dn _ _ _ _ _ (nd20 v1_ao_8_1 v1_cp_8_2 v1_g_15_1 v1_g_9_1))
    · skip
      refine A.G.empty (e := 5) (sz := 1) (by kernel_rfl) (by kernel_rfl) (by kernel_rfl) (fun v1_g_21_1 => ?_)
      refine E.H.back (fun w h => A.hpY0 h (by kernel_rfl)) ?_
      exact E.H.to _ _ _ (by kernel_rfl) ⟨by kernel_rfl, by kernel_rfl⟩ (List.Sublist.refl _) (dn _ _ _ _ _ (nd24 v1_ao_8_1 v1_cp_8_2 v1_g_21_1 v1_g_9_1))
    · skip
      refine A.G.empty (e := 3) (sz := 1) (by kernel_rfl) (by kernel_rfl) (by kernel_rfl) (fun v1_g_27_1 => ?_)
      refine E.H.back (fun w h => A.hpY0 h (by kernel_rfl)) ?_
      exact E.H.to _ _ _ (by kernel_rfl) ⟨by kernel_rfl, by kernel_rfl⟩ (List.Sublist.refl _) (dn _ _ _ _ _ (nd26 v1_ao_8_1 v1_cp_8_2 v1_g_27_1 v1_g_9_1))
  have nd29 : ∀ (v1_ao_8_1 : Option Addr) (v1_cp_8_2 : Nat) (v1_g_15_1 : Nat) (v1_g_21_1 : Nat) (v1_g_27_1 : Nat), H 8 (E.bits 37 16634476479) [(2, .pointer none), (8, .slice v1_ao_8_1 (256 * V.n) v1_cp_8_2), (13, .slice s.a1 (256 * R.len V) s.c1), (15, .slice (some ⟨v1_g_15_1, 0, none⟩) 0 0), (19, .slice s.a2 (256 * V.n) s.c2), (21, .slice (some ⟨v1_g_21_1, 0, none⟩) 0 0), (25, .slice s.a3 (256 * R.len V) s.c3), (27, .slice (some ⟨v1_g_27_1, 0, none⟩) 0 0), (31, .slice s.a4 V.n s.c4), (36, .bool V.coh)] (A.X w oo aa ([A.vec .u8 v1_ao_8_1 v1_cp_8_2 (R.flat V.d V.n)] ++ R.vs s V)) [(r, R.cells s V)] := by
    intro v1_ao_8_1 v1_cp_8_2 v1_g_15_1 v1_g_21_1 v1_g_27_1
    refine up _ _ _ _ _ ?_
    refine E.H.all [6] (by kernel_rfl) (by simp) (List.forall_mem_cons.2 ⟨⟨_, rfl, ?_⟩, fun _ h => (List.not_mem_nil h).elim⟩)
    · skip
      refine A.G.empty (e := 5) (sz := 1) (by kernel_rfl) (by kernel_rfl) (by kernel_rfl) (fun v1_g_9_1 => ?_)
      refine E.H.back (fun w h => A.hpY0 h (by kernel_rfl)) ?_
      exact E.H.to _ _ _ (by kernel_rfl) ⟨by kernel_rfl, by kernel_rfl⟩ (List.Sublist.refl _) (dn _ _ _ _ _ (nd22 v1_ao_8_1 v1_cp_8_2 v1_g_15_1 v1_g_21_1 v1_g_27_1 v1_g_9_1))
  have nd28 : ∀ (v1_ao_8_1 : Option Addr) (v1_cp_8_2 : Nat) (v1_g_15_1 : Nat) (v1_g_21_1 : Nat), H 9 (E.bits 37 16617699263) [(2, .pointer none), (8, .slice v1_ao_8_1 (256 * V.n) v1_cp_8_2), (13, .slice s.a1 (256 * R.len V) s.c1), (15, .slice (some ⟨v1_g_15_1, 0, none⟩) 0 0), (19, .slice s.a2 (256 * V.n) s.c2), (21, .slice (some ⟨v1_g_21_1, 0, none⟩) 0 0), (25, .slice s.a3 (256 * R.len V) s.c3), (31, .slice s.a4 V.n s.c4), (36, .bool V.coh)] (A.X w oo aa ([A.vec .u8 v1_ao_8_1 v1_cp_8_2 (R.flat V.d V.n)] ++ R.vs s V)) [(r, R.cells s V)] := by
    intro v1_ao_8_1 v1_cp_8_2 v1_g_15_1 v1_g_21_1
    refine up _ _ _ _ _ ?_
    refine E.H.all [6, 24] (by kernel_rfl) (by simp) (List.forall_mem_cons.2 ⟨⟨_, rfl, ?_⟩, List.forall_mem_cons.2 ⟨⟨_, rfl, ?_⟩, fun _ h => (List.not_mem_nil h).elim⟩⟩)
    · skip
      refine A.G.empty (e := 5) (sz := 1) (by kernel_rfl) (by kernel_rfl) (by kernel_rfl) (fun v1_g_9_1 => ?_)
      refine E.H.back (fun w h => A.hpY0 h (by kernel_rfl)) ?_
      exact E.H.to _ _ _ (by kernel_rfl) ⟨by kernel_rfl, by kernel_rfl⟩ (List.Sublist.refl _) (dn _ _ _ _ _ (nd21 v1_ao_8_1 v1_cp_8_2 v1_g_15_1 v1_g_21_1 v1_g_9_1))
    · skip
      refine A.G.empty (e := 3) (sz := 1) (by kernel_rfl) (by kernel_rfl) (by kernel_rfl) (fun v1_g_27_1 => ?_)
      refine E.H.back (fun w h => A.hpY0 h (by kernel_rfl)) ?_
      exact E.H.to _ _ _ (by kernel_rfl) ⟨by kernel_rfl, by kernel_rfl⟩ (List.Sublist.refl _) (dn _ _ _ _ _ (nd29 v1_ao_8_1 v1_cp_8_2 v1_g_15_1 v1_g_21_1 v1_g_27_1))
  have nd30 : ∀ (v1_ao_8_1 : Option Addr) (v1_cp_8_2 : Nat) (v1_g_15_1 : Nat) (v1_g_27_1 : Nat), H 9 (E.bits 37 16634214335) [(2, .pointer none), (8, .slice v1_ao_8_1 (256 * V.n) v1_cp_8_2), (13, .slice s.a1 (256 * R.len V) s.c1), (15, .slice (some ⟨v1_g_15_1, 0, none⟩) 0 0), (19, .slice s.a2 (256 * V.n) s.c2), (25, .slice s.a3 (256 * R.len V) s.c3), (27, .slice (some ⟨v1_g_27_1, 0, none⟩) 0 0), (31, .slice s.a4 V.n s.c4), (36, .bool V.coh)] (A.X w oo aa ([A.vec .u8 v1_ao_8_1 v1_cp_8_2 (R.flat V.d V.n)] ++ R.vs s V)) [(r, R.cells s V)] := by
    intro v1_ao_8_1 v1_cp_8_2 v1_g_15_1 v1_g_27_1
    refine up _ _ _ _ _ ?_
    refine E.H.all [6, 18] (by kernel_rfl) (by simp) (List.forall_mem_cons.2 ⟨⟨_, rfl, ?_⟩, List.forall_mem_cons.2 ⟨⟨_, rfl, ?_⟩, fun _ h => (List.not_mem_nil h).elim⟩⟩)
    · skip
      refine A.G.empty (e := 5) (sz := 1) (by kernel_rfl) (by kernel_rfl) (by kernel_rfl) (fun v1_g_9_1 => ?_)
      refine E.H.back (fun w h => A.hpY0 h (by kernel_rfl)) ?_
      exact E.H.to _ _ _ (by kernel_rfl) ⟨by kernel_rfl, by kernel_rfl⟩ (List.Sublist.refl _) (dn _ _ _ _ _ (nd23 v1_ao_8_1 v1_cp_8_2 v1_g_15_1 v1_g_27_1 v1_g_9_1))
    · skip
      refine A.G.empty (e := 5) (sz := 1) (by kernel_rfl) (by kernel_rfl) (by kernel_rfl) (fun v1_g_21_1 => ?_)
      refine E.H.back (fun w h => A.hpY0 h (by kernel_rfl)) ?_
      exact E.H.to _ _ _ (by kernel_rfl) ⟨by kernel_rfl, by kernel_rfl⟩ (List.Sublist.refl _) (dn _ _ _ _ _ (nd29 v1_ao_8_1 v1_cp_8_2 v1_g_15_1 v1_g_21_1 v1_g_27_1))
  have nd27 : ∀ (v1_ao_8_1 : Option Addr) (v1_cp_8_2 : Nat) (v1_g_15_1 : Nat), H 10 (E.bits 37 16617437119) [(2, .pointer none), (8, .slice v1_ao_8_1 (256 * V.n) v1_cp_8_2), (13, .slice s.a1 (256 * R.len V) s.c1), (15, .slice (some ⟨v1_g_15_1, 0, none⟩) 0 0), (19, .slice s.a2 (256 * V.n) s.c2), (25, .slice s.a3 (256 * R.len V) s.c3), (31, .slice s.a4 V.n s.c4), (36, .bool V.coh)] (A.X w oo aa ([A.vec .u8 v1_ao_8_1 v1_cp_8_2 (R.flat V.d V.n)] ++ R.vs s V)) [(r, R.cells s V)] := by
    intro v1_ao_8_1 v1_cp_8_2 v1_g_15_1
    refine up _ _ _ _ _ ?_
    refine E.H.all [6, 18, 24] (by kernel_rfl) (by simp) (List.forall_mem_cons.2 ⟨⟨_, rfl, ?_⟩, List.forall_mem_cons.2 ⟨⟨_, rfl, ?_⟩, List.forall_mem_cons.2 ⟨⟨_, rfl, ?_⟩, fun _ h => (List.not_mem_nil h).elim⟩⟩⟩)
    · skip
      refine A.G.empty (e := 5) (sz := 1) (by kernel_rfl) (by kernel_rfl) (by kernel_rfl) (fun v1_g_9_1 => ?_)
      refine E.H.back (fun w h => A.hpY0 h (by kernel_rfl)) ?_
      exact E.H.to _ _ _ (by kernel_rfl) ⟨by kernel_rfl, by kernel_rfl⟩ (List.Sublist.refl _) (dn _ _ _ _ _ (nd20 v1_ao_8_1 v1_cp_8_2 v1_g_15_1 v1_g_9_1))
    · skip
      refine A.G.empty (e := 5) (sz := 1) (by kernel_rfl) (by kernel_rfl) (by kernel_rfl) (fun v1_g_21_1 => ?_)
      refine E.H.back (fun w h => A.hpY0 h (by kernel_rfl)) ?_
      exact E.H.to _ _ _ (by kernel_rfl) ⟨by kernel_rfl, by kernel_rfl⟩ (List.Sublist.refl _) (dn _ _ _ _ _ (nd28 v1_ao_8_1 v1_cp_8_2 v1_g_15_1 v1_g_21_1))
    · skip
      refine A.G.empty (e := 3) (sz := 1) (by kernel_rfl) (by kernel_rfl) (by kernel_rfl) (fun v1_g_27_1 => ?_)
      refine E.H.back (fun w h => A.hpY0 h (by kernel_rfl)) ?_
      exact E.H.to _ _ _ (by kernel_rfl) ⟨by kernel_rfl, by kernel_rfl⟩ (List.Sublist.refl _) (dn _ _ _ _ _ (nd30 v1_ao_8_1 v1_cp_8_2 v1_g_15_1 v1_g_27_1))
  have nd32 : ∀ (v1_ao_8_1 : Option Addr) (v1_cp_8_2 : Nat) (v1_g_21_1 : Nat) (v1_g_27_1 : Nat), H 9 (E.bits 37 16634472383) [(2, .pointer none), (8, .slice v1_ao_8_1 (256 * V.n) v1_cp_8_2), (13, .slice s.a1 (256 * R.len V) s.c1), (19, .slice s.a2 (256 * V.n) s.c2), (21, .slice (some ⟨v1_g_21_1, 0, none⟩) 0 0), (25, .slice s.a3 (256 * R.len V) s.c3), (27, .slice (some ⟨v1_g_27_1, 0, none⟩) 0 0), (31, .slice s.a4 V.n s.c4), (36, .bool V.coh)] (A.X w oo aa ([A.vec .u8 v1_ao_8_1 v1_cp_8_2 (R.flat V.d V.n)] ++ R.vs s V)) [(r, R.cells s V)] := by
    intro v1_ao_8_1 v1_cp_8_2 v1_g_21_1 v1_g_27_1
    refine up _ _ _ _ _ ?_
    refine E.H.all [6, 12] (by kernel_rfl) (by simp) (List.forall_mem_cons.2 ⟨⟨_, rfl, ?_⟩, List.forall_mem_cons.2 ⟨⟨_, rfl, ?_⟩, fun _ h => (List.not_mem_nil h).elim⟩⟩)
    · skip
      refine A.G.empty (e := 5) (sz := 1) (by kernel_rfl) (by kernel_rfl) (by kernel_rfl) (fun v1_g_9_1 => ?_)
      refine E.H.back (fun w h => A.hpY0 h (by kernel_rfl)) ?_
      exact E.H.to _ _ _ (by kernel_rfl) ⟨by kernel_rfl, by kernel_rfl⟩ (List.Sublist.refl _) (dn _ _ _ _ _ (nd25 v1_ao_8_1 v1_cp_8_2 v1_g_21_1 v1_g_27_1 v1_g_9_1))
    · skip
      refine A.G.empty (e := 5) (sz := 1) (by kernel_rfl) (by kernel_rfl) (by kernel_rfl) (fun v1_g_15_1 => ?_)
      refine E.H.back (fun w h => A.hpY0 h (by kernel_rfl)) ?_
      exact E.H.to _ _ _ (by kernel_rfl) ⟨by kernel_rfl, by kernel_rfl⟩ (List.Sublist.refl _) (dn _ _ _ _ _ (nd29 v1_ao_8_1 v1_cp_8_2 v1_g_15_1 v1_g_21_1 v1_g_27_1))
  have nd31 : ∀ (v1_ao_8_1 : Option Addr) (v1_cp_8_2 : Nat) (v1_g_21_1 : Nat), H 10 (E.bits 37 16617695167) [(2, .pointer none), (8, .slice v1_ao_8_1 (256 * V.n) v1_cp_8_2), (13, .slice s.a1 (256 * R.len V) s.c1), (19, .slice s.a2 (256 * V.n) s.c2), (21, .slice (some ⟨v1_g_21_1, 0, none⟩) 0 0), (25, .slice s.a3 (256 * R.len V) s.c3), (31, .slice s.a4 V.n s.c4), (36, .bool V.coh)] (A.X w oo aa ([A.vec .u8 v1_ao_8_1 v1_cp_8_2 (R.flat V.d V.n)] ++ R.vs s V)) [(r, R.cells s V)] := by
    intro v1_ao_8_1 v1_cp_8_2 v1_g_21_1
    refine up _ _ _ _ _ ?_
    refine E.H.all [6, 12, 24] (by kernel_rfl) (by simp) (List.forall_mem_cons.2 ⟨⟨_, rfl, ?_⟩, List.forall_mem_cons.2 ⟨⟨_, rfl, ?_⟩, List.forall_mem_cons.2 ⟨⟨_, rfl, ?_⟩, fun _ h => (List.not_mem_nil h).elim⟩⟩⟩)
    · skip
      refine A.G.empty (e := 5) (sz := 1) (by kernel_rfl) (by kernel_rfl) (by kernel_rfl) (fun v1_g_9_1 => ?_)
      refine E.H.back (fun w h => A.hpY0 h (by kernel_rfl)) ?_
      exact E.H.to _ _ _ (by kernel_rfl) ⟨by kernel_rfl, by kernel_rfl⟩ (List.Sublist.refl _) (dn _ _ _ _ _ (nd24 v1_ao_8_1 v1_cp_8_2 v1_g_21_1 v1_g_9_1))
    · skip
      refine A.G.empty (e := 5) (sz := 1) (by kernel_rfl) (by kernel_rfl) (by kernel_rfl) (fun v1_g_15_1 => ?_)
      refine E.H.back (fun w h => A.hpY0 h (by kernel_rfl)) ?_
      exact E.H.to _ _ _ (by kernel_rfl) ⟨by kernel_rfl, by kernel_rfl⟩ (List.Sublist.refl _) (dn _ _ _ _ _ (nd28 v1_ao_8_1 v1_cp_8_2 v1_g_15_1 v1_g_21_1))
    · skip
      refine A.G.empty (e := 3) (sz := 1) (by kernel_rfl) (by kernel_rfl) (by kernel_rfl) (fun v1_g_27_1 => ?_)
      refine E.H.back (fun w h => A.hpY0 h (by kernel_rfl)) ?_
      exact E.H.to _ _ _ (by kernel_rfl) ⟨by kernel_rfl, by kernel_rfl⟩ (List.Sublist.refl _) (dn _ _ _ _ _ (nd32 v1_ao_8_1 v1_cp_8_2 v1_g_21_1 v1_g_27_1))
  have nd33 : ∀ (v1_ao_8_1 : Option Addr) (v1_cp_8_2 : Nat) (v1_g_27_1 : Nat), H 10 (E.bits 37 16634210239) [(2, .pointer none), (8, .slice v1_ao_8_1 (256 * V.n) v1_cp_8_2), (13, .slice s.a1 (256 * R.len V) s.c1), (19, .slice s.a2 (256 * V.n) s.c2), (25, .slice s.a3 (256 * R.len V) s.c3), (27, .slice (some ⟨v1_g_27_1, 0, none⟩) 0 0), (31, .slice s.a4 V.n s.c4), (36, .bool V.coh)] (A.X w oo aa ([A.vec .u8 v1_ao_8_1 v1_cp_8_2 (R.flat V.d V.n)] ++ R.vs s V)) [(r, R.cells s V)] := by
    intro v1_ao_8_1 v1_cp_8_2 v1_g_27_1
    refine up _ _ _ _ _ ?_
    refine E.H.all [6, 12, 18] (by kernel_rfl) (by simp) (List.forall_mem_cons.2 ⟨⟨_, rfl, ?_⟩, List.forall_mem_cons.2 ⟨⟨_, rfl, ?_⟩, List.forall_mem_cons.2 ⟨⟨_, rfl, ?_⟩, fun _ h => (List.not_mem_nil h).elim⟩⟩⟩)
    · skip
      refine A.G.empty (e := 5) (sz := 1) (by kernel_rfl) (by kernel_rfl) (by kernel_rfl) (fun v1_g_9_1 => ?_)
      refine E.H.back (fun w h => A.hpY0 h (by kernel_rfl)) ?_
      exact E.H.to _ _ _ (by kernel_rfl) ⟨by kernel_rfl, by kernel_rfl⟩ (List.Sublist.refl _) (dn _ _ _ _ _ (nd26 v1_ao_8_1 v1_cp_8_2 v1_g_27_1 v1_g_9_1))
    · skip
      refine A.G.empty (e := 5) (sz := 1) (by kernel_rfl) (by kernel_rfl) (by kernel_rfl) (fun v1_g_15_1 => ?_)
      refine E.H.back (fun w h => A.hpY0 h (by kernel_rfl)) ?_
      exact E.H.to _ _ _ (by kernel_rfl) ⟨by kernel_rfl, by kernel_rfl⟩ (List.Sublist.refl _) (dn _ _ _ _ _ (nd30 v1_ao_8_1 v1_cp_8_2 v1_g_15_1 v1_g_27_1))
    · skip
      refine A.G.empty (e := 5) (sz := 1) (by kernel_rfl) (by kernel_rfl) (by kernel_rfl) (fun v1_g_21_1 => ?_)
      refine E.H.back (fun w h => A.hpY0 h (by kernel_rfl)) ?_
      exact E.H.to _ _ _ (by kernel_rfl) ⟨by kernel_rfl, by kernel_rfl⟩ (List.Sublist.refl _) (dn _ _ _ _ _ (nd32 v1_ao_8_1 v1_cp_8_2 v1_g_21_1 v1_g_27_1))
  have nd1 : ∀ (v1_ao_8_1 : Option Addr) (v1_cp_8_2 : Nat), H 11 (E.bits 37 16617433023) [(2, .pointer none), (8, .slice v1_ao_8_1 (256 * V.n) v1_cp_8_2), (13, .slice s.a1 (256 * R.len V) s.c1), (19, .slice s.a2 (256 * V.n) s.c2), (25, .slice s.a3 (256 * R.len V) s.c3), (31, .slice s.a4 V.n s.c4), (36, .bool V.coh)] (A.X w oo aa ([A.vec .u8 v1_ao_8_1 v1_cp_8_2 (R.flat V.d V.n)] ++ R.vs s V)) [(r, R.cells s V)] := by
    intro v1_ao_8_1 v1_cp_8_2
    refine up _ _ _ _ _ ?_
    refine E.H.all [6, 12, 18, 24] (by kernel_rfl) (by simp) (List.forall_mem_cons.2 ⟨⟨_, rfl, ?_⟩, List.forall_mem_cons.2 ⟨⟨_, rfl, ?_⟩, List.forall_mem_cons.2 ⟨⟨_, rfl, ?_⟩, List.forall_mem_cons.2 ⟨⟨_, rfl, ?_⟩, fun _ h => (List.not_mem_nil h).elim⟩⟩⟩⟩)
    · skip
      refine A.G.empty (e := 5) (sz := 1) (by kernel_rfl) (by kernel_rfl) (by kernel_rfl) (fun v1_g_9_1 => ?_)
      refine E.H.back (fun w h => A.hpY0 h (by kernel_rfl)) ?_
      exact E.H.to _ _ _ (by kernel_rfl) ⟨by kernel_rfl, by kernel_rfl⟩ (List.Sublist.refl _) (dn _ _ _ _ _ (nd2 v1_ao_8_1 v1_cp_8_2 v1_g_9_1))
    · skip
      refine A.G.empty (e := 5) (sz := 1) (by kernel_rfl) (by kernel_rfl) (by kernel_rfl) (fun v1_g_15_1 => ?_)
      refine E.H.back (fun w h => A.hpY0 h (by kernel_rfl)) ?_
      exact E.H.to _ _ _ (by kernel_rfl) ⟨by kernel_rfl, by kernel_rfl⟩ (List.Sublist.refl _) (dn _ _ _ _ _ (nd27 v1_ao_8_1 v1_cp_8_2 v1_g_15_1))
    · skip
      refine A.G.empty (e := 5) (sz := 1) (by kernel_rfl) (by kernel_rfl) (by kernel_rfl) (fun v1_g_21_1 => ?_)
      refine E.H.back (fun w h => A.hpY0 h (by kernel_rfl)) ?_
      exact E.H.to _ _ _ (by kernel_rfl) ⟨by kernel_rfl, by kernel_rfl⟩ (List.Sublist.refl _) (dn _ _ _ _ _ (nd31 v1_ao_8_1 v1_cp_8_2 v1_g_21_1))
    · skip
      refine A.G.empty (e := 3) (sz := 1) (by kernel_rfl) (by kernel_rfl) (by kernel_rfl) (fun v1_g_27_1 => ?_)
      refine E.H.back (fun w h => A.hpY0 h (by kernel_rfl)) ?_
      exact E.H.to _ _ _ (by kernel_rfl) ⟨by kernel_rfl, by kernel_rfl⟩ (List.Sublist.refl _) (dn _ _ _ _ _ (nd33 v1_ao_8_1 v1_cp_8_2 v1_g_27_1))
  have nd37 : ∀ (v1_g_15_1 : Nat) (v1_g_21_1 : Nat) (v1_g_27_1 : Nat) (v1_g_3_1 : Nat) (v1_g_9_1 : Nat), H 8 (E.bits 37 16634476511) [(2, .pointer none), (3, .slice (some ⟨v1_g_3_1, 0, none⟩) 0 0), (7, .slice s.a0 (256 * V.n) s.c0), (9, .slice (some ⟨v1_g_9_1, 0, none⟩) 0 0), (13, .slice s.a1 (256 * R.len V) s.c1), (15, .slice (some ⟨v1_g_15_1, 0, none⟩) 0 0), (19, .slice s.a2 (256 * V.n) s.c2), (21, .slice (some ⟨v1_g_21_1, 0, none⟩) 0 0), (25, .slice s.a3 (256 * R.len V) s.c3), (27, .slice (some ⟨v1_g_27_1, 0, none⟩) 0 0), (31, .slice s.a4 V.n s.c4), (36, .bool V.coh)] (A.X w oo aa (R.vs s V)) [(r, R.cells s V)] := by
    intro v1_g_15_1 v1_g_21_1 v1_g_27_1 v1_g_3_1 v1_g_9_1
    refine up _ _ _ _ _ ?_
    refine E.H.all [5] (by kernel_rfl) (by simp) (List.forall_mem_cons.2 ⟨⟨_, rfl, ?_⟩, fun _ h => (List.not_mem_nil h).elim⟩)
    · skip
      refine A.G.dup (e := 5) (a0' := ⟨v1_g_3_1, 0, none⟩) (c2 := s.c0) 0 1 (R.flat V.d V.n) rfl (by kernel_rfl) (by kernel_rfl) (R.flat_len _ _).symm (by kernel_rfl) (by kernel_rfl) (by rw [R.flat_len]; have := hw.n; have := R.len_le V; omega) (by rw [R.flat_len]; have := hw.n; have := R.len_le V; omega) (by kernel_rfl) (fun v1_ao_8_1 v1_cp_8_2 => ?_)
      refine E.H.back (fun w h => A.hpY0 h (by kernel_rfl)) ?_
      exact E.H.to _ _ _ (by kernel_rfl) ⟨by kernel_rfl, by kernel_rfl⟩ (List.Sublist.refl _) (dn _ _ _ _ _ (nd22 v1_ao_8_1 v1_cp_8_2 v1_g_15_1 v1_g_21_1 v1_g_27_1 v1_g_9_1))
  have nd36 : ∀ (v1_g_15_1 : Nat) (v1_g_21_1 : Nat) (v1_g_3_1 : Nat) (v1_g_9_1 : Nat), H 9 (E.bits 37 16617699295) [(2, .pointer none), (3, .slice (some ⟨v1_g_3_1, 0, none⟩) 0 0), (7, .slice s.a0 (256 * V.n) s.c0), (9, .slice (some ⟨v1_g_9_1, 0, none⟩) 0 0), (13, .slice s.a1 (256 * R.len V) s.c1), (15, .slice (some ⟨v1_g_15_1, 0, none⟩) 0 0), (19, .slice s.a2 (256 * V.n) s.c2), (21, .slice (some ⟨v1_g_21_1, 0, none⟩) 0 0), (25, .slice s.a3 (256 * R.len V) s.c3), (31, .slice s.a4 V.n s.c4), (36, .bool V.coh)] (A.X w oo aa (R.vs s V)) [(r, R.cells s V)] := by
    intro v1_g_15_1 v1_g_21_1 v1_g_3_1 v1_g_9_1
    refine up _ _ _ _ _ ?_
    refine E.H.all [5, 24] (by kernel_rfl) (by simp) (List.forall_mem_cons.2 ⟨⟨_, rfl, ?_⟩, List.forall_mem_cons.2 ⟨⟨_, rfl, ?_⟩, fun _ h => (List.not_mem_nil h).elim⟩⟩)
    · skip
      refine A.G.dup (e := 5) (a0' := ⟨v1_g_3_1, 0, none⟩) (c2 := s.c0) 0 1 (R.flat V.d V.n) rfl (by kernel_rfl) (by kernel_rfl) (R.flat_len _ _).symm (by kernel_rfl) (by kernel_rfl) (by rw [R.flat_len]; have := hw.n; have := R.len_le V; omega) (by rw [R.flat_len]; have := hw.n; have := R.len_le V; omega) (by kernel_rfl) (fun v1_ao_8_1 v1_cp_8_2 => ?_)
      refine E.H.back (fun w h => A.hpY0 h (by kernel_rfl)) ?_
      exact E.H.to _ _ _ (by kernel_rfl) ⟨by kernel_rfl, by kernel_rfl⟩ (List.Sublist.refl _) (dn _ _ _ _ _ (nd21 v1_ao_8_1 v1_cp_8_2 v1_g_15_1 v1_g_21_1 v1_g_9_1))
    · skip
      refine A.G.empty (e := 3) (sz := 1) (by kernel_rfl) (by kernel_rfl) (by kernel_rfl) (fun v1_g_27_1 => ?_)
      refine E.H.back (fun w h => A.hpY0 h (by kernel_rfl)) ?_
      exact E.H.to _ _ _ (by kernel_rfl) ⟨by kernel_rfl, by kernel_rfl⟩ (List.Sublist.refl _) (dn _ _ _ _ _ (nd37 v1_g_15_1 v1_g_21_1 v1_g_27_1 v1_g_3_1 v1_g_9_1))
  have nd38 : ∀ (v1_g_15_1 : Nat) (v1_g_27_1 : Nat) (v1_g_3_1 : Nat) (v1_g_9_1 : Nat), H 9 (E.bits 37 16634214367) [(2, .pointer none), (3, .slice (some ⟨v1_g_3_1, 0, none⟩) 0 0), (7, .slice s.a0 (256 * V.n) s.c0), (9, .slice (some ⟨v1_g_9_1, 0, none⟩) 0 0), (13, .slice s.a1 (256 * R.len V) s.c1), (15, .slice (some ⟨v1_g_15_1, 0, none⟩) 0 0), (19, .slice s.a2 (256 * V.n) s.c2), (25, .slice s.a3 (256 * R.len V) s.c3), (27, .slice (some ⟨v1_g_27_1, 0, none⟩) 0 0), (31, .slice s.a4 V.n s.c4), (36, .bool V.coh)] (A.X w oo aa (R.vs s V)) [(r, R.cells s V)] := by
    intro v1_g_15_1 v1_g_27_1 v1_g_3_1 v1_g_9_1
    refine up _ _ _ _ _ ?_
    refine E.H.all [5, 18] (by kernel_rfl) (by simp) (List.forall_mem_cons.2 ⟨⟨_, rfl, ?_⟩, List.forall_mem_cons.2 ⟨⟨_, rfl, ?_⟩, fun _ h => (List.not_mem_nil h).elim⟩⟩)
    · skip
      refine A.G.dup (e := 5) (a0' := ⟨v1_g_3_1, 0, none⟩) (c2 := s.c0) 0 1 (R.flat V.d V.n) rfl (by kernel_rfl) (by kernel_rfl) (R.flat_len _ _).symm (by kernel_rfl) (by kernel_rfl) (by rw [R.flat_len]; have := hw.n; have := R.len_le V; omega) (by rw [R.flat_len]; have := hw.n; have := R.len_le V; omega) (by kernel_rfl) (fun v1_ao_8_1 v1_cp_8_2 => ?_)
      refine E.H.back (fun w h => A.hpY0 h (by kernel_rfl)) ?_
      exact E.H.to _ _ _ (by kernel_rfl) ⟨by kernel_rfl, by kernel_rfl⟩ (List.Sublist.refl _) (dn _ _ _ _ _ (nd23 v1_ao_8_1 v1_cp_8_2 v1_g_15_1 v1_g_27_1 v1_g_9_1))
    · skip
      refine A.G.empty (e := 5) (sz := 1) (by kernel_rfl) (by kernel_rfl) (by kernel_rfl) (fun v1_g_21_1 => ?_)
      refine E.H.back (fun w h => A.hpY0 h (by kernel_rfl)) ?_
      exact E.H.to _ _ _ (by kernel_rfl) ⟨by kernel_rfl, by kernel_rfl⟩ (List.Sublist.refl _) (dn _ _ _ _ _ (nd37 v1_g_15_1 v1_g_21_1 v1_g_27_1 v1_g_3_1 v1_g_9_1))
  have nd35 : ∀ (v1_g_15_1 : Nat) (v1_g_3_1 : Nat) (v1_g_9_1 : Nat), H 10 (E.bits 37 16617437151) [(2, .pointer none), (3, .slice (some ⟨v1_g_3_1, 0, none⟩) 0 0), (7, .slice s.a0 (256 * V.n) s.c0), (9, .slice (some ⟨v1_g_9_1, 0, none⟩) 0 0), (13, .slice s.a1 (256 * R.len V) s.c1), (15, .slice (some ⟨v1_g_15_1, 0, none⟩) 0 0), (19, .slice s.a2 (256 * V.n) s.c2), (25, .slice s.a3 (256 * R.len V) s.c3), (31, .slice s.a4 V.n s.c4), (36, .bool V.coh)] (A.X w oo aa (R.vs s V)) [(r, R.cells s V)] := by
    intro v1_g_15_1 v1_g_3_1 v1_g_9_1
    refine up _ _ _ _ _ ?_
    refine E.H.all [5, 18, 24] (by kernel_rfl) (by simp) (List.forall_mem_cons.2 ⟨⟨_, rfl, ?_⟩, List.forall_mem_cons.2 ⟨⟨_, rfl, ?_⟩, List.forall_mem_cons.2 ⟨⟨_, rfl, ?_⟩, fun _ h => (List.not_mem_nil h).elim⟩⟩⟩)
    · skip
      refine A.G.dup (e := 5) (a0' := ⟨v1_g_3_1, 0, none⟩) (c2 := s.c0) 0 1 (R.flat V.d V.n) rfl (by kernel_rfl) (by kernel_rfl) (R.flat_len _ _).symm (by kernel_rfl) (by kernel_rfl) (by rw [R.flat_len]; have := hw.n; have := R.len_le V; omega) (by rw [R.flat_len]; have := hw.n; have := R.len_le V; omega) (by kernel_rfl) (fun v1_ao_8_1 v1_cp_8_2 => ?_)
      refine E.H.back (fun w h => A.hpY0 h (by kernel_rfl)) ?_
      exact E.H.to _ _ _ (by kernel_rfl) ⟨by kernel_rfl, by kernel_rfl⟩ (List.Sublist.refl _) (dn _ _ _ _ _ (nd20 v1_ao_8_1 v1_cp_8_2 v1_g_15_1 v1_g_9_1))
    · skip
      refine A.G.empty (e := 5) (sz := 1) (by kernel_rfl) (by kernel_rfl) (by kernel_rfl) (fun v1_g_21_1 => ?_)
      refine E.H.back (fun w h => A.hpY0 h (by kernel_rfl)) ?_
      exact E.H.to _ _ _ (by kernel_rfl) ⟨by kernel_rfl, by kernel_rfl⟩ (List.Sublist.refl _) (dn _ _ _ _ _ (nd36 v1_g_15_1 v1_g_21_1 v1_g_3_1 v1_g_9_1))
    · skip
      refine A.G.empty (e := 3) (sz := 1) (by kernel_rfl) (by kernel_rfl) (by kernel_rfl) (fun v1_g_27_1 => ?_)
      refine E.H.back (fun w h => A.hpY0 h (by kernel_rfl)) ?_
      exact E.H.to _ _ _ (by kernel_rfl) ⟨by kernel_rfl, by kernel_rfl⟩ (List.Sublist.refl _) (dn _ _ _ _ _ (nd38 v1_g_15_1 v1_g_27_1 v1_g_3_1 v1_g_9_1))
  have nd40 : ∀ (v1_g_21_1 : Nat) (v1_g_27_1 : Nat) (v1_g_3_1 : Nat) (v1_g_9_1 : Nat), H 9 (E.bits 37 16634472415) [(2, .pointer none), (3, .slice (some ⟨v1_g_3_1, 0, none⟩) 0 0), (7, .slice s.a0 (256 * V.n) s.c0), (9, .slice (some ⟨v1_g_9_1, 0, none⟩) 0 0), (13, .slice s.a1 (256 * R.len V) s.c1), (19, .slice s.a2 (256 * V.n) s.c2), (21, .slice (some ⟨v1_g_21_1, 0, none⟩) 0 0), (25, .slice s.a3 (256 * R.len V) s.c3), (27, .slice (some ⟨v1_g_27_1, 0, none⟩) 0 0), (31, .slice s.a4 V.n s.c4), (36, .bool V.coh)] (A.X w oo aa (R.vs s V)) [(r, R.cells s V)] := by
    intro v1_g_21_1 v1_g_27_1 v1_g_3_1 v1_g_9_1
    refine up _ _ _ _ _ ?_
    refine E.H.all [5, 12] (by kernel_rfl) (by simp) (List.forall_mem_cons.2 ⟨⟨_, rfl, ?_⟩, List.forall_mem_cons.2 ⟨⟨_, rfl, ?_⟩, fun _ h => (List.not_mem_nil h).elim⟩⟩)
    · skip
      refine A.G.dup (e := 5) (a0' := ⟨v1_g_3_1, 0, none⟩) (c2 := s.c0) 0 1 (R.flat V.d V.n) rfl (by kernel_rfl) (by kernel_rfl) (R.flat_len _ _).symm (by kernel_rfl) (by kernel_rfl) (by rw [R.flat_len]; have := hw.n; have := R.len_le V; omega) (by rw [R.flat_len]; have := hw.n; have := R.len_le V; omega) (by kernel_rfl) (fun v1_ao_8_1 v1_cp_8_2 => ?_)
      refine E.H.back (fun w h => A.hpY0 h (by kernel_rfl)) ?_
      exact E.H.to _ _ _ (by kernel_rfl) ⟨by kernel_rfl, by kernel_rfl⟩ (List.Sublist.refl _) (dn _ _ _ _ _ (nd25 v1_ao_8_1 v1_cp_8_2 v1_g_21_1 v1_g_27_1 v1_g_9_1))
    · skip
      refine A.G.empty (e := 5) (sz := 1) (by kernel_rfl) (by kernel_rfl) (by kernel_rfl) (fun v1_g_15_1 => ?_)
      refine E.H.back (fun w h => A.hpY0 h (by kernel_rfl)) ?_
      exact E.H.to _ _ _ (by kernel_rfl) ⟨by kernel_rfl, by kernel_rfl⟩ (List.Sublist.refl _) (dn _ _ _ _ _ (nd37 v1_g_15_1 v1_g_21_1 v1_g_27_1 v1_g_3_1 v1_g_9_1))
  have nd39 : ∀ (v1_g_21_1 : Nat) (v1_g_3_1 : Nat) (v1_g_9_1 : Nat), H 10 (E.bits 37 16617695199) [(2, .pointer none), (3, .slice (some ⟨v1_g_3_1, 0, none⟩) 0 0), (7, .slice s.a0 (256 * V.n) s.c0), (9, .slice (some ⟨v1_g_9_1, 0, none⟩) 0 0), (13, .slice s.a1 (256 * R.len V) s.c1), (19, .slice s.a2 (256 * V.n) s.c2), (21, .slice (some ⟨v1_g_21_1, 0, none⟩) 0 0), (25, .slice s.a3 (256 * R.len V) s.c3), (31, .slice s.a4 V.n s.c4), (36, .bool V.coh)] (A.X w oo aa (R.vs s V)) [(r, R.cells s V)] := by
    intro v1_g_21_1 v1_g_3_1 v1_g_9_1
    refine up _ _ _ _ _ ?_
    refine E.H.all [5, 12, 24] (by kernel_rfl) (by simp) (List.forall_mem_cons.2 ⟨⟨_, rfl, ?_⟩, List.forall_mem_cons.2 ⟨⟨_, rfl, ?_⟩, List.forall_mem_cons.2 ⟨⟨_, rfl, ?_⟩, fun _ h => (List.not_mem_nil h).elim⟩⟩⟩)
    · skip
      refine A.G.dup (e := 5) (a0' := ⟨v1_g_3_1, 0, none⟩) (c2 := s.c0) 0 1 (R.flat V.d V.n) rfl (by kernel_rfl) (by kernel_rfl) (R.flat_len _ _).symm (by kernel_rfl) (by kernel_rfl) (by rw [R.flat_len]; have := hw.n; have := R.len_le V; omega) (by rw [R.flat_len]; have := hw.n; have := R.len_le V; omega) (by kernel_rfl) (fun v1_ao_8_1 v1_cp_8_2 => ?_)
      refine E.H.back (fun w h => A.hpY0 h (by kernel_rfl)) ?_
      exact E.H.to _ _ _ (by kernel_rfl) ⟨by kernel_rfl, by kernel_rfl⟩ (List.Sublist.refl _) (dn _ _ _ _ _ (nd24 v1_ao_8_1 v1_cp_8_2 v1_g_21_1 v1_g_9_1))
    · skip
      refine A.G.empty (e := 5) (sz := 1) (by kernel_rfl) (by kernel_rfl) (by kernel_rfl) (fun v1_g_15_1 => ?_)
      refine E.H.back (fun w h => A.hpY0 h (by kernel_rfl)) ?_
      exact E.H.to _ _ _ (by kernel_rfl) ⟨by kernel_rfl, by kernel_rfl⟩ (List.Sublist.refl _) (dn _ _ _ _ _ (nd36 v1_g_15_1 v1_g_21_1 v1_g_3_1 v1_g_9_1))
    · skip
      refine A.G.empty (e := 3) (sz := 1) (by kernel_rfl) (by kernel_rfl) (by kernel_rfl) (fun v1_g_27_1 => ?_)
      refine E.H.back (fun w h => A.hpY0 h (by kernel_rfl)) ?_
      exact E.H.to _ _ _ (by kernel_rfl) ⟨by kernel_rfl, by kernel_rfl⟩ (List.Sublist.refl _) (dn _ _ _ _ _ (nd40 v1_g_21_1 v1_g_27_1 v1_g_3_1 v1_g_9_1))
  have nd41 : ∀ (v1_g_27_1 : Nat) (v1_g_3_1 : Nat) (v1_g_9_1 : Nat), H 10 (E.bits 37 16634210271) [(2, .pointer none), (3, .slice (some ⟨v1_g_3_1, 0, none⟩) 0 0), (7, .slice s.a0 (256 * V.n) s.c0), (9, .slice (some ⟨v1_g_9_1, 0, none⟩) 0 0), (13, .slice s.a1 (256 * R.len V) s.c1), (19, .slice s.a2 (256 * V.n) s.c2), (25, .slice s.a3 (256 * R.len V) s.c3), (27, .slice (some ⟨v1_g_27_1, 0, none⟩) 0 0), (31, .slice s.a4 V.n s.c4), (36, .bool V.coh)] (A.X w oo aa (R.vs s V)) [(r, R.cells s V)] := by
    intro v1_g_27_1 v1_g_3_1 v1_g_9_1
    refine up _ _ _ _ _ ?_
    refine E.H.all [5, 12, 18] (by kernel_rfl) (by simp) (List.forall_mem_cons.2 ⟨⟨_, rfl, ?_⟩, List.forall_mem_cons.2 ⟨⟨_, rfl, ?_⟩, List.forall_mem_cons.2 ⟨⟨_, rfl, ?_⟩, fun _ h => (List.not_mem_nil h).elim⟩⟩⟩)
    · skip
      refine A.G.dup (e := 5) (a0' := ⟨v1_g_3_1, 0, none⟩) (c2 := s.c0) 0 1 (R.flat V.d V.n) rfl (by kernel_rfl) (by kernel_rfl) (R.flat_len _ _).symm (by kernel_rfl) (by kernel_rfl) (by rw [R.flat_len]; have := hw.n; have := R.len_le V; omega) (by rw [R.flat_len]; have := hw.n; have := R.len_le V; omega) (by kernel_rfl) (fun v1_ao_8_1 v1_cp_8_2 => ?_)
      refine E.H.back (fun w h => A.hpY0 h (by kernel_rfl)) ?_
      exact E.H.to _ _ _ (by kernel_rfl) ⟨by kernel_rfl, by kernel_rfl⟩ (List.Sublist.refl _) (dn _ _ _ _ _ (nd26 v1_ao_8_1 v1_cp_8_2 v1_g_27_1 v1_g_9_1))
    · skip
      refine A.G.empty (e := 5) (sz := 1) (by kernel_rfl) (by kernel_rfl) (by kernel_rfl) (fun v1_g_15_1 => ?_)
      refine E.H.back (fun w h => A.hpY0 h (by kernel_rfl)) ?_
      exact E.H.to _ _ _ (by kernel_rfl) ⟨by kernel_rfl, by kernel_rfl⟩ (List.Sublist.refl _) (dn _ _ _ _ _ (nd38 v1_g_15_1 v1_g_27_1 v1_g_3_1 v1_g_9_1))
    · skip
      refine A.G.empty (e := 5) (sz := 1) (by kernel_rfl) (by kernel_rfl) (by kernel_rfl) (fun v1_g_21_1 => ?_)
      refine E.H.back (fun w h => A.hpY0 h (by kernel_rfl)) ?_
      exact E.H.to _ _ _ (by kernel_rfl) ⟨by kernel_rfl, by kernel_rfl⟩ (List.Sublist.refl _) (dn _ _ _ _ _ (nd40 v1_g_21_1 v1_g_27_1 v1_g_3_1 v1_g_9_1))
  have nd34 : ∀ (v1_g_3_1 : Nat) (v1_g_9_1 : Nat), H 11 (E.bits 37 16617433055) [(2, .pointer none), (3, .slice (some ⟨v1_g_3_1, 0, none⟩) 0 0), (7, .slice s.a0 (256 * V.n) s.c0), (9, .slice (some ⟨v1_g_9_1, 0, none⟩) 0 0), (13, .slice s.a1 (256 * R.len V) s.c1), (19, .slice s.a2 (256 * V.n) s.c2), (25, .slice s.a3 (256 * R.len V) s.c3), (31, .slice s.a4 V.n s.c4), (36, .bool V.coh)] (A.X w oo aa (R.vs s V)) [(r, R.cells s V)] := by
    intro v1_g_3_1 v1_g_9_1
    refine up _ _ _ _ _ ?_
    refine E.H.all [5, 12, 18, 24] (by kernel_rfl) (by simp) (List.forall_mem_cons.2 ⟨⟨_, rfl, ?_⟩, List.forall_mem_cons.2 ⟨⟨_, rfl, ?_⟩, List.forall_mem_cons.2 ⟨⟨_, rfl, ?_⟩, List.forall_mem_cons.2 ⟨⟨_, rfl, ?_⟩, fun _ h => (List.not_mem_nil h).elim⟩⟩⟩⟩)
    · skip
      refine A.G.dup (e := 5) (a0' := ⟨v1_g_3_1, 0, none⟩) (c2 := s.c0) 0 1 (R.flat V.d V.n) rfl (by kernel_rfl) (by kernel_rfl) (R.flat_len _ _).symm (by kernel_rfl) (by kernel_rfl) (by rw [R.flat_len]; have := hw.n; have := R.len_le V; omega) (by rw [R.flat_len]; have := hw.n; have := R.len_le V; omega) (by kernel_rfl) (fun v1_ao_8_1 v1_cp_8_2 => ?_)
      refine E.H.back (fun w h => A.hpY0 h (by kernel_rfl)) ?_
      exact E.H.to _ _ _ (by kernel_rfl) ⟨by kernel_rfl, by kernel_rfl⟩ (List.Sublist.refl _) (dn _ _ _ _ _ (nd2 v1_ao_8_1 v1_cp_8_2 v1_g_9_1))
    · skip
      refine A.G.empty (e := 5) (sz := 1) (by kernel_rfl) (by kernel_rfl) (by kernel_rfl) (fun v1_g_15_1 => ?_)
      refine E.H.back (fun w h => A.hpY0 h (by kernel_rfl)) ?_
      exact E.H.to _ _ _ (by kernel_rfl) ⟨by kernel_rfl, by kernel_rfl⟩ (List.Sublist.refl _) (dn _ _ _ _ _ (nd35 v1_g_15_1 v1_g_3_1 v1_g_9_1))
    · skip
      refine A.G.empty (e := 5) (sz := 1) (by kernel_rfl) (by kernel_rfl) (by kernel_rfl) (fun v1_g_21_1 => ?_)
      refine E.H.back (fun w h => A.hpY0 h (by kernel_rfl)) ?_
      exact E.H.to _ _ _ (by kernel_rfl) ⟨by kernel_rfl, by kernel_rfl⟩ (List.Sublist.refl _) (dn _ _ _ _ _ (nd39 v1_g_21_1 v1_g_3_1 v1_g_9_1))
    · skip
      refine A.G.empty (e := 3) (sz := 1) (by kernel_rfl) (by kernel_rfl) (by kernel_rfl) (fun v1_g_27_1 => ?_)
      refine E.H.back (fun w h => A.hpY0 h (by kernel_rfl)) ?_
      exact E.H.to _ _ _ (by kernel_rfl) ⟨by kernel_rfl, by kernel_rfl⟩ (List.Sublist.refl _) (dn _ _ _ _ _ (nd41 v1_g_27_1 v1_g_3_1 v1_g_9_1))
  have nd44 : ∀ (v1_g_15_1 : Nat) (v1_g_21_1 : Nat) (v1_g_27_1 : Nat) (v1_g_3_1 : Nat), H 9 (E.bits 37 16634476447) [(2, .pointer none), (3, .slice (some ⟨v1_g_3_1, 0, none⟩) 0 0), (7, .slice s.a0 (256 * V.n) s.c0), (13, .slice s.a1 (256 * R.len V) s.c1), (15, .slice (some ⟨v1_g_15_1, 0, none⟩) 0 0), (19, .slice s.a2 (256 * V.n) s.c2), (21, .slice (some ⟨v1_g_21_1, 0, none⟩) 0 0), (25, .slice s.a3 (256 * R.len V) s.c3), (27, .slice (some ⟨v1_g_27_1, 0, none⟩) 0 0), (31, .slice s.a4 V.n s.c4), (36, .bool V.coh)] (A.X w oo aa (R.vs s V)) [(r, R.cells s V)] := by
    intro v1_g_15_1 v1_g_21_1 v1_g_27_1 v1_g_3_1
    refine up _ _ _ _ _ ?_
    refine E.H.all [5, 6] (by kernel_rfl) (by simp) (List.forall_mem_cons.2 ⟨⟨_, rfl, ?_⟩, List.forall_mem_cons.2 ⟨⟨_, rfl, ?_⟩, fun _ h => (List.not_mem_nil h).elim⟩⟩)
    · skip
      refine A.G.dup (e := 5) (a0' := ⟨v1_g_3_1, 0, none⟩) (c2 := s.c0) 0 1 (R.flat V.d V.n) rfl (by kernel_rfl) (by kernel_rfl) (R.flat_len _ _).symm (by kernel_rfl) (by kernel_rfl) (by rw [R.flat_len]; have := hw.n; have := R.len_le V; omega) (by rw [R.flat_len]; have := hw.n; have := R.len_le V; omega) (by kernel_rfl) (fun v1_ao_8_1 v1_cp_8_2 => ?_)
      refine E.H.back (fun w h => A.hpY0 h (by kernel_rfl)) ?_
      exact E.H.to _ _ _ (by kernel_rfl) ⟨by kernel_rfl, by kernel_rfl⟩ (List.Sublist.refl _) (dn _ _ _ _ _ (nd29 v1_ao_8_1 v1_cp_8_2 v1_g_15_1 v1_g_21_1 v1_g_27_1))
    · skip
      refine A.G.empty (e := 5) (sz := 1) (by kernel_rfl) (by kernel_rfl) (by kernel_rfl) (fun v1_g_9_1 => ?_)
      refine E.H.back (fun w h => A.hpY0 h (by kernel_rfl)) ?_
      exact E.H.to _ _ _ (by kernel_rfl) ⟨by kernel_rfl, by kernel_rfl⟩ (List.Sublist.refl _) (dn _ _ _ _ _ (nd37 v1_g_15_1 v1_g_21_1 v1_g_27_1 v1_g_3_1 v1_g_9_1))
  have nd43 : ∀ (v1_g_15_1 : Nat) (v1_g_21_1 : Nat) (v1_g_3_1 : Nat), H 10 (E.bits 37 16617699231) [(2, .pointer none), (3, .slice (some ⟨v1_g_3_1, 0, none⟩) 0 0), (7, .slice s.a0 (256 * V.n) s.c0), (13, .slice s.a1 (256 * R.len V) s.c1), (15, .slice (some ⟨v1_g_15_1, 0, none⟩) 0 0), (19, .slice s.a2 (256 * V.n) s.c2), (21, .slice (some ⟨v1_g_21_1, 0, none⟩) 0 0), (25, .slice s.a3 (256 * R.len V) s.c3), (31, .slice s.a4 V.n s.c4), (36, .bool V.coh)] (A.X w oo aa (R.vs s V)) [(r, R.cells s V)] := by
    intro v1_g_15_1 v1_g_21_1 v1_g_3_1
    refine up _ _ _ _ _ ?_
    refine E.H.all [5, 6, 24] (by kernel_rfl) (by simp) (List.forall_mem_cons.2 ⟨⟨_, rfl, ?_⟩, List.forall_mem_cons.2 ⟨⟨_, rfl, ?_⟩, List.forall_mem_cons.2 ⟨⟨_, rfl, ?_⟩, fun _ h => (List.not_mem_nil h).elim⟩⟩⟩)
    · skip
      refine A.G.dup (e := 5) (a0' := ⟨v1_g_3_1, 0, none⟩) (c2 := s.c0) 0 1 (R.flat V.d V.n) rfl (by kernel_rfl) (by kernel_rfl) (R.flat_len _ _).symm (by kernel_rfl) (by kernel_rfl) (by rw [R.flat_len]; have := hw.n; have := R.len_le V; omega) (by rw [R.flat_len]; have := hw.n; have := R.len_le V; omega) (by kernel_rfl) (fun v1_ao_8_1 v1_cp_8_2 => ?_)
      refine E.H.back (fun w h => A.hpY0 h (by kernel_rfl)) ?_
      exact E.H.to _ _ _ (by kernel_rfl) ⟨by kernel_rfl, by kernel_rfl⟩ (List.Sublist.refl _) (dn _ _ _ _ _ (nd28 v1_ao_8_1 v1_cp_8_2 v1_g_15_1 v1_g_21_1))
    · skip
      refine A.G.empty (e := 5) (sz := 1) (by kernel_rfl) (by kernel_rfl) (by kernel_rfl) (fun v1_g_9_1 => ?_)
      refine E.H.back (fun w h => A.hpY0 h (by kernel_rfl)) ?_
      exact E.H.to _ _ _ (by kernel_rfl) ⟨by kernel_rfl, by kernel_rfl⟩ (List.Sublist.refl _) (dn _ _ _ _ _ (nd36 v1_g_15_1 v1_g_21_1 v1_g_3_1 v1_g_9_1))
    · skip
      refine A.G.empty (e := 3) (sz := 1) (by kernel_rfl) (by kernel_rfl) (by kernel_rfl) (fun v1_g_27_1 => ?_)
      refine E.H.back (fun w h => A.hpY0 h (by kernel_rfl)) ?_
      exact E.H.to _ _ _ (by kernel_rfl) ⟨by kernel_rfl, by kernel_rfl⟩ (List.Sublist.refl _) (dn _ _ _ _ _ (nd44 v1_g_15_1 v1_g_21_1 v1_g_27_1 v1_g_3_1))
  have nd45 : ∀ (v1_g_15_1 : Nat) (v1_g_27_1 : Nat) (v1_g_3_1 : Nat), H 10 (E.bits 37 16634214303) [(2, .pointer none), (3, .slice (some ⟨v1_g_3_1, 0, none⟩) 0 0), (7, .slice s.a0 (256 * V.n) s.c0), (13, .slice s.a1 (256 * R.len V) s.c1), (15, .slice (some ⟨v1_g_15_1, 0, none⟩) 0 0), (19, .slice s.a2 (256 * V.n) s.c2), (25, .slice s.a3 (256 * R.len V) s.c3), (27, .slice (some ⟨v1_g_27_1, 0, none⟩) 0 0), (31, .slice s.a4 V.n s.c4), (36, .bool V.coh)] (A.X w oo aa (R.vs s V)) [(r, R.cells s V)] := by
    intro v1_g_15_1 v1_g_27_1 v1_g_3_1
    refine up _ _ _ _ _ ?_
    refine E.H.all [5, 6, 18] (by kernel_rfl) (by simp) (List.forall_mem_cons.2 ⟨⟨_, rfl, ?_⟩, List.forall_mem_cons.2 ⟨⟨_, rfl, ?_⟩, List.forall_mem_cons.2 ⟨⟨_, rfl, ?_⟩, fun _ h => (List.not_mem_nil h).elim⟩⟩⟩)
    · skip
      refine A.G.dup (e := 5) (a0' := ⟨v1_g_3_1, 0, none⟩) (c2 := s.c0) 0 1 (R.flat V.d V.n) rfl (by kernel_rfl) (by kernel_rfl) (R.flat_len _ _).symm (by kernel_rfl) (by kernel_rfl) (by rw [R.flat_len]; have := hw.n; have := R.len_le V; omega) (by rw [R.flat_len]; have := hw.n; have := R.len_le V; omega) (by kernel_rfl) (fun v1_ao_8_1 v1_cp_8_2 => ?_)
      refine E.H.back (fun w h => A.hpY0 h (by kernel_rfl)) ?_
      exact E.H.to _ _ _ (by kernel_rfl) ⟨by kernel_rfl, by kernel_rfl⟩ (List.Sublist.refl _) (dn _ _ _ _ _ (nd30 v1_ao_8_1 v1_cp_8_2 v1_g_15_1 v1_g_27_1))
    · skip
      refine A.G.empty (e := 5) (sz := 1) (by kernel_rfl) (by kernel_rfl) (by kernel_rfl) (fun v1_g_9_1 => ?_)
      refine E.H.back (fun w h => A.hpY0 h (by kernel_rfl)) ?_
      exact E.H.to _ _ _ (by kernel_rfl) ⟨by kernel_rfl, by kernel_rfl⟩ (List.Sublist.refl _) (dn _ _ _ _ _ (nd38 v1_g_15_1 v1_g_27_1 v1_g_3_1 v1_g_9_1))
    · skip
      refine A.G.empty (e := 5) (sz := 1) (by kernel_rfl) (by kernel_rfl) (by kernel_rfl) (fun v1_g_21_1 => ?_)
      refine E.H.back (fun w h => A.hpY0 h (by kernel_rfl)) ?_
      exact E.H.to _ _ _ (by kernel_rfl) ⟨by kernel_rfl, by kernel_rfl⟩ (List.Sublist.refl _) (dn _ _ _ _ _ (nd44 v1_g_15_1 v1_g_21_1 v1_g_27_1 v1_g_3_1))
  have nd42 : ∀ (v1_g_15_1 : Nat) (v1_g_3_1 : Nat), H 11 (E.bits 37 16617437087) [(2, .pointer none), (3, .slice (some ⟨v1_g_3_1, 0, none⟩) 0 0), (7, .slice s.a0 (256 * V.n) s.c0), (13, .slice s.a1 (256 * R.len V) s.c1), (15, .slice (some ⟨v1_g_15_1, 0, none⟩) 0 0), (19, .slice s.a2 (256 * V.n) s.c2), (25, .slice s.a3 (256 * R.len V) s.c3), (31, .slice s.a4 V.n s.c4), (36, .bool V.coh)] (A.X w oo aa (R.vs s V)) [(r, R.cells s V)] := by
    intro v1_g_15_1 v1_g_3_1
    refine up _ _ _ _ _ ?_
    refine E.H.all [5, 6, 18, 24] (by kernel_rfl) (by simp) (List.forall_mem_cons.2 ⟨⟨_, rfl, ?_⟩, List.forall_mem_cons.2 ⟨⟨_, rfl, ?_⟩, List.forall_mem_cons.2 ⟨⟨_, rfl, ?_⟩, List.forall_mem_cons.2 ⟨⟨_, rfl, ?_⟩, fun _ h => (List.not_mem_nil h).elim⟩⟩⟩⟩)
    · skip
      refine A.G.dup (e := 5) (a0' := ⟨v1_g_3_1, 0, none⟩) (c2 := s.c0) 0 1 (R.flat V.d V.n) rfl (by kernel_rfl) (by kernel_rfl) (R.flat_len _ _).symm (by kernel_rfl) (by kernel_rfl) (by rw [R.flat_len]; have := hw.n; have := R.len_le V; omega) (by rw [R.flat_len]; have := hw.n; have := R.len_le V; omega) (by kernel_rfl) (fun v1_ao_8_1 v1_cp_8_2 => ?_)
      refine E.H.back (fun w h => A.hpY0 h (by kernel_rfl)) ?_
      exact E.H.to _ _ _ (by kernel_rfl) ⟨by kernel_rfl, by kernel_rfl⟩ (List.Sublist.refl _) (dn _ _ _ _ _ (nd27 v1_ao_8_1 v1_cp_8_2 v1_g_15_1))
    · skip
      refine A.G.empty (e := 5) (sz := 1) (by kernel_rfl) (by kernel_rfl) (by kernel_rfl) (fun v1_g_9_1 => ?_)
      refine E.H.back (fun w h => A.hpY0 h (by kernel_rfl)) ?_
      exact E.H.to _ _ _ (by kernel_rfl) ⟨by kernel_rfl, by kernel_rfl⟩ (List.Sublist.refl _) (dn _ _ _ _ _ (nd35 v1_g_15_1 v1_g_3_1 v1_g_9_1))
    · skip
      refine A.G.empty (e := 5) (sz := 1) (by kernel_rfl) (by kernel_rfl) (by kernel_rfl) (fun v1_g_21_1 => ?_)
      refine E.H.back (fun w h => A.hpY0 h (by kernel_rfl)) ?_
      exact E.H.to _ _ _ (by kernel_rfl) ⟨by kernel_rfl, by kernel_rfl⟩ (List.Sublist.refl _) (dn _ _ _ _ _ (nd43 v1_g_15_1 v1_g_21_1 v1_g_3_1))
    · skip
      refine A.G.empty (e := 3) (sz := 1) (by kernel_rfl) (by kernel_rfl) (by kernel_rfl) (fun v1_g_27_1 => ?_)
      refine E.H.back (fun w h => A.hpY0 h (by kernel_rfl)) ?_
      exact E.H.to _ _ _ (by kernel_rfl) ⟨by kernel_rfl, by kernel_rfl⟩ (List.Sublist.refl _) (dn _ _ _ _ _ (nd45 v1_g_15_1 v1_g_27_1 v1_g_3_1))
  have nd47 : ∀ (v1_g_21_1 : Nat) (v1_g_27_1 : Nat) (v1_g_3_1 : Nat), H 10 (E.bits 37 16634472351) [(2, .pointer none), (3, .slice (some ⟨v1_g_3_1, 0, none⟩) 0 0), (7, .slice s.a0 (256 * V.n) s.c0), (13, .slice s.a1 (256 * R.len V) s.c1), (19, .slice s.a2 (256 * V.n) s.c2), (21, .slice (some ⟨v1_g_21_1, 0, none⟩) 0 0), (25, .slice s.a3 (256 * R.len V) s.c3), (27, .slice (some ⟨v1_g_27_1, 0, none⟩) 0 0), (31, .slice s.a4 V.n s.c4), (36, .bool V.coh)] (A.X w oo aa (R.vs s V)) [(r, R.cells s V)] := by
    intro v1_g_21_1 v1_g_27_1 v1_g_3_1
    refine up _ _ _ _ _ ?_
    refine E.H.all [5, 6, 12] (by kernel_rfl) (by simp) (List.forall_mem_cons.2 ⟨⟨_, rfl, ?_⟩, List.forall_mem_cons.2 ⟨⟨_, rfl, ?_⟩, List.forall_mem_cons.2 ⟨⟨_, rfl, ?_⟩, fun _ h => (List.not_mem_nil h).elim⟩⟩⟩)
    · skip
      refine A.G.dup (e := 5) (a0' := ⟨v1_g_3_1, 0, none⟩) (c2 := s.c0) 0 1 (R.flat V.d V.n) rfl (by kernel_rfl) (by kernel_rfl) (R.flat_len _ _).symm (by kernel_rfl) (by kernel_rfl) (by rw [R.flat_len]; have := hw.n; have := R.len_le V; omega) (by rw [R.flat_len]; have := hw.n; have := R.len_le V; omega) (by kernel_rfl) (fun v1_ao_8_1 v1_cp_8_2 => ?_)
      refine E.H.back (fun w h => A.hpY0 h (by kernel_rfl)) ?_
      exact E.H.to _ _ _ (by kernel_rfl) ⟨by kernel_rfl, by kernel_rfl⟩ (List.Sublist.refl _) (dn _ _ _ _ _ (nd32 v1_ao_8_1 v1_cp_8_2 v1_g_21_1 v1_g_27_1))
    · skip
      refine A.G.empty (e := 5) (sz := 1) (by kernel_rfl) (by kernel_rfl) (by kernel_rfl) (fun v1_g_9_1 => ?_)
      refine E.H.back (fun w h => A.hpY0 h (by kernel_rfl)) ?_
      exact E.H.to _ _ _ (by kernel_rfl) ⟨by kernel_rfl, by kernel_rfl⟩ (List.Sublist.refl _) (dn _ _ _ _ _ (nd40 v1_g_21_1 v1_g_27_1 v1_g_3_1 v1_g_9_1))
    · skip
      refine A.G.empty (e := 5) (sz := 1) (by kernel_rfl) (by kernel_rfl) (by kernel_rfl) (fun v1_g_15_1 => ?_)
      refine E.H.back (fun w h => A.hpY0 h (by kernel_rfl)) ?_
      exact E.H.to _ _ _ (by kernel_rfl) ⟨by kernel_rfl, by kernel_rfl⟩ (List.Sublist.refl _) (dn _ _ _ _ _ (nd44 v1_g_15_1 v1_g_21_1 v1_g_27_1 v1_g_3_1))
  have nd46 : ∀ (v1_g_21_1 : Nat) (v1_g_3_1 : Nat), H 11 (E.bits 37 16617695135) [(2, .pointer none), (3, .slice (some ⟨v1_g_3_1, 0, none⟩) 0 0), (7, .slice s.a0 (256 * V.n) s.c0), (13, .slice s.a1 (256 * R.len V) s.c1), (19, .slice s.a2 (256 * V.n) s.c2), (21, .slice (some ⟨v1_g_21_1, 0, none⟩) 0 0), (25, .slice s.a3 (256 * R.len V) s.c3), (31, .slice s.a4 V.n s.c4), (36, .bool V.coh)] (A.X w oo aa (R.vs s V)) [(r, R.cells s V)] := by
    intro v1_g_21_1 v1_g_3_1
    refine up _ _ _ _ _ ?_
    refine E.H.all [5, 6, 12, 24] (by kernel_rfl) (by simp) (List.forall_mem_cons.2 ⟨⟨_, rfl, ?_⟩, List.forall_mem_cons.2 ⟨⟨_, rfl, ?_⟩, List.forall_mem_cons.2 ⟨⟨_, rfl, ?_⟩, List.forall_mem_cons.2 ⟨⟨_, rfl, ?_⟩, fun _ h => (List.not_mem_nil h).elim⟩⟩⟩⟩)
    · skip
      refine A.G.dup (e := 5) (a0' := ⟨v1_g_3_1, 0, none⟩) (c2 := s.c0) 0 1 (R.flat V.d V.n) rfl (by kernel_rfl) (by kernel_rfl) (R.flat_len _ _).symm (by kernel_rfl) (by kernel_rfl) (by rw [R.flat_len]; have := hw.n; have := R.len_le V; omega) (by rw [R.flat_len]; have := hw.n; have := R.len_le V; omega) (by kernel_rfl) (fun v1_ao_8_1 v1_cp_8_2 => ?_)
      refine E.H.back (fun w h => A.hpY0 h (by kernel_rfl)) ?_
      exact E.H.to _ _ _ (by kernel_rfl) ⟨by kernel_rfl, by kernel_rfl⟩ (List.Sublist.refl _) (dn _ _ _ _ _ (nd31 v1_ao_8_1 v1_cp_8_2 v1_g_21_1))
    · skip
      refine A.G.empty (e := 5) (sz := 1) (by kernel_rfl) (by kernel_rfl) (by kernel_rfl) (fun v1_g_9_1 => ?_)
      refine E.H.back (fun w h => A.hpY0 h (by kernel_rfl)) ?_
      exact E.H.to _ _ _ (by kernel_rfl) ⟨by kernel_rfl, by kernel_rfl⟩ (List.Sublist.refl _) (dn _ _ _ _ _ (nd39 v1_g_21_1 v1_g_3_1 v1_g_9_1))
    · skip
      refine A.G.empty (e := 5) (sz := 1) (by kernel_rfl) (by kernel_rfl) (by kernel_rfl) (fun v1_g_15_1 => ?_)
      refine E.H.back (fun w h => A.hpY0 h (by kernel_rfl)) ?_
      exact E.H.to _ _ _ (by kernel_rfl) ⟨by kernel_rfl, by kernel_rfl⟩ (List.Sublist.refl _) (dn _ _ _ _ _ (nd43 v1_g_15_1 v1_g_21_1 v1_g_3_1))
    · skip
      refine A.G.empty (e := 3) (sz := 1) (by kernel_rfl) (by kernel_rfl) (by kernel_rfl) (fun v1_g_27_1 => ?_)
      refine E.H.back (fun w h => A.hpY0 h (by kernel_rfl)) ?_
      exact E.H.to _ _ _ (by kernel_rfl) ⟨by kernel_rfl, by kernel_rfl⟩ (List.Sublist.refl _) (dn _ _ _ _ _ (nd47 v1_g_21_1 v1_g_27_1 v1_g_3_1))
  have nd48 : ∀ (v1_g_27_1 : Nat) (v1_g_3_1 : Nat), H 11 (E.bits 37 16634210207) [(2, .pointer none), (3, .slice (some ⟨v1_g_3_1, 0, none⟩) 0 0), (7, .slice s.a0 (256 * V.n) s.c0), (13, .slice s.a1 (256 * R.len V) s.c1), (19, .slice s.a2 (256 * V.n) s.c2), (25, .slice s.a3 (256 * R.len V) s.c3), (27, .slice (some ⟨v1_g_27_1, 0, none⟩) 0 0), (31, .slice s.a4 V.n s.c4), (36, .bool V.coh)] (A.X w oo aa (R.vs s V)) [(r, R.cells s V)] := by
    intro v1_g_27_1 v1_g_3_1
    refine up _ _ _ _ _ ?_
    refine E.H.all [5, 6, 12, 18] (by kernel_rfl) (by simp) (List.forall_mem_cons.2 ⟨⟨_, rfl, ?_⟩, List.forall_mem_cons.2 ⟨⟨_, rfl, ?_⟩, List.forall_mem_cons.2 ⟨⟨_, rfl, ?_⟩, List.forall_mem_cons.2 ⟨⟨_, rfl, ?_⟩, fun _ h => (List.not_mem_nil h).elim⟩⟩⟩⟩)
    · skip
      refine A.G.dup (e := 5) (a0' := ⟨v1_g_3_1, 0, none⟩) (c2 := s.c0) 0 1 (R.flat V.d V.n) rfl (by kernel_rfl) (by kernel_rfl) (R.flat_len _ _).symm (by kernel_rfl) (by kernel_rfl) (by rw [R.flat_len]; have := hw.n; have := R.len_le V; omega) (by rw [R.flat_len]; have := hw.n; have := R.len_le V; omega) (by kernel_rfl) (fun v1_ao_8_1 v1_cp_8_2 => ?_)
      refine E.H.back (fun w h => A.hpY0 h (by kernel_rfl)) ?_
      exact E.H.to _ _ _ (by kernel_rfl) ⟨by kernel_rfl, by kernel_rfl⟩ (List.Sublist.refl _) (dn _ _ _ _ _ (nd33 v1_ao_8_1 v1_cp_8_2 v1_g_27_1))
    · skip
      refine A.G.empty (e := 5) (sz := 1) (by kernel_rfl) (by kernel_rfl) (by kernel_rfl) (fun v1_g_9_1 => ?_)
      refine E.H.back (fun w h => A.hpY0 h (by kernel_rfl)) ?_
      exact E.H.to _ _ _ (by kernel_rfl) ⟨by kernel_rfl, by kernel_rfl⟩ (List.Sublist.refl _) (dn _ _ _ _ _ (nd41 v1_g_27_1 v1_g_3_1 v1_g_9_1))
    · skip
      refine A.G.empty (e := 5) (sz := 1) (by kernel_rfl) (by kernel_rfl) (by kernel_rfl) (fun v1_g_15_1 => ?_)
      refine E.H.back (fun w h => A.hpY0 h (by kernel_rfl)) ?_
      exact E.H.to _ _ _ (by kernel_rfl) ⟨by kernel_rfl, by kernel_rfl⟩ (List.Sublist.refl _) (dn _ _ _ _ _ (nd45 v1_g_15_1 v1_g_27_1 v1_g_3_1))
    · skip
      refine A.G.empty (e := 5) (sz := 1) (by kernel_rfl) (by kernel_rfl) (by kernel_rfl) (fun v1_g_21_1 => ?_)
      refine E.H.back (fun w h => A.hpY0 h (by kernel_rfl)) ?_
      exact E.H.to _ _ _ (by kernel_rfl) ⟨by kernel_rfl, by kernel_rfl⟩ (List.Sublist.refl _) (dn _ _ _ _ _ (nd47 v1_g_21_1 v1_g_27_1 v1_g_3_1))
  have nd0 : ∀ (v1_g_3_1 : Nat), H 12 (E.bits 37 16617432991) [(2, .pointer none), (3, .slice (some ⟨v1_g_3_1, 0, none⟩) 0 0), (7, .slice s.a0 (256 * V.n) s.c0), (13, .slice s.a1 (256 * R.len V) s.c1), (19, .slice s.a2 (256 * V.n) s.c2), (25, .slice s.a3 (256 * R.len V) s.c3), (31, .slice s.a4 V.n s.c4), (36, .bool V.coh)] (A.X w oo aa (R.vs s V)) [(r, R.cells s V)] := by
    intro v1_g_3_1
    refine up _ _ _ _ _ ?_
    refine E.H.all [5, 6, 12, 18, 24] (by kernel_rfl) (by simp) (List.forall_mem_cons.2 ⟨⟨_, rfl, ?_⟩, List.forall_mem_cons.2 ⟨⟨_, rfl, ?_⟩, List.forall_mem_cons.2 ⟨⟨_, rfl, ?_⟩, List.forall_mem_cons.2 ⟨⟨_, rfl, ?_⟩, List.forall_mem_cons.2 ⟨⟨_, rfl, ?_⟩, fun _ h => (List.not_mem_nil h).elim⟩⟩⟩⟩⟩)
    · skip
      refine A.G.dup (e := 5) (a0' := ⟨v1_g_3_1, 0, none⟩) (c2 := s.c0) 0 1 (R.flat V.d V.n) rfl (by kernel_rfl) (by kernel_rfl) (R.flat_len _ _).symm (by kernel_rfl) (by kernel_rfl) (by rw [R.flat_len]; have := hw.n; have := R.len_le V; omega) (by rw [R.flat_len]; have := hw.n; have := R.len_le V; omega) (by kernel_rfl) (fun v1_ao_8_1 v1_cp_8_2 => ?_)
      refine E.H.back (fun w h => A.hpY0 h (by kernel_rfl)) ?_
      exact E.H.to _ _ _ (by kernel_rfl) ⟨by kernel_rfl, by kernel_rfl⟩ (List.Sublist.refl _) (dn _ _ _ _ _ (nd1 v1_ao_8_1 v1_cp_8_2))
    · skip
      refine A.G.empty (e := 5) (sz := 1) (by kernel_rfl) (by kernel_rfl) (by kernel_rfl) (fun v1_g_9_1 => ?_)
      refine E.H.back (fun w h => A.hpY0 h (by kernel_rfl)) ?_
      exact E.H.to _ _ _ (by kernel_rfl) ⟨by kernel_rfl, by kernel_rfl⟩ (List.Sublist.refl _) (dn _ _ _ _ _ (nd34 v1_g_3_1 v1_g_9_1))
    · skip
      refine A.G.empty (e := 5) (sz := 1) (by kernel_rfl) (by kernel_rfl) (by kernel_rfl) (fun v1_g_15_1 => ?_)
      refine E.H.back (fun w h => A.hpY0 h (by kernel_rfl)) ?_
      exact E.H.to _ _ _ (by kernel_rfl) ⟨by kernel_rfl, by kernel_rfl⟩ (List.Sublist.refl _) (dn _ _ _ _ _ (nd42 v1_g_15_1 v1_g_3_1))
    · skip
      refine A.G.empty (e := 5) (sz := 1) (by kernel_rfl) (by kernel_rfl) (by kernel_rfl) (fun v1_g_21_1 => ?_)
      refine E.H.back (fun w h => A.hpY0 h (by kernel_rfl)) ?_
      exact E.H.to _ _ _ (by kernel_rfl) ⟨by kernel_rfl, by kernel_rfl⟩ (List.Sublist.refl _) (dn _ _ _ _ _ (nd46 v1_g_21_1 v1_g_3_1))
    · skip
      refine A.G.empty (e := 3) (sz := 1) (by kernel_rfl) (by kernel_rfl) (by kernel_rfl) (fun v1_g_27_1 => ?_)
      refine E.H.back (fun w h => A.hpY0 h (by kernel_rfl)) ?_
      exact E.H.to _ _ _ (by kernel_rfl) ⟨by kernel_rfl, by kernel_rfl⟩ (List.Sublist.refl _) (dn _ _ _ _ _ (nd48 v1_g_27_1 v1_g_3_1))
  have nd52 : ∀ (v1_g_15_1 : Nat) (v1_g_21_1 : Nat) (v1_g_27_1 : Nat) (v1_g_9_1 : Nat), H 9 (E.bits 37 16634476510) [(2, .pointer none), (7, .slice s.a0 (256 * V.n) s.c0), (9, .slice (some ⟨v1_g_9_1, 0, none⟩) 0 0), (13, .slice s.a1 (256 * R.len V) s.c1), (15, .slice (some ⟨v1_g_15_1, 0, none⟩) 0 0), (19, .slice s.a2 (256 * V.n) s.c2), (21, .slice (some ⟨v1_g_21_1, 0, none⟩) 0 0), (25, .slice s.a3 (256 * R.len V) s.c3), (27, .slice (some ⟨v1_g_27_1, 0, none⟩) 0 0), (31, .slice s.a4 V.n s.c4), (36, .bool V.coh)] (A.X w oo aa (R.vs s V)) [(r, R.cells s V)] := by
    intro v1_g_15_1 v1_g_21_1 v1_g_27_1 v1_g_9_1
    refine up _ _ _ _ _ ?_
    refine E.H.all [0] (by kernel_rfl) (by simp) (List.forall_mem_cons.2 ⟨⟨_, rfl, ?_⟩, fun _ h => (List.not_mem_nil h).elim⟩)
    · skip
      refine A.G.empty (e := 5) (sz := 1) (by kernel_rfl) (by kernel_rfl) (by kernel_rfl) (fun v1_g_3_1 => ?_)
      refine E.H.back (fun w h => A.hpY0 h (by kernel_rfl)) ?_
      exact E.H.to _ _ _ (by kernel_rfl) ⟨by kernel_rfl, by kernel_rfl⟩ (List.Sublist.refl _) (dn _ _ _ _ _ (nd37 v1_g_15_1 v1_g_21_1 v1_g_27_1 v1_g_3_1 v1_g_9_1))
  have nd51 : ∀ (v1_g_15_1 : Nat) (v1_g_21_1 : Nat) (v1_g_9_1 : Nat), H 10 (E.bits 37 16617699294) [(2, .pointer none), (7, .slice s.a0 (256 * V.n) s.c0), (9, .slice (some ⟨v1_g_9_1, 0, none⟩) 0 0), (13, .slice s.a1 (256 * R.len V) s.c1), (15, .slice (some ⟨v1_g_15_1, 0, none⟩) 0 0), (19, .slice s.a2 (256 * V.n) s.c2), (21, .slice (some ⟨v1_g_21_1, 0, none⟩) 0 0), (25, .slice s.a3 (256 * R.len V) s.c3), (31, .slice s.a4 V.n s.c4), (36, .bool V.coh)] (A.X w oo aa (R.vs s V)) [(r, R.cells s V)] := by
    intro v1_g_15_1 v1_g_21_1 v1_g_9_1
    refine up _ _ _ _ _ ?_
    refine E.H.all [0, 24] (by kernel_rfl) (by simp) (List.forall_mem_cons.2 ⟨⟨_, rfl, ?_⟩, List.forall_mem_cons.2 ⟨⟨_, rfl, ?_⟩, fun _ h => (List.not_mem_nil h).elim⟩⟩)
    · skip
      refine A.G.empty (e := 5) (sz := 1) (by kernel_rfl) (by kernel_rfl) (by kernel_rfl) (fun v1_g_3_1 => ?_)
      refine E.H.back (fun w h => A.hpY0 h (by kernel_rfl)) ?_
      exact E.H.to _ _ _ (by kernel_rfl) ⟨by kernel_rfl, by kernel_rfl⟩ (List.Sublist.refl _) (dn _ _ _ _ _ (nd36 v1_g_15_1 v1_g_21_1 v1_g_3_1 v1_g_9_1))
    · skip
      refine A.G.empty (e := 3) (sz := 1) (by kernel_rfl) (by kernel_rfl) (by kernel_rfl) (fun v1_g_27_1 => ?_)
      refine E.H.back (fun w h => A.hpY0 h (by kernel_rfl)) ?_
      exact E.H.to _ _ _ (by kernel_rfl) ⟨by kernel_rfl, by kernel_rfl⟩ (List.Sublist.refl _) (dn _ _ _ _ _ (nd52 v1_g_15_1 v1_g_21_1 v1_g_27_1 v1_g_9_1))
  have nd53 : ∀ (v1_g_15_1 : Nat) (v1_g_27_1 : Nat) (v1_g_9_1 : Nat), H 10 (E.bits 37 16634214366) [(2, .pointer none), (7, .slice s.a0 (256 * V.n) s.c0), (9, .slice (some ⟨v1_g_9_1, 0, none⟩) 0 0), (13, .slice s.a1 (256 * R.len V) s.c1), (15, .slice (some ⟨v1_g_15_1, 0, none⟩) 0 0), (19, .slice s.a2 (256 * V.n) s.c2), (25, .slice s.a3 (256 * R.len V) s.c3), (27, .slice (some ⟨v1_g_27_1, 0, none⟩) 0 0), (31, .slice s.a4 V.n s.c4), (36, .bool V.coh)] (A.X w oo aa (R.vs s V)) [(r, R.cells s V)] := by
    intro v1_g_15_1 v1_g_27_1 v1_g_9_1
    refine up _ _ _ _ _ ?_
    refine E.H.all [0, 18] (by kernel_rfl) (by simp) (List.forall_mem_cons.2 ⟨⟨_, rfl, ?_⟩, List.forall_mem_cons.2 ⟨⟨_, rfl, ?_⟩, fun _ h => (List.not_mem_nil h).elim⟩⟩)
    · skip
      refine A.G.empty (e := 5) (sz := 1) (by kernel_rfl) (by kernel_rfl) (by kernel_rfl) (fun v1_g_3_1 => ?_)
      refine E.H.back (fun w h => A.hpY0 h (by kernel_rfl)) ?_
      exact E.H.to _ _ _ (by kernel_rfl) ⟨by kernel_rfl, by kernel_rfl⟩ (List.Sublist.refl _) (dn _ _ _ _ _ (nd38 v1_g_15_1 v1_g_27_1 v1_g_3_1 v1_g_9_1))
    · skip
      refine A.G.empty (e := 5) (sz := 1) (by kernel_rfl) (by kernel_rfl) (by kernel_rfl) (fun v1_g_21_1 => ?_)
      refine E.H.back (fun w h => A.hpY0 h (by kernel_rfl)) ?_
      exact E.H.to _ _ _ (by kernel_rfl) ⟨by kernel_rfl, by kernel_rfl⟩ (List.Sublist.refl _) (dn _ _ _ _ _ (nd52 v1_g_15_1 v1_g_21_1 v1_g_27_1 v1_g_9_1))
  have nd50 : ∀ (v1_g_15_1 : Nat) (v1_g_9_1 : Nat), H 11 (E.bits 37 16617437150) [(2, .pointer none), (7, .slice s.a0 (256 * V.n) s.c0), (9, .slice (some ⟨v1_g_9_1, 0, none⟩) 0 0), (13, .slice s.a1 (256 * R.len V) s.c1), (15, .slice (some ⟨v1_g_15_1, 0, none⟩) 0 0), (19, .slice s.a2 (256 * V.n) s.c2), (25, .slice s.a3 (256 * R.len V) s.c3), (31, .slice s.a4 V.n s.c4), (36, .bool V.coh)] (A.X w oo aa (R.vs s V)) [(r, R.cells s V)] := by
    intro v1_g_15_1 v1_g_9_1
    refine up _ _ _ _ _ ?_
    refine E.H.all [0, 18, 24] (by kernel_rfl) (by simp) (List.forall_mem_cons.2 ⟨⟨_, rfl, ?_⟩, List.forall_mem_cons.2 ⟨⟨_, rfl, ?_⟩, List.forall_mem_cons.2 ⟨⟨_, rfl, ?_⟩, fun _ h => (List.not_mem_nil h).elim⟩⟩⟩)
    · skip
      refine A.G.empty (e := 5) (sz := 1) (by kernel_rfl) (by kernel_rfl) (by kernel_rfl) (fun v1_g_3_1 => ?_)
      refine E.H.back (fun w h => A.hpY0 h (by kernel_rfl)) ?_
      exact E.H.to _ _ _ (by kernel_rfl) ⟨by kernel_rfl, by kernel_rfl⟩ (List.Sublist.refl _) (dn _ _ _ _ _ (nd35 v1_g_15_1 v1_g_3_1 v1_g_9_1))
    · skip
      refine A.G.empty (e := 5) (sz := 1) (by kernel_rfl) (by kernel_rfl) (by kernel_rfl) (fun v1_g_21_1 => ?_)
      refine E.H.back (fun w h => A.hpY0 h (by kernel_rfl)) ?_
      exact E.H.to _ _ _ (by kernel_rfl) ⟨by kernel_rfl, by kernel_rfl⟩ (List.Sublist.refl _) (dn _ _ _ _ _ (nd51 v1_g_15_1 v1_g_21_1 v1_g_9_1))
    · skip
      refine A.G.empty (e := 3) (sz := 1) (by kernel_rfl) (by kernel_rfl) (by kernel_rfl) (fun v1_g_27_1 => ?_)
      refine E.H.back (fun w h => A.hpY0 h (by kernel_rfl)) ?_
      exact E.H.to _ _ _ (by kernel_rfl) ⟨by kernel_rfl, by kernel_rfl⟩ (List.Sublist.refl _) (dn _ _ _ _ _ (nd53 v1_g_15_1 v1_g_27_1 v1_g_9_1))
  have nd55 : ∀ (v1_g_21_1 : Nat) (v1_g_27_1 : Nat) (v1_g_9_1 : Nat), H 10 (E.bits 37 16634472414) [(2, .pointer none), (7, .slice s.a0 (256 * V.n) s.c0), (9, .slice (some ⟨v1_g_9_1, 0, none⟩) 0 0), (13, .slice s.a1 (256 * R.len V) s.c1), (19, .slice s.a2 (256 * V.n) s.c2), (21, .slice (some ⟨v1_g_21_1, 0, none⟩) 0 0), (25, .slice s.a3 (256 * R.len V) s.c3), (27, .slice (some ⟨v1_g_27_1, 0, none⟩) 0 0), (31, .slice s.a4 V.n s.c4), (36, .bool V.coh)] (A.X w oo aa (R.vs s V)) [(r, R.cells s V)] := by
    intro v1_g_21_1 v1_g_27_1 v1_g_9_1
    refine up _ _ _ _ _ ?_
    refine E.H.all [0, 12] (by kernel_rfl) (by simp) (List.forall_mem_cons.2 ⟨⟨_, rfl, ?_⟩, List.forall_mem_cons.2 ⟨⟨_, rfl, ?_⟩, fun _ h => (List.not_mem_nil h).elim⟩⟩)
    · skip
      refine A.G.empty (e := 5) (sz := 1) (by kernel_rfl) (by kernel_rfl) (by kernel_rfl) (fun v1_g_3_1 => ?_)
      refine E.H.back (fun w h => A.hpY0 h (by kernel_rfl)) ?_
      exact E.H.to _ _ _ (by kernel_rfl) ⟨by kernel_rfl, by kernel_rfl⟩ (List.Sublist.refl _) (dn _ _ _ _ _ (nd40 v1_g_21_1 v1_g_27_1 v1_g_3_1 v1_g_9_1))
    · skip
      refine A.G.empty (e := 5) (sz := 1) (by kernel_rfl) (by kernel_rfl) (by kernel_rfl) (fun v1_g_15_1 => ?_)
      refine E.H.back (fun w h => A.hpY0 h (by kernel_rfl)) ?_
      exact E.H.to _ _ _ (by kernel_rfl) ⟨by kernel_rfl, by kernel_rfl⟩ (List.Sublist.refl _) (dn _ _ _ _ _ (nd52 v1_g_15_1 v1_g_21_1 v1_g_27_1 v1_g_9_1))
  have nd54 : ∀ (v1_g_21_1 : Nat) (v1_g_9_1 : Nat), H 11 (E.bits 37 16617695198) [(2, .pointer none), (7, .slice s.a0 (256 * V.n) s.c0), (9, .slice (some ⟨v1_g_9_1, 0, none⟩) 0 0), (13, .slice s.a1 (256 * R.len V) s.c1), (19, .slice s.a2 (256 * V.n) s.c2), (21, .slice (some ⟨v1_g_21_1, 0, none⟩) 0 0), (25, .slice s.a3 (256 * R.len V) s.c3), (31, .slice s.a4 V.n s.c4), (36, .bool V.coh)] (A.X w oo aa (R.vs s V)) [(r, R.cells s V)] := by
    intro v1_g_21_1 v1_g_9_1
    refine up _ _ _ _ _ ?_
    refine E.H.all [0, 12, 24] (by kernel_rfl) (by simp) (List.forall_mem_cons.2 ⟨⟨_, rfl, ?_⟩, List.forall_mem_cons.2 ⟨⟨_, rfl, ?_⟩, List.forall_mem_cons.2 ⟨⟨_, rfl, ?_⟩, fun _ h => (List.not_mem_nil h).elim⟩⟩⟩)
    · skip
      refine A.G.empty (e := 5) (sz := 1) (by kernel_rfl) (by kernel_rfl) (by kernel_rfl) (fun v1_g_3_1 => ?_)
      refine E.H.back (fun w h => A.hpY0 h (by kernel_rfl)) ?_
      exact E.H.to _ _ _ (by kernel_rfl) ⟨by kernel_rfl, by kernel_rfl⟩ (List.Sublist.refl _) (dn _ _ _ _ _ (nd39 v1_g_21_1 v1_g_3_1 v1_g_9_1))
    · skip
      refine A.G.empty (e := 5) (sz := 1) (by kernel_rfl) (by kernel_rfl) (by kernel_rfl) (fun v1_g_15_1 => ?_)
      refine E.H.back (fun w h => A.hpY0 h (by kernel_rfl)) ?_
      exact E.H.to _ _ _ (by kernel_rfl) ⟨by kernel_rfl, by kernel_rfl⟩ (List.Sublist.refl _) (dn _ _ _ _ _ (nd51 v1_g_15_1 v1_g_21_1 v1_g_9_1))
    · skip
      refine A.G.empty (e := 3) (sz := 1) (by kernel_rfl) (by kernel_rfl) (by kernel_rfl) (fun v1_g_27_1 => ?_)
      refine E.H.back (fun w h => A.hpY0 h (by kernel_rfl)) ?_
      exact E.H.to _ _ _ (by kernel_rfl) ⟨by kernel_rfl, by kernel_rfl⟩ (List.Sublist.refl _) (dn _ _ _ _ _ (nd55 v1_g_21_1 v1_g_27_1 v1_g_9_1))
  have nd56 : ∀ (v1_g_27_1 : Nat) (v1_g_9_1 : Nat), H 11 (E.bits 37 16634210270) [(2, .pointer none), (7, .slice s.a0 (256 * V.n) s.c0), (9, .slice (some ⟨v1_g_9_1, 0, none⟩) 0 0), (13, .slice s.a1 (256 * R.len V) s.c1), (19, .slice s.a2 (256 * V.n) s.c2), (25, .slice s.a3 (256 * R.len V) s.c3), (27, .slice (some ⟨v1_g_27_1, 0, none⟩) 0 0), (31, .slice s.a4 V.n s.c4), (36, .bool V.coh)] (A.X w oo aa (R.vs s V)) [(r, R.cells s V)] := by
    intro v1_g_27_1 v1_g_9_1
    refine up _ _ _ _ _ ?_
    refine E.H.all [0, 12, 18] (by kernel_rfl) (by simp) (List.forall_mem_cons.2 ⟨⟨_, rfl, ?_⟩, List.forall_mem_cons.2 ⟨⟨_, rfl, ?_⟩, List.forall_mem_cons.2 ⟨⟨_, rfl, ?_⟩, fun _ h => (List.not_mem_nil h).elim⟩⟩⟩)
    · skip
      refine A.G.empty (e := 5) (sz := 1) (by kernel_rfl) (by kernel_rfl) (by kernel_rfl) (fun v1_g_3_1 => ?_)
      refine E.H.back (fun w h => A.hpY0 h (by kernel_rfl)) ?_
      exact E.H.to _ _ _ (by kernel_rfl) ⟨by kernel_rfl, by kernel_rfl⟩ (List.Sublist.refl _) (dn _ _ _ _ _ (nd41 v1_g_27_1 v1_g_3_1 v1_g_9_1))
    · skip
      refine A.G.empty (e := 5) (sz := 1) (by kernel_rfl) (by kernel_rfl) (by kernel_rfl) (fun v1_g_15_1 => ?_)
      refine E.H.back (fun w h => A.hpY0 h (by kernel_rfl)) ?_
      exact E.H.to _ _ _ (by kernel_rfl) ⟨by kernel_rfl, by kernel_rfl⟩ (List.Sublist.refl _) (dn _ _ _ _ _ (nd53 v1_g_15_1 v1_g_27_1 v1_g_9_1))
    · skip
      refine A.G.empty (e := 5) (sz := 1) (by kernel_rfl) (by kernel_rfl) (by kernel_rfl) (fun v1_g_21_1 => ?_)
      refine E.H.back (fun w h => A.hpY0 h (by kernel_rfl)) ?_
      exact E.H.to _ _ _ (by kernel_rfl) ⟨by kernel_rfl, by kernel_rfl⟩ (List.Sublist.refl _) (dn _ _ _ _ _ (nd55 v1_g_21_1 v1_g_27_1 v1_g_9_1))
  have nd49 : ∀ (v1_g_9_1 : Nat), H 12 (E.bits 37 16617433054) [(2, .pointer none), (7, .slice s.a0 (256 * V.n) s.c0), (9, .slice (some ⟨v1_g_9_1, 0, none⟩) 0 0), (13, .slice s.a1 (256 * R.len V) s.c1), (19, .slice s.a2 (256 * V.n) s.c2), (25, .slice s.a3 (256 * R.len V) s.c3), (31, .slice s.a4 V.n s.c4), (36, .bool V.coh)] (A.X w oo aa (R.vs s V)) [(r, R.cells s V)] := by
    intro v1_g_9_1
    refine up _ _ _ _ _ ?_
    refine E.H.all [0, 12, 18, 24] (by kernel_rfl) (by simp) (List.forall_mem_cons.2 ⟨⟨_, rfl, ?_⟩, List.forall_mem_cons.2 ⟨⟨_, rfl, ?_⟩, List.forall_mem_cons.2 ⟨⟨_, rfl, ?_⟩, List.forall_mem_cons.2 ⟨⟨_, rfl, ?_⟩, fun _ h => (List.not_mem_nil h).elim⟩⟩⟩⟩)
    · skip
      refine A.G.empty (e := 5) (sz := 1) (by kernel_rfl) (by kernel_rfl) (by kernel_rfl) (fun v1_g_3_1 => ?_)
      refine E.H.back (fun w h => A.hpY0 h (by kernel_rfl)) ?_
      exact E.H.to _ _ _ (by kernel_rfl) ⟨by kernel_rfl, by kernel_rfl⟩ (List.Sublist.refl _) (dn _ _ _ _ _ (nd34 v1_g_3_1 v1_g_9_1))
    · skip
      refine A.G.empty (e := 5) (sz := 1) (by kernel_rfl) (by kernel_rfl) (by kernel_rfl) (fun v1_g_15_1 => ?_)
      refine E.H.back (fun w h => A.hpY0 h (by kernel_rfl)) ?_
      exact E.H.to _ _ _ (by kernel_rfl) ⟨by kernel_rfl, by kernel_rfl⟩ (List.Sublist.refl _) (dn _ _ _ _ _ (nd50 v1_g_15_1 v1_g_9_1))
    · skip
      refine A.G.empty (e := 5) (sz := 1) (by kernel_rfl) (by kernel_rfl) (by kernel_rfl) (fun v1_g_21_1 => ?_)
      refine E.H.back (fun w h => A.hpY0 h (by kernel_rfl)) ?_
      exact E.H.to _ _ _ (by kernel_rfl) ⟨by kernel_rfl, by kernel_rfl⟩ (List.Sublist.refl _) (dn _ _ _ _ _ (nd54 v1_g_21_1 v1_g_9_1))
    · skip
      refine A.G.empty (e := 3) (sz := 1) (by kernel_rfl) (by kernel_rfl) (by kernel_rfl) (fun v1_g_27_1 => ?_)
      refine E.H.back (fun w h => A.hpY0 h (by kernel_rfl)) ?_
      exact E.H.to _ _ _ (by kernel_rfl) ⟨by kernel_rfl, by kernel_rfl⟩ (List.Sublist.refl _) (dn _ _ _ _ _ (nd56 v1_g_27_1 v1_g_9_1))
  have nd59 : ∀ (v1_g_15_1 : Nat) (v1_g_21_1 : Nat) (v1_g_27_1 : Nat), H 10 (E.bits 37 16634476446) [(2, .pointer none), (7, .slice s.a0 (256 * V.n) s.c0), (13, .slice s.a1 (256 * R.len V) s.c1), (15, .slice (some ⟨v1_g_15_1, 0, none⟩) 0 0), (19, .slice s.a2 (256 * V.n) s.c2), (21, .slice (some ⟨v1_g_21_1, 0, none⟩) 0 0), (25, .slice s.a3 (256 * R.len V) s.c3), (27, .slice (some ⟨v1_g_27_1, 0, none⟩) 0 0), (31, .slice s.a4 V.n s.c4), (36, .bool V.coh)] (A.X w oo aa (R.vs s V)) [(r, R.cells s V)] := by
    intro v1_g_15_1 v1_g_21_1 v1_g_27_1
    refine up _ _ _ _ _ ?_
    refine E.H.all [0, 6] (by kernel_rfl) (by simp) (List.forall_mem_cons.2 ⟨⟨_, rfl, ?_⟩, List.forall_mem_cons.2 ⟨⟨_, rfl, ?_⟩, fun _ h => (List.not_mem_nil h).elim⟩⟩)
    · skip
      refine A.G.empty (e := 5) (sz := 1) (by kernel_rfl) (by kernel_rfl) (by kernel_rfl) (fun v1_g_3_1 => ?_)
      refine E.H.back (fun w h => A.hpY0 h (by kernel_rfl)) ?_
      exact E.H.to _ _ _ (by kernel_rfl) ⟨by kernel_rfl, by kernel_rfl⟩ (List.Sublist.refl _) (dn _ _ _ _ _ (nd44 v1_g_15_1 v1_g_21_1 v1_g_27_1 v1_g_3_1))
    · skip
      refine A.G.empty (e := 5) (sz := 1) (by kernel_rfl) (by kernel_rfl) (by kernel_rfl) (fun v1_g_9_1 => ?_)
      refine E.H.back (fun w h => A.hpY0 h (by kernel_rfl)) ?_
      exact E.H.to _ _ _ (by kernel_rfl) ⟨by kernel_rfl, by kernel_rfl⟩ (List.Sublist.refl _) (dn _ _ _ _ _ (nd52 v1_g_15_1 v1_g_21_1 v1_g_27_1 v1_g_9_1))
  have nd58 : ∀ (v1_g_15_1 : Nat) (v1_g_21_1 : Nat), H 11 (E.bits 37 16617699230) [(2, .pointer none), (7, .slice s.a0 (256 * V.n) s.c0), (13, .slice s.a1 (256 * R.len V) s.c1), (15, .slice (some ⟨v1_g_15_1, 0, none⟩) 0 0), (19, .slice s.a2 (256 * V.n) s.c2), (21, .slice (some ⟨v1_g_21_1, 0, none⟩) 0 0), (25, .slice s.a3 (256 * R.len V) s.c3), (31, .slice s.a4 V.n s.c4), (36, .bool V.coh)] (A.X w oo aa (R.vs s V)) [(r, R.cells s V)] := by
    intro v1_g_15_1 v1_g_21_1
    refine up _ _ _ _ _ ?_
    refine E.H.all [0, 6, 24] (by kernel_rfl) (by simp) (List.forall_mem_cons.2 ⟨⟨_, rfl, ?_⟩, List.forall_mem_cons.2 ⟨⟨_, rfl, ?_⟩, List.forall_mem_cons.2 ⟨⟨_, rfl, ?_⟩, fun _ h => (List.not_mem_nil h).elim⟩⟩⟩)
    · skip
      refine A.G.empty (e := 5) (sz := 1) (by kernel_rfl) (by kernel_rfl) (by kernel_rfl) (fun v1_g_3_1 => ?_)
      refine E.H.back (fun w h => A.hpY0 h (by kernel_rfl)) ?_
      exact E.H.to _ _ _ (by kernel_rfl) ⟨by kernel_rfl, by kernel_rfl⟩ (List.Sublist.refl _) (dn _ _ _ _ _ (nd43 v1_g_15_1 v1_g_21_1 v1_g_3_1))
    · skip
      refine A.G.empty (e := 5) (sz := 1) (by kernel_rfl) (by kernel_rfl) (by kernel_rfl) (fun v1_g_9_1 => ?_)
      refine E.H.back (fun w h => A.hpY0 h (by kernel_rfl)) ?_
      exact E.H.to _ _ _ (by kernel_rfl) ⟨by kernel_rfl, by kernel_rfl⟩ (List.Sublist.refl _) (dn _ _ _ _ _ (nd51 v1_g_15_1 v1_g_21_1 v1_g_9_1))
    · skip
      refine A.G.empty (e := 3) (sz := 1) (by kernel_rfl) (by kernel_rfl) (by kernel_rfl) (fun v1_g_27_1 => ?_)
      refine E.H.back (fun w h => A.hpY0 h (by kernel_rfl)) ?_
      exact E.H.to _ _ _ (by kernel_rfl) ⟨by kernel_rfl, by kernel_rfl⟩ (List.Sublist.refl _) (dn _ _ _ _ _ (nd59 v1_g_15_1 v1_g_21_1 v1_g_27_1))
  have nd60 : ∀ (v1_g_15_1 : Nat) (v1_g_27_1 : Nat), H 11 (E.bits 37 16634214302) [(2, .pointer none), (7, .slice s.a0 (256 * V.n) s.c0), (13, .slice s.a1 (256 * R.len V) s.c1), (15, .slice (some ⟨v1_g_15_1, 0, none⟩) 0 0), (19, .slice s.a2 (256 * V.n) s.c2), (25, .slice s.a3 (256 * R.len V) s.c3), (27, .slice (some ⟨v1_g_27_1, 0, none⟩) 0 0), (31, .slice s.a4 V.n s.c4), (36, .bool V.coh)] (A.X w oo aa (R.vs s V)) [(r, R.cells s V)] := by
    intro v1_g_15_1 v1_g_27_1
    refine up _ _ _ _ _ ?_
    refine E.H.all [0, 6, 18] (by kernel_rfl) (by simp) (List.forall_mem_cons.2 ⟨⟨_, rfl, ?_⟩, List.forall_mem_cons.2 ⟨⟨_, rfl, ?_⟩, List.forall_mem_cons.2 ⟨⟨_, rfl, ?_⟩, fun _ h => (List.not_mem_nil h).elim⟩⟩⟩)
    · skip
      refine A.G.empty (e := 5) (sz := 1) (by kernel_rfl) (by kernel_rfl) (by kernel_rfl) (fun v1_g_3_1 => ?_)
      refine E.H.back (fun w h => A.hpY0 h (by kernel_rfl)) ?_
      exact E.H.to _ _ _ (by kernel_rfl) ⟨by kernel_rfl, by kernel_rfl⟩ (List.Sublist.refl _) (dn _ _ _ _ _ (nd45 v1_g_15_1 v1_g_27_1 v1_g_3_1))
    · skip
      refine A.G.empty (e := 5) (sz := 1) (by kernel_rfl) (by kernel_rfl) (by kernel_rfl) (fun v1_g_9_1 => ?_)
      refine E.H.back (fun w h => A.hpY0 h (by kernel_rfl)) ?_
      exact E.H.to _ _ _ (by kernel_rfl) ⟨by kernel_rfl, by kernel_rfl⟩ (List.Sublist.refl _) (dn _ _ _ _ _ (nd53 v1_g_15_1 v1_g_27_1 v1_g_9_1))
    · skip
      refine A.G.empty (e := 5) (sz := 1) (by kernel_rfl) (by kernel_rfl) (by kernel_rfl) (fun v1_g_21_1 => ?_)
      refine E.H.back (fun w h => A.hpY0 h (by kernel_rfl)) ?_
      exact E.H.to _ _ _ (by kernel_rfl) ⟨by kernel_rfl, by kernel_rfl⟩ (List.Sublist.refl _) (dn _ _ _ _ _ (nd59 v1_g_15_1 v1_g_21_1 v1_g_27_1))
  have nd57 : ∀ (v1_g_15_1 : Nat), H 12 (E.bits 37 16617437086) [(2, .pointer none), (7, .slice s.a0 (256 * V.n) s.c0), (13, .slice s.a1 (256 * R.len V) s.c1), (15, .slice (some ⟨v1_g_15_1, 0, none⟩) 0 0), (19, .slice s.a2 (256 * V.n) s.c2), (25, .slice s.a3 (256 * R.len V) s.c3), (31, .slice s.a4 V.n s.c4), (36, .bool V.coh)] (A.X w oo aa (R.vs s V)) [(r, R.cells s V)] := by
    intro v1_g_15_1
    refine up _ _ _ _ _ ?_
    refine E.H.all [0, 6, 18, 24] (by kernel_rfl) (by simp) (List.forall_mem_cons.2 ⟨⟨_, rfl, ?_⟩, List.forall_mem_cons.2 ⟨⟨_, rfl, ?_⟩, List.forall_mem_cons.2 ⟨⟨_, rfl, ?_⟩, List.forall_mem_cons.2 ⟨⟨_, rfl, ?_⟩, fun _ h => (List.not_mem_nil h).elim⟩⟩⟩⟩)
    · skip
      refine A.G.empty (e := 5) (sz := 1) (by kernel_rfl) (by kernel_rfl) (by kernel_rfl) (fun v1_g_3_1 => ?_)
      refine E.H.back (fun w h => A.hpY0 h (by kernel_rfl)) ?_
      exact E.H.to _ _ _ (by kernel_rfl) ⟨by kernel_rfl, by kernel_rfl⟩ (List.Sublist.refl _) (dn _ _ _ _ _ (nd42 v1_g_15_1 v1_g_3_1))
    · skip
      refine A.G.empty (e := 5) (sz := 1) (by kernel_rfl) (by kernel_rfl) (by kernel_rfl) (fun v1_g_9_1 => ?_)
      refine E.H.back (fun w h => A.hpY0 h (by kernel_rfl)) ?_
      exact E.H.to _ _ _ (by kernel_rfl) ⟨by kernel_rfl, by kernel_rfl⟩ (List.Sublist.refl _) (dn _ _ _ _ _ (nd50 v1_g_15_1 v1_g_9_1))
    · skip
      refine A.G.empty (e := 5) (sz := 1) (by kernel_rfl) (by kernel_rfl) (by kernel_rfl) (fun v1_g_21_1 => ?_)
      refine E.H.back (fun w h => A.hpY0 h (by kernel_rfl)) ?_
      exact E.H.to _ _ _ (by kernel_rfl) ⟨by kernel_rfl, by kernel_rfl⟩ (List.Sublist.refl _) (dn _ _ _ _ _ (nd58 v1_g_15_1 v1_g_21_1))
    · skip
      refine A.G.empty (e := 3) (sz := 1) (by kernel_rfl) (by kernel_rfl) (by kernel_rfl) (fun v1_g_27_1 => ?_)
      refine E.H.back (fun w h => A.hpY0 h (by kernel_rfl)) ?_
      exact E.H.to _ _ _ (by kernel_rfl) ⟨by kernel_rfl, by kernel_rfl⟩ (List.Sublist.refl _) (dn _ _ _ _ _ (nd60 v1_g_15_1 v1_g_27_1))
  have nd62 : ∀ (v1_g_21_1 : Nat) (v1_g_27_1 : Nat), H 11 (E.bits 37 16634472350) [(2, .pointer none), (7, .slice s.a0 (256 * V.n) s.c0), (13, .slice s.a1 (256 * R.len V) s.c1), (19, .slice s.a2 (256 * V.n) s.c2), (21, .slice (some ⟨v1_g_21_1, 0, none⟩) 0 0), (25, .slice s.a3 (256 * R.len V) s.c3), (27, .slice (some ⟨v1_g_27_1, 0, none⟩) 0 0), (31, .slice s.a4 V.n s.c4), (36, .bool V.coh)] (A.X w oo aa (R.vs s V)) [(r, R.cells s V)] := by
    intro v1_g_21_1 v1_g_27_1
    refine up _ _ _ _ _ ?_
    refine E.H.all [0, 6, 12] (by kernel_rfl) (by simp) (List.forall_mem_cons.2 ⟨⟨_, rfl, ?_⟩, List.forall_mem_cons.2 ⟨⟨_, rfl, ?_⟩, List.forall_mem_cons.2 ⟨⟨_, rfl, ?_⟩, fun _ h => (List.not_mem_nil h).elim⟩⟩⟩)
    · skip
      refine A.G.empty (e := 5) (sz := 1) (by kernel_rfl) (by kernel_rfl) (by kernel_rfl) (fun v1_g_3_1 => ?_)
      refine E.H.back (fun w h => A.hpY0 h (by kernel_rfl)) ?_
      exact E.H.to _ _ _ (by kernel_rfl) ⟨by kernel_rfl, by kernel_rfl⟩ (List.Sublist.refl _) (dn _ _ _ _ _ (nd47 v1_g_21_1 v1_g_27_1 v1_g_3_1))
    · skip
      refine A.G.empty (e := 5) (sz := 1) (by kernel_rfl) (by kernel_rfl) (by kernel_rfl) (fun v1_g_9_1 => ?_)
      refine E.H.back (fun w h => A.hpY0 h (by kernel_rfl)) ?_
      exact E.H.to _ _ _ (by kernel_rfl) ⟨by kernel_rfl, by kernel_rfl⟩ (List.Sublist.refl _) (dn _ _ _ _ _ (nd55 v1_g_21_1 v1_g_27_1 v1_g_9_1))
    · skip
      refine A.G.empty (e := 5) (sz := 1) (by kernel_rfl) (by kernel_rfl) (by kernel_rfl) (fun v1_g_15_1 => ?_)
      refine E.H.back (fun w h => A.hpY0 h (by kernel_rfl)) ?_
      exact E.H.to _ _ _ (by kernel_rfl) ⟨by kernel_rfl, by kernel_rfl⟩ (List.Sublist.refl _) (dn _ _ _ _ _ (nd59 v1_g_15_1 v1_g_21_1 v1_g_27_1))
  have nd61 : ∀ (v1_g_21_1 : Nat), H 12 (E.bits 37 16617695134) [(2, .pointer none), (7, .slice s.a0 (256 * V.n) s.c0), (13, .slice s.a1 (256 * R.len V) s.c1), (19, .slice s.a2 (256 * V.n) s.c2), (21, .slice (some ⟨v1_g_21_1, 0, none⟩) 0 0), (25, .slice s.a3 (256 * R.len V) s.c3), (31, .slice s.a4 V.n s.c4), (36, .bool V.coh)] (A.X w oo aa (R.vs s V)) [(r, R.cells s V)] := by
    intro v1_g_21_1
    refine up _ _ _ _ _ ?_
    refine E.H.all [0, 6, 12, 24] (by kernel_rfl) (by simp) (List.forall_mem_cons.2 ⟨⟨_, rfl, ?_⟩, List.forall_mem_cons.2 ⟨⟨_, rfl, ?_⟩, List.forall_mem_cons.2 ⟨⟨_, rfl, ?_⟩, List.forall_mem_cons.2 ⟨⟨_, rfl, ?_⟩, fun _ h => (List.not_mem_nil h).elim⟩⟩⟩⟩)
    · skip
      refine A.G.empty (e := 5) (sz := 1) (by kernel_rfl) (by kernel_rfl) (by kernel_rfl) (fun v1_g_3_1 => ?_)
      refine E.H.back (fun w h => A.hpY0 h (by kernel_rfl)) ?_
      exact E.H.to _ _ _ (by kernel_rfl) ⟨by kernel_rfl, by kernel_rfl⟩ (List.Sublist.refl _) (dn _ _ _ _ _ (nd46 v1_g_21_1 v1_g_3_1))
    · skip
      refine A.G.empty (e := 5) (sz := 1) (by kernel_rfl) (by kernel_rfl) (by kernel_rfl) (fun v1_g_9_1 => ?_)
      refine E.H.back (fun w h => A.hpY0 h (by kernel_rfl)) ?_
      exact E.H.to _ _ _ (by kernel_rfl) ⟨by kernel_rfl, by kernel_rfl⟩ (List.Sublist.refl _) (dn _ _ _ _ _ (nd54 v1_g_21_1 v1_g_9_1))
    · skip
      refine A.G.empty (e := 5) (sz := 1) (by kernel_rfl) (by kernel_rfl) (by kernel_rfl) (fun v1_g_15_1 => ?_)
      refine E.H.back (fun w h => A.hpY0 h (by kernel_rfl)) ?_
      exact E.H.to _ _ _ (by kernel_rfl) ⟨by kernel_rfl, by kernel_rfl⟩ (List.Sublist.refl _) (dn _ _ _ _ _ (nd58 v1_g_15_1 v1_g_21_1))
    · skip
      refine A.G.empty (e := 3) (sz := 1) (by kernel_rfl) (by kernel_rfl) (by kernel_rfl) (fun v1_g_27_1 => ?_)
      refine E.H.back (fun w h => A.hpY0 h (by kernel_rfl)) ?_
      exact E.H.to _ _ _ (by kernel_rfl) ⟨by kernel_rfl, by kernel_rfl⟩ (List.Sublist.refl _) (dn _ _ _ _ _ (nd62 v1_g_21_1 v1_g_27_1))
  have nd63 : ∀ (v1_g_27_1 : Nat), H 12 (E.bits 37 16634210206) [(2, .pointer none), (7, .slice s.a0 (256 * V.n) s.c0), (13, .slice s.a1 (256 * R.len V) s.c1), (19, .slice s.a2 (256 * V.n) s.c2), (25, .slice s.a3 (256 * R.len V) s.c3), (27, .slice (some ⟨v1_g_27_1, 0, none⟩) 0 0), (31, .slice s.a4 V.n s.c4), (36, .bool V.coh)] (A.X w oo aa (R.vs s V)) [(r, R.cells s V)] := by
    intro v1_g_27_1
    refine up _ _ _ _ _ ?_
    refine E.H.all [0, 6, 12, 18] (by kernel_rfl) (by simp) (List.forall_mem_cons.2 ⟨⟨_, rfl, ?_⟩, List.forall_mem_cons.2 ⟨⟨_, rfl, ?_⟩, List.forall_mem_cons.2 ⟨⟨_, rfl, ?_⟩, List.forall_mem_cons.2 ⟨⟨_, rfl, ?_⟩, fun _ h => (List.not_mem_nil h).elim⟩⟩⟩⟩)
    · skip
      refine A.G.empty (e := 5) (sz := 1) (by kernel_rfl) (by kernel_rfl) (by kernel_rfl) (fun v1_g_3_1 => ?_)
      refine E.H.back (fun w h => A.hpY0 h (by kernel_rfl)) ?_
      exact E.H.to _ _ _ (by kernel_rfl) ⟨by kernel_rfl, by kernel_rfl⟩ (List.Sublist.refl _) (dn _ _ _ _ _ (nd48 v1_g_27_1 v1_g_3_1))
    · skip
      refine A.G.empty (e := 5) (sz := 1) (by kernel_rfl) (by kernel_rfl) (by kernel_rfl) (fun v1_g_9_1 => ?_)
      refine E.H.back (fun w h => A.hpY0 h (by kernel_rfl)) ?_
      exact E.H.to _ _ _ (by kernel_rfl) ⟨by kernel_rfl, by kernel_rfl⟩ (List.Sublist.refl _) (dn _ _ _ _ _ (nd56 v1_g_27_1 v1_g_9_1))
    · skip
      refine A.G.empty (e := 5) (sz := 1) (by kernel_rfl) (by kernel_rfl) (by kernel_rfl) (fun v1_g_15_1 => ?_)
      refine E.H.back (fun w h => A.hpY0 h (by kernel_rfl)) ?_
      exact E.H.to _ _ _ (by kernel_rfl) ⟨by kernel_rfl, by kernel_rfl⟩ (List.Sublist.refl _) (dn _ _ _ _ _ (nd60 v1_g_15_1 v1_g_27_1))
    · skip
      refine A.G.empty (e := 5) (sz := 1) (by kernel_rfl) (by kernel_rfl) (by kernel_rfl) (fun v1_g_21_1 => ?_)
      refine E.H.back (fun w h => A.hpY0 h (by kernel_rfl)) ?_
      exact E.H.to _ _ _ (by kernel_rfl) ⟨by kernel_rfl, by kernel_rfl⟩ (List.Sublist.refl _) (dn _ _ _ _ _ (nd62 v1_g_21_1 v1_g_27_1))
  refine up _ _ _ _ _ ?_
  refine E.H.take 1 (.pointer (some ⟨r, 0, none⟩)) rfl (by kernel_rfl) (by kernel_rfl) (by kernel_rfl) (fun _ _ _ h => h) (fun w h => A.hpY0 h (by kernel_rfl)) (.inl ⟨by kernel_rfl, by kernel_rfl, fun w h => by kernel_rfl⟩) (by kernel_rfl) ?_
  refine E.H.take 2 (.pointer (some ⟨r, 0, none⟩)) rfl (by kernel_rfl) (by kernel_rfl) (by kernel_rfl) (fun _ _ _ h => h) (fun w h => A.hpY0 h (by kernel_rfl)) (.inl ⟨by kernel_rfl, by kernel_rfl, fun w h => by kernel_rfl⟩) (by kernel_rfl) ?_
  refine E.H.take 3 (.pointer (some ⟨r, 0, none⟩)) rfl (by kernel_rfl) (by kernel_rfl) (by kernel_rfl) (fun _ _ _ h => h) (fun w h => A.hpY0 h (by kernel_rfl)) (.inl ⟨by kernel_rfl, by kernel_rfl, fun w h => by kernel_rfl⟩) (by kernel_rfl) ?_
  refine E.H.take 4 (.slice s.a0 (256 * V.n) s.c0) rfl (by kernel_rfl) (by kernel_rfl) (by kernel_rfl) (fun _ _ _ h => h) (fun w h => A.hpY0 h (by kernel_rfl)) (.inl ⟨by kernel_rfl, by kernel_rfl, fun w h => A.Y.bld h (k := 0) (j := 0) rfl (by kernel_rfl) (by kernel_rfl)⟩) (by kernel_rfl) ?_
  refine E.H.take 7 (.pointer (some ⟨r, 0, none⟩)) rfl (by kernel_rfl) (by kernel_rfl) (by kernel_rfl) (fun _ _ _ h => h) (fun w h => A.hpY0 h (by kernel_rfl)) (.inl ⟨by kernel_rfl, by kernel_rfl, fun w h => by kernel_rfl⟩) (by kernel_rfl) ?_
  refine E.H.take 8 (.pointer (some ⟨r, 0, none⟩)) rfl (by kernel_rfl) (by kernel_rfl) (by kernel_rfl) (fun _ _ _ h => h) (fun w h => A.hpY0 h (by kernel_rfl)) (.inl ⟨by kernel_rfl, by kernel_rfl, fun w h => by kernel_rfl⟩) (by kernel_rfl) ?_
  refine E.H.take 9 (.pointer (some ⟨r, 1, none⟩)) rfl (by kernel_rfl) (by kernel_rfl) (by kernel_rfl) (fun _ _ _ h => h) (fun w h => A.hpY0 h (by kernel_rfl)) (.inl ⟨by kernel_rfl, by kernel_rfl, fun w h => by kernel_rfl⟩) (by kernel_rfl) ?_
  refine E.H.take 10 (.slice s.a1 (256 * R.len V) s.c1) rfl (by kernel_rfl) (by kernel_rfl) (by kernel_rfl) (fun _ _ _ h => h) (fun w h => A.hpY0 h (by kernel_rfl)) (.inl ⟨by kernel_rfl, by kernel_rfl, fun w h => A.Y.bld h (k := 0) (j := 1) rfl (by kernel_rfl) (by kernel_rfl)⟩) (by kernel_rfl) ?_
  refine E.H.take 13 (.pointer (some ⟨r, 0, none⟩)) rfl (by kernel_rfl) (by kernel_rfl) (by kernel_rfl) (fun _ _ _ h => h) (fun w h => A.hpY0 h (by kernel_rfl)) (.inl ⟨by kernel_rfl, by kernel_rfl, fun w h => by kernel_rfl⟩) (by kernel_rfl) ?_
  refine E.H.take 14 (.pointer (some ⟨r, 0, none⟩)) rfl (by kernel_rfl) (by kernel_rfl) (by kernel_rfl) (fun _ _ _ h => h) (fun w h => A.hpY0 h (by kernel_rfl)) (.inl ⟨by kernel_rfl, by kernel_rfl, fun w h => by kernel_rfl⟩) (by kernel_rfl) ?_
  refine E.H.take 15 (.pointer (some ⟨r, 2, none⟩)) rfl (by kernel_rfl) (by kernel_rfl) (by kernel_rfl) (fun _ _ _ h => h) (fun w h => A.hpY0 h (by kernel_rfl)) (.inl ⟨by kernel_rfl, by kernel_rfl, fun w h => by kernel_rfl⟩) (by kernel_rfl) ?_
  refine E.H.take 16 (.slice s.a2 (256 * V.n) s.c2) rfl (by kernel_rfl) (by kernel_rfl) (by kernel_rfl) (fun _ _ _ h => h) (fun w h => A.hpY0 h (by kernel_rfl)) (.inl ⟨by kernel_rfl, by kernel_rfl, fun w h => A.Y.bld h (k := 0) (j := 2) rfl (by kernel_rfl) (by kernel_rfl)⟩) (by kernel_rfl) ?_
  refine E.H.take 19 (.pointer (some ⟨r, 0, none⟩)) rfl (by kernel_rfl) (by kernel_rfl) (by kernel_rfl) (fun _ _ _ h => h) (fun w h => A.hpY0 h (by kernel_rfl)) (.inl ⟨by kernel_rfl, by kernel_rfl, fun w h => by kernel_rfl⟩) (by kernel_rfl) ?_
  refine E.H.take 20 (.pointer (some ⟨r, 0, none⟩)) rfl (by kernel_rfl) (by kernel_rfl) (by kernel_rfl) (fun _ _ _ h => h) (fun w h => A.hpY0 h (by kernel_rfl)) (.inl ⟨by kernel_rfl, by kernel_rfl, fun w h => by kernel_rfl⟩) (by kernel_rfl) ?_
  refine E.H.take 21 (.pointer (some ⟨r, 3, none⟩)) rfl (by kernel_rfl) (by kernel_rfl) (by kernel_rfl) (fun _ _ _ h => h) (fun w h => A.hpY0 h (by kernel_rfl)) (.inl ⟨by kernel_rfl, by kernel_rfl, fun w h => by kernel_rfl⟩) (by kernel_rfl) ?_
  refine E.H.take 22 (.slice s.a3 (256 * R.len V) s.c3) rfl (by kernel_rfl) (by kernel_rfl) (by kernel_rfl) (fun _ _ _ h => h) (fun w h => A.hpY0 h (by kernel_rfl)) (.inl ⟨by kernel_rfl, by kernel_rfl, fun w h => A.Y.bld h (k := 0) (j := 3) rfl (by kernel_rfl) (by kernel_rfl)⟩) (by kernel_rfl) ?_
  refine E.H.take 25 (.pointer (some ⟨r, 0, none⟩)) rfl (by kernel_rfl) (by kernel_rfl) (by kernel_rfl) (fun _ _ _ h => h) (fun w h => A.hpY0 h (by kernel_rfl)) (.inl ⟨by kernel_rfl, by kernel_rfl, fun w h => by kernel_rfl⟩) (by kernel_rfl) ?_
  refine E.H.take 26 (.pointer (some ⟨r, 0, none⟩)) rfl (by kernel_rfl) (by kernel_rfl) (by kernel_rfl) (fun _ _ _ h => h) (fun w h => A.hpY0 h (by kernel_rfl)) (.inl ⟨by kernel_rfl, by kernel_rfl, fun w h => by kernel_rfl⟩) (by kernel_rfl) ?_
  refine E.H.take 27 (.pointer (some ⟨r, 4, none⟩)) rfl (by kernel_rfl) (by kernel_rfl) (by kernel_rfl) (fun _ _ _ h => h) (fun w h => A.hpY0 h (by kernel_rfl)) (.inl ⟨by kernel_rfl, by kernel_rfl, fun w h => by kernel_rfl⟩) (by kernel_rfl) ?_
  refine E.H.take 28 (.slice s.a4 V.n s.c4) rfl (by kernel_rfl) (by kernel_rfl) (by kernel_rfl) (fun _ _ _ h => h) (fun w h => A.hpY0 h (by kernel_rfl)) (.inl ⟨by kernel_rfl, by kernel_rfl, fun w h => A.Y.bld h (k := 0) (j := 4) rfl (by kernel_rfl) (by kernel_rfl)⟩) (by kernel_rfl) ?_
  refine E.H.take 30 (.pointer (some ⟨r, 0, none⟩)) rfl (by kernel_rfl) (by kernel_rfl) (by kernel_rfl) (fun _ _ _ h => h) (fun w h => A.hpY0 h (by kernel_rfl)) (.inl ⟨by kernel_rfl, by kernel_rfl, fun w h => by kernel_rfl⟩) (by kernel_rfl) ?_
  refine E.H.take 31 (.pointer (some ⟨r, 0, none⟩)) rfl (by kernel_rfl) (by kernel_rfl) (by kernel_rfl) (fun _ _ _ h => h) (fun w h => A.hpY0 h (by kernel_rfl)) (.inl ⟨by kernel_rfl, by kernel_rfl, fun w h => by kernel_rfl⟩) (by kernel_rfl) ?_
  refine E.H.take 32 (.pointer (some ⟨r, 5, none⟩)) rfl (by kernel_rfl) (by kernel_rfl) (by kernel_rfl) (fun _ _ _ h => h) (fun w h => A.hpY0 h (by kernel_rfl)) (.inl ⟨by kernel_rfl, by kernel_rfl, fun w h => by kernel_rfl⟩) (by kernel_rfl) ?_
  refine E.H.take 33 (.bool V.coh) rfl (by kernel_rfl) (by kernel_rfl) (by kernel_rfl) (fun _ _ _ h => h) (fun w h => A.hpY0 h (by kernel_rfl)) (.inl ⟨by kernel_rfl, by kernel_rfl, fun w h => A.Y.bld h (k := 0) (j := 5) rfl (by kernel_rfl) (by kernel_rfl)⟩) (by kernel_rfl) ?_
  refine E.H.all [0, 6, 12, 18, 24] (by kernel_rfl) (by simp) (List.forall_mem_cons.2 ⟨⟨_, rfl, ?_⟩, List.forall_mem_cons.2 ⟨⟨_, rfl, ?_⟩, List.forall_mem_cons.2 ⟨⟨_, rfl, ?_⟩, List.forall_mem_cons.2 ⟨⟨_, rfl, ?_⟩, List.forall_mem_cons.2 ⟨⟨_, rfl, ?_⟩, fun _ h => (List.not_mem_nil h).elim⟩⟩⟩⟩⟩)
  · skip
    refine A.G.empty (e := 5) (sz := 1) (by kernel_rfl) (by kernel_rfl) (by kernel_rfl) (fun v1_g_3_1 => ?_)
    refine E.H.back (fun w h => A.hpY0 h (by kernel_rfl)) ?_
    exact E.H.to _ _ _ (by kernel_rfl) ⟨by kernel_rfl, by kernel_rfl⟩ (List.Sublist.refl _) (dn _ _ _ _ _ (nd0 v1_g_3_1))
  · skip
    refine A.G.empty (e := 5) (sz := 1) (by kernel_rfl) (by kernel_rfl) (by kernel_rfl) (fun v1_g_9_1 => ?_)
    refine E.H.back (fun w h => A.hpY0 h (by kernel_rfl)) ?_
    exact E.H.to _ _ _ (by kernel_rfl) ⟨by kernel_rfl, by kernel_rfl⟩ (List.Sublist.refl _) (dn _ _ _ _ _ (nd49 v1_g_9_1))
  · skip
    refine A.G.empty (e := 5) (sz := 1) (by kernel_rfl) (by kernel_rfl) (by kernel_rfl) (fun v1_g_15_1 => ?_)
    refine E.H.back (fun w h => A.hpY0 h (by kernel_rfl)) ?_
    exact E.H.to _ _ _ (by kernel_rfl) ⟨by kernel_rfl, by kernel_rfl⟩ (List.Sublist.refl _) (dn _ _ _ _ _ (nd57 v1_g_15_1))
  · skip
    refine A.G.empty (e := 5) (sz := 1) (by kernel_rfl) (by kernel_rfl) (by kernel_rfl) (fun v1_g_21_1 => ?_)
    refine E.H.back (fun w h => A.hpY0 h (by kernel_rfl)) ?_
    exact E.H.to _ _ _ (by kernel_rfl) ⟨by kernel_rfl, by kernel_rfl⟩ (List.Sublist.refl _) (dn _ _ _ _ _ (nd61 v1_g_21_1))
  · skip
    refine A.G.empty (e := 3) (sz := 1) (by kernel_rfl) (by kernel_rfl) (by kernel_rfl) (fun v1_g_27_1 => ?_)
    refine E.H.back (fun w h => A.hpY0 h (by kernel_rfl)) ?_
    exact E.H.to _ _ _ (by kernel_rfl) ⟨by kernel_rfl, by kernel_rfl⟩ (List.Sublist.refl _) (dn _ _ _ _ _ (nd63 v1_g_27_1))
theorem R_Copy {r : Nat} {V : M.V} : A.Tr Try.prog 37 #[.pointer (some ⟨r, 0, none⟩)] [R.It r V] (I := Nat) (fun _ => True) (fun g => .pointer (some ⟨g, 0, none⟩)) (fun g => [R.It r V, R.It g V]) := R.copy_it (p := []) fun s hw => R_Copy_s hw
end Go.Proofs.Ytdjjjikokfadiaa
