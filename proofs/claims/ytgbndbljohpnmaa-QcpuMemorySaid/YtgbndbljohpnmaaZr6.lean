/- Texts of the walk, merged (6): see the remark ahead of each. -/
import Derived.Test.YtgbndbljohpnmaaZr5
import Derived.Test.YtgbndbljohpnmaaProg
/- XQi -/
namespace Go.Proofs.Ytgbndbljohpnmaa
set_option linter.unusedVariables false
set_option linter.unusedSimpArgs false
open Go.RowKit
def Q.z0 : Q.S := ⟨0, fun _ => 0, 0, fun _ => 0, 0, 0⟩
theorem A.rdAs {P : Program} {f : FuncId} {args : Array Value} {p : List A.It} {v v' : Value} (h : A.Rd P f args p v) (e : v = v') : A.Rd P f args p v' := e ▸ h
/-- A valid instruction's fields. -/
structure Q.iok (i : Q.I) : Prop where
  op : 0 ≤ i.op ∧ i.op < 64
  d : 0 ≤ i.d ∧ i.d < 16
  a : 0 ≤ i.a ∧ i.a < 16
  b : 0 ≤ i.b ∧ i.b < 16
  imm : 0 ≤ i.imm ∧ i.imm < 4294967296
  get : (i.op == 53) = true → i.imm < 4
/-- A state's words are words. -/
structure Q.wf (s : Q.S) : Prop where
  pc : 0 ≤ s.pc ∧ s.pc < 4294967296
  r : ∀ k, 0 ≤ s.r k ∧ s.r k < 4294967296
  c : ∀ k, 0 ≤ s.c k ∧ s.c k < 4294967296
theorem Q.bif_bd {c : Bool} {x y : Int} (hx : 0 ≤ x ∧ x < 4294967296) (hy : 0 ≤ y ∧ y < 4294967296) : 0 ≤ (bif c then x else y) ∧ (bif c then x else y) < 4294967296 := by
  cases c
  · exact hy
  · exact hx
theorem Op_all (c a b : Int) (ha : 0 ≤ a ∧ a < 4294967296) (hb : 0 ≤ b ∧ b < 4294967296) (w : World) : Calls Try.prog 61 #[.int .i64 c, .int .u32 a, .int .u32 b] w fun e w' => e = .returned (.int .u32 (W.op c a b)) ∧ Bel w w' := Op_any c a b ha.1 ha.2 hb.1 hb.2 w
theorem Q.ne_of {k : Int} (h : (k == 0) = false) : (k != 0) = true := by rw [bne, h]; rfl
theorem Q.hp_map {S : Nat → Prop} {w0 w w' : World} {X : World → Prop} {L : List (Nat × List Value)} {g c : Nat} {es : Array MapEntry} (h : E.Hp S w0 X L w) (hb : Bel w w') (hm : E.Mp g es c w') (hne : A.ne L = true) : E.Hp S w0 (fun w => X w ∧ E.Mp g es c w) L w' := by
  have h1 := h.bel hb
  have hlt : g < w'.heap.size := by
    unfold E.Mp at hm
    rcases Nat.lt_or_ge g w'.heap.size with k | k
    · exact k
    · rw [Array.getElem?_eq_none k] at hm; cases hm
  have hn : g ∉ L.map (·.1) := fun hx => by
    obtain ⟨p, hp, e⟩ := List.mem_map.1 hx
    have hq := List.all_eq_true.1 hne p hp
    cases hc : p.2 with
    | nil => rw [hc] at hq; cases hq
    | cons v l =>
      have := h1.mem p hp 0 v (by rw [hc]; rfl)
      rw [World.cell?, e] at this
      unfold E.Mp at hm
      simp only [hm] at this
      cases this
  refine h1.addX fun w2 hs hw => ?_
  unfold E.Mp at hm ⊢
  rw [hw g hlt hn]; exact hm
def Q.stepI (i : Q.I) (k t : Int) (s : Q.S) (V : M.V) : Q.S × Int × Int × M.V := (bif (k == 0) then (bif (((Q.stop i).1) != 0) then (s, (Q.stop i).1, (Q.stop i).2, V) else (bif ((i.op == 10) && ((bif (decide (i.op ≥ 16)) then i.imm else ((Q.up s.r 0 0) ((i.b).toNat))) == 0)) then (s, 6, (Q.stop i).2, V) else (bif (Q.ar i.op).2 then (⟨(IntKind.wrap .u32 (s.pc + 4)), (Q.up (Q.up (Q.up s.r 0 0) (i.d).toNat (W.op ((Q.ar i.op).1) ((Q.up s.r 0 0) ((i.a).toNat)) (bif (decide (i.op ≥ 16)) then i.imm else ((Q.up s.r 0 0) ((i.b).toNat))))) 0 0), s.f, s.c, (IntKind.wrap .i64 (s.st + 1)), s.du⟩, (Q.stop i).1, (Q.stop i).2, V) else (bif ((i.op == 23) || (i.op == 24)) then (bif (((Q.acc i V (IntKind.wrap .u32 (((Q.up s.r 0 0) ((i.a).toNat)) + i.imm)) ((Q.up s.r 0 0) ((i.d).toNat))).2.1) != 0) then (s, (Q.acc i V (IntKind.wrap .u32 (((Q.up s.r 0 0) ((i.a).toNat)) + i.imm)) ((Q.up s.r 0 0) ((i.d).toNat))).2.1, (Q.acc i V (IntKind.wrap .u32 (((Q.up s.r 0 0) ((i.a).toNat)) + i.imm)) ((Q.up s.r 0 0) ((i.d).toNat))).2.2.1, (Q.acc i V (IntKind.wrap .u32 (((Q.up s.r 0 0) ((i.a).toNat)) + i.imm)) ((Q.up s.r 0 0) ((i.d).toNat))).2.2.2) else (⟨(IntKind.wrap .u32 (s.pc + 4)), (Q.up (Q.up (Q.up s.r 0 0) (i.d).toNat ((Q.acc i V (IntKind.wrap .u32 (((Q.up s.r 0 0) ((i.a).toNat)) + i.imm)) ((Q.up s.r 0 0) ((i.d).toNat))).1)) 0 0), s.f, s.c, (IntKind.wrap .i64 (s.st + 1)), s.du⟩, (Q.acc i V (IntKind.wrap .u32 (((Q.up s.r 0 0) ((i.a).toNat)) + i.imm)) ((Q.up s.r 0 0) ((i.d).toNat))).2.1, (Q.acc i V (IntKind.wrap .u32 (((Q.up s.r 0 0) ((i.a).toNat)) + i.imm)) ((Q.up s.r 0 0) ((i.d).toNat))).2.2.1, (Q.acc i V (IntKind.wrap .u32 (((Q.up s.r 0 0) ((i.a).toNat)) + i.imm)) ((Q.up s.r 0 0) ((i.d).toNat))).2.2.2)) else (bif ((i.op == 25) || (i.op == 26)) then (bif (((Q.acc i V (IntKind.wrap .u32 (((Q.up s.r 0 0) ((i.a).toNat)) + i.imm)) ((Q.up s.r 0 0) ((i.d).toNat))).2.1) != 0) then (s, (Q.acc i V (IntKind.wrap .u32 (((Q.up s.r 0 0) ((i.a).toNat)) + i.imm)) ((Q.up s.r 0 0) ((i.d).toNat))).2.1, (Q.acc i V (IntKind.wrap .u32 (((Q.up s.r 0 0) ((i.a).toNat)) + i.imm)) ((Q.up s.r 0 0) ((i.d).toNat))).2.2.1, (Q.acc i V (IntKind.wrap .u32 (((Q.up s.r 0 0) ((i.a).toNat)) + i.imm)) ((Q.up s.r 0 0) ((i.d).toNat))).2.2.2) else (⟨(IntKind.wrap .u32 (s.pc + 4)), (Q.up (Q.up s.r 0 0) 0 0), s.f, s.c, (IntKind.wrap .i64 (s.st + 1)), s.du⟩, (Q.acc i V (IntKind.wrap .u32 (((Q.up s.r 0 0) ((i.a).toNat)) + i.imm)) ((Q.up s.r 0 0) ((i.d).toNat))).2.1, (Q.acc i V (IntKind.wrap .u32 (((Q.up s.r 0 0) ((i.a).toNat)) + i.imm)) ((Q.up s.r 0 0) ((i.d).toNat))).2.2.1, (Q.acc i V (IntKind.wrap .u32 (((Q.up s.r 0 0) ((i.a).toNat)) + i.imm)) ((Q.up s.r 0 0) ((i.d).toNat))).2.2.2)) else (bif (i.op == 27) then (⟨(bits .andNot .u32 (IntKind.wrap .u32 (((Q.up s.r 0 0) ((i.a).toNat)) + i.imm)) 3), (Q.up (Q.up (Q.up s.r 0 0) (i.d).toNat (IntKind.wrap .u32 (s.pc + 4))) 0 0), s.f, s.c, (IntKind.wrap .i64 (s.st + 1)), s.du⟩, (Q.stop i).1, (Q.stop i).2, V) else (bif (i.op == 40) then (⟨(IntKind.wrap .u32 (s.pc + (IntKind.wrap .u32 (4 * i.imm)))), (Q.up (Q.up (Q.up s.r 0 0) (i.d).toNat (IntKind.wrap .u32 (s.pc + 4))) 0 0), s.f, s.c, (IntKind.wrap .i64 (s.st + 1)), s.du⟩, (Q.stop i).1, (Q.stop i).2, V) else (bif (i.op == 41) then (⟨(IntKind.wrap .u32 (s.pc + 4)), (Q.up (Q.up (Q.up s.r 0 0) (i.d).toNat (IntKind.wrap .u32 (i.imm * 2 ^ 10))) 0 0), s.f, s.c, (IntKind.wrap .i64 (s.st + 1)), s.du⟩, (Q.stop i).1, (Q.stop i).2, V) else (bif (i.op == 51) then (⟨(bits .andNot .u32 (s.c 1) 3), (Q.up (Q.up s.r 0 0) 0 0), s.f, s.c, (IntKind.wrap .i64 (s.st + 1)), s.du⟩, (Q.stop i).1, (Q.stop i).2, V) else (bif (i.op == 52) then (bif (!(decide ((((Q.up s.r 0 0) ((i.a).toNat))).toNat / 256 < V.n))) then (s, 5, ((Q.up s.r 0 0) ((i.a).toNat)), (V.sync ((((Q.up s.r 0 0) ((i.a).toNat))).toNat / 256))) else (⟨(IntKind.wrap .u32 (s.pc + 4)), (Q.up (Q.up s.r 0 0) 0 0), s.f, s.c, (IntKind.wrap .i64 (s.st + 1)), s.du⟩, (Q.stop i).1, (Q.stop i).2, (V.sync ((((Q.up s.r 0 0) ((i.a).toNat))).toNat / 256)))) else (bif (i.op == 53) then (⟨(IntKind.wrap .u32 (s.pc + 4)), (Q.up (Q.up (Q.up s.r 0 0) (i.d).toNat (s.c ((i.imm).toNat))) 0 0), s.f, s.c, (IntKind.wrap .i64 (s.st + 1)), s.du⟩, (Q.stop i).1, (Q.stop i).2, V) else (bif (i.op == 54) then (⟨(IntKind.wrap .u32 (s.pc + 4)), (Q.up ((Q.ctl (⟨s.pc, (Q.up s.r 0 0), s.f, s.c, s.st, s.du⟩ : Q.S) i.imm ((Q.up s.r 0 0) ((i.a).toNat))).r) 0 0), (Q.ctl (⟨s.pc, (Q.up s.r 0 0), s.f, s.c, s.st, s.du⟩ : Q.S) i.imm ((Q.up s.r 0 0) ((i.a).toNat))).f, (Q.ctl (⟨s.pc, (Q.up s.r 0 0), s.f, s.c, s.st, s.du⟩ : Q.S) i.imm ((Q.up s.r 0 0) ((i.a).toNat))).c, (IntKind.wrap .i64 (((Q.ctl (⟨s.pc, (Q.up s.r 0 0), s.f, s.c, s.st, s.du⟩ : Q.S) i.imm ((Q.up s.r 0 0) ((i.a).toNat))).st) + 1)), (Q.ctl (⟨s.pc, (Q.up s.r 0 0), s.f, s.c, s.st, s.du⟩ : Q.S) i.imm ((Q.up s.r 0 0) ((i.a).toNat))).du⟩, (Q.stop i).1, (Q.stop i).2, V) else (bif (Q.taken i.op ((Q.up s.r 0 0) ((i.d).toNat)) ((Q.up s.r 0 0) ((i.a).toNat))) then (⟨(IntKind.wrap .u32 (s.pc + (IntKind.wrap .u32 (4 * i.imm)))), (Q.up (Q.up s.r 0 0) 0 0), s.f, s.c, (IntKind.wrap .i64 (s.st + 1)), s.du⟩, (Q.stop i).1, (Q.stop i).2, V) else (⟨(IntKind.wrap .u32 (s.pc + 4)), (Q.up (Q.up s.r 0 0) 0 0), s.f, s.c, (IntKind.wrap .i64 (s.st + 1)), s.du⟩, (Q.stop i).1, (Q.stop i).2, V)))))))))))))) else (s, k, t, V))
theorem Step_i {m : Nat} {xs : List Value} (i : Q.I) (k t : Int) (s : Q.S) (V : M.V) (hf : Q.fetch V s.pc = (i, k, t)) (hi : (k == 0) = true → Q.iok i) (hs : Q.wf s) : A.Tr Try.prog 48 #[Q.S.val s, .iface 82 (.pointer (some ⟨m, 0, none⟩))] [M.It m V xs] (I := Unit) (fun _ => True) (fun _ => .tuple #[Q.S.val ((Q.stepI i k t s V).1), .agg #[.int .i64 ((Q.stepI i k t s V).2.1), .int .u32 ((Q.stepI i k t s V).2.2.1)]]) (fun _ => [M.It m (Q.stepI i k t s V).2.2.2 xs]) := by
 intro w oo aa hh
 refine E.enter (n := 231) (S := oo) Try.func48 rfl rfl (by kernel_rfl) (A.start (L := []) hh) ?_
 refine E.sr ?_
 refine E.G.new (fun g => .pointer (some ⟨g, 0, none⟩)) (Q.S.cells s) 27 (fun w => by kernel_rfl) (by kernel_rfl) (fun g1 => ?_)
 refine E.G.new (fun g => .pointer (some ⟨g, 0, none⟩)) (Q.S.cells Q.z0) 27 (fun w => by kernel_rfl) (by kernel_rfl) (fun g2 => ?_)
 refine E.G.new (fun g => .pointer (some ⟨g, 0, none⟩)) [.int .i64 0, .int .u32 0] 51 (fun w => by kernel_rfl) (by kernel_rfl) (fun g3 => ?_)
 refine E.tr ?_
 refine E.op (.pointer (some ⟨g1, 0, none⟩)) ?_
 refine E.li (.int .u32 s.pc) 2 rfl rfl ?_
 refine E.op (.iface 82 (.pointer (some ⟨m, 0, none⟩))) ?_
 refine E.G.call (.tuple #[.agg #[.int .i64 i.op, .int .i64 i.d, .int .i64 i.a, .int .i64 i.b, .int .u32 i.imm], .agg #[.int .i64 k, .int .u32 t]]) (fun w h => A.call_rd [A.blk g3 ([.int .i64 0, .int .u32 0]), A.blk g2 (Q.S.cells Q.z0), A.blk g1 (Q.S.cells s)] (A.rdAs (v' := .tuple #[.agg #[.int .i64 i.op, .int .i64 i.d, .int .i64 i.a, .int .i64 i.b, .int .u32 i.imm], .agg #[.int .i64 k, .int .u32 t]]) (Fetch_rd (m := m) (xs := xs) V s.pc) (by rw [hf])) h (by kernel_rfl) (A.pn [3, 0, 1, 2])) (fun w _ => by kernel_rfl) (by kernel_rfl) ?_
 refine E.op (.tuple #[.agg #[.int .i64 i.op, .int .i64 i.d, .int .i64 i.a, .int .i64 i.b, .int .u32 i.imm], .agg #[.int .i64 k, .int .u32 t]]) ?_
 refine E.op (.agg #[.int .i64 i.op, .int .i64 i.d, .int .i64 i.a, .int .i64 i.b, .int .u32 i.imm]) ?_
 refine E.op (.agg #[.int .i64 k, .int .u32 t]) ?_
 refine E.G.new (fun g => .pointer (some ⟨g, 0, none⟩)) [.int .i64 0, .int .i64 0, .int .i64 0, .int .i64 0, .int .u32 0] 47 (fun w => by kernel_rfl) (by kernel_rfl) (fun g4 => ?_)
 refine E.G.new (fun g => .pointer (some ⟨g, 0, none⟩)) [.int .i64 0, .int .u32 0] 51 (fun w => by kernel_rfl) (by kernel_rfl) (fun g5 => ?_)
 refine E.st 1 [.int .i64 i.op, .int .i64 i.d, .int .i64 i.a, .int .i64 i.b, .int .u32 i.imm] rfl rfl ?_
 refine E.st 0 [.int .i64 k, .int .u32 t] rfl rfl ?_
 refine E.To.code ?_
 refine E.wk [(1, .iface 82 (.pointer (some ⟨m, 0, none⟩))), (2, .pointer (some ⟨g1, 0, none⟩)), (4, .pointer (some ⟨g2, 0, none⟩)), (5, .pointer (some ⟨g3, 0, none⟩)), (6, .pointer (some ⟨g4, 0, none⟩)), (7, .pointer (some ⟨g5, 0, none⟩))] [(g5, [.int .i64 k, .int .u32 t]), (g4, [.int .i64 i.op, .int .i64 i.d, .int .i64 i.a, .int .i64 i.b, .int .u32 i.imm]), (g3, [.int .i64 0, .int .u32 0]), (g2, (Q.S.cells Q.z0)), (g1, (Q.S.cells s))] (List.Sublist.refl _) ?_
 refine E.C.seq ?_
 refine E.sr ?_
 refine E.op (.pointer (some ⟨g5, 0, none⟩)) ?_
 refine E.li (.int .i64 k) 0 rfl rfl ?_
 refine E.op (.bool (k == 0)) ?_
 refine E.To.code ?_
 refine E.cd (k == 0) (fun hc6 => ?_) (fun hc6 => ?_)
 ·
  refine E.C.region ?_
  refine E.li (.agg #[.int .i64 i.op, .int .i64 i.d, .int .i64 i.a, .int .i64 i.b, .int .u32 i.imm]) 1 rfl rfl ?_
  refine E.G.call (.agg #[.int .i64 ((Q.stop i).1), .int .u32 ((Q.stop i).2)]) (fun w h => stop_any i w) (fun w _ => by kernel_rfl) (by kernel_rfl) ?_
  refine E.st 0 [.int .i64 ((Q.stop i).1), .int .u32 ((Q.stop i).2)] rfl rfl ?_
  refine E.To.code ?_
  refine E.C.seq ?_
  refine E.sr ?_
  refine E.op (.pointer (some ⟨g5, 0, none⟩)) ?_
  refine E.li (.int .i64 ((Q.stop i).1)) 0 rfl rfl ?_
  refine E.vl (.bool (((Q.stop i).1) != 0)) (fun w h => E.run_as (a := .bool (((Q.stop i).1) != 0)) (by kernel_rfl) (rfl)) ?_
  refine E.To.code ?_
  refine E.cd (((Q.stop i).1) != 0) (fun hc7 => ?_) (fun hc7 => ?_)
  ·
   refine E.C.seq ?_
   refine E.C.held (E.Hp (oo) w (A.X w oo aa [M.It m V xs]) [(g5, [.int .i64 ((Q.stop i).1), .int .u32 ((Q.stop i).2)]), (g4, [.int .i64 i.op, .int .i64 i.d, .int .i64 i.a, .int .i64 i.b, .int .u32 i.imm]), (g1, (Q.S.cells s))]) (by kernel_rfl) ?_
   refine E.tj 0 (Q.S.val s) rfl (fun w h => h.less (List.Sublist.cons_cons _ (List.Sublist.cons_cons _ (List.Sublist.cons _ (List.Sublist.cons _ (List.Sublist.refl _)))))) (fun w h => E.run_load h 2 rfl rfl (by kernel_rfl)) ?_
   refine E.tj 1 (.agg #[.int .i64 ((Q.stop i).1), .int .u32 ((Q.stop i).2)]) rfl (fun w h => h.less (List.Sublist.cons_cons _ (List.Sublist.cons_cons _ (List.Sublist.cons _ (List.Sublist.cons _ (List.Sublist.refl _)))))) (fun w h => E.run_load h 0 rfl rfl (by kernel_rfl)) ?_
   refine E.al 2 rfl ?_
   refine E.st 3 (Q.S.cells s) rfl rfl ?_
   refine E.H.back (fun w h => h.less (List.Sublist.cons_cons _ (List.Sublist.cons_cons _ (List.Sublist.cons _ (List.Sublist.cons _ (List.Sublist.refl _)))))) ?_
   refine E.al 3 rfl ?_
   refine E.st 2 [.int .i64 ((Q.stop i).1), .int .u32 ((Q.stop i).2)] rfl rfl ?_
   refine E.H.back (fun w h => h.less (List.Sublist.cons_cons _ (List.Sublist.cons_cons _ (List.Sublist.cons _ (List.Sublist.cons _ (List.Sublist.refl _)))))) ?_
   refine E.H.done (by kernel_rfl) ?_
   refine E.To.code ?_
   refine E.wk [(1, .iface 82 (.pointer (some ⟨m, 0, none⟩))), (2, .pointer (some ⟨g1, 0, none⟩)), (4, .pointer (some ⟨g2, 0, none⟩)), (5, .pointer (some ⟨g3, 0, none⟩)), (6, .pointer (some ⟨g4, 0, none⟩)), (7, .pointer (some ⟨g5, 0, none⟩))] [(g5, [.int .i64 ((Q.stop i).1), .int .u32 ((Q.stop i).2)]), (g4, [.int .i64 i.op, .int .i64 i.d, .int .i64 i.a, .int .i64 i.b, .int .u32 i.imm]), (g3, [.int .i64 ((Q.stop i).1), .int .u32 ((Q.stop i).2)]), (g2, (Q.S.cells s)), (g1, (Q.S.cells s))] (List.Sublist.refl _) ?_
   refine E.C.ret (E.P.rt (E.To.body (fn := Try.f48) [Q.S.val s, .agg #[.int .i64 ((Q.stop i).1), .int .u32 ((Q.stop i).2)]] ?_ ?_))
   · exact ⟨⟨by kernel_rfl, _, _, 3, _, rfl, rfl, by kernel_rfl⟩, ⟨by kernel_rfl, _, _, 2, _, rfl, rfl, by kernel_rfl⟩, trivial⟩
   intro w h
   have e : (Q.stepI i k t s V) = (s, (Q.stop i).1, (Q.stop i).2, V) := by unfold Q.stepI; rw [hc6, cond_true, hc7, cond_true] <;> rfl
   rw [e]
   exact ⟨(), trivial, rfl, A.done (q := [M.It m V xs]) (r := [A.blk g5 ([.int .i64 ((Q.stop i).1), .int .u32 ((Q.stop i).2)]), A.blk g4 ([.int .i64 i.op, .int .i64 i.d, .int .i64 i.a, .int .i64 i.b, .int .u32 i.imm]), A.blk g3 ([.int .i64 ((Q.stop i).1), .int .u32 ((Q.stop i).2)]), A.blk g2 (Q.S.cells s), A.blk g1 (Q.S.cells s)]) h (by kernel_rfl) (A.pn [5, 0, 1, 2, 3, 4])⟩
  refine E.C.skip (E.To.code ?_)
  refine E.wk [(1, .iface 82 (.pointer (some ⟨m, 0, none⟩))), (2, .pointer (some ⟨g1, 0, none⟩)), (4, .pointer (some ⟨g2, 0, none⟩)), (5, .pointer (some ⟨g3, 0, none⟩)), (6, .pointer (some ⟨g4, 0, none⟩)), (7, .pointer (some ⟨g5, 0, none⟩))] [(g5, [.int .i64 ((Q.stop i).1), .int .u32 ((Q.stop i).2)]), (g4, [.int .i64 i.op, .int .i64 i.d, .int .i64 i.a, .int .i64 i.b, .int .u32 i.imm]), (g3, [.int .i64 0, .int .u32 0]), (g2, (Q.S.cells Q.z0)), (g1, (Q.S.cells s))] (List.Sublist.refl _) ?_
  refine E.sr ?_
  refine E.li (Q.S.val s) 4 rfl rfl ?_
  refine E.G.new (fun g => .pointer (some ⟨g, 0, none⟩)) (Q.S.cells Q.z0) 27 (fun w => by kernel_rfl) (by kernel_rfl) (fun g8 => ?_)
  refine E.st 0 (Q.S.cells s) rfl rfl ?_
  refine E.tr ?_
  refine E.op (.pointer (some ⟨g1, 1, none⟩)) ?_
  refine E.op (.pointer (some ⟨g1, 1, none⟩)) ?_
  refine E.st 5 (Q.S.cells (⟨s.pc, (Q.up s.r 0 0), s.f, s.c, s.st, s.du⟩)) rfl rfl ?_
  refine E.To.code ?_
  refine E.C.seq ?_
  refine E.C.quiet (by kernel_rfl) (by kernel_rfl) ?_
  refine E.wo (.pointer (some ⟨g4, 1, none⟩)) ?_
  refine E.wv (.int .i64 i.d) (fun w h => E.run_load h 2 rfl rfl (by kernel_rfl)) ?_
  refine E.wo (.pointer (some ⟨g1, 1, none⟩)) ?_
  refine E.wv (.pointer (some ⟨g1, 1 + (i.d).toNat, none⟩)) (fun w h => E.idxI (e := 22) g1 1 16 .i64 i.d (by kernel_rfl) (by kernel_rfl) (by kernel_rfl) (by kernel_rfl) (by have := (hi hc6).d; omega) w) ?_
  refine E.wv (.int .u32 ((Q.up s.r 0 0) ((i.d).toNat))) (fun w h => E.run_load h 5 rfl rfl (Q.ld_r (by kernel_rfl) (by have := (by have := (hi hc6).d; omega); omega))) ?_
  refine E.wo (.pointer (some ⟨g4, 2, none⟩)) ?_
  refine E.wv (.int .i64 i.a) (fun w h => E.run_load h 2 rfl rfl (by kernel_rfl)) ?_
  refine E.wo (.pointer (some ⟨g1, 1, none⟩)) ?_
  refine E.wv (.pointer (some ⟨g1, 1 + (i.a).toNat, none⟩)) (fun w h => E.idxI (e := 22) g1 1 16 .i64 i.a (by kernel_rfl) (by kernel_rfl) (by kernel_rfl) (by kernel_rfl) (by have := (hi hc6).a; omega) w) ?_
  refine E.wv (.int .u32 ((Q.up s.r 0 0) ((i.a).toNat))) (fun w h => E.run_load h 5 rfl rfl (Q.ld_r (by kernel_rfl) (by have := (by have := (hi hc6).a; omega); omega))) ?_
  refine E.wo (.pointer (some ⟨g4, 3, none⟩)) ?_
  refine E.wv (.int .i64 i.b) (fun w h => E.run_load h 2 rfl rfl (by kernel_rfl)) ?_
  refine E.wo (.pointer (some ⟨g1, 1, none⟩)) ?_
  refine E.wv (.pointer (some ⟨g1, 1 + (i.b).toNat, none⟩)) (fun w h => E.idxI (e := 22) g1 1 16 .i64 i.b (by kernel_rfl) (by kernel_rfl) (by kernel_rfl) (by kernel_rfl) (by have := (hi hc6).b; omega) w) ?_
  refine E.wv (.int .u32 ((Q.up s.r 0 0) ((i.b).toNat))) (fun w h => E.run_load h 5 rfl rfl (Q.ld_r (by kernel_rfl) (by have := (by have := (hi hc6).b; omega); omega))) ?_
  refine E.wo (.int .u32 ((Q.up s.r 0 0) ((i.d).toNat))) ?_
  refine E.wo (.int .u32 ((Q.up s.r 0 0) ((i.a).toNat))) ?_
  refine E.wo (.int .u32 ((Q.up s.r 0 0) ((i.b).toNat))) ?_
  refine E.W.done (E.To.code ?_)
  refine E.wk [(1, .iface 82 (.pointer (some ⟨m, 0, none⟩))), (2, .pointer (some ⟨g1, 0, none⟩)), (4, .pointer (some ⟨g2, 0, none⟩)), (5, .pointer (some ⟨g3, 0, none⟩)), (6, .pointer (some ⟨g4, 0, none⟩)), (7, .pointer (some ⟨g5, 0, none⟩)), (8, .pointer (some ⟨g8, 0, none⟩)), (9, .int .u32 ((Q.up s.r 0 0) ((i.d).toNat))), (10, .int .u32 ((Q.up s.r 0 0) ((i.a).toNat))), (11, .int .u32 ((Q.up s.r 0 0) ((i.b).toNat)))] [(g8, (Q.S.cells s)), (g5, [.int .i64 ((Q.stop i).1), .int .u32 ((Q.stop i).2)]), (g4, [.int .i64 i.op, .int .i64 i.d, .int .i64 i.a, .int .i64 i.b, .int .u32 i.imm]), (g3, [.int .i64 0, .int .u32 0]), (g2, (Q.S.cells Q.z0)), (g1, (Q.S.cells (⟨s.pc, (Q.up s.r 0 0), s.f, s.c, s.st, s.du⟩)))] (List.Sublist.refl _) ?_
  refine E.C.seq ?_
  refine E.sr ?_
  refine E.op (.pointer (some ⟨g4, 0, none⟩)) ?_
  refine E.li (.int .i64 i.op) 2 rfl rfl ?_
  refine E.op (.bool (decide (i.op ≥ 16))) ?_
  refine E.To.code ?_
  refine E.C.thencut [(1, .iface 82 (.pointer (some ⟨m, 0, none⟩))), (2, .pointer (some ⟨g1, 0, none⟩)), (4, .pointer (some ⟨g2, 0, none⟩)), (5, .pointer (some ⟨g3, 0, none⟩)), (6, .pointer (some ⟨g4, 0, none⟩)), (7, .pointer (some ⟨g5, 0, none⟩)), (8, .pointer (some ⟨g8, 0, none⟩)), (9, .int .u32 ((Q.up s.r 0 0) ((i.d).toNat))), (10, .int .u32 ((Q.up s.r 0 0) ((i.a).toNat))), (11, .int .u32 (bif (decide (i.op ≥ 16)) then i.imm else ((Q.up s.r 0 0) ((i.b).toNat))))] (A.X w oo aa [M.It m V xs]) [(g8, (Q.S.cells s)), (g5, [.int .i64 ((Q.stop i).1), .int .u32 ((Q.stop i).2)]), (g4, [.int .i64 i.op, .int .i64 i.d, .int .i64 i.a, .int .i64 i.b, .int .u32 i.imm]), (g3, [.int .i64 0, .int .u32 0]), (g2, (Q.S.cells Q.z0)), (g1, (Q.S.cells (⟨s.pc, (Q.up s.r 0 0), s.f, s.c, s.st, s.du⟩)))] ?_ ?_
  ·
   generalize hc9 : (decide (i.op ≥ 16)) = b10
   cases b10
   ·
    refine E.C.condF (by kernel_rfl) (by kernel_rfl) ?_
    exact E.C.skip (E.To.pst ⟨by kernel_rfl, by kernel_rfl⟩ (List.Sublist.refl _) (fun _ h => h))
   refine E.C.condT (by kernel_rfl) (by kernel_rfl) ?_
   refine E.C.region ?_
   refine E.op (.pointer (some ⟨g4, 4, none⟩)) ?_
   refine E.li (.int .u32 i.imm) 2 rfl rfl ?_
   refine E.op (.int .u32 i.imm) ?_
   exact E.To.pst ⟨by kernel_rfl, by kernel_rfl⟩ (List.Sublist.refl _) (fun _ h => h)
  refine E.sr ?_
  refine E.op (.pointer (some ⟨g1, 0, none⟩)) ?_
  refine E.li (.int .u32 s.pc) 5 rfl rfl ?_
  refine E.op (.int .u32 (IntKind.wrap .u32 (s.pc + 4))) ?_
  refine E.op (.int .u32 (IntKind.wrap .u32 (s.pc + 4))) ?_
  refine E.tr ?_
  refine E.op (.pointer (some ⟨g1, 0, none⟩)) ?_
  refine E.li (.int .u32 s.pc) 5 rfl rfl ?_
  refine E.op (.pointer (some ⟨g4, 4, none⟩)) ?_
  refine E.li (.int .u32 i.imm) 2 rfl rfl ?_
  refine E.op (.int .u32 (IntKind.wrap .u32 (4 * i.imm))) ?_
  refine E.op (.int .u32 (IntKind.wrap .u32 (s.pc + (IntKind.wrap .u32 (4 * i.imm))))) ?_
  refine E.op (.int .u32 (IntKind.wrap .u32 (s.pc + (IntKind.wrap .u32 (4 * i.imm))))) ?_
  refine E.To.code ?_
  refine E.wk [(1, .iface 82 (.pointer (some ⟨m, 0, none⟩))), (2, .pointer (some ⟨g1, 0, none⟩)), (4, .pointer (some ⟨g2, 0, none⟩)), (5, .pointer (some ⟨g3, 0, none⟩)), (6, .pointer (some ⟨g4, 0, none⟩)), (7, .pointer (some ⟨g5, 0, none⟩)), (8, .pointer (some ⟨g8, 0, none⟩)), (9, .int .u32 ((Q.up s.r 0 0) ((i.d).toNat))), (10, .int .u32 ((Q.up s.r 0 0) ((i.a).toNat))), (11, .int .u32 (bif (decide (i.op ≥ 16)) then i.imm else ((Q.up s.r 0 0) ((i.b).toNat)))), (12, .int .u32 (IntKind.wrap .u32 (s.pc + 4))), (13, .int .u32 (IntKind.wrap .u32 (s.pc + (IntKind.wrap .u32 (4 * i.imm)))))] [(g8, (Q.S.cells s)), (g5, [.int .i64 ((Q.stop i).1), .int .u32 ((Q.stop i).2)]), (g4, [.int .i64 i.op, .int .i64 i.d, .int .i64 i.a, .int .i64 i.b, .int .u32 i.imm]), (g3, [.int .i64 0, .int .u32 0]), (g2, (Q.S.cells Q.z0)), (g1, (Q.S.cells (⟨s.pc, (Q.up s.r 0 0), s.f, s.c, s.st, s.du⟩)))] (List.Sublist.refl _) ?_
  refine E.C.seq ?_
  refine E.C.held (A.Y [A.blk g8 (Q.S.cells s), A.blk g5 ([.int .i64 ((Q.stop i).1), .int .u32 ((Q.stop i).2)]), A.blk g4 ([.int .i64 i.op, .int .i64 i.d, .int .i64 i.a, .int .i64 i.b, .int .u32 i.imm]), A.blk g3 ([.int .i64 0, .int .u32 0]), A.blk g2 (Q.S.cells Q.z0), A.blk g1 (Q.S.cells (⟨s.pc, (Q.up s.r 0 0), s.f, s.c, s.st, s.du⟩))]) (by kernel_rfl) ?_
  refine E.tk 1 (.pointer (some ⟨g4, 0, none⟩)) rfl (fun w h => A.hpY (p := [A.blk g8 (Q.S.cells s), A.blk g5 ([.int .i64 ((Q.stop i).1), .int .u32 ((Q.stop i).2)]), A.blk g4 ([.int .i64 i.op, .int .i64 i.d, .int .i64 i.a, .int .i64 i.b, .int .u32 i.imm]), A.blk g3 ([.int .i64 0, .int .u32 0]), A.blk g2 (Q.S.cells Q.z0), A.blk g1 (Q.S.cells (⟨s.pc, (Q.up s.r 0 0), s.f, s.c, s.st, s.du⟩))]) (r := [M.It m V xs]) h (by kernel_rfl) (A.pn [0, 1, 2, 3, 4, 5, 6])) ?_
  refine E.tj 2 (.int .i64 i.op) rfl (fun w h => A.hpY (p := [A.blk g8 (Q.S.cells s), A.blk g5 ([.int .i64 ((Q.stop i).1), .int .u32 ((Q.stop i).2)]), A.blk g4 ([.int .i64 i.op, .int .i64 i.d, .int .i64 i.a, .int .i64 i.b, .int .u32 i.imm]), A.blk g3 ([.int .i64 0, .int .u32 0]), A.blk g2 (Q.S.cells Q.z0), A.blk g1 (Q.S.cells (⟨s.pc, (Q.up s.r 0 0), s.f, s.c, s.st, s.du⟩))]) (r := [M.It m V xs]) h (by kernel_rfl) (A.pn [0, 1, 2, 3, 4, 5, 6])) (fun w h => A.Y.bld h (k := 2) (j := 0) rfl (by kernel_rfl) (by kernel_rfl)) ?_
  refine E.al 0 rfl ?_
  refine E.G.callX (I := Nat) (fun _ => True) (fun g => .map (some g)) (fun g u => (A.X w oo aa [M.It m V xs]) u ∧ E.Mp g Q.arE 19 u) (fun _ => [(g8, (Q.S.cells s)), (g5, [.int .i64 ((Q.stop i).1), .int .u32 ((Q.stop i).2)]), (g4, [.int .i64 i.op, .int .i64 i.d, .int .i64 i.a, .int .i64 i.b, .int .u32 i.imm]), (g3, [.int .i64 0, .int .u32 0]), (g2, (Q.S.cells Q.z0)), (g1, (Q.S.cells (⟨s.pc, (Q.up s.r 0 0), s.f, s.c, s.st, s.du⟩)))]) (fun w h => (arithmetic_any w).mono fun e w1 ⟨g, he, hm, hb⟩ => ⟨g, trivial, he, Q.hp_map h hb hm (by kernel_rfl)⟩) (fun w _ => by kernel_rfl) (by kernel_rfl) (fun g11 _ => ?_)
  refine E.H.back (fun w h => A.hpY (p := [A.blk g8 (Q.S.cells s), A.blk g5 ([.int .i64 ((Q.stop i).1), .int .u32 ((Q.stop i).2)]), A.blk g4 ([.int .i64 i.op, .int .i64 i.d, .int .i64 i.a, .int .i64 i.b, .int .u32 i.imm]), A.blk g3 ([.int .i64 0, .int .u32 0]), A.blk g2 (Q.S.cells Q.z0), A.blk g1 (Q.S.cells (⟨s.pc, (Q.up s.r 0 0), s.f, s.c, s.st, s.du⟩))]) (r := [M.It m V xs]) (h.monoX fun _ k => k.1) (by kernel_rfl) (A.pn [0, 1, 2, 3, 4, 5, 6])) ?_
  refine E.al 3 rfl ?_
  refine E.vl (.tuple #[.int .i64 ((Q.ar i.op).1), .bool ((Q.ar i.op).2)]) (fun w h => E.lookup (by kernel_rfl) (by kernel_rfl) (Q.ar_look h.x.2 _)) ?_
  refine E.G.monoX (fun _ k => k.1) ?_
  refine E.H.back (fun w h => A.hpY (p := [A.blk g8 (Q.S.cells s), A.blk g5 ([.int .i64 ((Q.stop i).1), .int .u32 ((Q.stop i).2)]), A.blk g4 ([.int .i64 i.op, .int .i64 i.d, .int .i64 i.a, .int .i64 i.b, .int .u32 i.imm]), A.blk g3 ([.int .i64 0, .int .u32 0]), A.blk g2 (Q.S.cells Q.z0), A.blk g1 (Q.S.cells (⟨s.pc, (Q.up s.r 0 0), s.f, s.c, s.st, s.du⟩))]) (r := [M.It m V xs]) h (by kernel_rfl) (A.pn [0, 1, 2, 3, 4, 5, 6])) ?_
  refine E.tk 4 (.tuple #[.int .i64 ((Q.ar i.op).1), .bool ((Q.ar i.op).2)]) rfl (fun w h => A.hpY (p := [A.blk g8 (Q.S.cells s), A.blk g5 ([.int .i64 ((Q.stop i).1), .int .u32 ((Q.stop i).2)]), A.blk g4 ([.int .i64 i.op, .int .i64 i.d, .int .i64 i.a, .int .i64 i.b, .int .u32 i.imm]), A.blk g3 ([.int .i64 0, .int .u32 0]), A.blk g2 (Q.S.cells Q.z0), A.blk g1 (Q.S.cells (⟨s.pc, (Q.up s.r 0 0), s.f, s.c, s.st, s.du⟩))]) (r := [M.It m V xs]) h (by kernel_rfl) (A.pn [0, 1, 2, 3, 4, 5, 6])) ?_
  refine E.tk 5 (.int .i64 ((Q.ar i.op).1)) rfl (fun w h => A.hpY (p := [A.blk g8 (Q.S.cells s), A.blk g5 ([.int .i64 ((Q.stop i).1), .int .u32 ((Q.stop i).2)]), A.blk g4 ([.int .i64 i.op, .int .i64 i.d, .int .i64 i.a, .int .i64 i.b, .int .u32 i.imm]), A.blk g3 ([.int .i64 0, .int .u32 0]), A.blk g2 (Q.S.cells Q.z0), A.blk g1 (Q.S.cells (⟨s.pc, (Q.up s.r 0 0), s.f, s.c, s.st, s.du⟩))]) (r := [M.It m V xs]) h (by kernel_rfl) (A.pn [0, 1, 2, 3, 4, 5, 6])) ?_
  refine E.tk 6 (.bool ((Q.ar i.op).2)) rfl (fun w h => A.hpY (p := [A.blk g8 (Q.S.cells s), A.blk g5 ([.int .i64 ((Q.stop i).1), .int .u32 ((Q.stop i).2)]), A.blk g4 ([.int .i64 i.op, .int .i64 i.d, .int .i64 i.a, .int .i64 i.b, .int .u32 i.imm]), A.blk g3 ([.int .i64 0, .int .u32 0]), A.blk g2 (Q.S.cells Q.z0), A.blk g1 (Q.S.cells (⟨s.pc, (Q.up s.r 0 0), s.f, s.c, s.st, s.du⟩))]) (r := [M.It m V xs]) h (by kernel_rfl) (A.pn [0, 1, 2, 3, 4, 5, 6])) ?_
  refine E.tk 7 (.int .i64 ((Q.ar i.op).1)) rfl (fun w h => A.hpY (p := [A.blk g8 (Q.S.cells s), A.blk g5 ([.int .i64 ((Q.stop i).1), .int .u32 ((Q.stop i).2)]), A.blk g4 ([.int .i64 i.op, .int .i64 i.d, .int .i64 i.a, .int .i64 i.b, .int .u32 i.imm]), A.blk g3 ([.int .i64 0, .int .u32 0]), A.blk g2 (Q.S.cells Q.z0), A.blk g1 (Q.S.cells (⟨s.pc, (Q.up s.r 0 0), s.f, s.c, s.st, s.du⟩))]) (r := [M.It m V xs]) h (by kernel_rfl) (A.pn [0, 1, 2, 3, 4, 5, 6])) ?_
  refine E.tk 8 (.bool ((Q.ar i.op).2)) rfl (fun w h => A.hpY (p := [A.blk g8 (Q.S.cells s), A.blk g5 ([.int .i64 ((Q.stop i).1), .int .u32 ((Q.stop i).2)]), A.blk g4 ([.int .i64 i.op, .int .i64 i.d, .int .i64 i.a, .int .i64 i.b, .int .u32 i.imm]), A.blk g3 ([.int .i64 0, .int .u32 0]), A.blk g2 (Q.S.cells Q.z0), A.blk g1 (Q.S.cells (⟨s.pc, (Q.up s.r 0 0), s.f, s.c, s.st, s.du⟩))]) (r := [M.It m V xs]) h (by kernel_rfl) (A.pn [0, 1, 2, 3, 4, 5, 6])) ?_
  refine E.H.done (by kernel_rfl) ?_
  refine E.To.code ?_
  refine E.C.seq ?_
  refine E.C.block ?_
  refine E.sr ?_
  refine E.op (.pointer (some ⟨g4, 0, none⟩)) ?_
  refine E.li (.int .i64 i.op) 2 rfl rfl ?_
  refine E.op (.bool (i.op == 10)) ?_
  refine E.op (.bool (i.op == 10)) ?_
  refine E.G.cut 3 [(1, .iface 82 (.pointer (some ⟨m, 0, none⟩))), (2, .pointer (some ⟨g1, 0, none⟩)), (4, .pointer (some ⟨g2, 0, none⟩)), (5, .pointer (some ⟨g3, 0, none⟩)), (6, .pointer (some ⟨g4, 0, none⟩)), (7, .pointer (some ⟨g5, 0, none⟩)), (8, .pointer (some ⟨g8, 0, none⟩)), (9, .int .u32 ((Q.up s.r 0 0) ((i.d).toNat))), (10, .int .u32 ((Q.up s.r 0 0) ((i.a).toNat))), (11, .int .u32 (bif (decide (i.op ≥ 16)) then i.imm else ((Q.up s.r 0 0) ((i.b).toNat)))), (12, .int .u32 (IntKind.wrap .u32 (s.pc + 4))), (13, .int .u32 (IntKind.wrap .u32 (s.pc + (IntKind.wrap .u32 (4 * i.imm))))), (14, .int .i64 ((Q.ar i.op).1)), (15, .bool ((Q.ar i.op).2)), (79, .bool ((i.op == 10) && ((bif (decide (i.op ≥ 16)) then i.imm else ((Q.up s.r 0 0) ((i.b).toNat))) == 0)))] (A.X w oo aa [M.It m V xs]) [(g8, (Q.S.cells s)), (g5, [.int .i64 ((Q.stop i).1), .int .u32 ((Q.stop i).2)]), (g4, [.int .i64 i.op, .int .i64 i.d, .int .i64 i.a, .int .i64 i.b, .int .u32 i.imm]), (g3, [.int .i64 0, .int .u32 0]), (g2, (Q.S.cells Q.z0)), (g1, (Q.S.cells (⟨s.pc, (Q.up s.r 0 0), s.f, s.c, s.st, s.du⟩)))] ?_ ?_
  ·
   generalize hc12 : (i.op == 10) = b13
   cases b13
   ·
    refine E.sk ?_
    refine E.sk ?_
    refine E.op (.bool false) ?_
    exact E.G.end_pst ⟨by kernel_rfl, by kernel_rfl⟩ (List.Sublist.refl _) (fun _ h => h)
   refine E.op (.int .u32 (bif (decide (i.op ≥ 16)) then i.imm else ((Q.up s.r 0 0) ((i.b).toNat)))) ?_
   refine E.op (.bool ((bif (decide (i.op ≥ 16)) then i.imm else ((Q.up s.r 0 0) ((i.b).toNat))) == 0)) ?_
   refine E.op (.bool ((bif (decide (i.op ≥ 16)) then i.imm else ((Q.up s.r 0 0) ((i.b).toNat))) == 0)) ?_
   exact E.G.end_pst ⟨by kernel_rfl, by kernel_rfl⟩ (List.Sublist.refl _) (fun _ h => h)
  refine E.op (.bool ((i.op == 10) && ((bif (decide (i.op ≥ 16)) then i.imm else ((Q.up s.r 0 0) ((i.b).toNat))) == 0))) ?_
  refine E.To.code ?_
  refine E.cd ((i.op == 10) && ((bif (decide (i.op ≥ 16)) then i.imm else ((Q.up s.r 0 0) ((i.b).toNat))) == 0)) (fun hc14 => ?_) (fun hc14 => ?_)
  ·
   refine E.C.region ?_
   refine E.op (.pointer (some ⟨g5, 0, none⟩)) ?_
   refine E.st 1 [.int .i64 6, .int .u32 ((Q.stop i).2)] rfl rfl ?_
   refine E.P.nb (E.To.code ?_)
   refine E.wk [(2, .pointer (some ⟨g1, 0, none⟩)), (4, .pointer (some ⟨g2, 0, none⟩)), (5, .pointer (some ⟨g3, 0, none⟩)), (7, .pointer (some ⟨g5, 0, none⟩)), (8, .pointer (some ⟨g8, 0, none⟩)), (12, .int .u32 (IntKind.wrap .u32 (s.pc + 4)))] [(g8, (Q.S.cells s)), (g5, [.int .i64 6, .int .u32 ((Q.stop i).2)]), (g3, [.int .i64 0, .int .u32 0]), (g2, (Q.S.cells Q.z0)), (g1, (Q.S.cells (⟨s.pc, (Q.up s.r 0 0), s.f, s.c, s.st, s.du⟩)))] (List.Sublist.cons_cons _ (List.Sublist.cons_cons _ (List.Sublist.cons _ (List.Sublist.refl _)))) ?_
   refine E.C.seq ?_
   refine E.sr ?_
   refine E.op (.pointer (some ⟨g5, 0, none⟩)) ?_
   refine E.li (.int .i64 6) 1 rfl rfl ?_
   refine E.op (.bool true) ?_
   refine E.To.code ?_
   refine E.C.condT (by kernel_rfl) (by kernel_rfl) ?_
   refine E.C.seq ?_
   refine E.C.held (E.Hp (oo) w (A.X w oo aa [M.It m V xs]) [(g8, (Q.S.cells s)), (g5, [.int .i64 6, .int .u32 ((Q.stop i).2)]), (g1, (Q.S.cells (⟨s.pc, (Q.up s.r 0 0), s.f, s.c, s.st, s.du⟩)))]) (by kernel_rfl) ?_
   refine E.tj 0 (Q.S.val s) rfl (fun w h => h.less (List.Sublist.cons_cons _ (List.Sublist.cons_cons _ (List.Sublist.cons _ (List.Sublist.cons _ (List.Sublist.refl _)))))) (fun w h => E.run_load h 0 rfl rfl (by kernel_rfl)) ?_
   refine E.tj 1 (.agg #[.int .i64 6, .int .u32 ((Q.stop i).2)]) rfl (fun w h => h.less (List.Sublist.cons_cons _ (List.Sublist.cons_cons _ (List.Sublist.cons _ (List.Sublist.cons _ (List.Sublist.refl _)))))) (fun w h => E.run_load h 1 rfl rfl (by kernel_rfl)) ?_
   refine E.al 2 rfl ?_
   refine E.st 3 (Q.S.cells s) rfl rfl ?_
   refine E.H.back (fun w h => h.less (List.Sublist.cons_cons _ (List.Sublist.cons_cons _ (List.Sublist.cons _ (List.Sublist.cons _ (List.Sublist.refl _)))))) ?_
   refine E.al 3 rfl ?_
   refine E.st 2 [.int .i64 6, .int .u32 ((Q.stop i).2)] rfl rfl ?_
   refine E.H.back (fun w h => h.less (List.Sublist.cons_cons _ (List.Sublist.cons_cons _ (List.Sublist.cons _ (List.Sublist.cons _ (List.Sublist.refl _)))))) ?_
   refine E.H.done (by kernel_rfl) ?_
   refine E.To.code ?_
   refine E.C.ret (E.P.rt (E.To.body (fn := Try.f48) [Q.S.val s, .agg #[.int .i64 6, .int .u32 ((Q.stop i).2)]] ?_ ?_))
   · exact ⟨⟨by kernel_rfl, _, _, 3, _, rfl, rfl, by kernel_rfl⟩, ⟨by kernel_rfl, _, _, 2, _, rfl, rfl, by kernel_rfl⟩, trivial⟩
   intro w h
   have e : (Q.stepI i k t s V) = (s, 6, (Q.stop i).2, V) := by unfold Q.stepI; rw [hc6, cond_true, hc7, cond_false, hc14, cond_true] <;> rfl
   rw [e]
   exact ⟨(), trivial, rfl, A.done (q := [M.It m V xs]) (r := [A.blk g8 (Q.S.cells s), A.blk g5 ([.int .i64 6, .int .u32 ((Q.stop i).2)]), A.blk g3 ([.int .i64 6, .int .u32 ((Q.stop i).2)]), A.blk g2 (Q.S.cells s), A.blk g1 (Q.S.cells (⟨s.pc, (Q.up s.r 0 0), s.f, s.c, s.st, s.du⟩))]) h (by kernel_rfl) (A.pn [5, 0, 1, 2, 3, 4])⟩
  refine E.sr ?_
  refine E.op (.bool ((Q.ar i.op).2)) ?_
  refine E.op (.bool ((Q.ar i.op).2)) ?_
  refine E.To.code ?_
  refine E.cd ((Q.ar i.op).2) (fun hc15 => ?_) (fun hc15 => ?_)
  ·
   refine E.C.held (E.Hp (oo) w (A.X w oo aa [M.It m V xs]) [(g8, (Q.S.cells s)), (g5, [.int .i64 ((Q.stop i).1), .int .u32 ((Q.stop i).2)]), (g4, [.int .i64 i.op, .int .i64 i.d, .int .i64 i.a, .int .i64 i.b, .int .u32 i.imm]), (g3, [.int .i64 0, .int .u32 0]), (g2, (Q.S.cells Q.z0))]) (by kernel_rfl) ?_
   refine E.tk 0 (.pointer (some ⟨g4, 1, none⟩)) rfl (fun w h => h.less (List.Sublist.cons_cons _ (List.Sublist.cons_cons _ (List.Sublist.cons_cons _ (List.Sublist.cons_cons _ (List.Sublist.cons_cons _ (List.nil_sublist _))))))) ?_
   refine E.tj 1 (.int .i64 i.d) rfl (fun w h => h.less (List.Sublist.cons_cons _ (List.Sublist.cons_cons _ (List.Sublist.cons_cons _ (List.Sublist.cons_cons _ (List.Sublist.cons_cons _ (List.nil_sublist _))))))) (fun w h => E.run_load h 2 rfl rfl (by kernel_rfl)) ?_
   refine E.tk 2 (.int .i64 ((Q.ar i.op).1)) rfl (fun w h => h.less (List.Sublist.cons_cons _ (List.Sublist.cons_cons _ (List.Sublist.cons_cons _ (List.Sublist.cons_cons _ (List.Sublist.cons_cons _ (List.nil_sublist _))))))) ?_
   refine E.tk 3 (.int .u32 ((Q.up s.r 0 0) ((i.a).toNat))) rfl (fun w h => h.less (List.Sublist.cons_cons _ (List.Sublist.cons_cons _ (List.Sublist.cons_cons _ (List.Sublist.cons_cons _ (List.Sublist.cons_cons _ (List.nil_sublist _))))))) ?_
   refine E.tk 4 (.int .u32 (bif (decide (i.op ≥ 16)) then i.imm else ((Q.up s.r 0 0) ((i.b).toNat)))) rfl (fun w h => h.less (List.Sublist.cons_cons _ (List.Sublist.cons_cons _ (List.Sublist.cons_cons _ (List.Sublist.cons_cons _ (List.Sublist.cons_cons _ (List.nil_sublist _))))))) ?_
   refine E.tk 6 (.pointer (some ⟨g1, 1, none⟩)) rfl (fun w h => h.less (List.Sublist.cons_cons _ (List.Sublist.cons_cons _ (List.Sublist.cons_cons _ (List.Sublist.cons_cons _ (List.Sublist.cons_cons _ (List.nil_sublist _))))))) ?_
   refine E.al 5 rfl ?_
   refine E.G.call (.int .u32 (W.op ((Q.ar i.op).1) ((Q.up s.r 0 0) ((i.a).toNat)) (bif (decide (i.op ≥ 16)) then i.imm else ((Q.up s.r 0 0) ((i.b).toNat))))) (fun w h => Op_all ((Q.ar i.op).1) ((Q.up s.r 0 0) ((i.a).toNat)) (bif (decide (i.op ≥ 16)) then i.imm else ((Q.up s.r 0 0) ((i.b).toNat))) (Q.up_bd hs.r (by decide) _) (Q.bif_bd (hi hc6).imm (Q.up_bd hs.r (by decide) _)) w) (fun w _ => by kernel_rfl) (by kernel_rfl) ?_
   refine E.H.back (fun w h => h.less (List.Sublist.cons_cons _ (List.Sublist.cons_cons _ (List.Sublist.cons_cons _ (List.Sublist.cons_cons _ (List.Sublist.cons_cons _ (List.nil_sublist _))))))) ?_
   refine E.tj 7 (.pointer (some ⟨g1, 1 + (i.d).toNat, none⟩)) rfl (fun w h => h.less (List.Sublist.cons_cons _ (List.Sublist.cons_cons _ (List.Sublist.cons_cons _ (List.Sublist.cons_cons _ (List.Sublist.cons_cons _ (List.nil_sublist _))))))) (fun w h => E.idxI (e := 22) g1 1 16 .i64 i.d (by kernel_rfl) (by kernel_rfl) (by kernel_rfl) (by kernel_rfl) (by have := (hi hc6).d; omega) w) ?_
   refine E.al 8 rfl ?_
   refine E.G.store 5 (Q.S.cells (⟨s.pc, (Q.up (Q.up s.r 0 0) (i.d).toNat (W.op ((Q.ar i.op).1) ((Q.up s.r 0 0) ((i.a).toNat)) (bif (decide (i.op ≥ 16)) then i.imm else ((Q.up s.r 0 0) ((i.b).toNat))))), s.f, s.c, s.st, s.du⟩)) rfl rfl (Q.sto_r (s := ⟨s.pc, (Q.up s.r 0 0), s.f, s.c, s.st, s.du⟩) (by kernel_rfl) (by have := (by have := (hi hc6).d; omega); omega)) (by kernel_rfl) ?_
   refine E.H.back (fun w h => h.less (List.Sublist.cons_cons _ (List.Sublist.cons_cons _ (List.Sublist.cons_cons _ (List.Sublist.cons_cons _ (List.Sublist.cons_cons _ (List.nil_sublist _))))))) ?_
   refine E.H.done (by kernel_rfl) ?_
   refine E.P.nb (E.To.code ?_)
   refine E.wk [(2, .pointer (some ⟨g1, 0, none⟩)), (4, .pointer (some ⟨g2, 0, none⟩)), (5, .pointer (some ⟨g3, 0, none⟩)), (7, .pointer (some ⟨g5, 0, none⟩)), (8, .pointer (some ⟨g8, 0, none⟩)), (12, .int .u32 (IntKind.wrap .u32 (s.pc + 4)))] [(g8, (Q.S.cells s)), (g5, [.int .i64 ((Q.stop i).1), .int .u32 ((Q.stop i).2)]), (g3, [.int .i64 0, .int .u32 0]), (g2, (Q.S.cells Q.z0)), (g1, (Q.S.cells (⟨s.pc, (Q.up (Q.up s.r 0 0) (i.d).toNat (W.op ((Q.ar i.op).1) ((Q.up s.r 0 0) ((i.a).toNat)) (bif (decide (i.op ≥ 16)) then i.imm else ((Q.up s.r 0 0) ((i.b).toNat))))), s.f, s.c, s.st, s.du⟩)))] (List.Sublist.cons_cons _ (List.Sublist.cons_cons _ (List.Sublist.cons _ (List.Sublist.refl _)))) ?_
   refine E.C.seq ?_
   refine E.sr ?_
   refine E.op (.pointer (some ⟨g5, 0, none⟩)) ?_
   refine E.li (.int .i64 ((Q.stop i).1)) 1 rfl rfl ?_
   refine E.op (.bool (((Q.stop i).1) != 0)) ?_
   refine E.To.code ?_
   refine E.cd (((Q.stop i).1) != 0) (fun hc16 => absurd (hc7.symm.trans hc16) (by decide)) (fun hc16 => ?_)
   refine E.C.skip (E.To.code ?_)
   refine E.sr ?_
   refine E.op (.pointer (some ⟨g1, 1, none⟩)) ?_
   refine E.op (.pointer (some ⟨g1, 1, none⟩)) ?_
   refine E.st 4 (Q.S.cells (⟨s.pc, (Q.up (Q.up (Q.up s.r 0 0) (i.d).toNat (W.op ((Q.ar i.op).1) ((Q.up s.r 0 0) ((i.a).toNat)) (bif (decide (i.op ≥ 16)) then i.imm else ((Q.up s.r 0 0) ((i.b).toNat))))) 0 0), s.f, s.c, s.st, s.du⟩)) rfl rfl ?_
   refine E.tr ?_
   refine E.op (.int .u32 (IntKind.wrap .u32 (s.pc + 4))) ?_
   refine E.op (.pointer (some ⟨g1, 0, none⟩)) ?_
   refine E.st 4 (Q.S.cells (⟨(IntKind.wrap .u32 (s.pc + 4)), (Q.up (Q.up (Q.up s.r 0 0) (i.d).toNat (W.op ((Q.ar i.op).1) ((Q.up s.r 0 0) ((i.a).toNat)) (bif (decide (i.op ≥ 16)) then i.imm else ((Q.up s.r 0 0) ((i.b).toNat))))) 0 0), s.f, s.c, s.st, s.du⟩)) rfl rfl ?_
   refine E.To.code ?_
   refine E.wk [(2, .pointer (some ⟨g1, 0, none⟩)), (4, .pointer (some ⟨g2, 0, none⟩)), (5, .pointer (some ⟨g3, 0, none⟩)), (7, .pointer (some ⟨g5, 0, none⟩))] [(g5, [.int .i64 ((Q.stop i).1), .int .u32 ((Q.stop i).2)]), (g3, [.int .i64 0, .int .u32 0]), (g2, (Q.S.cells Q.z0)), (g1, (Q.S.cells (⟨(IntKind.wrap .u32 (s.pc + 4)), (Q.up (Q.up (Q.up s.r 0 0) (i.d).toNat (W.op ((Q.ar i.op).1) ((Q.up s.r 0 0) ((i.a).toNat)) (bif (decide (i.op ≥ 16)) then i.imm else ((Q.up s.r 0 0) ((i.b).toNat))))) 0 0), s.f, s.c, s.st, s.du⟩)))] (List.Sublist.cons _ (List.Sublist.refl _)) ?_
   refine E.sr ?_
   refine E.op (.pointer (some ⟨g1, 22, none⟩)) ?_
   refine E.li (.int .i64 s.st) 3 rfl rfl ?_
   refine E.op (.int .i64 (IntKind.wrap .i64 (s.st + 1))) ?_
   refine E.op (.pointer (some ⟨g1, 22, none⟩)) ?_
   refine E.st 3 (Q.S.cells (⟨(IntKind.wrap .u32 (s.pc + 4)), (Q.up (Q.up (Q.up s.r 0 0) (i.d).toNat (W.op ((Q.ar i.op).1) ((Q.up s.r 0 0) ((i.a).toNat)) (bif (decide (i.op ≥ 16)) then i.imm else ((Q.up s.r 0 0) ((i.b).toNat))))) 0 0), s.f, s.c, (IntKind.wrap .i64 (s.st + 1)), s.du⟩)) rfl rfl ?_
   refine E.To.code ?_
   refine E.C.seq ?_
   refine E.C.held (E.Hp (oo) w (A.X w oo aa [M.It m V xs]) [(g5, [.int .i64 ((Q.stop i).1), .int .u32 ((Q.stop i).2)]), (g1, (Q.S.cells (⟨(IntKind.wrap .u32 (s.pc + 4)), (Q.up (Q.up (Q.up s.r 0 0) (i.d).toNat (W.op ((Q.ar i.op).1) ((Q.up s.r 0 0) ((i.a).toNat)) (bif (decide (i.op ≥ 16)) then i.imm else ((Q.up s.r 0 0) ((i.b).toNat))))) 0 0), s.f, s.c, (IntKind.wrap .i64 (s.st + 1)), s.du⟩)))]) (by kernel_rfl) ?_
   refine E.tj 0 (Q.S.val (⟨(IntKind.wrap .u32 (s.pc + 4)), (Q.up (Q.up (Q.up s.r 0 0) (i.d).toNat (W.op ((Q.ar i.op).1) ((Q.up s.r 0 0) ((i.a).toNat)) (bif (decide (i.op ≥ 16)) then i.imm else ((Q.up s.r 0 0) ((i.b).toNat))))) 0 0), s.f, s.c, (IntKind.wrap .i64 (s.st + 1)), s.du⟩)) rfl (fun w h => h.less (List.Sublist.cons_cons _ (List.Sublist.cons _ (List.Sublist.cons _ (List.Sublist.refl _))))) (fun w h => E.run_load h 1 rfl rfl (by kernel_rfl)) ?_
   refine E.tj 1 (.agg #[.int .i64 ((Q.stop i).1), .int .u32 ((Q.stop i).2)]) rfl (fun w h => h.less (List.Sublist.cons_cons _ (List.Sublist.cons _ (List.Sublist.cons _ (List.Sublist.refl _))))) (fun w h => E.run_load h 0 rfl rfl (by kernel_rfl)) ?_
   refine E.al 2 rfl ?_
   refine E.st 2 (Q.S.cells (⟨(IntKind.wrap .u32 (s.pc + 4)), (Q.up (Q.up (Q.up s.r 0 0) (i.d).toNat (W.op ((Q.ar i.op).1) ((Q.up s.r 0 0) ((i.a).toNat)) (bif (decide (i.op ≥ 16)) then i.imm else ((Q.up s.r 0 0) ((i.b).toNat))))) 0 0), s.f, s.c, (IntKind.wrap .i64 (s.st + 1)), s.du⟩)) rfl rfl ?_
   refine E.H.back (fun w h => h.less (List.Sublist.cons_cons _ (List.Sublist.cons _ (List.Sublist.cons _ (List.Sublist.refl _))))) ?_
   refine E.al 3 rfl ?_
   refine E.st 1 [.int .i64 ((Q.stop i).1), .int .u32 ((Q.stop i).2)] rfl rfl ?_
   refine E.H.back (fun w h => h.less (List.Sublist.cons_cons _ (List.Sublist.cons _ (List.Sublist.cons _ (List.Sublist.refl _))))) ?_
   refine E.H.done (by kernel_rfl) ?_
   refine E.To.code ?_
   refine E.wk [(4, .pointer (some ⟨g2, 0, none⟩)), (5, .pointer (some ⟨g3, 0, none⟩))] [(g3, [.int .i64 ((Q.stop i).1), .int .u32 ((Q.stop i).2)]), (g2, (Q.S.cells (⟨(IntKind.wrap .u32 (s.pc + 4)), (Q.up (Q.up (Q.up s.r 0 0) (i.d).toNat (W.op ((Q.ar i.op).1) ((Q.up s.r 0 0) ((i.a).toNat)) (bif (decide (i.op ≥ 16)) then i.imm else ((Q.up s.r 0 0) ((i.b).toNat))))) 0 0), s.f, s.c, (IntKind.wrap .i64 (s.st + 1)), s.du⟩)))] (List.Sublist.cons _ (List.Sublist.cons_cons _ (List.Sublist.cons_cons _ (List.nil_sublist _)))) ?_
   refine E.C.ret (E.To.body (fn := Try.f48) [Q.S.val (⟨(IntKind.wrap .u32 (s.pc + 4)), (Q.up (Q.up (Q.up s.r 0 0) (i.d).toNat (W.op ((Q.ar i.op).1) ((Q.up s.r 0 0) ((i.a).toNat)) (bif (decide (i.op ≥ 16)) then i.imm else ((Q.up s.r 0 0) ((i.b).toNat))))) 0 0), s.f, s.c, (IntKind.wrap .i64 (s.st + 1)), s.du⟩), .agg #[.int .i64 ((Q.stop i).1), .int .u32 ((Q.stop i).2)]] ?_ ?_)
   · exact ⟨⟨by kernel_rfl, _, _, 1, _, rfl, rfl, by kernel_rfl⟩, ⟨by kernel_rfl, _, _, 0, _, rfl, rfl, by kernel_rfl⟩, trivial⟩
   intro w h
   have e : (Q.stepI i k t s V) = (⟨(IntKind.wrap .u32 (s.pc + 4)), (Q.up (Q.up (Q.up s.r 0 0) (i.d).toNat (W.op ((Q.ar i.op).1) ((Q.up s.r 0 0) ((i.a).toNat)) (bif (decide (i.op ≥ 16)) then i.imm else ((Q.up s.r 0 0) ((i.b).toNat))))) 0 0), s.f, s.c, (IntKind.wrap .i64 (s.st + 1)), s.du⟩, (Q.stop i).1, (Q.stop i).2, V) := by unfold Q.stepI; rw [hc6, cond_true, hc7, cond_false, hc14, cond_false, hc15, cond_true] <;> rfl
   rw [e]
   exact ⟨(), trivial, rfl, A.done (q := [M.It m V xs]) (r := [A.blk g3 ([.int .i64 ((Q.stop i).1), .int .u32 ((Q.stop i).2)]), A.blk g2 (Q.S.cells (⟨(IntKind.wrap .u32 (s.pc + 4)), (Q.up (Q.up (Q.up s.r 0 0) (i.d).toNat (W.op ((Q.ar i.op).1) ((Q.up s.r 0 0) ((i.a).toNat)) (bif (decide (i.op ≥ 16)) then i.imm else ((Q.up s.r 0 0) ((i.b).toNat))))) 0 0), s.f, s.c, (IntKind.wrap .i64 (s.st + 1)), s.du⟩))]) h (by kernel_rfl) (A.pn [2, 0, 1])⟩
  refine E.sr ?_
  refine E.op (.pointer (some ⟨g4, 0, none⟩)) ?_
  refine E.li (.int .i64 i.op) 2 rfl rfl ?_
  refine E.op (.bool (i.op == 23)) ?_
  refine E.op (.bool (i.op == 23)) ?_
  refine E.G.cut 4 [(1, .iface 82 (.pointer (some ⟨m, 0, none⟩))), (2, .pointer (some ⟨g1, 0, none⟩)), (4, .pointer (some ⟨g2, 0, none⟩)), (5, .pointer (some ⟨g3, 0, none⟩)), (6, .pointer (some ⟨g4, 0, none⟩)), (7, .pointer (some ⟨g5, 0, none⟩)), (8, .pointer (some ⟨g8, 0, none⟩)), (9, .int .u32 ((Q.up s.r 0 0) ((i.d).toNat))), (10, .int .u32 ((Q.up s.r 0 0) ((i.a).toNat))), (12, .int .u32 (IntKind.wrap .u32 (s.pc + 4))), (13, .int .u32 (IntKind.wrap .u32 (s.pc + (IntKind.wrap .u32 (4 * i.imm))))), (99, .bool ((i.op == 23) || (i.op == 24)))] (A.X w oo aa [M.It m V xs]) [(g8, (Q.S.cells s)), (g5, [.int .i64 ((Q.stop i).1), .int .u32 ((Q.stop i).2)]), (g4, [.int .i64 i.op, .int .i64 i.d, .int .i64 i.a, .int .i64 i.b, .int .u32 i.imm]), (g3, [.int .i64 0, .int .u32 0]), (g2, (Q.S.cells Q.z0)), (g1, (Q.S.cells (⟨s.pc, (Q.up s.r 0 0), s.f, s.c, s.st, s.du⟩)))] ?_ ?_
  ·
   generalize hc17 : (i.op == 23) = b18
   cases b18
   ·
    refine E.op (.pointer (some ⟨g4, 0, none⟩)) ?_
    refine E.li (.int .i64 i.op) 2 rfl rfl ?_
    refine E.op (.bool (i.op == 24)) ?_
    refine E.op (.bool (i.op == 24)) ?_
    exact E.G.end_pst ⟨by kernel_rfl, by kernel_rfl⟩ (List.Sublist.refl _) (fun _ h => h)
   refine E.sk ?_
   refine E.sk ?_
   refine E.sk ?_
   refine E.op (.bool true) ?_
   exact E.G.end_pst ⟨by kernel_rfl, by kernel_rfl⟩ (List.Sublist.refl _) (fun _ h => h)
  refine E.op (.bool ((i.op == 23) || (i.op == 24))) ?_
  refine E.To.code ?_
  refine E.cd ((i.op == 23) || (i.op == 24)) (fun hc19 => ?_) (fun hc19 => ?_)
  ·
   refine E.C.held (A.Y [A.blk g8 (Q.S.cells s), A.blk g4 ([.int .i64 i.op, .int .i64 i.d, .int .i64 i.a, .int .i64 i.b, .int .u32 i.imm]), A.blk g3 ([.int .i64 0, .int .u32 0]), A.blk g2 (Q.S.cells Q.z0)]) (by kernel_rfl) ?_
   refine E.tk 0 (.pointer (some ⟨g4, 1, none⟩)) rfl (fun w h => A.hpY (p := [A.blk g8 (Q.S.cells s), A.blk g4 ([.int .i64 i.op, .int .i64 i.d, .int .i64 i.a, .int .i64 i.b, .int .u32 i.imm]), A.blk g3 ([.int .i64 0, .int .u32 0]), A.blk g2 (Q.S.cells Q.z0)]) (r := [A.blk g5 ([.int .i64 ((Q.stop i).1), .int .u32 ((Q.stop i).2)]), A.blk g1 (Q.S.cells (⟨s.pc, (Q.up s.r 0 0), s.f, s.c, s.st, s.du⟩)), M.It m V xs]) h (by kernel_rfl) (A.pn [0, 2, 3, 4, 1, 5, 6])) ?_
   refine E.tj 1 (.int .i64 i.d) rfl (fun w h => A.hpY (p := [A.blk g8 (Q.S.cells s), A.blk g4 ([.int .i64 i.op, .int .i64 i.d, .int .i64 i.a, .int .i64 i.b, .int .u32 i.imm]), A.blk g3 ([.int .i64 0, .int .u32 0]), A.blk g2 (Q.S.cells Q.z0)]) (r := [A.blk g5 ([.int .i64 ((Q.stop i).1), .int .u32 ((Q.stop i).2)]), A.blk g1 (Q.S.cells (⟨s.pc, (Q.up s.r 0 0), s.f, s.c, s.st, s.du⟩)), M.It m V xs]) h (by kernel_rfl) (A.pn [0, 2, 3, 4, 1, 5, 6])) (fun w h => A.Y.bld h (k := 1) (j := 1) rfl (by kernel_rfl) (by kernel_rfl)) ?_
   refine E.tj 2 (.agg #[.int .i64 i.op, .int .i64 i.d, .int .i64 i.a, .int .i64 i.b, .int .u32 i.imm]) rfl (fun w h => A.hpY (p := [A.blk g8 (Q.S.cells s), A.blk g4 ([.int .i64 i.op, .int .i64 i.d, .int .i64 i.a, .int .i64 i.b, .int .u32 i.imm]), A.blk g3 ([.int .i64 0, .int .u32 0]), A.blk g2 (Q.S.cells Q.z0)]) (r := [A.blk g5 ([.int .i64 ((Q.stop i).1), .int .u32 ((Q.stop i).2)]), A.blk g1 (Q.S.cells (⟨s.pc, (Q.up s.r 0 0), s.f, s.c, s.st, s.du⟩)), M.It m V xs]) h (by kernel_rfl) (A.pn [0, 2, 3, 4, 1, 5, 6])) (fun w h => A.Y.bld h (k := 1) (j := 0) rfl (by kernel_rfl) (by kernel_rfl)) ?_
   refine E.tk 3 (.int .u32 ((Q.up s.r 0 0) ((i.a).toNat))) rfl (fun w h => A.hpY (p := [A.blk g8 (Q.S.cells s), A.blk g4 ([.int .i64 i.op, .int .i64 i.d, .int .i64 i.a, .int .i64 i.b, .int .u32 i.imm]), A.blk g3 ([.int .i64 0, .int .u32 0]), A.blk g2 (Q.S.cells Q.z0)]) (r := [A.blk g5 ([.int .i64 ((Q.stop i).1), .int .u32 ((Q.stop i).2)]), A.blk g1 (Q.S.cells (⟨s.pc, (Q.up s.r 0 0), s.f, s.c, s.st, s.du⟩)), M.It m V xs]) h (by kernel_rfl) (A.pn [0, 2, 3, 4, 1, 5, 6])) ?_
   refine E.tk 4 (.pointer (some ⟨g4, 4, none⟩)) rfl (fun w h => A.hpY (p := [A.blk g8 (Q.S.cells s), A.blk g4 ([.int .i64 i.op, .int .i64 i.d, .int .i64 i.a, .int .i64 i.b, .int .u32 i.imm]), A.blk g3 ([.int .i64 0, .int .u32 0]), A.blk g2 (Q.S.cells Q.z0)]) (r := [A.blk g5 ([.int .i64 ((Q.stop i).1), .int .u32 ((Q.stop i).2)]), A.blk g1 (Q.S.cells (⟨s.pc, (Q.up s.r 0 0), s.f, s.c, s.st, s.du⟩)), M.It m V xs]) h (by kernel_rfl) (A.pn [0, 2, 3, 4, 1, 5, 6])) ?_
   refine E.tj 5 (.int .u32 i.imm) rfl (fun w h => A.hpY (p := [A.blk g8 (Q.S.cells s), A.blk g4 ([.int .i64 i.op, .int .i64 i.d, .int .i64 i.a, .int .i64 i.b, .int .u32 i.imm]), A.blk g3 ([.int .i64 0, .int .u32 0]), A.blk g2 (Q.S.cells Q.z0)]) (r := [A.blk g5 ([.int .i64 ((Q.stop i).1), .int .u32 ((Q.stop i).2)]), A.blk g1 (Q.S.cells (⟨s.pc, (Q.up s.r 0 0), s.f, s.c, s.st, s.du⟩)), M.It m V xs]) h (by kernel_rfl) (A.pn [0, 2, 3, 4, 1, 5, 6])) (fun w h => A.Y.bld h (k := 1) (j := 4) rfl (by kernel_rfl) (by kernel_rfl)) ?_
   refine E.tk 6 (.int .u32 (IntKind.wrap .u32 (((Q.up s.r 0 0) ((i.a).toNat)) + i.imm))) rfl (fun w h => A.hpY (p := [A.blk g8 (Q.S.cells s), A.blk g4 ([.int .i64 i.op, .int .i64 i.d, .int .i64 i.a, .int .i64 i.b, .int .u32 i.imm]), A.blk g3 ([.int .i64 0, .int .u32 0]), A.blk g2 (Q.S.cells Q.z0)]) (r := [A.blk g5 ([.int .i64 ((Q.stop i).1), .int .u32 ((Q.stop i).2)]), A.blk g1 (Q.S.cells (⟨s.pc, (Q.up s.r 0 0), s.f, s.c, s.st, s.du⟩)), M.It m V xs]) h (by kernel_rfl) (A.pn [0, 2, 3, 4, 1, 5, 6])) ?_
   refine E.tk 7 (.int .u32 ((Q.up s.r 0 0) ((i.d).toNat))) rfl (fun w h => A.hpY (p := [A.blk g8 (Q.S.cells s), A.blk g4 ([.int .i64 i.op, .int .i64 i.d, .int .i64 i.a, .int .i64 i.b, .int .u32 i.imm]), A.blk g3 ([.int .i64 0, .int .u32 0]), A.blk g2 (Q.S.cells Q.z0)]) (r := [A.blk g5 ([.int .i64 ((Q.stop i).1), .int .u32 ((Q.stop i).2)]), A.blk g1 (Q.S.cells (⟨s.pc, (Q.up s.r 0 0), s.f, s.c, s.st, s.du⟩)), M.It m V xs]) h (by kernel_rfl) (A.pn [0, 2, 3, 4, 1, 5, 6])) ?_
   refine E.tk 8 (.iface 82 (.pointer (some ⟨m, 0, none⟩))) rfl (fun w h => A.hpY (p := [A.blk g8 (Q.S.cells s), A.blk g4 ([.int .i64 i.op, .int .i64 i.d, .int .i64 i.a, .int .i64 i.b, .int .u32 i.imm]), A.blk g3 ([.int .i64 0, .int .u32 0]), A.blk g2 (Q.S.cells Q.z0)]) (r := [A.blk g5 ([.int .i64 ((Q.stop i).1), .int .u32 ((Q.stop i).2)]), A.blk g1 (Q.S.cells (⟨s.pc, (Q.up s.r 0 0), s.f, s.c, s.st, s.du⟩)), M.It m V xs]) h (by kernel_rfl) (A.pn [0, 2, 3, 4, 1, 5, 6])) ?_
   refine E.tk 13 (.pointer (some ⟨g1, 1, none⟩)) rfl (fun w h => A.hpY (p := [A.blk g8 (Q.S.cells s), A.blk g4 ([.int .i64 i.op, .int .i64 i.d, .int .i64 i.a, .int .i64 i.b, .int .u32 i.imm]), A.blk g3 ([.int .i64 0, .int .u32 0]), A.blk g2 (Q.S.cells Q.z0)]) (r := [A.blk g5 ([.int .i64 ((Q.stop i).1), .int .u32 ((Q.stop i).2)]), A.blk g1 (Q.S.cells (⟨s.pc, (Q.up s.r 0 0), s.f, s.c, s.st, s.du⟩)), M.It m V xs]) h (by kernel_rfl) (A.pn [0, 2, 3, 4, 1, 5, 6])) ?_
   refine E.al 9 rfl ?_
   refine A.G.call (I := Unit) (D := fun _ => True) (V := fun _ => .tuple #[.int .u32 ((Q.acc i V (IntKind.wrap .u32 (((Q.up s.r 0 0) ((i.a).toNat)) + i.imm)) ((Q.up s.r 0 0) ((i.d).toNat))).1), .agg #[.int .i64 ((Q.acc i V (IntKind.wrap .u32 (((Q.up s.r 0 0) ((i.a).toNat)) + i.imm)) ((Q.up s.r 0 0) ((i.d).toNat))).2.1), .int .u32 ((Q.acc i V (IntKind.wrap .u32 (((Q.up s.r 0 0) ((i.a).toNat)) + i.imm)) ((Q.up s.r 0 0) ((i.d).toNat))).2.2.1)]]) (q := fun _ => [M.It m ((Q.acc i V (IntKind.wrap .u32 (((Q.up s.r 0 0) ((i.a).toNat)) + i.imm)) ((Q.up s.r 0 0) ((i.d).toNat))).2.2.2) xs]) [A.blk g8 (Q.S.cells s), A.blk g5 ([.int .i64 ((Q.stop i).1), .int .u32 ((Q.stop i).2)]), A.blk g4 ([.int .i64 i.op, .int .i64 i.d, .int .i64 i.a, .int .i64 i.b, .int .u32 i.imm]), A.blk g3 ([.int .i64 0, .int .u32 0]), A.blk g2 (Q.S.cells Q.z0), A.blk g1 (Q.S.cells (⟨s.pc, (Q.up s.r 0 0), s.f, s.c, s.st, s.du⟩))] (fun _ => [(g8, (Q.S.cells s)), (g5, [.int .i64 ((Q.stop i).1), .int .u32 ((Q.stop i).2)]), (g4, [.int .i64 i.op, .int .i64 i.d, .int .i64 i.a, .int .i64 i.b, .int .u32 i.imm]), (g3, [.int .i64 0, .int .u32 0]), (g2, (Q.S.cells Q.z0)), (g1, (Q.S.cells (⟨s.pc, (Q.up s.r 0 0), s.f, s.c, s.st, s.du⟩)))]) (fun _ => [M.It m ((Q.acc i V (IntKind.wrap .u32 (((Q.up s.r 0 0) ((i.a).toNat)) + i.imm)) ((Q.up s.r 0 0) ((i.d).toNat))).2.2.2) xs]) (Access (m := m) (xs := xs) i V (IntKind.wrap .u32 (((Q.up s.r 0 0) ((i.a).toNat)) + i.imm)) ((Q.up s.r 0 0) ((i.d).toNat)) (Q.wrap_bd _)) (by kernel_rfl) (A.pn [6, 0, 1, 2, 3, 4, 5]) (fun _ => A.pm [1, 2, 3, 4, 5, 6, 0] (by kernel_rfl) (by kernel_rfl)) (fun w _ => by kernel_rfl) (by kernel_rfl) (fun _ hd20 => ?_)
   refine E.H.back (fun w h => A.hpY (p := [A.blk g8 (Q.S.cells s), A.blk g4 ([.int .i64 i.op, .int .i64 i.d, .int .i64 i.a, .int .i64 i.b, .int .u32 i.imm]), A.blk g3 ([.int .i64 0, .int .u32 0]), A.blk g2 (Q.S.cells Q.z0)]) (r := [A.blk g5 ([.int .i64 ((Q.stop i).1), .int .u32 ((Q.stop i).2)]), A.blk g1 (Q.S.cells (⟨s.pc, (Q.up s.r 0 0), s.f, s.c, s.st, s.du⟩)), M.It m ((Q.acc i V (IntKind.wrap .u32 (((Q.up s.r 0 0) ((i.a).toNat)) + i.imm)) ((Q.up s.r 0 0) ((i.d).toNat))).2.2.2) xs]) h (by kernel_rfl) (A.pn [0, 2, 3, 4, 1, 5, 6])) ?_
   refine E.tk 10 (.tuple #[.int .u32 ((Q.acc i V (IntKind.wrap .u32 (((Q.up s.r 0 0) ((i.a).toNat)) + i.imm)) ((Q.up s.r 0 0) ((i.d).toNat))).1), .agg #[.int .i64 ((Q.acc i V (IntKind.wrap .u32 (((Q.up s.r 0 0) ((i.a).toNat)) + i.imm)) ((Q.up s.r 0 0) ((i.d).toNat))).2.1), .int .u32 ((Q.acc i V (IntKind.wrap .u32 (((Q.up s.r 0 0) ((i.a).toNat)) + i.imm)) ((Q.up s.r 0 0) ((i.d).toNat))).2.2.1)]]) rfl (fun w h => A.hpY (p := [A.blk g8 (Q.S.cells s), A.blk g4 ([.int .i64 i.op, .int .i64 i.d, .int .i64 i.a, .int .i64 i.b, .int .u32 i.imm]), A.blk g3 ([.int .i64 0, .int .u32 0]), A.blk g2 (Q.S.cells Q.z0)]) (r := [A.blk g5 ([.int .i64 ((Q.stop i).1), .int .u32 ((Q.stop i).2)]), A.blk g1 (Q.S.cells (⟨s.pc, (Q.up s.r 0 0), s.f, s.c, s.st, s.du⟩)), M.It m ((Q.acc i V (IntKind.wrap .u32 (((Q.up s.r 0 0) ((i.a).toNat)) + i.imm)) ((Q.up s.r 0 0) ((i.d).toNat))).2.2.2) xs]) h (by kernel_rfl) (A.pn [0, 2, 3, 4, 1, 5, 6])) ?_
   refine E.tk 11 (.int .u32 ((Q.acc i V (IntKind.wrap .u32 (((Q.up s.r 0 0) ((i.a).toNat)) + i.imm)) ((Q.up s.r 0 0) ((i.d).toNat))).1)) rfl (fun w h => A.hpY (p := [A.blk g8 (Q.S.cells s), A.blk g4 ([.int .i64 i.op, .int .i64 i.d, .int .i64 i.a, .int .i64 i.b, .int .u32 i.imm]), A.blk g3 ([.int .i64 0, .int .u32 0]), A.blk g2 (Q.S.cells Q.z0)]) (r := [A.blk g5 ([.int .i64 ((Q.stop i).1), .int .u32 ((Q.stop i).2)]), A.blk g1 (Q.S.cells (⟨s.pc, (Q.up s.r 0 0), s.f, s.c, s.st, s.du⟩)), M.It m ((Q.acc i V (IntKind.wrap .u32 (((Q.up s.r 0 0) ((i.a).toNat)) + i.imm)) ((Q.up s.r 0 0) ((i.d).toNat))).2.2.2) xs]) h (by kernel_rfl) (A.pn [0, 2, 3, 4, 1, 5, 6])) ?_
   refine E.tk 12 (.agg #[.int .i64 ((Q.acc i V (IntKind.wrap .u32 (((Q.up s.r 0 0) ((i.a).toNat)) + i.imm)) ((Q.up s.r 0 0) ((i.d).toNat))).2.1), .int .u32 ((Q.acc i V (IntKind.wrap .u32 (((Q.up s.r 0 0) ((i.a).toNat)) + i.imm)) ((Q.up s.r 0 0) ((i.d).toNat))).2.2.1)]) rfl (fun w h => A.hpY (p := [A.blk g8 (Q.S.cells s), A.blk g4 ([.int .i64 i.op, .int .i64 i.d, .int .i64 i.a, .int .i64 i.b, .int .u32 i.imm]), A.blk g3 ([.int .i64 0, .int .u32 0]), A.blk g2 (Q.S.cells Q.z0)]) (r := [A.blk g5 ([.int .i64 ((Q.stop i).1), .int .u32 ((Q.stop i).2)]), A.blk g1 (Q.S.cells (⟨s.pc, (Q.up s.r 0 0), s.f, s.c, s.st, s.du⟩)), M.It m ((Q.acc i V (IntKind.wrap .u32 (((Q.up s.r 0 0) ((i.a).toNat)) + i.imm)) ((Q.up s.r 0 0) ((i.d).toNat))).2.2.2) xs]) h (by kernel_rfl) (A.pn [0, 2, 3, 4, 1, 5, 6])) ?_
   refine E.tj 14 (.pointer (some ⟨g1, 1 + (i.d).toNat, none⟩)) rfl (fun w h => A.hpY (p := [A.blk g8 (Q.S.cells s), A.blk g4 ([.int .i64 i.op, .int .i64 i.d, .int .i64 i.a, .int .i64 i.b, .int .u32 i.imm]), A.blk g3 ([.int .i64 0, .int .u32 0]), A.blk g2 (Q.S.cells Q.z0)]) (r := [A.blk g5 ([.int .i64 ((Q.stop i).1), .int .u32 ((Q.stop i).2)]), A.blk g1 (Q.S.cells (⟨s.pc, (Q.up s.r 0 0), s.f, s.c, s.st, s.du⟩)), M.It m ((Q.acc i V (IntKind.wrap .u32 (((Q.up s.r 0 0) ((i.a).toNat)) + i.imm)) ((Q.up s.r 0 0) ((i.d).toNat))).2.2.2) xs]) h (by kernel_rfl) (A.pn [0, 2, 3, 4, 1, 5, 6])) (fun w h => E.idxI (e := 22) g1 1 16 .i64 i.d (by kernel_rfl) (by kernel_rfl) (by kernel_rfl) (by kernel_rfl) (by have := (hi hc6).d; omega) w) ?_
   refine E.al 15 rfl ?_
   refine E.G.store 5 (Q.S.cells (⟨s.pc, (Q.up (Q.up s.r 0 0) (i.d).toNat ((Q.acc i V (IntKind.wrap .u32 (((Q.up s.r 0 0) ((i.a).toNat)) + i.imm)) ((Q.up s.r 0 0) ((i.d).toNat))).1)), s.f, s.c, s.st, s.du⟩)) rfl rfl (Q.sto_r (s := ⟨s.pc, (Q.up s.r 0 0), s.f, s.c, s.st, s.du⟩) (by kernel_rfl) (by have := (by have := (hi hc6).d; omega); omega)) (by kernel_rfl) ?_
   refine E.H.back (fun w h => A.hpY (p := [A.blk g8 (Q.S.cells s), A.blk g4 ([.int .i64 i.op, .int .i64 i.d, .int .i64 i.a, .int .i64 i.b, .int .u32 i.imm]), A.blk g3 ([.int .i64 0, .int .u32 0]), A.blk g2 (Q.S.cells Q.z0)]) (r := [A.blk g5 ([.int .i64 ((Q.stop i).1), .int .u32 ((Q.stop i).2)]), A.blk g1 (Q.S.cells (⟨s.pc, (Q.up (Q.up s.r 0 0) (i.d).toNat ((Q.acc i V (IntKind.wrap .u32 (((Q.up s.r 0 0) ((i.a).toNat)) + i.imm)) ((Q.up s.r 0 0) ((i.d).toNat))).1)), s.f, s.c, s.st, s.du⟩)), M.It m ((Q.acc i V (IntKind.wrap .u32 (((Q.up s.r 0 0) ((i.a).toNat)) + i.imm)) ((Q.up s.r 0 0) ((i.d).toNat))).2.2.2) xs]) h (by kernel_rfl) (A.pn [0, 2, 3, 4, 1, 5, 6])) ?_
   refine E.al 16 rfl ?_
   refine E.st 1 [.int .i64 ((Q.acc i V (IntKind.wrap .u32 (((Q.up s.r 0 0) ((i.a).toNat)) + i.imm)) ((Q.up s.r 0 0) ((i.d).toNat))).2.1), .int .u32 ((Q.acc i V (IntKind.wrap .u32 (((Q.up s.r 0 0) ((i.a).toNat)) + i.imm)) ((Q.up s.r 0 0) ((i.d).toNat))).2.2.1)] rfl rfl ?_
   refine E.H.back (fun w h => A.hpY (p := [A.blk g8 (Q.S.cells s), A.blk g4 ([.int .i64 i.op, .int .i64 i.d, .int .i64 i.a, .int .i64 i.b, .int .u32 i.imm]), A.blk g3 ([.int .i64 0, .int .u32 0]), A.blk g2 (Q.S.cells Q.z0)]) (r := [A.blk g5 ([.int .i64 ((Q.acc i V (IntKind.wrap .u32 (((Q.up s.r 0 0) ((i.a).toNat)) + i.imm)) ((Q.up s.r 0 0) ((i.d).toNat))).2.1), .int .u32 ((Q.acc i V (IntKind.wrap .u32 (((Q.up s.r 0 0) ((i.a).toNat)) + i.imm)) ((Q.up s.r 0 0) ((i.d).toNat))).2.2.1)]), A.blk g1 (Q.S.cells (⟨s.pc, (Q.up (Q.up s.r 0 0) (i.d).toNat ((Q.acc i V (IntKind.wrap .u32 (((Q.up s.r 0 0) ((i.a).toNat)) + i.imm)) ((Q.up s.r 0 0) ((i.d).toNat))).1)), s.f, s.c, s.st, s.du⟩)), M.It m ((Q.acc i V (IntKind.wrap .u32 (((Q.up s.r 0 0) ((i.a).toNat)) + i.imm)) ((Q.up s.r 0 0) ((i.d).toNat))).2.2.2) xs]) h (by kernel_rfl) (A.pn [0, 2, 3, 4, 1, 5, 6])) ?_
   refine E.H.done (by kernel_rfl) ?_
   refine E.P.nb (E.To.code ?_)
   refine E.wk [(2, .pointer (some ⟨g1, 0, none⟩)), (4, .pointer (some ⟨g2, 0, none⟩)), (5, .pointer (some ⟨g3, 0, none⟩)), (7, .pointer (some ⟨g5, 0, none⟩)), (8, .pointer (some ⟨g8, 0, none⟩)), (12, .int .u32 (IntKind.wrap .u32 (s.pc + 4)))] [(g8, (Q.S.cells s)), (g5, [.int .i64 ((Q.acc i V (IntKind.wrap .u32 (((Q.up s.r 0 0) ((i.a).toNat)) + i.imm)) ((Q.up s.r 0 0) ((i.d).toNat))).2.1), .int .u32 ((Q.acc i V (IntKind.wrap .u32 (((Q.up s.r 0 0) ((i.a).toNat)) + i.imm)) ((Q.up s.r 0 0) ((i.d).toNat))).2.2.1)]), (g3, [.int .i64 0, .int .u32 0]), (g2, (Q.S.cells Q.z0)), (g1, (Q.S.cells (⟨s.pc, (Q.up (Q.up s.r 0 0) (i.d).toNat ((Q.acc i V (IntKind.wrap .u32 (((Q.up s.r 0 0) ((i.a).toNat)) + i.imm)) ((Q.up s.r 0 0) ((i.d).toNat))).1)), s.f, s.c, s.st, s.du⟩)))] (List.Sublist.cons_cons _ (List.Sublist.cons_cons _ (List.Sublist.cons _ (List.Sublist.refl _)))) ?_
   refine E.C.seq ?_
   refine E.sr ?_
   refine E.op (.pointer (some ⟨g5, 0, none⟩)) ?_
   refine E.li (.int .i64 ((Q.acc i V (IntKind.wrap .u32 (((Q.up s.r 0 0) ((i.a).toNat)) + i.imm)) ((Q.up s.r 0 0) ((i.d).toNat))).2.1)) 1 rfl rfl ?_
   refine E.op (.bool (((Q.acc i V (IntKind.wrap .u32 (((Q.up s.r 0 0) ((i.a).toNat)) + i.imm)) ((Q.up s.r 0 0) ((i.d).toNat))).2.1) != 0)) ?_
   refine E.To.code ?_
   refine E.cd (((Q.acc i V (IntKind.wrap .u32 (((Q.up s.r 0 0) ((i.a).toNat)) + i.imm)) ((Q.up s.r 0 0) ((i.d).toNat))).2.1) != 0) (fun hc21 => ?_) (fun hc21 => ?_)
   ·
    refine E.C.seq ?_
    refine E.C.held (E.Hp (oo) w (A.X w oo aa [M.It m ((Q.acc i V (IntKind.wrap .u32 (((Q.up s.r 0 0) ((i.a).toNat)) + i.imm)) ((Q.up s.r 0 0) ((i.d).toNat))).2.2.2) xs]) [(g8, (Q.S.cells s)), (g5, [.int .i64 ((Q.acc i V (IntKind.wrap .u32 (((Q.up s.r 0 0) ((i.a).toNat)) + i.imm)) ((Q.up s.r 0 0) ((i.d).toNat))).2.1), .int .u32 ((Q.acc i V (IntKind.wrap .u32 (((Q.up s.r 0 0) ((i.a).toNat)) + i.imm)) ((Q.up s.r 0 0) ((i.d).toNat))).2.2.1)]), (g1, (Q.S.cells (⟨s.pc, (Q.up (Q.up s.r 0 0) (i.d).toNat ((Q.acc i V (IntKind.wrap .u32 (((Q.up s.r 0 0) ((i.a).toNat)) + i.imm)) ((Q.up s.r 0 0) ((i.d).toNat))).1)), s.f, s.c, s.st, s.du⟩)))]) (by kernel_rfl) ?_
    refine E.tj 0 (Q.S.val s) rfl (fun w h => h.less (List.Sublist.cons_cons _ (List.Sublist.cons_cons _ (List.Sublist.cons _ (List.Sublist.cons _ (List.Sublist.refl _)))))) (fun w h => E.run_load h 0 rfl rfl (by kernel_rfl)) ?_
    refine E.tj 1 (.agg #[.int .i64 ((Q.acc i V (IntKind.wrap .u32 (((Q.up s.r 0 0) ((i.a).toNat)) + i.imm)) ((Q.up s.r 0 0) ((i.d).toNat))).2.1), .int .u32 ((Q.acc i V (IntKind.wrap .u32 (((Q.up s.r 0 0) ((i.a).toNat)) + i.imm)) ((Q.up s.r 0 0) ((i.d).toNat))).2.2.1)]) rfl (fun w h => h.less (List.Sublist.cons_cons _ (List.Sublist.cons_cons _ (List.Sublist.cons _ (List.Sublist.cons _ (List.Sublist.refl _)))))) (fun w h => E.run_load h 1 rfl rfl (by kernel_rfl)) ?_
    refine E.al 2 rfl ?_
    refine E.st 3 (Q.S.cells s) rfl rfl ?_
    refine E.H.back (fun w h => h.less (List.Sublist.cons_cons _ (List.Sublist.cons_cons _ (List.Sublist.cons _ (List.Sublist.cons _ (List.Sublist.refl _)))))) ?_
    refine E.al 3 rfl ?_
    refine E.st 2 [.int .i64 ((Q.acc i V (IntKind.wrap .u32 (((Q.up s.r 0 0) ((i.a).toNat)) + i.imm)) ((Q.up s.r 0 0) ((i.d).toNat))).2.1), .int .u32 ((Q.acc i V (IntKind.wrap .u32 (((Q.up s.r 0 0) ((i.a).toNat)) + i.imm)) ((Q.up s.r 0 0) ((i.d).toNat))).2.2.1)] rfl rfl ?_
    refine E.H.back (fun w h => h.less (List.Sublist.cons_cons _ (List.Sublist.cons_cons _ (List.Sublist.cons _ (List.Sublist.cons _ (List.Sublist.refl _)))))) ?_
    refine E.H.done (by kernel_rfl) ?_
    refine E.To.code ?_
    refine E.C.ret (E.P.rt (E.To.body (fn := Try.f48) [Q.S.val s, .agg #[.int .i64 ((Q.acc i V (IntKind.wrap .u32 (((Q.up s.r 0 0) ((i.a).toNat)) + i.imm)) ((Q.up s.r 0 0) ((i.d).toNat))).2.1), .int .u32 ((Q.acc i V (IntKind.wrap .u32 (((Q.up s.r 0 0) ((i.a).toNat)) + i.imm)) ((Q.up s.r 0 0) ((i.d).toNat))).2.2.1)]] ?_ ?_))
    · exact ⟨⟨by kernel_rfl, _, _, 3, _, rfl, rfl, by kernel_rfl⟩, ⟨by kernel_rfl, _, _, 2, _, rfl, rfl, by kernel_rfl⟩, trivial⟩
    intro w h
    have e : (Q.stepI i k t s V) = (s, (Q.acc i V (IntKind.wrap .u32 (((Q.up s.r 0 0) ((i.a).toNat)) + i.imm)) ((Q.up s.r 0 0) ((i.d).toNat))).2.1, (Q.acc i V (IntKind.wrap .u32 (((Q.up s.r 0 0) ((i.a).toNat)) + i.imm)) ((Q.up s.r 0 0) ((i.d).toNat))).2.2.1, (Q.acc i V (IntKind.wrap .u32 (((Q.up s.r 0 0) ((i.a).toNat)) + i.imm)) ((Q.up s.r 0 0) ((i.d).toNat))).2.2.2) := by unfold Q.stepI; rw [hc6, cond_true, hc7, cond_false, hc14, cond_false, hc15, cond_false, hc19, cond_true, hc21, cond_true] <;> rfl
    rw [e]
    exact ⟨(), trivial, rfl, A.done (q := [M.It m ((Q.acc i V (IntKind.wrap .u32 (((Q.up s.r 0 0) ((i.a).toNat)) + i.imm)) ((Q.up s.r 0 0) ((i.d).toNat))).2.2.2) xs]) (r := [A.blk g8 (Q.S.cells s), A.blk g5 ([.int .i64 ((Q.acc i V (IntKind.wrap .u32 (((Q.up s.r 0 0) ((i.a).toNat)) + i.imm)) ((Q.up s.r 0 0) ((i.d).toNat))).2.1), .int .u32 ((Q.acc i V (IntKind.wrap .u32 (((Q.up s.r 0 0) ((i.a).toNat)) + i.imm)) ((Q.up s.r 0 0) ((i.d).toNat))).2.2.1)]), A.blk g3 ([.int .i64 ((Q.acc i V (IntKind.wrap .u32 (((Q.up s.r 0 0) ((i.a).toNat)) + i.imm)) ((Q.up s.r 0 0) ((i.d).toNat))).2.1), .int .u32 ((Q.acc i V (IntKind.wrap .u32 (((Q.up s.r 0 0) ((i.a).toNat)) + i.imm)) ((Q.up s.r 0 0) ((i.d).toNat))).2.2.1)]), A.blk g2 (Q.S.cells s), A.blk g1 (Q.S.cells (⟨s.pc, (Q.up (Q.up s.r 0 0) (i.d).toNat ((Q.acc i V (IntKind.wrap .u32 (((Q.up s.r 0 0) ((i.a).toNat)) + i.imm)) ((Q.up s.r 0 0) ((i.d).toNat))).1)), s.f, s.c, s.st, s.du⟩))]) h (by kernel_rfl) (A.pn [5, 0, 1, 2, 3, 4])⟩
   refine E.C.skip (E.To.code ?_)
   refine E.sr ?_
   refine E.op (.pointer (some ⟨g1, 1, none⟩)) ?_
   refine E.op (.pointer (some ⟨g1, 1, none⟩)) ?_
   refine E.st 4 (Q.S.cells (⟨s.pc, (Q.up (Q.up (Q.up s.r 0 0) (i.d).toNat ((Q.acc i V (IntKind.wrap .u32 (((Q.up s.r 0 0) ((i.a).toNat)) + i.imm)) ((Q.up s.r 0 0) ((i.d).toNat))).1)) 0 0), s.f, s.c, s.st, s.du⟩)) rfl rfl ?_
   refine E.tr ?_
   refine E.op (.int .u32 (IntKind.wrap .u32 (s.pc + 4))) ?_
   refine E.op (.pointer (some ⟨g1, 0, none⟩)) ?_
   refine E.st 4 (Q.S.cells (⟨(IntKind.wrap .u32 (s.pc + 4)), (Q.up (Q.up (Q.up s.r 0 0) (i.d).toNat ((Q.acc i V (IntKind.wrap .u32 (((Q.up s.r 0 0) ((i.a).toNat)) + i.imm)) ((Q.up s.r 0 0) ((i.d).toNat))).1)) 0 0), s.f, s.c, s.st, s.du⟩)) rfl rfl ?_
   refine E.To.code ?_
   refine E.wk [(2, .pointer (some ⟨g1, 0, none⟩)), (4, .pointer (some ⟨g2, 0, none⟩)), (5, .pointer (some ⟨g3, 0, none⟩)), (7, .pointer (some ⟨g5, 0, none⟩))] [(g5, [.int .i64 ((Q.acc i V (IntKind.wrap .u32 (((Q.up s.r 0 0) ((i.a).toNat)) + i.imm)) ((Q.up s.r 0 0) ((i.d).toNat))).2.1), .int .u32 ((Q.acc i V (IntKind.wrap .u32 (((Q.up s.r 0 0) ((i.a).toNat)) + i.imm)) ((Q.up s.r 0 0) ((i.d).toNat))).2.2.1)]), (g3, [.int .i64 0, .int .u32 0]), (g2, (Q.S.cells Q.z0)), (g1, (Q.S.cells (⟨(IntKind.wrap .u32 (s.pc + 4)), (Q.up (Q.up (Q.up s.r 0 0) (i.d).toNat ((Q.acc i V (IntKind.wrap .u32 (((Q.up s.r 0 0) ((i.a).toNat)) + i.imm)) ((Q.up s.r 0 0) ((i.d).toNat))).1)) 0 0), s.f, s.c, s.st, s.du⟩)))] (List.Sublist.cons _ (List.Sublist.refl _)) ?_
   refine E.sr ?_
   refine E.op (.pointer (some ⟨g1, 22, none⟩)) ?_
   refine E.li (.int .i64 s.st) 3 rfl rfl ?_
   refine E.op (.int .i64 (IntKind.wrap .i64 (s.st + 1))) ?_
   refine E.op (.pointer (some ⟨g1, 22, none⟩)) ?_
   refine E.st 3 (Q.S.cells (⟨(IntKind.wrap .u32 (s.pc + 4)), (Q.up (Q.up (Q.up s.r 0 0) (i.d).toNat ((Q.acc i V (IntKind.wrap .u32 (((Q.up s.r 0 0) ((i.a).toNat)) + i.imm)) ((Q.up s.r 0 0) ((i.d).toNat))).1)) 0 0), s.f, s.c, (IntKind.wrap .i64 (s.st + 1)), s.du⟩)) rfl rfl ?_
   refine E.To.code ?_
   refine E.C.seq ?_
   refine E.C.held (E.Hp (oo) w (A.X w oo aa [M.It m ((Q.acc i V (IntKind.wrap .u32 (((Q.up s.r 0 0) ((i.a).toNat)) + i.imm)) ((Q.up s.r 0 0) ((i.d).toNat))).2.2.2) xs]) [(g5, [.int .i64 ((Q.acc i V (IntKind.wrap .u32 (((Q.up s.r 0 0) ((i.a).toNat)) + i.imm)) ((Q.up s.r 0 0) ((i.d).toNat))).2.1), .int .u32 ((Q.acc i V (IntKind.wrap .u32 (((Q.up s.r 0 0) ((i.a).toNat)) + i.imm)) ((Q.up s.r 0 0) ((i.d).toNat))).2.2.1)]), (g1, (Q.S.cells (⟨(IntKind.wrap .u32 (s.pc + 4)), (Q.up (Q.up (Q.up s.r 0 0) (i.d).toNat ((Q.acc i V (IntKind.wrap .u32 (((Q.up s.r 0 0) ((i.a).toNat)) + i.imm)) ((Q.up s.r 0 0) ((i.d).toNat))).1)) 0 0), s.f, s.c, (IntKind.wrap .i64 (s.st + 1)), s.du⟩)))]) (by kernel_rfl) ?_
   refine E.tj 0 (Q.S.val (⟨(IntKind.wrap .u32 (s.pc + 4)), (Q.up (Q.up (Q.up s.r 0 0) (i.d).toNat ((Q.acc i V (IntKind.wrap .u32 (((Q.up s.r 0 0) ((i.a).toNat)) + i.imm)) ((Q.up s.r 0 0) ((i.d).toNat))).1)) 0 0), s.f, s.c, (IntKind.wrap .i64 (s.st + 1)), s.du⟩)) rfl (fun w h => h.less (List.Sublist.cons_cons _ (List.Sublist.cons _ (List.Sublist.cons _ (List.Sublist.refl _))))) (fun w h => E.run_load h 1 rfl rfl (by kernel_rfl)) ?_
   refine E.tj 1 (.agg #[.int .i64 ((Q.acc i V (IntKind.wrap .u32 (((Q.up s.r 0 0) ((i.a).toNat)) + i.imm)) ((Q.up s.r 0 0) ((i.d).toNat))).2.1), .int .u32 ((Q.acc i V (IntKind.wrap .u32 (((Q.up s.r 0 0) ((i.a).toNat)) + i.imm)) ((Q.up s.r 0 0) ((i.d).toNat))).2.2.1)]) rfl (fun w h => h.less (List.Sublist.cons_cons _ (List.Sublist.cons _ (List.Sublist.cons _ (List.Sublist.refl _))))) (fun w h => E.run_load h 0 rfl rfl (by kernel_rfl)) ?_
   refine E.al 2 rfl ?_
   refine E.st 2 (Q.S.cells (⟨(IntKind.wrap .u32 (s.pc + 4)), (Q.up (Q.up (Q.up s.r 0 0) (i.d).toNat ((Q.acc i V (IntKind.wrap .u32 (((Q.up s.r 0 0) ((i.a).toNat)) + i.imm)) ((Q.up s.r 0 0) ((i.d).toNat))).1)) 0 0), s.f, s.c, (IntKind.wrap .i64 (s.st + 1)), s.du⟩)) rfl rfl ?_
   refine E.H.back (fun w h => h.less (List.Sublist.cons_cons _ (List.Sublist.cons _ (List.Sublist.cons _ (List.Sublist.refl _))))) ?_
   refine E.al 3 rfl ?_
   refine E.st 1 [.int .i64 ((Q.acc i V (IntKind.wrap .u32 (((Q.up s.r 0 0) ((i.a).toNat)) + i.imm)) ((Q.up s.r 0 0) ((i.d).toNat))).2.1), .int .u32 ((Q.acc i V (IntKind.wrap .u32 (((Q.up s.r 0 0) ((i.a).toNat)) + i.imm)) ((Q.up s.r 0 0) ((i.d).toNat))).2.2.1)] rfl rfl ?_
   refine E.H.back (fun w h => h.less (List.Sublist.cons_cons _ (List.Sublist.cons _ (List.Sublist.cons _ (List.Sublist.refl _))))) ?_
   refine E.H.done (by kernel_rfl) ?_
   refine E.To.code ?_
   refine E.wk [(4, .pointer (some ⟨g2, 0, none⟩)), (5, .pointer (some ⟨g3, 0, none⟩))] [(g3, [.int .i64 ((Q.acc i V (IntKind.wrap .u32 (((Q.up s.r 0 0) ((i.a).toNat)) + i.imm)) ((Q.up s.r 0 0) ((i.d).toNat))).2.1), .int .u32 ((Q.acc i V (IntKind.wrap .u32 (((Q.up s.r 0 0) ((i.a).toNat)) + i.imm)) ((Q.up s.r 0 0) ((i.d).toNat))).2.2.1)]), (g2, (Q.S.cells (⟨(IntKind.wrap .u32 (s.pc + 4)), (Q.up (Q.up (Q.up s.r 0 0) (i.d).toNat ((Q.acc i V (IntKind.wrap .u32 (((Q.up s.r 0 0) ((i.a).toNat)) + i.imm)) ((Q.up s.r 0 0) ((i.d).toNat))).1)) 0 0), s.f, s.c, (IntKind.wrap .i64 (s.st + 1)), s.du⟩)))] (List.Sublist.cons _ (List.Sublist.cons_cons _ (List.Sublist.cons_cons _ (List.nil_sublist _)))) ?_
   refine E.C.ret (E.To.body (fn := Try.f48) [Q.S.val (⟨(IntKind.wrap .u32 (s.pc + 4)), (Q.up (Q.up (Q.up s.r 0 0) (i.d).toNat ((Q.acc i V (IntKind.wrap .u32 (((Q.up s.r 0 0) ((i.a).toNat)) + i.imm)) ((Q.up s.r 0 0) ((i.d).toNat))).1)) 0 0), s.f, s.c, (IntKind.wrap .i64 (s.st + 1)), s.du⟩), .agg #[.int .i64 ((Q.acc i V (IntKind.wrap .u32 (((Q.up s.r 0 0) ((i.a).toNat)) + i.imm)) ((Q.up s.r 0 0) ((i.d).toNat))).2.1), .int .u32 ((Q.acc i V (IntKind.wrap .u32 (((Q.up s.r 0 0) ((i.a).toNat)) + i.imm)) ((Q.up s.r 0 0) ((i.d).toNat))).2.2.1)]] ?_ ?_)
   · exact ⟨⟨by kernel_rfl, _, _, 1, _, rfl, rfl, by kernel_rfl⟩, ⟨by kernel_rfl, _, _, 0, _, rfl, rfl, by kernel_rfl⟩, trivial⟩
   intro w h
   have e : (Q.stepI i k t s V) = (⟨(IntKind.wrap .u32 (s.pc + 4)), (Q.up (Q.up (Q.up s.r 0 0) (i.d).toNat ((Q.acc i V (IntKind.wrap .u32 (((Q.up s.r 0 0) ((i.a).toNat)) + i.imm)) ((Q.up s.r 0 0) ((i.d).toNat))).1)) 0 0), s.f, s.c, (IntKind.wrap .i64 (s.st + 1)), s.du⟩, (Q.acc i V (IntKind.wrap .u32 (((Q.up s.r 0 0) ((i.a).toNat)) + i.imm)) ((Q.up s.r 0 0) ((i.d).toNat))).2.1, (Q.acc i V (IntKind.wrap .u32 (((Q.up s.r 0 0) ((i.a).toNat)) + i.imm)) ((Q.up s.r 0 0) ((i.d).toNat))).2.2.1, (Q.acc i V (IntKind.wrap .u32 (((Q.up s.r 0 0) ((i.a).toNat)) + i.imm)) ((Q.up s.r 0 0) ((i.d).toNat))).2.2.2) := by unfold Q.stepI; rw [hc6, cond_true, hc7, cond_false, hc14, cond_false, hc15, cond_false, hc19, cond_true, hc21, cond_false] <;> rfl
   rw [e]
   exact ⟨(), trivial, rfl, A.done (q := [M.It m ((Q.acc i V (IntKind.wrap .u32 (((Q.up s.r 0 0) ((i.a).toNat)) + i.imm)) ((Q.up s.r 0 0) ((i.d).toNat))).2.2.2) xs]) (r := [A.blk g3 ([.int .i64 ((Q.acc i V (IntKind.wrap .u32 (((Q.up s.r 0 0) ((i.a).toNat)) + i.imm)) ((Q.up s.r 0 0) ((i.d).toNat))).2.1), .int .u32 ((Q.acc i V (IntKind.wrap .u32 (((Q.up s.r 0 0) ((i.a).toNat)) + i.imm)) ((Q.up s.r 0 0) ((i.d).toNat))).2.2.1)]), A.blk g2 (Q.S.cells (⟨(IntKind.wrap .u32 (s.pc + 4)), (Q.up (Q.up (Q.up s.r 0 0) (i.d).toNat ((Q.acc i V (IntKind.wrap .u32 (((Q.up s.r 0 0) ((i.a).toNat)) + i.imm)) ((Q.up s.r 0 0) ((i.d).toNat))).1)) 0 0), s.f, s.c, (IntKind.wrap .i64 (s.st + 1)), s.du⟩))]) h (by kernel_rfl) (A.pn [2, 0, 1])⟩
  refine E.sr ?_
  refine E.op (.pointer (some ⟨g4, 0, none⟩)) ?_
  refine E.li (.int .i64 i.op) 2 rfl rfl ?_
  refine E.op (.bool (i.op == 25)) ?_
  refine E.op (.bool (i.op == 25)) ?_
  refine E.G.cut 4 [(1, .iface 82 (.pointer (some ⟨m, 0, none⟩))), (2, .pointer (some ⟨g1, 0, none⟩)), (4, .pointer (some ⟨g2, 0, none⟩)), (5, .pointer (some ⟨g3, 0, none⟩)), (6, .pointer (some ⟨g4, 0, none⟩)), (7, .pointer (some ⟨g5, 0, none⟩)), (8, .pointer (some ⟨g8, 0, none⟩)), (9, .int .u32 ((Q.up s.r 0 0) ((i.d).toNat))), (10, .int .u32 ((Q.up s.r 0 0) ((i.a).toNat))), (12, .int .u32 (IntKind.wrap .u32 (s.pc + 4))), (13, .int .u32 (IntKind.wrap .u32 (s.pc + (IntKind.wrap .u32 (4 * i.imm))))), (123, .bool ((i.op == 25) || (i.op == 26)))] (A.X w oo aa [M.It m V xs]) [(g8, (Q.S.cells s)), (g5, [.int .i64 ((Q.stop i).1), .int .u32 ((Q.stop i).2)]), (g4, [.int .i64 i.op, .int .i64 i.d, .int .i64 i.a, .int .i64 i.b, .int .u32 i.imm]), (g3, [.int .i64 0, .int .u32 0]), (g2, (Q.S.cells Q.z0)), (g1, (Q.S.cells (⟨s.pc, (Q.up s.r 0 0), s.f, s.c, s.st, s.du⟩)))] ?_ ?_
  ·
   generalize hc22 : (i.op == 25) = b23
   cases b23
   ·
    refine E.op (.pointer (some ⟨g4, 0, none⟩)) ?_
    refine E.li (.int .i64 i.op) 2 rfl rfl ?_
    refine E.op (.bool (i.op == 26)) ?_
    refine E.op (.bool (i.op == 26)) ?_
    exact E.G.end_pst ⟨by kernel_rfl, by kernel_rfl⟩ (List.Sublist.refl _) (fun _ h => h)
   refine E.sk ?_
   refine E.sk ?_
   refine E.sk ?_
   refine E.op (.bool true) ?_
   exact E.G.end_pst ⟨by kernel_rfl, by kernel_rfl⟩ (List.Sublist.refl _) (fun _ h => h)
  refine E.op (.bool ((i.op == 25) || (i.op == 26))) ?_
  refine E.To.code ?_
  refine E.cd ((i.op == 25) || (i.op == 26)) (fun hc24 => ?_) (fun hc24 => ?_)
  ·
   refine E.C.region ?_
   refine E.li (.agg #[.int .i64 i.op, .int .i64 i.d, .int .i64 i.a, .int .i64 i.b, .int .u32 i.imm]) 2 rfl rfl ?_
   refine E.op (.int .u32 ((Q.up s.r 0 0) ((i.a).toNat))) ?_
   refine E.op (.pointer (some ⟨g4, 4, none⟩)) ?_
   refine E.li (.int .u32 i.imm) 2 rfl rfl ?_
   refine E.op (.int .u32 (IntKind.wrap .u32 (((Q.up s.r 0 0) ((i.a).toNat)) + i.imm))) ?_
   refine E.op (.int .u32 ((Q.up s.r 0 0) ((i.d).toNat))) ?_
   refine E.op (.iface 82 (.pointer (some ⟨m, 0, none⟩))) ?_
   refine A.G.call (I := Unit) (D := fun _ => True) (V := fun _ => .tuple #[.int .u32 ((Q.acc i V (IntKind.wrap .u32 (((Q.up s.r 0 0) ((i.a).toNat)) + i.imm)) ((Q.up s.r 0 0) ((i.d).toNat))).1), .agg #[.int .i64 ((Q.acc i V (IntKind.wrap .u32 (((Q.up s.r 0 0) ((i.a).toNat)) + i.imm)) ((Q.up s.r 0 0) ((i.d).toNat))).2.1), .int .u32 ((Q.acc i V (IntKind.wrap .u32 (((Q.up s.r 0 0) ((i.a).toNat)) + i.imm)) ((Q.up s.r 0 0) ((i.d).toNat))).2.2.1)]]) (q := fun _ => [M.It m ((Q.acc i V (IntKind.wrap .u32 (((Q.up s.r 0 0) ((i.a).toNat)) + i.imm)) ((Q.up s.r 0 0) ((i.d).toNat))).2.2.2) xs]) [A.blk g8 (Q.S.cells s), A.blk g5 ([.int .i64 ((Q.stop i).1), .int .u32 ((Q.stop i).2)]), A.blk g4 ([.int .i64 i.op, .int .i64 i.d, .int .i64 i.a, .int .i64 i.b, .int .u32 i.imm]), A.blk g3 ([.int .i64 0, .int .u32 0]), A.blk g2 (Q.S.cells Q.z0), A.blk g1 (Q.S.cells (⟨s.pc, (Q.up s.r 0 0), s.f, s.c, s.st, s.du⟩))] (fun _ => [(g8, (Q.S.cells s)), (g5, [.int .i64 ((Q.stop i).1), .int .u32 ((Q.stop i).2)]), (g4, [.int .i64 i.op, .int .i64 i.d, .int .i64 i.a, .int .i64 i.b, .int .u32 i.imm]), (g3, [.int .i64 0, .int .u32 0]), (g2, (Q.S.cells Q.z0)), (g1, (Q.S.cells (⟨s.pc, (Q.up s.r 0 0), s.f, s.c, s.st, s.du⟩)))]) (fun _ => [M.It m ((Q.acc i V (IntKind.wrap .u32 (((Q.up s.r 0 0) ((i.a).toNat)) + i.imm)) ((Q.up s.r 0 0) ((i.d).toNat))).2.2.2) xs]) (Access (m := m) (xs := xs) i V (IntKind.wrap .u32 (((Q.up s.r 0 0) ((i.a).toNat)) + i.imm)) ((Q.up s.r 0 0) ((i.d).toNat)) (Q.wrap_bd _)) (by kernel_rfl) (A.pn [6, 0, 1, 2, 3, 4, 5]) (fun _ => A.pm [1, 2, 3, 4, 5, 6, 0] (by kernel_rfl) (by kernel_rfl)) (fun w _ => by kernel_rfl) (by kernel_rfl) (fun _ hd25 => ?_)
   refine E.op (.tuple #[.int .u32 ((Q.acc i V (IntKind.wrap .u32 (((Q.up s.r 0 0) ((i.a).toNat)) + i.imm)) ((Q.up s.r 0 0) ((i.d).toNat))).1), .agg #[.int .i64 ((Q.acc i V (IntKind.wrap .u32 (((Q.up s.r 0 0) ((i.a).toNat)) + i.imm)) ((Q.up s.r 0 0) ((i.d).toNat))).2.1), .int .u32 ((Q.acc i V (IntKind.wrap .u32 (((Q.up s.r 0 0) ((i.a).toNat)) + i.imm)) ((Q.up s.r 0 0) ((i.d).toNat))).2.2.1)]]) ?_
   refine E.op (.int .u32 ((Q.acc i V (IntKind.wrap .u32 (((Q.up s.r 0 0) ((i.a).toNat)) + i.imm)) ((Q.up s.r 0 0) ((i.d).toNat))).1)) ?_
   refine E.op (.agg #[.int .i64 ((Q.acc i V (IntKind.wrap .u32 (((Q.up s.r 0 0) ((i.a).toNat)) + i.imm)) ((Q.up s.r 0 0) ((i.d).toNat))).2.1), .int .u32 ((Q.acc i V (IntKind.wrap .u32 (((Q.up s.r 0 0) ((i.a).toNat)) + i.imm)) ((Q.up s.r 0 0) ((i.d).toNat))).2.2.1)]) ?_
   refine E.st 1 [.int .i64 ((Q.acc i V (IntKind.wrap .u32 (((Q.up s.r 0 0) ((i.a).toNat)) + i.imm)) ((Q.up s.r 0 0) ((i.d).toNat))).2.1), .int .u32 ((Q.acc i V (IntKind.wrap .u32 (((Q.up s.r 0 0) ((i.a).toNat)) + i.imm)) ((Q.up s.r 0 0) ((i.d).toNat))).2.2.1)] rfl rfl ?_
   refine E.P.nb (E.To.code ?_)
   refine E.wk [(2, .pointer (some ⟨g1, 0, none⟩)), (4, .pointer (some ⟨g2, 0, none⟩)), (5, .pointer (some ⟨g3, 0, none⟩)), (7, .pointer (some ⟨g5, 0, none⟩)), (8, .pointer (some ⟨g8, 0, none⟩)), (12, .int .u32 (IntKind.wrap .u32 (s.pc + 4)))] [(g8, (Q.S.cells s)), (g5, [.int .i64 ((Q.acc i V (IntKind.wrap .u32 (((Q.up s.r 0 0) ((i.a).toNat)) + i.imm)) ((Q.up s.r 0 0) ((i.d).toNat))).2.1), .int .u32 ((Q.acc i V (IntKind.wrap .u32 (((Q.up s.r 0 0) ((i.a).toNat)) + i.imm)) ((Q.up s.r 0 0) ((i.d).toNat))).2.2.1)]), (g3, [.int .i64 0, .int .u32 0]), (g2, (Q.S.cells Q.z0)), (g1, (Q.S.cells (⟨s.pc, (Q.up s.r 0 0), s.f, s.c, s.st, s.du⟩)))] (List.Sublist.cons_cons _ (List.Sublist.cons_cons _ (List.Sublist.cons _ (List.Sublist.refl _)))) ?_
   refine E.C.seq ?_
   refine E.sr ?_
   refine E.op (.pointer (some ⟨g5, 0, none⟩)) ?_
   refine E.li (.int .i64 ((Q.acc i V (IntKind.wrap .u32 (((Q.up s.r 0 0) ((i.a).toNat)) + i.imm)) ((Q.up s.r 0 0) ((i.d).toNat))).2.1)) 1 rfl rfl ?_
   refine E.op (.bool (((Q.acc i V (IntKind.wrap .u32 (((Q.up s.r 0 0) ((i.a).toNat)) + i.imm)) ((Q.up s.r 0 0) ((i.d).toNat))).2.1) != 0)) ?_
   refine E.To.code ?_
   refine E.cd (((Q.acc i V (IntKind.wrap .u32 (((Q.up s.r 0 0) ((i.a).toNat)) + i.imm)) ((Q.up s.r 0 0) ((i.d).toNat))).2.1) != 0) (fun hc26 => ?_) (fun hc26 => ?_)
   ·
    refine E.C.seq ?_
    refine E.C.held (E.Hp (oo) w (A.X w oo aa [M.It m ((Q.acc i V (IntKind.wrap .u32 (((Q.up s.r 0 0) ((i.a).toNat)) + i.imm)) ((Q.up s.r 0 0) ((i.d).toNat))).2.2.2) xs]) [(g8, (Q.S.cells s)), (g5, [.int .i64 ((Q.acc i V (IntKind.wrap .u32 (((Q.up s.r 0 0) ((i.a).toNat)) + i.imm)) ((Q.up s.r 0 0) ((i.d).toNat))).2.1), .int .u32 ((Q.acc i V (IntKind.wrap .u32 (((Q.up s.r 0 0) ((i.a).toNat)) + i.imm)) ((Q.up s.r 0 0) ((i.d).toNat))).2.2.1)]), (g1, (Q.S.cells (⟨s.pc, (Q.up s.r 0 0), s.f, s.c, s.st, s.du⟩)))]) (by kernel_rfl) ?_
    refine E.tj 0 (Q.S.val s) rfl (fun w h => h.less (List.Sublist.cons_cons _ (List.Sublist.cons_cons _ (List.Sublist.cons _ (List.Sublist.cons _ (List.Sublist.refl _)))))) (fun w h => E.run_load h 0 rfl rfl (by kernel_rfl)) ?_
    refine E.tj 1 (.agg #[.int .i64 ((Q.acc i V (IntKind.wrap .u32 (((Q.up s.r 0 0) ((i.a).toNat)) + i.imm)) ((Q.up s.r 0 0) ((i.d).toNat))).2.1), .int .u32 ((Q.acc i V (IntKind.wrap .u32 (((Q.up s.r 0 0) ((i.a).toNat)) + i.imm)) ((Q.up s.r 0 0) ((i.d).toNat))).2.2.1)]) rfl (fun w h => h.less (List.Sublist.cons_cons _ (List.Sublist.cons_cons _ (List.Sublist.cons _ (List.Sublist.cons _ (List.Sublist.refl _)))))) (fun w h => E.run_load h 1 rfl rfl (by kernel_rfl)) ?_
    refine E.al 2 rfl ?_
    refine E.st 3 (Q.S.cells s) rfl rfl ?_
    refine E.H.back (fun w h => h.less (List.Sublist.cons_cons _ (List.Sublist.cons_cons _ (List.Sublist.cons _ (List.Sublist.cons _ (List.Sublist.refl _)))))) ?_
    refine E.al 3 rfl ?_
    refine E.st 2 [.int .i64 ((Q.acc i V (IntKind.wrap .u32 (((Q.up s.r 0 0) ((i.a).toNat)) + i.imm)) ((Q.up s.r 0 0) ((i.d).toNat))).2.1), .int .u32 ((Q.acc i V (IntKind.wrap .u32 (((Q.up s.r 0 0) ((i.a).toNat)) + i.imm)) ((Q.up s.r 0 0) ((i.d).toNat))).2.2.1)] rfl rfl ?_
    refine E.H.back (fun w h => h.less (List.Sublist.cons_cons _ (List.Sublist.cons_cons _ (List.Sublist.cons _ (List.Sublist.cons _ (List.Sublist.refl _)))))) ?_
    refine E.H.done (by kernel_rfl) ?_
    refine E.To.code ?_
    refine E.C.ret (E.P.rt (E.To.body (fn := Try.f48) [Q.S.val s, .agg #[.int .i64 ((Q.acc i V (IntKind.wrap .u32 (((Q.up s.r 0 0) ((i.a).toNat)) + i.imm)) ((Q.up s.r 0 0) ((i.d).toNat))).2.1), .int .u32 ((Q.acc i V (IntKind.wrap .u32 (((Q.up s.r 0 0) ((i.a).toNat)) + i.imm)) ((Q.up s.r 0 0) ((i.d).toNat))).2.2.1)]] ?_ ?_))
    · exact ⟨⟨by kernel_rfl, _, _, 3, _, rfl, rfl, by kernel_rfl⟩, ⟨by kernel_rfl, _, _, 2, _, rfl, rfl, by kernel_rfl⟩, trivial⟩
    intro w h
    have e : (Q.stepI i k t s V) = (s, (Q.acc i V (IntKind.wrap .u32 (((Q.up s.r 0 0) ((i.a).toNat)) + i.imm)) ((Q.up s.r 0 0) ((i.d).toNat))).2.1, (Q.acc i V (IntKind.wrap .u32 (((Q.up s.r 0 0) ((i.a).toNat)) + i.imm)) ((Q.up s.r 0 0) ((i.d).toNat))).2.2.1, (Q.acc i V (IntKind.wrap .u32 (((Q.up s.r 0 0) ((i.a).toNat)) + i.imm)) ((Q.up s.r 0 0) ((i.d).toNat))).2.2.2) := by unfold Q.stepI; rw [hc6, cond_true, hc7, cond_false, hc14, cond_false, hc15, cond_false, hc19, cond_false, hc24, cond_true, hc26, cond_true] <;> rfl
    rw [e]
    exact ⟨(), trivial, rfl, A.done (q := [M.It m ((Q.acc i V (IntKind.wrap .u32 (((Q.up s.r 0 0) ((i.a).toNat)) + i.imm)) ((Q.up s.r 0 0) ((i.d).toNat))).2.2.2) xs]) (r := [A.blk g8 (Q.S.cells s), A.blk g5 ([.int .i64 ((Q.acc i V (IntKind.wrap .u32 (((Q.up s.r 0 0) ((i.a).toNat)) + i.imm)) ((Q.up s.r 0 0) ((i.d).toNat))).2.1), .int .u32 ((Q.acc i V (IntKind.wrap .u32 (((Q.up s.r 0 0) ((i.a).toNat)) + i.imm)) ((Q.up s.r 0 0) ((i.d).toNat))).2.2.1)]), A.blk g3 ([.int .i64 ((Q.acc i V (IntKind.wrap .u32 (((Q.up s.r 0 0) ((i.a).toNat)) + i.imm)) ((Q.up s.r 0 0) ((i.d).toNat))).2.1), .int .u32 ((Q.acc i V (IntKind.wrap .u32 (((Q.up s.r 0 0) ((i.a).toNat)) + i.imm)) ((Q.up s.r 0 0) ((i.d).toNat))).2.2.1)]), A.blk g2 (Q.S.cells s), A.blk g1 (Q.S.cells (⟨s.pc, (Q.up s.r 0 0), s.f, s.c, s.st, s.du⟩))]) h (by kernel_rfl) (A.pn [5, 0, 1, 2, 3, 4])⟩
   refine E.C.skip (E.To.code ?_)
   refine E.sr ?_
   refine E.op (.pointer (some ⟨g1, 1, none⟩)) ?_
   refine E.op (.pointer (some ⟨g1, 1, none⟩)) ?_
   refine E.st 4 (Q.S.cells (⟨s.pc, (Q.up (Q.up s.r 0 0) 0 0), s.f, s.c, s.st, s.du⟩)) rfl rfl ?_
   refine E.tr ?_
   refine E.op (.int .u32 (IntKind.wrap .u32 (s.pc + 4))) ?_
   refine E.op (.pointer (some ⟨g1, 0, none⟩)) ?_
   refine E.st 4 (Q.S.cells (⟨(IntKind.wrap .u32 (s.pc + 4)), (Q.up (Q.up s.r 0 0) 0 0), s.f, s.c, s.st, s.du⟩)) rfl rfl ?_
   refine E.To.code ?_
   refine E.wk [(2, .pointer (some ⟨g1, 0, none⟩)), (4, .pointer (some ⟨g2, 0, none⟩)), (5, .pointer (some ⟨g3, 0, none⟩)), (7, .pointer (some ⟨g5, 0, none⟩))] [(g5, [.int .i64 ((Q.acc i V (IntKind.wrap .u32 (((Q.up s.r 0 0) ((i.a).toNat)) + i.imm)) ((Q.up s.r 0 0) ((i.d).toNat))).2.1), .int .u32 ((Q.acc i V (IntKind.wrap .u32 (((Q.up s.r 0 0) ((i.a).toNat)) + i.imm)) ((Q.up s.r 0 0) ((i.d).toNat))).2.2.1)]), (g3, [.int .i64 0, .int .u32 0]), (g2, (Q.S.cells Q.z0)), (g1, (Q.S.cells (⟨(IntKind.wrap .u32 (s.pc + 4)), (Q.up (Q.up s.r 0 0) 0 0), s.f, s.c, s.st, s.du⟩)))] (List.Sublist.cons _ (List.Sublist.refl _)) ?_
   refine E.sr ?_
   refine E.op (.pointer (some ⟨g1, 22, none⟩)) ?_
   refine E.li (.int .i64 s.st) 3 rfl rfl ?_
   refine E.op (.int .i64 (IntKind.wrap .i64 (s.st + 1))) ?_
   refine E.op (.pointer (some ⟨g1, 22, none⟩)) ?_
   refine E.st 3 (Q.S.cells (⟨(IntKind.wrap .u32 (s.pc + 4)), (Q.up (Q.up s.r 0 0) 0 0), s.f, s.c, (IntKind.wrap .i64 (s.st + 1)), s.du⟩)) rfl rfl ?_
   refine E.To.code ?_
   refine E.C.seq ?_
   refine E.C.held (E.Hp (oo) w (A.X w oo aa [M.It m ((Q.acc i V (IntKind.wrap .u32 (((Q.up s.r 0 0) ((i.a).toNat)) + i.imm)) ((Q.up s.r 0 0) ((i.d).toNat))).2.2.2) xs]) [(g5, [.int .i64 ((Q.acc i V (IntKind.wrap .u32 (((Q.up s.r 0 0) ((i.a).toNat)) + i.imm)) ((Q.up s.r 0 0) ((i.d).toNat))).2.1), .int .u32 ((Q.acc i V (IntKind.wrap .u32 (((Q.up s.r 0 0) ((i.a).toNat)) + i.imm)) ((Q.up s.r 0 0) ((i.d).toNat))).2.2.1)]), (g1, (Q.S.cells (⟨(IntKind.wrap .u32 (s.pc + 4)), (Q.up (Q.up s.r 0 0) 0 0), s.f, s.c, (IntKind.wrap .i64 (s.st + 1)), s.du⟩)))]) (by kernel_rfl) ?_
   refine E.tj 0 (Q.S.val (⟨(IntKind.wrap .u32 (s.pc + 4)), (Q.up (Q.up s.r 0 0) 0 0), s.f, s.c, (IntKind.wrap .i64 (s.st + 1)), s.du⟩)) rfl (fun w h => h.less (List.Sublist.cons_cons _ (List.Sublist.cons _ (List.Sublist.cons _ (List.Sublist.refl _))))) (fun w h => E.run_load h 1 rfl rfl (by kernel_rfl)) ?_
   refine E.tj 1 (.agg #[.int .i64 ((Q.acc i V (IntKind.wrap .u32 (((Q.up s.r 0 0) ((i.a).toNat)) + i.imm)) ((Q.up s.r 0 0) ((i.d).toNat))).2.1), .int .u32 ((Q.acc i V (IntKind.wrap .u32 (((Q.up s.r 0 0) ((i.a).toNat)) + i.imm)) ((Q.up s.r 0 0) ((i.d).toNat))).2.2.1)]) rfl (fun w h => h.less (List.Sublist.cons_cons _ (List.Sublist.cons _ (List.Sublist.cons _ (List.Sublist.refl _))))) (fun w h => E.run_load h 0 rfl rfl (by kernel_rfl)) ?_
   refine E.al 2 rfl ?_
   refine E.st 2 (Q.S.cells (⟨(IntKind.wrap .u32 (s.pc + 4)), (Q.up (Q.up s.r 0 0) 0 0), s.f, s.c, (IntKind.wrap .i64 (s.st + 1)), s.du⟩)) rfl rfl ?_
   refine E.H.back (fun w h => h.less (List.Sublist.cons_cons _ (List.Sublist.cons _ (List.Sublist.cons _ (List.Sublist.refl _))))) ?_
   refine E.al 3 rfl ?_
   refine E.st 1 [.int .i64 ((Q.acc i V (IntKind.wrap .u32 (((Q.up s.r 0 0) ((i.a).toNat)) + i.imm)) ((Q.up s.r 0 0) ((i.d).toNat))).2.1), .int .u32 ((Q.acc i V (IntKind.wrap .u32 (((Q.up s.r 0 0) ((i.a).toNat)) + i.imm)) ((Q.up s.r 0 0) ((i.d).toNat))).2.2.1)] rfl rfl ?_
   refine E.H.back (fun w h => h.less (List.Sublist.cons_cons _ (List.Sublist.cons _ (List.Sublist.cons _ (List.Sublist.refl _))))) ?_
   refine E.H.done (by kernel_rfl) ?_
   refine E.To.code ?_
   refine E.wk [(4, .pointer (some ⟨g2, 0, none⟩)), (5, .pointer (some ⟨g3, 0, none⟩))] [(g3, [.int .i64 ((Q.acc i V (IntKind.wrap .u32 (((Q.up s.r 0 0) ((i.a).toNat)) + i.imm)) ((Q.up s.r 0 0) ((i.d).toNat))).2.1), .int .u32 ((Q.acc i V (IntKind.wrap .u32 (((Q.up s.r 0 0) ((i.a).toNat)) + i.imm)) ((Q.up s.r 0 0) ((i.d).toNat))).2.2.1)]), (g2, (Q.S.cells (⟨(IntKind.wrap .u32 (s.pc + 4)), (Q.up (Q.up s.r 0 0) 0 0), s.f, s.c, (IntKind.wrap .i64 (s.st + 1)), s.du⟩)))] (List.Sublist.cons _ (List.Sublist.cons_cons _ (List.Sublist.cons_cons _ (List.nil_sublist _)))) ?_
   refine E.C.ret (E.To.body (fn := Try.f48) [Q.S.val (⟨(IntKind.wrap .u32 (s.pc + 4)), (Q.up (Q.up s.r 0 0) 0 0), s.f, s.c, (IntKind.wrap .i64 (s.st + 1)), s.du⟩), .agg #[.int .i64 ((Q.acc i V (IntKind.wrap .u32 (((Q.up s.r 0 0) ((i.a).toNat)) + i.imm)) ((Q.up s.r 0 0) ((i.d).toNat))).2.1), .int .u32 ((Q.acc i V (IntKind.wrap .u32 (((Q.up s.r 0 0) ((i.a).toNat)) + i.imm)) ((Q.up s.r 0 0) ((i.d).toNat))).2.2.1)]] ?_ ?_)
   · exact ⟨⟨by kernel_rfl, _, _, 1, _, rfl, rfl, by kernel_rfl⟩, ⟨by kernel_rfl, _, _, 0, _, rfl, rfl, by kernel_rfl⟩, trivial⟩
   intro w h
   have e : (Q.stepI i k t s V) = (⟨(IntKind.wrap .u32 (s.pc + 4)), (Q.up (Q.up s.r 0 0) 0 0), s.f, s.c, (IntKind.wrap .i64 (s.st + 1)), s.du⟩, (Q.acc i V (IntKind.wrap .u32 (((Q.up s.r 0 0) ((i.a).toNat)) + i.imm)) ((Q.up s.r 0 0) ((i.d).toNat))).2.1, (Q.acc i V (IntKind.wrap .u32 (((Q.up s.r 0 0) ((i.a).toNat)) + i.imm)) ((Q.up s.r 0 0) ((i.d).toNat))).2.2.1, (Q.acc i V (IntKind.wrap .u32 (((Q.up s.r 0 0) ((i.a).toNat)) + i.imm)) ((Q.up s.r 0 0) ((i.d).toNat))).2.2.2) := by unfold Q.stepI; rw [hc6, cond_true, hc7, cond_false, hc14, cond_false, hc15, cond_false, hc19, cond_false, hc24, cond_true, hc26, cond_false] <;> rfl
   rw [e]
   exact ⟨(), trivial, rfl, A.done (q := [M.It m ((Q.acc i V (IntKind.wrap .u32 (((Q.up s.r 0 0) ((i.a).toNat)) + i.imm)) ((Q.up s.r 0 0) ((i.d).toNat))).2.2.2) xs]) (r := [A.blk g3 ([.int .i64 ((Q.acc i V (IntKind.wrap .u32 (((Q.up s.r 0 0) ((i.a).toNat)) + i.imm)) ((Q.up s.r 0 0) ((i.d).toNat))).2.1), .int .u32 ((Q.acc i V (IntKind.wrap .u32 (((Q.up s.r 0 0) ((i.a).toNat)) + i.imm)) ((Q.up s.r 0 0) ((i.d).toNat))).2.2.1)]), A.blk g2 (Q.S.cells (⟨(IntKind.wrap .u32 (s.pc + 4)), (Q.up (Q.up s.r 0 0) 0 0), s.f, s.c, (IntKind.wrap .i64 (s.st + 1)), s.du⟩))]) h (by kernel_rfl) (A.pn [2, 0, 1])⟩
  refine E.sr ?_
  refine E.op (.pointer (some ⟨g4, 0, none⟩)) ?_
  refine E.li (.int .i64 i.op) 2 rfl rfl ?_
  refine E.op (.bool (i.op == 27)) ?_
  refine E.op (.bool (i.op == 27)) ?_
  refine E.To.code ?_
  refine E.cd (i.op == 27) (fun hc27 => ?_) (fun hc27 => ?_)
  ·
   refine E.C.held (E.Hp (oo) w (A.X w oo aa [M.It m V xs]) [(g8, (Q.S.cells s)), (g5, [.int .i64 ((Q.stop i).1), .int .u32 ((Q.stop i).2)]), (g4, [.int .i64 i.op, .int .i64 i.d, .int .i64 i.a, .int .i64 i.b, .int .u32 i.imm]), (g3, [.int .i64 0, .int .u32 0]), (g2, (Q.S.cells Q.z0))]) (by kernel_rfl) ?_
   refine E.tk 0 (.pointer (some ⟨g4, 1, none⟩)) rfl (fun w h => h.less (List.Sublist.cons_cons _ (List.Sublist.cons_cons _ (List.Sublist.cons_cons _ (List.Sublist.cons_cons _ (List.Sublist.cons_cons _ (List.nil_sublist _))))))) ?_
   refine E.tj 1 (.int .i64 i.d) rfl (fun w h => h.less (List.Sublist.cons_cons _ (List.Sublist.cons_cons _ (List.Sublist.cons_cons _ (List.Sublist.cons_cons _ (List.Sublist.cons_cons _ (List.nil_sublist _))))))) (fun w h => E.run_load h 2 rfl rfl (by kernel_rfl)) ?_
   refine E.tk 2 (.int .u32 (IntKind.wrap .u32 (s.pc + 4))) rfl (fun w h => h.less (List.Sublist.cons_cons _ (List.Sublist.cons_cons _ (List.Sublist.cons_cons _ (List.Sublist.cons_cons _ (List.Sublist.cons_cons _ (List.nil_sublist _))))))) ?_
   refine E.tk 3 (.int .u32 ((Q.up s.r 0 0) ((i.a).toNat))) rfl (fun w h => h.less (List.Sublist.cons_cons _ (List.Sublist.cons_cons _ (List.Sublist.cons_cons _ (List.Sublist.cons_cons _ (List.Sublist.cons_cons _ (List.nil_sublist _))))))) ?_
   refine E.tk 4 (.pointer (some ⟨g4, 4, none⟩)) rfl (fun w h => h.less (List.Sublist.cons_cons _ (List.Sublist.cons_cons _ (List.Sublist.cons_cons _ (List.Sublist.cons_cons _ (List.Sublist.cons_cons _ (List.nil_sublist _))))))) ?_
   refine E.tj 5 (.int .u32 i.imm) rfl (fun w h => h.less (List.Sublist.cons_cons _ (List.Sublist.cons_cons _ (List.Sublist.cons_cons _ (List.Sublist.cons_cons _ (List.Sublist.cons_cons _ (List.nil_sublist _))))))) (fun w h => E.run_load h 2 rfl rfl (by kernel_rfl)) ?_
   refine E.tk 6 (.int .u32 (IntKind.wrap .u32 (((Q.up s.r 0 0) ((i.a).toNat)) + i.imm))) rfl (fun w h => h.less (List.Sublist.cons_cons _ (List.Sublist.cons_cons _ (List.Sublist.cons_cons _ (List.Sublist.cons_cons _ (List.Sublist.cons_cons _ (List.nil_sublist _))))))) ?_
   refine E.tk 7 (.int .u32 (bits .andNot .u32 (IntKind.wrap .u32 (((Q.up s.r 0 0) ((i.a).toNat)) + i.imm)) 3)) rfl (fun w h => h.less (List.Sublist.cons_cons _ (List.Sublist.cons_cons _ (List.Sublist.cons_cons _ (List.Sublist.cons_cons _ (List.Sublist.cons_cons _ (List.nil_sublist _))))))) ?_
   refine E.tk 8 (.pointer (some ⟨g1, 1, none⟩)) rfl (fun w h => h.less (List.Sublist.cons_cons _ (List.Sublist.cons_cons _ (List.Sublist.cons_cons _ (List.Sublist.cons_cons _ (List.Sublist.cons_cons _ (List.nil_sublist _))))))) ?_
   refine E.tj 9 (.pointer (some ⟨g1, 1 + (i.d).toNat, none⟩)) rfl (fun w h => h.less (List.Sublist.cons_cons _ (List.Sublist.cons_cons _ (List.Sublist.cons_cons _ (List.Sublist.cons_cons _ (List.Sublist.cons_cons _ (List.nil_sublist _))))))) (fun w h => E.idxI (e := 22) g1 1 16 .i64 i.d (by kernel_rfl) (by kernel_rfl) (by kernel_rfl) (by kernel_rfl) (by have := (hi hc6).d; omega) w) ?_
   refine E.al 10 rfl ?_
   refine E.G.store 5 (Q.S.cells (⟨s.pc, (Q.up (Q.up s.r 0 0) (i.d).toNat (IntKind.wrap .u32 (s.pc + 4))), s.f, s.c, s.st, s.du⟩)) rfl rfl (Q.sto_r (s := ⟨s.pc, (Q.up s.r 0 0), s.f, s.c, s.st, s.du⟩) (by kernel_rfl) (by have := (by have := (hi hc6).d; omega); omega)) (by kernel_rfl) ?_
   refine E.H.back (fun w h => h.less (List.Sublist.cons_cons _ (List.Sublist.cons_cons _ (List.Sublist.cons_cons _ (List.Sublist.cons_cons _ (List.Sublist.cons_cons _ (List.nil_sublist _))))))) ?_
   refine E.tk 11 (.int .u32 (bits .andNot .u32 (IntKind.wrap .u32 (((Q.up s.r 0 0) ((i.a).toNat)) + i.imm)) 3)) rfl (fun w h => h.less (List.Sublist.cons_cons _ (List.Sublist.cons_cons _ (List.Sublist.cons_cons _ (List.Sublist.cons_cons _ (List.Sublist.cons_cons _ (List.nil_sublist _))))))) ?_
   refine E.H.done (by kernel_rfl) ?_
   refine E.P.nb (E.To.code ?_)
   refine E.wk [(2, .pointer (some ⟨g1, 0, none⟩)), (4, .pointer (some ⟨g2, 0, none⟩)), (5, .pointer (some ⟨g3, 0, none⟩)), (7, .pointer (some ⟨g5, 0, none⟩)), (8, .pointer (some ⟨g8, 0, none⟩)), (12, .int .u32 (bits .andNot .u32 (IntKind.wrap .u32 (((Q.up s.r 0 0) ((i.a).toNat)) + i.imm)) 3))] [(g8, (Q.S.cells s)), (g5, [.int .i64 ((Q.stop i).1), .int .u32 ((Q.stop i).2)]), (g3, [.int .i64 0, .int .u32 0]), (g2, (Q.S.cells Q.z0)), (g1, (Q.S.cells (⟨s.pc, (Q.up (Q.up s.r 0 0) (i.d).toNat (IntKind.wrap .u32 (s.pc + 4))), s.f, s.c, s.st, s.du⟩)))] (List.Sublist.cons_cons _ (List.Sublist.cons_cons _ (List.Sublist.cons _ (List.Sublist.refl _)))) ?_
   refine E.C.seq ?_
   refine E.sr ?_
   refine E.op (.pointer (some ⟨g5, 0, none⟩)) ?_
   refine E.li (.int .i64 ((Q.stop i).1)) 1 rfl rfl ?_
   refine E.op (.bool (((Q.stop i).1) != 0)) ?_
   refine E.To.code ?_
   refine E.cd (((Q.stop i).1) != 0) (fun hc28 => absurd (hc7.symm.trans hc28) (by decide)) (fun hc28 => ?_)
   refine E.C.skip (E.To.code ?_)
   refine E.sr ?_
   refine E.op (.pointer (some ⟨g1, 1, none⟩)) ?_
   refine E.op (.pointer (some ⟨g1, 1, none⟩)) ?_
   refine E.st 4 (Q.S.cells (⟨s.pc, (Q.up (Q.up (Q.up s.r 0 0) (i.d).toNat (IntKind.wrap .u32 (s.pc + 4))) 0 0), s.f, s.c, s.st, s.du⟩)) rfl rfl ?_
   refine E.tr ?_
   refine E.op (.int .u32 (bits .andNot .u32 (IntKind.wrap .u32 (((Q.up s.r 0 0) ((i.a).toNat)) + i.imm)) 3)) ?_
   refine E.op (.pointer (some ⟨g1, 0, none⟩)) ?_
   refine E.st 4 (Q.S.cells (⟨(bits .andNot .u32 (IntKind.wrap .u32 (((Q.up s.r 0 0) ((i.a).toNat)) + i.imm)) 3), (Q.up (Q.up (Q.up s.r 0 0) (i.d).toNat (IntKind.wrap .u32 (s.pc + 4))) 0 0), s.f, s.c, s.st, s.du⟩)) rfl rfl ?_
   refine E.To.code ?_
   refine E.wk [(2, .pointer (some ⟨g1, 0, none⟩)), (4, .pointer (some ⟨g2, 0, none⟩)), (5, .pointer (some ⟨g3, 0, none⟩)), (7, .pointer (some ⟨g5, 0, none⟩))] [(g5, [.int .i64 ((Q.stop i).1), .int .u32 ((Q.stop i).2)]), (g3, [.int .i64 0, .int .u32 0]), (g2, (Q.S.cells Q.z0)), (g1, (Q.S.cells (⟨(bits .andNot .u32 (IntKind.wrap .u32 (((Q.up s.r 0 0) ((i.a).toNat)) + i.imm)) 3), (Q.up (Q.up (Q.up s.r 0 0) (i.d).toNat (IntKind.wrap .u32 (s.pc + 4))) 0 0), s.f, s.c, s.st, s.du⟩)))] (List.Sublist.cons _ (List.Sublist.refl _)) ?_
   refine E.sr ?_
   refine E.op (.pointer (some ⟨g1, 22, none⟩)) ?_
   refine E.li (.int .i64 s.st) 3 rfl rfl ?_
   refine E.op (.int .i64 (IntKind.wrap .i64 (s.st + 1))) ?_
   refine E.op (.pointer (some ⟨g1, 22, none⟩)) ?_
   refine E.st 3 (Q.S.cells (⟨(bits .andNot .u32 (IntKind.wrap .u32 (((Q.up s.r 0 0) ((i.a).toNat)) + i.imm)) 3), (Q.up (Q.up (Q.up s.r 0 0) (i.d).toNat (IntKind.wrap .u32 (s.pc + 4))) 0 0), s.f, s.c, (IntKind.wrap .i64 (s.st + 1)), s.du⟩)) rfl rfl ?_
   refine E.To.code ?_
   refine E.C.seq ?_
   refine E.C.held (E.Hp (oo) w (A.X w oo aa [M.It m V xs]) [(g5, [.int .i64 ((Q.stop i).1), .int .u32 ((Q.stop i).2)]), (g1, (Q.S.cells (⟨(bits .andNot .u32 (IntKind.wrap .u32 (((Q.up s.r 0 0) ((i.a).toNat)) + i.imm)) 3), (Q.up (Q.up (Q.up s.r 0 0) (i.d).toNat (IntKind.wrap .u32 (s.pc + 4))) 0 0), s.f, s.c, (IntKind.wrap .i64 (s.st + 1)), s.du⟩)))]) (by kernel_rfl) ?_
   refine E.tj 0 (Q.S.val (⟨(bits .andNot .u32 (IntKind.wrap .u32 (((Q.up s.r 0 0) ((i.a).toNat)) + i.imm)) 3), (Q.up (Q.up (Q.up s.r 0 0) (i.d).toNat (IntKind.wrap .u32 (s.pc + 4))) 0 0), s.f, s.c, (IntKind.wrap .i64 (s.st + 1)), s.du⟩)) rfl (fun w h => h.less (List.Sublist.cons_cons _ (List.Sublist.cons _ (List.Sublist.cons _ (List.Sublist.refl _))))) (fun w h => E.run_load h 1 rfl rfl (by kernel_rfl)) ?_
   refine E.tj 1 (.agg #[.int .i64 ((Q.stop i).1), .int .u32 ((Q.stop i).2)]) rfl (fun w h => h.less (List.Sublist.cons_cons _ (List.Sublist.cons _ (List.Sublist.cons _ (List.Sublist.refl _))))) (fun w h => E.run_load h 0 rfl rfl (by kernel_rfl)) ?_
   refine E.al 2 rfl ?_
   refine E.st 2 (Q.S.cells (⟨(bits .andNot .u32 (IntKind.wrap .u32 (((Q.up s.r 0 0) ((i.a).toNat)) + i.imm)) 3), (Q.up (Q.up (Q.up s.r 0 0) (i.d).toNat (IntKind.wrap .u32 (s.pc + 4))) 0 0), s.f, s.c, (IntKind.wrap .i64 (s.st + 1)), s.du⟩)) rfl rfl ?_
   refine E.H.back (fun w h => h.less (List.Sublist.cons_cons _ (List.Sublist.cons _ (List.Sublist.cons _ (List.Sublist.refl _))))) ?_
   refine E.al 3 rfl ?_
   refine E.st 1 [.int .i64 ((Q.stop i).1), .int .u32 ((Q.stop i).2)] rfl rfl ?_
   refine E.H.back (fun w h => h.less (List.Sublist.cons_cons _ (List.Sublist.cons _ (List.Sublist.cons _ (List.Sublist.refl _))))) ?_
   refine E.H.done (by kernel_rfl) ?_
   refine E.To.code ?_
   refine E.wk [(4, .pointer (some ⟨g2, 0, none⟩)), (5, .pointer (some ⟨g3, 0, none⟩))] [(g3, [.int .i64 ((Q.stop i).1), .int .u32 ((Q.stop i).2)]), (g2, (Q.S.cells (⟨(bits .andNot .u32 (IntKind.wrap .u32 (((Q.up s.r 0 0) ((i.a).toNat)) + i.imm)) 3), (Q.up (Q.up (Q.up s.r 0 0) (i.d).toNat (IntKind.wrap .u32 (s.pc + 4))) 0 0), s.f, s.c, (IntKind.wrap .i64 (s.st + 1)), s.du⟩)))] (List.Sublist.cons _ (List.Sublist.cons_cons _ (List.Sublist.cons_cons _ (List.nil_sublist _)))) ?_
   refine E.C.ret (E.To.body (fn := Try.f48) [Q.S.val (⟨(bits .andNot .u32 (IntKind.wrap .u32 (((Q.up s.r 0 0) ((i.a).toNat)) + i.imm)) 3), (Q.up (Q.up (Q.up s.r 0 0) (i.d).toNat (IntKind.wrap .u32 (s.pc + 4))) 0 0), s.f, s.c, (IntKind.wrap .i64 (s.st + 1)), s.du⟩), .agg #[.int .i64 ((Q.stop i).1), .int .u32 ((Q.stop i).2)]] ?_ ?_)
   · exact ⟨⟨by kernel_rfl, _, _, 1, _, rfl, rfl, by kernel_rfl⟩, ⟨by kernel_rfl, _, _, 0, _, rfl, rfl, by kernel_rfl⟩, trivial⟩
   intro w h
   have e : (Q.stepI i k t s V) = (⟨(bits .andNot .u32 (IntKind.wrap .u32 (((Q.up s.r 0 0) ((i.a).toNat)) + i.imm)) 3), (Q.up (Q.up (Q.up s.r 0 0) (i.d).toNat (IntKind.wrap .u32 (s.pc + 4))) 0 0), s.f, s.c, (IntKind.wrap .i64 (s.st + 1)), s.du⟩, (Q.stop i).1, (Q.stop i).2, V) := by unfold Q.stepI; rw [hc6, cond_true, hc7, cond_false, hc14, cond_false, hc15, cond_false, hc19, cond_false, hc24, cond_false, hc27, cond_true] <;> rfl
   rw [e]
   exact ⟨(), trivial, rfl, A.done (q := [M.It m V xs]) (r := [A.blk g3 ([.int .i64 ((Q.stop i).1), .int .u32 ((Q.stop i).2)]), A.blk g2 (Q.S.cells (⟨(bits .andNot .u32 (IntKind.wrap .u32 (((Q.up s.r 0 0) ((i.a).toNat)) + i.imm)) 3), (Q.up (Q.up (Q.up s.r 0 0) (i.d).toNat (IntKind.wrap .u32 (s.pc + 4))) 0 0), s.f, s.c, (IntKind.wrap .i64 (s.st + 1)), s.du⟩))]) h (by kernel_rfl) (A.pn [2, 0, 1])⟩
  refine E.sr ?_
  refine E.op (.pointer (some ⟨g4, 0, none⟩)) ?_
  refine E.li (.int .i64 i.op) 2 rfl rfl ?_
  refine E.op (.bool (i.op == 40)) ?_
  refine E.op (.bool (i.op == 40)) ?_
  refine E.To.code ?_
  refine E.wk [(1, .iface 82 (.pointer (some ⟨m, 0, none⟩))), (2, .pointer (some ⟨g1, 0, none⟩)), (4, .pointer (some ⟨g2, 0, none⟩)), (5, .pointer (some ⟨g3, 0, none⟩)), (6, .pointer (some ⟨g4, 0, none⟩)), (7, .pointer (some ⟨g5, 0, none⟩)), (8, .pointer (some ⟨g8, 0, none⟩)), (9, .int .u32 ((Q.up s.r 0 0) ((i.d).toNat))), (10, .int .u32 ((Q.up s.r 0 0) ((i.a).toNat))), (12, .int .u32 (IntKind.wrap .u32 (s.pc + 4))), (13, .int .u32 (IntKind.wrap .u32 (s.pc + (IntKind.wrap .u32 (4 * i.imm))))), (149, .bool (i.op == 40))] [(g8, (Q.S.cells s)), (g5, [.int .i64 ((Q.stop i).1), .int .u32 ((Q.stop i).2)]), (g4, [.int .i64 i.op, .int .i64 i.d, .int .i64 i.a, .int .i64 i.b, .int .u32 i.imm]), (g3, [.int .i64 0, .int .u32 0]), (g2, (Q.S.cells Q.z0)), (g1, (Q.S.cells (⟨s.pc, (Q.up s.r 0 0), s.f, s.c, s.st, s.du⟩)))] (List.Sublist.refl _) ?_
  refine E.cd (i.op == 40) (fun hc29 => ?_) (fun hc29 => ?_)
  ·
   refine E.C.region ?_
   refine E.op (.pointer (some ⟨g4, 1, none⟩)) ?_
   refine E.li (.int .i64 i.d) 2 rfl rfl ?_
   refine E.op (.int .u32 (IntKind.wrap .u32 (s.pc + 4))) ?_
   refine E.op (.int .u32 (IntKind.wrap .u32 (s.pc + (IntKind.wrap .u32 (4 * i.imm))))) ?_
   refine E.op (.pointer (some ⟨g1, 1, none⟩)) ?_
   refine E.vl (.pointer (some ⟨g1, 1 + (i.d).toNat, none⟩)) (fun w h => E.idxI (e := 22) g1 1 16 .i64 i.d (by kernel_rfl) (by kernel_rfl) (by kernel_rfl) (by kernel_rfl) (by have := (hi hc6).d; omega) w) ?_
   refine E.G.store 5 (Q.S.cells (⟨s.pc, (Q.up (Q.up s.r 0 0) (i.d).toNat (IntKind.wrap .u32 (s.pc + 4))), s.f, s.c, s.st, s.du⟩)) rfl rfl (Q.sto_r (s := ⟨s.pc, (Q.up s.r 0 0), s.f, s.c, s.st, s.du⟩) (by kernel_rfl) (by have := (by have := (hi hc6).d; omega); omega)) (by kernel_rfl) ?_
   refine E.op (.int .u32 (IntKind.wrap .u32 (s.pc + (IntKind.wrap .u32 (4 * i.imm))))) ?_
   refine E.P.nb (E.To.code ?_)
   refine E.wk [(2, .pointer (some ⟨g1, 0, none⟩)), (4, .pointer (some ⟨g2, 0, none⟩)), (5, .pointer (some ⟨g3, 0, none⟩)), (7, .pointer (some ⟨g5, 0, none⟩)), (8, .pointer (some ⟨g8, 0, none⟩)), (12, .int .u32 (IntKind.wrap .u32 (s.pc + (IntKind.wrap .u32 (4 * i.imm)))))] [(g8, (Q.S.cells s)), (g5, [.int .i64 ((Q.stop i).1), .int .u32 ((Q.stop i).2)]), (g3, [.int .i64 0, .int .u32 0]), (g2, (Q.S.cells Q.z0)), (g1, (Q.S.cells (⟨s.pc, (Q.up (Q.up s.r 0 0) (i.d).toNat (IntKind.wrap .u32 (s.pc + 4))), s.f, s.c, s.st, s.du⟩)))] (List.Sublist.cons_cons _ (List.Sublist.cons_cons _ (List.Sublist.cons _ (List.Sublist.refl _)))) ?_
   refine E.C.seq ?_
   refine E.sr ?_
   refine E.op (.pointer (some ⟨g5, 0, none⟩)) ?_
   refine E.li (.int .i64 ((Q.stop i).1)) 1 rfl rfl ?_
   refine E.op (.bool (((Q.stop i).1) != 0)) ?_
   refine E.To.code ?_
   refine E.cd (((Q.stop i).1) != 0) (fun hc30 => absurd (hc7.symm.trans hc30) (by decide)) (fun hc30 => ?_)
   refine E.C.skip (E.To.code ?_)
   refine E.sr ?_
   refine E.op (.pointer (some ⟨g1, 1, none⟩)) ?_
   refine E.op (.pointer (some ⟨g1, 1, none⟩)) ?_
   refine E.st 4 (Q.S.cells (⟨s.pc, (Q.up (Q.up (Q.up s.r 0 0) (i.d).toNat (IntKind.wrap .u32 (s.pc + 4))) 0 0), s.f, s.c, s.st, s.du⟩)) rfl rfl ?_
   refine E.tr ?_
   refine E.op (.int .u32 (IntKind.wrap .u32 (s.pc + (IntKind.wrap .u32 (4 * i.imm))))) ?_
   refine E.op (.pointer (some ⟨g1, 0, none⟩)) ?_
   refine E.st 4 (Q.S.cells (⟨(IntKind.wrap .u32 (s.pc + (IntKind.wrap .u32 (4 * i.imm)))), (Q.up (Q.up (Q.up s.r 0 0) (i.d).toNat (IntKind.wrap .u32 (s.pc + 4))) 0 0), s.f, s.c, s.st, s.du⟩)) rfl rfl ?_
   refine E.To.code ?_
   refine E.wk [(2, .pointer (some ⟨g1, 0, none⟩)), (4, .pointer (some ⟨g2, 0, none⟩)), (5, .pointer (some ⟨g3, 0, none⟩)), (7, .pointer (some ⟨g5, 0, none⟩))] [(g5, [.int .i64 ((Q.stop i).1), .int .u32 ((Q.stop i).2)]), (g3, [.int .i64 0, .int .u32 0]), (g2, (Q.S.cells Q.z0)), (g1, (Q.S.cells (⟨(IntKind.wrap .u32 (s.pc + (IntKind.wrap .u32 (4 * i.imm)))), (Q.up (Q.up (Q.up s.r 0 0) (i.d).toNat (IntKind.wrap .u32 (s.pc + 4))) 0 0), s.f, s.c, s.st, s.du⟩)))] (List.Sublist.cons _ (List.Sublist.refl _)) ?_
   refine E.sr ?_
   refine E.op (.pointer (some ⟨g1, 22, none⟩)) ?_
   refine E.li (.int .i64 s.st) 3 rfl rfl ?_
   refine E.op (.int .i64 (IntKind.wrap .i64 (s.st + 1))) ?_
   refine E.op (.pointer (some ⟨g1, 22, none⟩)) ?_
   refine E.st 3 (Q.S.cells (⟨(IntKind.wrap .u32 (s.pc + (IntKind.wrap .u32 (4 * i.imm)))), (Q.up (Q.up (Q.up s.r 0 0) (i.d).toNat (IntKind.wrap .u32 (s.pc + 4))) 0 0), s.f, s.c, (IntKind.wrap .i64 (s.st + 1)), s.du⟩)) rfl rfl ?_
   refine E.To.code ?_
   refine E.C.seq ?_
   refine E.C.held (E.Hp (oo) w (A.X w oo aa [M.It m V xs]) [(g5, [.int .i64 ((Q.stop i).1), .int .u32 ((Q.stop i).2)]), (g1, (Q.S.cells (⟨(IntKind.wrap .u32 (s.pc + (IntKind.wrap .u32 (4 * i.imm)))), (Q.up (Q.up (Q.up s.r 0 0) (i.d).toNat (IntKind.wrap .u32 (s.pc + 4))) 0 0), s.f, s.c, (IntKind.wrap .i64 (s.st + 1)), s.du⟩)))]) (by kernel_rfl) ?_
   refine E.tj 0 (Q.S.val (⟨(IntKind.wrap .u32 (s.pc + (IntKind.wrap .u32 (4 * i.imm)))), (Q.up (Q.up (Q.up s.r 0 0) (i.d).toNat (IntKind.wrap .u32 (s.pc + 4))) 0 0), s.f, s.c, (IntKind.wrap .i64 (s.st + 1)), s.du⟩)) rfl (fun w h => h.less (List.Sublist.cons_cons _ (List.Sublist.cons _ (List.Sublist.cons _ (List.Sublist.refl _))))) (fun w h => E.run_load h 1 rfl rfl (by kernel_rfl)) ?_
   refine E.tj 1 (.agg #[.int .i64 ((Q.stop i).1), .int .u32 ((Q.stop i).2)]) rfl (fun w h => h.less (List.Sublist.cons_cons _ (List.Sublist.cons _ (List.Sublist.cons _ (List.Sublist.refl _))))) (fun w h => E.run_load h 0 rfl rfl (by kernel_rfl)) ?_
   refine E.al 2 rfl ?_
   refine E.st 2 (Q.S.cells (⟨(IntKind.wrap .u32 (s.pc + (IntKind.wrap .u32 (4 * i.imm)))), (Q.up (Q.up (Q.up s.r 0 0) (i.d).toNat (IntKind.wrap .u32 (s.pc + 4))) 0 0), s.f, s.c, (IntKind.wrap .i64 (s.st + 1)), s.du⟩)) rfl rfl ?_
   refine E.H.back (fun w h => h.less (List.Sublist.cons_cons _ (List.Sublist.cons _ (List.Sublist.cons _ (List.Sublist.refl _))))) ?_
   refine E.al 3 rfl ?_
   refine E.st 1 [.int .i64 ((Q.stop i).1), .int .u32 ((Q.stop i).2)] rfl rfl ?_
   refine E.H.back (fun w h => h.less (List.Sublist.cons_cons _ (List.Sublist.cons _ (List.Sublist.cons _ (List.Sublist.refl _))))) ?_
   refine E.H.done (by kernel_rfl) ?_
   refine E.To.code ?_
   refine E.wk [(4, .pointer (some ⟨g2, 0, none⟩)), (5, .pointer (some ⟨g3, 0, none⟩))] [(g3, [.int .i64 ((Q.stop i).1), .int .u32 ((Q.stop i).2)]), (g2, (Q.S.cells (⟨(IntKind.wrap .u32 (s.pc + (IntKind.wrap .u32 (4 * i.imm)))), (Q.up (Q.up (Q.up s.r 0 0) (i.d).toNat (IntKind.wrap .u32 (s.pc + 4))) 0 0), s.f, s.c, (IntKind.wrap .i64 (s.st + 1)), s.du⟩)))] (List.Sublist.cons _ (List.Sublist.cons_cons _ (List.Sublist.cons_cons _ (List.nil_sublist _)))) ?_
   refine E.C.ret (E.To.body (fn := Try.f48) [Q.S.val (⟨(IntKind.wrap .u32 (s.pc + (IntKind.wrap .u32 (4 * i.imm)))), (Q.up (Q.up (Q.up s.r 0 0) (i.d).toNat (IntKind.wrap .u32 (s.pc + 4))) 0 0), s.f, s.c, (IntKind.wrap .i64 (s.st + 1)), s.du⟩), .agg #[.int .i64 ((Q.stop i).1), .int .u32 ((Q.stop i).2)]] ?_ ?_)
   · exact ⟨⟨by kernel_rfl, _, _, 1, _, rfl, rfl, by kernel_rfl⟩, ⟨by kernel_rfl, _, _, 0, _, rfl, rfl, by kernel_rfl⟩, trivial⟩
   intro w h
   have e : (Q.stepI i k t s V) = (⟨(IntKind.wrap .u32 (s.pc + (IntKind.wrap .u32 (4 * i.imm)))), (Q.up (Q.up (Q.up s.r 0 0) (i.d).toNat (IntKind.wrap .u32 (s.pc + 4))) 0 0), s.f, s.c, (IntKind.wrap .i64 (s.st + 1)), s.du⟩, (Q.stop i).1, (Q.stop i).2, V) := by unfold Q.stepI; rw [hc6, cond_true, hc7, cond_false, hc14, cond_false, hc15, cond_false, hc19, cond_false, hc24, cond_false, hc27, cond_false, hc29, cond_true] <;> rfl
   rw [e]
   exact ⟨(), trivial, rfl, A.done (q := [M.It m V xs]) (r := [A.blk g3 ([.int .i64 ((Q.stop i).1), .int .u32 ((Q.stop i).2)]), A.blk g2 (Q.S.cells (⟨(IntKind.wrap .u32 (s.pc + (IntKind.wrap .u32 (4 * i.imm)))), (Q.up (Q.up (Q.up s.r 0 0) (i.d).toNat (IntKind.wrap .u32 (s.pc + 4))) 0 0), s.f, s.c, (IntKind.wrap .i64 (s.st + 1)), s.du⟩))]) h (by kernel_rfl) (A.pn [2, 0, 1])⟩
  refine E.sr ?_
  refine E.op (.pointer (some ⟨g4, 0, none⟩)) ?_
  refine E.li (.int .i64 i.op) 2 rfl rfl ?_
  refine E.op (.bool (i.op == 41)) ?_
  refine E.op (.bool (i.op == 41)) ?_
  refine E.To.code ?_
  refine E.cd (i.op == 41) (fun hc31 => ?_) (fun hc31 => ?_)
  ·
   refine E.C.region ?_
   refine E.op (.pointer (some ⟨g4, 1, none⟩)) ?_
   refine E.li (.int .i64 i.d) 2 rfl rfl ?_
   refine E.op (.pointer (some ⟨g4, 4, none⟩)) ?_
   refine E.li (.int .u32 i.imm) 2 rfl rfl ?_
   refine E.op (.int .u32 (IntKind.wrap .u32 (i.imm * 2 ^ 10))) ?_
   refine E.op (.pointer (some ⟨g1, 1, none⟩)) ?_
   refine E.vl (.pointer (some ⟨g1, 1 + (i.d).toNat, none⟩)) (fun w h => E.idxI (e := 22) g1 1 16 .i64 i.d (by kernel_rfl) (by kernel_rfl) (by kernel_rfl) (by kernel_rfl) (by have := (hi hc6).d; omega) w) ?_
   refine E.G.store 5 (Q.S.cells (⟨s.pc, (Q.up (Q.up s.r 0 0) (i.d).toNat (IntKind.wrap .u32 (i.imm * 2 ^ 10))), s.f, s.c, s.st, s.du⟩)) rfl rfl (Q.sto_r (s := ⟨s.pc, (Q.up s.r 0 0), s.f, s.c, s.st, s.du⟩) (by kernel_rfl) (by have := (by have := (hi hc6).d; omega); omega)) (by kernel_rfl) ?_
   refine E.P.nb (E.To.code ?_)
   refine E.wk [(2, .pointer (some ⟨g1, 0, none⟩)), (4, .pointer (some ⟨g2, 0, none⟩)), (5, .pointer (some ⟨g3, 0, none⟩)), (7, .pointer (some ⟨g5, 0, none⟩)), (8, .pointer (some ⟨g8, 0, none⟩)), (12, .int .u32 (IntKind.wrap .u32 (s.pc + 4)))] [(g8, (Q.S.cells s)), (g5, [.int .i64 ((Q.stop i).1), .int .u32 ((Q.stop i).2)]), (g3, [.int .i64 0, .int .u32 0]), (g2, (Q.S.cells Q.z0)), (g1, (Q.S.cells (⟨s.pc, (Q.up (Q.up s.r 0 0) (i.d).toNat (IntKind.wrap .u32 (i.imm * 2 ^ 10))), s.f, s.c, s.st, s.du⟩)))] (List.Sublist.cons_cons _ (List.Sublist.cons_cons _ (List.Sublist.cons _ (List.Sublist.refl _)))) ?_
   refine E.C.seq ?_
   refine E.sr ?_
   refine E.op (.pointer (some ⟨g5, 0, none⟩)) ?_
   refine E.li (.int .i64 ((Q.stop i).1)) 1 rfl rfl ?_
   refine E.op (.bool (((Q.stop i).1) != 0)) ?_
   refine E.To.code ?_
   refine E.cd (((Q.stop i).1) != 0) (fun hc32 => absurd (hc7.symm.trans hc32) (by decide)) (fun hc32 => ?_)
   refine E.C.skip (E.To.code ?_)
   refine E.sr ?_
   refine E.op (.pointer (some ⟨g1, 1, none⟩)) ?_
   refine E.op (.pointer (some ⟨g1, 1, none⟩)) ?_
   refine E.st 4 (Q.S.cells (⟨s.pc, (Q.up (Q.up (Q.up s.r 0 0) (i.d).toNat (IntKind.wrap .u32 (i.imm * 2 ^ 10))) 0 0), s.f, s.c, s.st, s.du⟩)) rfl rfl ?_
   refine E.tr ?_
   refine E.op (.int .u32 (IntKind.wrap .u32 (s.pc + 4))) ?_
   refine E.op (.pointer (some ⟨g1, 0, none⟩)) ?_
   refine E.st 4 (Q.S.cells (⟨(IntKind.wrap .u32 (s.pc + 4)), (Q.up (Q.up (Q.up s.r 0 0) (i.d).toNat (IntKind.wrap .u32 (i.imm * 2 ^ 10))) 0 0), s.f, s.c, s.st, s.du⟩)) rfl rfl ?_
   refine E.To.code ?_
   refine E.wk [(2, .pointer (some ⟨g1, 0, none⟩)), (4, .pointer (some ⟨g2, 0, none⟩)), (5, .pointer (some ⟨g3, 0, none⟩)), (7, .pointer (some ⟨g5, 0, none⟩))] [(g5, [.int .i64 ((Q.stop i).1), .int .u32 ((Q.stop i).2)]), (g3, [.int .i64 0, .int .u32 0]), (g2, (Q.S.cells Q.z0)), (g1, (Q.S.cells (⟨(IntKind.wrap .u32 (s.pc + 4)), (Q.up (Q.up (Q.up s.r 0 0) (i.d).toNat (IntKind.wrap .u32 (i.imm * 2 ^ 10))) 0 0), s.f, s.c, s.st, s.du⟩)))] (List.Sublist.cons _ (List.Sublist.refl _)) ?_
   refine E.sr ?_
   refine E.op (.pointer (some ⟨g1, 22, none⟩)) ?_
   refine E.li (.int .i64 s.st) 3 rfl rfl ?_
   refine E.op (.int .i64 (IntKind.wrap .i64 (s.st + 1))) ?_
   refine E.op (.pointer (some ⟨g1, 22, none⟩)) ?_
   refine E.st 3 (Q.S.cells (⟨(IntKind.wrap .u32 (s.pc + 4)), (Q.up (Q.up (Q.up s.r 0 0) (i.d).toNat (IntKind.wrap .u32 (i.imm * 2 ^ 10))) 0 0), s.f, s.c, (IntKind.wrap .i64 (s.st + 1)), s.du⟩)) rfl rfl ?_
   refine E.To.code ?_
   refine E.C.seq ?_
   refine E.C.held (E.Hp (oo) w (A.X w oo aa [M.It m V xs]) [(g5, [.int .i64 ((Q.stop i).1), .int .u32 ((Q.stop i).2)]), (g1, (Q.S.cells (⟨(IntKind.wrap .u32 (s.pc + 4)), (Q.up (Q.up (Q.up s.r 0 0) (i.d).toNat (IntKind.wrap .u32 (i.imm * 2 ^ 10))) 0 0), s.f, s.c, (IntKind.wrap .i64 (s.st + 1)), s.du⟩)))]) (by kernel_rfl) ?_
   refine E.tj 0 (Q.S.val (⟨(IntKind.wrap .u32 (s.pc + 4)), (Q.up (Q.up (Q.up s.r 0 0) (i.d).toNat (IntKind.wrap .u32 (i.imm * 2 ^ 10))) 0 0), s.f, s.c, (IntKind.wrap .i64 (s.st + 1)), s.du⟩)) rfl (fun w h => h.less (List.Sublist.cons_cons _ (List.Sublist.cons _ (List.Sublist.cons _ (List.Sublist.refl _))))) (fun w h => E.run_load h 1 rfl rfl (by kernel_rfl)) ?_
   refine E.tj 1 (.agg #[.int .i64 ((Q.stop i).1), .int .u32 ((Q.stop i).2)]) rfl (fun w h => h.less (List.Sublist.cons_cons _ (List.Sublist.cons _ (List.Sublist.cons _ (List.Sublist.refl _))))) (fun w h => E.run_load h 0 rfl rfl (by kernel_rfl)) ?_
   refine E.al 2 rfl ?_
   refine E.st 2 (Q.S.cells (⟨(IntKind.wrap .u32 (s.pc + 4)), (Q.up (Q.up (Q.up s.r 0 0) (i.d).toNat (IntKind.wrap .u32 (i.imm * 2 ^ 10))) 0 0), s.f, s.c, (IntKind.wrap .i64 (s.st + 1)), s.du⟩)) rfl rfl ?_
   refine E.H.back (fun w h => h.less (List.Sublist.cons_cons _ (List.Sublist.cons _ (List.Sublist.cons _ (List.Sublist.refl _))))) ?_
   refine E.al 3 rfl ?_
   refine E.st 1 [.int .i64 ((Q.stop i).1), .int .u32 ((Q.stop i).2)] rfl rfl ?_
   refine E.H.back (fun w h => h.less (List.Sublist.cons_cons _ (List.Sublist.cons _ (List.Sublist.cons _ (List.Sublist.refl _))))) ?_
   refine E.H.done (by kernel_rfl) ?_
   refine E.To.code ?_
   refine E.wk [(4, .pointer (some ⟨g2, 0, none⟩)), (5, .pointer (some ⟨g3, 0, none⟩))] [(g3, [.int .i64 ((Q.stop i).1), .int .u32 ((Q.stop i).2)]), (g2, (Q.S.cells (⟨(IntKind.wrap .u32 (s.pc + 4)), (Q.up (Q.up (Q.up s.r 0 0) (i.d).toNat (IntKind.wrap .u32 (i.imm * 2 ^ 10))) 0 0), s.f, s.c, (IntKind.wrap .i64 (s.st + 1)), s.du⟩)))] (List.Sublist.cons _ (List.Sublist.cons_cons _ (List.Sublist.cons_cons _ (List.nil_sublist _)))) ?_
   refine E.C.ret (E.To.body (fn := Try.f48) [Q.S.val (⟨(IntKind.wrap .u32 (s.pc + 4)), (Q.up (Q.up (Q.up s.r 0 0) (i.d).toNat (IntKind.wrap .u32 (i.imm * 2 ^ 10))) 0 0), s.f, s.c, (IntKind.wrap .i64 (s.st + 1)), s.du⟩), .agg #[.int .i64 ((Q.stop i).1), .int .u32 ((Q.stop i).2)]] ?_ ?_)
   · exact ⟨⟨by kernel_rfl, _, _, 1, _, rfl, rfl, by kernel_rfl⟩, ⟨by kernel_rfl, _, _, 0, _, rfl, rfl, by kernel_rfl⟩, trivial⟩
   intro w h
   have e : (Q.stepI i k t s V) = (⟨(IntKind.wrap .u32 (s.pc + 4)), (Q.up (Q.up (Q.up s.r 0 0) (i.d).toNat (IntKind.wrap .u32 (i.imm * 2 ^ 10))) 0 0), s.f, s.c, (IntKind.wrap .i64 (s.st + 1)), s.du⟩, (Q.stop i).1, (Q.stop i).2, V) := by unfold Q.stepI; rw [hc6, cond_true, hc7, cond_false, hc14, cond_false, hc15, cond_false, hc19, cond_false, hc24, cond_false, hc27, cond_false, hc29, cond_false, hc31, cond_true] <;> rfl
   rw [e]
   exact ⟨(), trivial, rfl, A.done (q := [M.It m V xs]) (r := [A.blk g3 ([.int .i64 ((Q.stop i).1), .int .u32 ((Q.stop i).2)]), A.blk g2 (Q.S.cells (⟨(IntKind.wrap .u32 (s.pc + 4)), (Q.up (Q.up (Q.up s.r 0 0) (i.d).toNat (IntKind.wrap .u32 (i.imm * 2 ^ 10))) 0 0), s.f, s.c, (IntKind.wrap .i64 (s.st + 1)), s.du⟩))]) h (by kernel_rfl) (A.pn [2, 0, 1])⟩
  refine E.sr ?_
  refine E.op (.pointer (some ⟨g4, 0, none⟩)) ?_
  refine E.li (.int .i64 i.op) 2 rfl rfl ?_
  refine E.op (.bool (i.op == 51)) ?_
  refine E.op (.bool (i.op == 51)) ?_
  refine E.To.code ?_
  refine E.wk [(1, .iface 82 (.pointer (some ⟨m, 0, none⟩))), (2, .pointer (some ⟨g1, 0, none⟩)), (4, .pointer (some ⟨g2, 0, none⟩)), (5, .pointer (some ⟨g3, 0, none⟩)), (6, .pointer (some ⟨g4, 0, none⟩)), (7, .pointer (some ⟨g5, 0, none⟩)), (8, .pointer (some ⟨g8, 0, none⟩)), (9, .int .u32 ((Q.up s.r 0 0) ((i.d).toNat))), (10, .int .u32 ((Q.up s.r 0 0) ((i.a).toNat))), (12, .int .u32 (IntKind.wrap .u32 (s.pc + 4))), (13, .int .u32 (IntKind.wrap .u32 (s.pc + (IntKind.wrap .u32 (4 * i.imm))))), (170, .bool (i.op == 51))] [(g8, (Q.S.cells s)), (g5, [.int .i64 ((Q.stop i).1), .int .u32 ((Q.stop i).2)]), (g4, [.int .i64 i.op, .int .i64 i.d, .int .i64 i.a, .int .i64 i.b, .int .u32 i.imm]), (g3, [.int .i64 0, .int .u32 0]), (g2, (Q.S.cells Q.z0)), (g1, (Q.S.cells (⟨s.pc, (Q.up s.r 0 0), s.f, s.c, s.st, s.du⟩)))] (List.Sublist.refl _) ?_
  refine E.cd (i.op == 51) (fun hc33 => ?_) (fun hc33 => ?_)
  ·
   refine E.C.region ?_
   refine E.op (.pointer (some ⟨g1, 18, none⟩)) ?_
   refine E.op (.pointer (some ⟨g1, 19, none⟩)) ?_
   refine E.li (.int .u32 (s.c 1)) 5 rfl rfl ?_
   refine E.op (.int .u32 (bits .andNot .u32 (s.c 1) 3)) ?_
   refine E.op (.int .u32 (bits .andNot .u32 (s.c 1) 3)) ?_
   refine E.P.nb (E.To.code ?_)
   refine E.wk [(2, .pointer (some ⟨g1, 0, none⟩)), (4, .pointer (some ⟨g2, 0, none⟩)), (5, .pointer (some ⟨g3, 0, none⟩)), (7, .pointer (some ⟨g5, 0, none⟩)), (8, .pointer (some ⟨g8, 0, none⟩)), (12, .int .u32 (bits .andNot .u32 (s.c 1) 3))] [(g8, (Q.S.cells s)), (g5, [.int .i64 ((Q.stop i).1), .int .u32 ((Q.stop i).2)]), (g3, [.int .i64 0, .int .u32 0]), (g2, (Q.S.cells Q.z0)), (g1, (Q.S.cells (⟨s.pc, (Q.up s.r 0 0), s.f, s.c, s.st, s.du⟩)))] (List.Sublist.cons_cons _ (List.Sublist.cons_cons _ (List.Sublist.cons _ (List.Sublist.refl _)))) ?_
   refine E.C.seq ?_
   refine E.sr ?_
   refine E.op (.pointer (some ⟨g5, 0, none⟩)) ?_
   refine E.li (.int .i64 ((Q.stop i).1)) 1 rfl rfl ?_
   refine E.op (.bool (((Q.stop i).1) != 0)) ?_
   refine E.To.code ?_
   refine E.cd (((Q.stop i).1) != 0) (fun hc34 => absurd (hc7.symm.trans hc34) (by decide)) (fun hc34 => ?_)
   refine E.C.skip (E.To.code ?_)
   refine E.sr ?_
   refine E.op (.pointer (some ⟨g1, 1, none⟩)) ?_
   refine E.op (.pointer (some ⟨g1, 1, none⟩)) ?_
   refine E.st 4 (Q.S.cells (⟨s.pc, (Q.up (Q.up s.r 0 0) 0 0), s.f, s.c, s.st, s.du⟩)) rfl rfl ?_
   refine E.tr ?_
   refine E.op (.int .u32 (bits .andNot .u32 (s.c 1) 3)) ?_
   refine E.op (.pointer (some ⟨g1, 0, none⟩)) ?_
   refine E.st 4 (Q.S.cells (⟨(bits .andNot .u32 (s.c 1) 3), (Q.up (Q.up s.r 0 0) 0 0), s.f, s.c, s.st, s.du⟩)) rfl rfl ?_
   refine E.To.code ?_
   refine E.wk [(2, .pointer (some ⟨g1, 0, none⟩)), (4, .pointer (some ⟨g2, 0, none⟩)), (5, .pointer (some ⟨g3, 0, none⟩)), (7, .pointer (some ⟨g5, 0, none⟩))] [(g5, [.int .i64 ((Q.stop i).1), .int .u32 ((Q.stop i).2)]), (g3, [.int .i64 0, .int .u32 0]), (g2, (Q.S.cells Q.z0)), (g1, (Q.S.cells (⟨(bits .andNot .u32 (s.c 1) 3), (Q.up (Q.up s.r 0 0) 0 0), s.f, s.c, s.st, s.du⟩)))] (List.Sublist.cons _ (List.Sublist.refl _)) ?_
   refine E.sr ?_
   refine E.op (.pointer (some ⟨g1, 22, none⟩)) ?_
   refine E.li (.int .i64 s.st) 3 rfl rfl ?_
   refine E.op (.int .i64 (IntKind.wrap .i64 (s.st + 1))) ?_
   refine E.op (.pointer (some ⟨g1, 22, none⟩)) ?_
   refine E.st 3 (Q.S.cells (⟨(bits .andNot .u32 (s.c 1) 3), (Q.up (Q.up s.r 0 0) 0 0), s.f, s.c, (IntKind.wrap .i64 (s.st + 1)), s.du⟩)) rfl rfl ?_
   refine E.To.code ?_
   refine E.C.seq ?_
   refine E.C.held (E.Hp (oo) w (A.X w oo aa [M.It m V xs]) [(g5, [.int .i64 ((Q.stop i).1), .int .u32 ((Q.stop i).2)]), (g1, (Q.S.cells (⟨(bits .andNot .u32 (s.c 1) 3), (Q.up (Q.up s.r 0 0) 0 0), s.f, s.c, (IntKind.wrap .i64 (s.st + 1)), s.du⟩)))]) (by kernel_rfl) ?_
   refine E.tj 0 (Q.S.val (⟨(bits .andNot .u32 (s.c 1) 3), (Q.up (Q.up s.r 0 0) 0 0), s.f, s.c, (IntKind.wrap .i64 (s.st + 1)), s.du⟩)) rfl (fun w h => h.less (List.Sublist.cons_cons _ (List.Sublist.cons _ (List.Sublist.cons _ (List.Sublist.refl _))))) (fun w h => E.run_load h 1 rfl rfl (by kernel_rfl)) ?_
   refine E.tj 1 (.agg #[.int .i64 ((Q.stop i).1), .int .u32 ((Q.stop i).2)]) rfl (fun w h => h.less (List.Sublist.cons_cons _ (List.Sublist.cons _ (List.Sublist.cons _ (List.Sublist.refl _))))) (fun w h => E.run_load h 0 rfl rfl (by kernel_rfl)) ?_
   refine E.al 2 rfl ?_
   refine E.st 2 (Q.S.cells (⟨(bits .andNot .u32 (s.c 1) 3), (Q.up (Q.up s.r 0 0) 0 0), s.f, s.c, (IntKind.wrap .i64 (s.st + 1)), s.du⟩)) rfl rfl ?_
   refine E.H.back (fun w h => h.less (List.Sublist.cons_cons _ (List.Sublist.cons _ (List.Sublist.cons _ (List.Sublist.refl _))))) ?_
   refine E.al 3 rfl ?_
   refine E.st 1 [.int .i64 ((Q.stop i).1), .int .u32 ((Q.stop i).2)] rfl rfl ?_
   refine E.H.back (fun w h => h.less (List.Sublist.cons_cons _ (List.Sublist.cons _ (List.Sublist.cons _ (List.Sublist.refl _))))) ?_
   refine E.H.done (by kernel_rfl) ?_
   refine E.To.code ?_
   refine E.wk [(4, .pointer (some ⟨g2, 0, none⟩)), (5, .pointer (some ⟨g3, 0, none⟩))] [(g3, [.int .i64 ((Q.stop i).1), .int .u32 ((Q.stop i).2)]), (g2, (Q.S.cells (⟨(bits .andNot .u32 (s.c 1) 3), (Q.up (Q.up s.r 0 0) 0 0), s.f, s.c, (IntKind.wrap .i64 (s.st + 1)), s.du⟩)))] (List.Sublist.cons _ (List.Sublist.cons_cons _ (List.Sublist.cons_cons _ (List.nil_sublist _)))) ?_
   refine E.C.ret (E.To.body (fn := Try.f48) [Q.S.val (⟨(bits .andNot .u32 (s.c 1) 3), (Q.up (Q.up s.r 0 0) 0 0), s.f, s.c, (IntKind.wrap .i64 (s.st + 1)), s.du⟩), .agg #[.int .i64 ((Q.stop i).1), .int .u32 ((Q.stop i).2)]] ?_ ?_)
   · exact ⟨⟨by kernel_rfl, _, _, 1, _, rfl, rfl, by kernel_rfl⟩, ⟨by kernel_rfl, _, _, 0, _, rfl, rfl, by kernel_rfl⟩, trivial⟩
   intro w h
   have e : (Q.stepI i k t s V) = (⟨(bits .andNot .u32 (s.c 1) 3), (Q.up (Q.up s.r 0 0) 0 0), s.f, s.c, (IntKind.wrap .i64 (s.st + 1)), s.du⟩, (Q.stop i).1, (Q.stop i).2, V) := by unfold Q.stepI; rw [hc6, cond_true, hc7, cond_false, hc14, cond_false, hc15, cond_false, hc19, cond_false, hc24, cond_false, hc27, cond_false, hc29, cond_false, hc31, cond_false, hc33, cond_true] <;> rfl
   rw [e]
   exact ⟨(), trivial, rfl, A.done (q := [M.It m V xs]) (r := [A.blk g3 ([.int .i64 ((Q.stop i).1), .int .u32 ((Q.stop i).2)]), A.blk g2 (Q.S.cells (⟨(bits .andNot .u32 (s.c 1) 3), (Q.up (Q.up s.r 0 0) 0 0), s.f, s.c, (IntKind.wrap .i64 (s.st + 1)), s.du⟩))]) h (by kernel_rfl) (A.pn [2, 0, 1])⟩
  refine E.sr ?_
  refine E.op (.pointer (some ⟨g4, 0, none⟩)) ?_
  refine E.li (.int .i64 i.op) 2 rfl rfl ?_
  refine E.op (.bool (i.op == 52)) ?_
  refine E.op (.bool (i.op == 52)) ?_
  refine E.To.code ?_
  refine E.cd (i.op == 52) (fun hc35 => ?_) (fun hc35 => ?_)
  ·
   refine E.sr ?_
   refine E.op (.iface 82 (.pointer (some ⟨m, 0, none⟩))) ?_
   refine E.op (.int .u32 ((Q.up s.r 0 0) ((i.a).toNat))) ?_
   refine A.G.call (I := Unit) (D := fun _ => True) (V := fun _ => .bool (decide ((((Q.up s.r 0 0) ((i.a).toNat))).toNat / 256 < V.n))) (q := fun _ => [M.It m (V.sync ((((Q.up s.r 0 0) ((i.a).toNat))).toNat / 256)) xs]) [A.blk g8 (Q.S.cells s), A.blk g5 ([.int .i64 ((Q.stop i).1), .int .u32 ((Q.stop i).2)]), A.blk g4 ([.int .i64 i.op, .int .i64 i.d, .int .i64 i.a, .int .i64 i.b, .int .u32 i.imm]), A.blk g3 ([.int .i64 0, .int .u32 0]), A.blk g2 (Q.S.cells Q.z0), A.blk g1 (Q.S.cells (⟨s.pc, (Q.up s.r 0 0), s.f, s.c, s.st, s.du⟩))] (fun _ => [(g8, (Q.S.cells s)), (g5, [.int .i64 ((Q.stop i).1), .int .u32 ((Q.stop i).2)]), (g4, [.int .i64 i.op, .int .i64 i.d, .int .i64 i.a, .int .i64 i.b, .int .u32 i.imm]), (g3, [.int .i64 0, .int .u32 0]), (g2, (Q.S.cells Q.z0)), (g1, (Q.S.cells (⟨s.pc, (Q.up s.r 0 0), s.f, s.c, s.st, s.du⟩)))]) (fun _ => [M.It m (V.sync ((((Q.up s.r 0 0) ((i.a).toNat))).toNat / 256)) xs]) (I_Sync ((Q.up s.r 0 0) ((i.a).toNat)) (Q.up_bd hs.r (by decide) _) (m := m) (V := V) (xs := xs)) (by kernel_rfl) (A.pn [6, 0, 1, 2, 3, 4, 5]) (fun _ => A.pm [1, 2, 3, 4, 5, 6, 0] (by kernel_rfl) (by kernel_rfl)) (fun w _ => by kernel_rfl) (by kernel_rfl) (fun _ hd36 => ?_)
   refine E.op (.bool (!(decide ((((Q.up s.r 0 0) ((i.a).toNat))).toNat / 256 < V.n)))) ?_
   refine E.To.code ?_
   refine E.wk [(2, .pointer (some ⟨g1, 0, none⟩)), (4, .pointer (some ⟨g2, 0, none⟩)), (5, .pointer (some ⟨g3, 0, none⟩)), (7, .pointer (some ⟨g5, 0, none⟩)), (8, .pointer (some ⟨g8, 0, none⟩)), (10, .int .u32 ((Q.up s.r 0 0) ((i.a).toNat))), (12, .int .u32 (IntKind.wrap .u32 (s.pc + 4))), (185, .bool (!(decide ((((Q.up s.r 0 0) ((i.a).toNat))).toNat / 256 < V.n))))] [(g8, (Q.S.cells s)), (g5, [.int .i64 ((Q.stop i).1), .int .u32 ((Q.stop i).2)]), (g3, [.int .i64 0, .int .u32 0]), (g2, (Q.S.cells Q.z0)), (g1, (Q.S.cells (⟨s.pc, (Q.up s.r 0 0), s.f, s.c, s.st, s.du⟩)))] (List.Sublist.cons_cons _ (List.Sublist.cons_cons _ (List.Sublist.cons _ (List.Sublist.refl _)))) ?_
   refine E.cd (!(decide ((((Q.up s.r 0 0) ((i.a).toNat))).toNat / 256 < V.n))) (fun hc37 => ?_) (fun hc37 => ?_)
   ·
    refine E.C.region ?_
    refine E.op (.int .u32 ((Q.up s.r 0 0) ((i.a).toNat))) ?_
    refine E.vl (.agg #[.int .i64 5, .int .u32 ((Q.up s.r 0 0) ((i.a).toNat))]) (fun w h => E.run_build #[.int .i64 5, .int .u32 ((Q.up s.r 0 0) ((i.a).toNat))] (by kernel_rfl) w) ?_
    refine E.st 1 [.int .i64 5, .int .u32 ((Q.up s.r 0 0) ((i.a).toNat))] rfl rfl ?_
    refine E.P.nb (E.To.code ?_)
    refine E.C.seq ?_
    refine E.sr ?_
    refine E.op (.pointer (some ⟨g5, 0, none⟩)) ?_
    refine E.li (.int .i64 5) 1 rfl rfl ?_
    refine E.op (.bool true) ?_
    refine E.To.code ?_
    refine E.C.condT (by kernel_rfl) (by kernel_rfl) ?_
    refine E.C.seq ?_
    refine E.C.held (E.Hp (oo) w (A.X w oo aa [M.It m (V.sync ((((Q.up s.r 0 0) ((i.a).toNat))).toNat / 256)) xs]) [(g8, (Q.S.cells s)), (g5, [.int .i64 5, .int .u32 ((Q.up s.r 0 0) ((i.a).toNat))]), (g1, (Q.S.cells (⟨s.pc, (Q.up s.r 0 0), s.f, s.c, s.st, s.du⟩)))]) (by kernel_rfl) ?_
    refine E.tj 0 (Q.S.val s) rfl (fun w h => h.less (List.Sublist.cons_cons _ (List.Sublist.cons_cons _ (List.Sublist.cons _ (List.Sublist.cons _ (List.Sublist.refl _)))))) (fun w h => E.run_load h 0 rfl rfl (by kernel_rfl)) ?_
    refine E.tj 1 (.agg #[.int .i64 5, .int .u32 ((Q.up s.r 0 0) ((i.a).toNat))]) rfl (fun w h => h.less (List.Sublist.cons_cons _ (List.Sublist.cons_cons _ (List.Sublist.cons _ (List.Sublist.cons _ (List.Sublist.refl _)))))) (fun w h => E.run_load h 1 rfl rfl (by kernel_rfl)) ?_
    refine E.al 2 rfl ?_
    refine E.st 3 (Q.S.cells s) rfl rfl ?_
    refine E.H.back (fun w h => h.less (List.Sublist.cons_cons _ (List.Sublist.cons_cons _ (List.Sublist.cons _ (List.Sublist.cons _ (List.Sublist.refl _)))))) ?_
    refine E.al 3 rfl ?_
    refine E.st 2 [.int .i64 5, .int .u32 ((Q.up s.r 0 0) ((i.a).toNat))] rfl rfl ?_
    refine E.H.back (fun w h => h.less (List.Sublist.cons_cons _ (List.Sublist.cons_cons _ (List.Sublist.cons _ (List.Sublist.cons _ (List.Sublist.refl _)))))) ?_
    refine E.H.done (by kernel_rfl) ?_
    refine E.To.code ?_
    refine E.wk [(2, .pointer (some ⟨g1, 0, none⟩)), (4, .pointer (some ⟨g2, 0, none⟩)), (5, .pointer (some ⟨g3, 0, none⟩)), (7, .pointer (some ⟨g5, 0, none⟩)), (12, .int .u32 (IntKind.wrap .u32 (s.pc + 4)))] [(g5, [.int .i64 5, .int .u32 ((Q.up s.r 0 0) ((i.a).toNat))]), (g3, [.int .i64 5, .int .u32 ((Q.up s.r 0 0) ((i.a).toNat))]), (g2, (Q.S.cells s)), (g1, (Q.S.cells (⟨s.pc, (Q.up s.r 0 0), s.f, s.c, s.st, s.du⟩)))] (List.Sublist.cons _ (List.Sublist.refl _)) ?_
    refine E.C.ret (E.P.rt (E.To.body (fn := Try.f48) [Q.S.val s, .agg #[.int .i64 5, .int .u32 ((Q.up s.r 0 0) ((i.a).toNat))]] ?_ ?_))
    · exact ⟨⟨by kernel_rfl, _, _, 2, _, rfl, rfl, by kernel_rfl⟩, ⟨by kernel_rfl, _, _, 1, _, rfl, rfl, by kernel_rfl⟩, trivial⟩
    intro w h
    have e : (Q.stepI i k t s V) = (s, 5, ((Q.up s.r 0 0) ((i.a).toNat)), (V.sync ((((Q.up s.r 0 0) ((i.a).toNat))).toNat / 256))) := by unfold Q.stepI; rw [hc6, cond_true, hc7, cond_false, hc14, cond_false, hc15, cond_false, hc19, cond_false, hc24, cond_false, hc27, cond_false, hc29, cond_false, hc31, cond_false, hc33, cond_false, hc35, cond_true, hc37, cond_true] <;> rfl
    rw [e]
    exact ⟨(), trivial, rfl, A.done (q := [M.It m (V.sync ((((Q.up s.r 0 0) ((i.a).toNat))).toNat / 256)) xs]) (r := [A.blk g5 ([.int .i64 5, .int .u32 ((Q.up s.r 0 0) ((i.a).toNat))]), A.blk g3 ([.int .i64 5, .int .u32 ((Q.up s.r 0 0) ((i.a).toNat))]), A.blk g2 (Q.S.cells s), A.blk g1 (Q.S.cells (⟨s.pc, (Q.up s.r 0 0), s.f, s.c, s.st, s.du⟩))]) h (by kernel_rfl) (A.pn [4, 0, 1, 2, 3])⟩
   refine E.C.skip (E.P.nb (E.To.code ?_))
   refine E.C.seq ?_
   refine E.sr ?_
   refine E.op (.pointer (some ⟨g5, 0, none⟩)) ?_
   refine E.li (.int .i64 ((Q.stop i).1)) 1 rfl rfl ?_
   refine E.op (.bool (((Q.stop i).1) != 0)) ?_
   refine E.To.code ?_
   refine E.cd (((Q.stop i).1) != 0) (fun hc38 => absurd (hc7.symm.trans hc38) (by decide)) (fun hc38 => ?_)
   refine E.C.skip (E.To.code ?_)
   refine E.sr ?_
   refine E.op (.pointer (some ⟨g1, 1, none⟩)) ?_
   refine E.op (.pointer (some ⟨g1, 1, none⟩)) ?_
   refine E.st 4 (Q.S.cells (⟨s.pc, (Q.up (Q.up s.r 0 0) 0 0), s.f, s.c, s.st, s.du⟩)) rfl rfl ?_
   refine E.To.code ?_
   refine E.wk [(2, .pointer (some ⟨g1, 0, none⟩)), (4, .pointer (some ⟨g2, 0, none⟩)), (5, .pointer (some ⟨g3, 0, none⟩)), (7, .pointer (some ⟨g5, 0, none⟩)), (12, .int .u32 (IntKind.wrap .u32 (s.pc + 4)))] [(g5, [.int .i64 ((Q.stop i).1), .int .u32 ((Q.stop i).2)]), (g3, [.int .i64 0, .int .u32 0]), (g2, (Q.S.cells Q.z0)), (g1, (Q.S.cells (⟨s.pc, (Q.up (Q.up s.r 0 0) 0 0), s.f, s.c, s.st, s.du⟩)))] (List.Sublist.cons _ (List.Sublist.refl _)) ?_
   refine E.sr ?_
   refine E.op (.int .u32 (IntKind.wrap .u32 (s.pc + 4))) ?_
   refine E.op (.pointer (some ⟨g1, 0, none⟩)) ?_
   refine E.st 3 (Q.S.cells (⟨(IntKind.wrap .u32 (s.pc + 4)), (Q.up (Q.up s.r 0 0) 0 0), s.f, s.c, s.st, s.du⟩)) rfl rfl ?_
   refine E.tr ?_
   refine E.op (.pointer (some ⟨g1, 22, none⟩)) ?_
   refine E.li (.int .i64 s.st) 3 rfl rfl ?_
   refine E.op (.int .i64 (IntKind.wrap .i64 (s.st + 1))) ?_
   refine E.op (.pointer (some ⟨g1, 22, none⟩)) ?_
   refine E.st 3 (Q.S.cells (⟨(IntKind.wrap .u32 (s.pc + 4)), (Q.up (Q.up s.r 0 0) 0 0), s.f, s.c, (IntKind.wrap .i64 (s.st + 1)), s.du⟩)) rfl rfl ?_
   refine E.To.code ?_
   refine E.C.seq ?_
   refine E.C.held (E.Hp (oo) w (A.X w oo aa [M.It m (V.sync ((((Q.up s.r 0 0) ((i.a).toNat))).toNat / 256)) xs]) [(g5, [.int .i64 ((Q.stop i).1), .int .u32 ((Q.stop i).2)]), (g1, (Q.S.cells (⟨(IntKind.wrap .u32 (s.pc + 4)), (Q.up (Q.up s.r 0 0) 0 0), s.f, s.c, (IntKind.wrap .i64 (s.st + 1)), s.du⟩)))]) (by kernel_rfl) ?_
   refine E.tj 0 (Q.S.val (⟨(IntKind.wrap .u32 (s.pc + 4)), (Q.up (Q.up s.r 0 0) 0 0), s.f, s.c, (IntKind.wrap .i64 (s.st + 1)), s.du⟩)) rfl (fun w h => h.less (List.Sublist.cons_cons _ (List.Sublist.cons _ (List.Sublist.cons _ (List.Sublist.refl _))))) (fun w h => E.run_load h 1 rfl rfl (by kernel_rfl)) ?_
   refine E.tj 1 (.agg #[.int .i64 ((Q.stop i).1), .int .u32 ((Q.stop i).2)]) rfl (fun w h => h.less (List.Sublist.cons_cons _ (List.Sublist.cons _ (List.Sublist.cons _ (List.Sublist.refl _))))) (fun w h => E.run_load h 0 rfl rfl (by kernel_rfl)) ?_
   refine E.al 2 rfl ?_
   refine E.st 2 (Q.S.cells (⟨(IntKind.wrap .u32 (s.pc + 4)), (Q.up (Q.up s.r 0 0) 0 0), s.f, s.c, (IntKind.wrap .i64 (s.st + 1)), s.du⟩)) rfl rfl ?_
   refine E.H.back (fun w h => h.less (List.Sublist.cons_cons _ (List.Sublist.cons _ (List.Sublist.cons _ (List.Sublist.refl _))))) ?_
   refine E.al 3 rfl ?_
   refine E.st 1 [.int .i64 ((Q.stop i).1), .int .u32 ((Q.stop i).2)] rfl rfl ?_
   refine E.H.back (fun w h => h.less (List.Sublist.cons_cons _ (List.Sublist.cons _ (List.Sublist.cons _ (List.Sublist.refl _))))) ?_
   refine E.H.done (by kernel_rfl) ?_
   refine E.To.code ?_
   refine E.wk [(4, .pointer (some ⟨g2, 0, none⟩)), (5, .pointer (some ⟨g3, 0, none⟩))] [(g3, [.int .i64 ((Q.stop i).1), .int .u32 ((Q.stop i).2)]), (g2, (Q.S.cells (⟨(IntKind.wrap .u32 (s.pc + 4)), (Q.up (Q.up s.r 0 0) 0 0), s.f, s.c, (IntKind.wrap .i64 (s.st + 1)), s.du⟩)))] (List.Sublist.cons _ (List.Sublist.cons_cons _ (List.Sublist.cons_cons _ (List.nil_sublist _)))) ?_
   refine E.C.ret (E.To.body (fn := Try.f48) [Q.S.val (⟨(IntKind.wrap .u32 (s.pc + 4)), (Q.up (Q.up s.r 0 0) 0 0), s.f, s.c, (IntKind.wrap .i64 (s.st + 1)), s.du⟩), .agg #[.int .i64 ((Q.stop i).1), .int .u32 ((Q.stop i).2)]] ?_ ?_)
   · exact ⟨⟨by kernel_rfl, _, _, 1, _, rfl, rfl, by kernel_rfl⟩, ⟨by kernel_rfl, _, _, 0, _, rfl, rfl, by kernel_rfl⟩, trivial⟩
   intro w h
   have e : (Q.stepI i k t s V) = (⟨(IntKind.wrap .u32 (s.pc + 4)), (Q.up (Q.up s.r 0 0) 0 0), s.f, s.c, (IntKind.wrap .i64 (s.st + 1)), s.du⟩, (Q.stop i).1, (Q.stop i).2, (V.sync ((((Q.up s.r 0 0) ((i.a).toNat))).toNat / 256))) := by unfold Q.stepI; rw [hc6, cond_true, hc7, cond_false, hc14, cond_false, hc15, cond_false, hc19, cond_false, hc24, cond_false, hc27, cond_false, hc29, cond_false, hc31, cond_false, hc33, cond_false, hc35, cond_true, hc37, cond_false] <;> rfl
   rw [e]
   exact ⟨(), trivial, rfl, A.done (q := [M.It m (V.sync ((((Q.up s.r 0 0) ((i.a).toNat))).toNat / 256)) xs]) (r := [A.blk g3 ([.int .i64 ((Q.stop i).1), .int .u32 ((Q.stop i).2)]), A.blk g2 (Q.S.cells (⟨(IntKind.wrap .u32 (s.pc + 4)), (Q.up (Q.up s.r 0 0) 0 0), s.f, s.c, (IntKind.wrap .i64 (s.st + 1)), s.du⟩))]) h (by kernel_rfl) (A.pn [2, 0, 1])⟩
  refine E.sr ?_
  refine E.op (.pointer (some ⟨g4, 0, none⟩)) ?_
  refine E.li (.int .i64 i.op) 2 rfl rfl ?_
  refine E.op (.bool (i.op == 53)) ?_
  refine E.op (.bool (i.op == 53)) ?_
  refine E.To.code ?_
  refine E.wk [(2, .pointer (some ⟨g1, 0, none⟩)), (4, .pointer (some ⟨g2, 0, none⟩)), (5, .pointer (some ⟨g3, 0, none⟩)), (6, .pointer (some ⟨g4, 0, none⟩)), (7, .pointer (some ⟨g5, 0, none⟩)), (8, .pointer (some ⟨g8, 0, none⟩)), (9, .int .u32 ((Q.up s.r 0 0) ((i.d).toNat))), (10, .int .u32 ((Q.up s.r 0 0) ((i.a).toNat))), (12, .int .u32 (IntKind.wrap .u32 (s.pc + 4))), (13, .int .u32 (IntKind.wrap .u32 (s.pc + (IntKind.wrap .u32 (4 * i.imm))))), (188, .bool (i.op == 53))] [(g8, (Q.S.cells s)), (g5, [.int .i64 ((Q.stop i).1), .int .u32 ((Q.stop i).2)]), (g4, [.int .i64 i.op, .int .i64 i.d, .int .i64 i.a, .int .i64 i.b, .int .u32 i.imm]), (g3, [.int .i64 0, .int .u32 0]), (g2, (Q.S.cells Q.z0)), (g1, (Q.S.cells (⟨s.pc, (Q.up s.r 0 0), s.f, s.c, s.st, s.du⟩)))] (List.Sublist.refl _) ?_
  refine E.cd (i.op == 53) (fun hc39 => ?_) (fun hc39 => ?_)
  ·
   refine E.C.held (E.Hp (oo) w (A.X w oo aa [M.It m V xs]) [(g8, (Q.S.cells s)), (g5, [.int .i64 ((Q.stop i).1), .int .u32 ((Q.stop i).2)]), (g4, [.int .i64 i.op, .int .i64 i.d, .int .i64 i.a, .int .i64 i.b, .int .u32 i.imm]), (g3, [.int .i64 0, .int .u32 0]), (g2, (Q.S.cells Q.z0))]) (by kernel_rfl) ?_
   refine E.tk 0 (.pointer (some ⟨g4, 1, none⟩)) rfl (fun w h => h.less (List.Sublist.cons_cons _ (List.Sublist.cons_cons _ (List.Sublist.cons_cons _ (List.Sublist.cons_cons _ (List.Sublist.cons_cons _ (List.nil_sublist _))))))) ?_
   refine E.tj 1 (.int .i64 i.d) rfl (fun w h => h.less (List.Sublist.cons_cons _ (List.Sublist.cons_cons _ (List.Sublist.cons_cons _ (List.Sublist.cons_cons _ (List.Sublist.cons_cons _ (List.nil_sublist _))))))) (fun w h => E.run_load h 2 rfl rfl (by kernel_rfl)) ?_
   refine E.tk 2 (.pointer (some ⟨g4, 4, none⟩)) rfl (fun w h => h.less (List.Sublist.cons_cons _ (List.Sublist.cons_cons _ (List.Sublist.cons_cons _ (List.Sublist.cons_cons _ (List.Sublist.cons_cons _ (List.nil_sublist _))))))) ?_
   refine E.tj 3 (.int .u32 i.imm) rfl (fun w h => h.less (List.Sublist.cons_cons _ (List.Sublist.cons_cons _ (List.Sublist.cons_cons _ (List.Sublist.cons_cons _ (List.Sublist.cons_cons _ (List.nil_sublist _))))))) (fun w h => E.run_load h 2 rfl rfl (by kernel_rfl)) ?_
   refine E.tk 4 (.pointer (some ⟨g1, 18, none⟩)) rfl (fun w h => h.less (List.Sublist.cons_cons _ (List.Sublist.cons_cons _ (List.Sublist.cons_cons _ (List.Sublist.cons_cons _ (List.Sublist.cons_cons _ (List.nil_sublist _))))))) ?_
   refine E.tj 5 (.pointer (some ⟨g1, 18 + (i.imm).toNat, none⟩)) rfl (fun w h => h.less (List.Sublist.cons_cons _ (List.Sublist.cons_cons _ (List.Sublist.cons_cons _ (List.Sublist.cons_cons _ (List.Sublist.cons_cons _ (List.nil_sublist _))))))) (fun w h => E.idxI (e := 22) g1 18 4 .u32 i.imm (by kernel_rfl) (by kernel_rfl) (by kernel_rfl) (by kernel_rfl) (by have := (hi hc6).imm; have := (hi hc6).get hc39; omega) w) ?_
   refine E.tk 7 (.pointer (some ⟨g1, 1, none⟩)) rfl (fun w h => h.less (List.Sublist.cons_cons _ (List.Sublist.cons_cons _ (List.Sublist.cons_cons _ (List.Sublist.cons_cons _ (List.Sublist.cons_cons _ (List.nil_sublist _))))))) ?_
   refine E.al 6 rfl ?_
   refine E.vl (.int .u32 (s.c ((i.imm).toNat))) (fun w h => E.run_load h 5 rfl rfl (Q.ld_c (by kernel_rfl) (by have := (by have := (hi hc6).imm; have := (hi hc6).get hc39; omega); omega))) ?_
   refine E.H.back (fun w h => h.less (List.Sublist.cons_cons _ (List.Sublist.cons_cons _ (List.Sublist.cons_cons _ (List.Sublist.cons_cons _ (List.Sublist.cons_cons _ (List.nil_sublist _))))))) ?_
   refine E.tj 8 (.pointer (some ⟨g1, 1 + (i.d).toNat, none⟩)) rfl (fun w h => h.less (List.Sublist.cons_cons _ (List.Sublist.cons_cons _ (List.Sublist.cons_cons _ (List.Sublist.cons_cons _ (List.Sublist.cons_cons _ (List.nil_sublist _))))))) (fun w h => E.idxI (e := 22) g1 1 16 .i64 i.d (by kernel_rfl) (by kernel_rfl) (by kernel_rfl) (by kernel_rfl) (by have := (hi hc6).d; omega) w) ?_
   refine E.al 9 rfl ?_
   refine E.G.store 5 (Q.S.cells (⟨s.pc, (Q.up (Q.up s.r 0 0) (i.d).toNat (s.c ((i.imm).toNat))), s.f, s.c, s.st, s.du⟩)) rfl rfl (Q.sto_r (s := ⟨s.pc, (Q.up s.r 0 0), s.f, s.c, s.st, s.du⟩) (by kernel_rfl) (by have := (by have := (hi hc6).d; omega); omega)) (by kernel_rfl) ?_
   refine E.H.back (fun w h => h.less (List.Sublist.cons_cons _ (List.Sublist.cons_cons _ (List.Sublist.cons_cons _ (List.Sublist.cons_cons _ (List.Sublist.cons_cons _ (List.nil_sublist _))))))) ?_
   refine E.H.done (by kernel_rfl) ?_
   refine E.P.nb (E.To.code ?_)
   refine E.wk [(2, .pointer (some ⟨g1, 0, none⟩)), (4, .pointer (some ⟨g2, 0, none⟩)), (5, .pointer (some ⟨g3, 0, none⟩)), (7, .pointer (some ⟨g5, 0, none⟩)), (8, .pointer (some ⟨g8, 0, none⟩)), (12, .int .u32 (IntKind.wrap .u32 (s.pc + 4)))] [(g8, (Q.S.cells s)), (g5, [.int .i64 ((Q.stop i).1), .int .u32 ((Q.stop i).2)]), (g3, [.int .i64 0, .int .u32 0]), (g2, (Q.S.cells Q.z0)), (g1, (Q.S.cells (⟨s.pc, (Q.up (Q.up s.r 0 0) (i.d).toNat (s.c ((i.imm).toNat))), s.f, s.c, s.st, s.du⟩)))] (List.Sublist.cons_cons _ (List.Sublist.cons_cons _ (List.Sublist.cons _ (List.Sublist.refl _)))) ?_
   refine E.C.seq ?_
   refine E.sr ?_
   refine E.op (.pointer (some ⟨g5, 0, none⟩)) ?_
   refine E.li (.int .i64 ((Q.stop i).1)) 1 rfl rfl ?_
   refine E.op (.bool (((Q.stop i).1) != 0)) ?_
   refine E.To.code ?_
   refine E.cd (((Q.stop i).1) != 0) (fun hc40 => absurd (hc7.symm.trans hc40) (by decide)) (fun hc40 => ?_)
   refine E.C.skip (E.To.code ?_)
   refine E.sr ?_
   refine E.op (.pointer (some ⟨g1, 1, none⟩)) ?_
   refine E.op (.pointer (some ⟨g1, 1, none⟩)) ?_
   refine E.st 4 (Q.S.cells (⟨s.pc, (Q.up (Q.up (Q.up s.r 0 0) (i.d).toNat (s.c ((i.imm).toNat))) 0 0), s.f, s.c, s.st, s.du⟩)) rfl rfl ?_
   refine E.tr ?_
   refine E.op (.int .u32 (IntKind.wrap .u32 (s.pc + 4))) ?_
   refine E.op (.pointer (some ⟨g1, 0, none⟩)) ?_
   refine E.st 4 (Q.S.cells (⟨(IntKind.wrap .u32 (s.pc + 4)), (Q.up (Q.up (Q.up s.r 0 0) (i.d).toNat (s.c ((i.imm).toNat))) 0 0), s.f, s.c, s.st, s.du⟩)) rfl rfl ?_
   refine E.To.code ?_
   refine E.wk [(2, .pointer (some ⟨g1, 0, none⟩)), (4, .pointer (some ⟨g2, 0, none⟩)), (5, .pointer (some ⟨g3, 0, none⟩)), (7, .pointer (some ⟨g5, 0, none⟩))] [(g5, [.int .i64 ((Q.stop i).1), .int .u32 ((Q.stop i).2)]), (g3, [.int .i64 0, .int .u32 0]), (g2, (Q.S.cells Q.z0)), (g1, (Q.S.cells (⟨(IntKind.wrap .u32 (s.pc + 4)), (Q.up (Q.up (Q.up s.r 0 0) (i.d).toNat (s.c ((i.imm).toNat))) 0 0), s.f, s.c, s.st, s.du⟩)))] (List.Sublist.cons _ (List.Sublist.refl _)) ?_
   refine E.sr ?_
   refine E.op (.pointer (some ⟨g1, 22, none⟩)) ?_
   refine E.li (.int .i64 s.st) 3 rfl rfl ?_
   refine E.op (.int .i64 (IntKind.wrap .i64 (s.st + 1))) ?_
   refine E.op (.pointer (some ⟨g1, 22, none⟩)) ?_
   refine E.st 3 (Q.S.cells (⟨(IntKind.wrap .u32 (s.pc + 4)), (Q.up (Q.up (Q.up s.r 0 0) (i.d).toNat (s.c ((i.imm).toNat))) 0 0), s.f, s.c, (IntKind.wrap .i64 (s.st + 1)), s.du⟩)) rfl rfl ?_
   refine E.To.code ?_
   refine E.C.seq ?_
   refine E.C.held (E.Hp (oo) w (A.X w oo aa [M.It m V xs]) [(g5, [.int .i64 ((Q.stop i).1), .int .u32 ((Q.stop i).2)]), (g1, (Q.S.cells (⟨(IntKind.wrap .u32 (s.pc + 4)), (Q.up (Q.up (Q.up s.r 0 0) (i.d).toNat (s.c ((i.imm).toNat))) 0 0), s.f, s.c, (IntKind.wrap .i64 (s.st + 1)), s.du⟩)))]) (by kernel_rfl) ?_
   refine E.tj 0 (Q.S.val (⟨(IntKind.wrap .u32 (s.pc + 4)), (Q.up (Q.up (Q.up s.r 0 0) (i.d).toNat (s.c ((i.imm).toNat))) 0 0), s.f, s.c, (IntKind.wrap .i64 (s.st + 1)), s.du⟩)) rfl (fun w h => h.less (List.Sublist.cons_cons _ (List.Sublist.cons _ (List.Sublist.cons _ (List.Sublist.refl _))))) (fun w h => E.run_load h 1 rfl rfl (by kernel_rfl)) ?_
   refine E.tj 1 (.agg #[.int .i64 ((Q.stop i).1), .int .u32 ((Q.stop i).2)]) rfl (fun w h => h.less (List.Sublist.cons_cons _ (List.Sublist.cons _ (List.Sublist.cons _ (List.Sublist.refl _))))) (fun w h => E.run_load h 0 rfl rfl (by kernel_rfl)) ?_
   refine E.al 2 rfl ?_
   refine E.st 2 (Q.S.cells (⟨(IntKind.wrap .u32 (s.pc + 4)), (Q.up (Q.up (Q.up s.r 0 0) (i.d).toNat (s.c ((i.imm).toNat))) 0 0), s.f, s.c, (IntKind.wrap .i64 (s.st + 1)), s.du⟩)) rfl rfl ?_
   refine E.H.back (fun w h => h.less (List.Sublist.cons_cons _ (List.Sublist.cons _ (List.Sublist.cons _ (List.Sublist.refl _))))) ?_
   refine E.al 3 rfl ?_
   refine E.st 1 [.int .i64 ((Q.stop i).1), .int .u32 ((Q.stop i).2)] rfl rfl ?_
   refine E.H.back (fun w h => h.less (List.Sublist.cons_cons _ (List.Sublist.cons _ (List.Sublist.cons _ (List.Sublist.refl _))))) ?_
   refine E.H.done (by kernel_rfl) ?_
   refine E.To.code ?_
   refine E.wk [(4, .pointer (some ⟨g2, 0, none⟩)), (5, .pointer (some ⟨g3, 0, none⟩))] [(g3, [.int .i64 ((Q.stop i).1), .int .u32 ((Q.stop i).2)]), (g2, (Q.S.cells (⟨(IntKind.wrap .u32 (s.pc + 4)), (Q.up (Q.up (Q.up s.r 0 0) (i.d).toNat (s.c ((i.imm).toNat))) 0 0), s.f, s.c, (IntKind.wrap .i64 (s.st + 1)), s.du⟩)))] (List.Sublist.cons _ (List.Sublist.cons_cons _ (List.Sublist.cons_cons _ (List.nil_sublist _)))) ?_
   refine E.C.ret (E.To.body (fn := Try.f48) [Q.S.val (⟨(IntKind.wrap .u32 (s.pc + 4)), (Q.up (Q.up (Q.up s.r 0 0) (i.d).toNat (s.c ((i.imm).toNat))) 0 0), s.f, s.c, (IntKind.wrap .i64 (s.st + 1)), s.du⟩), .agg #[.int .i64 ((Q.stop i).1), .int .u32 ((Q.stop i).2)]] ?_ ?_)
   · exact ⟨⟨by kernel_rfl, _, _, 1, _, rfl, rfl, by kernel_rfl⟩, ⟨by kernel_rfl, _, _, 0, _, rfl, rfl, by kernel_rfl⟩, trivial⟩
   intro w h
   have e : (Q.stepI i k t s V) = (⟨(IntKind.wrap .u32 (s.pc + 4)), (Q.up (Q.up (Q.up s.r 0 0) (i.d).toNat (s.c ((i.imm).toNat))) 0 0), s.f, s.c, (IntKind.wrap .i64 (s.st + 1)), s.du⟩, (Q.stop i).1, (Q.stop i).2, V) := by unfold Q.stepI; rw [hc6, cond_true, hc7, cond_false, hc14, cond_false, hc15, cond_false, hc19, cond_false, hc24, cond_false, hc27, cond_false, hc29, cond_false, hc31, cond_false, hc33, cond_false, hc35, cond_false, hc39, cond_true] <;> rfl
   rw [e]
   exact ⟨(), trivial, rfl, A.done (q := [M.It m V xs]) (r := [A.blk g3 ([.int .i64 ((Q.stop i).1), .int .u32 ((Q.stop i).2)]), A.blk g2 (Q.S.cells (⟨(IntKind.wrap .u32 (s.pc + 4)), (Q.up (Q.up (Q.up s.r 0 0) (i.d).toNat (s.c ((i.imm).toNat))) 0 0), s.f, s.c, (IntKind.wrap .i64 (s.st + 1)), s.du⟩))]) h (by kernel_rfl) (A.pn [2, 0, 1])⟩
  refine E.sr ?_
  refine E.op (.pointer (some ⟨g4, 0, none⟩)) ?_
  refine E.li (.int .i64 i.op) 2 rfl rfl ?_
  refine E.op (.bool (i.op == 54)) ?_
  refine E.op (.bool (i.op == 54)) ?_
  refine E.To.code ?_
  refine E.cd (i.op == 54) (fun hc41 => ?_) (fun hc41 => ?_)
  ·
   refine E.C.region ?_
   refine E.op (.pointer (some ⟨g4, 4, none⟩)) ?_
   refine E.li (.int .u32 i.imm) 2 rfl rfl ?_
   refine E.op (.int .u32 ((Q.up s.r 0 0) ((i.a).toNat))) ?_
   refine A.G.call (I := Unit) (D := fun _ => True) (V := fun _ => .tuple #[]) (q := fun _ => [A.blk g1 (Q.S.cells (Q.ctl (⟨s.pc, (Q.up s.r 0 0), s.f, s.c, s.st, s.du⟩ : Q.S) i.imm ((Q.up s.r 0 0) ((i.a).toNat))))]) [A.blk g8 (Q.S.cells s), A.blk g5 ([.int .i64 ((Q.stop i).1), .int .u32 ((Q.stop i).2)]), A.blk g4 ([.int .i64 i.op, .int .i64 i.d, .int .i64 i.a, .int .i64 i.b, .int .u32 i.imm]), A.blk g3 ([.int .i64 0, .int .u32 0]), A.blk g2 (Q.S.cells Q.z0), M.It m V xs] (fun _ => [(g1, (Q.S.cells (Q.ctl (⟨s.pc, (Q.up s.r 0 0), s.f, s.c, s.st, s.du⟩ : Q.S) i.imm ((Q.up s.r 0 0) ((i.a).toNat))))), (g8, (Q.S.cells s)), (g5, [.int .i64 ((Q.stop i).1), .int .u32 ((Q.stop i).2)]), (g4, [.int .i64 i.op, .int .i64 i.d, .int .i64 i.a, .int .i64 i.b, .int .u32 i.imm]), (g3, [.int .i64 0, .int .u32 0]), (g2, (Q.S.cells Q.z0))]) (fun _ => [M.It m V xs]) (Control (g := g1) (⟨s.pc, (Q.up s.r 0 0), s.f, s.c, s.st, s.du⟩) i.imm ((Q.up s.r 0 0) ((i.a).toNat)) (hi hc6).imm) (by kernel_rfl) (A.pn [5, 0, 1, 2, 3, 4, 6]) (fun _ => A.pm [0, 1, 2, 3, 4, 5, 6] (by kernel_rfl) (by kernel_rfl)) (fun w _ => by kernel_rfl) (by kernel_rfl) (fun _ hd42 => ?_)
   refine E.P.nb (E.To.code ?_)
   refine E.wk [(2, .pointer (some ⟨g1, 0, none⟩)), (4, .pointer (some ⟨g2, 0, none⟩)), (5, .pointer (some ⟨g3, 0, none⟩)), (7, .pointer (some ⟨g5, 0, none⟩)), (8, .pointer (some ⟨g8, 0, none⟩)), (12, .int .u32 (IntKind.wrap .u32 (s.pc + 4)))] [(g1, (Q.S.cells (Q.ctl (⟨s.pc, (Q.up s.r 0 0), s.f, s.c, s.st, s.du⟩ : Q.S) i.imm ((Q.up s.r 0 0) ((i.a).toNat))))), (g8, (Q.S.cells s)), (g5, [.int .i64 ((Q.stop i).1), .int .u32 ((Q.stop i).2)]), (g3, [.int .i64 0, .int .u32 0]), (g2, (Q.S.cells Q.z0))] (List.Sublist.cons_cons _ (List.Sublist.cons_cons _ (List.Sublist.cons_cons _ (List.Sublist.cons _ (List.Sublist.refl _))))) ?_
   refine E.C.seq ?_
   refine E.sr ?_
   refine E.op (.pointer (some ⟨g5, 0, none⟩)) ?_
   refine E.li (.int .i64 ((Q.stop i).1)) 2 rfl rfl ?_
   refine E.op (.bool (((Q.stop i).1) != 0)) ?_
   refine E.To.code ?_
   refine E.cd (((Q.stop i).1) != 0) (fun hc43 => absurd (hc7.symm.trans hc43) (by decide)) (fun hc43 => ?_)
   refine E.C.skip (E.To.code ?_)
   refine E.sr ?_
   refine E.op (.pointer (some ⟨g1, 1, none⟩)) ?_
   refine E.op (.pointer (some ⟨g1, 1, none⟩)) ?_
   refine E.st 0 (Q.S.cells (⟨(Q.ctl (⟨s.pc, (Q.up s.r 0 0), s.f, s.c, s.st, s.du⟩ : Q.S) i.imm ((Q.up s.r 0 0) ((i.a).toNat))).pc, (Q.up ((Q.ctl (⟨s.pc, (Q.up s.r 0 0), s.f, s.c, s.st, s.du⟩ : Q.S) i.imm ((Q.up s.r 0 0) ((i.a).toNat))).r) 0 0), (Q.ctl (⟨s.pc, (Q.up s.r 0 0), s.f, s.c, s.st, s.du⟩ : Q.S) i.imm ((Q.up s.r 0 0) ((i.a).toNat))).f, (Q.ctl (⟨s.pc, (Q.up s.r 0 0), s.f, s.c, s.st, s.du⟩ : Q.S) i.imm ((Q.up s.r 0 0) ((i.a).toNat))).c, (Q.ctl (⟨s.pc, (Q.up s.r 0 0), s.f, s.c, s.st, s.du⟩ : Q.S) i.imm ((Q.up s.r 0 0) ((i.a).toNat))).st, (Q.ctl (⟨s.pc, (Q.up s.r 0 0), s.f, s.c, s.st, s.du⟩ : Q.S) i.imm ((Q.up s.r 0 0) ((i.a).toNat))).du⟩)) rfl rfl ?_
   refine E.tr ?_
   refine E.op (.int .u32 (IntKind.wrap .u32 (s.pc + 4))) ?_
   refine E.op (.pointer (some ⟨g1, 0, none⟩)) ?_
   refine E.st 0 (Q.S.cells (⟨(IntKind.wrap .u32 (s.pc + 4)), (Q.up ((Q.ctl (⟨s.pc, (Q.up s.r 0 0), s.f, s.c, s.st, s.du⟩ : Q.S) i.imm ((Q.up s.r 0 0) ((i.a).toNat))).r) 0 0), (Q.ctl (⟨s.pc, (Q.up s.r 0 0), s.f, s.c, s.st, s.du⟩ : Q.S) i.imm ((Q.up s.r 0 0) ((i.a).toNat))).f, (Q.ctl (⟨s.pc, (Q.up s.r 0 0), s.f, s.c, s.st, s.du⟩ : Q.S) i.imm ((Q.up s.r 0 0) ((i.a).toNat))).c, (Q.ctl (⟨s.pc, (Q.up s.r 0 0), s.f, s.c, s.st, s.du⟩ : Q.S) i.imm ((Q.up s.r 0 0) ((i.a).toNat))).st, (Q.ctl (⟨s.pc, (Q.up s.r 0 0), s.f, s.c, s.st, s.du⟩ : Q.S) i.imm ((Q.up s.r 0 0) ((i.a).toNat))).du⟩)) rfl rfl ?_
   refine E.To.code ?_
   refine E.wk [(2, .pointer (some ⟨g1, 0, none⟩)), (4, .pointer (some ⟨g2, 0, none⟩)), (5, .pointer (some ⟨g3, 0, none⟩)), (7, .pointer (some ⟨g5, 0, none⟩))] [(g1, (Q.S.cells (⟨(IntKind.wrap .u32 (s.pc + 4)), (Q.up ((Q.ctl (⟨s.pc, (Q.up s.r 0 0), s.f, s.c, s.st, s.du⟩ : Q.S) i.imm ((Q.up s.r 0 0) ((i.a).toNat))).r) 0 0), (Q.ctl (⟨s.pc, (Q.up s.r 0 0), s.f, s.c, s.st, s.du⟩ : Q.S) i.imm ((Q.up s.r 0 0) ((i.a).toNat))).f, (Q.ctl (⟨s.pc, (Q.up s.r 0 0), s.f, s.c, s.st, s.du⟩ : Q.S) i.imm ((Q.up s.r 0 0) ((i.a).toNat))).c, (Q.ctl (⟨s.pc, (Q.up s.r 0 0), s.f, s.c, s.st, s.du⟩ : Q.S) i.imm ((Q.up s.r 0 0) ((i.a).toNat))).st, (Q.ctl (⟨s.pc, (Q.up s.r 0 0), s.f, s.c, s.st, s.du⟩ : Q.S) i.imm ((Q.up s.r 0 0) ((i.a).toNat))).du⟩))), (g5, [.int .i64 ((Q.stop i).1), .int .u32 ((Q.stop i).2)]), (g3, [.int .i64 0, .int .u32 0]), (g2, (Q.S.cells Q.z0))] (List.Sublist.cons_cons _ (List.Sublist.cons _ (List.Sublist.refl _))) ?_
   refine E.sr ?_
   refine E.op (.pointer (some ⟨g1, 22, none⟩)) ?_
   refine E.li (.int .i64 ((Q.ctl (⟨s.pc, (Q.up s.r 0 0), s.f, s.c, s.st, s.du⟩ : Q.S) i.imm ((Q.up s.r 0 0) ((i.a).toNat))).st)) 0 rfl rfl ?_
   refine E.op (.int .i64 (IntKind.wrap .i64 (((Q.ctl (⟨s.pc, (Q.up s.r 0 0), s.f, s.c, s.st, s.du⟩ : Q.S) i.imm ((Q.up s.r 0 0) ((i.a).toNat))).st) + 1))) ?_
   refine E.op (.pointer (some ⟨g1, 22, none⟩)) ?_
   refine E.st 0 (Q.S.cells (⟨(IntKind.wrap .u32 (s.pc + 4)), (Q.up ((Q.ctl (⟨s.pc, (Q.up s.r 0 0), s.f, s.c, s.st, s.du⟩ : Q.S) i.imm ((Q.up s.r 0 0) ((i.a).toNat))).r) 0 0), (Q.ctl (⟨s.pc, (Q.up s.r 0 0), s.f, s.c, s.st, s.du⟩ : Q.S) i.imm ((Q.up s.r 0 0) ((i.a).toNat))).f, (Q.ctl (⟨s.pc, (Q.up s.r 0 0), s.f, s.c, s.st, s.du⟩ : Q.S) i.imm ((Q.up s.r 0 0) ((i.a).toNat))).c, (IntKind.wrap .i64 (((Q.ctl (⟨s.pc, (Q.up s.r 0 0), s.f, s.c, s.st, s.du⟩ : Q.S) i.imm ((Q.up s.r 0 0) ((i.a).toNat))).st) + 1)), (Q.ctl (⟨s.pc, (Q.up s.r 0 0), s.f, s.c, s.st, s.du⟩ : Q.S) i.imm ((Q.up s.r 0 0) ((i.a).toNat))).du⟩)) rfl rfl ?_
   refine E.To.code ?_
   refine E.C.seq ?_
   refine E.C.held (E.Hp (oo) w (A.X w oo aa [M.It m V xs]) [(g1, (Q.S.cells (⟨(IntKind.wrap .u32 (s.pc + 4)), (Q.up ((Q.ctl (⟨s.pc, (Q.up s.r 0 0), s.f, s.c, s.st, s.du⟩ : Q.S) i.imm ((Q.up s.r 0 0) ((i.a).toNat))).r) 0 0), (Q.ctl (⟨s.pc, (Q.up s.r 0 0), s.f, s.c, s.st, s.du⟩ : Q.S) i.imm ((Q.up s.r 0 0) ((i.a).toNat))).f, (Q.ctl (⟨s.pc, (Q.up s.r 0 0), s.f, s.c, s.st, s.du⟩ : Q.S) i.imm ((Q.up s.r 0 0) ((i.a).toNat))).c, (IntKind.wrap .i64 (((Q.ctl (⟨s.pc, (Q.up s.r 0 0), s.f, s.c, s.st, s.du⟩ : Q.S) i.imm ((Q.up s.r 0 0) ((i.a).toNat))).st) + 1)), (Q.ctl (⟨s.pc, (Q.up s.r 0 0), s.f, s.c, s.st, s.du⟩ : Q.S) i.imm ((Q.up s.r 0 0) ((i.a).toNat))).du⟩))), (g5, [.int .i64 ((Q.stop i).1), .int .u32 ((Q.stop i).2)])]) (by kernel_rfl) ?_
   refine E.tj 0 (Q.S.val (⟨(IntKind.wrap .u32 (s.pc + 4)), (Q.up ((Q.ctl (⟨s.pc, (Q.up s.r 0 0), s.f, s.c, s.st, s.du⟩ : Q.S) i.imm ((Q.up s.r 0 0) ((i.a).toNat))).r) 0 0), (Q.ctl (⟨s.pc, (Q.up s.r 0 0), s.f, s.c, s.st, s.du⟩ : Q.S) i.imm ((Q.up s.r 0 0) ((i.a).toNat))).f, (Q.ctl (⟨s.pc, (Q.up s.r 0 0), s.f, s.c, s.st, s.du⟩ : Q.S) i.imm ((Q.up s.r 0 0) ((i.a).toNat))).c, (IntKind.wrap .i64 (((Q.ctl (⟨s.pc, (Q.up s.r 0 0), s.f, s.c, s.st, s.du⟩ : Q.S) i.imm ((Q.up s.r 0 0) ((i.a).toNat))).st) + 1)), (Q.ctl (⟨s.pc, (Q.up s.r 0 0), s.f, s.c, s.st, s.du⟩ : Q.S) i.imm ((Q.up s.r 0 0) ((i.a).toNat))).du⟩)) rfl (fun w h => h.less (List.Sublist.cons_cons _ (List.Sublist.cons_cons _ (List.nil_sublist _)))) (fun w h => E.run_load h 0 rfl rfl (by kernel_rfl)) ?_
   refine E.tj 1 (.agg #[.int .i64 ((Q.stop i).1), .int .u32 ((Q.stop i).2)]) rfl (fun w h => h.less (List.Sublist.cons_cons _ (List.Sublist.cons_cons _ (List.nil_sublist _)))) (fun w h => E.run_load h 1 rfl rfl (by kernel_rfl)) ?_
   refine E.al 2 rfl ?_
   refine E.st 3 (Q.S.cells (⟨(IntKind.wrap .u32 (s.pc + 4)), (Q.up ((Q.ctl (⟨s.pc, (Q.up s.r 0 0), s.f, s.c, s.st, s.du⟩ : Q.S) i.imm ((Q.up s.r 0 0) ((i.a).toNat))).r) 0 0), (Q.ctl (⟨s.pc, (Q.up s.r 0 0), s.f, s.c, s.st, s.du⟩ : Q.S) i.imm ((Q.up s.r 0 0) ((i.a).toNat))).f, (Q.ctl (⟨s.pc, (Q.up s.r 0 0), s.f, s.c, s.st, s.du⟩ : Q.S) i.imm ((Q.up s.r 0 0) ((i.a).toNat))).c, (IntKind.wrap .i64 (((Q.ctl (⟨s.pc, (Q.up s.r 0 0), s.f, s.c, s.st, s.du⟩ : Q.S) i.imm ((Q.up s.r 0 0) ((i.a).toNat))).st) + 1)), (Q.ctl (⟨s.pc, (Q.up s.r 0 0), s.f, s.c, s.st, s.du⟩ : Q.S) i.imm ((Q.up s.r 0 0) ((i.a).toNat))).du⟩)) rfl rfl ?_
   refine E.H.back (fun w h => h.less (List.Sublist.cons_cons _ (List.Sublist.cons_cons _ (List.nil_sublist _)))) ?_
   refine E.al 3 rfl ?_
   refine E.st 2 [.int .i64 ((Q.stop i).1), .int .u32 ((Q.stop i).2)] rfl rfl ?_
   refine E.H.back (fun w h => h.less (List.Sublist.cons_cons _ (List.Sublist.cons_cons _ (List.nil_sublist _)))) ?_
   refine E.H.done (by kernel_rfl) ?_
   refine E.To.code ?_
   refine E.wk [(4, .pointer (some ⟨g2, 0, none⟩)), (5, .pointer (some ⟨g3, 0, none⟩))] [(g3, [.int .i64 ((Q.stop i).1), .int .u32 ((Q.stop i).2)]), (g2, (Q.S.cells (⟨(IntKind.wrap .u32 (s.pc + 4)), (Q.up ((Q.ctl (⟨s.pc, (Q.up s.r 0 0), s.f, s.c, s.st, s.du⟩ : Q.S) i.imm ((Q.up s.r 0 0) ((i.a).toNat))).r) 0 0), (Q.ctl (⟨s.pc, (Q.up s.r 0 0), s.f, s.c, s.st, s.du⟩ : Q.S) i.imm ((Q.up s.r 0 0) ((i.a).toNat))).f, (Q.ctl (⟨s.pc, (Q.up s.r 0 0), s.f, s.c, s.st, s.du⟩ : Q.S) i.imm ((Q.up s.r 0 0) ((i.a).toNat))).c, (IntKind.wrap .i64 (((Q.ctl (⟨s.pc, (Q.up s.r 0 0), s.f, s.c, s.st, s.du⟩ : Q.S) i.imm ((Q.up s.r 0 0) ((i.a).toNat))).st) + 1)), (Q.ctl (⟨s.pc, (Q.up s.r 0 0), s.f, s.c, s.st, s.du⟩ : Q.S) i.imm ((Q.up s.r 0 0) ((i.a).toNat))).du⟩)))] (List.Sublist.cons _ (List.Sublist.cons _ (List.Sublist.refl _))) ?_
   refine E.C.ret (E.To.body (fn := Try.f48) [Q.S.val (⟨(IntKind.wrap .u32 (s.pc + 4)), (Q.up ((Q.ctl (⟨s.pc, (Q.up s.r 0 0), s.f, s.c, s.st, s.du⟩ : Q.S) i.imm ((Q.up s.r 0 0) ((i.a).toNat))).r) 0 0), (Q.ctl (⟨s.pc, (Q.up s.r 0 0), s.f, s.c, s.st, s.du⟩ : Q.S) i.imm ((Q.up s.r 0 0) ((i.a).toNat))).f, (Q.ctl (⟨s.pc, (Q.up s.r 0 0), s.f, s.c, s.st, s.du⟩ : Q.S) i.imm ((Q.up s.r 0 0) ((i.a).toNat))).c, (IntKind.wrap .i64 (((Q.ctl (⟨s.pc, (Q.up s.r 0 0), s.f, s.c, s.st, s.du⟩ : Q.S) i.imm ((Q.up s.r 0 0) ((i.a).toNat))).st) + 1)), (Q.ctl (⟨s.pc, (Q.up s.r 0 0), s.f, s.c, s.st, s.du⟩ : Q.S) i.imm ((Q.up s.r 0 0) ((i.a).toNat))).du⟩), .agg #[.int .i64 ((Q.stop i).1), .int .u32 ((Q.stop i).2)]] ?_ ?_)
   · exact ⟨⟨by kernel_rfl, _, _, 1, _, rfl, rfl, by kernel_rfl⟩, ⟨by kernel_rfl, _, _, 0, _, rfl, rfl, by kernel_rfl⟩, trivial⟩
   intro w h
   have e : (Q.stepI i k t s V) = (⟨(IntKind.wrap .u32 (s.pc + 4)), (Q.up ((Q.ctl (⟨s.pc, (Q.up s.r 0 0), s.f, s.c, s.st, s.du⟩ : Q.S) i.imm ((Q.up s.r 0 0) ((i.a).toNat))).r) 0 0), (Q.ctl (⟨s.pc, (Q.up s.r 0 0), s.f, s.c, s.st, s.du⟩ : Q.S) i.imm ((Q.up s.r 0 0) ((i.a).toNat))).f, (Q.ctl (⟨s.pc, (Q.up s.r 0 0), s.f, s.c, s.st, s.du⟩ : Q.S) i.imm ((Q.up s.r 0 0) ((i.a).toNat))).c, (IntKind.wrap .i64 (((Q.ctl (⟨s.pc, (Q.up s.r 0 0), s.f, s.c, s.st, s.du⟩ : Q.S) i.imm ((Q.up s.r 0 0) ((i.a).toNat))).st) + 1)), (Q.ctl (⟨s.pc, (Q.up s.r 0 0), s.f, s.c, s.st, s.du⟩ : Q.S) i.imm ((Q.up s.r 0 0) ((i.a).toNat))).du⟩, (Q.stop i).1, (Q.stop i).2, V) := by unfold Q.stepI; rw [hc6, cond_true, hc7, cond_false, hc14, cond_false, hc15, cond_false, hc19, cond_false, hc24, cond_false, hc27, cond_false, hc29, cond_false, hc31, cond_false, hc33, cond_false, hc35, cond_false, hc39, cond_false, hc41, cond_true] <;> rfl
   rw [e]
   exact ⟨(), trivial, rfl, A.done (q := [M.It m V xs]) (r := [A.blk g3 ([.int .i64 ((Q.stop i).1), .int .u32 ((Q.stop i).2)]), A.blk g2 (Q.S.cells (⟨(IntKind.wrap .u32 (s.pc + 4)), (Q.up ((Q.ctl (⟨s.pc, (Q.up s.r 0 0), s.f, s.c, s.st, s.du⟩ : Q.S) i.imm ((Q.up s.r 0 0) ((i.a).toNat))).r) 0 0), (Q.ctl (⟨s.pc, (Q.up s.r 0 0), s.f, s.c, s.st, s.du⟩ : Q.S) i.imm ((Q.up s.r 0 0) ((i.a).toNat))).f, (Q.ctl (⟨s.pc, (Q.up s.r 0 0), s.f, s.c, s.st, s.du⟩ : Q.S) i.imm ((Q.up s.r 0 0) ((i.a).toNat))).c, (IntKind.wrap .i64 (((Q.ctl (⟨s.pc, (Q.up s.r 0 0), s.f, s.c, s.st, s.du⟩ : Q.S) i.imm ((Q.up s.r 0 0) ((i.a).toNat))).st) + 1)), (Q.ctl (⟨s.pc, (Q.up s.r 0 0), s.f, s.c, s.st, s.du⟩ : Q.S) i.imm ((Q.up s.r 0 0) ((i.a).toNat))).du⟩))]) h (by kernel_rfl) (A.pn [2, 0, 1])⟩
  refine E.sr ?_
  refine E.op (.pointer (some ⟨g4, 0, none⟩)) ?_
  refine E.li (.int .i64 i.op) 2 rfl rfl ?_
  refine E.op (.int .u32 ((Q.up s.r 0 0) ((i.d).toNat))) ?_
  refine E.op (.int .u32 ((Q.up s.r 0 0) ((i.a).toNat))) ?_
  refine E.G.call (.bool (Q.taken i.op ((Q.up s.r 0 0) ((i.d).toNat)) ((Q.up s.r 0 0) ((i.a).toNat)))) (fun w h => taken_any i.op ((Q.up s.r 0 0) ((i.d).toNat)) ((Q.up s.r 0 0) ((i.a).toNat)) (Q.up_bd hs.r (by decide) _) (Q.up_bd hs.r (by decide) _) w) (fun w _ => by kernel_rfl) (by kernel_rfl) ?_
  refine E.op (.bool (Q.taken i.op ((Q.up s.r 0 0) ((i.d).toNat)) ((Q.up s.r 0 0) ((i.a).toNat)))) ?_
  refine E.To.code ?_
  refine E.wk [(2, .pointer (some ⟨g1, 0, none⟩)), (4, .pointer (some ⟨g2, 0, none⟩)), (5, .pointer (some ⟨g3, 0, none⟩)), (7, .pointer (some ⟨g5, 0, none⟩)), (8, .pointer (some ⟨g8, 0, none⟩)), (12, .int .u32 (IntKind.wrap .u32 (s.pc + 4))), (13, .int .u32 (IntKind.wrap .u32 (s.pc + (IntKind.wrap .u32 (4 * i.imm))))), (209, .bool (Q.taken i.op ((Q.up s.r 0 0) ((i.d).toNat)) ((Q.up s.r 0 0) ((i.a).toNat))))] [(g8, (Q.S.cells s)), (g5, [.int .i64 ((Q.stop i).1), .int .u32 ((Q.stop i).2)]), (g3, [.int .i64 0, .int .u32 0]), (g2, (Q.S.cells Q.z0)), (g1, (Q.S.cells (⟨s.pc, (Q.up s.r 0 0), s.f, s.c, s.st, s.du⟩)))] (List.Sublist.cons_cons _ (List.Sublist.cons_cons _ (List.Sublist.cons _ (List.Sublist.refl _)))) ?_
  refine E.cd (Q.taken i.op ((Q.up s.r 0 0) ((i.d).toNat)) ((Q.up s.r 0 0) ((i.a).toNat))) (fun hc44 => ?_) (fun hc44 => ?_)
  ·
   refine E.C.region ?_
   refine E.op (.int .u32 (IntKind.wrap .u32 (s.pc + (IntKind.wrap .u32 (4 * i.imm))))) ?_
   refine E.op (.int .u32 (IntKind.wrap .u32 (s.pc + (IntKind.wrap .u32 (4 * i.imm))))) ?_
   refine E.P.nb (E.To.code ?_)
   refine E.C.seq ?_
   refine E.sr ?_
   refine E.op (.pointer (some ⟨g5, 0, none⟩)) ?_
   refine E.li (.int .i64 ((Q.stop i).1)) 1 rfl rfl ?_
   refine E.op (.bool (((Q.stop i).1) != 0)) ?_
   refine E.To.code ?_
   refine E.cd (((Q.stop i).1) != 0) (fun hc45 => absurd (hc7.symm.trans hc45) (by decide)) (fun hc45 => ?_)
   refine E.C.skip (E.To.code ?_)
   refine E.sr ?_
   refine E.op (.pointer (some ⟨g1, 1, none⟩)) ?_
   refine E.op (.pointer (some ⟨g1, 1, none⟩)) ?_
   refine E.st 4 (Q.S.cells (⟨s.pc, (Q.up (Q.up s.r 0 0) 0 0), s.f, s.c, s.st, s.du⟩)) rfl rfl ?_
   refine E.To.code ?_
   refine E.wk [(2, .pointer (some ⟨g1, 0, none⟩)), (4, .pointer (some ⟨g2, 0, none⟩)), (5, .pointer (some ⟨g3, 0, none⟩)), (7, .pointer (some ⟨g5, 0, none⟩)), (12, .int .u32 (IntKind.wrap .u32 (s.pc + (IntKind.wrap .u32 (4 * i.imm)))))] [(g5, [.int .i64 ((Q.stop i).1), .int .u32 ((Q.stop i).2)]), (g3, [.int .i64 0, .int .u32 0]), (g2, (Q.S.cells Q.z0)), (g1, (Q.S.cells (⟨s.pc, (Q.up (Q.up s.r 0 0) 0 0), s.f, s.c, s.st, s.du⟩)))] (List.Sublist.cons _ (List.Sublist.refl _)) ?_
   refine E.sr ?_
   refine E.op (.int .u32 (IntKind.wrap .u32 (s.pc + (IntKind.wrap .u32 (4 * i.imm))))) ?_
   refine E.op (.pointer (some ⟨g1, 0, none⟩)) ?_
   refine E.st 3 (Q.S.cells (⟨(IntKind.wrap .u32 (s.pc + (IntKind.wrap .u32 (4 * i.imm)))), (Q.up (Q.up s.r 0 0) 0 0), s.f, s.c, s.st, s.du⟩)) rfl rfl ?_
   refine E.tr ?_
   refine E.op (.pointer (some ⟨g1, 22, none⟩)) ?_
   refine E.li (.int .i64 s.st) 3 rfl rfl ?_
   refine E.op (.int .i64 (IntKind.wrap .i64 (s.st + 1))) ?_
   refine E.op (.pointer (some ⟨g1, 22, none⟩)) ?_
   refine E.st 3 (Q.S.cells (⟨(IntKind.wrap .u32 (s.pc + (IntKind.wrap .u32 (4 * i.imm)))), (Q.up (Q.up s.r 0 0) 0 0), s.f, s.c, (IntKind.wrap .i64 (s.st + 1)), s.du⟩)) rfl rfl ?_
   refine E.To.code ?_
   refine E.C.seq ?_
   refine E.C.held (E.Hp (oo) w (A.X w oo aa [M.It m V xs]) [(g5, [.int .i64 ((Q.stop i).1), .int .u32 ((Q.stop i).2)]), (g1, (Q.S.cells (⟨(IntKind.wrap .u32 (s.pc + (IntKind.wrap .u32 (4 * i.imm)))), (Q.up (Q.up s.r 0 0) 0 0), s.f, s.c, (IntKind.wrap .i64 (s.st + 1)), s.du⟩)))]) (by kernel_rfl) ?_
   refine E.tj 0 (Q.S.val (⟨(IntKind.wrap .u32 (s.pc + (IntKind.wrap .u32 (4 * i.imm)))), (Q.up (Q.up s.r 0 0) 0 0), s.f, s.c, (IntKind.wrap .i64 (s.st + 1)), s.du⟩)) rfl (fun w h => h.less (List.Sublist.cons_cons _ (List.Sublist.cons _ (List.Sublist.cons _ (List.Sublist.refl _))))) (fun w h => E.run_load h 1 rfl rfl (by kernel_rfl)) ?_
   refine E.tj 1 (.agg #[.int .i64 ((Q.stop i).1), .int .u32 ((Q.stop i).2)]) rfl (fun w h => h.less (List.Sublist.cons_cons _ (List.Sublist.cons _ (List.Sublist.cons _ (List.Sublist.refl _))))) (fun w h => E.run_load h 0 rfl rfl (by kernel_rfl)) ?_
   refine E.al 2 rfl ?_
   refine E.st 2 (Q.S.cells (⟨(IntKind.wrap .u32 (s.pc + (IntKind.wrap .u32 (4 * i.imm)))), (Q.up (Q.up s.r 0 0) 0 0), s.f, s.c, (IntKind.wrap .i64 (s.st + 1)), s.du⟩)) rfl rfl ?_
   refine E.H.back (fun w h => h.less (List.Sublist.cons_cons _ (List.Sublist.cons _ (List.Sublist.cons _ (List.Sublist.refl _))))) ?_
   refine E.al 3 rfl ?_
   refine E.st 1 [.int .i64 ((Q.stop i).1), .int .u32 ((Q.stop i).2)] rfl rfl ?_
   refine E.H.back (fun w h => h.less (List.Sublist.cons_cons _ (List.Sublist.cons _ (List.Sublist.cons _ (List.Sublist.refl _))))) ?_
   refine E.H.done (by kernel_rfl) ?_
   refine E.To.code ?_
   refine E.wk [(4, .pointer (some ⟨g2, 0, none⟩)), (5, .pointer (some ⟨g3, 0, none⟩))] [(g3, [.int .i64 ((Q.stop i).1), .int .u32 ((Q.stop i).2)]), (g2, (Q.S.cells (⟨(IntKind.wrap .u32 (s.pc + (IntKind.wrap .u32 (4 * i.imm)))), (Q.up (Q.up s.r 0 0) 0 0), s.f, s.c, (IntKind.wrap .i64 (s.st + 1)), s.du⟩)))] (List.Sublist.cons _ (List.Sublist.cons_cons _ (List.Sublist.cons_cons _ (List.nil_sublist _)))) ?_
   refine E.C.ret (E.To.body (fn := Try.f48) [Q.S.val (⟨(IntKind.wrap .u32 (s.pc + (IntKind.wrap .u32 (4 * i.imm)))), (Q.up (Q.up s.r 0 0) 0 0), s.f, s.c, (IntKind.wrap .i64 (s.st + 1)), s.du⟩), .agg #[.int .i64 ((Q.stop i).1), .int .u32 ((Q.stop i).2)]] ?_ ?_)
   · exact ⟨⟨by kernel_rfl, _, _, 1, _, rfl, rfl, by kernel_rfl⟩, ⟨by kernel_rfl, _, _, 0, _, rfl, rfl, by kernel_rfl⟩, trivial⟩
   intro w h
   have e : (Q.stepI i k t s V) = (⟨(IntKind.wrap .u32 (s.pc + (IntKind.wrap .u32 (4 * i.imm)))), (Q.up (Q.up s.r 0 0) 0 0), s.f, s.c, (IntKind.wrap .i64 (s.st + 1)), s.du⟩, (Q.stop i).1, (Q.stop i).2, V) := by unfold Q.stepI; rw [hc6, cond_true, hc7, cond_false, hc14, cond_false, hc15, cond_false, hc19, cond_false, hc24, cond_false, hc27, cond_false, hc29, cond_false, hc31, cond_false, hc33, cond_false, hc35, cond_false, hc39, cond_false, hc41, cond_false, hc44, cond_true] <;> rfl
   rw [e]
   exact ⟨(), trivial, rfl, A.done (q := [M.It m V xs]) (r := [A.blk g3 ([.int .i64 ((Q.stop i).1), .int .u32 ((Q.stop i).2)]), A.blk g2 (Q.S.cells (⟨(IntKind.wrap .u32 (s.pc + (IntKind.wrap .u32 (4 * i.imm)))), (Q.up (Q.up s.r 0 0) 0 0), s.f, s.c, (IntKind.wrap .i64 (s.st + 1)), s.du⟩))]) h (by kernel_rfl) (A.pn [2, 0, 1])⟩
  refine E.C.skip (E.P.nb (E.To.code ?_))
  refine E.C.seq ?_
  refine E.sr ?_
  refine E.op (.pointer (some ⟨g5, 0, none⟩)) ?_
  refine E.li (.int .i64 ((Q.stop i).1)) 1 rfl rfl ?_
  refine E.op (.bool (((Q.stop i).1) != 0)) ?_
  refine E.To.code ?_
  refine E.cd (((Q.stop i).1) != 0) (fun hc46 => absurd (hc7.symm.trans hc46) (by decide)) (fun hc46 => ?_)
  refine E.C.skip (E.To.code ?_)
  refine E.sr ?_
  refine E.op (.pointer (some ⟨g1, 1, none⟩)) ?_
  refine E.op (.pointer (some ⟨g1, 1, none⟩)) ?_
  refine E.st 4 (Q.S.cells (⟨s.pc, (Q.up (Q.up s.r 0 0) 0 0), s.f, s.c, s.st, s.du⟩)) rfl rfl ?_
  refine E.To.code ?_
  refine E.wk [(2, .pointer (some ⟨g1, 0, none⟩)), (4, .pointer (some ⟨g2, 0, none⟩)), (5, .pointer (some ⟨g3, 0, none⟩)), (7, .pointer (some ⟨g5, 0, none⟩)), (12, .int .u32 (IntKind.wrap .u32 (s.pc + 4)))] [(g5, [.int .i64 ((Q.stop i).1), .int .u32 ((Q.stop i).2)]), (g3, [.int .i64 0, .int .u32 0]), (g2, (Q.S.cells Q.z0)), (g1, (Q.S.cells (⟨s.pc, (Q.up (Q.up s.r 0 0) 0 0), s.f, s.c, s.st, s.du⟩)))] (List.Sublist.cons _ (List.Sublist.refl _)) ?_
  refine E.sr ?_
  refine E.op (.int .u32 (IntKind.wrap .u32 (s.pc + 4))) ?_
  refine E.op (.pointer (some ⟨g1, 0, none⟩)) ?_
  refine E.st 3 (Q.S.cells (⟨(IntKind.wrap .u32 (s.pc + 4)), (Q.up (Q.up s.r 0 0) 0 0), s.f, s.c, s.st, s.du⟩)) rfl rfl ?_
  refine E.tr ?_
  refine E.op (.pointer (some ⟨g1, 22, none⟩)) ?_
  refine E.li (.int .i64 s.st) 3 rfl rfl ?_
  refine E.op (.int .i64 (IntKind.wrap .i64 (s.st + 1))) ?_
  refine E.op (.pointer (some ⟨g1, 22, none⟩)) ?_
  refine E.st 3 (Q.S.cells (⟨(IntKind.wrap .u32 (s.pc + 4)), (Q.up (Q.up s.r 0 0) 0 0), s.f, s.c, (IntKind.wrap .i64 (s.st + 1)), s.du⟩)) rfl rfl ?_
  refine E.To.code ?_
  refine E.C.seq ?_
  refine E.C.held (E.Hp (oo) w (A.X w oo aa [M.It m V xs]) [(g5, [.int .i64 ((Q.stop i).1), .int .u32 ((Q.stop i).2)]), (g1, (Q.S.cells (⟨(IntKind.wrap .u32 (s.pc + 4)), (Q.up (Q.up s.r 0 0) 0 0), s.f, s.c, (IntKind.wrap .i64 (s.st + 1)), s.du⟩)))]) (by kernel_rfl) ?_
  refine E.tj 0 (Q.S.val (⟨(IntKind.wrap .u32 (s.pc + 4)), (Q.up (Q.up s.r 0 0) 0 0), s.f, s.c, (IntKind.wrap .i64 (s.st + 1)), s.du⟩)) rfl (fun w h => h.less (List.Sublist.cons_cons _ (List.Sublist.cons _ (List.Sublist.cons _ (List.Sublist.refl _))))) (fun w h => E.run_load h 1 rfl rfl (by kernel_rfl)) ?_
  refine E.tj 1 (.agg #[.int .i64 ((Q.stop i).1), .int .u32 ((Q.stop i).2)]) rfl (fun w h => h.less (List.Sublist.cons_cons _ (List.Sublist.cons _ (List.Sublist.cons _ (List.Sublist.refl _))))) (fun w h => E.run_load h 0 rfl rfl (by kernel_rfl)) ?_
  refine E.al 2 rfl ?_
  refine E.st 2 (Q.S.cells (⟨(IntKind.wrap .u32 (s.pc + 4)), (Q.up (Q.up s.r 0 0) 0 0), s.f, s.c, (IntKind.wrap .i64 (s.st + 1)), s.du⟩)) rfl rfl ?_
  refine E.H.back (fun w h => h.less (List.Sublist.cons_cons _ (List.Sublist.cons _ (List.Sublist.cons _ (List.Sublist.refl _))))) ?_
  refine E.al 3 rfl ?_
  refine E.st 1 [.int .i64 ((Q.stop i).1), .int .u32 ((Q.stop i).2)] rfl rfl ?_
  refine E.H.back (fun w h => h.less (List.Sublist.cons_cons _ (List.Sublist.cons _ (List.Sublist.cons _ (List.Sublist.refl _))))) ?_
  refine E.H.done (by kernel_rfl) ?_
  refine E.To.code ?_
  refine E.wk [(4, .pointer (some ⟨g2, 0, none⟩)), (5, .pointer (some ⟨g3, 0, none⟩))] [(g3, [.int .i64 ((Q.stop i).1), .int .u32 ((Q.stop i).2)]), (g2, (Q.S.cells (⟨(IntKind.wrap .u32 (s.pc + 4)), (Q.up (Q.up s.r 0 0) 0 0), s.f, s.c, (IntKind.wrap .i64 (s.st + 1)), s.du⟩)))] (List.Sublist.cons _ (List.Sublist.cons_cons _ (List.Sublist.cons_cons _ (List.nil_sublist _)))) ?_
  refine E.C.ret (E.To.body (fn := Try.f48) [Q.S.val (⟨(IntKind.wrap .u32 (s.pc + 4)), (Q.up (Q.up s.r 0 0) 0 0), s.f, s.c, (IntKind.wrap .i64 (s.st + 1)), s.du⟩), .agg #[.int .i64 ((Q.stop i).1), .int .u32 ((Q.stop i).2)]] ?_ ?_)
  · exact ⟨⟨by kernel_rfl, _, _, 1, _, rfl, rfl, by kernel_rfl⟩, ⟨by kernel_rfl, _, _, 0, _, rfl, rfl, by kernel_rfl⟩, trivial⟩
  intro w h
  have e : (Q.stepI i k t s V) = (⟨(IntKind.wrap .u32 (s.pc + 4)), (Q.up (Q.up s.r 0 0) 0 0), s.f, s.c, (IntKind.wrap .i64 (s.st + 1)), s.du⟩, (Q.stop i).1, (Q.stop i).2, V) := by unfold Q.stepI; rw [hc6, cond_true, hc7, cond_false, hc14, cond_false, hc15, cond_false, hc19, cond_false, hc24, cond_false, hc27, cond_false, hc29, cond_false, hc31, cond_false, hc33, cond_false, hc35, cond_false, hc39, cond_false, hc41, cond_false, hc44, cond_false] <;> rfl
  rw [e]
  exact ⟨(), trivial, rfl, A.done (q := [M.It m V xs]) (r := [A.blk g3 ([.int .i64 ((Q.stop i).1), .int .u32 ((Q.stop i).2)]), A.blk g2 (Q.S.cells (⟨(IntKind.wrap .u32 (s.pc + 4)), (Q.up (Q.up s.r 0 0) 0 0), s.f, s.c, (IntKind.wrap .i64 (s.st + 1)), s.du⟩))]) h (by kernel_rfl) (A.pn [2, 0, 1])⟩
 refine E.C.skip (E.To.code ?_)
 refine E.C.seq ?_
 refine E.sr ?_
 refine E.op (.pointer (some ⟨g5, 0, none⟩)) ?_
 refine E.li (.int .i64 k) 0 rfl rfl ?_
 refine E.vl (.bool true) (fun w h => E.run_as (a := .bool (k != 0)) (by kernel_rfl) (congrArg Value.bool (Q.ne_of hc6))) ?_
 refine E.To.code ?_
 refine E.C.condT (by kernel_rfl) (by kernel_rfl) ?_
 refine E.C.seq ?_
 refine E.C.held (E.Hp (oo) w (A.X w oo aa [M.It m V xs]) [(g5, [.int .i64 k, .int .u32 t]), (g4, [.int .i64 i.op, .int .i64 i.d, .int .i64 i.a, .int .i64 i.b, .int .u32 i.imm]), (g1, (Q.S.cells s))]) (by kernel_rfl) ?_
 refine E.tj 0 (Q.S.val s) rfl (fun w h => h.less (List.Sublist.cons_cons _ (List.Sublist.cons_cons _ (List.Sublist.cons _ (List.Sublist.cons _ (List.Sublist.refl _)))))) (fun w h => E.run_load h 2 rfl rfl (by kernel_rfl)) ?_
 refine E.tj 1 (.agg #[.int .i64 k, .int .u32 t]) rfl (fun w h => h.less (List.Sublist.cons_cons _ (List.Sublist.cons_cons _ (List.Sublist.cons _ (List.Sublist.cons _ (List.Sublist.refl _)))))) (fun w h => E.run_load h 0 rfl rfl (by kernel_rfl)) ?_
 refine E.al 2 rfl ?_
 refine E.st 3 (Q.S.cells s) rfl rfl ?_
 refine E.H.back (fun w h => h.less (List.Sublist.cons_cons _ (List.Sublist.cons_cons _ (List.Sublist.cons _ (List.Sublist.cons _ (List.Sublist.refl _)))))) ?_
 refine E.al 3 rfl ?_
 refine E.st 2 [.int .i64 k, .int .u32 t] rfl rfl ?_
 refine E.H.back (fun w h => h.less (List.Sublist.cons_cons _ (List.Sublist.cons_cons _ (List.Sublist.cons _ (List.Sublist.cons _ (List.Sublist.refl _)))))) ?_
 refine E.H.done (by kernel_rfl) ?_
 refine E.To.code ?_
 refine E.wk [(1, .iface 82 (.pointer (some ⟨m, 0, none⟩))), (2, .pointer (some ⟨g1, 0, none⟩)), (4, .pointer (some ⟨g2, 0, none⟩)), (5, .pointer (some ⟨g3, 0, none⟩)), (6, .pointer (some ⟨g4, 0, none⟩)), (7, .pointer (some ⟨g5, 0, none⟩))] [(g5, [.int .i64 k, .int .u32 t]), (g4, [.int .i64 i.op, .int .i64 i.d, .int .i64 i.a, .int .i64 i.b, .int .u32 i.imm]), (g3, [.int .i64 k, .int .u32 t]), (g2, (Q.S.cells s)), (g1, (Q.S.cells s))] (List.Sublist.refl _) ?_
 refine E.C.ret (E.P.rt (E.To.body (fn := Try.f48) [Q.S.val s, .agg #[.int .i64 k, .int .u32 t]] ?_ ?_))
 · exact ⟨⟨by kernel_rfl, _, _, 3, _, rfl, rfl, by kernel_rfl⟩, ⟨by kernel_rfl, _, _, 2, _, rfl, rfl, by kernel_rfl⟩, trivial⟩
 intro w h
 have e : (Q.stepI i k t s V) = (s, k, t, V) := by unfold Q.stepI; rw [hc6, cond_false] <;> rfl
 rw [e]
 exact ⟨(), trivial, rfl, A.done (q := [M.It m V xs]) (r := [A.blk g5 ([.int .i64 k, .int .u32 t]), A.blk g4 ([.int .i64 i.op, .int .i64 i.d, .int .i64 i.a, .int .i64 i.b, .int .u32 i.imm]), A.blk g3 ([.int .i64 k, .int .u32 t]), A.blk g2 (Q.S.cells s), A.blk g1 (Q.S.cells s)]) h (by kernel_rfl) (A.pn [5, 0, 1, 2, 3, 4])⟩
end Go.Proofs.Ytgbndbljohpnmaa

/- XQk -/
namespace Go.Proofs.Ytgbndbljohpnmaa
set_option linter.unusedVariables false
set_option linter.unusedSimpArgs false
open Go.RowKit
/-- Cells behind a header. -/
def M.Xc (m : Nat) (xs : List Value) (w : World) : Prop := ∀ i v, xs[i]? = some v → w.cell? ⟨m, 2 + i, none⟩ = some v
theorem A.Y.xc {its : List A.It} {w : World} {m k : Nat} {V : M.V} {xs : List Value} (h : A.Y its w) (hk : its[k]? = some (M.It m V xs)) : M.Xc m xs w := by
  obtain ⟨o1, a1, b, hm, hs, hV, hc, _⟩ := h.get hk
  exact hc
theorem M.Xc.ld {P : Program} {fr : E.Fr} {d : Option Nat} {T t : TypeId} {pos : String} {af : Array Edge} {gd : Option (Nat × Bool)} {w : World} {x : Operand} {m j : Nat} {xs : List Value} {v : Value} (h : M.Xc m xs w) (hx : E.ev fr x = .pointer (some ⟨m, 2 + j, none⟩)) (hv : E.ld P t xs j = some v) :
    (execOp (E.ev fr) ⟨d, .load t x, T, pos, af, gd⟩).run P w = .ok (.value v) w := by
  have := E.ld_run_at (P := P) (w := w) (t := t) h hv
  show (do let r ← Instr.loadAt t (E.ev fr x); pure (Next.value r)).run P w = _
  rw [hx]; simp [this]
theorem CState {c : Nat} {V : M.V} (s : Q.S) : A.Rd Try.prog 15 #[.pointer (some ⟨c, 0, none⟩)] [M.It c V (Q.S.cells s)] (Q.S.val s) := by
 intro w oo aa hh
 refine E.enter (n := 7) (S := fun _ => False) Try.func15 rfl rfl (by kernel_rfl) (A.startY hh) ?_
 refine E.sr ?_
 refine E.G.new (fun g => .pointer (some ⟨g, 0, none⟩)) (Q.S.cells Q.z0) 27 (fun w => by kernel_rfl) (by kernel_rfl) (fun g1 => ?_)
 refine E.tr ?_
 refine E.op (.pointer (some ⟨c, 0, none⟩)) ?_
 refine E.op (.pointer (some ⟨c, 0, none⟩)) ?_
 refine E.op (.pointer (some ⟨c, 2, none⟩)) ?_
 refine E.vl (Q.S.val s) (fun w h => A.Y.xld h.x (k := 0) (j := 0) rfl (by kernel_rfl) (by kernel_rfl)) ?_
 refine E.st 0 (Q.S.cells s) rfl rfl ?_
 refine E.To.code ?_
 refine E.C.ret (E.To.body (fn := Try.f15) [Q.S.val s] ?_ ?_)
 · exact ⟨⟨by kernel_rfl, _, _, 0, _, rfl, rfl, by kernel_rfl⟩, trivial⟩
 intro w h
 exact ⟨rfl, h.ch.bel (fun _ h => h.elim)⟩
theorem CNew (n : Int) : A.Tr Try.prog 11 #[.int .i64 n] [] (I := Nat) (fun _ => True) (fun g => .pointer (some ⟨g, 0, none⟩)) (fun g => [M.It g (M.V.new (M.np n) false) (Q.S.cells Q.z0)]) := by
 intro w oo aa hh
 refine E.enter (n := 9) (S := oo) Try.func11 rfl rfl (by kernel_rfl) (A.start (L := []) hh) ?_
 refine E.sr ?_
 refine E.op (.pointer none) ?_
 refine E.tr ?_
 refine E.op (.int .i64 n) ?_
 refine A.G.call (I := Nat) (D := fun m1 => True) (V := fun m1 => .pointer (some ⟨m1, 0, none⟩)) (q := fun m1 => [M.It m1 (M.V.new (M.np n) false) ([])]) [] (fun m1 => []) (fun m1 => [M.It m1 (M.V.new (M.np n) false) ([])]) (A_New n false) (by kernel_rfl) (A.pn []) (fun m1 => A.pm [0] (by kernel_rfl) (by kernel_rfl)) (fun w _ => by kernel_rfl) (by kernel_rfl) (fun m1 hd2 => ?_)
 refine E.op (.pointer (some ⟨m1, 0, none⟩)) ?_
 refine A.G.openM (m := m1) (V := (M.V.new (M.np n) false)) (xs := []) (fun b3 => [(m1, M.hdr b3 ++ [])]) (fun b3 => [M.Bd b3 (M.V.new (M.np n) false)]) [] (by kernel_rfl) (A.pn [0]) (fun b3 => A.pm [0, 1] (by kernel_rfl) (by kernel_rfl)) (fun b3 => ?_)
 refine E.li (.agg #[.slice b3.ao b3.sl.length b3.cap, .bool b3.coh]) 0 rfl rfl ?_
 refine E.vl (.agg #[.slice b3.ao b3.sl.length b3.cap, .bool b3.coh, .int .u32 0, .int .u32 0, .int .u32 0, .int .u32 0, .int .u32 0, .int .u32 0, .int .u32 0, .int .u32 0, .int .u32 0, .int .u32 0, .int .u32 0, .int .u32 0, .int .u32 0, .int .u32 0, .int .u32 0, .int .u32 0, .int .u32 0, .int .u32 0, .int .u32 0, .int .u32 0, .int .u32 0, .int .u32 0, .int .i64 0, .int .i64 0]) (fun w h => E.run_build #[.slice b3.ao b3.sl.length b3.cap, .bool b3.coh, .int .u32 0, .int .u32 0, .int .u32 0, .int .u32 0, .int .u32 0, .int .u32 0, .int .u32 0, .int .u32 0, .int .u32 0, .int .u32 0, .int .u32 0, .int .u32 0, .int .u32 0, .int .u32 0, .int .u32 0, .int .u32 0, .int .u32 0, .int .u32 0, .int .u32 0, .int .u32 0, .int .u32 0, .int .u32 0, .int .i64 0, .int .i64 0] (by kernel_rfl) w) ?_
 refine E.G.new (fun g => .pointer (some ⟨g, 0, none⟩)) [.slice b3.ao b3.sl.length b3.cap, .bool b3.coh, .int .u32 0, .int .u32 0, .int .u32 0, .int .u32 0, .int .u32 0, .int .u32 0, .int .u32 0, .int .u32 0, .int .u32 0, .int .u32 0, .int .u32 0, .int .u32 0, .int .u32 0, .int .u32 0, .int .u32 0, .int .u32 0, .int .u32 0, .int .u32 0, .int .u32 0, .int .u32 0, .int .u32 0, .int .u32 0, .int .i64 0, .int .i64 0] 42 (fun w => by kernel_rfl) (by kernel_rfl) (fun g4 => ?_)
 refine E.op (.pointer (some ⟨g4, 0, none⟩)) ?_
 refine E.To.code ?_
 refine E.C.ret (E.To.body (fn := Try.f11) [.pointer (some ⟨g4, 0, none⟩)] ?_ ?_)
 · exact ⟨⟨by kernel_rfl, by kernel_rfl⟩, trivial⟩
 intro w h
 have h := A.closeHp (m := g4) (b := b3) (V := (M.V.new (M.np n) false)) (xs := (Q.S.cells Q.z0)) (r := [A.blk m1 ([.slice b3.ao b3.sl.length b3.cap, .bool b3.coh])]) (L2 := [(m1, [.slice b3.ao b3.sl.length b3.cap, .bool b3.coh])]) (its2 := [M.It g4 (M.V.new (M.np n) false) (Q.S.cells Q.z0)]) (by kernel_rfl) (A.pn [0, 2, 1]) (A.pn [1, 0]) h
 exact ⟨g4, trivial, rfl, A.done (q := [M.It g4 (M.V.new (M.np n) false) (Q.S.cells Q.z0)]) (r := [A.blk m1 ([.slice b3.ao b3.sl.length b3.cap, .bool b3.coh])]) h (by kernel_rfl) (A.pn [1, 0])⟩
end Go.Proofs.Ytgbndbljohpnmaa

/- XQl -/
namespace Go.Proofs.Ytgbndbljohpnmaa
set_option linter.unusedVariables false
set_option linter.unusedSimpArgs false
open Go.RowKit
theorem Q.bifP {α : Type} {p : α → Prop} {c : Bool} {a b : α} (ha : c = true → p a) (hb : c = false → p b) : p (bif c then a else b) := by
  cases c
  · exact hb rfl
  · exact ha rfl
theorem Q.fits_bd {n : Int} {u : Bool} (h : Q.fits n u = true) : 0 ≤ n ∧ n < 16 := by
  unfold Q.fits at h
  simp only [Bool.or_eq_true, Bool.and_eq_true, beq_iff_eq, decide_eq_true_eq] at h
  omega
theorem Q.of_53 : Q.of 53 = ⟨true, true, false, false, 2, 18, 3⟩ := by
  rw [Q.of_lt (by decide)]; kernel_rfl
theorem Q.valid_ok {i : Q.I} (h : Q.valid i = true) (hm : 0 ≤ i.imm ∧ i.imm < 4294967296) : Q.iok i := by
  unfold Q.valid at h
  simp only [Bool.and_eq_true] at h
  obtain ⟨⟨⟨⟨hk, hd⟩, ha⟩, hb⟩, hi⟩ := h
  refine ⟨?_, Q.fits_bd hd, Q.fits_bd ha, Q.fits_bd hb, hm, fun h53 => ?_⟩
  · rcases Classical.em (0 ≤ i.op ∧ i.op < 64) with k | k
    · exact k
    · rw [Q.of_out k] at hk; cases hk
  · have e : i.op = 53 := by simpa using h53
    rw [e, Q.of_53] at hi
    have hi : decide (i.imm ≤ 3) = true := hi
    have := of_decide_eq_true hi
    omega
theorem Q.enc_valid {i : Q.I} (h : ((Q.encode i).2 != 0) = false) : Q.valid i = true := by
  unfold Q.encode at h
  cases hv : Q.valid i with
  | true => rfl
  | false => rw [hv] at h; cases h
theorem Q.decode_ok {x : Int} (h : ((Q.decode x).2 != 0) = false) : Q.iok (Q.decode x).1 := by
  unfold Q.decode at h ⊢
  have key : ∀ c : Q.I, (0 ≤ c.imm ∧ c.imm < 4294967296) → (((bif ((((Q.encode c).2) != 0) || (((Q.encode c).1) != x)) then ((⟨0, 0, 0, 0, 0⟩ : Q.I), (12 : Int)) else (c, 0)).2 != 0) = false) → Q.iok (bif ((((Q.encode c).2) != 0) || (((Q.encode c).1) != x)) then ((⟨0, 0, 0, 0, 0⟩ : Q.I), (12 : Int)) else (c, 0)).1 := fun c hc h => by
    cases hb : ((((Q.encode c).2) != 0) || (((Q.encode c).1) != x)) with
    | true => rw [hb] at h; cases h
    | false => exact Q.valid_ok (Q.enc_valid (Bool.or_eq_false_iff.1 hb).1) hc
  cases hk : ((((Q.of (Q.dop x)).kind) == 1)) with
  | true => rw [hk] at h; exact key _ (Q.dsg_bd x) h
  | false => rw [hk] at h; exact key _ (Q.dimm_bd x) h
theorem Q.fetch_ok {V : M.V} {p : Int} (h : ((Q.fetch V p).2.1 == 0) = true) : Q.iok (Q.fetch V p).1 := by
  unfold Q.fetch at h ⊢
  revert h
  refine Q.bifP (p := fun x : Q.I × Int × Int => (x.2.1 == 0) = true → Q.iok x.1) (fun _ h => absurd h (by decide : ¬ (((7 : Int) == 0) = true))) fun _ => ?_
  iterate 4 refine Q.bifP (p := fun x : Q.I × Int × Int => (x.2.1 == 0) = true → Q.iok x.1) (fun _ h => absurd h (by decide : ¬ (((5 : Int) == 0) = true))) fun _ => ?_
  exact Q.bifP (p := fun x : Q.I × Int × Int => (x.2.1 == 0) = true → Q.iok x.1) (fun _ h => absurd h (by decide : ¬ (((7 : Int) == 0) = true))) fun hd _ => Q.decode_ok hd
theorem Q.wf_sto {V : M.V} (h : R.Wf V) (a : Nat) (n v : Int) : R.Wf (V.sto a n v) := by
  unfold M.V.sto; split
  · exact h.put _ _ _
  · exact h
theorem Q.load_bd {V : M.V} (h : R.Wf V) (a : Nat) (n : Int) : 0 ≤ (V.load a n).1 ∧ (V.load a n).1 < 4294967296 := by
  unfold M.V.load; split
  · exact R.ldv_bd h _ _ _
  · exact ⟨Int.le_refl _, by show (0 : Int) < 4294967296; decide⟩
theorem Q.acc_wf {V : M.V} (h : R.Wf V) (i : Q.I) (x v : Int) : (0 ≤ (Q.acc i V x v).1 ∧ (Q.acc i V x v).1 < 4294967296) ∧ R.Wf (Q.acc i V x v).2.2.2 := by
  unfold Q.acc
  refine Q.bifP (p := fun y : Int × Int × Int × M.V => (0 ≤ y.1 ∧ y.1 < 4294967296) ∧ R.Wf y.2.2.2) (fun _ => ?_) (fun _ => ?_) <;>
    exact Q.bifP (p := fun y : Int × Int × Int × M.V => (0 ≤ y.1 ∧ y.1 < 4294967296) ∧ R.Wf y.2.2.2) (fun _ => ⟨⟨Int.le_refl _, by show (0 : Int) < 4294967296; decide⟩, Q.wf_sto h _ _ _⟩) (fun _ => ⟨Q.load_bd h _ _, h⟩)
theorem Q.ctl_wf {s : Q.S} (h : Q.wf s) (n : Int) {v : Int} (hv : 0 ≤ v ∧ v < 4294967296) : Q.wf (Q.ctl s n v) := by
  unfold Q.ctl
  refine Q.bifP (p := Q.wf) (fun _ => ⟨h.pc, h.r, h.c⟩) fun _ => Q.bifP (p := Q.wf) (fun _ => ⟨h.pc, h.r, h.c⟩) fun _ => Q.bifP (p := Q.wf) (fun _ => ⟨h.pc, h.r, Q.up_bd h.c hv⟩) fun _ => h
theorem Q.stepI_wf {i : Q.I} {k t : Int} {s : Q.S} {V : M.V} (hi : (k == 0) = true → Q.iok i) (hs : Q.wf s) (hV : R.Wf V) : Q.wf (Q.stepI i k t s V).1 ∧ R.Wf (Q.stepI i k t s V).2.2.2 := by
  have hz : (0 : Int) ≤ 0 ∧ (0 : Int) < 4294967296 := by decide
  have hr0 : ∀ d, 0 ≤ Q.up s.r 0 0 d ∧ Q.up s.r 0 0 d < 4294967296 := Q.up_bd hs.r hz
  unfold Q.stepI
  refine Q.bifP (p := fun x : Q.S × Int × Int × M.V => Q.wf x.1 ∧ R.Wf x.2.2.2) (fun hk => ?_) (fun _ => ⟨hs, hV⟩)
  have hI := hi hk
  have hA := Q.acc_wf hV i (IntKind.wrap .u32 (((Q.up s.r 0 0) ((i.a).toNat)) + i.imm)) ((Q.up s.r 0 0) ((i.d).toNat))
  have hop : ∀ c b, (0 ≤ b ∧ b < 4294967296) → 0 ≤ W.op c ((Q.up s.r 0 0) ((i.a).toNat)) b ∧ W.op c ((Q.up s.r 0 0) ((i.a).toNat)) b < 4294967296 := fun c b hb => W.op_bd c _ b (hr0 _).1 (hr0 _).2 hb.1
  have hb : 0 ≤ (bif (decide (i.op ≥ 16)) then i.imm else ((Q.up s.r 0 0) ((i.b).toNat))) ∧ (bif (decide (i.op ≥ 16)) then i.imm else ((Q.up s.r 0 0) ((i.b).toNat))) < 4294967296 := Q.bif_bd hI.imm (hr0 _)
  have hc : Q.wf (Q.ctl (⟨s.pc, (Q.up s.r 0 0), s.f, s.c, s.st, s.du⟩ : Q.S) i.imm ((Q.up s.r 0 0) ((i.a).toNat))) := Q.ctl_wf (s := ⟨s.pc, (Q.up s.r 0 0), s.f, s.c, s.st, s.du⟩) ⟨hs.pc, hr0, hs.c⟩ _ (hr0 _)
  repeat' (first
    | exact ⟨hs, hV⟩
    | exact ⟨hs, hA.2⟩
    | exact ⟨hs, hV.sync _⟩
    | exact ⟨⟨Q.wrap_bd _, Q.up_bd hr0 hz, hs.c⟩, hV⟩
    | exact ⟨⟨Q.wrap_bd _, Q.up_bd hr0 hz, hs.c⟩, hA.2⟩
    | exact ⟨⟨Q.wrap_bd _, Q.up_bd hr0 hz, hs.c⟩, hV.sync _⟩
    | exact ⟨⟨W.bits_bd _ _ _, Q.up_bd hr0 hz, hs.c⟩, hV⟩
    | exact ⟨⟨Q.wrap_bd _, Q.up_bd (Q.up_bd hr0 (hop _ _ hb)) hz, hs.c⟩, hV⟩
    | exact ⟨⟨Q.wrap_bd _, Q.up_bd (Q.up_bd hr0 hA.1) hz, hs.c⟩, hA.2⟩
    | exact ⟨⟨Q.wrap_bd _, Q.up_bd (Q.up_bd hr0 (Q.wrap_bd _)) hz, hs.c⟩, hV⟩
    | exact ⟨⟨W.bits_bd _ _ _, Q.up_bd (Q.up_bd hr0 (Q.wrap_bd _)) hz, hs.c⟩, hV⟩
    | exact ⟨⟨Q.wrap_bd _, Q.up_bd (Q.up_bd hr0 (hs.c _)) hz, hs.c⟩, hV⟩
    | exact ⟨⟨Q.wrap_bd _, Q.up_bd hc.r hz, hc.c⟩, hV⟩
    | refine Q.bifP (p := fun x : Q.S × Int × Int × M.V => Q.wf x.1 ∧ R.Wf x.2.2.2) (fun _ => ?_) (fun _ => ?_))
/-- One step: the state behind it, the trap, the memory. -/
def Q.step (s : Q.S) (V : M.V) : Q.S × Int × Int × M.V := Q.stepI (Q.fetch V s.pc).1 (Q.fetch V s.pc).2.1 (Q.fetch V s.pc).2.2 s V
theorem Q.step_wf {s : Q.S} {V : M.V} (hs : Q.wf s) (hV : R.Wf V) : Q.wf (Q.step s V).1 ∧ R.Wf (Q.step s V).2.2.2 := Q.stepI_wf Q.fetch_ok hs hV
/-- A run: at n instructions of most, with fuel. -/
def Q.run (most : Int) : Nat → Nat → Q.S → M.V → Q.S × Int × Int × M.V
  | 0, _, s, V => (s, 1, 0, V)
  | f + 1, n, s, V => bif (decide (s.du > 0) && decide (s.st ≥ s.du)) then (s, 8, 0, V) else bif (decide (((n : Nat) : Int) ≥ most)) then (s, 1, 0, V) else
    bif ((Q.step s V).2.1 != 0) then (s, (Q.step s V).2.1, (Q.step s V).2.2.1, (Q.step s V).2.2.2) else Q.run most f (n + 1) (Q.step s V).1 (Q.step s V).2.2.2
/-- All of a run. -/
def Q.runs (most : Int) (s : Q.S) (V : M.V) : Q.S × Int × Int × M.V := Q.run most (most.toNat + 1) 0 s V
theorem Step_any {m : Nat} {xs : List Value} (s : Q.S) (V : M.V) (hs : Q.wf s) : A.Tr Try.prog 48 #[Q.S.val s, .iface 82 (.pointer (some ⟨m, 0, none⟩))] [M.It m V xs] (I := Unit) (fun _ => True) (fun _ => .tuple #[Q.S.val ((Q.step s V).1), .agg #[.int .i64 ((Q.step s V).2.1), .int .u32 ((Q.step s V).2.2.1)]]) (fun _ => [M.It m (Q.step s V).2.2.2 xs]) := Step_i _ _ _ s V rfl Q.fetch_ok hs
end Go.Proofs.Ytgbndbljohpnmaa

/- XEm -/
namespace Go.Proofs.Ytgbndbljohpnmaa
set_option linter.unusedVariables false
set_option linter.unusedSimpArgs false
open Go.RowKit
/-- A row of marks. -/
def E.bits (n k : Nat) : Array Bool := ((List.range n).map (Nat.testBit k)).toArray
section
variable {P : Program} {n : Nat} {ops : Array Oper} {Q : Exit → Act → World → Prop} {S : Nat → Prop} {w0 : World} {X : World → Prop} {L : List (Nat × List Value)} {fr : E.Fr} {D : World → Prop} {fuel : Nat} {listed : Array Bool}
/-- Nodes of a region that draws its order. -/
theorem E.H.gen (h : ∀ (H : Nat → Array Bool → E.Fr → (World → Prop) → List (Nat × List Value) → Prop), (∀ f l fr X L, E.H P n ops Q D f l fr S w0 X L → H f l fr X L) → (∀ f l fr X L, H f l fr X L → E.H P n ops Q D f l fr S w0 X L) → H fuel listed fr X L) : E.H P n ops Q D fuel listed fr S w0 X L :=
  h (fun f l fr X L => E.H P n ops Q D f l fr S w0 X L) (fun _ _ _ _ _ h => h) (fun _ _ _ _ _ h => h)
theorem E.H.to (listed' : Array Bool) (fr' : E.Fr) (L' : List (Nat × List Value)) (he : listed = listed') (hs : E.sub fr' fr) (hl : L'.Sublist L) (k : E.H P n ops Q D fuel listed' fr' S w0 X L') : E.H P n ops Q D fuel listed fr S w0 X L :=
  he ▸ E.H.weak fr' L' hs hl k
theorem E.H.toP (listed' : Array Bool) (fr' : E.Fr) (L' : List (Nat × List Value)) (he : listed = listed') (hs : E.sub fr' fr) (hl : L.Perm L') (k : E.H P n ops Q D fuel listed' fr' S w0 X L') : E.H P n ops Q D fuel listed fr S w0 X L :=
  he ▸ fun a w h1 h2 => k a w (h1.sub hs) (h2.perm hl.symm)
end
end Go.Proofs.Ytgbndbljohpnmaa

/- XQm -/
namespace Go.Proofs.Ytgbndbljohpnmaa
set_option linter.unusedVariables false
set_option linter.unusedSimpArgs false
open Go.RowKit
section
variable {most : Int} {F n : Nat} {s : Q.S} {V : M.V}
theorem Q.run_f (h : n < F) : ∃ f, F - n = f + 1 ∧ F - (n + 1) = f := ⟨F - (n + 1), by omega, rfl⟩
theorem Q.run_t (h : n < F) (h1 : (decide (s.du > 0) && decide (s.st ≥ s.du)) = true) : Q.run most (F - n) n s V = (s, 8, 0, V) := by
  obtain ⟨f, e, _⟩ := Q.run_f h
  rw [e, Q.run, h1]; rfl
theorem Q.run_b (h : n < F) (h1 : (decide (s.du > 0) && decide (s.st ≥ s.du)) = false) (h2 : decide (((n : Nat) : Int) ≥ most) = true) : Q.run most (F - n) n s V = (s, 1, 0, V) := by
  obtain ⟨f, e, _⟩ := Q.run_f h
  rw [e, Q.run, h1, h2]; rfl
theorem Q.run_s (h : n < F) (h1 : (decide (s.du > 0) && decide (s.st ≥ s.du)) = false) (h2 : decide (((n : Nat) : Int) ≥ most) = false) (h3 : ((Q.step s V).2.1 != 0) = true) : Q.run most (F - n) n s V = (s, (Q.step s V).2.1, (Q.step s V).2.2.1, (Q.step s V).2.2.2) := by
  obtain ⟨f, e, _⟩ := Q.run_f h
  rw [e, Q.run, h1, h2, h3]; rfl
theorem Q.run_n (h : n < F) (h1 : (decide (s.du > 0) && decide (s.st ≥ s.du)) = false) (h2 : decide (((n : Nat) : Int) ≥ most) = false) (h3 : ((Q.step s V).2.1 != 0) = false) : Q.run most (F - n) n s V = Q.run most (F - (n + 1)) (n + 1) (Q.step s V).1 (Q.step s V).2.2.2 := by
  obtain ⟨f, e, e2⟩ := Q.run_f h
  rw [e2, e, Q.run, h1, h2, h3]; rfl
theorem Q.run_lt (hm : most < 9223372036854775808) (h2 : decide (((n : Nat) : Int) ≥ most) = false) : n + 1 < most.toNat + 1 ∧ IntKind.wrap .i64 (((n : Nat) : Int) + 1) = ((n + 1 : Nat) : Int) := by
  have := of_decide_eq_false h2
  rw [IntKind.wrap_i64]
  omega
end
theorem CRun {c : Nat} (most : Int) (s : Q.S) (V : M.V) (hm : -9223372036854775808 ≤ most ∧ most < 9223372036854775808) (hs : Q.wf s) (hV : R.Wf V) : A.Tr Try.prog 20 #[.pointer (some ⟨c, 0, none⟩), .int .i64 most] [M.It c V (Q.S.cells s)] (I := Unit) (fun _ => True) (fun _ => .agg #[.int .i64 (Q.runs most s V).2.1, .int .u32 (Q.runs most s V).2.2.1]) (fun _ => [M.It c (Q.runs most s V).2.2.2 (Q.S.cells (Q.runs most s V).1)]) := by
 intro w oo aa hh
 refine E.enter (n := 54) (S := oo) Try.func20 rfl rfl (by kernel_rfl) (A.start (L := []) hh) ?_
 refine E.sr ?_
 refine E.G.new (fun g => .pointer (some ⟨g, 0, none⟩)) [.int .i64 0, .int .u32 0] 51 (fun w => by kernel_rfl) (by kernel_rfl) (fun g1 => ?_)
 refine E.tr ?_
 refine E.op (.int .i64 0) ?_
 refine E.To.code ?_
 refine E.C.block ?_
 refine E.C.loop (I := Nat × Q.S × M.V) (fun i => (most.toNat + 1) - i.1) (fun i => i.1 < (most.toNat + 1) ∧ Q.wf i.2.1 ∧ R.Wf i.2.2 ∧ Q.run most ((most.toNat + 1) - i.1) i.1 i.2.1 i.2.2 = (Q.runs most s V)) (fun i => [(0, .pointer (some ⟨c, 0, none⟩)), (1, .int .i64 most), (4, .pointer (some ⟨g1, 0, none⟩)), (5, .int .i64 ((i.1 : Nat) : Int))]) (fun i => A.X w oo aa [M.It c i.2.2 (Q.S.cells i.2.1)]) (fun i => [(g1, [.int .i64 0, .int .u32 0])]) (0, s, V) (⟨Nat.succ_pos _, hs, hV, rfl⟩) ⟨by kernel_rfl, by kernel_rfl⟩ (List.Sublist.refl _) (fun _ h => h) (fun i hk1 => ?_)
 refine E.C.seq ?_
 refine E.C.block ?_
 refine E.C.seq ?_
 refine E.C.seq ?_
 refine E.C.quiet (by kernel_rfl) (by kernel_rfl) ?_
 refine E.wo (.pointer (some ⟨c, 0, none⟩)) ?_
 refine E.wo (.pointer (some ⟨c, 0, none⟩)) ?_
 refine E.wo (.pointer (some ⟨c, 2, none⟩)) ?_
 refine E.wo (.pointer (some ⟨c, 25, none⟩)) ?_
 refine E.wv (.int .i64 i.2.1.du) (fun w h => A.Y.xld (A.X.y h.x) (k := 0) (j := 23) rfl (by kernel_rfl) (by kernel_rfl)) ?_
 refine E.wo (.bool (decide (i.2.1.du > 0))) ?_
 refine E.wo (.bool (decide (i.2.1.du > 0))) ?_
 refine E.W.cut 12 [(0, .pointer (some ⟨c, 0, none⟩)), (1, .int .i64 most), (4, .pointer (some ⟨g1, 0, none⟩)), (5, .int .i64 ((i.1 : Nat) : Int)), (10, .pointer (some ⟨c, 0, none⟩)), (11, .pointer (some ⟨c, 0, none⟩)), (12, .pointer (some ⟨c, 2, none⟩)), (13, .pointer (some ⟨c, 25, none⟩)), (14, .int .i64 i.2.1.du), (15, .bool (decide (i.2.1.du > 0))), (16, .bool (decide (i.2.1.du > 0))), (28, .bool ((decide (i.2.1.du > 0)) && (decide (i.2.1.st ≥ i.2.1.du))))] ?_ ?_
 ·
  generalize hc2 : (decide (i.2.1.du > 0)) = b3
  cases b3
  ·
   refine E.W.skip (by kernel_rfl) (by kernel_rfl) ?_
   refine E.W.skip (by kernel_rfl) (by kernel_rfl) ?_
   refine E.W.skip (by kernel_rfl) (by kernel_rfl) ?_
   refine E.W.skip (by kernel_rfl) (by kernel_rfl) ?_
   refine E.W.skip (by kernel_rfl) (by kernel_rfl) ?_
   refine E.W.skip (by kernel_rfl) (by kernel_rfl) ?_
   refine E.W.skip (by kernel_rfl) (by kernel_rfl) ?_
   refine E.W.skip (by kernel_rfl) (by kernel_rfl) ?_
   refine E.W.skip (by kernel_rfl) (by kernel_rfl) ?_
   refine E.W.skip (by kernel_rfl) (by kernel_rfl) ?_
   refine E.W.skip (by kernel_rfl) (by kernel_rfl) ?_
   refine E.wo (.bool false) ?_
   exact E.W.end_cut ⟨by kernel_rfl, by kernel_rfl⟩
  refine E.wo (.pointer (some ⟨c, 0, none⟩)) ?_
  refine E.wo (.pointer (some ⟨c, 0, none⟩)) ?_
  refine E.wo (.pointer (some ⟨c, 2, none⟩)) ?_
  refine E.wo (.pointer (some ⟨c, 24, none⟩)) ?_
  refine E.wv (.int .i64 i.2.1.st) (fun w h => A.Y.xld (A.X.y h.x) (k := 0) (j := 22) rfl (by kernel_rfl) (by kernel_rfl)) ?_
  refine E.wo (.pointer (some ⟨c, 0, none⟩)) ?_
  refine E.wo (.pointer (some ⟨c, 0, none⟩)) ?_
  refine E.wo (.pointer (some ⟨c, 2, none⟩)) ?_
  refine E.wo (.pointer (some ⟨c, 25, none⟩)) ?_
  refine E.wv (.int .i64 i.2.1.du) (fun w h => A.Y.xld (A.X.y h.x) (k := 0) (j := 23) rfl (by kernel_rfl) (by kernel_rfl)) ?_
  refine E.wo (.bool (decide (i.2.1.st ≥ i.2.1.du))) ?_
  refine E.wo (.bool (decide (i.2.1.st ≥ i.2.1.du))) ?_
  exact E.W.end_cut ⟨by kernel_rfl, by kernel_rfl⟩
 refine E.W.done (E.To.code ?_)
 refine E.cd ((decide (i.2.1.du > 0)) && (decide (i.2.1.st ≥ i.2.1.du))) (fun hc4 => ?_) (fun hc4 => ?_)
 ·
  refine E.sr ?_
  refine E.vl (.agg #[.int .i64 8, .int .u32 0]) (fun w h => E.run_build #[.int .i64 8, .int .u32 0] (by kernel_rfl) w) ?_
  refine E.st 0 [.int .i64 8, .int .u32 0] rfl rfl ?_
  refine E.To.code ?_
  refine E.C.ret (E.P.rt (E.P.rb (E.P.rt (E.P.rt (E.P.rb (E.To.body (fn := Try.f20) [.agg #[.int .i64 8, .int .u32 0]] ?_ ?_))))))
  · exact ⟨⟨by kernel_rfl, _, _, 0, _, rfl, rfl, by kernel_rfl⟩, trivial⟩
  intro w h
  have e := hk1.2.2.2
  rw [Q.run_t hk1.1 hc4] at e
  rw [← e]
  exact ⟨(), trivial, rfl, A.done (q := [M.It c i.2.2 (Q.S.cells i.2.1)]) (r := [A.blk g1 ([.int .i64 8, .int .u32 0])]) h (by kernel_rfl) (A.pn [1, 0])⟩
 refine E.C.skip (E.To.code ?_)
 refine E.C.seq ?_
 refine E.sr ?_
 refine E.op (.int .i64 ((i.1 : Nat) : Int)) ?_
 refine E.op (.int .i64 most) ?_
 refine E.op (.bool (decide (((i.1 : Nat) : Int) ≥ most))) ?_
 refine E.To.code ?_
 refine E.cd (decide (((i.1 : Nat) : Int) ≥ most)) (fun hc5 => ?_) (fun hc5 => ?_)
 ·
  refine E.sr ?_
  refine E.vl (.agg #[.int .i64 1, .int .u32 0]) (fun w h => E.run_build #[.int .i64 1, .int .u32 0] (by kernel_rfl) w) ?_
  refine E.st 0 [.int .i64 1, .int .u32 0] rfl rfl ?_
  refine E.To.code ?_
  refine E.C.ret (E.P.rt (E.P.rb (E.P.rt (E.P.rt (E.P.rb (E.To.body (fn := Try.f20) [.agg #[.int .i64 1, .int .u32 0]] ?_ ?_))))))
  · exact ⟨⟨by kernel_rfl, _, _, 0, _, rfl, rfl, by kernel_rfl⟩, trivial⟩
  intro w h
  have e := hk1.2.2.2
  rw [Q.run_b hk1.1 hc4 hc5] at e
  rw [← e]
  exact ⟨(), trivial, rfl, A.done (q := [M.It c i.2.2 (Q.S.cells i.2.1)]) (r := [A.blk g1 ([.int .i64 1, .int .u32 0])]) h (by kernel_rfl) (A.pn [1, 0])⟩
 refine E.C.skip (E.To.code ?_)
 refine E.C.seq ?_
 refine E.C.held (M.Xc c (Q.S.cells i.2.1)) (by kernel_rfl) ?_
 refine E.H.gen (fun H up dn => ?_)
 have nd4 : ∀ (v1_g_6_1 : Nat) (v1_g_7_1 : Nat), H 0 (E.bits 16 65535) [(0, .pointer (some ⟨c, 0, none⟩)), (1, .int .i64 most), (4, .pointer (some ⟨g1, 0, none⟩)), (5, .int .i64 ((i.1 : Nat) : Int)), (6, .pointer (some ⟨v1_g_6_1, 0, none⟩)), (7, .pointer (some ⟨v1_g_7_1, 0, none⟩)), (10, .pointer (some ⟨c, 0, none⟩)), (11, .pointer (some ⟨c, 0, none⟩)), (12, .pointer (some ⟨c, 2, none⟩)), (13, .pointer (some ⟨c, 25, none⟩)), (14, .int .i64 i.2.1.du), (15, .bool (decide (i.2.1.du > 0))), (16, .bool (decide (i.2.1.du > 0))), (28, .bool ((decide (i.2.1.du > 0)) && (decide (i.2.1.st ≥ i.2.1.du)))), (30, .int .i64 ((i.1 : Nat) : Int)), (31, .int .i64 most), (32, .bool (decide (((i.1 : Nat) : Int) ≥ most))), (34, .tuple #[Q.S.val ((Q.step i.2.1 i.2.2).1), .agg #[.int .i64 ((Q.step i.2.1 i.2.2).2.1), .int .u32 ((Q.step i.2.1 i.2.2).2.2.1)]]), (35, .pointer (some ⟨c, 0, none⟩)), (36, .pointer (some ⟨c, 0, none⟩)), (37, .pointer (some ⟨c, 2, none⟩)), (38, Q.S.val i.2.1), (39, .pointer (some ⟨c, 0, none⟩)), (40, .pointer (some ⟨c, 0, none⟩)), (41, .pointer (some ⟨c, 0, none⟩)), (42, .iface 82 (.pointer (some ⟨c, 0, none⟩))), (43, .tuple #[Q.S.val ((Q.step i.2.1 i.2.2).1), .agg #[.int .i64 ((Q.step i.2.1 i.2.2).2.1), .int .u32 ((Q.step i.2.1 i.2.2).2.2.1)]]), (44, Q.S.val ((Q.step i.2.1 i.2.2).1)), (45, .agg #[.int .i64 ((Q.step i.2.1 i.2.2).2.1), .int .u32 ((Q.step i.2.1 i.2.2).2.2.1)])] (A.X w oo aa [M.It c ((Q.step i.2.1 i.2.2).2.2.2) (Q.S.cells i.2.1)]) [(v1_g_6_1, (Q.S.cells ((Q.step i.2.1 i.2.2).1))), (v1_g_7_1, [.int .i64 ((Q.step i.2.1 i.2.2).2.1), .int .u32 ((Q.step i.2.1 i.2.2).2.2.1)]), (g1, [.int .i64 0, .int .u32 0])] := by
  intro v1_g_6_1 v1_g_7_1
  refine up _ _ _ _ _ ?_
  refine E.H.done (by kernel_rfl) ?_
  refine E.To.code ?_
  refine E.C.seq ?_
  refine E.sr ?_
  refine E.op (.pointer (some ⟨v1_g_7_1, 0, none⟩)) ?_
  refine E.li (.int .i64 ((Q.step i.2.1 i.2.2).2.1)) 1 rfl rfl ?_
  refine E.op (.bool (((Q.step i.2.1 i.2.2).2.1) != 0)) ?_
  refine E.To.code ?_
  refine E.cd (((Q.step i.2.1 i.2.2).2.1) != 0) (fun hc6 => ?_) (fun hc6 => ?_)
  ·
   refine E.sr ?_
   refine E.li (.agg #[.int .i64 ((Q.step i.2.1 i.2.2).2.1), .int .u32 ((Q.step i.2.1 i.2.2).2.2.1)]) 1 rfl rfl ?_
   refine E.st 2 [.int .i64 ((Q.step i.2.1 i.2.2).2.1), .int .u32 ((Q.step i.2.1 i.2.2).2.2.1)] rfl rfl ?_
   refine E.To.code ?_
   refine E.C.ret (E.P.rt (E.P.rb (E.P.rt (E.P.rt (E.P.rb (E.To.body (fn := Try.f20) [.agg #[.int .i64 ((Q.step i.2.1 i.2.2).2.1), .int .u32 ((Q.step i.2.1 i.2.2).2.2.1)]] ?_ ?_))))))
   · exact ⟨⟨by kernel_rfl, _, _, 2, _, rfl, rfl, by kernel_rfl⟩, trivial⟩
   intro w h
   have e := hk1.2.2.2
   rw [Q.run_s hk1.1 hc4 hc5 hc6] at e
   rw [← e]
   exact ⟨(), trivial, rfl, A.done (q := [M.It c ((Q.step i.2.1 i.2.2).2.2.2) (Q.S.cells i.2.1)]) (r := [A.blk v1_g_6_1 (Q.S.cells ((Q.step i.2.1 i.2.2).1)), A.blk v1_g_7_1 ([.int .i64 ((Q.step i.2.1 i.2.2).2.1), .int .u32 ((Q.step i.2.1 i.2.2).2.2.1)]), A.blk g1 ([.int .i64 ((Q.step i.2.1 i.2.2).2.1), .int .u32 ((Q.step i.2.1 i.2.2).2.2.1)])]) h (by kernel_rfl) (A.pn [3, 0, 1, 2])⟩
  refine E.C.skip (E.To.code ?_)
  refine E.C.region ?_
  refine E.op (.pointer (some ⟨c, 0, none⟩)) ?_
  refine E.li (Q.S.val ((Q.step i.2.1 i.2.2).1)) 0 rfl rfl ?_
  refine E.op (.pointer (some ⟨c, 0, none⟩)) ?_
  refine E.op (.pointer (some ⟨c, 2, none⟩)) ?_
  refine A.G.openM (m := c) (V := (Q.step i.2.1 i.2.2).2.2.2) (xs := (Q.S.cells i.2.1)) (fun b7 => [(c, (M.hdr b7 ++ (Q.S.cells i.2.1))), (v1_g_6_1, (Q.S.cells ((Q.step i.2.1 i.2.2).1))), (v1_g_7_1, [.int .i64 ((Q.step i.2.1 i.2.2).2.1), .int .u32 ((Q.step i.2.1 i.2.2).2.2.1)]), (g1, [.int .i64 0, .int .u32 0])]) (fun b7 => [M.Bd b7 ((Q.step i.2.1 i.2.2).2.2.2)]) [A.blk v1_g_6_1 (Q.S.cells ((Q.step i.2.1 i.2.2).1)), A.blk v1_g_7_1 ([.int .i64 ((Q.step i.2.1 i.2.2).2.1), .int .u32 ((Q.step i.2.1 i.2.2).2.2.1)]), A.blk g1 ([.int .i64 0, .int .u32 0])] (by kernel_rfl) (A.pn [3, 0, 1, 2]) (fun b7 => A.pm [0, 2, 3, 4, 1] (by kernel_rfl) (by kernel_rfl)) (fun b7 => ?_)
  refine E.st 0 (M.hdr b7 ++ (Q.S.cells ((Q.step i.2.1 i.2.2).1))) rfl rfl ?_
  refine A.G.closeM (b := b7) (m := c) (V := (Q.step i.2.1 i.2.2).2.2.2) (xs := (Q.S.cells ((Q.step i.2.1 i.2.2).1))) [(v1_g_6_1, (Q.S.cells ((Q.step i.2.1 i.2.2).1))), (v1_g_7_1, [.int .i64 ((Q.step i.2.1 i.2.2).2.1), .int .u32 ((Q.step i.2.1 i.2.2).2.2.1)]), (g1, [.int .i64 0, .int .u32 0])] [M.It c ((Q.step i.2.1 i.2.2).2.2.2) (Q.S.cells ((Q.step i.2.1 i.2.2).1))] [A.blk v1_g_6_1 (Q.S.cells ((Q.step i.2.1 i.2.2).1)), A.blk v1_g_7_1 ([.int .i64 ((Q.step i.2.1 i.2.2).2.1), .int .u32 ((Q.step i.2.1 i.2.2).2.2.1)]), A.blk g1 ([.int .i64 0, .int .u32 0])] (by kernel_rfl) (A.pn [0, 4, 1, 2, 3]) (A.pn [1, 2, 3, 0]) ?_
  refine E.P.nb (E.To.code ?_)
  refine E.C.region ?_
  refine E.op (.int .i64 ((i.1 : Nat) : Int)) ?_
  refine E.vl (.int .i64 ((i.1 + 1 : Nat) : Int)) (fun w h => E.run_as (a := .int .i64 (IntKind.wrap .i64 (((i.1 : Nat) : Int) + 1))) (by kernel_rfl) (congrArg (Value.int .i64) (Q.run_lt hm.2 hc5).2)) ?_
  refine E.op (.int .i64 ((i.1 + 1 : Nat) : Int)) ?_
  exact E.To.round (i.1 + 1, (Q.step i.2.1 i.2.2).1, (Q.step i.2.1 i.2.2).2.2.2) (by show (most.toNat + 1) - (i.1 + 1) < (most.toNat + 1) - i.1; have := hk1.1; omega) (⟨(Q.run_lt hm.2 hc5).1, (Q.step_wf hk1.2.1 hk1.2.2.1).1, (Q.step_wf hk1.2.1 hk1.2.2.1).2, (Q.run_n hk1.1 hc4 hc5 hc6).symm.trans hk1.2.2.2⟩) ⟨by kernel_rfl, by kernel_rfl⟩ (List.Sublist.cons _ (List.Sublist.cons _ (List.Sublist.refl _))) (fun _ h => h)
 have nd3 : ∀ (v1_g_6_1 : Nat) (v1_g_7_1 : Nat), H 1 (E.bits 16 32767) [(0, .pointer (some ⟨c, 0, none⟩)), (1, .int .i64 most), (4, .pointer (some ⟨g1, 0, none⟩)), (5, .int .i64 ((i.1 : Nat) : Int)), (6, .pointer (some ⟨v1_g_6_1, 0, none⟩)), (7, .pointer (some ⟨v1_g_7_1, 0, none⟩)), (10, .pointer (some ⟨c, 0, none⟩)), (11, .pointer (some ⟨c, 0, none⟩)), (12, .pointer (some ⟨c, 2, none⟩)), (13, .pointer (some ⟨c, 25, none⟩)), (14, .int .i64 i.2.1.du), (15, .bool (decide (i.2.1.du > 0))), (16, .bool (decide (i.2.1.du > 0))), (28, .bool ((decide (i.2.1.du > 0)) && (decide (i.2.1.st ≥ i.2.1.du)))), (30, .int .i64 ((i.1 : Nat) : Int)), (31, .int .i64 most), (32, .bool (decide (((i.1 : Nat) : Int) ≥ most))), (34, .tuple #[Q.S.val ((Q.step i.2.1 i.2.2).1), .agg #[.int .i64 ((Q.step i.2.1 i.2.2).2.1), .int .u32 ((Q.step i.2.1 i.2.2).2.2.1)]]), (35, .pointer (some ⟨c, 0, none⟩)), (36, .pointer (some ⟨c, 0, none⟩)), (37, .pointer (some ⟨c, 2, none⟩)), (38, Q.S.val i.2.1), (39, .pointer (some ⟨c, 0, none⟩)), (40, .pointer (some ⟨c, 0, none⟩)), (41, .pointer (some ⟨c, 0, none⟩)), (42, .iface 82 (.pointer (some ⟨c, 0, none⟩))), (43, .tuple #[Q.S.val ((Q.step i.2.1 i.2.2).1), .agg #[.int .i64 ((Q.step i.2.1 i.2.2).2.1), .int .u32 ((Q.step i.2.1 i.2.2).2.2.1)]]), (44, Q.S.val ((Q.step i.2.1 i.2.2).1)), (45, .agg #[.int .i64 ((Q.step i.2.1 i.2.2).2.1), .int .u32 ((Q.step i.2.1 i.2.2).2.2.1)])] (A.X w oo aa [M.It c ((Q.step i.2.1 i.2.2).2.2.2) (Q.S.cells i.2.1)]) [(v1_g_6_1, (Q.S.cells ((Q.step i.2.1 i.2.2).1))), (v1_g_7_1, [.int .i64 0, .int .u32 0]), (g1, [.int .i64 0, .int .u32 0])] := by
  intro v1_g_6_1 v1_g_7_1
  refine up _ _ _ _ _ ?_
  refine E.al 15 rfl ?_
  refine E.st 1 [.int .i64 ((Q.step i.2.1 i.2.2).2.1), .int .u32 ((Q.step i.2.1 i.2.2).2.2.1)] rfl rfl ?_
  refine E.H.back (fun w h => A.Y.xc (A.X.y h.x) (k := 0) rfl) ?_
  exact E.H.to _ _ _ (by kernel_rfl) ⟨by kernel_rfl, by kernel_rfl⟩ (List.Sublist.refl _) (dn _ _ _ _ _ (nd4 v1_g_6_1 v1_g_7_1))
 have nd2 : ∀ (v1_g_6_1 : Nat) (v1_g_7_1 : Nat), H 2 (E.bits 16 16383) [(0, .pointer (some ⟨c, 0, none⟩)), (1, .int .i64 most), (4, .pointer (some ⟨g1, 0, none⟩)), (5, .int .i64 ((i.1 : Nat) : Int)), (6, .pointer (some ⟨v1_g_6_1, 0, none⟩)), (7, .pointer (some ⟨v1_g_7_1, 0, none⟩)), (10, .pointer (some ⟨c, 0, none⟩)), (11, .pointer (some ⟨c, 0, none⟩)), (12, .pointer (some ⟨c, 2, none⟩)), (13, .pointer (some ⟨c, 25, none⟩)), (14, .int .i64 i.2.1.du), (15, .bool (decide (i.2.1.du > 0))), (16, .bool (decide (i.2.1.du > 0))), (28, .bool ((decide (i.2.1.du > 0)) && (decide (i.2.1.st ≥ i.2.1.du)))), (30, .int .i64 ((i.1 : Nat) : Int)), (31, .int .i64 most), (32, .bool (decide (((i.1 : Nat) : Int) ≥ most))), (34, .tuple #[Q.S.val ((Q.step i.2.1 i.2.2).1), .agg #[.int .i64 ((Q.step i.2.1 i.2.2).2.1), .int .u32 ((Q.step i.2.1 i.2.2).2.2.1)]]), (35, .pointer (some ⟨c, 0, none⟩)), (36, .pointer (some ⟨c, 0, none⟩)), (37, .pointer (some ⟨c, 2, none⟩)), (38, Q.S.val i.2.1), (39, .pointer (some ⟨c, 0, none⟩)), (40, .pointer (some ⟨c, 0, none⟩)), (41, .pointer (some ⟨c, 0, none⟩)), (42, .iface 82 (.pointer (some ⟨c, 0, none⟩))), (43, .tuple #[Q.S.val ((Q.step i.2.1 i.2.2).1), .agg #[.int .i64 ((Q.step i.2.1 i.2.2).2.1), .int .u32 ((Q.step i.2.1 i.2.2).2.2.1)]]), (44, Q.S.val ((Q.step i.2.1 i.2.2).1)), (45, .agg #[.int .i64 ((Q.step i.2.1 i.2.2).2.1), .int .u32 ((Q.step i.2.1 i.2.2).2.2.1)])] (A.X w oo aa [M.It c ((Q.step i.2.1 i.2.2).2.2.2) (Q.S.cells i.2.1)]) [(v1_g_6_1, (Q.S.cells Q.z0)), (v1_g_7_1, [.int .i64 0, .int .u32 0]), (g1, [.int .i64 0, .int .u32 0])] := by
  intro v1_g_6_1 v1_g_7_1
  refine up _ _ _ _ _ ?_
  refine E.al 14 rfl ?_
  refine E.st 0 (Q.S.cells ((Q.step i.2.1 i.2.2).1)) rfl rfl ?_
  refine E.H.back (fun w h => A.Y.xc (A.X.y h.x) (k := 0) rfl) ?_
  exact E.H.to _ _ _ (by kernel_rfl) ⟨by kernel_rfl, by kernel_rfl⟩ (List.Sublist.refl _) (dn _ _ _ _ _ (nd3 v1_g_6_1 v1_g_7_1))
 have nd1 : ∀ (v1_g_6_1 : Nat), H 3 (E.bits 16 8191) [(0, .pointer (some ⟨c, 0, none⟩)), (1, .int .i64 most), (4, .pointer (some ⟨g1, 0, none⟩)), (5, .int .i64 ((i.1 : Nat) : Int)), (6, .pointer (some ⟨v1_g_6_1, 0, none⟩)), (10, .pointer (some ⟨c, 0, none⟩)), (11, .pointer (some ⟨c, 0, none⟩)), (12, .pointer (some ⟨c, 2, none⟩)), (13, .pointer (some ⟨c, 25, none⟩)), (14, .int .i64 i.2.1.du), (15, .bool (decide (i.2.1.du > 0))), (16, .bool (decide (i.2.1.du > 0))), (28, .bool ((decide (i.2.1.du > 0)) && (decide (i.2.1.st ≥ i.2.1.du)))), (30, .int .i64 ((i.1 : Nat) : Int)), (31, .int .i64 most), (32, .bool (decide (((i.1 : Nat) : Int) ≥ most))), (34, .tuple #[Q.S.val ((Q.step i.2.1 i.2.2).1), .agg #[.int .i64 ((Q.step i.2.1 i.2.2).2.1), .int .u32 ((Q.step i.2.1 i.2.2).2.2.1)]]), (35, .pointer (some ⟨c, 0, none⟩)), (36, .pointer (some ⟨c, 0, none⟩)), (37, .pointer (some ⟨c, 2, none⟩)), (38, Q.S.val i.2.1), (39, .pointer (some ⟨c, 0, none⟩)), (40, .pointer (some ⟨c, 0, none⟩)), (41, .pointer (some ⟨c, 0, none⟩)), (42, .iface 82 (.pointer (some ⟨c, 0, none⟩))), (43, .tuple #[Q.S.val ((Q.step i.2.1 i.2.2).1), .agg #[.int .i64 ((Q.step i.2.1 i.2.2).2.1), .int .u32 ((Q.step i.2.1 i.2.2).2.2.1)]]), (44, Q.S.val ((Q.step i.2.1 i.2.2).1)), (45, .agg #[.int .i64 ((Q.step i.2.1 i.2.2).2.1), .int .u32 ((Q.step i.2.1 i.2.2).2.2.1)])] (A.X w oo aa [M.It c ((Q.step i.2.1 i.2.2).2.2.2) (Q.S.cells i.2.1)]) [(v1_g_6_1, (Q.S.cells Q.z0)), (g1, [.int .i64 0, .int .u32 0])] := by
  intro v1_g_6_1
  refine up _ _ _ _ _ ?_
  refine E.al 13 rfl ?_
  refine E.G.new (fun g => .pointer (some ⟨g, 0, none⟩)) [.int .i64 0, .int .u32 0] 51 (fun w => by kernel_rfl) (by kernel_rfl) (fun v1_g_7_1 => ?_)
  refine E.H.back (fun w h => A.Y.xc (A.X.y h.x) (k := 0) rfl) ?_
  exact E.H.toP _ _ [(v1_g_6_1, (Q.S.cells Q.z0)), (v1_g_7_1, [.int .i64 0, .int .u32 0]), (g1, [.int .i64 0, .int .u32 0])] (by kernel_rfl) ⟨by kernel_rfl, by kernel_rfl⟩ (A.pn [1, 0, 2]) (dn _ _ _ _ _ (nd2 v1_g_6_1 v1_g_7_1))
 have nd5 : ∀ (v1_g_7_1 : Nat), H 3 (E.bits 16 12287) [(0, .pointer (some ⟨c, 0, none⟩)), (1, .int .i64 most), (4, .pointer (some ⟨g1, 0, none⟩)), (5, .int .i64 ((i.1 : Nat) : Int)), (7, .pointer (some ⟨v1_g_7_1, 0, none⟩)), (10, .pointer (some ⟨c, 0, none⟩)), (11, .pointer (some ⟨c, 0, none⟩)), (12, .pointer (some ⟨c, 2, none⟩)), (13, .pointer (some ⟨c, 25, none⟩)), (14, .int .i64 i.2.1.du), (15, .bool (decide (i.2.1.du > 0))), (16, .bool (decide (i.2.1.du > 0))), (28, .bool ((decide (i.2.1.du > 0)) && (decide (i.2.1.st ≥ i.2.1.du)))), (30, .int .i64 ((i.1 : Nat) : Int)), (31, .int .i64 most), (32, .bool (decide (((i.1 : Nat) : Int) ≥ most))), (34, .tuple #[Q.S.val ((Q.step i.2.1 i.2.2).1), .agg #[.int .i64 ((Q.step i.2.1 i.2.2).2.1), .int .u32 ((Q.step i.2.1 i.2.2).2.2.1)]]), (35, .pointer (some ⟨c, 0, none⟩)), (36, .pointer (some ⟨c, 0, none⟩)), (37, .pointer (some ⟨c, 2, none⟩)), (38, Q.S.val i.2.1), (39, .pointer (some ⟨c, 0, none⟩)), (40, .pointer (some ⟨c, 0, none⟩)), (41, .pointer (some ⟨c, 0, none⟩)), (42, .iface 82 (.pointer (some ⟨c, 0, none⟩))), (43, .tuple #[Q.S.val ((Q.step i.2.1 i.2.2).1), .agg #[.int .i64 ((Q.step i.2.1 i.2.2).2.1), .int .u32 ((Q.step i.2.1 i.2.2).2.2.1)]]), (44, Q.S.val ((Q.step i.2.1 i.2.2).1)), (45, .agg #[.int .i64 ((Q.step i.2.1 i.2.2).2.1), .int .u32 ((Q.step i.2.1 i.2.2).2.2.1)])] (A.X w oo aa [M.It c ((Q.step i.2.1 i.2.2).2.2.2) (Q.S.cells i.2.1)]) [(v1_g_7_1, [.int .i64 0, .int .u32 0]), (g1, [.int .i64 0, .int .u32 0])] := by
  intro v1_g_7_1
  refine up _ _ _ _ _ ?_
  refine E.al 12 rfl ?_
  refine E.G.new (fun g => .pointer (some ⟨g, 0, none⟩)) (Q.S.cells Q.z0) 27 (fun w => by kernel_rfl) (by kernel_rfl) (fun v1_g_6_1 => ?_)
  refine E.H.back (fun w h => A.Y.xc (A.X.y h.x) (k := 0) rfl) ?_
  exact E.H.to _ _ _ (by kernel_rfl) ⟨by kernel_rfl, by kernel_rfl⟩ (List.Sublist.refl _) (dn _ _ _ _ _ (nd2 v1_g_6_1 v1_g_7_1))
 have nd0 : H 7 (E.bits 16 511) [(0, .pointer (some ⟨c, 0, none⟩)), (1, .int .i64 most), (4, .pointer (some ⟨g1, 0, none⟩)), (5, .int .i64 ((i.1 : Nat) : Int)), (10, .pointer (some ⟨c, 0, none⟩)), (11, .pointer (some ⟨c, 0, none⟩)), (12, .pointer (some ⟨c, 2, none⟩)), (13, .pointer (some ⟨c, 25, none⟩)), (14, .int .i64 i.2.1.du), (15, .bool (decide (i.2.1.du > 0))), (16, .bool (decide (i.2.1.du > 0))), (28, .bool ((decide (i.2.1.du > 0)) && (decide (i.2.1.st ≥ i.2.1.du)))), (30, .int .i64 ((i.1 : Nat) : Int)), (31, .int .i64 most), (32, .bool (decide (((i.1 : Nat) : Int) ≥ most))), (35, .pointer (some ⟨c, 0, none⟩)), (36, .pointer (some ⟨c, 0, none⟩)), (37, .pointer (some ⟨c, 2, none⟩)), (38, Q.S.val i.2.1), (39, .pointer (some ⟨c, 0, none⟩)), (40, .pointer (some ⟨c, 0, none⟩)), (41, .pointer (some ⟨c, 0, none⟩)), (42, .iface 82 (.pointer (some ⟨c, 0, none⟩))), (43, .tuple #[Q.S.val ((Q.step i.2.1 i.2.2).1), .agg #[.int .i64 ((Q.step i.2.1 i.2.2).2.1), .int .u32 ((Q.step i.2.1 i.2.2).2.2.1)]])] (A.X w oo aa [M.It c ((Q.step i.2.1 i.2.2).2.2.2) (Q.S.cells i.2.1)]) [(g1, [.int .i64 0, .int .u32 0])] := by
  refine up _ _ _ _ _ ?_
  refine E.tk 9 (.tuple #[Q.S.val ((Q.step i.2.1 i.2.2).1), .agg #[.int .i64 ((Q.step i.2.1 i.2.2).2.1), .int .u32 ((Q.step i.2.1 i.2.2).2.2.1)]]) rfl (fun w h => A.Y.xc (A.X.y h.x) (k := 0) rfl) ?_
  refine E.tk 10 (Q.S.val ((Q.step i.2.1 i.2.2).1)) rfl (fun w h => A.Y.xc (A.X.y h.x) (k := 0) rfl) ?_
  refine E.tk 11 (.agg #[.int .i64 ((Q.step i.2.1 i.2.2).2.1), .int .u32 ((Q.step i.2.1 i.2.2).2.2.1)]) rfl (fun w h => A.Y.xc (A.X.y h.x) (k := 0) rfl) ?_
  refine E.H.all [12, 13] (by kernel_rfl) (by simp) (List.forall_mem_cons.2 ⟨⟨_, rfl, ?_⟩, List.forall_mem_cons.2 ⟨⟨_, rfl, ?_⟩, fun _ h => (List.not_mem_nil h).elim⟩⟩)
  ·
   refine E.G.new (fun g => .pointer (some ⟨g, 0, none⟩)) (Q.S.cells Q.z0) 27 (fun w => by kernel_rfl) (by kernel_rfl) (fun v1_g_6_1 => ?_)
   refine E.H.back (fun w h => A.Y.xc (A.X.y h.x) (k := 0) rfl) ?_
   exact E.H.to _ _ _ (by kernel_rfl) ⟨by kernel_rfl, by kernel_rfl⟩ (List.Sublist.refl _) (dn _ _ _ _ _ (nd1 v1_g_6_1))
  refine E.G.new (fun g => .pointer (some ⟨g, 0, none⟩)) [.int .i64 0, .int .u32 0] 51 (fun w => by kernel_rfl) (by kernel_rfl) (fun v1_g_7_1 => ?_)
  refine E.H.back (fun w h => A.Y.xc (A.X.y h.x) (k := 0) rfl) ?_
  exact E.H.to _ _ _ (by kernel_rfl) ⟨by kernel_rfl, by kernel_rfl⟩ (List.Sublist.refl _) (dn _ _ _ _ _ (nd5 v1_g_7_1))
 have nd7 : ∀ (v1_g_6_1 : Nat), H 6 (E.bits 16 4607) [(0, .pointer (some ⟨c, 0, none⟩)), (1, .int .i64 most), (4, .pointer (some ⟨g1, 0, none⟩)), (5, .int .i64 ((i.1 : Nat) : Int)), (6, .pointer (some ⟨v1_g_6_1, 0, none⟩)), (10, .pointer (some ⟨c, 0, none⟩)), (11, .pointer (some ⟨c, 0, none⟩)), (12, .pointer (some ⟨c, 2, none⟩)), (13, .pointer (some ⟨c, 25, none⟩)), (14, .int .i64 i.2.1.du), (15, .bool (decide (i.2.1.du > 0))), (16, .bool (decide (i.2.1.du > 0))), (28, .bool ((decide (i.2.1.du > 0)) && (decide (i.2.1.st ≥ i.2.1.du)))), (30, .int .i64 ((i.1 : Nat) : Int)), (31, .int .i64 most), (32, .bool (decide (((i.1 : Nat) : Int) ≥ most))), (35, .pointer (some ⟨c, 0, none⟩)), (36, .pointer (some ⟨c, 0, none⟩)), (37, .pointer (some ⟨c, 2, none⟩)), (38, Q.S.val i.2.1), (39, .pointer (some ⟨c, 0, none⟩)), (40, .pointer (some ⟨c, 0, none⟩)), (41, .pointer (some ⟨c, 0, none⟩)), (42, .iface 82 (.pointer (some ⟨c, 0, none⟩))), (43, .tuple #[Q.S.val ((Q.step i.2.1 i.2.2).1), .agg #[.int .i64 ((Q.step i.2.1 i.2.2).2.1), .int .u32 ((Q.step i.2.1 i.2.2).2.2.1)]])] (A.X w oo aa [M.It c ((Q.step i.2.1 i.2.2).2.2.2) (Q.S.cells i.2.1)]) [(v1_g_6_1, (Q.S.cells Q.z0)), (g1, [.int .i64 0, .int .u32 0])] := by
  intro v1_g_6_1
  refine up _ _ _ _ _ ?_
  refine E.tk 9 (.tuple #[Q.S.val ((Q.step i.2.1 i.2.2).1), .agg #[.int .i64 ((Q.step i.2.1 i.2.2).2.1), .int .u32 ((Q.step i.2.1 i.2.2).2.2.1)]]) rfl (fun w h => A.Y.xc (A.X.y h.x) (k := 0) rfl) ?_
  refine E.tk 10 (Q.S.val ((Q.step i.2.1 i.2.2).1)) rfl (fun w h => A.Y.xc (A.X.y h.x) (k := 0) rfl) ?_
  refine E.tk 11 (.agg #[.int .i64 ((Q.step i.2.1 i.2.2).2.1), .int .u32 ((Q.step i.2.1 i.2.2).2.2.1)]) rfl (fun w h => A.Y.xc (A.X.y h.x) (k := 0) rfl) ?_
  refine E.al 13 rfl ?_
  refine E.G.new (fun g => .pointer (some ⟨g, 0, none⟩)) [.int .i64 0, .int .u32 0] 51 (fun w => by kernel_rfl) (by kernel_rfl) (fun v1_g_7_1 => ?_)
  refine E.H.back (fun w h => A.Y.xc (A.X.y h.x) (k := 0) rfl) ?_
  exact E.H.toP _ _ [(v1_g_6_1, (Q.S.cells Q.z0)), (v1_g_7_1, [.int .i64 0, .int .u32 0]), (g1, [.int .i64 0, .int .u32 0])] (by kernel_rfl) ⟨by kernel_rfl, by kernel_rfl⟩ (A.pn [1, 0, 2]) (dn _ _ _ _ _ (nd2 v1_g_6_1 v1_g_7_1))
 have nd9 : ∀ (v1_g_6_1 : Nat) (v1_g_7_1 : Nat), H 5 (E.bits 16 12799) [(0, .pointer (some ⟨c, 0, none⟩)), (1, .int .i64 most), (4, .pointer (some ⟨g1, 0, none⟩)), (5, .int .i64 ((i.1 : Nat) : Int)), (6, .pointer (some ⟨v1_g_6_1, 0, none⟩)), (7, .pointer (some ⟨v1_g_7_1, 0, none⟩)), (10, .pointer (some ⟨c, 0, none⟩)), (11, .pointer (some ⟨c, 0, none⟩)), (12, .pointer (some ⟨c, 2, none⟩)), (13, .pointer (some ⟨c, 25, none⟩)), (14, .int .i64 i.2.1.du), (15, .bool (decide (i.2.1.du > 0))), (16, .bool (decide (i.2.1.du > 0))), (28, .bool ((decide (i.2.1.du > 0)) && (decide (i.2.1.st ≥ i.2.1.du)))), (30, .int .i64 ((i.1 : Nat) : Int)), (31, .int .i64 most), (32, .bool (decide (((i.1 : Nat) : Int) ≥ most))), (35, .pointer (some ⟨c, 0, none⟩)), (36, .pointer (some ⟨c, 0, none⟩)), (37, .pointer (some ⟨c, 2, none⟩)), (38, Q.S.val i.2.1), (39, .pointer (some ⟨c, 0, none⟩)), (40, .pointer (some ⟨c, 0, none⟩)), (41, .pointer (some ⟨c, 0, none⟩)), (42, .iface 82 (.pointer (some ⟨c, 0, none⟩))), (43, .tuple #[Q.S.val ((Q.step i.2.1 i.2.2).1), .agg #[.int .i64 ((Q.step i.2.1 i.2.2).2.1), .int .u32 ((Q.step i.2.1 i.2.2).2.2.1)]])] (A.X w oo aa [M.It c ((Q.step i.2.1 i.2.2).2.2.2) (Q.S.cells i.2.1)]) [(v1_g_6_1, (Q.S.cells Q.z0)), (v1_g_7_1, [.int .i64 0, .int .u32 0]), (g1, [.int .i64 0, .int .u32 0])] := by
  intro v1_g_6_1 v1_g_7_1
  refine up _ _ _ _ _ ?_
  refine E.tk 9 (.tuple #[Q.S.val ((Q.step i.2.1 i.2.2).1), .agg #[.int .i64 ((Q.step i.2.1 i.2.2).2.1), .int .u32 ((Q.step i.2.1 i.2.2).2.2.1)]]) rfl (fun w h => A.Y.xc (A.X.y h.x) (k := 0) rfl) ?_
  refine E.tk 10 (Q.S.val ((Q.step i.2.1 i.2.2).1)) rfl (fun w h => A.Y.xc (A.X.y h.x) (k := 0) rfl) ?_
  refine E.tk 11 (.agg #[.int .i64 ((Q.step i.2.1 i.2.2).2.1), .int .u32 ((Q.step i.2.1 i.2.2).2.2.1)]) rfl (fun w h => A.Y.xc (A.X.y h.x) (k := 0) rfl) ?_
  refine E.al 14 rfl ?_
  refine E.st 0 (Q.S.cells ((Q.step i.2.1 i.2.2).1)) rfl rfl ?_
  refine E.H.back (fun w h => A.Y.xc (A.X.y h.x) (k := 0) rfl) ?_
  exact E.H.to _ _ _ (by kernel_rfl) ⟨by kernel_rfl, by kernel_rfl⟩ (List.Sublist.refl _) (dn _ _ _ _ _ (nd3 v1_g_6_1 v1_g_7_1))
 have nd8 : ∀ (v1_g_6_1 : Nat) (v1_g_7_1 : Nat), H 6 (E.bits 16 12543) [(0, .pointer (some ⟨c, 0, none⟩)), (1, .int .i64 most), (4, .pointer (some ⟨g1, 0, none⟩)), (5, .int .i64 ((i.1 : Nat) : Int)), (6, .pointer (some ⟨v1_g_6_1, 0, none⟩)), (7, .pointer (some ⟨v1_g_7_1, 0, none⟩)), (10, .pointer (some ⟨c, 0, none⟩)), (11, .pointer (some ⟨c, 0, none⟩)), (12, .pointer (some ⟨c, 2, none⟩)), (13, .pointer (some ⟨c, 25, none⟩)), (14, .int .i64 i.2.1.du), (15, .bool (decide (i.2.1.du > 0))), (16, .bool (decide (i.2.1.du > 0))), (28, .bool ((decide (i.2.1.du > 0)) && (decide (i.2.1.st ≥ i.2.1.du)))), (30, .int .i64 ((i.1 : Nat) : Int)), (31, .int .i64 most), (32, .bool (decide (((i.1 : Nat) : Int) ≥ most))), (35, .pointer (some ⟨c, 0, none⟩)), (36, .pointer (some ⟨c, 0, none⟩)), (37, .pointer (some ⟨c, 2, none⟩)), (38, Q.S.val i.2.1), (39, .pointer (some ⟨c, 0, none⟩)), (40, .pointer (some ⟨c, 0, none⟩)), (41, .pointer (some ⟨c, 0, none⟩)), (42, .iface 82 (.pointer (some ⟨c, 0, none⟩)))] (A.X w oo aa [M.It c i.2.2 (Q.S.cells i.2.1)]) [(v1_g_6_1, (Q.S.cells Q.z0)), (v1_g_7_1, [.int .i64 0, .int .u32 0]), (g1, [.int .i64 0, .int .u32 0])] := by
  intro v1_g_6_1 v1_g_7_1
  refine up _ _ _ _ _ ?_
  refine E.al 8 rfl ?_
  refine A.G.call (I := Unit) (D := fun _ => True) (V := fun _ => .tuple #[Q.S.val ((Q.step i.2.1 i.2.2).1), .agg #[.int .i64 ((Q.step i.2.1 i.2.2).2.1), .int .u32 ((Q.step i.2.1 i.2.2).2.2.1)]]) (q := fun _ => [M.It c ((Q.step i.2.1 i.2.2).2.2.2) (Q.S.cells i.2.1)]) [A.blk v1_g_6_1 (Q.S.cells Q.z0), A.blk v1_g_7_1 ([.int .i64 0, .int .u32 0]), A.blk g1 ([.int .i64 0, .int .u32 0])] (fun _ => [(v1_g_6_1, (Q.S.cells Q.z0)), (v1_g_7_1, [.int .i64 0, .int .u32 0]), (g1, [.int .i64 0, .int .u32 0])]) (fun _ => [M.It c ((Q.step i.2.1 i.2.2).2.2.2) (Q.S.cells i.2.1)]) (Step_any (m := c) (xs := (Q.S.cells i.2.1)) i.2.1 i.2.2 hk1.2.1) (by kernel_rfl) (A.pn [3, 0, 1, 2]) (fun _ => A.pm [1, 2, 3, 0] (by kernel_rfl) (by kernel_rfl)) (fun w _ => by kernel_rfl) (by kernel_rfl) (fun _ v1_hd_43_1 => ?_)
  refine E.H.back (fun w h => A.Y.xc (A.X.y h.x) (k := 0) rfl) ?_
  exact E.H.to _ _ _ (by kernel_rfl) ⟨by kernel_rfl, by kernel_rfl⟩ (List.Sublist.refl _) (dn _ _ _ _ _ (nd9 v1_g_6_1 v1_g_7_1))
 have nd6 : ∀ (v1_g_6_1 : Nat), H 7 (E.bits 16 4351) [(0, .pointer (some ⟨c, 0, none⟩)), (1, .int .i64 most), (4, .pointer (some ⟨g1, 0, none⟩)), (5, .int .i64 ((i.1 : Nat) : Int)), (6, .pointer (some ⟨v1_g_6_1, 0, none⟩)), (10, .pointer (some ⟨c, 0, none⟩)), (11, .pointer (some ⟨c, 0, none⟩)), (12, .pointer (some ⟨c, 2, none⟩)), (13, .pointer (some ⟨c, 25, none⟩)), (14, .int .i64 i.2.1.du), (15, .bool (decide (i.2.1.du > 0))), (16, .bool (decide (i.2.1.du > 0))), (28, .bool ((decide (i.2.1.du > 0)) && (decide (i.2.1.st ≥ i.2.1.du)))), (30, .int .i64 ((i.1 : Nat) : Int)), (31, .int .i64 most), (32, .bool (decide (((i.1 : Nat) : Int) ≥ most))), (35, .pointer (some ⟨c, 0, none⟩)), (36, .pointer (some ⟨c, 0, none⟩)), (37, .pointer (some ⟨c, 2, none⟩)), (38, Q.S.val i.2.1), (39, .pointer (some ⟨c, 0, none⟩)), (40, .pointer (some ⟨c, 0, none⟩)), (41, .pointer (some ⟨c, 0, none⟩)), (42, .iface 82 (.pointer (some ⟨c, 0, none⟩)))] (A.X w oo aa [M.It c i.2.2 (Q.S.cells i.2.1)]) [(v1_g_6_1, (Q.S.cells Q.z0)), (g1, [.int .i64 0, .int .u32 0])] := by
  intro v1_g_6_1
  refine up _ _ _ _ _ ?_
  refine E.H.all [8, 13] (by kernel_rfl) (by simp) (List.forall_mem_cons.2 ⟨⟨_, rfl, ?_⟩, List.forall_mem_cons.2 ⟨⟨_, rfl, ?_⟩, fun _ h => (List.not_mem_nil h).elim⟩⟩)
  ·
   refine A.G.call (I := Unit) (D := fun _ => True) (V := fun _ => .tuple #[Q.S.val ((Q.step i.2.1 i.2.2).1), .agg #[.int .i64 ((Q.step i.2.1 i.2.2).2.1), .int .u32 ((Q.step i.2.1 i.2.2).2.2.1)]]) (q := fun _ => [M.It c ((Q.step i.2.1 i.2.2).2.2.2) (Q.S.cells i.2.1)]) [A.blk v1_g_6_1 (Q.S.cells Q.z0), A.blk g1 ([.int .i64 0, .int .u32 0])] (fun _ => [(v1_g_6_1, (Q.S.cells Q.z0)), (g1, [.int .i64 0, .int .u32 0])]) (fun _ => [M.It c ((Q.step i.2.1 i.2.2).2.2.2) (Q.S.cells i.2.1)]) (Step_any (m := c) (xs := (Q.S.cells i.2.1)) i.2.1 i.2.2 hk1.2.1) (by kernel_rfl) (A.pn [2, 0, 1]) (fun _ => A.pm [1, 2, 0] (by kernel_rfl) (by kernel_rfl)) (fun w _ => by kernel_rfl) (by kernel_rfl) (fun _ v1_hd_43_1 => ?_)
   refine E.H.back (fun w h => A.Y.xc (A.X.y h.x) (k := 0) rfl) ?_
   exact E.H.to _ _ _ (by kernel_rfl) ⟨by kernel_rfl, by kernel_rfl⟩ (List.Sublist.refl _) (dn _ _ _ _ _ (nd7 v1_g_6_1))
  refine E.G.new (fun g => .pointer (some ⟨g, 0, none⟩)) [.int .i64 0, .int .u32 0] 51 (fun w => by kernel_rfl) (by kernel_rfl) (fun v1_g_7_1 => ?_)
  refine E.H.back (fun w h => A.Y.xc (A.X.y h.x) (k := 0) rfl) ?_
  exact E.H.toP _ _ [(v1_g_6_1, (Q.S.cells Q.z0)), (v1_g_7_1, [.int .i64 0, .int .u32 0]), (g1, [.int .i64 0, .int .u32 0])] (by kernel_rfl) ⟨by kernel_rfl, by kernel_rfl⟩ (A.pn [1, 0, 2]) (dn _ _ _ _ _ (nd8 v1_g_6_1 v1_g_7_1))
 have nd11 : ∀ (v1_g_7_1 : Nat), H 6 (E.bits 16 8703) [(0, .pointer (some ⟨c, 0, none⟩)), (1, .int .i64 most), (4, .pointer (some ⟨g1, 0, none⟩)), (5, .int .i64 ((i.1 : Nat) : Int)), (7, .pointer (some ⟨v1_g_7_1, 0, none⟩)), (10, .pointer (some ⟨c, 0, none⟩)), (11, .pointer (some ⟨c, 0, none⟩)), (12, .pointer (some ⟨c, 2, none⟩)), (13, .pointer (some ⟨c, 25, none⟩)), (14, .int .i64 i.2.1.du), (15, .bool (decide (i.2.1.du > 0))), (16, .bool (decide (i.2.1.du > 0))), (28, .bool ((decide (i.2.1.du > 0)) && (decide (i.2.1.st ≥ i.2.1.du)))), (30, .int .i64 ((i.1 : Nat) : Int)), (31, .int .i64 most), (32, .bool (decide (((i.1 : Nat) : Int) ≥ most))), (35, .pointer (some ⟨c, 0, none⟩)), (36, .pointer (some ⟨c, 0, none⟩)), (37, .pointer (some ⟨c, 2, none⟩)), (38, Q.S.val i.2.1), (39, .pointer (some ⟨c, 0, none⟩)), (40, .pointer (some ⟨c, 0, none⟩)), (41, .pointer (some ⟨c, 0, none⟩)), (42, .iface 82 (.pointer (some ⟨c, 0, none⟩))), (43, .tuple #[Q.S.val ((Q.step i.2.1 i.2.2).1), .agg #[.int .i64 ((Q.step i.2.1 i.2.2).2.1), .int .u32 ((Q.step i.2.1 i.2.2).2.2.1)]])] (A.X w oo aa [M.It c ((Q.step i.2.1 i.2.2).2.2.2) (Q.S.cells i.2.1)]) [(v1_g_7_1, [.int .i64 0, .int .u32 0]), (g1, [.int .i64 0, .int .u32 0])] := by
  intro v1_g_7_1
  refine up _ _ _ _ _ ?_
  refine E.tk 9 (.tuple #[Q.S.val ((Q.step i.2.1 i.2.2).1), .agg #[.int .i64 ((Q.step i.2.1 i.2.2).2.1), .int .u32 ((Q.step i.2.1 i.2.2).2.2.1)]]) rfl (fun w h => A.Y.xc (A.X.y h.x) (k := 0) rfl) ?_
  refine E.tk 10 (Q.S.val ((Q.step i.2.1 i.2.2).1)) rfl (fun w h => A.Y.xc (A.X.y h.x) (k := 0) rfl) ?_
  refine E.tk 11 (.agg #[.int .i64 ((Q.step i.2.1 i.2.2).2.1), .int .u32 ((Q.step i.2.1 i.2.2).2.2.1)]) rfl (fun w h => A.Y.xc (A.X.y h.x) (k := 0) rfl) ?_
  refine E.al 12 rfl ?_
  refine E.G.new (fun g => .pointer (some ⟨g, 0, none⟩)) (Q.S.cells Q.z0) 27 (fun w => by kernel_rfl) (by kernel_rfl) (fun v1_g_6_1 => ?_)
  refine E.H.back (fun w h => A.Y.xc (A.X.y h.x) (k := 0) rfl) ?_
  exact E.H.to _ _ _ (by kernel_rfl) ⟨by kernel_rfl, by kernel_rfl⟩ (List.Sublist.refl _) (dn _ _ _ _ _ (nd2 v1_g_6_1 v1_g_7_1))
 have nd10 : ∀ (v1_g_7_1 : Nat), H 7 (E.bits 16 8447) [(0, .pointer (some ⟨c, 0, none⟩)), (1, .int .i64 most), (4, .pointer (some ⟨g1, 0, none⟩)), (5, .int .i64 ((i.1 : Nat) : Int)), (7, .pointer (some ⟨v1_g_7_1, 0, none⟩)), (10, .pointer (some ⟨c, 0, none⟩)), (11, .pointer (some ⟨c, 0, none⟩)), (12, .pointer (some ⟨c, 2, none⟩)), (13, .pointer (some ⟨c, 25, none⟩)), (14, .int .i64 i.2.1.du), (15, .bool (decide (i.2.1.du > 0))), (16, .bool (decide (i.2.1.du > 0))), (28, .bool ((decide (i.2.1.du > 0)) && (decide (i.2.1.st ≥ i.2.1.du)))), (30, .int .i64 ((i.1 : Nat) : Int)), (31, .int .i64 most), (32, .bool (decide (((i.1 : Nat) : Int) ≥ most))), (35, .pointer (some ⟨c, 0, none⟩)), (36, .pointer (some ⟨c, 0, none⟩)), (37, .pointer (some ⟨c, 2, none⟩)), (38, Q.S.val i.2.1), (39, .pointer (some ⟨c, 0, none⟩)), (40, .pointer (some ⟨c, 0, none⟩)), (41, .pointer (some ⟨c, 0, none⟩)), (42, .iface 82 (.pointer (some ⟨c, 0, none⟩)))] (A.X w oo aa [M.It c i.2.2 (Q.S.cells i.2.1)]) [(v1_g_7_1, [.int .i64 0, .int .u32 0]), (g1, [.int .i64 0, .int .u32 0])] := by
  intro v1_g_7_1
  refine up _ _ _ _ _ ?_
  refine E.H.all [8, 12] (by kernel_rfl) (by simp) (List.forall_mem_cons.2 ⟨⟨_, rfl, ?_⟩, List.forall_mem_cons.2 ⟨⟨_, rfl, ?_⟩, fun _ h => (List.not_mem_nil h).elim⟩⟩)
  ·
   refine A.G.call (I := Unit) (D := fun _ => True) (V := fun _ => .tuple #[Q.S.val ((Q.step i.2.1 i.2.2).1), .agg #[.int .i64 ((Q.step i.2.1 i.2.2).2.1), .int .u32 ((Q.step i.2.1 i.2.2).2.2.1)]]) (q := fun _ => [M.It c ((Q.step i.2.1 i.2.2).2.2.2) (Q.S.cells i.2.1)]) [A.blk v1_g_7_1 ([.int .i64 0, .int .u32 0]), A.blk g1 ([.int .i64 0, .int .u32 0])] (fun _ => [(v1_g_7_1, [.int .i64 0, .int .u32 0]), (g1, [.int .i64 0, .int .u32 0])]) (fun _ => [M.It c ((Q.step i.2.1 i.2.2).2.2.2) (Q.S.cells i.2.1)]) (Step_any (m := c) (xs := (Q.S.cells i.2.1)) i.2.1 i.2.2 hk1.2.1) (by kernel_rfl) (A.pn [2, 0, 1]) (fun _ => A.pm [1, 2, 0] (by kernel_rfl) (by kernel_rfl)) (fun w _ => by kernel_rfl) (by kernel_rfl) (fun _ v1_hd_43_1 => ?_)
   refine E.H.back (fun w h => A.Y.xc (A.X.y h.x) (k := 0) rfl) ?_
   exact E.H.to _ _ _ (by kernel_rfl) ⟨by kernel_rfl, by kernel_rfl⟩ (List.Sublist.refl _) (dn _ _ _ _ _ (nd11 v1_g_7_1))
  refine E.G.new (fun g => .pointer (some ⟨g, 0, none⟩)) (Q.S.cells Q.z0) 27 (fun w => by kernel_rfl) (by kernel_rfl) (fun v1_g_6_1 => ?_)
  refine E.H.back (fun w h => A.Y.xc (A.X.y h.x) (k := 0) rfl) ?_
  exact E.H.to _ _ _ (by kernel_rfl) ⟨by kernel_rfl, by kernel_rfl⟩ (List.Sublist.refl _) (dn _ _ _ _ _ (nd8 v1_g_6_1 v1_g_7_1))
 refine up _ _ _ _ _ ?_
 refine E.tk 0 (.pointer (some ⟨c, 0, none⟩)) rfl (fun w h => A.Y.xc (A.X.y h.x) (k := 0) rfl) ?_
 refine E.tk 1 (.pointer (some ⟨c, 0, none⟩)) rfl (fun w h => A.Y.xc (A.X.y h.x) (k := 0) rfl) ?_
 refine E.tk 2 (.pointer (some ⟨c, 2, none⟩)) rfl (fun w h => A.Y.xc (A.X.y h.x) (k := 0) rfl) ?_
 refine E.tj 3 (Q.S.val i.2.1) rfl (fun w h => A.Y.xc (A.X.y h.x) (k := 0) rfl) (fun w h => M.Xc.ld (j := 0) h (by kernel_rfl) (by kernel_rfl)) ?_
 refine E.tk 4 (.pointer (some ⟨c, 0, none⟩)) rfl (fun w h => A.Y.xc (A.X.y h.x) (k := 0) rfl) ?_
 refine E.tk 5 (.pointer (some ⟨c, 0, none⟩)) rfl (fun w h => A.Y.xc (A.X.y h.x) (k := 0) rfl) ?_
 refine E.tk 6 (.pointer (some ⟨c, 0, none⟩)) rfl (fun w h => A.Y.xc (A.X.y h.x) (k := 0) rfl) ?_
 refine E.tk 7 (.iface 82 (.pointer (some ⟨c, 0, none⟩))) rfl (fun w h => A.Y.xc (A.X.y h.x) (k := 0) rfl) ?_
 refine E.H.all [8, 12, 13] (by kernel_rfl) (by simp) (List.forall_mem_cons.2 ⟨⟨_, rfl, ?_⟩, List.forall_mem_cons.2 ⟨⟨_, rfl, ?_⟩, List.forall_mem_cons.2 ⟨⟨_, rfl, ?_⟩, fun _ h => (List.not_mem_nil h).elim⟩⟩⟩)
 ·
  refine A.G.call (I := Unit) (D := fun _ => True) (V := fun _ => .tuple #[Q.S.val ((Q.step i.2.1 i.2.2).1), .agg #[.int .i64 ((Q.step i.2.1 i.2.2).2.1), .int .u32 ((Q.step i.2.1 i.2.2).2.2.1)]]) (q := fun _ => [M.It c ((Q.step i.2.1 i.2.2).2.2.2) (Q.S.cells i.2.1)]) [A.blk g1 ([.int .i64 0, .int .u32 0])] (fun _ => [(g1, [.int .i64 0, .int .u32 0])]) (fun _ => [M.It c ((Q.step i.2.1 i.2.2).2.2.2) (Q.S.cells i.2.1)]) (Step_any (m := c) (xs := (Q.S.cells i.2.1)) i.2.1 i.2.2 hk1.2.1) (by kernel_rfl) (A.pn [1, 0]) (fun _ => A.pm [1, 0] (by kernel_rfl) (by kernel_rfl)) (fun w _ => by kernel_rfl) (by kernel_rfl) (fun _ v1_hd_43_1 => ?_)
  refine E.H.back (fun w h => A.Y.xc (A.X.y h.x) (k := 0) rfl) ?_
  exact E.H.to _ _ _ (by kernel_rfl) ⟨by kernel_rfl, by kernel_rfl⟩ (List.Sublist.refl _) (dn _ _ _ _ _ (nd0))
 ·
  refine E.G.new (fun g => .pointer (some ⟨g, 0, none⟩)) (Q.S.cells Q.z0) 27 (fun w => by kernel_rfl) (by kernel_rfl) (fun v1_g_6_1 => ?_)
  refine E.H.back (fun w h => A.Y.xc (A.X.y h.x) (k := 0) rfl) ?_
  exact E.H.to _ _ _ (by kernel_rfl) ⟨by kernel_rfl, by kernel_rfl⟩ (List.Sublist.refl _) (dn _ _ _ _ _ (nd6 v1_g_6_1))
 refine E.G.new (fun g => .pointer (some ⟨g, 0, none⟩)) [.int .i64 0, .int .u32 0] 51 (fun w => by kernel_rfl) (by kernel_rfl) (fun v1_g_7_1 => ?_)
 refine E.H.back (fun w h => A.Y.xc (A.X.y h.x) (k := 0) rfl) ?_
 exact E.H.to _ _ _ (by kernel_rfl) ⟨by kernel_rfl, by kernel_rfl⟩ (List.Sublist.refl _) (dn _ _ _ _ _ (nd10 v1_g_7_1))
end Go.Proofs.Ytgbndbljohpnmaa
