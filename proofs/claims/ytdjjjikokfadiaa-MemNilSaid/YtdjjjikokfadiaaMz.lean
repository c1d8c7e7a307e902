/- Walks: New of mem, printed by wip/eng. No condition but what is named. -/
import Derived.Test.YtdjjjikokfadiaaProg
import Derived.Test.YtdjjjikokfadiaaMy
namespace Go.Proofs.Ytdjjjikokfadiaa
set_option linter.unusedVariables false
set_option linter.unusedSimpArgs false
open Go.RowKit
/-- The number of pages that is made. -/
def M.np (n : Int) : Nat := (if 4096 < (if 0 > n then 0 else n) then (4096 : Int) else (if 0 > n then 0 else n)).toNat
theorem M.np_le (n : Int) : M.np n ≤ 4096 := by unfold M.np; split <;> split <;> omega
theorem M.np_eq (n : Int) : (if 4096 < (if 0 > n then 0 else n) then (4096 : Int) else (if 0 > n then 0 else n)) = ((M.np n : Nat) : Int) := by unfold M.np; split <;> split <;> omega
def M.V.new (n : Nat) (coh : Bool) : M.V := ⟨n, coh, fun _ _ => 0, fun _ _ => 0, fun _ _ => 0, fun _ _ => 0, fun _ => 0⟩
/-- The cells of page states that are not yet set. -/
def M.z7 : List Value := [.pointer none, .pointer none, .bool false, .bool false, .pointer none, .pointer none, .int .i64 0]
def M.zs : Nat → List Value
  | 0 => []
  | n + 1 => M.z7 ++ M.zs n
theorem M.zs_len : ∀ n, (M.zs n).length = n * 7
  | 0 => rfl
  | n + 1 => by
    show (M.z7 ++ M.zs n).length = _
    rw [List.length_append, M.zs_len n]; show 7 + n * 7 = _; omega
theorem M.zs_at : ∀ (n i : Nat), i < n * 7 → (M.zs n)[i]? = M.z7[i % 7]?
  | 0, i, h => by omega
  | n + 1, i, h => by
    show (M.z7 ++ M.zs n)[i]? = _
    by_cases h7 : i < 7
    · rw [List.getElem?_append_left (by exact h7), Nat.mod_eq_of_lt h7]
    · have hl : M.z7.length = 7 := rfl
      rw [List.getElem?_append_right (by rw [hl]; omega), hl, M.zs_at n (i - 7) (by omega)]
      congr 1; omega
theorem M.made_zs (n : Nat) : madeCells M.z7.toArray (n * 7) = (M.zs n).toArray := by
  have key : ∀ r, r < 7 → some (M.z7.toArray[r]!) = M.z7[r]? := fun r hr => by
    match r, hr with
    | 0, _ => rfl
    | 1, _ => rfl
    | 2, _ => rfl
    | 3, _ => rfl
    | 4, _ => rfl
    | 5, _ => rfl
    | 6, _ => rfl
  refine Array.toList_inj.1 (List.ext_getElem? fun i => ?_)
  rw [List.toList_toArray]
  by_cases h : i < n * 7
  · rw [M.zs_at n i h, ← key _ (by omega)]
    simp only [madeCells, Array.toList_map, Array.toList_range, List.getElem?_map]
    rw [List.getElem?_range h]
    rfl
  · rw [List.getElem?_eq_none (l := M.zs n) (by rw [M.zs_len]; omega), List.getElem?_eq_none (by rw [Array.length_toList, size_madeCells]; omega)]
/-- The state of a new page. -/
def M.nw (g : Nat) (coh : Bool) : M.Slot := ⟨g, if coh then none else some g, false, false, g, if coh then none else some g, 0⟩
def M.nr (g k : Nat) (coh : Bool) : List M.Slot := List.replicate k (M.nw g coh)
theorem M.cells_app : ∀ (a b : List M.Slot), M.cells (a ++ b) = M.cells a ++ M.cells b
  | [], b => rfl
  | s :: a, b => by show s.cells ++ M.cells (a ++ b) = (s.cells ++ M.cells a) ++ M.cells b; rw [M.cells_app a b, List.append_assoc]
theorem M.nw_sto {l : List M.Slot} {a b : M.Slot} {rest : List Value} {f j : Nat} {v : Value} (hf : f < 7) (he : b.cells = a.cells.set f v) (hj : j = l.length * 7 + f) : (M.cells (l ++ [a]) ++ rest).set j v = M.cells (l ++ [b]) ++ rest := by
  subst hj
  have h1 : (l ++ [a]).getD l.length M.z = a := by simp
  have h2 := M.cells_set (l ++ [a]) l.length f v b (by simp) hf (by rw [h1]; exact he)
  rw [List.set_append_left _ _ (by rw [M.cells_len]; simp; omega), h2]
  congr 2; simp
theorem M.nw_lay {l : List M.Slot} {s : M.Slot} {n j : Nat} (hn : 0 < n) (hj : j = l.length * 7) : E.lay (M.cells l ++ M.zs n) j s.cells = M.cells (l ++ [s]) ++ M.zs (n - 1) := by
  subst hj
  obtain ⟨m, rfl⟩ : ∃ m, n = m + 1 := ⟨n - 1, by omega⟩
  have hl : l.length * 7 = (M.cells l).length := by rw [M.cells_len]; omega
  rw [hl, E.lay_at _ _ _ (by rw [M.zs_len]; show 7 ≤ _; omega), M.cells_app]
  show M.cells l ++ s.cells ++ (M.z7 ++ M.zs m).drop 7 = M.cells l ++ (s.cells ++ []) ++ M.zs (m + 1 - 1)
  rw [List.append_nil]
  congr 1
theorem M.nw_next (g k : Nat) (coh : Bool) : M.nr g k coh ++ [M.nw g coh] = M.nr g (k + 1) coh := by
  unfold M.nr; rw [← List.replicate_succ']
theorem E.sto' {P : Program} {t : TypeId} {cs : List Value} {j sz : Nat} {v : Value} {us : List Value} (hi : (P.info? t).map (·.size) = some sz) (hv : v.cells.toList = us) (hl : us.length = sz) (hb : us.all E.cellB = true) (hj : j + sz ≤ cs.length) : E.sto P t cs j v = some (E.lay cs j us) := by
  unfold E.sto
  cases hie : P.info? t with
  | none => rw [hie] at hi; cases hi
  | some i =>
    rw [hie] at hi
    simp only [Option.map_some, Option.some.injEq] at hi
    subst hi
    have h1 : Nat.beq v.cells.size i.size = true := by rw [← Array.length_toList, hv, hl]; exact Nat.beq_refl _
    have h2 : Nat.ble (j + i.size) cs.length = true := Nat.ble_eq_true_of_le hj
    simp only [hv, h1, h2, hb, Bool.and_self, cond_true]
theorem M.new_ok {w0 w : World} {gm gb gp N : Nat} {coh : Bool} {L : List (Nat × List Value)} (h : E.Hp (fun _ => False) w0 (fun _ => True) L w) (hN : N ≤ 4096)
    (h1 : (gm, [.slice (some ⟨gb, 0, none⟩) N N, .bool coh]) ∈ L) (h2 : (gb, M.cells (M.nr gp N coh) ++ M.zs (N - N)) ∈ L) (h3 : (gp, List.replicate 256 (.int .u8 0)) ∈ L) (d1 : gm ≠ gb) (d2 : gp ≠ gm) (d3 : gp ≠ gb) :
    ∃ o : M.Obj, o.m = gm ∧ M.St o w ∧ M.Sh o (M.V.new N coh) ∧ ∀ x, M.all o x → w0.heap.size ≤ x := by
  have new : ∀ {g cs}, (g, cs) ∈ L → w0.heap.size ≤ g := fun hm => Nat.le_of_not_lt fun hlt => h.own _ hm hlt
  let o : M.Obj := ⟨gm, gb, N, some ⟨gb, 0, none⟩, M.nr gp N coh, coh, fun _ _ => 0⟩
  have hlen : o.sl.length = N := by show (List.replicate N _).length = N; simp
  have hat : ∀ i, i < N → o.at i = M.nw gp coh := fun i hi => by
    show (List.replicate N _).getD i M.z = _
    simp [hi]
  have hpg : ∀ p, M.Pg o.sl p → p = gp := fun p ⟨i, hi, hp⟩ => by
    rw [hlen] at hi
    have hp : p = (o.at i).d ∨ (o.at i).c = some p ∨ p = (o.at i).cd ∨ (o.at i).cc = some p := hp
    rw [hat i hi] at hp
    unfold M.nw at hp
    rcases hp with hp | hp | hp | hp
    · exact hp
    · cases coh <;> simp at hp; exact hp.symm
    · exact hp
    · cases coh <;> simp at hp; exact hp.symm
  have hw0 : ∀ x, M.all o x → w0.heap.size ≤ x := fun x hx => by
    rcases hx with rfl | ⟨_, rfl⟩ | hx
    · exact new h1
    · exact new h2
    · rw [hpg x hx]; exact new h3
  refine ⟨o, rfl, ⟨⟨?_, h.mem _ h1 1 _ rfl, fun _ => rfl, fun i v hv => ?_, fun p hp i hi => ?_, by rw [hlen]; exact hN⟩, ⟨fun _ => d1, fun p hp => by rw [hpg p hp]; exact ⟨d2, d3⟩, fun i j hi hj ho => ?_, fun i j p hi hj ho => ?_, fun i hi => ?_, fun p hp i hi => ⟨Int.le_refl _, by show (0 : Int) < 256; decide⟩, fun i hi => ?_⟩, fun x hx i => ?_⟩, ⟨hlen, rfl, fun _ _ _ _ => rfl, fun _ _ _ _ => rfl, fun _ _ _ _ => rfl, fun _ _ _ _ => rfl, fun j hj => ?_⟩, hw0⟩
  · rw [hlen]; exact h.mem _ h1 0 _ rfl
  · have hlt := (List.getElem?_eq_some_iff.1 hv).1
    exact h.mem _ h2 i v (by rw [List.getElem?_append_left hlt]; exact hv)
  · rw [hpg p hp]; exact h.mem _ h3 i _ (by rw [List.getElem?_replicate, if_pos hi])
  · rw [hlen] at hi; rw [hat i hi] at ho; cases ho
  · rw [hlen] at hi; rw [hat i hi] at ho; cases ho
  · rw [hlen] at hi; rw [hat i hi]; show (if coh then none else some gp).isNone = coh ∧ (if coh then none else some gp).isNone = coh; cases coh <;> exact ⟨rfl, rfl⟩
  · rw [hlen] at hi; rw [hat i hi]; exact ⟨Int.le_refl _, by show (0 : Int) < 8; decide⟩
  · rcases hx with rfl | ⟨_, rfl⟩ | hx
    · exact h.fz _ h1 i
    · exact h.fz _ h2 i
    · rw [hpg x hx]; exact h.fz _ h3 i
  · rw [hat j hj]; rfl
theorem M.run_mk {fr : E.Fr} {d : Option Nat} {T : TypeId} {pos : String} {af : Array Edge} {gd : Option (Nat × Bool)} {x y : Operand} {n : Int} (hx : E.ev fr x = .int .i64 ((M.np n : Nat) : Int)) (hy : E.ev fr y = .int .i64 ((M.np n : Nat) : Int)) (w : World) :
    (execOp (E.ev fr) ⟨d, .makeSlice 64 x y, T, pos, af, gd⟩).run Try.prog w = .ok (.value (.slice (some ⟨w.heap.size, 0, none⟩) (M.np n) (M.np n))) (w.alloc (.cells (M.zs (M.np n)).toArray 74)) := by
  show (do let r ← Instr.makeSlice 64 (E.ev fr x) (E.ev fr y); pure (Next.value r) : Sem Next).run Try.prog w = _
  rw [hx, hy]
  have hle := M.np_le n
  have hi : (Try.prog.info? 74).map (fun i => (i.size, i.bytes, i.zero.map (·.cells))) = some (7, 48, some M.z7.toArray) := by kernel_rfl
  cases hie : Try.prog.info? 74 with
  | none => rw [hie] at hi; cases hi
  | some i =>
    rw [hie] at hi
    simp only [Option.map_some, Option.some.injEq, Prod.mk.injEq] at hi
    obtain ⟨h1, h2, h3⟩ := hi
    cases hz : i.zero with
    | none => rw [hz] at h3; cases h3
    | some z =>
      rw [hz] at h3
      simp only [Option.map_some, Option.some.injEq] at h3
      have hu : Try.prog.underlying 64 = some (.slice 74) := Try.underlying64
      have := run_make (P := Try.prog) w 64 74 i z hu hie hz .i64 .i64 ((M.np n : Nat) : Int) ((M.np n : Nat) : Int) (by omega) (Int.le_refl _) (by rw [h2]; omega) (by omega)
      simp only [Int.toNat_natCast, h1, h3, M.made_zs] at this
      simp only [Sem.run_bind, this, Result.andThen_ok]; rfl
theorem New_any (n : Int) (coh : Bool) (w : World) : Calls Try.prog 15 #[.int .i64 n, .bool coh] w fun e w' => ∃ o, e = .returned (.pointer (some ⟨o.m, 0, none⟩)) ∧ M.St o w' ∧ M.Sh o (M.V.new (M.np n) coh) ∧ Bel w w' ∧ ∀ x, M.all o x → w.heap.size ≤ x := by
  refine E.enter (n := 54) (S := fun _ => False) Try.func15 rfl rfl (by kernel_rfl) (E.Hp.start w) ?_
  refine E.C.seq ?_
  refine E.C.region ?_
  refine E.G.op (.pointer none) (fun w => by kernel_rfl) (by kernel_rfl) ?_
  refine E.To.code ?_
  refine E.C.seq ?_
  refine E.C.region ?_
  refine E.G.op (.int .i64 n) (fun w => by kernel_rfl) (by kernel_rfl) ?_
  refine E.G.op (.int .i64 (if 0 > n then 0 else n)) (fun w => by kernel_rfl) (by kernel_rfl) ?_
  refine E.G.val (.int .i64 ((M.np n : Nat) : Int)) (by kernel_rfl) (fun w h => E.run_as (a := .int .i64 (if 4096 < (if 0 > n then 0 else n) then 4096 else (if 0 > n then 0 else n))) (by kernel_rfl) (congrArg (Value.int .i64) (M.np_eq n))) ?_
  refine E.G.new (fun g => .slice (some ⟨g, 0, none⟩) (M.np n) (M.np n)) (M.zs (M.np n)) 74 (fun w => M.run_mk (by kernel_rfl) (by kernel_rfl) w) (by kernel_rfl) (fun g1 => ?_)
  refine E.G.op (.bool coh) (fun w => by kernel_rfl) (by kernel_rfl) ?_
  refine E.G.val (.agg #[.slice (some ⟨g1, 0, none⟩) (M.np n) (M.np n), .bool coh]) (by kernel_rfl) (fun w h => E.run_build #[.slice (some ⟨g1, 0, none⟩) (M.np n) (M.np n), .bool coh] (by kernel_rfl) w) ?_
  refine E.G.new (fun g => .pointer (some ⟨g, 0, none⟩)) [.slice (some ⟨g1, 0, none⟩) (M.np n) (M.np n), .bool coh] 66 (fun w => by kernel_rfl) (by kernel_rfl) (fun g2 => ?_)
  refine E.G.op (.pointer (some ⟨g2, 0, none⟩)) (fun w => by kernel_rfl) (by kernel_rfl) ?_
  refine E.To.code ?_
  refine E.C.weak [(1, .bool coh), (4, .pointer none), (5, .pointer (some ⟨g2, 0, none⟩))] [(g2, [.slice (some ⟨g1, 0, none⟩) (M.np n) (M.np n), .bool coh]), (g1, (M.zs (M.np n)))] ⟨by kernel_rfl, by kernel_rfl⟩ (List.Sublist.refl _) ?_
  refine E.C.seq ?_
  refine E.C.region ?_
  refine E.G.op (.agg (List.replicate 256 (.int .u8 0)).toArray) (fun w => by kernel_rfl) (by kernel_rfl) ?_
  refine E.G.new (fun g => .pointer (some ⟨g, 0, none⟩)) (List.replicate 256 (.int .u8 0)) 72 (fun w => by kernel_rfl) (by kernel_rfl) (fun g3 => ?_)
  refine E.G.op (.pointer (some ⟨g3, 0, none⟩)) (fun w => by kernel_rfl) (by kernel_rfl) ?_
  refine E.To.code ?_
  refine E.C.seq ?_
  refine E.C.seq ?_
  refine E.C.region ?_
  refine E.G.op (.pointer (some ⟨g2, 0, none⟩)) (fun w => by kernel_rfl) (by kernel_rfl) ?_
  refine E.G.op (.pointer (some ⟨g2, 0, none⟩)) (fun w => by kernel_rfl) (by kernel_rfl) ?_
  refine E.G.op (.pointer (some ⟨g2, 0, none⟩)) (fun w => by kernel_rfl) (by kernel_rfl) ?_
  refine E.G.val (.slice (some ⟨g1, 0, none⟩) (M.np n) (M.np n)) (by kernel_rfl) (fun w h => E.run_load h 1 rfl rfl (by kernel_rfl)) ?_
  refine E.G.op (.int .i64 (((M.np n) : Nat) : Int)) (fun w => by kernel_rfl) (by kernel_rfl) ?_
  refine E.G.op (.int .i64 0) (fun w => by kernel_rfl) (by kernel_rfl) ?_
  refine E.To.code ?_
  refine E.C.block ?_
  refine E.C.relist [(g3, (List.replicate 256 (.int .u8 0))), (g2, [.slice (some ⟨g1, 0, none⟩) (M.np n) (M.np n), .bool coh]), (g1, (M.cells (M.nr g3 0 coh) ++ M.zs (M.np n - 0)))] rfl ?_
  refine E.C.loop (I := Nat) (fun k => M.np n - k) (fun k => k ≤ M.np n) (fun k => [(1, .bool coh), (4, .pointer none), (5, .pointer (some ⟨g2, 0, none⟩)), (6, .pointer (some ⟨g3, 0, none⟩)), (21, .int .i64 (((M.np n) : Nat) : Int)), (22, .int .i64 ((k : Nat) : Int))]) (fun k => fun _ => True) (fun k => [(g3, (List.replicate 256 (.int .u8 0))), (g2, [.slice (some ⟨g1, 0, none⟩) (M.np n) (M.np n), .bool coh]), (g1, (M.cells (M.nr g3 k coh) ++ M.zs (M.np n - k)))]) 0 (Nat.zero_le _) ⟨by kernel_rfl, by kernel_rfl⟩ (List.Sublist.refl _) (fun _ h => h) (fun k hk1 => ?_)
  refine E.C.seq ?_
  refine E.C.region ?_
  refine E.G.op (.bool (decide (((k : Nat) : Int) < (((M.np n) : Nat) : Int)))) (fun w => by kernel_rfl) (by kernel_rfl) ?_
  refine E.To.code ?_
  refine E.C.seq ?_
  refine E.C.cond (decide (((k : Nat) : Int) < (((M.np n) : Nat) : Int))) (by kernel_rfl) (by kernel_rfl) (fun hc4 => ?_) (fun hc4 => ?_)
  · skip
    refine E.C.skip (E.To.code ?_)
    refine E.C.seq ?_
    refine E.C.block ?_
    refine E.C.seq ?_
    refine E.C.region ?_
    refine E.G.op (.int .i64 ((k : Nat) : Int)) (fun w => by kernel_rfl) (by kernel_rfl) ?_
    refine E.G.op (.int .i64 ((k : Nat) : Int)) (fun w => by kernel_rfl) (by kernel_rfl) ?_
    refine E.To.code ?_
    refine E.C.seq ?_
    have hl : k < M.np n := by (first | assumption | ((try simp only [Bool.or_eq_false_iff, Bool.or_eq_true, Bool.and_eq_true, Bool.and_eq_false_iff, decide_eq_true_eq, decide_eq_false_iff_not, ge_iff_le, gt_iff_lt] at *); omega))
    refine E.C.region ?_
    refine E.G.op (.pointer (some ⟨g2, 0, none⟩)) (fun w => by kernel_rfl) (by kernel_rfl) ?_
    refine E.G.op (.pointer (some ⟨g2, 0, none⟩)) (fun w => by kernel_rfl) (by kernel_rfl) ?_
    refine E.G.op (.pointer (some ⟨g2, 0, none⟩)) (fun w => by kernel_rfl) (by kernel_rfl) ?_
    refine E.G.val (.slice (some ⟨g1, 0, none⟩) (M.np n) (M.np n)) (by kernel_rfl) (fun w h => E.run_load h 1 rfl rfl (by kernel_rfl)) ?_
    refine E.G.op (.int .i64 ((k : Nat) : Int)) (fun w => by kernel_rfl) (by kernel_rfl) ?_
    refine E.G.op (.pointer (some ⟨g3, 0, none⟩)) (fun w => by kernel_rfl) (by kernel_rfl) ?_
    refine E.G.op (.pointer (some ⟨g3, 0, none⟩)) (fun w => by kernel_rfl) (by kernel_rfl) ?_
    refine E.G.val (.agg #[.pointer (some ⟨g3, 0, none⟩), .pointer none, .bool false, .bool false, .pointer (some ⟨g3, 0, none⟩), .pointer none, .int .i64 0]) (by kernel_rfl) (fun w h => E.run_build #[.pointer (some ⟨g3, 0, none⟩), .pointer none, .bool false, .bool false, .pointer (some ⟨g3, 0, none⟩), .pointer none, .int .i64 0] (by kernel_rfl) w) ?_
    refine E.G.val (.pointer (some ⟨g1, k * 7, none⟩)) (by kernel_rfl) (fun w h => M.idxO (e := 74) (i := k) (k := .i64) (ao := some ⟨g1, 0, none⟩) (b := g1) (len := M.np n) (cap := M.np n) (esz := 7) (by kernel_rfl) (by kernel_rfl) (by kernel_rfl) (by kernel_rfl) hl (fun _ => rfl) w) ?_
    refine E.G.store 2 _ rfl rfl (E.sto' (us := M.Slot.cells ⟨g3, none, false, false, g3, none, 0⟩) (by kernel_rfl) rfl rfl rfl (by rw [List.length_append, M.cells_len, M.zs_len]; show k * 7 + 7 ≤ 7 * (List.replicate k _).length + (M.np n - k) * 7; rw [List.length_replicate]; omega)) (by kernel_rfl) ?_
    refine E.G.relist [(g3, (List.replicate 256 (.int .u8 0))), (g2, [.slice (some ⟨g1, 0, none⟩) (M.np n) (M.np n), .bool coh]), (g1, (M.cells (M.nr g3 k coh ++ [⟨g3, none, false, false, g3, none, 0⟩]) ++ M.zs (M.np n - k - 1)))] (by rw [M.nw_lay (by omega) (by show k * 7 = (List.replicate k _).length * 7; rw [List.length_replicate])]; rfl) ?_
    refine E.To.code ?_
    refine E.C.seq ?_
    refine E.C.region ?_
    refine E.G.op (.bool coh) (fun w => by kernel_rfl) (by kernel_rfl) ?_
    refine E.G.op (.bool (!coh)) (fun w => by kernel_rfl) (by kernel_rfl) ?_
    refine E.To.code ?_
    refine E.C.cond (!coh) (by kernel_rfl) (by kernel_rfl) (fun hc5 => ?_) (fun hc5 => ?_)
    · skip
      refine E.C.held (E.Hp (fun _ => False) w (fun _ => True) [(g3, (List.replicate 256 (.int .u8 0))), (g2, [.slice (some ⟨g1, 0, none⟩) (M.np n) (M.np n), .bool coh])]) (by kernel_rfl) ?_
      refine E.H.take 0 (.pointer (some ⟨g2, 0, none⟩)) rfl (by kernel_rfl) (by kernel_rfl) (by kernel_rfl) (fun _ _ _ h => h) (fun w h => h.less (List.Sublist.cons_cons _ (List.Sublist.cons_cons _ (List.nil_sublist _)))) (.inl ⟨by kernel_rfl, by kernel_rfl, fun w h => by kernel_rfl⟩) (by kernel_rfl) ?_
      refine E.H.take 1 (.pointer (some ⟨g2, 0, none⟩)) rfl (by kernel_rfl) (by kernel_rfl) (by kernel_rfl) (fun _ _ _ h => h) (fun w h => h.less (List.Sublist.cons_cons _ (List.Sublist.cons_cons _ (List.nil_sublist _)))) (.inl ⟨by kernel_rfl, by kernel_rfl, fun w h => by kernel_rfl⟩) (by kernel_rfl) ?_
      refine E.H.take 2 (.pointer (some ⟨g2, 0, none⟩)) rfl (by kernel_rfl) (by kernel_rfl) (by kernel_rfl) (fun _ _ _ h => h) (fun w h => h.less (List.Sublist.cons_cons _ (List.Sublist.cons_cons _ (List.nil_sublist _)))) (.inl ⟨by kernel_rfl, by kernel_rfl, fun w h => by kernel_rfl⟩) (by kernel_rfl) ?_
      refine E.H.take 3 (.slice (some ⟨g1, 0, none⟩) (M.np n) (M.np n)) rfl (by kernel_rfl) (by kernel_rfl) (by kernel_rfl) (fun _ _ _ h => h) (fun w h => h.less (List.Sublist.cons_cons _ (List.Sublist.cons_cons _ (List.nil_sublist _)))) (.inl ⟨by kernel_rfl, by kernel_rfl, fun w h => E.run_load h 1 rfl rfl (by kernel_rfl)⟩) (by kernel_rfl) ?_
      refine E.H.take 4 (.int .i64 ((k : Nat) : Int)) rfl (by kernel_rfl) (by kernel_rfl) (by kernel_rfl) (fun _ _ _ h => h) (fun w h => h.less (List.Sublist.cons_cons _ (List.Sublist.cons_cons _ (List.nil_sublist _)))) (.inl ⟨by kernel_rfl, by kernel_rfl, fun w h => by kernel_rfl⟩) (by kernel_rfl) ?_
      refine E.H.take 5 (.pointer (some ⟨g2, 0, none⟩)) rfl (by kernel_rfl) (by kernel_rfl) (by kernel_rfl) (fun _ _ _ h => h) (fun w h => h.less (List.Sublist.cons_cons _ (List.Sublist.cons_cons _ (List.nil_sublist _)))) (.inl ⟨by kernel_rfl, by kernel_rfl, fun w h => by kernel_rfl⟩) (by kernel_rfl) ?_
      refine E.H.take 6 (.pointer (some ⟨g2, 0, none⟩)) rfl (by kernel_rfl) (by kernel_rfl) (by kernel_rfl) (fun _ _ _ h => h) (fun w h => h.less (List.Sublist.cons_cons _ (List.Sublist.cons_cons _ (List.nil_sublist _)))) (.inl ⟨by kernel_rfl, by kernel_rfl, fun w h => by kernel_rfl⟩) (by kernel_rfl) ?_
      refine E.H.take 7 (.pointer (some ⟨g2, 0, none⟩)) rfl (by kernel_rfl) (by kernel_rfl) (by kernel_rfl) (fun _ _ _ h => h) (fun w h => h.less (List.Sublist.cons_cons _ (List.Sublist.cons_cons _ (List.nil_sublist _)))) (.inl ⟨by kernel_rfl, by kernel_rfl, fun w h => by kernel_rfl⟩) (by kernel_rfl) ?_
      refine E.H.take 8 (.slice (some ⟨g1, 0, none⟩) (M.np n) (M.np n)) rfl (by kernel_rfl) (by kernel_rfl) (by kernel_rfl) (fun _ _ _ h => h) (fun w h => h.less (List.Sublist.cons_cons _ (List.Sublist.cons_cons _ (List.nil_sublist _)))) (.inl ⟨by kernel_rfl, by kernel_rfl, fun w h => E.run_load h 1 rfl rfl (by kernel_rfl)⟩) (by kernel_rfl) ?_
      refine E.H.take 9 (.int .i64 ((k : Nat) : Int)) rfl (by kernel_rfl) (by kernel_rfl) (by kernel_rfl) (fun _ _ _ h => h) (fun w h => h.less (List.Sublist.cons_cons _ (List.Sublist.cons_cons _ (List.nil_sublist _)))) (.inl ⟨by kernel_rfl, by kernel_rfl, fun w h => by kernel_rfl⟩) (by kernel_rfl) ?_
      refine E.H.take 10 (.pointer (some ⟨g3, 0, none⟩)) rfl (by kernel_rfl) (by kernel_rfl) (by kernel_rfl) (fun _ _ _ h => h) (fun w h => h.less (List.Sublist.cons_cons _ (List.Sublist.cons_cons _ (List.nil_sublist _)))) (.inl ⟨by kernel_rfl, by kernel_rfl, fun w h => by kernel_rfl⟩) (by kernel_rfl) ?_
      refine E.H.take 11 (.pointer (some ⟨g3, 0, none⟩)) rfl (by kernel_rfl) (by kernel_rfl) (by kernel_rfl) (fun _ _ _ h => h) (fun w h => h.less (List.Sublist.cons_cons _ (List.Sublist.cons_cons _ (List.nil_sublist _)))) (.inl ⟨by kernel_rfl, by kernel_rfl, fun w h => by kernel_rfl⟩) (by kernel_rfl) ?_
      refine E.H.take 12 (.pointer (some ⟨g1, k * 7, none⟩)) rfl (by kernel_rfl) (by kernel_rfl) (by kernel_rfl) (fun _ _ _ h => h) (fun w h => h.less (List.Sublist.cons_cons _ (List.Sublist.cons_cons _ (List.nil_sublist _)))) (.inl ⟨by kernel_rfl, by kernel_rfl, fun w h => M.idxO (e := 74) (i := k) (k := .i64) (ao := some ⟨g1, 0, none⟩) (b := g1) (len := M.np n) (cap := M.np n) (esz := 7) (by kernel_rfl) (by kernel_rfl) (by kernel_rfl) (by kernel_rfl) hl (fun _ => rfl) w⟩) (by kernel_rfl) ?_
      refine E.H.take 13 (.pointer (some ⟨g1, (k * 7) + 1, none⟩)) rfl (by kernel_rfl) (by kernel_rfl) (by kernel_rfl) (fun _ _ _ h => h) (fun w h => h.less (List.Sublist.cons_cons _ (List.Sublist.cons_cons _ (List.nil_sublist _)))) (.inl ⟨by kernel_rfl, by kernel_rfl, fun w h => by kernel_rfl⟩) (by kernel_rfl) ?_
      refine E.H.all [14] (by kernel_rfl) (by simp) (List.forall_mem_cons.2 ⟨⟨_, rfl, ?_⟩, fun _ h => (List.not_mem_nil h).elim⟩)
      · skip
        refine E.G.store 2 _ rfl rfl (E.sto' (us := [.pointer (some ⟨g3, 0, none⟩)]) (by kernel_rfl) rfl rfl rfl (by rw [List.length_append, M.cells_len, M.zs_len]; show k * 7 + 1 + 1 ≤ 7 * (List.replicate k _ ++ [_]).length + _; rw [List.length_append, List.length_replicate]; simp only [List.length_cons, List.length_nil]; omega)) (by kernel_rfl) ?_
        refine E.G.relist [(g3, (List.replicate 256 (.int .u8 0))), (g2, [.slice (some ⟨g1, 0, none⟩) (M.np n) (M.np n), .bool coh]), (g1, (M.cells (M.nr g3 k coh ++ [⟨g3, some g3, false, false, g3, none, 0⟩]) ++ M.zs (M.np n - k - 1)))] (by rw [show ∀ cs j v, E.lay cs j [v] = cs.set j v from fun _ _ _ => rfl, M.nw_sto (l := M.nr g3 k coh) (a := ⟨g3, none, false, false, g3, none, 0⟩) (b := ⟨g3, some g3, false, false, g3, none, 0⟩) (v := .pointer (some ⟨g3, 0, none⟩)) (f := 1) (by decide) rfl (by show k * 7 + 1 = (List.replicate k _).length * 7 + 1; rw [List.length_replicate])]; rfl) ?_
        refine E.H.back (fun w h => h.less (List.Sublist.cons_cons _ (List.Sublist.cons_cons _ (List.nil_sublist _)))) ?_
        refine E.H.take 15 (.pointer (some ⟨g1, k * 7, none⟩)) rfl (by kernel_rfl) (by kernel_rfl) (by kernel_rfl) (fun _ _ _ h => h) (fun w h => h.less (List.Sublist.cons_cons _ (List.Sublist.cons_cons _ (List.nil_sublist _)))) (.inl ⟨by kernel_rfl, by kernel_rfl, fun w h => M.idxO (e := 74) (i := k) (k := .i64) (ao := some ⟨g1, 0, none⟩) (b := g1) (len := M.np n) (cap := M.np n) (esz := 7) (by kernel_rfl) (by kernel_rfl) (by kernel_rfl) (by kernel_rfl) hl (fun _ => rfl) w⟩) (by kernel_rfl) ?_
        refine E.H.take 16 (.pointer (some ⟨g1, (k * 7) + 5, none⟩)) rfl (by kernel_rfl) (by kernel_rfl) (by kernel_rfl) (fun _ _ _ h => h) (fun w h => h.less (List.Sublist.cons_cons _ (List.Sublist.cons_cons _ (List.nil_sublist _)))) (.inl ⟨by kernel_rfl, by kernel_rfl, fun w h => by kernel_rfl⟩) (by kernel_rfl) ?_
        refine E.H.all [17] (by kernel_rfl) (by simp) (List.forall_mem_cons.2 ⟨⟨_, rfl, ?_⟩, fun _ h => (List.not_mem_nil h).elim⟩)
        · skip
          refine E.G.store 2 _ rfl rfl (E.sto' (us := [.pointer (some ⟨g3, 0, none⟩)]) (by kernel_rfl) rfl rfl rfl (by rw [List.length_append, M.cells_len, M.zs_len]; show k * 7 + 5 + 1 ≤ 7 * (List.replicate k _ ++ [_]).length + _; rw [List.length_append, List.length_replicate]; simp only [List.length_cons, List.length_nil]; omega)) (by kernel_rfl) ?_
          refine E.G.relist [(g3, (List.replicate 256 (.int .u8 0))), (g2, [.slice (some ⟨g1, 0, none⟩) (M.np n) (M.np n), .bool coh]), (g1, (M.cells (M.nr g3 k coh ++ [⟨g3, some g3, false, false, g3, some g3, 0⟩]) ++ M.zs (M.np n - k - 1)))] (by rw [show ∀ cs j v, E.lay cs j [v] = cs.set j v from fun _ _ _ => rfl, M.nw_sto (l := M.nr g3 k coh) (a := ⟨g3, some g3, false, false, g3, none, 0⟩) (b := ⟨g3, some g3, false, false, g3, some g3, 0⟩) (v := .pointer (some ⟨g3, 0, none⟩)) (f := 5) (by decide) rfl (by show k * 7 + 5 = (List.replicate k _).length * 7 + 5; rw [List.length_replicate])]; rfl) ?_
          refine E.H.back (fun w h => h.less (List.Sublist.cons_cons _ (List.Sublist.cons_cons _ (List.nil_sublist _)))) ?_
          refine E.H.done (by kernel_rfl) ?_
          refine E.P.nb (E.To.code ?_)
          refine E.C.relist [(g3, (List.replicate 256 (.int .u8 0))), (g2, [.slice (some ⟨g1, 0, none⟩) (M.np n) (M.np n), .bool coh]), (g1, (M.cells (M.nr g3 (k + 1) coh) ++ M.zs (M.np n - (k + 1))))] (by rw [← M.nw_next, Nat.sub_sub]; rw [show coh = false from by simpa using hc5]; rfl) ?_
          refine E.C.region ?_
          refine E.G.val (.int .i64 ((k + 1 : Nat) : Int)) (by kernel_rfl) (fun w h => E.run_as (a := .int .i64 (IntKind.wrap .i64 (((k : Nat) : Int) + 1))) (by kernel_rfl) (congrArg (Value.int .i64) (M.inc64 (by have := M.np_le n; (first | assumption | ((try simp only [Bool.or_eq_false_iff, Bool.or_eq_true, Bool.and_eq_true, Bool.and_eq_false_iff, decide_eq_true_eq, decide_eq_false_iff_not, ge_iff_le, gt_iff_lt] at *); omega)))))) ?_
          refine E.G.op (.int .i64 ((k + 1 : Nat) : Int)) (fun w => by kernel_rfl) (by kernel_rfl) ?_
          exact E.To.round (k + 1) (by show M.np n - (k + 1) < M.np n - k; (first | assumption | ((try simp only [Bool.or_eq_false_iff, Bool.or_eq_true, Bool.and_eq_true, Bool.and_eq_false_iff, decide_eq_true_eq, decide_eq_false_iff_not, ge_iff_le, gt_iff_lt] at *); omega))) (by show k + 1 ≤ M.np n; (first | assumption | ((try simp only [Bool.or_eq_false_iff, Bool.or_eq_true, Bool.and_eq_true, Bool.and_eq_false_iff, decide_eq_true_eq, decide_eq_false_iff_not, ge_iff_le, gt_iff_lt] at *); omega))) ⟨by kernel_rfl, by kernel_rfl⟩ (List.Sublist.refl _) (fun _ h => h)
    · skip
      refine E.C.skip (E.P.nb (E.To.code ?_))
      refine E.C.relist [(g3, (List.replicate 256 (.int .u8 0))), (g2, [.slice (some ⟨g1, 0, none⟩) (M.np n) (M.np n), .bool coh]), (g1, (M.cells (M.nr g3 (k + 1) coh) ++ M.zs (M.np n - (k + 1))))] (by rw [← M.nw_next, Nat.sub_sub]; rw [show coh = true from by simpa using hc5]; rfl) ?_
      refine E.C.region ?_
      refine E.G.val (.int .i64 ((k + 1 : Nat) : Int)) (by kernel_rfl) (fun w h => E.run_as (a := .int .i64 (IntKind.wrap .i64 (((k : Nat) : Int) + 1))) (by kernel_rfl) (congrArg (Value.int .i64) (M.inc64 (by have := M.np_le n; (first | assumption | ((try simp only [Bool.or_eq_false_iff, Bool.or_eq_true, Bool.and_eq_true, Bool.and_eq_false_iff, decide_eq_true_eq, decide_eq_false_iff_not, ge_iff_le, gt_iff_lt] at *); omega)))))) ?_
      refine E.G.op (.int .i64 ((k + 1 : Nat) : Int)) (fun w => by kernel_rfl) (by kernel_rfl) ?_
      exact E.To.round (k + 1) (by show M.np n - (k + 1) < M.np n - k; (first | assumption | ((try simp only [Bool.or_eq_false_iff, Bool.or_eq_true, Bool.and_eq_true, Bool.and_eq_false_iff, decide_eq_true_eq, decide_eq_false_iff_not, ge_iff_le, gt_iff_lt] at *); omega))) (by show k + 1 ≤ M.np n; (first | assumption | ((try simp only [Bool.or_eq_false_iff, Bool.or_eq_true, Bool.and_eq_true, Bool.and_eq_false_iff, decide_eq_true_eq, decide_eq_false_iff_not, ge_iff_le, gt_iff_lt] at *); omega))) ⟨by kernel_rfl, by kernel_rfl⟩ (List.Sublist.refl _) (fun _ h => h)
  · skip
    refine E.C.exit (E.P.et (E.P.et (E.P.eh (E.To.code ?_))))
    refine E.C.seq ?_
    refine E.C.region ?_
    refine E.G.op (.pointer (some ⟨g2, 0, none⟩)) (fun w => by kernel_rfl) (by kernel_rfl) ?_
    refine E.G.op (.pointer (some ⟨g2, 0, none⟩)) (fun w => by kernel_rfl) (by kernel_rfl) ?_
    refine E.To.code ?_
    refine E.C.ret (E.To.body (fn := Try.f15) [.pointer (some ⟨g2, 0, none⟩)] ?_ ?_)
    · exact ⟨⟨by kernel_rfl, by kernel_rfl⟩, trivial⟩
    · intro w h
      have e : k = M.np n := by (first | assumption | ((try simp only [Bool.or_eq_false_iff, Bool.or_eq_true, Bool.and_eq_true, Bool.and_eq_false_iff, decide_eq_true_eq, decide_eq_false_iff_not, ge_iff_le, gt_iff_lt] at *); omega))
      subst e
      have hn := h.nodup
      simp only [List.map_cons, List.map_nil, List.nodup_cons, List.mem_cons, List.not_mem_nil, or_false, not_or] at hn
      obtain ⟨o, hm, ho⟩ := M.new_ok (gm := g2) (gb := g1) (gp := g3) (coh := coh) h (M.np_le n) (List.mem_cons_of_mem _ (List.mem_cons_self ..)) (List.mem_cons_of_mem _ (List.mem_cons_of_mem _ (List.mem_cons_self ..))) (List.mem_cons_self ..) (by omega) (by omega) (by omega)
      exact ⟨o, by rw [hm]; rfl, ho.1, ho.2.1, h.ch.bel (fun _ h => h.elim), ho.2.2⟩
end Go.Proofs.Ytdjjjikokfadiaa
